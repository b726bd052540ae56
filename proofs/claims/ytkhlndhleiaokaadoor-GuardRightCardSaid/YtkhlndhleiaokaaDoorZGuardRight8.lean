/- Texts that GuardRight leans on, laid together by a program (wip/d/merge.py): Hm, Hn, MHox61, Hg, Plain, PuNet, MHox79, MHox84, MHox70, PuNum, PuGuardRight. -/
import Derived.Test.YtkhlndhleiaokaaDoorZGuardRight5
import Derived.Test.YtkhlndhleiaokaaDoorZGuardRight7
import Derived.Test.YtkhlndhleiaokaaDoorZGuardRight1
import Derived.Test.YtkhlndhleiaokaaDoorZGuardRight4
import Derived.RowKit
import Derived.Test.YtkhlndhleiaokaaDoorZGuardRight3
set_option linter.unusedVariables false
set_option linter.unusedSimpArgs false
namespace Go.Proofs.YtkhlndhleiaokaaDoor.MHo
open Go.RowKit Go.Proofs.YtkhlndhleiaokaaDoorW.PrintWords Go.Proofs.YtkhlndhleiaokaaDoorW.PrintLast Go.Proofs.YtkhlndhleiaokaaDoorW.PrintMore
theorem and_low (n : Int) : Go.bits .and .i64 n 65535 = n % 65536 := by
  unfold Go.bits
  have e : ((BitVec.ofInt 64 n &&& BitVec.ofInt 64 65535).toNat : Int) = n % 65536 := by
    rw [BitVec.toNat_and, BitVec.toNat_ofInt, show (BitVec.ofInt 64 65535).toNat = 2 ^ 16 - 1 by decide, Nat.and_two_pow_sub_one_eq_mod]
    omega
  show IntKind.i64.wrap ((BitVec.ofInt 64 n &&& BitVec.ofInt 64 65535).toNat : Int) = n % 65536
  rw [e, IntKind.wrap_i64]
  omega
theorem and_mask {x : Int} (i : Nat) (hi : i ≤ 16) (h0 : 0 ≤ x) (h1 : x < 65536) : Go.bits .and .i64 x (2 ^ i - 1) = x % 2 ^ i :=
  bits_mask .i64 16 (by decide) (fun n a b => by rw [IntKind.wrap_i64]; omega) i hi x h0 (by omega)
/-- A link by ports behind those that are, and the parts grown. -/
def cnt (L : List S37) (p : Int) : Int := 2 * ((L.filter (fun l => l.f0 == p || l.f1 == p)).length : Int)
def grow (P : List S60) (a x : Int) : List S60 := P.set a.toNat ⟨if (rd_T60 P a).f0 < x + 6 then x + 6 else (rd_T60 P a).f0, (rd_T60 P a).f1⟩
def linked (s : List S60 × List S37) (a b : Int) : List S60 × List S37 :=
  (grow (grow s.1 a (cnt s.2 a)) b (cnt s.2 b), s.2 ++ [⟨a, b, ⟨cnt s.2 a, cnt s.2 a + 1⟩, ⟨cnt s.2 b, cnt s.2 b + 1⟩⟩])
def net (parts shape : Nat) : Nat → List S60 × List S37
  | 0 => (List.replicate parts ⟨5, 1⟩, [])
  | i + 1 => linked (net parts shape i) (if shape = 2 then 0 else (i : Int)) ((i : Int) + 1)
def madeNet (parts shape : Nat) : List S60 × List S37 := if shape = 1 ∧ 2 < parts then linked (net parts shape (parts - 1)) 0 ((parts : Int) - 1) else net parts shape (parts - 1)
theorem cnt_b (L : List S37) (p : Int) : 0 ≤ cnt L p ∧ cnt L p ≤ 2 * (L.length : Int) := by
  unfold cnt
  have := List.length_filter_le (fun l : S37 => l.f0 == p || l.f1 == p) L
  omega
theorem grow_len (P : List S60) (a x : Int) : (grow P a x).length = P.length := by unfold grow; simp
theorem net_len (parts shape : Nat) : ∀ i, (net parts shape i).1.length = parts ∧ (net parts shape i).2.length = i
  | 0 => by simp [net]
  | i + 1 => by
    have := net_len parts shape i
    simp only [net, linked, grow_len, List.length_append, List.length_singleton]
    omega
set_option maxHeartbeats 8000000 in
set_option maxRecDepth 10000 in
theorem made_walk (n m cyc dr lo ag li : Int) (q s : Nat) (w : World) (hm : m = n % 65536) (hq : (q : Int) = 1 + m % 4) (hs : (s : Int) = m / 4 % 4)
    (hcyc : cyc = 20000 + 1000 * (m / 16 % 8)) (hdr : dr = 20 * (m / 128 % 8)) (hlo : lo = m / 1024 % 2) (hag : ag = m / 2048 % 4) (hli : li = m / 8192 % 2)
    (e : Int) (he : drumlineref5_Edge.f 100 (madeNet q s).1 (madeNet q s).2 cyc 60 100 0 dr 300000 (((q : Int) - 1) * (lo + 1) + 1 + ag) lo ((q : Int) * (lo + 1) + 2 + li) ((q : Int) * (lo + 1) + 2) 12 = some e) (he0 : 0 ≤ e) (he1 : e ≤ 1000000)
    (hports : ∀ (P : List S60) (L : List S37) (a : Int) (a2 a3 a4 a5 a6 a7 a8 a9 a10 a11 a12 : Int), L.length ≤ 10 → drumlineref26_ports.f 100 P L a2 a3 a4 a5 a6 a7 a8 a9 a10 a11 a12 a = some (cnt L a)) :
    Calls Tryd.prog 20 #[.int .i64 n] w fun e' w' => ∃ v0 v1, e' = .returned (.agg #[v0, v1, .int .i64 cyc, .int .i64 60, .int .i64 100, .int .i64 (3 * e), .int .i64 dr, .int .i64 300000, .int .i64 (((q : Int) - 1) * (lo + 1) + 1 + ag), .int .i64 lo, .int .i64 ((q : Int) * (lo + 1) + 2 + li), .int .i64 ((q : Int) * (lo + 1) + 2), .int .i64 12]) ∧
      Kd.R k60 60 w' w.heap.size (fun _ => True) v0 (madeNet q s).1 ∧ Kd.R k37 37 w' w.heap.size (fun _ => True) v1 (madeNet q s).2 ∧ Below w.heap.size w w' := by
  have HM := Aside0.mk (show 0 ≤ m ∧ m < 65536 by omega)
  have HQ := Aside0.mk (show 1 ≤ q ∧ q ≤ 4 by omega)
  have HSh := Aside0.mk (show s ≤ 3 by omega)
  have HLO := Aside0.mk (show 0 ≤ lo ∧ lo ≤ 1 by omega)
  have HAG := Aside0.mk (show 0 ≤ ag ∧ ag ≤ 3 by omega)
  have HLI := Aside0.mk (show 0 ≤ li ∧ li ≤ 1 by omega)
  have b0 : Go.bits .and .i64 n 65535 = m := by rw [and_low, hm]
  have b1 : Go.bits .and .i64 m 3 = (q : Int) - 1 := by have := and_mask (x := m) 2 (by decide) HM.out.1 HM.out.2; have e : ((2 : Int) ^ 2 - 1) = 3 := by decide
                                                        rw [e] at this; rw [this]; omega
  have b2 : Go.bits .and .i64 (m / 4) 3 = (s : Int) := by have := and_mask (x := m / 4) 2 (by decide) (by omega) (by omega); have e : ((2 : Int) ^ 2 - 1) = 3 := by decide
                                                          rw [e] at this; rw [this]; omega
  have b4 : Go.bits .and .i64 (m / 16) 7 = m / 16 % 8 := by have := and_mask (x := m / 16) 3 (by decide) (by omega) (by omega); have e : ((2 : Int) ^ 3 - 1) = 7 := by decide
                                                            rw [e] at this; rw [this]; omega
  have b7 : Go.bits .and .i64 (m / 128) 7 = m / 128 % 8 := by have := and_mask (x := m / 128) 3 (by decide) (by omega) (by omega); have e : ((2 : Int) ^ 3 - 1) = 7 := by decide
                                                              rw [e] at this; rw [this]; omega
  have b10 : Go.bits .and .i64 (m / 1024) 1 = lo := by have := and_mask (x := m / 1024) 1 (by decide) (by omega) (by omega); have e : ((2 : Int) ^ 1 - 1) = 1 := by decide
                                                       rw [e] at this; rw [this]; omega
  have b11 : Go.bits .and .i64 (m / 2048) 3 = ag := by have := and_mask (x := m / 2048) 2 (by decide) (by omega) (by omega); have e : ((2 : Int) ^ 2 - 1) = 3 := by decide
                                                       rw [e] at this; rw [this]; omega
  have b13 : Go.bits .and .i64 (m / 8192) 1 = li := by have := and_mask (x := m / 8192) 1 (by decide) (by omega) (by omega); have e : ((2 : Int) ^ 1 - 1) = 1 := by decide
                                                       rw [e] at this; rw [this]; omega
  have w1 : wrap64 (1 + ((q : Int) - 1)) = q := by unfold wrap64; omega
  have w2 : wrap64 (1000 * (m / 16 % 8)) = 1000 * (m / 16 % 8) := by unfold wrap64; omega
  have w3 : wrap64 (20000 + 1000 * (m / 16 % 8)) = cyc := by rw [hcyc]; unfold wrap64; omega
  have w3' : 20000 + 1000 * (m / 16 % 8) = cyc := hcyc.symm
  have w4 : wrap64 (20 * (m / 128 % 8)) = dr := by rw [hdr]; unfold wrap64; omega
  have w4' : 20 * (m / 128 % 8) = dr := hdr.symm
  have HCY := Aside0.mk (show 20000 ≤ cyc ∧ cyc ≤ 27000 ∧ 0 ≤ dr ∧ dr ≤ 140 by omega)
  have HE := Aside0.mk he
  have HEB := Aside0.mk (And.intro he0 he1)
  have HPO := Aside0.mk hports
  clear hm hq hs hcyc hdr hlo hag hli he he0 he1 hports
  go_enter Tryd.func20, Tryd.ntmps20
  go_upto_region 5 with fail
  rw [w1]
  have HZ : Aside0 (((w.alloc (.cells #[.slice none 0 0, .slice none 0 0, .int .i64 0, .int .i64 0, .int .i64 0, .int .i64 0, .int .i64 0, .int .i64 0, .int .i64 0, .int .i64 0, .int .i64 0, .int .i64 0, .int .i64 0] 25)).alloc (.cells #[.slice none 0 0, .slice none 0 0, .int .i64 cyc, .int .i64 60, .int .i64 100, .int .i64 0, .int .i64 dr, .int .i64 300000, .int .i64 0, .int .i64 lo, .int .i64 0, .int .i64 0, .int .i64 12] 25)).heap[w.heap.size]? = some (.cells #[.slice none 0 0, .slice none 0 0, .int .i64 0, .int .i64 0, .int .i64 0, .int .i64 0, .int .i64 0, .int .i64 0, .int .i64 0, .int .i64 0, .int .i64 0, .int .i64 0, .int .i64 0] 25)) := ⟨by
    have hZ0 : (w.alloc (.cells #[.slice none 0 0, .slice none 0 0, .int .i64 0, .int .i64 0, .int .i64 0, .int .i64 0, .int .i64 0, .int .i64 0, .int .i64 0, .int .i64 0, .int .i64 0, .int .i64 0, .int .i64 0] 25)).heap[w.heap.size]? = some (.cells #[.slice none 0 0, .slice none 0 0, .int .i64 0, .int .i64 0, .int .i64 0, .int .i64 0, .int .i64 0, .int .i64 0, .int .i64 0, .int .i64 0, .int .i64 0, .int .i64 0, .int .i64 0] 25) := heap_alloc_new _ _
    exact ((below_alloc (Below.refl _ (w.alloc (.cells #[.slice none 0 0, .slice none 0 0, .int .i64 0, .int .i64 0, .int .i64 0, .int .i64 0, .int .i64 0, .int .i64 0, .int .i64 0, .int .i64 0, .int .i64 0, .int .i64 0, .int .i64 0] 25))) _).block _ (blk_lt hZ0)).trans hZ0⟩
  have HC : Aside0 (((w.alloc (.cells #[.slice none 0 0, .slice none 0 0, .int .i64 0, .int .i64 0, .int .i64 0, .int .i64 0, .int .i64 0, .int .i64 0, .int .i64 0, .int .i64 0, .int .i64 0, .int .i64 0, .int .i64 0] 25)).alloc (.cells #[.slice none 0 0, .slice none 0 0, .int .i64 cyc, .int .i64 60, .int .i64 100, .int .i64 0, .int .i64 dr, .int .i64 300000, .int .i64 0, .int .i64 lo, .int .i64 0, .int .i64 0, .int .i64 12] 25)).heap[w.heap.size + 1]? = some (.cells #[.slice none 0 0, .slice none 0 0, .int .i64 cyc, .int .i64 60, .int .i64 100, .int .i64 0, .int .i64 dr, .int .i64 300000, .int .i64 0, .int .i64 lo, .int .i64 0, .int .i64 0, .int .i64 12] 25)) := ⟨by have := heap_alloc_new (w.alloc (.cells #[.slice none 0 0, .slice none 0 0, .int .i64 0, .int .i64 0, .int .i64 0, .int .i64 0, .int .i64 0, .int .i64 0, .int .i64 0, .int .i64 0, .int .i64 0, .int .i64 0, .int .i64 0] 25)) (.cells #[.slice none 0 0, .slice none 0 0, .int .i64 cyc, .int .i64 60, .int .i64 100, .int .i64 0, .int .i64 dr, .int .i64 300000, .int .i64 0, .int .i64 lo, .int .i64 0, .int .i64 0, .int .i64 12] 25); simpa using this⟩
  have HB := Aside0.mk (below_alloc (below_alloc (Below.refl w.heap.size w) (Obj.cells #[.slice none 0 0, .slice none 0 0, .int .i64 0, .int .i64 0, .int .i64 0, .int .i64 0, .int .i64 0, .int .i64 0, .int .i64 0, .int .i64 0, .int .i64 0, .int .i64 0, .int .i64 0] 25)) (Obj.cells #[.slice none 0 0, .slice none 0 0, .int .i64 cyc, .int .i64 60, .int .i64 100, .int .i64 0, .int .i64 dr, .int .i64 300000, .int .i64 0, .int .i64 lo, .int .i64 0, .int .i64 0, .int .i64 12] 25))
  generalize (w.alloc (.cells #[.slice none 0 0, .slice none 0 0, .int .i64 0, .int .i64 0, .int .i64 0, .int .i64 0, .int .i64 0, .int .i64 0, .int .i64 0, .int .i64 0, .int .i64 0, .int .i64 0, .int .i64 0] 25)).alloc (.cells #[.slice none 0 0, .slice none 0 0, .int .i64 cyc, .int .i64 60, .int .i64 100, .int .i64 0, .int .i64 dr, .int .i64 300000, .int .i64 0, .int .i64 lo, .int .i64 0, .int .i64 0, .int .i64 12] 25) = wa at *
  obtain ⟨bc, hbc⟩ : ∃ bc, bc = w.heap.size + 1 := ⟨_, rfl⟩
  obtain ⟨bz, hbz⟩ : ∃ bz, bz = w.heap.size := ⟨_, rfl⟩
  rw [← hbc, ← hbz]
  rw [← hbc] at HC
  rw [← hbz] at HZ
  have HNE : Aside0 (bz ≠ bc ∧ w.heap.size ≤ bc ∧ w.heap.size ≤ bz) := ⟨by omega⟩
  clear hbc hbz b0 b1 b2 b4 b7 b10 w1 w2 w3 w3' w4 w4'
  go_wp2_with fail
  go_loopg [6] (q + 1) (fun kq v6 w' => ∃ (k : Nat) (vP : Value), v6 = .int .i64 k ∧ Aside0 (kq + k = q + 1 ∧ k ≤ q) ∧ Aside0 (Below w.heap.size w w') ∧ Aside0 (w'.heap[bc]? = some (.cells #[vP, .slice none 0 0, .int .i64 cyc, .int .i64 60, .int .i64 100, .int .i64 0, .int .i64 dr, .int .i64 300000, .int .i64 0, .int .i64 lo, .int .i64 0, .int .i64 0, .int .i64 12] 25)) ∧ Aside0 (w'.heap[bz]? = some (.cells #[.slice none 0 0, .slice none 0 0, .int .i64 0, .int .i64 0, .int .i64 0, .int .i64 0, .int .i64 0, .int .i64 0, .int .i64 0, .int .i64 0, .int .i64 0, .int .i64 0, .int .i64 0] 25)) ∧ Aside0 (Kd.R k60 60 w' w.heap.size (fun _ => True) vP (List.replicate k ⟨5, 1⟩)))
  case atStart => exact ⟨0, .slice none 0 0, rfl, ⟨by omega⟩, HB, HC, HZ, ⟨Kd.R_nil _ _ _ _ _⟩⟩
  case round =>
    clear HZ HC HB
    obtain ⟨k, vP, rfl, HK, HB, HC, HZ, HR⟩ := hrel
    by_cases hk : k < q
    · have hlt : decide ((k : Int) < (q : Int)) = true := decide_eq_true (by omega)
      have hw1 : wrap64 ((k : Int) + 1) = (k : Int) + 1 := by have := HQ.out; unfold wrap64; omega
      have c0 : wr.cell? ⟨bc, 0, none⟩ = some vP := (blk_cell HC.out 0).trans rfl
      cases gk with
      | zero => exact absurd HK.out (by omega)
      | succ k1 =>
      go_wp2_with (first | (refine Kd.R_append k60 (w0 := w) w.heap.size rfl (.tmp 37) (.tmp 39) 22 60 (.agg #[.int .i64 0, .int .i64 0]) 16 rfl Tryd.underlying22 info60 rfl (by decide) (by omega) vP (List.replicate k ⟨5, 1⟩) (⟨5, 1⟩ : S60) [.int .i64 5, .int .i64 1] (fun _ => True) (fun _ => False) rfl rfl ?aP (fun _ hk => hk.elim) ?aF ?aO ?aB ?aS ?aL ?_; (case aP => exact k60_mkM _ _ _ _); (case aB => exact HB.out); (case aF => exact (fun _ _ => trivial)); (case aO => exact HR.out); (case aS => exact HB.out.size); (case aL => rw [List.length_replicate]; have := HQ.out; omega); intro v1 w1 ho hb hg hat; obtain ⟨A1, c1', e1⟩ := Kd.R_slice ho; subst e1; have hlk : (List.replicate k (⟨5, 1⟩ : S60) ++ [(⟨5, 1⟩ : S60)]).length = k + 1 := (by simp); rw [hlk] at ho; have HC1 := Aside0.mk (blk_grown HC.out hg (Kd.R_ne HR.out HC.out (by decide))); have HZ1 := Aside0.mk (blk_grown HZ.out hg (Kd.R_ne HR.out HZ.out (by decide))); have c1 : w1.cell? ⟨bc, 0, none⟩ = some vP := (blk_cell HC1.out 0).trans rfl; have cf1 := blk_frozen HC1.out 0; have HO1 := Aside0.mk ho; have HB1 := Aside0.mk hb; clear c0 ho hb hg hat))
      go_roundg k1
      case measure => have := HK.out; omega
      case rel =>
        refine ⟨k + 1, _, (by first | (rw [hw1]; rfl) | rfl | (simp; done) | (simp [hw1]; done)), ⟨by have := HK.out; omega⟩, ⟨HB1.out.setCell HNE.out.2.1 _⟩, ⟨by simpa using blk_set HC1.out 0 (.slice A1 (k + 1) c1')⟩, ⟨(Below.heap_setCell _ _ _ bz HNE.out.1).trans HZ1.out⟩, ⟨?_⟩⟩
        rw [List.replicate_succ']
        exact Kd.R_mono (Kd.R_far (Kd.R_types HO1.out HC1.out (by decide)) (fun k hk => hk.2) _) (fun _ _ => trivial)
    · have hkq : k = q := by have := HK.out; omega
      subst hkq
      have hlt : decide ((k : Int) < (k : Int)) = false := decide_eq_false (by omega)
      have hgk : Aside0 True := ⟨trivial⟩
      obtain ⟨g, cP, hv, hBg, hPB⟩ := PB.of_R HR.out (by rw [List.length_replicate]; have := HQ.out; omega)
      subst hv
      have HPB := Aside0.mk hPB
      have HBg := Aside0.mk hBg
      clear hPB hBg
      go_wp2_with fail
      go_loopg [7, 8] k (fun kq v7 _ w' => ∃ (j : Nat) (cP c1 : Nat) (A1 : Option Addr) (P : List S60) (L : List S37), v7 = .int .i64 ((j : Int) + 1) ∧ Aside0 (kq + j = k ∧ j + 1 ≤ k) ∧ Aside0 (Below w.heap.size w w') ∧ Aside0 (w'.heap[bc]? = some (.cells #[.slice (some ⟨g, 0, none⟩) P.length cP, .slice A1 L.length c1, .int .i64 cyc, .int .i64 60, .int .i64 100, .int .i64 0, .int .i64 dr, .int .i64 300000, .int .i64 0, .int .i64 lo, .int .i64 0, .int .i64 0, .int .i64 12] 25)) ∧ Aside0 (w'.heap[bz]? = some (.cells #[.slice none 0 0, .slice none 0 0, .int .i64 0, .int .i64 0, .int .i64 0, .int .i64 0, .int .i64 0, .int .i64 0, .int .i64 0, .int .i64 0, .int .i64 0, .int .i64 0, .int .i64 0] 25)) ∧ Aside0 (PB w' g cP P) ∧ Aside0 (Kd.R k37 37 w' w.heap.size (fun _ => True) (.slice A1 L.length c1) L) ∧ Aside0 (net k s j = (P, L)))
      case atStart => exact ⟨0, cP, 0, none, List.replicate k ⟨5, 1⟩, [], rfl, ⟨by have := HQ.out; omega⟩, HB, HC, HZ, HPB, ⟨Kd.R_nil _ _ _ _ _⟩, ⟨rfl⟩⟩
      case round =>
        clear HZ HC HB HPB HR HK
        obtain ⟨j, cP, c1, A1, P, L, rfl, HK, HB, HC, HZ, HPB, HR, HN⟩ := hrel
        have HLen : Aside0 (P.length = k ∧ L.length = j) := ⟨by have := net_len k s j; rw [HN.out] at this; exact this⟩
        by_cases hj : j + 1 < k
        · have hlt : decide ((j : Int) + 1 < (k : Int)) = true := decide_eq_true (by omega)
          have hwj : wrap64 (j : Int) = j := by have := HQ.out; unfold wrap64; omega
          have hwj1 : wrap64 ((j : Int) + 1 - 1) = j := by have := HQ.out; unfold wrap64; omega
          have hwj2 : wrap64 ((j : Int) + 1 + 1) = (j : Int) + 1 + 1 := by have := HQ.out; unfold wrap64; omega
          cases gk with
          | zero => exact absurd HK.out (by omega)
          | succ k1 =>
          by_cases hs2 : s = 2
          · have hse : ((s : Int) == 2) = true := by rw [hs2]; rfl
            go_upto_region 15 with fail
            have HBd := Aside0.mk (below_drew HB.out)
            have HCd : Aside0 (wr.drew.heap[bc]? = some (.cells #[.slice (some ⟨g, 0, none⟩) P.length cP, .slice A1 L.length c1, .int .i64 cyc, .int .i64 60, .int .i64 100, .int .i64 0, .int .i64 dr, .int .i64 300000, .int .i64 0, .int .i64 lo, .int .i64 0, .int .i64 0, .int .i64 12] 25)) := ⟨HC.out⟩
            have HZd : Aside0 (wr.drew.heap[bz]? = some (.cells #[.slice none 0 0, .slice none 0 0, .int .i64 0, .int .i64 0, .int .i64 0, .int .i64 0, .int .i64 0, .int .i64 0, .int .i64 0, .int .i64 0, .int .i64 0, .int .i64 0, .int .i64 0] 25)) := ⟨HZ.out⟩
            have HPd : Aside0 (PB wr.drew g cP P) := ⟨HPB.out⟩
            have HRd : Aside0 (Kd.R k37 37 wr.drew w.heap.size (fun _ => True) (.slice A1 L.length c1) L) := ⟨Kd.R_drewN HR.out 1⟩
            have fd : wr.drew.cell? ⟨bc, 1, none⟩ = some (.slice A1 L.length c1) := (blk_cell HCd.out 1).trans rfl
            have HGz : Aside0 (bz ≠ g ∧ bc ≠ g) := ⟨by
              obtain ⟨cur, h1, _⟩ := HPB.out
              refine ⟨?_, ?_⟩
              · rintro rfl
                have h2 := HZ.out
                rw [h1] at h2
                injection h2 with h2
                injection h2 with _ h2 _
                exact absurd h2 (by decide)
              · rintro rfl
                have h2 := HC.out
                rw [h1] at h2
                injection h2 with h2
                injection h2 with _ h2 _
                exact absurd h2 (by decide)⟩
            have hA0 : Aside0 (0 ≤ (0 : Int) ∧ (0 : Int) < (P.length : Int) ∧ 0 ≤ ((j : Int) + 1 : Int) ∧ ((j : Int) + 1 : Int) < (P.length : Int)) := ⟨by have := HLen.out; have := HQ.out; omega⟩
            refine start_ (n := 9) (S := fun w' => w'.cell? ⟨bc, 1, none⟩ = some (.slice A1 L.length c1)) (ds := [8]) #[false, false, false, false, false, false, false, false, false] (by kernel_rfl) rfl rfl (fd) (fun hHeld => ?_)
            generalize wr.drew = wd at HBd HCd HZd HPd HRd fd hHeld ⊢
            refine pure_ (i := 0) (N := some 51) (v := ?_) (a' := ?_) #[true, false, false, false, false, false, false, false, false] rfl rfl (by kernel_rfl) (fun _ _ _ h => h) (Or.inl ⟨by rfl, ?_⟩) ?_ ?_
            rotate_left
            · intro w'
              go_simp
              with_reducible rfl
            rotate_left
            · simp only [Act.put, List.setIfInBounds_toArray, List.set_cons_zero, List.set_cons_succ, i64_w, i32_w]
              rfl
            refine pure_ (i := 2) (N := some 53) (v := ?_) (a' := ?_) #[true, false, true, false, false, false, false, false, false] rfl rfl (by kernel_rfl) (fun _ _ _ h => h) (Or.inl ⟨by rfl, ?_⟩) ?_ ?_
            rotate_left
            · intro w'
              go_simp
              with_reducible rfl
            rotate_left
            · simp only [Act.put, List.setIfInBounds_toArray, List.set_cons_zero, List.set_cons_succ, i64_w, i32_w]
              rfl
            refine pure_ (i := 3) (N := some 54) (v := ?_) (a' := ?_) #[true, false, true, true, false, false, false, false, false] rfl rfl (by kernel_rfl) (fun _ _ _ h => h) (Or.inl ⟨by rfl, ?_⟩) ?_ ?_
            rotate_left
            · intro w'
              go_simp
              with_reducible rfl
            rotate_left
            · simp only [Act.put, List.setIfInBounds_toArray, List.set_cons_zero, List.set_cons_succ, i64_w, i32_w]
              rfl
            refine take_ (i := 1) (N := some 52) (v := ?_) (a' := ?_) #[true, true, true, true, false, false, false, false, false] rfl rfl (by kernel_rfl) (fun _ _ _ h => h) (Or.inl ⟨by rfl, ?_⟩) hHeld ?_ ?_
            rotate_left
            · intro w' s0
              go_simp
              with_reducible rfl
            rotate_left
            · simp only [Act.put, List.setIfInBounds_toArray, List.set_cons_zero, List.set_cons_succ, i64_w, i32_w]
              rfl
            refine one_ (i := 4) (N := some 55) #[true, true, true, true, true, false, false, false, false] rfl rfl (by kernel_rfl) (by decide) (fun K hK => ?_)
            refine goes_ Tryd.func40 (by kernel_rfl) rfl #[.pointer (some ⟨bc, 0, none⟩), .int .i64 0, .int .i64 ((j : Int) + 1)] (by rfl) rfl rfl (by simp only [List.map_toArray, List.map_cons, List.map_nil]; rfl) ?_
            with_reducible refine (joined_walk bc g cP c1 w.heap.size A1 P L cyc 60 100 0 dr 300000 0 lo 0 0 12 0 ((j : Int) + 1) (cnt L 0) (cnt L ((j : Int) + 1)) _ _ _ HCd.out HPd.out HRd.out HNE.out.2.1 HBg.out hA0.out.1 hA0.out.2.1 hA0.out.2.2.1 hA0.out.2.2.2 (HPO.out P L _ cyc 60 100 0 dr 300000 0 lo 0 0 12 (by have := HLen.out; have := HQ.out; omega)) (HPO.out P L _ cyc 60 100 0 dr 300000 0 lo 0 0 12 (by have := HLen.out; have := HQ.out; omega)) (cnt_b L _).1 (by have := (cnt_b L 0).2; have := HLen.out; have := HQ.out; omega) (cnt_b L _).1 (by have := (cnt_b L ((j : Int) + 1)).2; have := HLen.out; have := HQ.out; omega) rfl rfl).mono ?_
            rintro e w3 ⟨rfl, hC3, hP3, hL3, hb3, hF3⟩
            have HC3 := Aside0.mk hC3
            have HP3 := Aside0.mk hP3
            have HL3 := Aside0.mk hL3
            have HB3 := Aside0.mk (HBd.out.trans hb3)
            have HZ3 := Aside0.mk ((hF3 bz (blk_lt HZd.out) HGz.out.1).trans HZd.out)
            have f3 : w3.cell? ⟨bc, 1, none⟩ = some (.slice A1 L.length c1) := (blk_cell HC3.out 1).trans rfl
            clear hC3 hP3 hL3 hb3 hF3
            obtain ⟨curP, HPh', _⟩ := HP3.out
            have HPh := Aside0.mk HPh'
            clear HPh'
            refine ⟨_, rfl, ?_⟩
            refine hK.out _ _ (f3) (fun hHeld => ?_)
            clear hK K
            refine norm_ (a' := ?_) ?_ ?_
            rotate_left
            · show Act.put _ (some 55) _ = _
              simp only [Act.put, List.setIfInBounds_toArray, List.set_cons_zero, List.set_cons_succ, i64_w, i32_w]
              rfl
            refine one_ (i := 5) (N := some 56) #[true, true, true, true, true, true, false, false, false] rfl rfl (by kernel_rfl) (by decide) (fun K hK => ?_)
            refine value_ (w1 := ?_) (v := ?_) (by rfl) rfl ?_ ?_
            rotate_left 2
            · go_simp
              constructor
              · rfl
              · rfl
            refine hK.out _ _ ((World.cell?_alloc_lt _ _ _ (World.block_lt_of_cell? _ _ f3)).trans f3) (fun hHeld => ?_)
            clear hK K
            refine norm_ (a' := ?_) ?_ ?_
            rotate_left
            · show Act.put _ (some 56) _ = _
              simp only [Act.put, List.setIfInBounds_toArray, List.set_cons_zero, List.set_cons_succ, i64_w, i32_w]
              rfl
            refine one_ (i := 6) (N := some 57) #[true, true, true, true, true, true, true, false, false] rfl rfl (by kernel_rfl) (by decide) (fun K hK => ?_)
            refine Kd.R_append_step k37 (w0 := w) w.heap.size ?aW (.tmp 52) (.tmp 56) 23 37 (.agg #[.int .i64 0, .int .i64 0, .int .i64 0, .int .i64 0, .int .i64 0, .int .i64 0]) 48 rfl Tryd.underlying23 info37 rfl (by decide) (by omega) (.slice A1 L.length c1) L (⟨0, (j : Int) + 1, ⟨(cnt L 0), (cnt L 0) + 1⟩, ⟨(cnt L ((j : Int) + 1)), (cnt L ((j : Int) + 1)) + 1⟩⟩ : S37) [.int .i64 0, .int .i64 ((j : Int) + 1), .int .i64 (cnt L 0), .int .i64 ((cnt L 0) + 1), .int .i64 (cnt L ((j : Int) + 1)), .int .i64 ((cnt L ((j : Int) + 1)) + 1)] (fun _ => True) (fun _ => False) rfl rfl ?aP (fun _ hk => hk.elim) ?aF ?aO ?aB ?aS ?aL ?_
            case aW => first | rfl | decide | simp [Region.wanted]
            case aP => exact k37_mkM _ _ _ _
            case aB => exact HB3.out
            case aF => exact (fun _ _ => trivial)
            case aO => exact HL3.out
            case aS => exact HB3.out.size
            case aL => have := HLen.out; have := HQ.out; omega
            intro v4 w4 ho hb hg hat
            have HC4 := Aside0.mk (blk_grown HC3.out hg (Kd.R_ne HL3.out HC3.out (by decide)))
            have HZ4 := Aside0.mk (blk_grown HZ3.out hg (Kd.R_ne HL3.out HZ3.out (by decide)))
            have HP4 := Aside0.mk (PB.keep HP3.out ((blk_grown HPh.out hg (Kd.R_ne HL3.out HPh.out (by decide))).trans HPh.out.symm))
            obtain ⟨A4, c4, e4⟩ := Kd.R_slice ho
            subst e4
            have HO4 := Aside0.mk ho
            have HB4 := Aside0.mk hb
            have f4 : w4.cell? ⟨bc, 1, none⟩ = some (.slice A1 L.length c1) := (blk_cell HC4.out 1).trans rfl
            have z4 := blk_frozen HC4.out 1
            clear ho hb hg hat
            refine hK.out _ _ (f4) (fun hHeld => ?_)
            clear hK K
            refine norm_ (a' := ?_) ?_ ?_
            rotate_left
            · show Act.put _ (some 57) _ = _
              simp only [Act.put, List.setIfInBounds_toArray, List.set_cons_zero, List.set_cons_succ, i64_w, i32_w]
              rfl
            refine pure_ (i := 7) (N := some 58) (v := ?_) (a' := ?_) #[true, true, true, true, true, true, true, true, false] rfl rfl (by kernel_rfl) (fun _ _ _ h => h) (Or.inl ⟨by rfl, ?_⟩) ?_ ?_
            rotate_left
            · intro w'
              go_simp
              with_reducible rfl
            rotate_left
            · simp only [Act.put, List.setIfInBounds_toArray, List.set_cons_zero, List.set_cons_succ, i64_w, i32_w]
              rfl
            refine last_ (i := 8) (N := none) #[true, true, true, true, true, true, true, true, true] rfl rfl (by kernel_rfl) (by decide) (fun K hK => ?_)
            refine skip_ (w1 := ?_) (by rfl) rfl ?_ ?_
            rotate_left
            · go_simp
              rfl
            refine hK.out _ _ ?_
            clear hK K
            refine done_ (by kernel_rfl) ?_
            go_wp2_with fail
            go_roundg k1
            case measure => have := HK.out; omega
            case rel =>
              refine ⟨j + 1, cP, c4, A4, (linked (P, L) 0 ((j : Int) + 1)).1, (linked (P, L) 0 ((j : Int) + 1)).2, (by first | (rw [hwj2]; rfl) | rfl | (simp; done) | (simp [hwj2]; done)), ⟨by have := HK.out; omega⟩, ⟨HB4.out.setCell HNE.out.2.1 _⟩, ⟨?_⟩, ⟨(Below.heap_setCell _ _ _ bz HNE.out.1).trans HZ4.out⟩, ⟨PB.keep HP4.out (Below.heap_setCell _ _ _ g (Ne.symm HGz.out.2))⟩, ⟨Kd.R_mono (Kd.R_far (Kd.R_types HO4.out HC4.out (by decide)) (fun k hk => hk.2) _) (fun _ _ => trivial)⟩, ⟨?_⟩⟩
              · have := blk_set HC4.out 1 (.slice A4 (L ++ [(⟨0, (j : Int) + 1, ⟨cnt L 0, cnt L 0 + 1⟩, ⟨cnt L ((j : Int) + 1), cnt L ((j : Int) + 1) + 1⟩⟩ : S37)]).length c4)
                simpa [linked, grow_len] using this
              · simp only [net, HN.out]
                rw [if_pos hs2]
          · have hse : ((s : Int) == 2) = false := beq_eq_false_iff_ne.mpr (by omega)
            go_upto_region 15 with fail
            have HBd := Aside0.mk (below_drew HB.out)
            have HCd : Aside0 (wr.drew.heap[bc]? = some (.cells #[.slice (some ⟨g, 0, none⟩) P.length cP, .slice A1 L.length c1, .int .i64 cyc, .int .i64 60, .int .i64 100, .int .i64 0, .int .i64 dr, .int .i64 300000, .int .i64 0, .int .i64 lo, .int .i64 0, .int .i64 0, .int .i64 12] 25)) := ⟨HC.out⟩
            have HZd : Aside0 (wr.drew.heap[bz]? = some (.cells #[.slice none 0 0, .slice none 0 0, .int .i64 0, .int .i64 0, .int .i64 0, .int .i64 0, .int .i64 0, .int .i64 0, .int .i64 0, .int .i64 0, .int .i64 0, .int .i64 0, .int .i64 0] 25)) := ⟨HZ.out⟩
            have HPd : Aside0 (PB wr.drew g cP P) := ⟨HPB.out⟩
            have HRd : Aside0 (Kd.R k37 37 wr.drew w.heap.size (fun _ => True) (.slice A1 L.length c1) L) := ⟨Kd.R_drewN HR.out 1⟩
            have fd : wr.drew.cell? ⟨bc, 1, none⟩ = some (.slice A1 L.length c1) := (blk_cell HCd.out 1).trans rfl
            have HGz : Aside0 (bz ≠ g ∧ bc ≠ g) := ⟨by
              obtain ⟨cur, h1, _⟩ := HPB.out
              refine ⟨?_, ?_⟩
              · rintro rfl
                have h2 := HZ.out
                rw [h1] at h2
                injection h2 with h2
                injection h2 with _ h2 _
                exact absurd h2 (by decide)
              · rintro rfl
                have h2 := HC.out
                rw [h1] at h2
                injection h2 with h2
                injection h2 with _ h2 _
                exact absurd h2 (by decide)⟩
            have hA0 : Aside0 (0 ≤ ((j : Int) : Int) ∧ ((j : Int) : Int) < (P.length : Int) ∧ 0 ≤ ((j : Int) + 1 : Int) ∧ ((j : Int) + 1 : Int) < (P.length : Int)) := ⟨by have := HLen.out; have := HQ.out; omega⟩
            refine start_ (n := 9) (S := fun w' => w'.cell? ⟨bc, 1, none⟩ = some (.slice A1 L.length c1)) (ds := [8]) #[false, false, false, false, false, false, false, false, false] (by kernel_rfl) rfl rfl (fd) (fun hHeld => ?_)
            generalize wr.drew = wd at HBd HCd HZd HPd HRd fd hHeld ⊢
            refine pure_ (i := 0) (N := some 51) (v := ?_) (a' := ?_) #[true, false, false, false, false, false, false, false, false] rfl rfl (by kernel_rfl) (fun _ _ _ h => h) (Or.inl ⟨by rfl, ?_⟩) ?_ ?_
            rotate_left
            · intro w'
              go_simp
              with_reducible rfl
            rotate_left
            · simp only [Act.put, List.setIfInBounds_toArray, List.set_cons_zero, List.set_cons_succ, i64_w, i32_w]
              rfl
            refine pure_ (i := 2) (N := some 53) (v := ?_) (a' := ?_) #[true, false, true, false, false, false, false, false, false] rfl rfl (by kernel_rfl) (fun _ _ _ h => h) (Or.inl ⟨by rfl, ?_⟩) ?_ ?_
            rotate_left
            · intro w'
              go_simp
              with_reducible rfl
            rotate_left
            · simp only [Act.put, List.setIfInBounds_toArray, List.set_cons_zero, List.set_cons_succ, i64_w, i32_w]
              rfl
            refine pure_ (i := 3) (N := some 54) (v := ?_) (a' := ?_) #[true, false, true, true, false, false, false, false, false] rfl rfl (by kernel_rfl) (fun _ _ _ h => h) (Or.inl ⟨by rfl, ?_⟩) ?_ ?_
            rotate_left
            · intro w'
              go_simp
              with_reducible rfl
            rotate_left
            · simp only [Act.put, List.setIfInBounds_toArray, List.set_cons_zero, List.set_cons_succ, i64_w, i32_w]
              rfl
            refine take_ (i := 1) (N := some 52) (v := ?_) (a' := ?_) #[true, true, true, true, false, false, false, false, false] rfl rfl (by kernel_rfl) (fun _ _ _ h => h) (Or.inl ⟨by rfl, ?_⟩) hHeld ?_ ?_
            rotate_left
            · intro w' s0
              go_simp
              with_reducible rfl
            rotate_left
            · simp only [Act.put, List.setIfInBounds_toArray, List.set_cons_zero, List.set_cons_succ, i64_w, i32_w]
              rfl
            refine one_ (i := 4) (N := some 55) #[true, true, true, true, true, false, false, false, false] rfl rfl (by kernel_rfl) (by decide) (fun K hK => ?_)
            refine goes_ Tryd.func40 (by kernel_rfl) rfl #[.pointer (some ⟨bc, 0, none⟩), .int .i64 (j : Int), .int .i64 ((j : Int) + 1)] (by rfl) rfl rfl (by simp only [List.map_toArray, List.map_cons, List.map_nil]; rfl) ?_
            with_reducible refine (joined_walk bc g cP c1 w.heap.size A1 P L cyc 60 100 0 dr 300000 0 lo 0 0 12 (j : Int) ((j : Int) + 1) (cnt L (j : Int)) (cnt L ((j : Int) + 1)) _ _ _ HCd.out HPd.out HRd.out HNE.out.2.1 HBg.out hA0.out.1 hA0.out.2.1 hA0.out.2.2.1 hA0.out.2.2.2 (HPO.out P L _ cyc 60 100 0 dr 300000 0 lo 0 0 12 (by have := HLen.out; have := HQ.out; omega)) (HPO.out P L _ cyc 60 100 0 dr 300000 0 lo 0 0 12 (by have := HLen.out; have := HQ.out; omega)) (cnt_b L _).1 (by have := (cnt_b L (j : Int)).2; have := HLen.out; have := HQ.out; omega) (cnt_b L _).1 (by have := (cnt_b L ((j : Int) + 1)).2; have := HLen.out; have := HQ.out; omega) rfl rfl).mono ?_
            rintro e w3 ⟨rfl, hC3, hP3, hL3, hb3, hF3⟩
            have HC3 := Aside0.mk hC3
            have HP3 := Aside0.mk hP3
            have HL3 := Aside0.mk hL3
            have HB3 := Aside0.mk (HBd.out.trans hb3)
            have HZ3 := Aside0.mk ((hF3 bz (blk_lt HZd.out) HGz.out.1).trans HZd.out)
            have f3 : w3.cell? ⟨bc, 1, none⟩ = some (.slice A1 L.length c1) := (blk_cell HC3.out 1).trans rfl
            clear hC3 hP3 hL3 hb3 hF3
            obtain ⟨curP, HPh', _⟩ := HP3.out
            have HPh := Aside0.mk HPh'
            clear HPh'
            refine ⟨_, rfl, ?_⟩
            refine hK.out _ _ (f3) (fun hHeld => ?_)
            clear hK K
            refine norm_ (a' := ?_) ?_ ?_
            rotate_left
            · show Act.put _ (some 55) _ = _
              simp only [Act.put, List.setIfInBounds_toArray, List.set_cons_zero, List.set_cons_succ, i64_w, i32_w]
              rfl
            refine one_ (i := 5) (N := some 56) #[true, true, true, true, true, true, false, false, false] rfl rfl (by kernel_rfl) (by decide) (fun K hK => ?_)
            refine value_ (w1 := ?_) (v := ?_) (by rfl) rfl ?_ ?_
            rotate_left 2
            · go_simp
              constructor
              · rfl
              · rfl
            refine hK.out _ _ ((World.cell?_alloc_lt _ _ _ (World.block_lt_of_cell? _ _ f3)).trans f3) (fun hHeld => ?_)
            clear hK K
            refine norm_ (a' := ?_) ?_ ?_
            rotate_left
            · show Act.put _ (some 56) _ = _
              simp only [Act.put, List.setIfInBounds_toArray, List.set_cons_zero, List.set_cons_succ, i64_w, i32_w]
              rfl
            refine one_ (i := 6) (N := some 57) #[true, true, true, true, true, true, true, false, false] rfl rfl (by kernel_rfl) (by decide) (fun K hK => ?_)
            refine Kd.R_append_step k37 (w0 := w) w.heap.size ?aW (.tmp 52) (.tmp 56) 23 37 (.agg #[.int .i64 0, .int .i64 0, .int .i64 0, .int .i64 0, .int .i64 0, .int .i64 0]) 48 rfl Tryd.underlying23 info37 rfl (by decide) (by omega) (.slice A1 L.length c1) L (⟨(j : Int), (j : Int) + 1, ⟨(cnt L (j : Int)), (cnt L (j : Int)) + 1⟩, ⟨(cnt L ((j : Int) + 1)), (cnt L ((j : Int) + 1)) + 1⟩⟩ : S37) [.int .i64 (j : Int), .int .i64 ((j : Int) + 1), .int .i64 (cnt L (j : Int)), .int .i64 ((cnt L (j : Int)) + 1), .int .i64 (cnt L ((j : Int) + 1)), .int .i64 ((cnt L ((j : Int) + 1)) + 1)] (fun _ => True) (fun _ => False) rfl rfl ?aP (fun _ hk => hk.elim) ?aF ?aO ?aB ?aS ?aL ?_
            case aW => first | rfl | decide | simp [Region.wanted]
            case aP => exact k37_mkM _ _ _ _
            case aB => exact HB3.out
            case aF => exact (fun _ _ => trivial)
            case aO => exact HL3.out
            case aS => exact HB3.out.size
            case aL => have := HLen.out; have := HQ.out; omega
            intro v4 w4 ho hb hg hat
            have HC4 := Aside0.mk (blk_grown HC3.out hg (Kd.R_ne HL3.out HC3.out (by decide)))
            have HZ4 := Aside0.mk (blk_grown HZ3.out hg (Kd.R_ne HL3.out HZ3.out (by decide)))
            have HP4 := Aside0.mk (PB.keep HP3.out ((blk_grown HPh.out hg (Kd.R_ne HL3.out HPh.out (by decide))).trans HPh.out.symm))
            obtain ⟨A4, c4, e4⟩ := Kd.R_slice ho
            subst e4
            have HO4 := Aside0.mk ho
            have HB4 := Aside0.mk hb
            have f4 : w4.cell? ⟨bc, 1, none⟩ = some (.slice A1 L.length c1) := (blk_cell HC4.out 1).trans rfl
            have z4 := blk_frozen HC4.out 1
            clear ho hb hg hat
            refine hK.out _ _ (f4) (fun hHeld => ?_)
            clear hK K
            refine norm_ (a' := ?_) ?_ ?_
            rotate_left
            · show Act.put _ (some 57) _ = _
              simp only [Act.put, List.setIfInBounds_toArray, List.set_cons_zero, List.set_cons_succ, i64_w, i32_w]
              rfl
            refine pure_ (i := 7) (N := some 58) (v := ?_) (a' := ?_) #[true, true, true, true, true, true, true, true, false] rfl rfl (by kernel_rfl) (fun _ _ _ h => h) (Or.inl ⟨by rfl, ?_⟩) ?_ ?_
            rotate_left
            · intro w'
              go_simp
              with_reducible rfl
            rotate_left
            · simp only [Act.put, List.setIfInBounds_toArray, List.set_cons_zero, List.set_cons_succ, i64_w, i32_w]
              rfl
            refine last_ (i := 8) (N := none) #[true, true, true, true, true, true, true, true, true] rfl rfl (by kernel_rfl) (by decide) (fun K hK => ?_)
            refine skip_ (w1 := ?_) (by rfl) rfl ?_ ?_
            rotate_left
            · go_simp
              rfl
            refine hK.out _ _ ?_
            clear hK K
            refine done_ (by kernel_rfl) ?_
            go_wp2_with fail
            go_roundg k1
            case measure => have := HK.out; omega
            case rel =>
              refine ⟨j + 1, cP, c4, A4, (linked (P, L) (j : Int) ((j : Int) + 1)).1, (linked (P, L) (j : Int) ((j : Int) + 1)).2, (by first | (rw [hwj2]; rfl) | rfl | (simp; done) | (simp [hwj2]; done)), ⟨by have := HK.out; omega⟩, ⟨HB4.out.setCell HNE.out.2.1 _⟩, ⟨?_⟩, ⟨(Below.heap_setCell _ _ _ bz HNE.out.1).trans HZ4.out⟩, ⟨PB.keep HP4.out (Below.heap_setCell _ _ _ g (Ne.symm HGz.out.2))⟩, ⟨Kd.R_mono (Kd.R_far (Kd.R_types HO4.out HC4.out (by decide)) (fun k hk => hk.2) _) (fun _ _ => trivial)⟩, ⟨?_⟩⟩
              · have := blk_set HC4.out 1 (.slice A4 (L ++ [(⟨(j : Int), (j : Int) + 1, ⟨cnt L (j : Int), cnt L (j : Int) + 1⟩, ⟨cnt L ((j : Int) + 1), cnt L ((j : Int) + 1) + 1⟩⟩ : S37)]).length c4)
                simpa [linked, grow_len] using this
              · simp only [net, HN.out]
                rw [if_neg hs2]
        · have hjk : j + 1 = k := by have := HK.out; omega
          have hlt : decide ((j : Int) + 1 < (k : Int)) = false := decide_eq_false (by omega)
          have z0 : (m / 2048) = (m / 2048) := rfl
          have hlo := HLO.out
          have hqb := HQ.out
          have hkl : 0 ≤ (k : Int) * (lo + 1) ∧ (k : Int) * (lo + 1) ≤ 8 := by rcases (show lo = 0 ∨ lo = 1 by omega) with h | h <;> rw [h] <;> omega
          have hkm : 0 ≤ ((k : Int) - 1) * (lo + 1) ∧ ((k : Int) - 1) * (lo + 1) ≤ 8 := by rcases (show lo = 0 ∨ lo = 1 by omega) with h | h <;> rw [h] <;> omega
          have hag := HAG.out
          have hli := HLI.out
          have z1 : wrap64 (lo + 1) = lo + 1 := by unfold wrap64; omega
          have z2 : wrap64 ((k : Int) * (lo + 1)) = (k : Int) * (lo + 1) := by unfold wrap64; omega
          have z3 : wrap64 ((k : Int) * (lo + 1) + 2) = (k : Int) * (lo + 1) + 2 := by unfold wrap64; omega
          have z4 : wrap64 ((k : Int) - 1) = (k : Int) - 1 := by unfold wrap64; omega
          have z5 : wrap64 (((k : Int) - 1) * (lo + 1)) = ((k : Int) - 1) * (lo + 1) := by unfold wrap64; omega
          have z6 : wrap64 (((k : Int) - 1) * (lo + 1) + 1) = ((k : Int) - 1) * (lo + 1) + 1 := by unfold wrap64; omega
          have z7 : wrap64 (((k : Int) - 1) * (lo + 1) + 1 + ag) = ((k : Int) - 1) * (lo + 1) + 1 + ag := by unfold wrap64; omega
          have z8 : wrap64 ((k : Int) * (lo + 1) + 2 + li) = (k : Int) * (lo + 1) + 2 + li := by unfold wrap64; omega
          have z9 : wrap64 (3 * e) = 3 * e := by have := HEB.out; unfold wrap64; omega
          clear hlo hqb hkl hkm hag hli z0
          have HPh0 : Aside0 (bc ≠ g ∧ bz ≠ g ∧ g < wr.heap.size) := ⟨by
            obtain ⟨cur, h1, _⟩ := HPB.out
            refine ⟨?_, ?_, blk_lt h1⟩
            · rintro rfl
              have h2 := HC.out
              rw [h1] at h2
              injection h2 with h2
              injection h2 with _ h2 _
              exact absurd h2 (by decide)
            · rintro rfl
              have h2 := HZ.out
              rw [h1] at h2
              injection h2 with h2
              injection h2 with _ h2 _
              exact absurd h2 (by decide)⟩
          by_cases hs1 : s = 1
          · have hse : ((s : Int) == 1) = true := by rw [hs1]; rfl
            by_cases hk2 : 2 < k
            · have hgt : decide ((2 : Int) < (k : Int)) = true := decide_eq_true (by omega)
              have HMN : Aside0 (madeNet k s = linked (P, L) 0 ((k : Int) - 1)) := ⟨by unfold madeNet; rw [if_pos ⟨hs1, hk2⟩, show k - 1 = j by omega, HN.out]⟩
              go_upto_region 17 with fail
              have HBd := Aside0.mk (below_drew HB.out)
              have HCd : Aside0 (wr.drew.heap[bc]? = some (.cells #[.slice (some ⟨g, 0, none⟩) P.length cP, .slice A1 L.length c1, .int .i64 cyc, .int .i64 60, .int .i64 100, .int .i64 0, .int .i64 dr, .int .i64 300000, .int .i64 0, .int .i64 lo, .int .i64 0, .int .i64 0, .int .i64 12] 25)) := ⟨HC.out⟩
              have HZd : Aside0 (wr.drew.heap[bz]? = some (.cells #[.slice none 0 0, .slice none 0 0, .int .i64 0, .int .i64 0, .int .i64 0, .int .i64 0, .int .i64 0, .int .i64 0, .int .i64 0, .int .i64 0, .int .i64 0, .int .i64 0, .int .i64 0] 25)) := ⟨HZ.out⟩
              have HPd : Aside0 (PB wr.drew g cP P) := ⟨HPB.out⟩
              have HRd : Aside0 (Kd.R k37 37 wr.drew w.heap.size (fun _ => True) (.slice A1 L.length c1) L) := ⟨Kd.R_drewN HR.out 1⟩
              have fd : wr.drew.cell? ⟨bc, 1, none⟩ = some (.slice A1 L.length c1) := (blk_cell HCd.out 1).trans rfl
              have HGz : Aside0 (bz ≠ g ∧ bc ≠ g) := ⟨by
                obtain ⟨cur, h1, _⟩ := HPB.out
                refine ⟨?_, ?_⟩
                · rintro rfl
                  have h2 := HZ.out
                  rw [h1] at h2
                  injection h2 with h2
                  injection h2 with _ h2 _
                  exact absurd h2 (by decide)
                · rintro rfl
                  have h2 := HC.out
                  rw [h1] at h2
                  injection h2 with h2
                  injection h2 with _ h2 _
                  exact absurd h2 (by decide)⟩
              have hA0 : Aside0 (0 ≤ (0 : Int) ∧ (0 : Int) < (P.length : Int) ∧ 0 ≤ ((k : Int) - 1 : Int) ∧ ((k : Int) - 1 : Int) < (P.length : Int)) := ⟨by have := HLen.out; have := HQ.out; omega⟩
              refine start_ (n := 9) (S := fun w' => w'.cell? ⟨bc, 1, none⟩ = some (.slice A1 L.length c1)) (ds := [8]) #[false, false, false, false, false, false, false, false, false] (by kernel_rfl) rfl rfl (fd) (fun hHeld => ?_)
              generalize wr.drew = wd at HBd HCd HZd HPd HRd fd hHeld ⊢
              refine pure_ (i := 0) (N := some 65) (v := ?_) (a' := ?_) #[true, false, false, false, false, false, false, false, false] rfl rfl (by kernel_rfl) (fun _ _ _ h => h) (Or.inl ⟨by rfl, ?_⟩) ?_ ?_
              rotate_left
              · intro w'
                go_simp
                with_reducible rfl
              rotate_left
              · simp only [Act.put, List.setIfInBounds_toArray, List.set_cons_zero, List.set_cons_succ, i64_w, i32_w]
                rfl
              refine pure_ (i := 2) (N := some 67) (v := ?_) (a' := ?_) #[true, false, true, false, false, false, false, false, false] rfl rfl (by kernel_rfl) (fun _ _ _ h => h) (Or.inl ⟨by rfl, ?_⟩) ?_ ?_
              rotate_left
              · intro w'
                go_simp
                with_reducible rfl
              rotate_left
              · simp only [Act.put, List.setIfInBounds_toArray, List.set_cons_zero, List.set_cons_succ, i64_w, i32_w]
                rfl
              refine pure_ (i := 3) (N := some 68) (v := ?_) (a' := ?_) #[true, false, true, true, false, false, false, false, false] rfl rfl (by kernel_rfl) (fun _ _ _ h => h) (Or.inl ⟨by rfl, ?_⟩) ?_ ?_
              rotate_left
              · intro w'
                go_simp
                with_reducible rfl
              rotate_left
              · simp only [Act.put, List.setIfInBounds_toArray, List.set_cons_zero, List.set_cons_succ, i64_w, i32_w]
                rfl
              refine take_ (i := 1) (N := some 66) (v := ?_) (a' := ?_) #[true, true, true, true, false, false, false, false, false] rfl rfl (by kernel_rfl) (fun _ _ _ h => h) (Or.inl ⟨by rfl, ?_⟩) hHeld ?_ ?_
              rotate_left
              · intro w' s0
                go_simp
                with_reducible rfl
              rotate_left
              · simp only [Act.put, List.setIfInBounds_toArray, List.set_cons_zero, List.set_cons_succ, i64_w, i32_w]
                rfl
              refine one_ (i := 4) (N := some 69) #[true, true, true, true, true, false, false, false, false] rfl rfl (by kernel_rfl) (by decide) (fun K hK => ?_)
              refine goes_ Tryd.func40 (by kernel_rfl) rfl #[.pointer (some ⟨bc, 0, none⟩), .int .i64 0, .int .i64 (wrap64 ((k : Int) - 1))] (by rfl) rfl rfl (by simp only [List.map_toArray, List.map_cons, List.map_nil]; rfl) ?_
              rw [z4]
              with_reducible refine (joined_walk bc g cP c1 w.heap.size A1 P L cyc 60 100 0 dr 300000 0 lo 0 0 12 0 ((k : Int) - 1) (cnt L 0) (cnt L ((k : Int) - 1)) _ _ _ HCd.out HPd.out HRd.out HNE.out.2.1 HBg.out hA0.out.1 hA0.out.2.1 hA0.out.2.2.1 hA0.out.2.2.2 (HPO.out P L _ cyc 60 100 0 dr 300000 0 lo 0 0 12 (by have := HLen.out; have := HQ.out; omega)) (HPO.out P L _ cyc 60 100 0 dr 300000 0 lo 0 0 12 (by have := HLen.out; have := HQ.out; omega)) (cnt_b L _).1 (by have := (cnt_b L 0).2; have := HLen.out; have := HQ.out; omega) (cnt_b L _).1 (by have := (cnt_b L ((k : Int) - 1)).2; have := HLen.out; have := HQ.out; omega) rfl rfl).mono ?_
              rintro e w3 ⟨rfl, hC3, hP3, hL3, hb3, hF3⟩
              have HC3 := Aside0.mk hC3
              have HP3 := Aside0.mk hP3
              have HL3 := Aside0.mk hL3
              have HB3 := Aside0.mk (HBd.out.trans hb3)
              have HZ3 := Aside0.mk ((hF3 bz (blk_lt HZd.out) HGz.out.1).trans HZd.out)
              have f3 : w3.cell? ⟨bc, 1, none⟩ = some (.slice A1 L.length c1) := (blk_cell HC3.out 1).trans rfl
              clear hC3 hP3 hL3 hb3 hF3
              obtain ⟨curP, HPh', _⟩ := HP3.out
              have HPh := Aside0.mk HPh'
              clear HPh'
              refine ⟨_, rfl, ?_⟩
              refine hK.out _ _ (f3) (fun hHeld => ?_)
              clear hK K
              refine norm_ (a' := ?_) ?_ ?_
              rotate_left
              · show Act.put _ (some 69) _ = _
                simp only [Act.put, List.setIfInBounds_toArray, List.set_cons_zero, List.set_cons_succ, i64_w, i32_w]
                rfl
              refine one_ (i := 5) (N := some 70) #[true, true, true, true, true, true, false, false, false] rfl rfl (by kernel_rfl) (by decide) (fun K hK => ?_)
              refine value_ (w1 := ?_) (v := ?_) (by rfl) rfl ?_ ?_
              rotate_left 2
              · go_simp
                constructor
                · rfl
                · rfl
              refine hK.out _ _ ((World.cell?_alloc_lt _ _ _ (World.block_lt_of_cell? _ _ f3)).trans f3) (fun hHeld => ?_)
              clear hK K
              refine norm_ (a' := ?_) ?_ ?_
              rotate_left
              · show Act.put _ (some 70) _ = _
                simp only [Act.put, List.setIfInBounds_toArray, List.set_cons_zero, List.set_cons_succ, i64_w, i32_w]
                rfl
              refine one_ (i := 6) (N := some 71) #[true, true, true, true, true, true, true, false, false] rfl rfl (by kernel_rfl) (by decide) (fun K hK => ?_)
              refine Kd.R_append_step k37 (w0 := w) w.heap.size ?aW (.tmp 66) (.tmp 70) 23 37 (.agg #[.int .i64 0, .int .i64 0, .int .i64 0, .int .i64 0, .int .i64 0, .int .i64 0]) 48 rfl Tryd.underlying23 info37 rfl (by decide) (by omega) (.slice A1 L.length c1) L (⟨0, (k : Int) - 1, ⟨(cnt L 0), (cnt L 0) + 1⟩, ⟨(cnt L ((k : Int) - 1)), (cnt L ((k : Int) - 1)) + 1⟩⟩ : S37) [.int .i64 0, .int .i64 ((k : Int) - 1), .int .i64 (cnt L 0), .int .i64 ((cnt L 0) + 1), .int .i64 (cnt L ((k : Int) - 1)), .int .i64 ((cnt L ((k : Int) - 1)) + 1)] (fun _ => True) (fun _ => False) rfl rfl ?aP (fun _ hk => hk.elim) ?aF ?aO ?aB ?aS ?aL ?_
              case aW => first | rfl | decide | simp [Region.wanted]
              case aP => exact k37_mkM _ _ _ _
              case aB => exact HB3.out
              case aF => exact (fun _ _ => trivial)
              case aO => exact HL3.out
              case aS => exact HB3.out.size
              case aL => have := HLen.out; have := HQ.out; omega
              intro v4 w4 ho hb hg hat
              have HC4 := Aside0.mk (blk_grown HC3.out hg (Kd.R_ne HL3.out HC3.out (by decide)))
              have HZ4 := Aside0.mk (blk_grown HZ3.out hg (Kd.R_ne HL3.out HZ3.out (by decide)))
              have HP4 := Aside0.mk (PB.keep HP3.out ((blk_grown HPh.out hg (Kd.R_ne HL3.out HPh.out (by decide))).trans HPh.out.symm))
              obtain ⟨A4, c4, e4⟩ := Kd.R_slice ho
              subst e4
              have HO4 := Aside0.mk ho
              have HB4 := Aside0.mk hb
              have f4 : w4.cell? ⟨bc, 1, none⟩ = some (.slice A1 L.length c1) := (blk_cell HC4.out 1).trans rfl
              have z4 := blk_frozen HC4.out 1
              clear ho hb hg hat
              refine hK.out _ _ (f4) (fun hHeld => ?_)
              clear hK K
              refine norm_ (a' := ?_) ?_ ?_
              rotate_left
              · show Act.put _ (some 71) _ = _
                simp only [Act.put, List.setIfInBounds_toArray, List.set_cons_zero, List.set_cons_succ, i64_w, i32_w]
                rfl
              refine pure_ (i := 7) (N := some 72) (v := ?_) (a' := ?_) #[true, true, true, true, true, true, true, true, false] rfl rfl (by kernel_rfl) (fun _ _ _ h => h) (Or.inl ⟨by rfl, ?_⟩) ?_ ?_
              rotate_left
              · intro w'
                go_simp
                with_reducible rfl
              rotate_left
              · simp only [Act.put, List.setIfInBounds_toArray, List.set_cons_zero, List.set_cons_succ, i64_w, i32_w]
                rfl
              refine last_ (i := 8) (N := none) #[true, true, true, true, true, true, true, true, true] rfl rfl (by kernel_rfl) (by decide) (fun K hK => ?_)
              refine skip_ (w1 := ?_) (by rfl) rfl ?_ ?_
              rotate_left
              · go_simp
                rfl
              refine hK.out _ _ ?_
              clear hK K
              refine done_ (by kernel_rfl) ?_
              have hl : (L ++ [(⟨0, (k : Int) - 1, ⟨cnt L 0, cnt L 0 + 1⟩, ⟨cnt L ((k : Int) - 1), cnt L ((k : Int) - 1) + 1⟩⟩ : S37)]).length = L.length + 1 := by simp
              rw [hl] at HO4
              obtain ⟨P2, hP2⟩ : ∃ P2, (linked (P, L) 0 ((k : Int) - 1)).1 = P2 := ⟨_, rfl⟩
              obtain ⟨L2, hL2⟩ : ∃ L2, (L ++ [(⟨0, (k : Int) - 1, ⟨cnt L 0, cnt L 0 + 1⟩, ⟨cnt L ((k : Int) - 1), cnt L ((k : Int) - 1) + 1⟩⟩ : S37)]) = L2 := ⟨_, rfl⟩
              have hlen2 : L2.length = L.length + 1 := by rw [← hL2]; exact hl
              have hlenP : P2.length = P.length := by rw [← hP2]; simp [linked, grow_len]
              have hPL : linked (P, L) 0 ((k : Int) - 1) = (P2, L2) := by rw [← hP2, ← hL2]; rfl
              have HC : Aside0 ((w4.setCell ⟨bc, 1, none⟩ (.slice A4 (L.length + 1) c4)).heap[bc]? = some (.cells #[.slice (some ⟨g, 0, none⟩) P.length cP, .slice A4 (L.length + 1) c4, .int .i64 cyc, .int .i64 60, .int .i64 100, .int .i64 0, .int .i64 dr, .int .i64 300000, .int .i64 0, .int .i64 lo, .int .i64 0, .int .i64 0, .int .i64 12] 25)) := ⟨by simpa [grow_len] using blk_set HC4.out 1 (.slice A4 (L.length + 1) c4)⟩
              have HZ : Aside0 ((w4.setCell ⟨bc, 1, none⟩ (.slice A4 (L.length + 1) c4)).heap[bz]? = some (.cells #[.slice none 0 0, .slice none 0 0, .int .i64 0, .int .i64 0, .int .i64 0, .int .i64 0, .int .i64 0, .int .i64 0, .int .i64 0, .int .i64 0, .int .i64 0, .int .i64 0, .int .i64 0] 25)) := ⟨(Below.heap_setCell _ _ _ bz HNE.out.1).trans HZ4.out⟩
              have HPB : Aside0 (PB (w4.setCell ⟨bc, 1, none⟩ (.slice A4 (L.length + 1) c4)) g cP P2) := ⟨by rw [← hP2]; exact PB.keep HP4.out (Below.heap_setCell _ _ _ g (Ne.symm HGz.out.2))⟩
              have HR : Aside0 (Kd.R k37 37 (w4.setCell ⟨bc, 1, none⟩ (.slice A4 (L.length + 1) c4)) w.heap.size (fun _ => True) (.slice A4 (L.length + 1) c4) L2) := ⟨by rw [← hL2]; exact Kd.R_mono (Kd.R_far (Kd.R_types HO4.out HC4.out (by decide)) (fun k hk => hk.2) _) (fun _ _ => trivial)⟩
              have HB : Aside0 (Below w.heap.size w (w4.setCell ⟨bc, 1, none⟩ (.slice A4 (L.length + 1) c4))) := ⟨HB4.out.setCell HNE.out.2.1 _⟩
              rw [hPL] at HMN
              generalize w4.setCell ⟨bc, 1, none⟩ (.slice A4 (L.length + 1) c4) = w8 at *
              rw [← hlen2, ← hlenP] at HC
              rw [← hlen2] at HR
              clear hl hP2 hL2 hlen2 hlenP hPL HC4 HZ4 HP4 HO4 HB4
              have x0 : w8.cell? ⟨bc, 0, none⟩ = some (.slice (some ⟨g, 0, none⟩) P2.length cP) := (blk_cell HC.out 0).trans rfl
              have x1 : w8.cell? ⟨bc, 1, none⟩ = some (.slice A4 L2.length c4) := (blk_cell HC.out 1).trans rfl
              have x2 : w8.cell? ⟨bc, 2, none⟩ = some (.int .i64 cyc) := (blk_cell HC.out 2).trans rfl
              have x3 : w8.cell? ⟨bc, 3, none⟩ = some (.int .i64 60) := (blk_cell HC.out 3).trans rfl
              have x4 : w8.cell? ⟨bc, 4, none⟩ = some (.int .i64 100) := (blk_cell HC.out 4).trans rfl
              have x5 : w8.cell? ⟨bc, 5, none⟩ = some (.int .i64 0) := (blk_cell HC.out 5).trans rfl
              have x6 : w8.cell? ⟨bc, 6, none⟩ = some (.int .i64 dr) := (blk_cell HC.out 6).trans rfl
              have x7 : w8.cell? ⟨bc, 7, none⟩ = some (.int .i64 300000) := (blk_cell HC.out 7).trans rfl
              have x8 : w8.cell? ⟨bc, 8, none⟩ = some (.int .i64 0) := (blk_cell HC.out 8).trans rfl
              have x9 : w8.cell? ⟨bc, 9, none⟩ = some (.int .i64 lo) := (blk_cell HC.out 9).trans rfl
              have x10 : w8.cell? ⟨bc, 10, none⟩ = some (.int .i64 0) := (blk_cell HC.out 10).trans rfl
              have x11 : w8.cell? ⟨bc, 11, none⟩ = some (.int .i64 0) := (blk_cell HC.out 11).trans rfl
              have x12 : w8.cell? ⟨bc, 12, none⟩ = some (.int .i64 12) := (blk_cell HC.out 12).trans rfl
              have xf8 := blk_frozen HC.out 8
              have xf10 := blk_frozen HC.out 10
              have xf11 := blk_frozen HC.out 11
              go_upto_region 22 with fail
              have HC5 : Aside0 ((((w8.setCell ⟨bc, 8, none⟩ (.int .i64 (((k : Int) - 1) * (lo + 1) + 1 + ag))).setCell ⟨bc, 10, none⟩ (.int .i64 ((k : Int) * (lo + 1) + 2 + li))).setCell ⟨bc, 11, none⟩ (.int .i64 ((k : Int) * (lo + 1) + 2))).heap[bc]? = some (.cells #[.slice (some ⟨g, 0, none⟩) P2.length cP, .slice A4 L2.length c4, .int .i64 cyc, .int .i64 60, .int .i64 100, .int .i64 0, .int .i64 dr, .int .i64 300000, .int .i64 (((k : Int) - 1) * (lo + 1) + 1 + ag), .int .i64 lo, .int .i64 ((k : Int) * (lo + 1) + 2 + li), .int .i64 ((k : Int) * (lo + 1) + 2), .int .i64 12] 25)) := ⟨by
                have h := blk_set (blk_set (blk_set HC.out 8 (.int .i64 (((k : Int) - 1) * (lo + 1) + 1 + ag))) 10 (.int .i64 ((k : Int) * (lo + 1) + 2 + li))) 11 (.int .i64 ((k : Int) * (lo + 1) + 2))
                simpa using h⟩
              have HK5 : Aside0 (∀ k', k' ≠ bc → (((w8.setCell ⟨bc, 8, none⟩ (.int .i64 (((k : Int) - 1) * (lo + 1) + 1 + ag))).setCell ⟨bc, 10, none⟩ (.int .i64 ((k : Int) * (lo + 1) + 2 + li))).setCell ⟨bc, 11, none⟩ (.int .i64 ((k : Int) * (lo + 1) + 2))).heap[k']? = w8.heap[k']?) := ⟨fun k' hk => (Below.heap_setCell _ _ _ k' hk).trans ((Below.heap_setCell _ _ _ k' hk).trans (Below.heap_setCell _ _ _ k' hk))⟩
              have HB5 : Aside0 (Below w.heap.size w (((w8.setCell ⟨bc, 8, none⟩ (.int .i64 (((k : Int) - 1) * (lo + 1) + 1 + ag))).setCell ⟨bc, 10, none⟩ (.int .i64 ((k : Int) * (lo + 1) + 2 + li))).setCell ⟨bc, 11, none⟩ (.int .i64 ((k : Int) * (lo + 1) + 2)))) := ⟨((HB.out.setCell HNE.out.2.1 _).setCell HNE.out.2.1 _).setCell HNE.out.2.1 _⟩
              clear x0 x1 x2 x3 x4 x5 x6 x7 x8 x9 x10 x11 x12 xf8 xf10 xf11
              generalize ((w8.setCell ⟨bc, 8, none⟩ (.int .i64 (((k : Int) - 1) * (lo + 1) + 1 + ag))).setCell ⟨bc, 10, none⟩ (.int .i64 ((k : Int) * (lo + 1) + 2 + li))).setCell ⟨bc, 11, none⟩ (.int .i64 ((k : Int) * (lo + 1) + 2)) = w5 at *
              have HZ5 := Aside0.mk ((HK5.out bz HNE.out.1).trans HZ.out)
              have HP5 := Aside0.mk (HPB.out.keep (HK5.out g (Ne.symm HPh0.out.1)))
              have HR5 : Aside0 (Kd.R k37 37 w5 w.heap.size (fun _ => True) (.slice A4 L2.length c4) L2) := ⟨Kd.R_mono (Kd.R_step (Kd.R_types HR.out HC.out (by decide)) (fun k' hk _ => HK5.out k' hk.2)) (fun _ _ => trivial)⟩
              have y0 : w5.cell? ⟨bc, 0, none⟩ = some (.slice (some ⟨g, 0, none⟩) P2.length cP) := (blk_cell HC5.out 0).trans rfl
              have y1 : w5.cell? ⟨bc, 1, none⟩ = some (.slice A4 L2.length c4) := (blk_cell HC5.out 1).trans rfl
              have y2 : w5.cell? ⟨bc, 2, none⟩ = some (.int .i64 cyc) := (blk_cell HC5.out 2).trans rfl
              have y3 : w5.cell? ⟨bc, 3, none⟩ = some (.int .i64 60) := (blk_cell HC5.out 3).trans rfl
              have y4 : w5.cell? ⟨bc, 4, none⟩ = some (.int .i64 100) := (blk_cell HC5.out 4).trans rfl
              have y5 : w5.cell? ⟨bc, 5, none⟩ = some (.int .i64 0) := (blk_cell HC5.out 5).trans rfl
              have y6 : w5.cell? ⟨bc, 6, none⟩ = some (.int .i64 dr) := (blk_cell HC5.out 6).trans rfl
              have y7 : w5.cell? ⟨bc, 7, none⟩ = some (.int .i64 300000) := (blk_cell HC5.out 7).trans rfl
              have y8 : w5.cell? ⟨bc, 8, none⟩ = some (.int .i64 (((k : Int) - 1) * (lo + 1) + 1 + ag)) := (blk_cell HC5.out 8).trans rfl
              have y9 : w5.cell? ⟨bc, 9, none⟩ = some (.int .i64 lo) := (blk_cell HC5.out 9).trans rfl
              have y10 : w5.cell? ⟨bc, 10, none⟩ = some (.int .i64 ((k : Int) * (lo + 1) + 2 + li)) := (blk_cell HC5.out 10).trans rfl
              have y11 : w5.cell? ⟨bc, 11, none⟩ = some (.int .i64 ((k : Int) * (lo + 1) + 2)) := (blk_cell HC5.out 11).trans rfl
              have y12 : w5.cell? ⟨bc, 12, none⟩ = some (.int .i64 12) := (blk_cell HC5.out 12).trans rfl
              go_wp2_with fail
              refine (drumlineref5_Edge.calls 100 (some ⟨g, 0, none⟩) cP P2 A4 c4 L2 cyc 60 100 0 dr 300000 (((k : Int) - 1) * (lo + 1) + 1 + ag) lo ((k : Int) * (lo + 1) + 2 + li) ((k : Int) * (lo + 1) + 2) 12 e w5 (Kd.R_reads' (HP5.out.to_R (B := w.heap.size) (ok := fun _ => True) HBg.out trivial)).2.2 (Kd.R_reads' (HP5.out.to_R (B := w.heap.size) (ok := fun _ => True) HBg.out trivial)).2.1 (Kd.R_reads' HR5.out).2.2 (Kd.R_reads' HR5.out).2.1 (by have := HE.out; rw [HMN.out] at this; exact this)).mono ?_
              rintro e' w6 ⟨rfl, hb⟩
              have HB6 := Aside0.mk (below_step HB5.out hb)
              have HC6 := Aside0.mk ((hb.block bc (blk_lt HC5.out)).trans HC5.out)
              have HZ6 := Aside0.mk ((hb.block bz (blk_lt HZ5.out)).trans HZ5.out)
              have HP6 := Aside0.mk (HP5.out.keep (hb.block g (by obtain ⟨cur, h1, _⟩ := HP5.out; exact blk_lt h1)))
              have HR6 := Aside0.mk (Kd.R_below HR5.out hb)
              clear hb HB5 HC5 HZ5 HP5 HR5 HK5 y0 y1 y2 y3 y4 y5 y6 y7 y8 y9 y10 y11 y12
              have x5 : w6.cell? ⟨bc, 5, none⟩ = some (.int .i64 0) := (blk_cell HC6.out 5).trans rfl
              have xf5 := blk_frozen HC6.out 5
              go_upto_region 23 with fail
              have HC7 : Aside0 ((w6.setCell ⟨bc, 5, none⟩ (.int .i64 (3 * e))).heap[bc]? = some (.cells #[.slice (some ⟨g, 0, none⟩) P2.length cP, .slice A4 L2.length c4, .int .i64 cyc, .int .i64 60, .int .i64 100, .int .i64 (3 * e), .int .i64 dr, .int .i64 300000, .int .i64 (((k : Int) - 1) * (lo + 1) + 1 + ag), .int .i64 lo, .int .i64 ((k : Int) * (lo + 1) + 2 + li), .int .i64 ((k : Int) * (lo + 1) + 2), .int .i64 12] 25)) := ⟨by simpa using blk_set HC6.out 5 (.int .i64 (3 * e))⟩
              have HK7 : Aside0 (∀ k', k' ≠ bc → (w6.setCell ⟨bc, 5, none⟩ (.int .i64 (3 * e))).heap[k']? = w6.heap[k']?) := ⟨fun k' hk => Below.heap_setCell _ _ _ k' hk⟩
              have HB7 : Aside0 (Below w.heap.size w (w6.setCell ⟨bc, 5, none⟩ (.int .i64 (3 * e)))) := ⟨HB6.out.setCell HNE.out.2.1 _⟩
              clear x5 xf5
              generalize w6.setCell ⟨bc, 5, none⟩ (.int .i64 (3 * e)) = w7 at *
              have HZ7 := Aside0.mk ((HK7.out bz HNE.out.1).trans HZ6.out)
              have HP7 := Aside0.mk (HP6.out.keep (HK7.out g (Ne.symm HPh0.out.1)))
              have HR7 : Aside0 (Kd.R k37 37 w7 w.heap.size (fun _ => True) (.slice A4 L2.length c4) L2) := ⟨Kd.R_mono (Kd.R_step (Kd.R_types HR6.out HC6.out (by decide)) (fun k' hk _ => HK7.out k' hk.2)) (fun _ _ => trivial)⟩
              clear HB6 HC6 HZ6 HP6 HR6 HK7
              have y0 : w7.cell? ⟨bc, 0, none⟩ = some (.slice (some ⟨g, 0, none⟩) P2.length cP) := (blk_cell HC7.out 0).trans rfl
              have y1 : w7.cell? ⟨bc, 1, none⟩ = some (.slice A4 L2.length c4) := (blk_cell HC7.out 1).trans rfl
              have y2 : w7.cell? ⟨bc, 2, none⟩ = some (.int .i64 cyc) := (blk_cell HC7.out 2).trans rfl
              have y3 : w7.cell? ⟨bc, 3, none⟩ = some (.int .i64 60) := (blk_cell HC7.out 3).trans rfl
              have y4 : w7.cell? ⟨bc, 4, none⟩ = some (.int .i64 100) := (blk_cell HC7.out 4).trans rfl
              have y5 : w7.cell? ⟨bc, 5, none⟩ = some (.int .i64 (3 * e)) := (blk_cell HC7.out 5).trans rfl
              have y6 : w7.cell? ⟨bc, 6, none⟩ = some (.int .i64 dr) := (blk_cell HC7.out 6).trans rfl
              have y7 : w7.cell? ⟨bc, 7, none⟩ = some (.int .i64 300000) := (blk_cell HC7.out 7).trans rfl
              have y8 : w7.cell? ⟨bc, 8, none⟩ = some (.int .i64 (((k : Int) - 1) * (lo + 1) + 1 + ag)) := (blk_cell HC7.out 8).trans rfl
              have y9 : w7.cell? ⟨bc, 9, none⟩ = some (.int .i64 lo) := (blk_cell HC7.out 9).trans rfl
              have y10 : w7.cell? ⟨bc, 10, none⟩ = some (.int .i64 ((k : Int) * (lo + 1) + 2 + li)) := (blk_cell HC7.out 10).trans rfl
              have y11 : w7.cell? ⟨bc, 11, none⟩ = some (.int .i64 ((k : Int) * (lo + 1) + 2)) := (blk_cell HC7.out 11).trans rfl
              have y12 : w7.cell? ⟨bc, 12, none⟩ = some (.int .i64 12) := (blk_cell HC7.out 12).trans rfl
              have u0_ : w7.cell? ⟨bz, 0, none⟩ = some (.slice none 0 0) := (blk_cell HZ7.out 0).trans rfl
              have uf0_ := blk_frozen HZ7.out 0
              have u1_ : w7.cell? ⟨bz, 1, none⟩ = some (.slice none 0 0) := (blk_cell HZ7.out 1).trans rfl
              have uf1_ := blk_frozen HZ7.out 1
              have u2_ : w7.cell? ⟨bz, 2, none⟩ = some (.int .i64 0) := (blk_cell HZ7.out 2).trans rfl
              have uf2_ := blk_frozen HZ7.out 2
              have u3_ : w7.cell? ⟨bz, 3, none⟩ = some (.int .i64 0) := (blk_cell HZ7.out 3).trans rfl
              have uf3_ := blk_frozen HZ7.out 3
              have u4_ : w7.cell? ⟨bz, 4, none⟩ = some (.int .i64 0) := (blk_cell HZ7.out 4).trans rfl
              have uf4_ := blk_frozen HZ7.out 4
              have u5_ : w7.cell? ⟨bz, 5, none⟩ = some (.int .i64 0) := (blk_cell HZ7.out 5).trans rfl
              have uf5_ := blk_frozen HZ7.out 5
              have u6_ : w7.cell? ⟨bz, 6, none⟩ = some (.int .i64 0) := (blk_cell HZ7.out 6).trans rfl
              have uf6_ := blk_frozen HZ7.out 6
              have u7_ : w7.cell? ⟨bz, 7, none⟩ = some (.int .i64 0) := (blk_cell HZ7.out 7).trans rfl
              have uf7_ := blk_frozen HZ7.out 7
              have u8_ : w7.cell? ⟨bz, 8, none⟩ = some (.int .i64 0) := (blk_cell HZ7.out 8).trans rfl
              have uf8_ := blk_frozen HZ7.out 8
              have u9_ : w7.cell? ⟨bz, 9, none⟩ = some (.int .i64 0) := (blk_cell HZ7.out 9).trans rfl
              have uf9_ := blk_frozen HZ7.out 9
              have u10_ : w7.cell? ⟨bz, 10, none⟩ = some (.int .i64 0) := (blk_cell HZ7.out 10).trans rfl
              have uf10_ := blk_frozen HZ7.out 10
              have u11_ : w7.cell? ⟨bz, 11, none⟩ = some (.int .i64 0) := (blk_cell HZ7.out 11).trans rfl
              have uf11_ := blk_frozen HZ7.out 11
              have u12_ : w7.cell? ⟨bz, 12, none⟩ = some (.int .i64 0) := (blk_cell HZ7.out 12).trans rfl
              have uf12_ := blk_frozen HZ7.out 12
              have hnb := HNE.out.1
              have hnb' : bc ≠ bz := Ne.symm hnb
              go_wp2_with fail
              refine bodyPost_ret (results_cell_row rfl _ _ bz 25 #[.slice (some ⟨g, 0, none⟩) P2.length cP, .slice A4 L2.length c4, .int .i64 cyc, .int .i64 60, .int .i64 100, .int .i64 (3 * e), .int .i64 dr, .int .i64 300000, .int .i64 (((k : Int) - 1) * (lo + 1) + 1 + ag), .int .i64 lo, .int .i64 ((k : Int) * (lo + 1) + 2 + li), .int .i64 ((k : Int) * (lo + 1) + 2), .int .i64 12] (0, 0) _ rfl (by
                have h := blk_set (blk_set (blk_set (blk_set (blk_set (blk_set (blk_set (blk_set (blk_set (blk_set (blk_set (blk_set (blk_set (HZ7.out) 0 (.slice (some ⟨g, 0, none⟩) P2.length cP)) 1 (.slice A4 L2.length c4)) 2 (.int .i64 cyc)) 3 (.int .i64 60)) 4 (.int .i64 100)) 5 (.int .i64 (3 * e))) 6 (.int .i64 dr)) 7 (.int .i64 300000)) 8 (.int .i64 (((k : Int) - 1) * (lo + 1) + 1 + ag))) 9 (.int .i64 lo)) 10 (.int .i64 ((k : Int) * (lo + 1) + 2 + li))) 11 (.int .i64 ((k : Int) * (lo + 1) + 2))) 12 (.int .i64 12)
                simpa using h) Tryd.underlying25 rfl (by kernel_rfl)) rfl ?_
              have HK : ∀ k', k' ≠ bz → (((((((((((((w7.setCell ⟨bz, 0, none⟩ (.slice (some ⟨g, 0, none⟩) P2.length cP)).setCell ⟨bz, 1, none⟩ (.slice A4 L2.length c4)).setCell ⟨bz, 2, none⟩ (.int .i64 cyc)).setCell ⟨bz, 3, none⟩ (.int .i64 60)).setCell ⟨bz, 4, none⟩ (.int .i64 100)).setCell ⟨bz, 5, none⟩ (.int .i64 (3 * e))).setCell ⟨bz, 6, none⟩ (.int .i64 dr)).setCell ⟨bz, 7, none⟩ (.int .i64 300000)).setCell ⟨bz, 8, none⟩ (.int .i64 (((k : Int) - 1) * (lo + 1) + 1 + ag))).setCell ⟨bz, 9, none⟩ (.int .i64 lo)).setCell ⟨bz, 10, none⟩ (.int .i64 ((k : Int) * (lo + 1) + 2 + li))).setCell ⟨bz, 11, none⟩ (.int .i64 ((k : Int) * (lo + 1) + 2))).setCell ⟨bz, 12, none⟩ (.int .i64 12)).heap[k']? = w7.heap[k']? := fun k' hk => ((Below.heap_setCell _ _ _ k' hk).trans ((Below.heap_setCell _ _ _ k' hk).trans ((Below.heap_setCell _ _ _ k' hk).trans ((Below.heap_setCell _ _ _ k' hk).trans ((Below.heap_setCell _ _ _ k' hk).trans ((Below.heap_setCell _ _ _ k' hk).trans ((Below.heap_setCell _ _ _ k' hk).trans ((Below.heap_setCell _ _ _ k' hk).trans ((Below.heap_setCell _ _ _ k' hk).trans ((Below.heap_setCell _ _ _ k' hk).trans ((Below.heap_setCell _ _ _ k' hk).trans ((Below.heap_setCell _ _ _ k' hk).trans (Below.heap_setCell _ _ _ k' hk)))))))))))))
              rw [HMN.out]
              exact ⟨_, _, rfl, (HP7.out.keep (HK g (Ne.symm HPh0.out.2.1))).to_R HBg.out trivial, Kd.R_mono (Kd.R_step (Kd.R_types HR7.out HZ7.out (by decide)) (fun k' hk _ => HK k' hk.2)) (fun _ _ => trivial), (((((((((((((HB7.out.setCell HNE.out.2.2 _).setCell HNE.out.2.2 _).setCell HNE.out.2.2 _).setCell HNE.out.2.2 _).setCell HNE.out.2.2 _).setCell HNE.out.2.2 _).setCell HNE.out.2.2 _).setCell HNE.out.2.2 _).setCell HNE.out.2.2 _).setCell HNE.out.2.2 _).setCell HNE.out.2.2 _).setCell HNE.out.2.2 _).setCell HNE.out.2.2 _)⟩
            · have hgt : decide ((2 : Int) < (k : Int)) = false := decide_eq_false (by omega)
              have HMN : Aside0 (madeNet k s = (P, L)) := ⟨by unfold madeNet; rw [if_neg (fun h => hk2 h.2), show k - 1 = j by omega, HN.out]⟩
              have x0 : wr.cell? ⟨bc, 0, none⟩ = some (.slice (some ⟨g, 0, none⟩) P.length cP) := (blk_cell HC.out 0).trans rfl
              have x1 : wr.cell? ⟨bc, 1, none⟩ = some (.slice A1 L.length c1) := (blk_cell HC.out 1).trans rfl
              have x2 : wr.cell? ⟨bc, 2, none⟩ = some (.int .i64 cyc) := (blk_cell HC.out 2).trans rfl
              have x3 : wr.cell? ⟨bc, 3, none⟩ = some (.int .i64 60) := (blk_cell HC.out 3).trans rfl
              have x4 : wr.cell? ⟨bc, 4, none⟩ = some (.int .i64 100) := (blk_cell HC.out 4).trans rfl
              have x5 : wr.cell? ⟨bc, 5, none⟩ = some (.int .i64 0) := (blk_cell HC.out 5).trans rfl
              have x6 : wr.cell? ⟨bc, 6, none⟩ = some (.int .i64 dr) := (blk_cell HC.out 6).trans rfl
              have x7 : wr.cell? ⟨bc, 7, none⟩ = some (.int .i64 300000) := (blk_cell HC.out 7).trans rfl
              have x8 : wr.cell? ⟨bc, 8, none⟩ = some (.int .i64 0) := (blk_cell HC.out 8).trans rfl
              have x9 : wr.cell? ⟨bc, 9, none⟩ = some (.int .i64 lo) := (blk_cell HC.out 9).trans rfl
              have x10 : wr.cell? ⟨bc, 10, none⟩ = some (.int .i64 0) := (blk_cell HC.out 10).trans rfl
              have x11 : wr.cell? ⟨bc, 11, none⟩ = some (.int .i64 0) := (blk_cell HC.out 11).trans rfl
              have x12 : wr.cell? ⟨bc, 12, none⟩ = some (.int .i64 12) := (blk_cell HC.out 12).trans rfl
              have xf8 := blk_frozen HC.out 8
              have xf10 := blk_frozen HC.out 10
              have xf11 := blk_frozen HC.out 11
              go_upto_region 22 with fail
              have HC5 : Aside0 ((((wr.setCell ⟨bc, 8, none⟩ (.int .i64 (((k : Int) - 1) * (lo + 1) + 1 + ag))).setCell ⟨bc, 10, none⟩ (.int .i64 ((k : Int) * (lo + 1) + 2 + li))).setCell ⟨bc, 11, none⟩ (.int .i64 ((k : Int) * (lo + 1) + 2))).heap[bc]? = some (.cells #[.slice (some ⟨g, 0, none⟩) P.length cP, .slice A1 L.length c1, .int .i64 cyc, .int .i64 60, .int .i64 100, .int .i64 0, .int .i64 dr, .int .i64 300000, .int .i64 (((k : Int) - 1) * (lo + 1) + 1 + ag), .int .i64 lo, .int .i64 ((k : Int) * (lo + 1) + 2 + li), .int .i64 ((k : Int) * (lo + 1) + 2), .int .i64 12] 25)) := ⟨by
                have h := blk_set (blk_set (blk_set HC.out 8 (.int .i64 (((k : Int) - 1) * (lo + 1) + 1 + ag))) 10 (.int .i64 ((k : Int) * (lo + 1) + 2 + li))) 11 (.int .i64 ((k : Int) * (lo + 1) + 2))
                simpa using h⟩
              have HK5 : Aside0 (∀ k', k' ≠ bc → (((wr.setCell ⟨bc, 8, none⟩ (.int .i64 (((k : Int) - 1) * (lo + 1) + 1 + ag))).setCell ⟨bc, 10, none⟩ (.int .i64 ((k : Int) * (lo + 1) + 2 + li))).setCell ⟨bc, 11, none⟩ (.int .i64 ((k : Int) * (lo + 1) + 2))).heap[k']? = wr.heap[k']?) := ⟨fun k' hk => (Below.heap_setCell _ _ _ k' hk).trans ((Below.heap_setCell _ _ _ k' hk).trans (Below.heap_setCell _ _ _ k' hk))⟩
              have HB5 : Aside0 (Below w.heap.size w (((wr.setCell ⟨bc, 8, none⟩ (.int .i64 (((k : Int) - 1) * (lo + 1) + 1 + ag))).setCell ⟨bc, 10, none⟩ (.int .i64 ((k : Int) * (lo + 1) + 2 + li))).setCell ⟨bc, 11, none⟩ (.int .i64 ((k : Int) * (lo + 1) + 2)))) := ⟨((HB.out.setCell HNE.out.2.1 _).setCell HNE.out.2.1 _).setCell HNE.out.2.1 _⟩
              clear x0 x1 x2 x3 x4 x5 x6 x7 x8 x9 x10 x11 x12 xf8 xf10 xf11
              generalize ((wr.setCell ⟨bc, 8, none⟩ (.int .i64 (((k : Int) - 1) * (lo + 1) + 1 + ag))).setCell ⟨bc, 10, none⟩ (.int .i64 ((k : Int) * (lo + 1) + 2 + li))).setCell ⟨bc, 11, none⟩ (.int .i64 ((k : Int) * (lo + 1) + 2)) = w5 at *
              have HZ5 := Aside0.mk ((HK5.out bz HNE.out.1).trans HZ.out)
              have HP5 := Aside0.mk (HPB.out.keep (HK5.out g (Ne.symm HPh0.out.1)))
              have HR5 : Aside0 (Kd.R k37 37 w5 w.heap.size (fun _ => True) (.slice A1 L.length c1) L) := ⟨Kd.R_mono (Kd.R_step (Kd.R_types HR.out HC.out (by decide)) (fun k' hk _ => HK5.out k' hk.2)) (fun _ _ => trivial)⟩
              have y0 : w5.cell? ⟨bc, 0, none⟩ = some (.slice (some ⟨g, 0, none⟩) P.length cP) := (blk_cell HC5.out 0).trans rfl
              have y1 : w5.cell? ⟨bc, 1, none⟩ = some (.slice A1 L.length c1) := (blk_cell HC5.out 1).trans rfl
              have y2 : w5.cell? ⟨bc, 2, none⟩ = some (.int .i64 cyc) := (blk_cell HC5.out 2).trans rfl
              have y3 : w5.cell? ⟨bc, 3, none⟩ = some (.int .i64 60) := (blk_cell HC5.out 3).trans rfl
              have y4 : w5.cell? ⟨bc, 4, none⟩ = some (.int .i64 100) := (blk_cell HC5.out 4).trans rfl
              have y5 : w5.cell? ⟨bc, 5, none⟩ = some (.int .i64 0) := (blk_cell HC5.out 5).trans rfl
              have y6 : w5.cell? ⟨bc, 6, none⟩ = some (.int .i64 dr) := (blk_cell HC5.out 6).trans rfl
              have y7 : w5.cell? ⟨bc, 7, none⟩ = some (.int .i64 300000) := (blk_cell HC5.out 7).trans rfl
              have y8 : w5.cell? ⟨bc, 8, none⟩ = some (.int .i64 (((k : Int) - 1) * (lo + 1) + 1 + ag)) := (blk_cell HC5.out 8).trans rfl
              have y9 : w5.cell? ⟨bc, 9, none⟩ = some (.int .i64 lo) := (blk_cell HC5.out 9).trans rfl
              have y10 : w5.cell? ⟨bc, 10, none⟩ = some (.int .i64 ((k : Int) * (lo + 1) + 2 + li)) := (blk_cell HC5.out 10).trans rfl
              have y11 : w5.cell? ⟨bc, 11, none⟩ = some (.int .i64 ((k : Int) * (lo + 1) + 2)) := (blk_cell HC5.out 11).trans rfl
              have y12 : w5.cell? ⟨bc, 12, none⟩ = some (.int .i64 12) := (blk_cell HC5.out 12).trans rfl
              go_wp2_with fail
              refine (drumlineref5_Edge.calls 100 (some ⟨g, 0, none⟩) cP P A1 c1 L cyc 60 100 0 dr 300000 (((k : Int) - 1) * (lo + 1) + 1 + ag) lo ((k : Int) * (lo + 1) + 2 + li) ((k : Int) * (lo + 1) + 2) 12 e w5 (Kd.R_reads' (HP5.out.to_R (B := w.heap.size) (ok := fun _ => True) HBg.out trivial)).2.2 (Kd.R_reads' (HP5.out.to_R (B := w.heap.size) (ok := fun _ => True) HBg.out trivial)).2.1 (Kd.R_reads' HR5.out).2.2 (Kd.R_reads' HR5.out).2.1 (by have := HE.out; rw [HMN.out] at this; exact this)).mono ?_
              rintro e' w6 ⟨rfl, hb⟩
              have HB6 := Aside0.mk (below_step HB5.out hb)
              have HC6 := Aside0.mk ((hb.block bc (blk_lt HC5.out)).trans HC5.out)
              have HZ6 := Aside0.mk ((hb.block bz (blk_lt HZ5.out)).trans HZ5.out)
              have HP6 := Aside0.mk (HP5.out.keep (hb.block g (by obtain ⟨cur, h1, _⟩ := HP5.out; exact blk_lt h1)))
              have HR6 := Aside0.mk (Kd.R_below HR5.out hb)
              clear hb HB5 HC5 HZ5 HP5 HR5 HK5 y0 y1 y2 y3 y4 y5 y6 y7 y8 y9 y10 y11 y12
              have x5 : w6.cell? ⟨bc, 5, none⟩ = some (.int .i64 0) := (blk_cell HC6.out 5).trans rfl
              have xf5 := blk_frozen HC6.out 5
              go_upto_region 23 with fail
              have HC7 : Aside0 ((w6.setCell ⟨bc, 5, none⟩ (.int .i64 (3 * e))).heap[bc]? = some (.cells #[.slice (some ⟨g, 0, none⟩) P.length cP, .slice A1 L.length c1, .int .i64 cyc, .int .i64 60, .int .i64 100, .int .i64 (3 * e), .int .i64 dr, .int .i64 300000, .int .i64 (((k : Int) - 1) * (lo + 1) + 1 + ag), .int .i64 lo, .int .i64 ((k : Int) * (lo + 1) + 2 + li), .int .i64 ((k : Int) * (lo + 1) + 2), .int .i64 12] 25)) := ⟨by simpa using blk_set HC6.out 5 (.int .i64 (3 * e))⟩
              have HK7 : Aside0 (∀ k', k' ≠ bc → (w6.setCell ⟨bc, 5, none⟩ (.int .i64 (3 * e))).heap[k']? = w6.heap[k']?) := ⟨fun k' hk => Below.heap_setCell _ _ _ k' hk⟩
              have HB7 : Aside0 (Below w.heap.size w (w6.setCell ⟨bc, 5, none⟩ (.int .i64 (3 * e)))) := ⟨HB6.out.setCell HNE.out.2.1 _⟩
              clear x5 xf5
              generalize w6.setCell ⟨bc, 5, none⟩ (.int .i64 (3 * e)) = w7 at *
              have HZ7 := Aside0.mk ((HK7.out bz HNE.out.1).trans HZ6.out)
              have HP7 := Aside0.mk (HP6.out.keep (HK7.out g (Ne.symm HPh0.out.1)))
              have HR7 : Aside0 (Kd.R k37 37 w7 w.heap.size (fun _ => True) (.slice A1 L.length c1) L) := ⟨Kd.R_mono (Kd.R_step (Kd.R_types HR6.out HC6.out (by decide)) (fun k' hk _ => HK7.out k' hk.2)) (fun _ _ => trivial)⟩
              clear HB6 HC6 HZ6 HP6 HR6 HK7
              have y0 : w7.cell? ⟨bc, 0, none⟩ = some (.slice (some ⟨g, 0, none⟩) P.length cP) := (blk_cell HC7.out 0).trans rfl
              have y1 : w7.cell? ⟨bc, 1, none⟩ = some (.slice A1 L.length c1) := (blk_cell HC7.out 1).trans rfl
              have y2 : w7.cell? ⟨bc, 2, none⟩ = some (.int .i64 cyc) := (blk_cell HC7.out 2).trans rfl
              have y3 : w7.cell? ⟨bc, 3, none⟩ = some (.int .i64 60) := (blk_cell HC7.out 3).trans rfl
              have y4 : w7.cell? ⟨bc, 4, none⟩ = some (.int .i64 100) := (blk_cell HC7.out 4).trans rfl
              have y5 : w7.cell? ⟨bc, 5, none⟩ = some (.int .i64 (3 * e)) := (blk_cell HC7.out 5).trans rfl
              have y6 : w7.cell? ⟨bc, 6, none⟩ = some (.int .i64 dr) := (blk_cell HC7.out 6).trans rfl
              have y7 : w7.cell? ⟨bc, 7, none⟩ = some (.int .i64 300000) := (blk_cell HC7.out 7).trans rfl
              have y8 : w7.cell? ⟨bc, 8, none⟩ = some (.int .i64 (((k : Int) - 1) * (lo + 1) + 1 + ag)) := (blk_cell HC7.out 8).trans rfl
              have y9 : w7.cell? ⟨bc, 9, none⟩ = some (.int .i64 lo) := (blk_cell HC7.out 9).trans rfl
              have y10 : w7.cell? ⟨bc, 10, none⟩ = some (.int .i64 ((k : Int) * (lo + 1) + 2 + li)) := (blk_cell HC7.out 10).trans rfl
              have y11 : w7.cell? ⟨bc, 11, none⟩ = some (.int .i64 ((k : Int) * (lo + 1) + 2)) := (blk_cell HC7.out 11).trans rfl
              have y12 : w7.cell? ⟨bc, 12, none⟩ = some (.int .i64 12) := (blk_cell HC7.out 12).trans rfl
              have u0_ : w7.cell? ⟨bz, 0, none⟩ = some (.slice none 0 0) := (blk_cell HZ7.out 0).trans rfl
              have uf0_ := blk_frozen HZ7.out 0
              have u1_ : w7.cell? ⟨bz, 1, none⟩ = some (.slice none 0 0) := (blk_cell HZ7.out 1).trans rfl
              have uf1_ := blk_frozen HZ7.out 1
              have u2_ : w7.cell? ⟨bz, 2, none⟩ = some (.int .i64 0) := (blk_cell HZ7.out 2).trans rfl
              have uf2_ := blk_frozen HZ7.out 2
              have u3_ : w7.cell? ⟨bz, 3, none⟩ = some (.int .i64 0) := (blk_cell HZ7.out 3).trans rfl
              have uf3_ := blk_frozen HZ7.out 3
              have u4_ : w7.cell? ⟨bz, 4, none⟩ = some (.int .i64 0) := (blk_cell HZ7.out 4).trans rfl
              have uf4_ := blk_frozen HZ7.out 4
              have u5_ : w7.cell? ⟨bz, 5, none⟩ = some (.int .i64 0) := (blk_cell HZ7.out 5).trans rfl
              have uf5_ := blk_frozen HZ7.out 5
              have u6_ : w7.cell? ⟨bz, 6, none⟩ = some (.int .i64 0) := (blk_cell HZ7.out 6).trans rfl
              have uf6_ := blk_frozen HZ7.out 6
              have u7_ : w7.cell? ⟨bz, 7, none⟩ = some (.int .i64 0) := (blk_cell HZ7.out 7).trans rfl
              have uf7_ := blk_frozen HZ7.out 7
              have u8_ : w7.cell? ⟨bz, 8, none⟩ = some (.int .i64 0) := (blk_cell HZ7.out 8).trans rfl
              have uf8_ := blk_frozen HZ7.out 8
              have u9_ : w7.cell? ⟨bz, 9, none⟩ = some (.int .i64 0) := (blk_cell HZ7.out 9).trans rfl
              have uf9_ := blk_frozen HZ7.out 9
              have u10_ : w7.cell? ⟨bz, 10, none⟩ = some (.int .i64 0) := (blk_cell HZ7.out 10).trans rfl
              have uf10_ := blk_frozen HZ7.out 10
              have u11_ : w7.cell? ⟨bz, 11, none⟩ = some (.int .i64 0) := (blk_cell HZ7.out 11).trans rfl
              have uf11_ := blk_frozen HZ7.out 11
              have u12_ : w7.cell? ⟨bz, 12, none⟩ = some (.int .i64 0) := (blk_cell HZ7.out 12).trans rfl
              have uf12_ := blk_frozen HZ7.out 12
              have hnb := HNE.out.1
              have hnb' : bc ≠ bz := Ne.symm hnb
              go_wp2_with fail
              refine bodyPost_ret (results_cell_row rfl _ _ bz 25 #[.slice (some ⟨g, 0, none⟩) P.length cP, .slice A1 L.length c1, .int .i64 cyc, .int .i64 60, .int .i64 100, .int .i64 (3 * e), .int .i64 dr, .int .i64 300000, .int .i64 (((k : Int) - 1) * (lo + 1) + 1 + ag), .int .i64 lo, .int .i64 ((k : Int) * (lo + 1) + 2 + li), .int .i64 ((k : Int) * (lo + 1) + 2), .int .i64 12] (0, 0) _ rfl (by
                have h := blk_set (blk_set (blk_set (blk_set (blk_set (blk_set (blk_set (blk_set (blk_set (blk_set (blk_set (blk_set (blk_set (HZ7.out) 0 (.slice (some ⟨g, 0, none⟩) P.length cP)) 1 (.slice A1 L.length c1)) 2 (.int .i64 cyc)) 3 (.int .i64 60)) 4 (.int .i64 100)) 5 (.int .i64 (3 * e))) 6 (.int .i64 dr)) 7 (.int .i64 300000)) 8 (.int .i64 (((k : Int) - 1) * (lo + 1) + 1 + ag))) 9 (.int .i64 lo)) 10 (.int .i64 ((k : Int) * (lo + 1) + 2 + li))) 11 (.int .i64 ((k : Int) * (lo + 1) + 2))) 12 (.int .i64 12)
                simpa using h) Tryd.underlying25 rfl (by kernel_rfl)) rfl ?_
              have HK : ∀ k', k' ≠ bz → (((((((((((((w7.setCell ⟨bz, 0, none⟩ (.slice (some ⟨g, 0, none⟩) P.length cP)).setCell ⟨bz, 1, none⟩ (.slice A1 L.length c1)).setCell ⟨bz, 2, none⟩ (.int .i64 cyc)).setCell ⟨bz, 3, none⟩ (.int .i64 60)).setCell ⟨bz, 4, none⟩ (.int .i64 100)).setCell ⟨bz, 5, none⟩ (.int .i64 (3 * e))).setCell ⟨bz, 6, none⟩ (.int .i64 dr)).setCell ⟨bz, 7, none⟩ (.int .i64 300000)).setCell ⟨bz, 8, none⟩ (.int .i64 (((k : Int) - 1) * (lo + 1) + 1 + ag))).setCell ⟨bz, 9, none⟩ (.int .i64 lo)).setCell ⟨bz, 10, none⟩ (.int .i64 ((k : Int) * (lo + 1) + 2 + li))).setCell ⟨bz, 11, none⟩ (.int .i64 ((k : Int) * (lo + 1) + 2))).setCell ⟨bz, 12, none⟩ (.int .i64 12)).heap[k']? = w7.heap[k']? := fun k' hk => ((Below.heap_setCell _ _ _ k' hk).trans ((Below.heap_setCell _ _ _ k' hk).trans ((Below.heap_setCell _ _ _ k' hk).trans ((Below.heap_setCell _ _ _ k' hk).trans ((Below.heap_setCell _ _ _ k' hk).trans ((Below.heap_setCell _ _ _ k' hk).trans ((Below.heap_setCell _ _ _ k' hk).trans ((Below.heap_setCell _ _ _ k' hk).trans ((Below.heap_setCell _ _ _ k' hk).trans ((Below.heap_setCell _ _ _ k' hk).trans ((Below.heap_setCell _ _ _ k' hk).trans ((Below.heap_setCell _ _ _ k' hk).trans (Below.heap_setCell _ _ _ k' hk)))))))))))))
              rw [HMN.out]
              exact ⟨_, _, rfl, (HP7.out.keep (HK g (Ne.symm HPh0.out.2.1))).to_R HBg.out trivial, Kd.R_mono (Kd.R_step (Kd.R_types HR7.out HZ7.out (by decide)) (fun k' hk _ => HK k' hk.2)) (fun _ _ => trivial), (((((((((((((HB7.out.setCell HNE.out.2.2 _).setCell HNE.out.2.2 _).setCell HNE.out.2.2 _).setCell HNE.out.2.2 _).setCell HNE.out.2.2 _).setCell HNE.out.2.2 _).setCell HNE.out.2.2 _).setCell HNE.out.2.2 _).setCell HNE.out.2.2 _).setCell HNE.out.2.2 _).setCell HNE.out.2.2 _).setCell HNE.out.2.2 _).setCell HNE.out.2.2 _)⟩
          · have hse : ((s : Int) == 1) = false := beq_eq_false_iff_ne.mpr (by omega)
            have HMN : Aside0 (madeNet k s = (P, L)) := ⟨by unfold madeNet; rw [if_neg (fun h => hs1 h.1), show k - 1 = j by omega, HN.out]⟩
            have x0 : wr.cell? ⟨bc, 0, none⟩ = some (.slice (some ⟨g, 0, none⟩) P.length cP) := (blk_cell HC.out 0).trans rfl
            have x1 : wr.cell? ⟨bc, 1, none⟩ = some (.slice A1 L.length c1) := (blk_cell HC.out 1).trans rfl
            have x2 : wr.cell? ⟨bc, 2, none⟩ = some (.int .i64 cyc) := (blk_cell HC.out 2).trans rfl
            have x3 : wr.cell? ⟨bc, 3, none⟩ = some (.int .i64 60) := (blk_cell HC.out 3).trans rfl
            have x4 : wr.cell? ⟨bc, 4, none⟩ = some (.int .i64 100) := (blk_cell HC.out 4).trans rfl
            have x5 : wr.cell? ⟨bc, 5, none⟩ = some (.int .i64 0) := (blk_cell HC.out 5).trans rfl
            have x6 : wr.cell? ⟨bc, 6, none⟩ = some (.int .i64 dr) := (blk_cell HC.out 6).trans rfl
            have x7 : wr.cell? ⟨bc, 7, none⟩ = some (.int .i64 300000) := (blk_cell HC.out 7).trans rfl
            have x8 : wr.cell? ⟨bc, 8, none⟩ = some (.int .i64 0) := (blk_cell HC.out 8).trans rfl
            have x9 : wr.cell? ⟨bc, 9, none⟩ = some (.int .i64 lo) := (blk_cell HC.out 9).trans rfl
            have x10 : wr.cell? ⟨bc, 10, none⟩ = some (.int .i64 0) := (blk_cell HC.out 10).trans rfl
            have x11 : wr.cell? ⟨bc, 11, none⟩ = some (.int .i64 0) := (blk_cell HC.out 11).trans rfl
            have x12 : wr.cell? ⟨bc, 12, none⟩ = some (.int .i64 12) := (blk_cell HC.out 12).trans rfl
            have xf8 := blk_frozen HC.out 8
            have xf10 := blk_frozen HC.out 10
            have xf11 := blk_frozen HC.out 11
            go_upto_region 22 with fail
            have HC5 : Aside0 ((((wr.setCell ⟨bc, 8, none⟩ (.int .i64 (((k : Int) - 1) * (lo + 1) + 1 + ag))).setCell ⟨bc, 10, none⟩ (.int .i64 ((k : Int) * (lo + 1) + 2 + li))).setCell ⟨bc, 11, none⟩ (.int .i64 ((k : Int) * (lo + 1) + 2))).heap[bc]? = some (.cells #[.slice (some ⟨g, 0, none⟩) P.length cP, .slice A1 L.length c1, .int .i64 cyc, .int .i64 60, .int .i64 100, .int .i64 0, .int .i64 dr, .int .i64 300000, .int .i64 (((k : Int) - 1) * (lo + 1) + 1 + ag), .int .i64 lo, .int .i64 ((k : Int) * (lo + 1) + 2 + li), .int .i64 ((k : Int) * (lo + 1) + 2), .int .i64 12] 25)) := ⟨by
              have h := blk_set (blk_set (blk_set HC.out 8 (.int .i64 (((k : Int) - 1) * (lo + 1) + 1 + ag))) 10 (.int .i64 ((k : Int) * (lo + 1) + 2 + li))) 11 (.int .i64 ((k : Int) * (lo + 1) + 2))
              simpa using h⟩
            have HK5 : Aside0 (∀ k', k' ≠ bc → (((wr.setCell ⟨bc, 8, none⟩ (.int .i64 (((k : Int) - 1) * (lo + 1) + 1 + ag))).setCell ⟨bc, 10, none⟩ (.int .i64 ((k : Int) * (lo + 1) + 2 + li))).setCell ⟨bc, 11, none⟩ (.int .i64 ((k : Int) * (lo + 1) + 2))).heap[k']? = wr.heap[k']?) := ⟨fun k' hk => (Below.heap_setCell _ _ _ k' hk).trans ((Below.heap_setCell _ _ _ k' hk).trans (Below.heap_setCell _ _ _ k' hk))⟩
            have HB5 : Aside0 (Below w.heap.size w (((wr.setCell ⟨bc, 8, none⟩ (.int .i64 (((k : Int) - 1) * (lo + 1) + 1 + ag))).setCell ⟨bc, 10, none⟩ (.int .i64 ((k : Int) * (lo + 1) + 2 + li))).setCell ⟨bc, 11, none⟩ (.int .i64 ((k : Int) * (lo + 1) + 2)))) := ⟨((HB.out.setCell HNE.out.2.1 _).setCell HNE.out.2.1 _).setCell HNE.out.2.1 _⟩
            clear x0 x1 x2 x3 x4 x5 x6 x7 x8 x9 x10 x11 x12 xf8 xf10 xf11
            generalize ((wr.setCell ⟨bc, 8, none⟩ (.int .i64 (((k : Int) - 1) * (lo + 1) + 1 + ag))).setCell ⟨bc, 10, none⟩ (.int .i64 ((k : Int) * (lo + 1) + 2 + li))).setCell ⟨bc, 11, none⟩ (.int .i64 ((k : Int) * (lo + 1) + 2)) = w5 at *
            have HZ5 := Aside0.mk ((HK5.out bz HNE.out.1).trans HZ.out)
            have HP5 := Aside0.mk (HPB.out.keep (HK5.out g (Ne.symm HPh0.out.1)))
            have HR5 : Aside0 (Kd.R k37 37 w5 w.heap.size (fun _ => True) (.slice A1 L.length c1) L) := ⟨Kd.R_mono (Kd.R_step (Kd.R_types HR.out HC.out (by decide)) (fun k' hk _ => HK5.out k' hk.2)) (fun _ _ => trivial)⟩
            have y0 : w5.cell? ⟨bc, 0, none⟩ = some (.slice (some ⟨g, 0, none⟩) P.length cP) := (blk_cell HC5.out 0).trans rfl
            have y1 : w5.cell? ⟨bc, 1, none⟩ = some (.slice A1 L.length c1) := (blk_cell HC5.out 1).trans rfl
            have y2 : w5.cell? ⟨bc, 2, none⟩ = some (.int .i64 cyc) := (blk_cell HC5.out 2).trans rfl
            have y3 : w5.cell? ⟨bc, 3, none⟩ = some (.int .i64 60) := (blk_cell HC5.out 3).trans rfl
            have y4 : w5.cell? ⟨bc, 4, none⟩ = some (.int .i64 100) := (blk_cell HC5.out 4).trans rfl
            have y5 : w5.cell? ⟨bc, 5, none⟩ = some (.int .i64 0) := (blk_cell HC5.out 5).trans rfl
            have y6 : w5.cell? ⟨bc, 6, none⟩ = some (.int .i64 dr) := (blk_cell HC5.out 6).trans rfl
            have y7 : w5.cell? ⟨bc, 7, none⟩ = some (.int .i64 300000) := (blk_cell HC5.out 7).trans rfl
            have y8 : w5.cell? ⟨bc, 8, none⟩ = some (.int .i64 (((k : Int) - 1) * (lo + 1) + 1 + ag)) := (blk_cell HC5.out 8).trans rfl
            have y9 : w5.cell? ⟨bc, 9, none⟩ = some (.int .i64 lo) := (blk_cell HC5.out 9).trans rfl
            have y10 : w5.cell? ⟨bc, 10, none⟩ = some (.int .i64 ((k : Int) * (lo + 1) + 2 + li)) := (blk_cell HC5.out 10).trans rfl
            have y11 : w5.cell? ⟨bc, 11, none⟩ = some (.int .i64 ((k : Int) * (lo + 1) + 2)) := (blk_cell HC5.out 11).trans rfl
            have y12 : w5.cell? ⟨bc, 12, none⟩ = some (.int .i64 12) := (blk_cell HC5.out 12).trans rfl
            go_wp2_with fail
            refine (drumlineref5_Edge.calls 100 (some ⟨g, 0, none⟩) cP P A1 c1 L cyc 60 100 0 dr 300000 (((k : Int) - 1) * (lo + 1) + 1 + ag) lo ((k : Int) * (lo + 1) + 2 + li) ((k : Int) * (lo + 1) + 2) 12 e w5 (Kd.R_reads' (HP5.out.to_R (B := w.heap.size) (ok := fun _ => True) HBg.out trivial)).2.2 (Kd.R_reads' (HP5.out.to_R (B := w.heap.size) (ok := fun _ => True) HBg.out trivial)).2.1 (Kd.R_reads' HR5.out).2.2 (Kd.R_reads' HR5.out).2.1 (by have := HE.out; rw [HMN.out] at this; exact this)).mono ?_
            rintro e' w6 ⟨rfl, hb⟩
            have HB6 := Aside0.mk (below_step HB5.out hb)
            have HC6 := Aside0.mk ((hb.block bc (blk_lt HC5.out)).trans HC5.out)
            have HZ6 := Aside0.mk ((hb.block bz (blk_lt HZ5.out)).trans HZ5.out)
            have HP6 := Aside0.mk (HP5.out.keep (hb.block g (by obtain ⟨cur, h1, _⟩ := HP5.out; exact blk_lt h1)))
            have HR6 := Aside0.mk (Kd.R_below HR5.out hb)
            clear hb HB5 HC5 HZ5 HP5 HR5 HK5 y0 y1 y2 y3 y4 y5 y6 y7 y8 y9 y10 y11 y12
            have x5 : w6.cell? ⟨bc, 5, none⟩ = some (.int .i64 0) := (blk_cell HC6.out 5).trans rfl
            have xf5 := blk_frozen HC6.out 5
            go_upto_region 23 with fail
            have HC7 : Aside0 ((w6.setCell ⟨bc, 5, none⟩ (.int .i64 (3 * e))).heap[bc]? = some (.cells #[.slice (some ⟨g, 0, none⟩) P.length cP, .slice A1 L.length c1, .int .i64 cyc, .int .i64 60, .int .i64 100, .int .i64 (3 * e), .int .i64 dr, .int .i64 300000, .int .i64 (((k : Int) - 1) * (lo + 1) + 1 + ag), .int .i64 lo, .int .i64 ((k : Int) * (lo + 1) + 2 + li), .int .i64 ((k : Int) * (lo + 1) + 2), .int .i64 12] 25)) := ⟨by simpa using blk_set HC6.out 5 (.int .i64 (3 * e))⟩
            have HK7 : Aside0 (∀ k', k' ≠ bc → (w6.setCell ⟨bc, 5, none⟩ (.int .i64 (3 * e))).heap[k']? = w6.heap[k']?) := ⟨fun k' hk => Below.heap_setCell _ _ _ k' hk⟩
            have HB7 : Aside0 (Below w.heap.size w (w6.setCell ⟨bc, 5, none⟩ (.int .i64 (3 * e)))) := ⟨HB6.out.setCell HNE.out.2.1 _⟩
            clear x5 xf5
            generalize w6.setCell ⟨bc, 5, none⟩ (.int .i64 (3 * e)) = w7 at *
            have HZ7 := Aside0.mk ((HK7.out bz HNE.out.1).trans HZ6.out)
            have HP7 := Aside0.mk (HP6.out.keep (HK7.out g (Ne.symm HPh0.out.1)))
            have HR7 : Aside0 (Kd.R k37 37 w7 w.heap.size (fun _ => True) (.slice A1 L.length c1) L) := ⟨Kd.R_mono (Kd.R_step (Kd.R_types HR6.out HC6.out (by decide)) (fun k' hk _ => HK7.out k' hk.2)) (fun _ _ => trivial)⟩
            clear HB6 HC6 HZ6 HP6 HR6 HK7
            have y0 : w7.cell? ⟨bc, 0, none⟩ = some (.slice (some ⟨g, 0, none⟩) P.length cP) := (blk_cell HC7.out 0).trans rfl
            have y1 : w7.cell? ⟨bc, 1, none⟩ = some (.slice A1 L.length c1) := (blk_cell HC7.out 1).trans rfl
            have y2 : w7.cell? ⟨bc, 2, none⟩ = some (.int .i64 cyc) := (blk_cell HC7.out 2).trans rfl
            have y3 : w7.cell? ⟨bc, 3, none⟩ = some (.int .i64 60) := (blk_cell HC7.out 3).trans rfl
            have y4 : w7.cell? ⟨bc, 4, none⟩ = some (.int .i64 100) := (blk_cell HC7.out 4).trans rfl
            have y5 : w7.cell? ⟨bc, 5, none⟩ = some (.int .i64 (3 * e)) := (blk_cell HC7.out 5).trans rfl
            have y6 : w7.cell? ⟨bc, 6, none⟩ = some (.int .i64 dr) := (blk_cell HC7.out 6).trans rfl
            have y7 : w7.cell? ⟨bc, 7, none⟩ = some (.int .i64 300000) := (blk_cell HC7.out 7).trans rfl
            have y8 : w7.cell? ⟨bc, 8, none⟩ = some (.int .i64 (((k : Int) - 1) * (lo + 1) + 1 + ag)) := (blk_cell HC7.out 8).trans rfl
            have y9 : w7.cell? ⟨bc, 9, none⟩ = some (.int .i64 lo) := (blk_cell HC7.out 9).trans rfl
            have y10 : w7.cell? ⟨bc, 10, none⟩ = some (.int .i64 ((k : Int) * (lo + 1) + 2 + li)) := (blk_cell HC7.out 10).trans rfl
            have y11 : w7.cell? ⟨bc, 11, none⟩ = some (.int .i64 ((k : Int) * (lo + 1) + 2)) := (blk_cell HC7.out 11).trans rfl
            have y12 : w7.cell? ⟨bc, 12, none⟩ = some (.int .i64 12) := (blk_cell HC7.out 12).trans rfl
            have u0_ : w7.cell? ⟨bz, 0, none⟩ = some (.slice none 0 0) := (blk_cell HZ7.out 0).trans rfl
            have uf0_ := blk_frozen HZ7.out 0
            have u1_ : w7.cell? ⟨bz, 1, none⟩ = some (.slice none 0 0) := (blk_cell HZ7.out 1).trans rfl
            have uf1_ := blk_frozen HZ7.out 1
            have u2_ : w7.cell? ⟨bz, 2, none⟩ = some (.int .i64 0) := (blk_cell HZ7.out 2).trans rfl
            have uf2_ := blk_frozen HZ7.out 2
            have u3_ : w7.cell? ⟨bz, 3, none⟩ = some (.int .i64 0) := (blk_cell HZ7.out 3).trans rfl
            have uf3_ := blk_frozen HZ7.out 3
            have u4_ : w7.cell? ⟨bz, 4, none⟩ = some (.int .i64 0) := (blk_cell HZ7.out 4).trans rfl
            have uf4_ := blk_frozen HZ7.out 4
            have u5_ : w7.cell? ⟨bz, 5, none⟩ = some (.int .i64 0) := (blk_cell HZ7.out 5).trans rfl
            have uf5_ := blk_frozen HZ7.out 5
            have u6_ : w7.cell? ⟨bz, 6, none⟩ = some (.int .i64 0) := (blk_cell HZ7.out 6).trans rfl
            have uf6_ := blk_frozen HZ7.out 6
            have u7_ : w7.cell? ⟨bz, 7, none⟩ = some (.int .i64 0) := (blk_cell HZ7.out 7).trans rfl
            have uf7_ := blk_frozen HZ7.out 7
            have u8_ : w7.cell? ⟨bz, 8, none⟩ = some (.int .i64 0) := (blk_cell HZ7.out 8).trans rfl
            have uf8_ := blk_frozen HZ7.out 8
            have u9_ : w7.cell? ⟨bz, 9, none⟩ = some (.int .i64 0) := (blk_cell HZ7.out 9).trans rfl
            have uf9_ := blk_frozen HZ7.out 9
            have u10_ : w7.cell? ⟨bz, 10, none⟩ = some (.int .i64 0) := (blk_cell HZ7.out 10).trans rfl
            have uf10_ := blk_frozen HZ7.out 10
            have u11_ : w7.cell? ⟨bz, 11, none⟩ = some (.int .i64 0) := (blk_cell HZ7.out 11).trans rfl
            have uf11_ := blk_frozen HZ7.out 11
            have u12_ : w7.cell? ⟨bz, 12, none⟩ = some (.int .i64 0) := (blk_cell HZ7.out 12).trans rfl
            have uf12_ := blk_frozen HZ7.out 12
            have hnb := HNE.out.1
            have hnb' : bc ≠ bz := Ne.symm hnb
            go_wp2_with fail
            refine bodyPost_ret (results_cell_row rfl _ _ bz 25 #[.slice (some ⟨g, 0, none⟩) P.length cP, .slice A1 L.length c1, .int .i64 cyc, .int .i64 60, .int .i64 100, .int .i64 (3 * e), .int .i64 dr, .int .i64 300000, .int .i64 (((k : Int) - 1) * (lo + 1) + 1 + ag), .int .i64 lo, .int .i64 ((k : Int) * (lo + 1) + 2 + li), .int .i64 ((k : Int) * (lo + 1) + 2), .int .i64 12] (0, 0) _ rfl (by
              have h := blk_set (blk_set (blk_set (blk_set (blk_set (blk_set (blk_set (blk_set (blk_set (blk_set (blk_set (blk_set (blk_set (HZ7.out) 0 (.slice (some ⟨g, 0, none⟩) P.length cP)) 1 (.slice A1 L.length c1)) 2 (.int .i64 cyc)) 3 (.int .i64 60)) 4 (.int .i64 100)) 5 (.int .i64 (3 * e))) 6 (.int .i64 dr)) 7 (.int .i64 300000)) 8 (.int .i64 (((k : Int) - 1) * (lo + 1) + 1 + ag))) 9 (.int .i64 lo)) 10 (.int .i64 ((k : Int) * (lo + 1) + 2 + li))) 11 (.int .i64 ((k : Int) * (lo + 1) + 2))) 12 (.int .i64 12)
              simpa using h) Tryd.underlying25 rfl (by kernel_rfl)) rfl ?_
            have HK : ∀ k', k' ≠ bz → (((((((((((((w7.setCell ⟨bz, 0, none⟩ (.slice (some ⟨g, 0, none⟩) P.length cP)).setCell ⟨bz, 1, none⟩ (.slice A1 L.length c1)).setCell ⟨bz, 2, none⟩ (.int .i64 cyc)).setCell ⟨bz, 3, none⟩ (.int .i64 60)).setCell ⟨bz, 4, none⟩ (.int .i64 100)).setCell ⟨bz, 5, none⟩ (.int .i64 (3 * e))).setCell ⟨bz, 6, none⟩ (.int .i64 dr)).setCell ⟨bz, 7, none⟩ (.int .i64 300000)).setCell ⟨bz, 8, none⟩ (.int .i64 (((k : Int) - 1) * (lo + 1) + 1 + ag))).setCell ⟨bz, 9, none⟩ (.int .i64 lo)).setCell ⟨bz, 10, none⟩ (.int .i64 ((k : Int) * (lo + 1) + 2 + li))).setCell ⟨bz, 11, none⟩ (.int .i64 ((k : Int) * (lo + 1) + 2))).setCell ⟨bz, 12, none⟩ (.int .i64 12)).heap[k']? = w7.heap[k']? := fun k' hk => ((Below.heap_setCell _ _ _ k' hk).trans ((Below.heap_setCell _ _ _ k' hk).trans ((Below.heap_setCell _ _ _ k' hk).trans ((Below.heap_setCell _ _ _ k' hk).trans ((Below.heap_setCell _ _ _ k' hk).trans ((Below.heap_setCell _ _ _ k' hk).trans ((Below.heap_setCell _ _ _ k' hk).trans ((Below.heap_setCell _ _ _ k' hk).trans ((Below.heap_setCell _ _ _ k' hk).trans ((Below.heap_setCell _ _ _ k' hk).trans ((Below.heap_setCell _ _ _ k' hk).trans ((Below.heap_setCell _ _ _ k' hk).trans (Below.heap_setCell _ _ _ k' hk)))))))))))))
            rw [HMN.out]
            exact ⟨_, _, rfl, (HP7.out.keep (HK g (Ne.symm HPh0.out.2.1))).to_R HBg.out trivial, Kd.R_mono (Kd.R_step (Kd.R_types HR7.out HZ7.out (by decide)) (fun k' hk _ => HK k' hk.2)) (fun _ _ => trivial), (((((((((((((HB7.out.setCell HNE.out.2.2 _).setCell HNE.out.2.2 _).setCell HNE.out.2.2 _).setCell HNE.out.2.2 _).setCell HNE.out.2.2 _).setCell HNE.out.2.2 _).setCell HNE.out.2.2 _).setCell HNE.out.2.2 _).setCell HNE.out.2.2 _).setCell HNE.out.2.2 _).setCell HNE.out.2.2 _).setCell HNE.out.2.2 _).setCell HNE.out.2.2 _)⟩
end Go.Proofs.YtkhlndhleiaokaaDoor.MHo
set_option linter.unusedVariables false
namespace Go.Proofs.YtkhlndhleiaokaaDoor.MHo
open Go.RowKit Go.Proofs.YtkhlndhleiaokaaDoorW.PrintWords
theorem cnt_take {L : List S37} {p : Int} {i : Nat} (hi : i < L.length) : cnt (L.take (i + 1)) p = cnt (L.take i) p + (if (rd_T37 L i).f0 = p ∨ (rd_T37 L i).f1 = p then 2 else 0) := by
  unfold cnt
  have hr : rd_T37 L (i : Int) = L[i] := by simp [rd_T37, List.getD_eq_getElem?_getD, hi]
  rw [hr, List.take_succ_eq_append_getElem hi, List.filter_append, List.length_append]
  by_cases c : L[i].f0 = p ∨ L[i].f1 = p
  · rw [if_pos c, List.filter_cons_of_pos (by rcases c with c | c <;> simp [c])]
    simp
    omega
  · rw [if_neg c, List.filter_cons_of_neg (by simp only [not_or] at c; simp [c.1, c.2])]
    simp
theorem ports_from (P : List S60) (L : List S37) (a a2 a3 a4 a5 a6 a7 a8 a9 a10 a11 a12 : Int) (hL : L.length ≤ 10) : ∀ (d i k : Nat), i + d = L.length → d < k →
    drumlineref26_ports.l0 k a (cnt (L.take i) a) i P L a2 a3 a4 a5 a6 a7 a8 a9 a10 a11 a12 = some (cnt L a)
  | 0, i, k + 1, h, _ => by
    rw [drumlineref26_ports.l0, if_neg (by omega), List.take_of_length_le (by omega)]
  | d + 1, i, k + 1, h, hk => by
    have hi : i < L.length := by omega
    have hb := cnt_b (L.take i) a
    have hl : (L.take i).length ≤ 10 := by rw [List.length_take]; omega
    have e2 : wrap64 (cnt (L.take i) a + 2) = cnt (L.take i) a + 2 := by unfold wrap64; omega
    have e1 : wrap64 ((i : Int) + 1) = ((i + 1 : Nat) : Int) := by unfold wrap64; omega
    have ih := ports_from P L a a2 a3 a4 a5 a6 a7 a8 a9 a10 a11 a12 hL d (i + 1) k (by omega) (by omega)
    rw [cnt_take hi] at ih
    rw [drumlineref26_ports.l0, if_pos (by omega), if_pos (by omega), e1, e2]
    by_cases c0 : (rd_T37 L i).f0 = a
    · rw [if_pos c0]
      rw [if_pos (.inl c0)] at ih
      exact ih
    · rw [if_neg c0]
      by_cases c1 : (rd_T37 L i).f1 = a
      · rw [if_pos c1]
        rw [if_pos (.inr c1)] at ih
        exact ih
      · rw [if_neg c1]
        rw [if_neg (by simp only [not_or]; exact ⟨c0, c1⟩), Int.add_zero] at ih
        exact ih
theorem ports_cnt (P : List S60) (L : List S37) (a : Int) (a2 a3 a4 a5 a6 a7 a8 a9 a10 a11 a12 : Int) (hL : L.length ≤ 10) : drumlineref26_ports.f 100 P L a2 a3 a4 a5 a6 a7 a8 a9 a10 a11 a12 a = some (cnt L a) :=
  ports_from P L a a2 a3 a4 a5 a6 a7 a8 a9 a10 a11 a12 hL L.length 0 100 (by omega) (by omega)
end Go.Proofs.YtkhlndhleiaokaaDoor.MHo
namespace Go.Proofs.YtkhlndhleiaokaaDoor.MHo
open Go.RowKit Go.Proofs.YtkhlndhleiaokaaDoorW.PrintWords Go.Proofs.YtkhlndhleiaokaaDoorW.PrintLast Go.Proofs.YtkhlndhleiaokaaDoorW.PrintMore
attribute [local go_sem] mp_u32s mp_u32m mp_u8s mp_u8m max2_int min2_int max_two min_two max_three min_three max_four min_four   -- for this text's walks alone
set_option linter.unusedVariables false
set_option linter.unusedSimpArgs false

/-! ### drumlineref26_Made: function 20 -/
def drumlineref26_Made.f (a0 : Int) : Option (List S60 × List S37 × Int × Int × Int × Int × Int × Int × Int × Int × Int × Int × Int) :=
 (drumlineref5_Edge.f 100 (madeNet (1 + a0 % 65536 % 4).toNat (a0 % 65536 / 4 % 4).toNat).1 (madeNet (1 + a0 % 65536 % 4).toNat (a0 % 65536 / 4 % 4).toNat).2 (20000 + 1000 * (a0 % 65536 / 16 % 8)) 60 100 0 (20 * (a0 % 65536 / 128 % 8)) 300000
   ((((1 + a0 % 65536 % 4).toNat : Int) - 1) * (a0 % 65536 / 1024 % 2 + 1) + 1 + a0 % 65536 / 2048 % 4) (a0 % 65536 / 1024 % 2) (((1 + a0 % 65536 % 4).toNat : Int) * (a0 % 65536 / 1024 % 2 + 1) + 2 + a0 % 65536 / 8192 % 2) (((1 + a0 % 65536 % 4).toNat : Int) * (a0 % 65536 / 1024 % 2 + 1) + 2) 12).bind fun e =>
  if 0 ≤ e ∧ e ≤ 1000000 then
   some ((madeNet (1 + a0 % 65536 % 4).toNat (a0 % 65536 / 4 % 4).toNat).1, (madeNet (1 + a0 % 65536 % 4).toNat (a0 % 65536 / 4 % 4).toNat).2, 20000 + 1000 * (a0 % 65536 / 16 % 8), 60, 100, 3 * e, 20 * (a0 % 65536 / 128 % 8), 300000,
    (((1 + a0 % 65536 % 4).toNat : Int) - 1) * (a0 % 65536 / 1024 % 2 + 1) + 1 + a0 % 65536 / 2048 % 4, a0 % 65536 / 1024 % 2, ((1 + a0 % 65536 % 4).toNat : Int) * (a0 % 65536 / 1024 % 2 + 1) + 2 + a0 % 65536 / 8192 % 2, ((1 + a0 % 65536 % 4).toNat : Int) * (a0 % 65536 / 1024 % 2 + 1) + 2, 12)
  else none
theorem drumlineref26_Made.calls (a0 : Int) (r1 : List S60) (r2 : List S37) (r3 r4 r5 r6 r7 r8 r9 r10 r11 r12 r13 : Int) (w : World) (h : drumlineref26_Made.f a0 = some (r1, r2, r3, r4, r5, r6, r7, r8, r9, r10, r11, r12, r13)) :
  Calls Tryd.prog 20 #[.int .i64 a0] w fun e w' => ∃ v0 v1, e = .returned (.agg #[v0, v1, .int .i64 r3, .int .i64 r4, .int .i64 r5, .int .i64 r6, .int .i64 r7, .int .i64 r8, .int .i64 r9, .int .i64 r10, .int .i64 r11, .int .i64 r12, .int .i64 r13]) ∧ Kd.R k60 60 w' w.heap.size (fun _ => True) v0 r1 ∧ Kd.R k37 37 w' w.heap.size (fun _ => True) v1 r2 ∧ Below w.heap.size w w' := by
 unfold drumlineref26_Made.f at h
 obtain ⟨e, he, h⟩ := Option.bind_eq_some_iff.mp h
 split at h
 ·rename_i hb
  simp only [Option.some.injEq, Prod.mk.injEq] at h
  obtain ⟨rfl, rfl, rfl, rfl, rfl, rfl, rfl, rfl, rfl, rfl, rfl, rfl, rfl⟩ := h
  exact made_walk a0 (a0 % 65536) _ _ _ _ _ (1 + a0 % 65536 % 4).toNat (a0 % 65536 / 4 % 4).toNat w rfl (by omega) (by omega) rfl rfl rfl rfl rfl e he hb.1 hb.2 ports_cnt
 ·cases h

end Go.Proofs.YtkhlndhleiaokaaDoor.MHo
set_option linter.unusedVariables false
set_option linter.unusedSimpArgs false
namespace Go.Proofs.YtkhlndhleiaokaaDoor.MHo
open Go.RowKit Go.Proofs.YtkhlndhleiaokaaDoorW.PrintWords Go.Proofs.YtkhlndhleiaokaaDoorW.PrintLast Go.Proofs.YtkhlndhleiaokaaDoorW.PrintMore
set_option maxHeartbeats 8000000 in
set_option maxRecDepth 10000 in
theorem guardRight_out (n start off drift r at_ : Int) (w : World) (hA : drumlinelaw10_alive.f = some true) (hs : start < -549755813888 ∨ 549755813888 < start) :
    Calls Tryd.prog 8 #[.int .i64 n, .int .i64 start, .int .i64 off, .int .i64 drift, .int .i64 r, .int .u16 at_] w fun e w' => e = .returned (.bool true) ∧ Below w.heap.size w w' := by
  have HA := Aside0.mk hA
  clear hA
  by_cases h : start < -549755813888
  · have t1 : decide (start < -549755813888) = true := decide_eq_true h
    clear hs
    go_enter Tryd.func8, Tryd.ntmps8
    go_wp2_with fail
    refine (drumlinelaw10_alive.calls true _ HA.out).mono ?_
    rintro e w1 ⟨rfl, hb1⟩
    have HB1 := Aside0.mk hb1
    clear hb1
    go_wp2_with fail
    refine (drumlinelaw10_alive.calls true _ HA.out).mono ?_
    rintro e w2 ⟨rfl, hb2⟩
    have HB2 := Aside0.mk (below_step HB1.out hb2)
    clear hb2
    go_wp2_with fail
    go_ret
    exact ⟨rfl, HB2.out⟩
  · have t1 : decide (start < -549755813888) = false := decide_eq_false h
    have t2 : decide ((549755813888 : Int) < start) = true := decide_eq_true (by omega)
    clear hs
    go_enter Tryd.func8, Tryd.ntmps8
    go_wp2_with fail
    refine (drumlinelaw10_alive.calls true _ HA.out).mono ?_
    rintro e w1 ⟨rfl, hb1⟩
    have HB1 := Aside0.mk hb1
    clear hb1
    go_wp2_with fail
    refine (drumlinelaw10_alive.calls true _ HA.out).mono ?_
    rintro e w2 ⟨rfl, hb2⟩
    have HB2 := Aside0.mk (below_step HB1.out hb2)
    clear hb2
    go_wp2_with fail
    go_ret
    exact ⟨rfl, HB2.out⟩
set_option maxHeartbeats 16000000 in
set_option maxRecDepth 10000 in
theorem guardRight_in (n start off drift r at_ : Int) (P : List S60) (L : List S37) (cyc win dr ag lo li sp nr x re : Int) (w : World) (hA : drumlinelaw10_alive.f = some true) (hs0 : -549755813888 ≤ start) (hs1 : start ≤ 549755813888)
    (hM : drumlineref26_Made.f n = some (P, L, cyc, 60, 100, win, dr, 300000, ag, lo, li, sp, 12)) (hN : bounds_Near.f 100 P L cyc 60 100 win dr 300000 ag lo li sp 12 = some nr) (hd : 0 ≤ dr ∧ dr ≤ 140) (hnr : 0 ≤ nr ∧ nr ≤ 100) (hat : 0 ≤ at_ ∧ at_ ≤ 65535) (hc : 1 ≤ cyc)
    (hX : -dr ≤ drift → drift ≤ dr → -300000 ≤ r → r ≤ 300000 → off ≤ nr → -nr ≤ off → (wrap64 (drift + r) = drift + r ∧ clock_Real.f x (drift + r) = some re ∧ wrap64 (start + off) = start + off ∧ wrap64 (start + off + re) = start + off + re ∧ guard_Pass.f true start [] x r win (start + off + re) = some true) ∧ Int.tmod at_ cyc = x) :
    Calls Tryd.prog 8 #[.int .i64 n, .int .i64 start, .int .i64 off, .int .i64 drift, .int .i64 r, .int .u16 at_] w fun e w' => e = .returned (.bool true) ∧ Below w.heap.size w w' := by
  have HA := Aside0.mk hA
  have HM := Aside0.mk hM
  have HN := Aside0.mk hN
  have HX := Aside0.mk hX
  have HW := Aside0.mk (show wrap64 (-dr) = -dr ∧ wrap64 at_ = at_ from ⟨by unfold wrap64; omega, by unfold wrap64; omega⟩)
  have HCZ := Aside0.mk (show ¬ cyc = 0 from by omega)
  have hn1 := HW.out.1
  have hn2 : wrap64 (-nr) = -nr := by unfold wrap64; omega
  have t1 : decide (start < -549755813888) = false := decide_eq_false (by omega)
  have t2 : decide ((549755813888 : Int) < start) = false := decide_eq_false (by omega)
  clear hA hM hN hX hs0 hs1 hd hnr hat hc
  go_enter Tryd.func8, Tryd.ntmps8
  go_wp2_with fail
  refine (drumlinelaw10_alive.calls true _ HA.out).mono ?_
  rintro e w1 ⟨rfl, hb1⟩
  have HB1 := Aside0.mk hb1
  clear hb1
  go_wp2_with fail
  refine (drumlineref26_Made.calls n P L cyc 60 100 win dr 300000 ag lo li sp 12 _ HM.out).mono ?_
  rintro e w2 ⟨v0, v1, rfl, ho0, ho1, hb2⟩
  obtain ⟨A0, c0, rfl⟩ := Kd.R_slice ho0
  obtain ⟨A1, c1, rfl⟩ := Kd.R_slice ho1
  have HP2 := Aside0.mk (Kd.R_reads' ho0).2.2
  have HL2 := Aside0.mk (Kd.R_reads' ho1).2.2
  have HCC := Aside0.mk (And.intro (Kd.R_reads' ho0).2.1 (Kd.R_reads' ho1).2.1)
  have HB2 := Aside0.mk (below_step HB1.out hb2)
  clear ho0 ho1 hb2 t1 t2
  go_upto_region 4 with fail
  have HB3 := Aside0.mk (below_alloc HB2.out (Obj.cells #[.slice A0 P.length c0, .slice A1 L.length c1, .int .i64 cyc, .int .i64 60, .int .i64 100, .int .i64 win, .int .i64 dr, .int .i64 300000, .int .i64 ag, .int .i64 lo, .int .i64 li, .int .i64 sp, .int .i64 12] 25))
  have HO3 : Aside0 ((w2.alloc (.cells #[.slice A0 P.length c0, .slice A1 L.length c1, .int .i64 cyc, .int .i64 60, .int .i64 100, .int .i64 win, .int .i64 dr, .int .i64 300000, .int .i64 ag, .int .i64 lo, .int .i64 li, .int .i64 sp, .int .i64 12] 25)).heap[w2.heap.size]? = some (.cells #[.slice A0 P.length c0, .slice A1 L.length c1, .int .i64 cyc, .int .i64 60, .int .i64 100, .int .i64 win, .int .i64 dr, .int .i64 300000, .int .i64 ag, .int .i64 lo, .int .i64 li, .int .i64 sp, .int .i64 12] 25)) := ⟨heap_alloc_new _ _⟩
  have HP3 := Aside0.mk (Kd.C_below HP2.out (below_alloc (Below.refl w2.heap.size w2) (Obj.cells #[.slice A0 P.length c0, .slice A1 L.length c1, .int .i64 cyc, .int .i64 60, .int .i64 100, .int .i64 win, .int .i64 dr, .int .i64 300000, .int .i64 ag, .int .i64 lo, .int .i64 li, .int .i64 sp, .int .i64 12] 25)))
  have HL3 := Aside0.mk (Kd.C_below HL2.out (below_alloc (Below.refl w2.heap.size w2) (Obj.cells #[.slice A0 P.length c0, .slice A1 L.length c1, .int .i64 cyc, .int .i64 60, .int .i64 100, .int .i64 win, .int .i64 dr, .int .i64 300000, .int .i64 ag, .int .i64 lo, .int .i64 li, .int .i64 sp, .int .i64 12] 25)))
  clear HP2 HL2
  generalize w2.alloc (.cells #[.slice A0 P.length c0, .slice A1 L.length c1, .int .i64 cyc, .int .i64 60, .int .i64 100, .int .i64 win, .int .i64 dr, .int .i64 300000, .int .i64 ag, .int .i64 lo, .int .i64 li, .int .i64 sp, .int .i64 12] 25) = w3 at *
  generalize w2.heap.size = bx at *
  have x0 : w3.cell? ⟨bx, 0, none⟩ = some (.slice A0 P.length c0) := (blk_cell HO3.out 0).trans rfl
  have x1 : w3.cell? ⟨bx, 1, none⟩ = some (.slice A1 L.length c1) := (blk_cell HO3.out 1).trans rfl
  have x2 : w3.cell? ⟨bx, 2, none⟩ = some (.int .i64 cyc) := (blk_cell HO3.out 2).trans rfl
  have x3 : w3.cell? ⟨bx, 3, none⟩ = some (.int .i64 60) := (blk_cell HO3.out 3).trans rfl
  have x4 : w3.cell? ⟨bx, 4, none⟩ = some (.int .i64 100) := (blk_cell HO3.out 4).trans rfl
  have x5 : w3.cell? ⟨bx, 5, none⟩ = some (.int .i64 win) := (blk_cell HO3.out 5).trans rfl
  have x6 : w3.cell? ⟨bx, 6, none⟩ = some (.int .i64 dr) := (blk_cell HO3.out 6).trans rfl
  have x7 : w3.cell? ⟨bx, 7, none⟩ = some (.int .i64 300000) := (blk_cell HO3.out 7).trans rfl
  have x8 : w3.cell? ⟨bx, 8, none⟩ = some (.int .i64 ag) := (blk_cell HO3.out 8).trans rfl
  have x9 : w3.cell? ⟨bx, 9, none⟩ = some (.int .i64 lo) := (blk_cell HO3.out 9).trans rfl
  have x10 : w3.cell? ⟨bx, 10, none⟩ = some (.int .i64 li) := (blk_cell HO3.out 10).trans rfl
  have x11 : w3.cell? ⟨bx, 11, none⟩ = some (.int .i64 sp) := (blk_cell HO3.out 11).trans rfl
  have x12 : w3.cell? ⟨bx, 12, none⟩ = some (.int .i64 12) := (blk_cell HO3.out 12).trans rfl
  by_cases h1 : drift < -dr
  · have th1 : decide (drift < -dr) = true := decide_eq_true h1
    go_wp2_with fail
    go_ret
    exact ⟨rfl, HB3.out⟩
  · have th1 : decide (drift < -dr) = false := decide_eq_false h1
    by_cases h2 : dr < drift
    · have th2 : decide (dr < drift) = true := decide_eq_true h2
      go_wp2_with fail
      go_ret
      exact ⟨rfl, HB3.out⟩
    · have th2 : decide (dr < drift) = false := decide_eq_false h2
      by_cases h3 : r < -300000
      · have th3 : decide (r < -300000) = true := decide_eq_true h3
        go_wp2_with fail
        go_ret
        exact ⟨rfl, HB3.out⟩
      · have th3 : decide (r < -300000) = false := decide_eq_false h3
        by_cases h4 : 300000 < r
        · have th4 : decide (300000 < r) = true := decide_eq_true h4
          go_wp2_with fail
          go_ret
          exact ⟨rfl, HB3.out⟩
        · have th4 : decide (300000 < r) = false := decide_eq_false h4
          by_cases h5 : nr < off
          · have th5 : decide (nr < off) = true := decide_eq_true h5
            go_wp2_with fail
            refine (bounds_Near.calls 100 A0 c0 P A1 c1 L cyc 60 100 win dr 300000 ag lo li sp 12 nr _ HP3.out HCC.out.1 HL3.out HCC.out.2 HN.out).mono ?_
            rintro e w4 ⟨rfl, hb⟩
            clear x0 x1 x2 x3 x4 x5 x6 x7 x8 x9 x10 x11 x12
            have HB4 := Aside0.mk (below_step HB3.out hb)
            have HO4 := Aside0.mk ((hb.block bx (blk_lt HO3.out)).trans HO3.out)
            have HP4 := Aside0.mk (Kd.C_below HP3.out hb)
            have HL4 := Aside0.mk (Kd.C_below HL3.out hb)
            clear hb
            have x0 : w4.cell? ⟨bx, 0, none⟩ = some (.slice A0 P.length c0) := (blk_cell HO4.out 0).trans rfl
            have x1 : w4.cell? ⟨bx, 1, none⟩ = some (.slice A1 L.length c1) := (blk_cell HO4.out 1).trans rfl
            have x2 : w4.cell? ⟨bx, 2, none⟩ = some (.int .i64 cyc) := (blk_cell HO4.out 2).trans rfl
            have x3 : w4.cell? ⟨bx, 3, none⟩ = some (.int .i64 60) := (blk_cell HO4.out 3).trans rfl
            have x4 : w4.cell? ⟨bx, 4, none⟩ = some (.int .i64 100) := (blk_cell HO4.out 4).trans rfl
            have x5 : w4.cell? ⟨bx, 5, none⟩ = some (.int .i64 win) := (blk_cell HO4.out 5).trans rfl
            have x6 : w4.cell? ⟨bx, 6, none⟩ = some (.int .i64 dr) := (blk_cell HO4.out 6).trans rfl
            have x7 : w4.cell? ⟨bx, 7, none⟩ = some (.int .i64 300000) := (blk_cell HO4.out 7).trans rfl
            have x8 : w4.cell? ⟨bx, 8, none⟩ = some (.int .i64 ag) := (blk_cell HO4.out 8).trans rfl
            have x9 : w4.cell? ⟨bx, 9, none⟩ = some (.int .i64 lo) := (blk_cell HO4.out 9).trans rfl
            have x10 : w4.cell? ⟨bx, 10, none⟩ = some (.int .i64 li) := (blk_cell HO4.out 10).trans rfl
            have x11 : w4.cell? ⟨bx, 11, none⟩ = some (.int .i64 sp) := (blk_cell HO4.out 11).trans rfl
            have x12 : w4.cell? ⟨bx, 12, none⟩ = some (.int .i64 12) := (blk_cell HO4.out 12).trans rfl
            go_wp2_with fail
            go_ret
            exact ⟨rfl, HB4.out⟩
          · have th5 : decide (nr < off) = false := decide_eq_false h5
            by_cases h6 : off < -nr
            · have th6 : decide (off < -nr) = true := decide_eq_true h6
              go_wp2_with fail
              refine (bounds_Near.calls 100 A0 c0 P A1 c1 L cyc 60 100 win dr 300000 ag lo li sp 12 nr _ HP3.out HCC.out.1 HL3.out HCC.out.2 HN.out).mono ?_
              rintro e w4 ⟨rfl, hb⟩
              clear x0 x1 x2 x3 x4 x5 x6 x7 x8 x9 x10 x11 x12
              have HB4 := Aside0.mk (below_step HB3.out hb)
              have HO4 := Aside0.mk ((hb.block bx (blk_lt HO3.out)).trans HO3.out)
              have HP4 := Aside0.mk (Kd.C_below HP3.out hb)
              have HL4 := Aside0.mk (Kd.C_below HL3.out hb)
              clear hb
              have x0 : w4.cell? ⟨bx, 0, none⟩ = some (.slice A0 P.length c0) := (blk_cell HO4.out 0).trans rfl
              have x1 : w4.cell? ⟨bx, 1, none⟩ = some (.slice A1 L.length c1) := (blk_cell HO4.out 1).trans rfl
              have x2 : w4.cell? ⟨bx, 2, none⟩ = some (.int .i64 cyc) := (blk_cell HO4.out 2).trans rfl
              have x3 : w4.cell? ⟨bx, 3, none⟩ = some (.int .i64 60) := (blk_cell HO4.out 3).trans rfl
              have x4 : w4.cell? ⟨bx, 4, none⟩ = some (.int .i64 100) := (blk_cell HO4.out 4).trans rfl
              have x5 : w4.cell? ⟨bx, 5, none⟩ = some (.int .i64 win) := (blk_cell HO4.out 5).trans rfl
              have x6 : w4.cell? ⟨bx, 6, none⟩ = some (.int .i64 dr) := (blk_cell HO4.out 6).trans rfl
              have x7 : w4.cell? ⟨bx, 7, none⟩ = some (.int .i64 300000) := (blk_cell HO4.out 7).trans rfl
              have x8 : w4.cell? ⟨bx, 8, none⟩ = some (.int .i64 ag) := (blk_cell HO4.out 8).trans rfl
              have x9 : w4.cell? ⟨bx, 9, none⟩ = some (.int .i64 lo) := (blk_cell HO4.out 9).trans rfl
              have x10 : w4.cell? ⟨bx, 10, none⟩ = some (.int .i64 li) := (blk_cell HO4.out 10).trans rfl
              have x11 : w4.cell? ⟨bx, 11, none⟩ = some (.int .i64 sp) := (blk_cell HO4.out 11).trans rfl
              have x12 : w4.cell? ⟨bx, 12, none⟩ = some (.int .i64 12) := (blk_cell HO4.out 12).trans rfl
              go_wp2_with fail
              refine (bounds_Near.calls 100 A0 c0 P A1 c1 L cyc 60 100 win dr 300000 ag lo li sp 12 nr _ HP4.out HCC.out.1 HL4.out HCC.out.2 HN.out).mono ?_
              rintro e w5 ⟨rfl, hb⟩
              clear x0 x1 x2 x3 x4 x5 x6 x7 x8 x9 x10 x11 x12
              have HB5 := Aside0.mk (below_step HB4.out hb)
              have HO5 := Aside0.mk ((hb.block bx (blk_lt HO4.out)).trans HO4.out)
              have HP5 := Aside0.mk (Kd.C_below HP4.out hb)
              have HL5 := Aside0.mk (Kd.C_below HL4.out hb)
              clear hb
              have x0 : w5.cell? ⟨bx, 0, none⟩ = some (.slice A0 P.length c0) := (blk_cell HO5.out 0).trans rfl
              have x1 : w5.cell? ⟨bx, 1, none⟩ = some (.slice A1 L.length c1) := (blk_cell HO5.out 1).trans rfl
              have x2 : w5.cell? ⟨bx, 2, none⟩ = some (.int .i64 cyc) := (blk_cell HO5.out 2).trans rfl
              have x3 : w5.cell? ⟨bx, 3, none⟩ = some (.int .i64 60) := (blk_cell HO5.out 3).trans rfl
              have x4 : w5.cell? ⟨bx, 4, none⟩ = some (.int .i64 100) := (blk_cell HO5.out 4).trans rfl
              have x5 : w5.cell? ⟨bx, 5, none⟩ = some (.int .i64 win) := (blk_cell HO5.out 5).trans rfl
              have x6 : w5.cell? ⟨bx, 6, none⟩ = some (.int .i64 dr) := (blk_cell HO5.out 6).trans rfl
              have x7 : w5.cell? ⟨bx, 7, none⟩ = some (.int .i64 300000) := (blk_cell HO5.out 7).trans rfl
              have x8 : w5.cell? ⟨bx, 8, none⟩ = some (.int .i64 ag) := (blk_cell HO5.out 8).trans rfl
              have x9 : w5.cell? ⟨bx, 9, none⟩ = some (.int .i64 lo) := (blk_cell HO5.out 9).trans rfl
              have x10 : w5.cell? ⟨bx, 10, none⟩ = some (.int .i64 li) := (blk_cell HO5.out 10).trans rfl
              have x11 : w5.cell? ⟨bx, 11, none⟩ = some (.int .i64 sp) := (blk_cell HO5.out 11).trans rfl
              have x12 : w5.cell? ⟨bx, 12, none⟩ = some (.int .i64 12) := (blk_cell HO5.out 12).trans rfl
              go_wp2_with fail
              go_ret
              exact ⟨rfl, HB5.out⟩
            · have th6 : decide (off < -nr) = false := decide_eq_false h6
              go_wp2_with fail
              refine (bounds_Near.calls 100 A0 c0 P A1 c1 L cyc 60 100 win dr 300000 ag lo li sp 12 nr _ HP3.out HCC.out.1 HL3.out HCC.out.2 HN.out).mono ?_
              rintro e w4 ⟨rfl, hb⟩
              clear x0 x1 x2 x3 x4 x5 x6 x7 x8 x9 x10 x11 x12
              have HB4 := Aside0.mk (below_step HB3.out hb)
              have HO4 := Aside0.mk ((hb.block bx (blk_lt HO3.out)).trans HO3.out)
              have HP4 := Aside0.mk (Kd.C_below HP3.out hb)
              have HL4 := Aside0.mk (Kd.C_below HL3.out hb)
              clear hb
              have x0 : w4.cell? ⟨bx, 0, none⟩ = some (.slice A0 P.length c0) := (blk_cell HO4.out 0).trans rfl
              have x1 : w4.cell? ⟨bx, 1, none⟩ = some (.slice A1 L.length c1) := (blk_cell HO4.out 1).trans rfl
              have x2 : w4.cell? ⟨bx, 2, none⟩ = some (.int .i64 cyc) := (blk_cell HO4.out 2).trans rfl
              have x3 : w4.cell? ⟨bx, 3, none⟩ = some (.int .i64 60) := (blk_cell HO4.out 3).trans rfl
              have x4 : w4.cell? ⟨bx, 4, none⟩ = some (.int .i64 100) := (blk_cell HO4.out 4).trans rfl
              have x5 : w4.cell? ⟨bx, 5, none⟩ = some (.int .i64 win) := (blk_cell HO4.out 5).trans rfl
              have x6 : w4.cell? ⟨bx, 6, none⟩ = some (.int .i64 dr) := (blk_cell HO4.out 6).trans rfl
              have x7 : w4.cell? ⟨bx, 7, none⟩ = some (.int .i64 300000) := (blk_cell HO4.out 7).trans rfl
              have x8 : w4.cell? ⟨bx, 8, none⟩ = some (.int .i64 ag) := (blk_cell HO4.out 8).trans rfl
              have x9 : w4.cell? ⟨bx, 9, none⟩ = some (.int .i64 lo) := (blk_cell HO4.out 9).trans rfl
              have x10 : w4.cell? ⟨bx, 10, none⟩ = some (.int .i64 li) := (blk_cell HO4.out 10).trans rfl
              have x11 : w4.cell? ⟨bx, 11, none⟩ = some (.int .i64 sp) := (blk_cell HO4.out 11).trans rfl
              have x12 : w4.cell? ⟨bx, 12, none⟩ = some (.int .i64 12) := (blk_cell HO4.out 12).trans rfl
              go_wp2_with fail
              refine (bounds_Near.calls 100 A0 c0 P A1 c1 L cyc 60 100 win dr 300000 ag lo li sp 12 nr _ HP4.out HCC.out.1 HL4.out HCC.out.2 HN.out).mono ?_
              rintro e w5 ⟨rfl, hb⟩
              clear x0 x1 x2 x3 x4 x5 x6 x7 x8 x9 x10 x11 x12
              have HB5 := Aside0.mk (below_step HB4.out hb)
              have HO5 := Aside0.mk ((hb.block bx (blk_lt HO4.out)).trans HO4.out)
              have HP5 := Aside0.mk (Kd.C_below HP4.out hb)
              have HL5 := Aside0.mk (Kd.C_below HL4.out hb)
              clear hb
              have x0 : w5.cell? ⟨bx, 0, none⟩ = some (.slice A0 P.length c0) := (blk_cell HO5.out 0).trans rfl
              have x1 : w5.cell? ⟨bx, 1, none⟩ = some (.slice A1 L.length c1) := (blk_cell HO5.out 1).trans rfl
              have x2 : w5.cell? ⟨bx, 2, none⟩ = some (.int .i64 cyc) := (blk_cell HO5.out 2).trans rfl
              have x3 : w5.cell? ⟨bx, 3, none⟩ = some (.int .i64 60) := (blk_cell HO5.out 3).trans rfl
              have x4 : w5.cell? ⟨bx, 4, none⟩ = some (.int .i64 100) := (blk_cell HO5.out 4).trans rfl
              have x5 : w5.cell? ⟨bx, 5, none⟩ = some (.int .i64 win) := (blk_cell HO5.out 5).trans rfl
              have x6 : w5.cell? ⟨bx, 6, none⟩ = some (.int .i64 dr) := (blk_cell HO5.out 6).trans rfl
              have x7 : w5.cell? ⟨bx, 7, none⟩ = some (.int .i64 300000) := (blk_cell HO5.out 7).trans rfl
              have x8 : w5.cell? ⟨bx, 8, none⟩ = some (.int .i64 ag) := (blk_cell HO5.out 8).trans rfl
              have x9 : w5.cell? ⟨bx, 9, none⟩ = some (.int .i64 lo) := (blk_cell HO5.out 9).trans rfl
              have x10 : w5.cell? ⟨bx, 10, none⟩ = some (.int .i64 li) := (blk_cell HO5.out 10).trans rfl
              have x11 : w5.cell? ⟨bx, 11, none⟩ = some (.int .i64 sp) := (blk_cell HO5.out 11).trans rfl
              have x12 : w5.cell? ⟨bx, 12, none⟩ = some (.int .i64 12) := (blk_cell HO5.out 12).trans rfl
              obtain ⟨hre, hx0⟩ := HX.out (by omega) (by omega) (by omega) (by omega) (by omega) (by omega)
              have HH := Aside0.mk hre
              have hx := Aside0.mk hx0
              clear hre hx0
              have hxx := hx.out
              have hw := HW.out.2
              have hcz := HCZ.out
              go_upto_region 7 with fail
              clear hxx
              go_upto_region 8 with fail
              have HG6 : Aside0 ((w5.alloc (.cells #[.bool true, .int .i64 start, .slice none 0 0] 44)).heap[w5.heap.size]? = some (.cells #[.bool true, .int .i64 start, .slice none 0 0] 44)) := ⟨heap_alloc_new _ _⟩
              have HB6 := Aside0.mk (below_alloc HB5.out (Obj.cells #[.bool true, .int .i64 start, .slice none 0 0] 44))
              have HO6 := Aside0.mk (((below_alloc (Below.refl w5.heap.size w5) (Obj.cells #[.bool true, .int .i64 start, .slice none 0 0] 44)).block bx (blk_lt HO5.out)).trans HO5.out)
              clear x0 x1 x2 x3 x4 x5 x6 x7 x8 x9 x10 x11 x12
              generalize w5.alloc (.cells #[.bool true, .int .i64 start, .slice none 0 0] 44) = w6 at *
              generalize w5.heap.size = bg at *
              have HBd := Aside0.mk (below_drew HB6.out)
              have HOd : Aside0 (w6.drew.heap[bx]? = some (.cells #[.slice A0 P.length c0, .slice A1 L.length c1, .int .i64 cyc, .int .i64 60, .int .i64 100, .int .i64 win, .int .i64 dr, .int .i64 300000, .int .i64 ag, .int .i64 lo, .int .i64 li, .int .i64 sp, .int .i64 12] 25)) := ⟨HO6.out⟩
              have HGd : Aside0 (w6.drew.heap[bg]? = some (.cells #[.bool true, .int .i64 start, .slice none 0 0] 44)) := ⟨HG6.out⟩
              refine start_ (n := 16) (S := fun w' => w'.cell? ⟨bg, 0, none⟩ = some (.bool true) ∧ w'.cell? ⟨bg, 1, none⟩ = some (.int .i64 start) ∧ w'.cell? ⟨bg, 2, none⟩ = some (.slice none 0 0) ∧ w'.cell? ⟨bx, 5, none⟩ = some (.int .i64 win)) (ds := []) #[false, false, false, false, false, false, false, false, false, false, false, false, false, false, false, false] (by kernel_rfl) rfl rfl ⟨(blk_cell HGd.out 0).trans rfl, (blk_cell HGd.out 1).trans rfl, (blk_cell HGd.out 2).trans rfl, (blk_cell HOd.out 5).trans rfl⟩ (fun hHeld => ?_)
              generalize w6.drew = wd at HBd HOd HGd hHeld ⊢
              refine pure_ (i := 1) (N := some 74) (v := ?_) (a' := ?_) #[false, true, false, false, false, false, false, false, false, false, false, false, false, false, false, false] rfl rfl (by kernel_rfl) (fun _ _ _ h => h) (Or.inl ⟨by rfl, ?_⟩) ?_ ?_
              rotate_left
              · intro w'
                go_simp
                with_reducible rfl
              rotate_left
              · simp only [Act.put, List.setIfInBounds_toArray, List.set_cons_zero, List.set_cons_succ, i64_w, i32_w]
                rfl
              refine pure_ (i := 2) (N := some 75) (v := ?_) (a' := ?_) #[false, true, true, false, false, false, false, false, false, false, false, false, false, false, false, false] rfl rfl (by kernel_rfl) (fun _ _ _ h => h) (Or.inl ⟨by rfl, ?_⟩) ?_ ?_
              rotate_left
              · intro w'
                go_simp
                with_reducible rfl
              rotate_left
              · simp only [Act.put, List.setIfInBounds_toArray, List.set_cons_zero, List.set_cons_succ, i64_w, i32_w]
                rfl
              refine pure_ (i := 3) (N := some 76) (v := ?_) (a' := ?_) #[false, true, true, true, false, false, false, false, false, false, false, false, false, false, false, false] rfl rfl (by kernel_rfl) (fun _ _ _ h => h) (Or.inl ⟨by rfl, ?_⟩) ?_ ?_
              rotate_left
              · intro w'
                go_simp
                with_reducible rfl
              rotate_left
              · simp only [Act.put, List.setIfInBounds_toArray, List.set_cons_zero, List.set_cons_succ, i64_w, i32_w]
                rfl
              refine pure_ (i := 5) (N := some 78) (v := ?_) (a' := ?_) #[false, true, true, true, false, true, false, false, false, false, false, false, false, false, false, false] rfl rfl (by kernel_rfl) (fun _ _ _ h => h) (Or.inl ⟨by rfl, ?_⟩) ?_ ?_
              rotate_left
              · intro w'
                go_simp
                with_reducible rfl
              rotate_left
              · simp only [Act.put, List.setIfInBounds_toArray, List.set_cons_zero, List.set_cons_succ, i64_w, i32_w]
                rfl
              refine pure_ (i := 6) (N := some 79) (v := ?_) (a' := ?_) #[false, true, true, true, false, true, true, false, false, false, false, false, false, false, false, false] rfl rfl (by kernel_rfl) (fun _ _ _ h => h) (Or.inl ⟨by rfl, ?_⟩) ?_ ?_
              rotate_left
              · intro w'
                go_simp
                with_reducible rfl
              rotate_left
              · simp only [Act.put, List.setIfInBounds_toArray, List.set_cons_zero, List.set_cons_succ, i64_w, i32_w]
                rfl
              refine pure_ (i := 7) (N := some 80) (v := ?_) (a' := ?_) #[false, true, true, true, false, true, true, true, false, false, false, false, false, false, false, false] rfl rfl (by kernel_rfl) (fun _ _ _ h => h) (Or.inl ⟨by rfl, ?_⟩) ?_ ?_
              rotate_left
              · intro w'
                go_simp
                with_reducible rfl
              rotate_left
              · simp only [Act.put, List.setIfInBounds_toArray, List.set_cons_zero, List.set_cons_succ, i64_w, i32_w]
                rfl
              refine pure_ (i := 8) (N := some 81) (v := ?_) (a' := ?_) #[false, true, true, true, false, true, true, true, true, false, false, false, false, false, false, false] rfl rfl (by kernel_rfl) (fun _ _ _ h => h) (Or.inl ⟨by rfl, ?_⟩) ?_ ?_
              rotate_left
              · intro w'
                go_simp
                with_reducible rfl
              rotate_left
              · simp only [Act.put, List.setIfInBounds_toArray, List.set_cons_zero, List.set_cons_succ, i64_w, i32_w]
                rfl
              refine pure_ (i := 9) (N := some 82) (v := ?_) (a' := ?_) #[false, true, true, true, false, true, true, true, true, true, false, false, false, false, false, false] rfl rfl (by kernel_rfl) (fun _ _ _ h => h) (Or.inl ⟨by rfl, ?_⟩) ?_ ?_
              rotate_left
              · intro w'
                go_simp
                with_reducible rfl
              rotate_left
              · simp only [Act.put, List.setIfInBounds_toArray, List.set_cons_zero, List.set_cons_succ, i64_w, i32_w]
                rfl
              refine pure_ (i := 10) (N := some 83) (v := ?_) (a' := ?_) #[false, true, true, true, false, true, true, true, true, true, true, false, false, false, false, false] rfl rfl (by kernel_rfl) (fun _ _ _ h => h) (Or.inl ⟨by rfl, ?_⟩) ?_ ?_
              rotate_left
              · intro w'
                go_simp
                with_reducible rfl
              rotate_left
              · simp only [Act.put, List.setIfInBounds_toArray, List.set_cons_zero, List.set_cons_succ, i64_w, i32_w]
                rfl
              refine pure_ (i := 11) (N := some 84) (v := ?_) (a' := ?_) #[false, true, true, true, false, true, true, true, true, true, true, true, false, false, false, false] rfl rfl (by kernel_rfl) (fun _ _ _ h => h) (Or.inl ⟨by rfl, ?_⟩) ?_ ?_
              rotate_left
              · intro w'
                go_simp
                with_reducible rfl
              rotate_left
              · simp only [Act.put, List.setIfInBounds_toArray, List.set_cons_zero, List.set_cons_succ, i64_w, i32_w]
                rfl
              refine take_ (i := 0) (N := some 73) (v := ?_) (a' := ?_) #[true, true, true, true, false, true, true, true, true, true, true, true, false, false, false, false] rfl rfl (by kernel_rfl) (fun _ _ _ h => h) (Or.inl ⟨by rfl, ?_⟩) hHeld ?_ ?_
              rotate_left
              · rintro w' ⟨s0, s1, s2, s3⟩
                go_simp
                with_reducible rfl
              rotate_left
              · simp only [Act.put, List.setIfInBounds_toArray, List.set_cons_zero, List.set_cons_succ, i64_w, i32_w]
                rfl
              refine take_ (i := 4) (N := some 77) (v := ?_) (a' := ?_) #[true, true, true, true, true, true, true, true, true, true, true, true, false, false, false, false] rfl rfl (by kernel_rfl) (fun _ _ _ h => h) (Or.inl ⟨by rfl, ?_⟩) hHeld ?_ ?_
              rotate_left
              · rintro w' ⟨s0, s1, s2, s3⟩
                go_simp
                with_reducible rfl
              rotate_left
              · simp only [Act.put, List.setIfInBounds_toArray, List.set_cons_zero, List.set_cons_succ, i64_w, i32_w]
                rfl
              refine one_ (i := 12) (N := some 85) #[true, true, true, true, true, true, true, true, true, true, true, true, true, false, false, false] rfl rfl (by kernel_rfl) (by decide) (fun K hK => ?_)
              refine goes_ Tryd.func22 (by kernel_rfl) rfl #[.int .i64 x, .int .i64 (wrap64 (drift + r))] (by rfl) rfl rfl (by simp only [List.map_toArray, List.map_cons, List.map_nil]; rfl) ?_
              rw [HH.out.1]
              with_reducible refine (clock_Real.calls x (drift + r) re _ HH.out.2.1).mono ?_
              rintro e w7 ⟨rfl, hD⟩
              have hb := hD.below
              have HB7 := Aside0.mk (below_step HBd.out hb)
              have HO7 := Aside0.mk ((hb.block bx (blk_lt HOd.out)).trans HOd.out)
              have HG7 := Aside0.mk ((hb.block bg (blk_lt HGd.out)).trans HGd.out)
              clear hb hD
              refine ⟨_, rfl, ?_⟩
              refine hK.out _ _ ⟨(blk_cell HG7.out 0).trans rfl, (blk_cell HG7.out 1).trans rfl, (blk_cell HG7.out 2).trans rfl, (blk_cell HO7.out 5).trans rfl⟩ (fun hHeld => ?_)
              clear hK K
              refine norm_ (a' := ?_) ?_ ?_
              rotate_left
              · show Act.put _ (some 85) _ = _
                simp only [Act.put, List.setIfInBounds_toArray, List.set_cons_zero, List.set_cons_succ, i64_w, i32_w]
                rfl
              refine pure_ (i := 13) (N := some 86) (v := ?_) (a' := ?_) #[true, true, true, true, true, true, true, true, true, true, true, true, true, true, false, false] rfl rfl (by kernel_rfl) (fun _ _ _ h => h) (Or.inl ⟨by rfl, ?_⟩) ?_ ?_
              rotate_left
              · intro w'
                go_simp
                with_reducible rfl
              rotate_left
              · simp only [Act.put, List.setIfInBounds_toArray, List.set_cons_zero, List.set_cons_succ, i64_w, i32_w]
                rfl
              refine one_ (i := 14) (N := some 87) #[true, true, true, true, true, true, true, true, true, true, true, true, true, true, true, false] rfl rfl (by kernel_rfl) (by decide) (fun K hK => ?_)
              refine goes_ Tryd.func26 (by kernel_rfl) rfl #[.agg #[.bool true, .int .i64 start, .slice none 0 0], .int .i64 x, .int .i64 r, .int .i64 win, .int .i64 (wrap64 ((wrap64 (start + off)) + re))] (by rfl) rfl rfl (by simp only [List.map_toArray, List.map_cons, List.map_nil]; rfl) ?_
              rw [HH.out.2.2.1, HH.out.2.2.2.1]
              with_reducible refine (guard_Pass.nil true start x r win (start + off + re) true _ HH.out.2.2.2.2).mono ?_
              rintro e w8 ⟨rfl, hb⟩
              have HB8 := Aside0.mk (below_step HB7.out hb)
              have HO8 := Aside0.mk ((hb.block bx (blk_lt HO7.out)).trans HO7.out)
              have HG8 := Aside0.mk ((hb.block bg (blk_lt HG7.out)).trans HG7.out)
              clear hb
              refine ⟨_, rfl, ?_⟩
              refine hK.out _ _ ⟨(blk_cell HG8.out 0).trans rfl, (blk_cell HG8.out 1).trans rfl, (blk_cell HG8.out 2).trans rfl, (blk_cell HO8.out 5).trans rfl⟩ (fun hHeld => ?_)
              clear hK K
              refine norm_ (a' := ?_) ?_ ?_
              rotate_left
              · show Act.put _ (some 87) _ = _
                simp only [Act.put, List.setIfInBounds_toArray, List.set_cons_zero, List.set_cons_succ, i64_w, i32_w]
                rfl
              refine pure_ (i := 15) (N := some 12) (v := ?_) (a' := ?_) #[true, true, true, true, true, true, true, true, true, true, true, true, true, true, true, true] rfl rfl (by kernel_rfl) (fun _ _ _ h => h) (Or.inl ⟨by rfl, ?_⟩) ?_ ?_
              rotate_left
              · intro w'
                go_simp
                with_reducible rfl
              rotate_left
              · simp only [Act.put, List.setIfInBounds_toArray, List.set_cons_zero, List.set_cons_succ, i64_w, i32_w]
                rfl
              refine done_ (by kernel_rfl) ?_
              go_wp2_with fail
              go_ret
              exact ⟨rfl, HB8.out⟩
end Go.Proofs.YtkhlndhleiaokaaDoor.MHo
namespace Go.Proofs.YtkhlndhleiaokaaDoor.Plain
open Go.RowKit

theorem wf64 {a : Int} (h : (Lit.int .i64 a).wf = true) : -9223372036854775808 ≤ a ∧ a ≤ 9223372036854775807 := by
  simp [Lit.wf, IntKind.min, IntKind.max, IntKind.signed, IntKind.bits] at h; omega
theorem wf32 {a : Int} (h : (Lit.int .i32 a).wf = true) : -2147483648 ≤ a ∧ a ≤ 2147483647 := by
  simp [Lit.wf, IntKind.min, IntKind.max, IntKind.signed, IntKind.bits] at h; omega
theorem wf16 {a : Int} (h : (Lit.int .i16 a).wf = true) : -32768 ≤ a ∧ a ≤ 32767 := by
  simp [Lit.wf, IntKind.min, IntKind.max, IntKind.signed, IntKind.bits] at h; omega
theorem wfu16 {a : Int} (h : (Lit.int .u16 a).wf = true) : 0 ≤ a ∧ a ≤ 65535 := by
  simp [Lit.wf, IntKind.min, IntKind.max, IntKind.signed, IntKind.bits] at h; omega
theorem wfu32 {a : Int} (h : (Lit.int .u32 a).wf = true) : 0 ≤ a ∧ a ≤ 4294967295 := by
  simp [Lit.wf, IntKind.min, IntKind.max, IntKind.signed, IntKind.bits] at h; omega
theorem wfu8 {a : Int} (h : (Lit.int .u8 a).wf = true) : 0 ≤ a ∧ a ≤ 255 := by
  simp [Lit.wf, IntKind.min, IntKind.max, IntKind.signed, IntKind.bits] at h; omega

theorem w64 {x : Int} (h1 : -9223372036854775808 ≤ x) (h2 : x ≤ 9223372036854775807) : wrap64 x = x := by
  unfold wrap64; omega

/-- What truncation gives of a number and one above 0. -/
theorem tdiv_le {a b : Int} (hb : 1 ≤ b) (h1 : -9223372036854775808 ≤ a) (h2 : a ≤ 9223372036854775807) : -9223372036854775808 ≤ Int.tdiv a b ∧ Int.tdiv a b ≤ 9223372036854775807 := by
  rcases Int.lt_or_le a 0 with h | h
  · have e : Int.tdiv a b = -((-a) / b) := by
      rw [show a = -(-a) by omega, Int.neg_tdiv, Int.neg_neg, Int.tdiv_eq_ediv_of_nonneg (by omega)]
    have h3 : 0 ≤ (-a) / b := Int.ediv_nonneg (by omega) (by omega)
    have h4 : (-a) / b ≤ -a := Int.ediv_le_self _ (by omega)
    omega
  · have e : Int.tdiv a b = a / b := Int.tdiv_eq_ediv_of_nonneg h
    have h3 : 0 ≤ a / b := Int.ediv_nonneg h (by omega)
    have h4 : a / b ≤ a := Int.ediv_le_self _ h
    omega

/-- The quotient rounded down. -/
def flo (a b : Int) : Int := a / b
/-- The quotient rounded up. -/
def cei (a b : Int) : Int := -((-a) / b)

theorem flo_le {a b : Int} (hb : 1 ≤ b) : flo a b * b ≤ a ∧ a < flo a b * b + b := by
  unfold flo
  have h1 := Int.emod_nonneg a (show b ≠ 0 by omega)
  have h2 := Int.emod_lt_of_pos a (show 0 < b by omega)
  have h3 := Int.mul_ediv_add_emod a b
  rw [Int.mul_comm] at h3
  omega
theorem cei_le {a b : Int} (hb : 1 ≤ b) : a ≤ cei a b * b ∧ cei a b * b < a + b := by
  have h := flo_le (a := -a) hb
  unfold cei
  unfold flo at h
  rw [Int.neg_mul]
  omega

theorem rem_neg {a b : Int} (h : a < 0) : Int.tdiv a b = -((-a) / b) ∧ Int.tmod a b = -((-a) % b) := by
  constructor
  · rw [show a = -(-a) by omega, Int.neg_tdiv, Int.neg_neg, Int.tdiv_eq_ediv_of_nonneg (by omega)]
  · rw [show a = -(-a) by omega, Int.neg_tmod, Int.neg_neg, Int.tmod_eq_emod_of_nonneg (by omega)]
theorem rem_pos {a b : Int} (h : 0 ≤ a) : Int.tdiv a b = a / b ∧ Int.tmod a b = a % b :=
  ⟨Int.tdiv_eq_ediv_of_nonneg h, Int.tmod_eq_emod_of_nonneg h⟩

/-- A number q with q * b ≤ a < q * b + b is the quotient. -/
theorem flo_of {a b q : Int} (hb : 1 ≤ b) (h1 : q * b ≤ a) (h2 : a < q * b + b) : q = flo a b := by
  unfold flo
  have e1 : q ≤ a / b := Int.le_ediv_of_mul_le (by omega) h1
  have e2 : a / b < q + 1 := Int.ediv_lt_of_lt_mul (by omega) (by rw [Int.add_mul]; omega)
  omega
theorem cei_of {a b q : Int} (hb : 1 ≤ b) (h1 : a ≤ q * b) (h2 : q * b < a + b) : q = cei a b := by
  unfold cei
  have := flo_of (a := -a) (b := b) (q := -q) hb (by rw [Int.neg_mul]; omega) (by rw [Int.neg_mul]; omega)
  unfold flo at this
  omega

theorem flo_trunc {a b : Int} (hb : 1 ≤ b) : flo a b = if Int.tmod a b < 0 then Int.tdiv a b - 1 else Int.tdiv a b := by
  have hm := Int.mul_tdiv_add_tmod a b
  rw [Int.mul_comm] at hm
  rcases Int.lt_or_le a 0 with h | h
  · obtain ⟨_, e2⟩ := rem_neg (b := b) h
    have h1 := Int.emod_nonneg (-a) (show b ≠ 0 by omega)
    have h2 := Int.emod_lt_of_pos (-a) (show 0 < b by omega)
    split
    · exact (flo_of hb (by rw [Int.sub_mul]; omega) (by rw [Int.sub_mul]; omega)).symm
    · exact (flo_of hb (by omega) (by omega)).symm
  · obtain ⟨_, e2⟩ := rem_pos (b := b) h
    have h1 := Int.emod_nonneg a (show b ≠ 0 by omega)
    have h2 := Int.emod_lt_of_pos a (show 0 < b by omega)
    rw [if_neg (by omega)]
    exact (flo_of hb (by omega) (by omega)).symm
theorem cei_trunc {a b : Int} (hb : 1 ≤ b) : cei a b = if Int.tmod a b > 0 then Int.tdiv a b + 1 else Int.tdiv a b := by
  have hm := Int.mul_tdiv_add_tmod a b
  rw [Int.mul_comm] at hm
  rcases Int.lt_or_le a 0 with h | h
  · obtain ⟨_, e2⟩ := rem_neg (b := b) h
    have h1 := Int.emod_nonneg (-a) (show b ≠ 0 by omega)
    have h2 := Int.emod_lt_of_pos (-a) (show 0 < b by omega)
    rw [if_neg (by omega)]
    exact (cei_of hb (by omega) (by omega)).symm
  · obtain ⟨_, e2⟩ := rem_pos (b := b) h
    have h1 := Int.emod_nonneg a (show b ≠ 0 by omega)
    have h2 := Int.emod_lt_of_pos a (show 0 < b by omega)
    split
    · exact (cei_of hb (by rw [Int.add_mul]; omega) (by rw [Int.add_mul]; omega)).symm
    · exact (cei_of hb (by omega) (by omega)).symm
theorem flo_bd {a b : Int} (hb : 1 ≤ b) (h1 : -9223372036854775808 ≤ a) (h2 : a ≤ 9223372036854775807) : -9223372036854775808 ≤ flo a b ∧ flo a b ≤ 9223372036854775807 := by
  unfold flo
  exact ⟨by
    apply Int.le_ediv_of_mul_le (by omega)
    have := Int.mul_le_mul_of_nonneg_left (a := 1) (b := b) (c := 9223372036854775808) hb (by omega)
    omega, by
    have := flo_le (a := a) hb
    unfold flo at this
    rcases Int.lt_or_le (a / b) 0 with h | h
    · omega
    · have := Int.mul_le_mul_of_nonneg_left (a := 1) (b := b) (c := a / b) hb h
      omega⟩
/-- The quotients differ by 0 or 1, and are alike where nothing is left. -/
theorem flo_cei {a b : Int} (hb : 1 ≤ b) : (flo a b = cei a b ↔ Int.tmod a b = 0) ∧ cei a b - flo a b ≤ 1 := by
  rw [flo_trunc hb, cei_trunc hb]
  split <;> split <;> omega
theorem flo_mono {u v b : Int} (hb : 1 ≤ b) (h : u ≤ v) : flo u b ≤ flo v b := Int.ediv_le_ediv (by omega) h
theorem flo_sub {u v b : Int} (hb : 1 ≤ b) : flo u b - flo v b ≤ flo (u - v) b + 1 := by
  have h1 := flo_le (a := u) hb
  have h2 := flo_le (a := v) hb
  have h3 := flo_le (a := u - v) hb
  have : (flo u b - flo v b) * b < (flo (u - v) b + 2) * b := by rw [Int.sub_mul, Int.add_mul]; omega
  have := Int.lt_of_mul_lt_mul_right this (by omega)
  omega
end Go.Proofs.YtkhlndhleiaokaaDoor.Plain
set_option linter.unusedVariables false
namespace Go.Proofs.YtkhlndhleiaokaaDoor.MHo
open Go.RowKit Go.Proofs.YtkhlndhleiaokaaDoorW.PrintWords
theorem made_cases {X : Nat → Nat → Prop} (h : X 1 0 ∧ X 1 1 ∧ X 1 2 ∧ X 1 3 ∧ X 2 0 ∧ X 2 1 ∧ X 2 2 ∧ X 2 3 ∧ X 3 0 ∧ X 3 1 ∧ X 3 2 ∧ X 3 3 ∧ X 4 0 ∧ X 4 1 ∧ X 4 2 ∧ X 4 3) (q s : Nat) (h1 : 1 ≤ q) (h4 : q ≤ 4) (h3 : s ≤ 3) : X q s := by
  obtain ⟨a1, a2, a3, a4, b1, b2, b3, b4, c1, c2, c3, c4, d1, d2, d3, d4⟩ := h
  rcases (show q = 1 ∨ q = 2 ∨ q = 3 ∨ q = 4 by omega) with rfl | rfl | rfl | rfl <;> rcases (show s = 0 ∨ s = 1 ∨ s = 2 ∨ s = 3 by omega) with rfl | rfl | rfl | rfl <;> assumption
theorem right_made (a2 a3 a4 a5 a6 a7 a8 a9 a10 a11 a12 : Int) (q s : Nat) (h1 : 1 ≤ q) (h4 : q ≤ 4) (h3 : s ≤ 3) : plan_Right.f (madeNet q s).1 (madeNet q s).2 a2 a3 a4 a5 a6 a7 a8 a9 a10 a11 a12 = some true := by
  refine made_cases (X := fun q s => plan_Right.f (madeNet q s).1 (madeNet q s).2 a2 a3 a4 a5 a6 a7 a8 a9 a10 a11 a12 = some true) ⟨?_, ?_, ?_, ?_, ?_, ?_, ?_, ?_, ?_, ?_, ?_, ?_, ?_, ?_, ?_, ?_⟩ q s h1 h4 h3 <;> kernel_rfl
theorem good_made (a2 a3 a4 a5 a6 a7 a8 a9 a10 a11 a12 : Int) (q s : Nat) (h1 : 1 ≤ q) (h4 : q ≤ 4) (h3 : s ≤ 3) : drumlineref5_Good.f (madeNet q s).1 (madeNet q s).2 a2 a3 a4 a5 a6 a7 a8 a9 a10 a11 a12 0 = some true := by
  refine made_cases (X := fun q s => drumlineref5_Good.f (madeNet q s).1 (madeNet q s).2 a2 a3 a4 a5 a6 a7 a8 a9 a10 a11 a12 0 = some true) ⟨?_, ?_, ?_, ?_, ?_, ?_, ?_, ?_, ?_, ?_, ?_, ?_, ?_, ?_, ?_, ?_⟩ q s h1 h4 h3 <;> kernel_rfl
end Go.Proofs.YtkhlndhleiaokaaDoor.MHo
namespace Go.Proofs.YtkhlndhleiaokaaDoor.MHo
open Go.RowKit Go.Proofs.YtkhlndhleiaokaaDoorW.PrintWords Go.Proofs.YtkhlndhleiaokaaDoorW.PrintLast Go.Proofs.YtkhlndhleiaokaaDoorW.PrintMore
attribute [local go_sem] mp_u32s mp_u32m mp_u8s mp_u8m max2_int min2_int max_two min_two max_three min_three max_four min_four   -- for this text's walks alone
set_option linter.unusedVariables false
set_option linter.unusedSimpArgs false

/-! ### bounds_Edge: function 23 -/
def bounds_Edge.f (k : Nat) (l0_0 : List (S60)) (l0_1 : List (S37)) (a0_2 : Int) (a0_3 : Int) (a0_4 : Int) (a0_5 : Int) (a0_6 : Int) (a0_7 : Int) (a0_8 : Int) (a0_9 : Int) (a0_10 : Int) (a0_11 : Int) (a0_12 : Int) : Option (Int) := (bounds_in.f k l0_0 l0_1 a0_2 a0_3 a0_4 a0_5 a0_6 a0_7 a0_8 a0_9 a0_10 a0_11 a0_12).bind fun bt461 => (some bt461.1)
theorem bounds_Edge.mono : ∀ a0 a1 a2 a3 a4 a5 a6 a7 a8 a9 a10 a11 a12 k, LeO (bounds_Edge.f k a0 a1 a2 a3 a4 a5 a6 a7 a8 a9 a10 a11 a12) (bounds_Edge.f (k + 1) a0 a1 a2 a3 a4 a5 a6 a7 a8 a9 a10 a11 a12) := by
 intro a0 a1 a2 a3 a4 a5 a6 a7 a8 a9 a10 a11 a12 k
 unfold bounds_Edge.f
 repeat' first
   | (with_reducible exact bounds_in.mono _ _ _ _ _ _ _ _ _ _ _ _ _ _)
   | (with_reducible exact LeO.refl _)
   | (with_reducible exact LeO.none _)
   | (with_reducible refine LeO.ite ?_ ?_)
   | (with_reducible refine LeO.bind ?_ (fun _ => ?_))
   | exact bounds_in.mono _ _ _ _ _ _ _ _ _ _ _ _ _ _
   | exact LeO.none _
   | refine LeO.ite ?_ ?_
   | refine LeO.bind ?_ (fun _ => ?_)
set_option maxHeartbeats 8000000 in
set_option maxRecDepth 100000 in
theorem bounds_Edge.calls (k : Nat) (A0_0 : Option Addr) (c0_0 : Nat) (l0_0 : List (S60)) (A0_1 : Option Addr) (c0_1 : Nat) (l0_1 : List (S37)) (a0_2 : Int) (a0_3 : Int) (a0_4 : Int) (a0_5 : Int) (a0_6 : Int) (a0_7 : Int) (a0_8 : Int) (a0_9 : Int) (a0_10 : Int) (a0_11 : Int) (a0_12 : Int) (r : Int) (w : World) (hr0_0 : Kd.C k60 w A0_0 l0_0.length l0_0) (hc0_0 : l0_0.length ≤ c0_0) (hr0_1 : Kd.C k37 w A0_1 l0_1.length l0_1) (hc0_1 : l0_1.length ≤ c0_1) (h : bounds_Edge.f k l0_0 l0_1 a0_2 a0_3 a0_4 a0_5 a0_6 a0_7 a0_8 a0_9 a0_10 a0_11 a0_12 = some r) :
  Calls Tryd.prog 23 #[.agg #[.slice A0_0 l0_0.length c0_0, .slice A0_1 l0_1.length c0_1, .int .i64 a0_2, .int .i64 a0_3, .int .i64 a0_4, .int .i64 a0_5, .int .i64 a0_6, .int .i64 a0_7, .int .i64 a0_8, .int .i64 a0_9, .int .i64 a0_10, .int .i64 a0_11, .int .i64 a0_12]] w fun e w' => e = .returned (.int .i64 r) ∧ Below w.heap.size w w' := by
 have hu25 := Tryd.underlying25
 have HR0_0 := Aside0.mk hr0_0
 have HC0_0 := Aside0.mk hc0_0
 clear hr0_0 hc0_0
 have HR0_1 := Aside0.mk hr0_1
 have HC0_1 := Aside0.mk hc0_1
 clear hr0_1 hc0_1
 have HB := Aside0.mk (Below.refl w.heap.size w)
 have H : ((bounds_in.f k l0_0 l0_1 a0_2 a0_3 a0_4 a0_5 a0_6 a0_7 a0_8 a0_9 a0_10 a0_11 a0_12).bind fun bt461 => (some bt461.1)) = some r := h
 clear h
 replace H := Option.bind_eq_some_iff.mp H
 obtain ⟨⟨t461, t462, t463, t464, t465, t466, t467⟩, A20, H⟩ := H
 have hfd0 : ∀ w_ : World, (Instr.field 67 (.agg #[.int .i64 t461, .int .i64 t462, .int .i64 t463, .int .i64 t464, .int .i64 t465, .int .i64 t466, .int .i64 t467]) 0).run Tryd.prog w_ = .ok (.int .i64 t461) w_ := fun _ => by kernel_rfl
 have hfd1 : ∀ w_ : World, (Instr.field 67 (.agg #[.int .i64 t461, .int .i64 t462, .int .i64 t463, .int .i64 t464, .int .i64 t465, .int .i64 t466, .int .i64 t467]) 1).run Tryd.prog w_ = .ok (.int .i64 t462) w_ := fun _ => by kernel_rfl
 have hfd5 : ∀ w_ : World, (Instr.field 67 (.agg #[.int .i64 t461, .int .i64 t462, .int .i64 t463, .int .i64 t464, .int .i64 t465, .int .i64 t466, .int .i64 t467]) 5).run Tryd.prog w_ = .ok (.int .i64 t466) w_ := fun _ => by kernel_rfl
 replace H : (some t461) = some r := H
 have A2 := Aside0.mk A20
 clear A20
 obtain rfl := Option.some.inj H
 go_enter Tryd.func23, Tryd.ntmps23
 go_wp2_with (first | ((with_reducible refine gate_dst (N := 1) rfl ?_); refine box_event ?hg (N := 1) ?hd (cs := #[.slice A0_0 l0_0.length c0_0, .slice A0_1 l0_1.length c0_1, .int .i64 a0_2, .int .i64 a0_3, .int .i64 a0_4, .int .i64 a0_5, .int .i64 a0_6, .int .i64 a0_7, .int .i64 a0_8, .int .i64 a0_9, .int .i64 a0_10, .int .i64 a0_11, .int .i64 a0_12]) (t := 25) ?hr ?_; (case hd => rfl); (case hg => rfl); (case hr => first | (go_simp; done) | (go_simp; rfl)); intro gb460 hg w3 hbox hb; have n0_ := Aside0.mk (below_step (by repeat (first | (with_reducible first | exact HB.out | apply below_alloc | apply pw_below_drewN | apply below_drew1) | exact HB.out)) hb); have n1_ := Aside0.mk (hbox); have n2_ := Aside0.mk ((by rw [hg]; exact (below_size (by repeat (first | (with_reducible first | exact HB.out | apply below_alloc | apply pw_below_drewN | apply below_drew1) | exact HB.out))) : w.heap.size ≤ gb460)); have n3_ := Aside0.mk ((by rw [hg]; exact (below_size (by repeat (first | (with_reducible first | exact HB.out | apply below_alloc | apply pw_below_drewN | apply below_drew1) | exact HB.out))) : w.heap.size ≤ gb460)); clear HB; have HB := n0_; have BK460 := n1_; have GW460 := n2_; have GE460 := n3_; clear n0_ n1_ n2_ n3_; clear hb hbox hg; obtain ⟨hcz4_0, hcz4_1, hcz4_2, hcz4_3, hcz4_4, hcz4_5, hcz4_6, hcz4_7, hcz4_8, hcz4_9, hcz4_10, hcz4_11, hcz4_12⟩ := cellsK13 BK460.out; obtain ⟨hfz4_0, hfz4_1, hfz4_2, hfz4_3, hfz4_4, hfz4_5, hfz4_6, hfz4_7, hfz4_8, hfz4_9, hfz4_10, hfz4_11, hfz4_12⟩ := frozK13 BK460.out) | ((with_reducible refine gate_callee (f := 45) rfl ?_); refine goesL_ (some 4) rfl rfl Tryd.func45 (by kernel_rfl) rfl #[.agg #[.slice A0_0 l0_0.length c0_0, .slice A0_1 l0_1.length c0_1, .int .i64 a0_2, .int .i64 a0_3, .int .i64 a0_4, .int .i64 a0_5, .int .i64 a0_6, .int .i64 a0_7, .int .i64 a0_8, .int .i64 a0_9, .int .i64 a0_10, .int .i64 a0_11, .int .i64 a0_12]] rfl (by (try simp only [List.map_toArray, List.map_cons, List.map_nil]); first | done | rfl | (simp only [List.length_drop, List.length_take]; rfl)) ?_; (with_reducible refine (bounds_in.calls k _ _ l0_0 _ _ l0_1 a0_2 a0_3 a0_4 a0_5 a0_6 a0_7 a0_8 a0_9 a0_10 a0_11 a0_12 t461 t462 t463 t464 t465 t466 t467 _ ?side1 ?side2 ?side3 ?side4 A2.out).mono ?_); (case side1 => repeat (first | exact (Kd.C_below HR0_0.out HB.out) | (with_reducible refine Kd.C_alloc ?_ _) | (with_reducible refine Kd.C_drewN ?_ _) | (with_reducible refine Kd.C_drew ?_))); (case side2 => exact HC0_0.out); (case side3 => repeat (first | exact (Kd.C_below HR0_1.out HB.out) | (with_reducible refine Kd.C_alloc ?_ _) | (with_reducible refine Kd.C_drewN ?_ _) | (with_reducible refine Kd.C_drew ?_))); (case side4 => exact HC0_1.out); rintro e w5 ⟨rfl, hb⟩; refine ⟨_, rfl, ?_⟩; have n0_ := Aside0.mk (blk_below (g := gb460) (o := .cells #[.slice A0_0 l0_0.length c0_0, .slice A0_1 l0_1.length c0_1, .int .i64 a0_2, .int .i64 a0_3, .int .i64 a0_4, .int .i64 a0_5, .int .i64 a0_6, .int .i64 a0_7, .int .i64 a0_8, .int .i64 a0_9, .int .i64 a0_10, .int .i64 a0_11, .int .i64 a0_12] 25 (0, 0)) (by (with_reducible repeat (first | refine blk_drewN ?_ _ | refine blk_drew ?_ | refine blk_alloc ?_ _)); exact BK460.out) hb); have n1_ := Aside0.mk (below_step (by repeat (first | (with_reducible first | exact HB.out | apply below_alloc | apply pw_below_drewN | apply below_drew1 | refine below_set ?_ GE460.out) | exact HB.out)) hb); clear BK460; clear HB; have BK460 := n0_; have HB := n1_; clear n0_ n1_; (try clear hb); (try clear hb2); (try clear hk); (try clear hi)))
 go_ret
 exact ⟨by first | rfl | (simp [errW_none, errW_some] <;> rfl) | (simp [*, errW_none, errW_some] <;> rfl), by repeat (first | (with_reducible first | exact HB.out | apply below_alloc | apply pw_below_drewN | apply below_drew1 | refine below_set ?_ GE460.out) | exact HB.out)⟩


/-! ### bounds_Tick: function 29 -/
def bounds_Tick.f (k : Nat) (l0_0 : List (S60)) (l0_1 : List (S37)) (a0_2 : Int) (a0_3 : Int) (a0_4 : Int) (a0_5 : Int) (a0_6 : Int) (a0_7 : Int) (a0_8 : Int) (a0_9 : Int) (a0_10 : Int) (a0_11 : Int) (a0_12 : Int) : Option (Int) := (bounds_in.f k l0_0 l0_1 a0_2 a0_3 a0_4 a0_5 a0_6 a0_7 a0_8 a0_9 a0_10 a0_11 a0_12).bind fun bt506 => (some bt506.2.2.2.2.2.1)
theorem bounds_Tick.mono : ∀ a0 a1 a2 a3 a4 a5 a6 a7 a8 a9 a10 a11 a12 k, LeO (bounds_Tick.f k a0 a1 a2 a3 a4 a5 a6 a7 a8 a9 a10 a11 a12) (bounds_Tick.f (k + 1) a0 a1 a2 a3 a4 a5 a6 a7 a8 a9 a10 a11 a12) := by
 intro a0 a1 a2 a3 a4 a5 a6 a7 a8 a9 a10 a11 a12 k
 unfold bounds_Tick.f
 repeat' first
   | (with_reducible exact bounds_in.mono _ _ _ _ _ _ _ _ _ _ _ _ _ _)
   | (with_reducible exact LeO.refl _)
   | (with_reducible exact LeO.none _)
   | (with_reducible refine LeO.ite ?_ ?_)
   | (with_reducible refine LeO.bind ?_ (fun _ => ?_))
   | exact bounds_in.mono _ _ _ _ _ _ _ _ _ _ _ _ _ _
   | exact LeO.none _
   | refine LeO.ite ?_ ?_
   | refine LeO.bind ?_ (fun _ => ?_)
set_option maxHeartbeats 8000000 in
set_option maxRecDepth 100000 in
theorem bounds_Tick.calls (k : Nat) (A0_0 : Option Addr) (c0_0 : Nat) (l0_0 : List (S60)) (A0_1 : Option Addr) (c0_1 : Nat) (l0_1 : List (S37)) (a0_2 : Int) (a0_3 : Int) (a0_4 : Int) (a0_5 : Int) (a0_6 : Int) (a0_7 : Int) (a0_8 : Int) (a0_9 : Int) (a0_10 : Int) (a0_11 : Int) (a0_12 : Int) (r : Int) (w : World) (hr0_0 : Kd.C k60 w A0_0 l0_0.length l0_0) (hc0_0 : l0_0.length ≤ c0_0) (hr0_1 : Kd.C k37 w A0_1 l0_1.length l0_1) (hc0_1 : l0_1.length ≤ c0_1) (h : bounds_Tick.f k l0_0 l0_1 a0_2 a0_3 a0_4 a0_5 a0_6 a0_7 a0_8 a0_9 a0_10 a0_11 a0_12 = some r) :
  Calls Tryd.prog 29 #[.agg #[.slice A0_0 l0_0.length c0_0, .slice A0_1 l0_1.length c0_1, .int .i64 a0_2, .int .i64 a0_3, .int .i64 a0_4, .int .i64 a0_5, .int .i64 a0_6, .int .i64 a0_7, .int .i64 a0_8, .int .i64 a0_9, .int .i64 a0_10, .int .i64 a0_11, .int .i64 a0_12]] w fun e w' => e = .returned (.int .i64 r) ∧ Below w.heap.size w w' := by
 have hu25 := Tryd.underlying25
 have HR0_0 := Aside0.mk hr0_0
 have HC0_0 := Aside0.mk hc0_0
 clear hr0_0 hc0_0
 have HR0_1 := Aside0.mk hr0_1
 have HC0_1 := Aside0.mk hc0_1
 clear hr0_1 hc0_1
 have HB := Aside0.mk (Below.refl w.heap.size w)
 have H : ((bounds_in.f k l0_0 l0_1 a0_2 a0_3 a0_4 a0_5 a0_6 a0_7 a0_8 a0_9 a0_10 a0_11 a0_12).bind fun bt506 => (some bt506.2.2.2.2.2.1)) = some r := h
 clear h
 replace H := Option.bind_eq_some_iff.mp H
 obtain ⟨⟨t506, t507, t508, t509, t510, t511, t512⟩, A20, H⟩ := H
 have hfd0 : ∀ w_ : World, (Instr.field 67 (.agg #[.int .i64 t506, .int .i64 t507, .int .i64 t508, .int .i64 t509, .int .i64 t510, .int .i64 t511, .int .i64 t512]) 0).run Tryd.prog w_ = .ok (.int .i64 t506) w_ := fun _ => by kernel_rfl
 have hfd1 : ∀ w_ : World, (Instr.field 67 (.agg #[.int .i64 t506, .int .i64 t507, .int .i64 t508, .int .i64 t509, .int .i64 t510, .int .i64 t511, .int .i64 t512]) 1).run Tryd.prog w_ = .ok (.int .i64 t507) w_ := fun _ => by kernel_rfl
 have hfd5 : ∀ w_ : World, (Instr.field 67 (.agg #[.int .i64 t506, .int .i64 t507, .int .i64 t508, .int .i64 t509, .int .i64 t510, .int .i64 t511, .int .i64 t512]) 5).run Tryd.prog w_ = .ok (.int .i64 t511) w_ := fun _ => by kernel_rfl
 replace H : (some t511) = some r := H
 have A2 := Aside0.mk A20
 clear A20
 obtain rfl := Option.some.inj H
 go_enter Tryd.func29, Tryd.ntmps29
 go_wp2_with (first | ((with_reducible refine gate_dst (N := 1) rfl ?_); refine box_event ?hg (N := 1) ?hd (cs := #[.slice A0_0 l0_0.length c0_0, .slice A0_1 l0_1.length c0_1, .int .i64 a0_2, .int .i64 a0_3, .int .i64 a0_4, .int .i64 a0_5, .int .i64 a0_6, .int .i64 a0_7, .int .i64 a0_8, .int .i64 a0_9, .int .i64 a0_10, .int .i64 a0_11, .int .i64 a0_12]) (t := 25) ?hr ?_; (case hd => rfl); (case hg => rfl); (case hr => first | (go_simp; done) | (go_simp; rfl)); intro gb505 hg w3 hbox hb; have n0_ := Aside0.mk (below_step (by repeat (first | (with_reducible first | exact HB.out | apply below_alloc | apply pw_below_drewN | apply below_drew1) | exact HB.out)) hb); have n1_ := Aside0.mk (hbox); have n2_ := Aside0.mk ((by rw [hg]; exact (below_size (by repeat (first | (with_reducible first | exact HB.out | apply below_alloc | apply pw_below_drewN | apply below_drew1) | exact HB.out))) : w.heap.size ≤ gb505)); have n3_ := Aside0.mk ((by rw [hg]; exact (below_size (by repeat (first | (with_reducible first | exact HB.out | apply below_alloc | apply pw_below_drewN | apply below_drew1) | exact HB.out))) : w.heap.size ≤ gb505)); clear HB; have HB := n0_; have BK505 := n1_; have GW505 := n2_; have GE505 := n3_; clear n0_ n1_ n2_ n3_; clear hb hbox hg; obtain ⟨hcz4_0, hcz4_1, hcz4_2, hcz4_3, hcz4_4, hcz4_5, hcz4_6, hcz4_7, hcz4_8, hcz4_9, hcz4_10, hcz4_11, hcz4_12⟩ := cellsK13 BK505.out; obtain ⟨hfz4_0, hfz4_1, hfz4_2, hfz4_3, hfz4_4, hfz4_5, hfz4_6, hfz4_7, hfz4_8, hfz4_9, hfz4_10, hfz4_11, hfz4_12⟩ := frozK13 BK505.out) | ((with_reducible refine gate_callee (f := 45) rfl ?_); refine goesL_ (some 4) rfl rfl Tryd.func45 (by kernel_rfl) rfl #[.agg #[.slice A0_0 l0_0.length c0_0, .slice A0_1 l0_1.length c0_1, .int .i64 a0_2, .int .i64 a0_3, .int .i64 a0_4, .int .i64 a0_5, .int .i64 a0_6, .int .i64 a0_7, .int .i64 a0_8, .int .i64 a0_9, .int .i64 a0_10, .int .i64 a0_11, .int .i64 a0_12]] rfl (by (try simp only [List.map_toArray, List.map_cons, List.map_nil]); first | done | rfl | (simp only [List.length_drop, List.length_take]; rfl)) ?_; (with_reducible refine (bounds_in.calls k _ _ l0_0 _ _ l0_1 a0_2 a0_3 a0_4 a0_5 a0_6 a0_7 a0_8 a0_9 a0_10 a0_11 a0_12 t506 t507 t508 t509 t510 t511 t512 _ ?side1 ?side2 ?side3 ?side4 A2.out).mono ?_); (case side1 => repeat (first | exact (Kd.C_below HR0_0.out HB.out) | (with_reducible refine Kd.C_alloc ?_ _) | (with_reducible refine Kd.C_drewN ?_ _) | (with_reducible refine Kd.C_drew ?_))); (case side2 => exact HC0_0.out); (case side3 => repeat (first | exact (Kd.C_below HR0_1.out HB.out) | (with_reducible refine Kd.C_alloc ?_ _) | (with_reducible refine Kd.C_drewN ?_ _) | (with_reducible refine Kd.C_drew ?_))); (case side4 => exact HC0_1.out); rintro e w5 ⟨rfl, hb⟩; refine ⟨_, rfl, ?_⟩; have n0_ := Aside0.mk (blk_below (g := gb505) (o := .cells #[.slice A0_0 l0_0.length c0_0, .slice A0_1 l0_1.length c0_1, .int .i64 a0_2, .int .i64 a0_3, .int .i64 a0_4, .int .i64 a0_5, .int .i64 a0_6, .int .i64 a0_7, .int .i64 a0_8, .int .i64 a0_9, .int .i64 a0_10, .int .i64 a0_11, .int .i64 a0_12] 25 (0, 0)) (by (with_reducible repeat (first | refine blk_drewN ?_ _ | refine blk_drew ?_ | refine blk_alloc ?_ _)); exact BK505.out) hb); have n1_ := Aside0.mk (below_step (by repeat (first | (with_reducible first | exact HB.out | apply below_alloc | apply pw_below_drewN | apply below_drew1 | refine below_set ?_ GE505.out) | exact HB.out)) hb); clear BK505; clear HB; have BK505 := n0_; have HB := n1_; clear n0_ n1_; (try clear hb); (try clear hb2); (try clear hk); (try clear hi)))
 go_ret
 exact ⟨by first | rfl | (simp [errW_none, errW_some] <;> rfl) | (simp [*, errW_none, errW_some] <;> rfl), by repeat (first | (with_reducible first | exact HB.out | apply below_alloc | apply pw_below_drewN | apply below_drew1 | refine below_set ?_ GE505.out) | exact HB.out)⟩


/-! ### clock_Local: function 43 -/
def clock_Local.f (a0 : Int) (a1 : Int) : Option (Int) := (ticks_Scale.f a0 a1).bind fun bt423 => (some (wrap64 (a0 + bt423.1)))
set_option maxHeartbeats 8000000 in
set_option maxRecDepth 100000 in
theorem clock_Local.calls (a0 : Int) (a1 : Int) (r : Int) (w : World) (h : clock_Local.f a0 a1 = some r) :
  Calls Tryd.prog 43 #[.int .i64 a0, .int .i64 a1] w fun e w' => e = .returned (.int .i64 r) ∧ Drawn0 w w' := by
 have H : ((ticks_Scale.f a0 a1).bind fun bt423 => (some (wrap64 (a0 + bt423.1)))) = some r := h
 clear h
 replace H := Option.bind_eq_some_iff.mp H
 obtain ⟨⟨t423, t424⟩, A30, H⟩ := H
 replace H : (some (wrap64 (a0 + t423))) = some r := H
 have A3 := Aside0.mk A30
 clear A30
 obtain rfl := Option.some.inj H
 go_enter Tryd.func43, Tryd.ntmps43
 go_wp2_with (first | ((with_reducible refine gate_callee (f := 44) rfl ?_); refine goesL_ (some 10) rfl rfl Tryd.func44 (by kernel_rfl) rfl #[.int .i64 a0, .int .i64 a1] rfl (by (try simp only [List.map_toArray, List.map_cons, List.map_nil]); first | done | rfl | (simp only [List.length_drop, List.length_take]; rfl)) ?_; (with_reducible refine (ticks_Scale.calls a0 a1 t423 t424 _ A3.out).mono ?_); rintro e w' ⟨rfl, ⟨nd, rfl⟩⟩; refine ⟨_, rfl, ?_⟩))
 go_ret
 exact ⟨by first | rfl | (simp; done) | (simp [*]; done), by repeat (first | exact Drawn0.refl _ | apply Drawn0.step)⟩

end Go.Proofs.YtkhlndhleiaokaaDoor.MHo
set_option linter.unusedVariables false
set_option linter.unusedSimpArgs false
namespace Go.Proofs.YtkhlndhleiaokaaDoor.MHo
open Go.RowKit Go.Proofs.YtkhlndhleiaokaaDoorW.PrintWords Go.Proofs.YtkhlndhleiaokaaDoor.Plain

theorem floor_eq {a b : Int} (h1 : -9223372036854775808 ≤ a) (h2 : a ≤ 9223372036854775807) : ticks_Floor.f a b = some (if b < 1 then (0, false) else (flo a b, true)) := by
  unfold ticks_Floor.f
  by_cases hb : b < 1
  · rw [if_pos hb, if_pos hb]
  · have ht := tdiv_le (a := a) (b := b) (by omega) h1 h2
    have hf := flo_bd (a := a) (b := b) (by omega) h1 h2
    have he := flo_trunc (a := a) (b := b) (by omega)
    rw [if_neg hb, if_neg (by omega), if_neg hb, w64 ht.1 ht.2]
    by_cases hm : Int.tmod a b < 0
    · rw [if_pos hm] at he ⊢
      rw [w64 (by omega) (by omega), he]
    · rw [if_neg hm] at he ⊢
      rw [he]

theorem mul_bd {x p X P : Int} (h1 : -X ≤ x) (h2 : x ≤ X) (h3 : -P ≤ p) (h4 : p ≤ P) : -(X * P) ≤ x * p ∧ x * p ≤ X * P := by
  rcases Int.lt_or_le x 0 with hx | hx
  · have a := Int.mul_le_mul_of_nonneg_left (c := -x) (a := -P) (b := p) h3 (by omega)
    have b := Int.mul_le_mul_of_nonneg_left (c := -x) (a := p) (b := P) h4 (by omega)
    have c := Int.mul_le_mul_of_nonneg_right (c := P) (a := -x) (b := X) (by omega) (by omega)
    simp only [Int.neg_mul, Int.mul_neg] at a b c
    omega
  · have a := Int.mul_le_mul_of_nonneg_left (c := x) (a := -P) (b := p) h3 (by omega)
    have b := Int.mul_le_mul_of_nonneg_left (c := x) (a := p) (b := P) h4 (by omega)
    have c := Int.mul_le_mul_of_nonneg_right (c := P) (a := x) (b := X) (by omega) (by omega)
    simp only [Int.mul_neg] at a
    omega
theorem scale_eq {x p : Int} (h1 : -1099511627776 ≤ x) (h2 : x ≤ 1099511627776) (h3 : -1000000 ≤ p) (h4 : p ≤ 1000000) : ticks_Scale.f x p = some (flo (x * p) 1000000, true) := by
  obtain ⟨b1, b2⟩ := mul_bd h1 h2 h3 h4
  unfold ticks_Scale.f ticks_Time.f
  rw [if_pos (by omega)]
  simp only [Option.bind_some, decide_eq_true_eq]
  rw [if_pos (by omega), if_neg (by omega), if_neg (by omega), w64 (by omega) (by omega), floor_eq (by omega) (by omega)]
  rfl
theorem real_eq {x p : Int} (h1 : -1099511627776 ≤ x) (h2 : x ≤ 1099511627776) (h3 : -1000000 ≤ p) (h4 : p ≤ 1000000) : clock_Real.f x p = some (x - flo (x * p) 1000000) := by
  obtain ⟨b1, b2⟩ := mul_bd h1 h2 h3 h4
  have f := flo_le (a := x * p) (b := 1000000) (by omega)
  unfold clock_Real.f
  rw [scale_eq h1 h2 h3 h4]
  simp only [Option.bind_some]
  rw [w64 (by omega) (by omega)]
theorem local_eq {x p : Int} (h1 : -1099511627776 ≤ x) (h2 : x ≤ 1099511627776) (h3 : -1000000 ≤ p) (h4 : p ≤ 1000000) : clock_Local.f x p = some (x + flo (x * p) 1000000) := by
  obtain ⟨b1, b2⟩ := mul_bd h1 h2 h3 h4
  have f := flo_le (a := x * p) (b := 1000000) (by omega)
  unfold clock_Local.f
  rw [scale_eq h1 h2 h3 h4]
  simp only [Option.bind_some]
  rw [w64 (by omega) (by omega)]
/-- Rounded up, of parts of a million. -/
def up (d : Int) : Int := (d + 999999) / 1000000
theorem ceil_eq {d : Int} (h0 : 0 ≤ d) (h1 : d ≤ 1000000000000) : drumlineref1_Ceil.f d 1000000 = some (up d, true) := by
  unfold drumlineref1_Ceil.f up
  rw [if_neg (by omega), if_neg (by omega), Int.tmod_eq_emod_of_nonneg h0, Int.tdiv_eq_ediv_of_nonneg h0]
  have e : wrap64 (d / 1000000) = d / 1000000 := by unfold wrap64; omega
  rw [e]
  by_cases h : d % 1000000 > 0
  · rw [if_pos h, show wrap64 (d / 1000000 + 1) = d / 1000000 + 1 by unfold wrap64; omega, show d / 1000000 + 1 = (d + 999999) / 1000000 by omega]
  · rw [if_neg h, show d / 1000000 = (d + 999999) / 1000000 by omega]
theorem tceil_eq {d : Int} (h0 : 0 ≤ d) (h1 : d ≤ 1000000000000) : ticks_Ceil.f d 1000000 = some (up d, true) := ceil_eq h0 h1
theorem up_eq {d : Int} (h0 : 0 ≤ d) (h1 : d ≤ 1000000000000) : drumlineref5_up.f d = some (up d) := by
  unfold drumlineref5_up.f; rw [ceil_eq h0 h1]; rfl
theorem part_eq {d : Int} (h0 : 0 ≤ d) (h1 : d ≤ 1000000000000) : bounds_part.f d = some (up d) := by
  unfold bounds_part.f; rw [tceil_eq h0 h1]; rfl
/-- What a network's drift and cycle come to. -/
def Eg (dr cyc : Int) : Int := up (2 * dr * cyc) + 1
theorem dc_bd {dr cyc : Int} (h1 : 0 ≤ dr) (h2 : dr ≤ 140) (h3 : 20000 ≤ cyc) (h4 : cyc ≤ 27000) : 0 ≤ dr * cyc ∧ dr * cyc ≤ 3780000 ∧ 2 * dr * cyc = 2 * (dr * cyc) := by
  refine ⟨Int.mul_nonneg h1 (by omega), ?_, Int.mul_assoc 2 dr cyc⟩
  calc dr * cyc ≤ 140 * cyc := Int.mul_le_mul_of_nonneg_right h2 (by omega)
    _ ≤ 3780000 := by omega
theorem Eg_bd {dr cyc : Int} (h1 : 0 ≤ dr) (h2 : dr ≤ 140) (h3 : 20000 ≤ cyc) (h4 : cyc ≤ 27000) : 1 ≤ Eg dr cyc ∧ Eg dr cyc ≤ 9 := by
  have := dc_bd h1 h2 h3 h4
  unfold Eg up; omega
theorem edge_eq (P : List S60) (L : List S37) {a2 a3 a4 a5 a6 a7 a8 a9 a10 a11 a12 : Int} (h1 : 0 ≤ a6) (h2 : a6 ≤ 140) (h3 : 20000 ≤ a2) (h4 : a2 ≤ 27000) : drumlineref5_edge.f P L a2 a3 a4 a5 a6 a7 a8 a9 a10 a11 a12 = some (Eg a6 a2) := by
  have hb := dc_bd h1 h2 h3 h4
  unfold drumlineref5_edge.f
  rw [show wrap64 (2 * a6) = 2 * a6 by unfold wrap64; omega, show wrap64 (2 * a6 * a2) = 2 * a6 * a2 by unfold wrap64; omega, up_eq (by omega) (by omega)]
  simp only [Option.bind_some]
  have := Eg_bd h1 h2 h3 h4
  unfold Eg at *
  rw [show wrap64 (up (2 * a6 * a2) + 1) = up (2 * a6 * a2) + 1 by unfold wrap64; omega]
theorem out_eq (P : List S60) (L : List S37) {a2 a3 a4 a5 a6 a7 a8 a9 a10 a11 a12 : Int} (k : Nat) (h1 : 1000 ≤ a2) (h2 : a2 ≤ 1000000) (h3 : 0 ≤ a6) (h4 : a6 ≤ 500) (h5 : 0 ≤ a7) (h6 : a7 ≤ 400000) (h7 : 1 ≤ a8) (h8 : a8 ≤ 200) (h9 : 0 ≤ a9) (h10 : a9 ≤ 20) :
    drumlineref5_out.f (k + 4) P L a2 a3 a4 a5 a6 a7 a8 a9 a10 a11 a12 = some 0 := by
  unfold drumlineref5_out.f
  rw [if_neg (by omega), show decide (a2 > 1000000) = false from decide_eq_false (by omega), drumlineref5_out.j0, if_neg (by decide), if_neg (by omega), show decide (a6 > 500) = false from decide_eq_false (by omega), drumlineref5_out.j1, if_neg (by decide), if_neg (by omega), show decide (a7 > 400000) = false from decide_eq_false (by omega), drumlineref5_out.j2, if_neg (by decide), if_neg (by omega), show decide (a8 > 200) = false from decide_eq_false (by omega), drumlineref5_out.j3, if_neg (by decide), if_neg (by omega), if_neg (by omega)]
theorem Edge_eq (q s : Nat) {a2 a3 a4 a5 a6 a7 a8 a9 a10 a11 a12 : Int} (g1 : 1 ≤ q) (g4 : q ≤ 4) (g3 : s ≤ 3) (h1 : 0 ≤ a6) (h2 : a6 ≤ 140) (h3 : 20000 ≤ a2) (h4 : a2 ≤ 27000) (h5 : 0 ≤ a7) (h6 : a7 ≤ 400000) (h7 : 1 ≤ a8) (h8 : a8 ≤ 200) (h9 : 0 ≤ a9) (h10 : a9 ≤ 20) :
    drumlineref5_Edge.f 100 (madeNet q s).1 (madeNet q s).2 a2 a3 a4 a5 a6 a7 a8 a9 a10 a11 a12 = some (Eg a6 a2) := by
  unfold drumlineref5_Edge.f drumlineref5_ranged.f
  rw [good_made a2 a3 a4 a5 a6 a7 a8 a9 a10 a11 a12 q s g1 g4 g3]
  simp only [Option.bind_some, if_true]
  rw [show drumlineref5_out.f 100 (madeNet q s).1 (madeNet q s).2 a2 a3 a4 a5 a6 a7 a8 a9 a10 a11 a12 = some 0 from out_eq _ _ 96 (by omega) (by omega) h1 (by omega) h5 h6 h7 h8 h9 h10]
  simp only [Option.bind_some, beq_self_eq_true, if_true]
  rw [edge_eq _ _ h1 h2 h3 h4]
  rfl
theorem ranged_eq (P : List S60) (L : List S37) {a2 a3 a4 a5 a6 a7 a8 a9 a10 a11 a12 : Int} (h1 : 1000 ≤ a2) (h2 : a2 ≤ 1000000) (h3 : 0 ≤ a6) (h4 : a6 ≤ 500) (h5 : 0 ≤ a7) (h6 : a7 ≤ 400000) (h7 : 1 ≤ a8) (h8 : a8 ≤ 200) (h9 : 0 ≤ a9) (h10 : a9 ≤ 20) :
    bounds_ranged.f 100 P L a2 a3 a4 a5 a6 a7 a8 a9 a10 a11 a12 = some 0 := by
  unfold bounds_ranged.f bounds_within.f
  rw [if_pos h1, if_pos h3, if_pos h5, if_pos h7, if_pos h9, decide_eq_true h2, decide_eq_true h4, decide_eq_true h6, decide_eq_true h8, decide_eq_true h10]
  have : bounds_first.f 100 1 [true, true, true, true, true] = some 0 := by kernel_rfl
  simp only [Option.bind_some]
  rw [this]
  rfl
/-- What Tick comes to. -/
def Tk (dr cyc rate : Int) : Int := 2 * Eg dr cyc + Eg dr cyc + up (2 * Eg dr cyc * (rate + dr)) + 1
theorem in_eq (q s : Nat) {a2 a3 a4 a5 a6 a7 a8 a9 a10 a11 a12 : Int} (g1 : 1 ≤ q) (g4 : q ≤ 4) (g3 : s ≤ 3) (h1 : 0 ≤ a6) (h2 : a6 ≤ 140) (h3 : 20000 ≤ a2) (h4 : a2 ≤ 27000) (h5 : 0 ≤ a7) (h6 : a7 ≤ 400000) (h7 : 1 ≤ a8) (h8 : a8 ≤ 200) (h9 : 0 ≤ a9) (h10 : a9 ≤ 20) :
    ∃ b3 b4 b5 b7, bounds_in.f 100 (madeNet q s).1 (madeNet q s).2 a2 a3 a4 a5 a6 a7 a8 a9 a10 a11 a12 = some (Eg a6 a2, 2 * Eg a6 a2, b3, b4, b5, Tk a6 a2 a7, b7) := by
  have hb := dc_bd h1 h2 h3 h4
  have he := Eg_bd h1 h2 h3 h4
  unfold bounds_in.f
  rw [right_made a2 a3 a4 a5 a6 a7 a8 a9 a10 a11 a12 q s g1 g4 g3]
  simp only [Option.bind_some, if_true]
  rw [ranged_eq _ _ (by omega) (by omega) h1 (by omega) h5 h6 h7 h8 h9 h10]
  simp only [Option.bind_some, if_true]
  unfold bounds_Reckon.f
  rw [show wrap64 (2 * a6) = 2 * a6 by unfold wrap64; omega, show wrap64 (2 * a6 * a2) = 2 * a6 * a2 by unfold wrap64; omega, part_eq (by omega) (by omega)]
  simp only [Option.bind_some]
  rw [show wrap64 (a6 * a2) = a6 * a2 by unfold wrap64; omega, part_eq (by omega) (by omega)]
  simp only [Option.bind_some]
  have e1 : up (2 * a6 * a2) + 1 = Eg a6 a2 := rfl
  have hm : 0 ≤ 2 * Eg a6 a2 * (a7 + a6) ∧ 2 * Eg a6 a2 * (a7 + a6) ≤ 18 * (a7 + a6) := ⟨Int.mul_nonneg (by omega) (by omega), Int.mul_le_mul_of_nonneg_right (by omega) (by omega)⟩
  rw [e1, show wrap64 (Eg a6 a2) = Eg a6 a2 by unfold wrap64; omega, show wrap64 (2 * Eg a6 a2) = 2 * Eg a6 a2 by unfold wrap64; omega, show wrap64 (a7 + a6) = a7 + a6 by unfold wrap64; omega, show wrap64 (2 * Eg a6 a2 * (a7 + a6)) = 2 * Eg a6 a2 * (a7 + a6) by unfold wrap64; omega, part_eq (by omega) (by omega)]
  simp only [Option.bind_some]
  have hu : 0 ≤ up (2 * Eg a6 a2 * (a7 + a6)) ∧ up (2 * Eg a6 a2 * (a7 + a6)) ≤ 100 := by unfold up; omega
  rw [show wrap64 (2 * Eg a6 a2 + Eg a6 a2) = 2 * Eg a6 a2 + Eg a6 a2 by unfold wrap64; omega, show wrap64 (2 * Eg a6 a2 + Eg a6 a2 + up (2 * Eg a6 a2 * (a7 + a6))) = 2 * Eg a6 a2 + Eg a6 a2 + up (2 * Eg a6 a2 * (a7 + a6)) by unfold wrap64; omega, show wrap64 (2 * Eg a6 a2 + Eg a6 a2 + up (2 * Eg a6 a2 * (a7 + a6)) + 1) = Tk a6 a2 a7 by unfold Tk wrap64; omega]
  exact ⟨_, _, _, _, rfl⟩
/-- What Made makes of a number. -/
theorem made_eq (n : Int) : ∃ (q s : Nat) (cyc dr ag lo li sp : Int), 1 ≤ q ∧ q ≤ 4 ∧ s ≤ 3 ∧ 20000 ≤ cyc ∧ cyc ≤ 27000 ∧ 0 ≤ dr ∧ dr ≤ 140 ∧ 1 ≤ ag ∧ ag ≤ 200 ∧ 0 ≤ lo ∧ lo ≤ 20 ∧
    drumlineref26_Made.f n = some ((madeNet q s).1, (madeNet q s).2, cyc, 60, 100, 3 * Eg dr cyc, dr, 300000, ag, lo, li, sp, 12) := by
  have hk : 0 ≤ (((1 + n % 65536 % 4).toNat : Int) - 1) * (n % 65536 / 1024 % 2 + 1) ∧ (((1 + n % 65536 % 4).toNat : Int) - 1) * (n % 65536 / 1024 % 2 + 1) ≤ 8 := by
    rcases (show n % 65536 / 1024 % 2 = 0 ∨ n % 65536 / 1024 % 2 = 1 by omega) with h | h <;> rw [h] <;> omega
  refine ⟨(1 + n % 65536 % 4).toNat, (n % 65536 / 4 % 4).toNat, 20000 + 1000 * (n % 65536 / 16 % 8), 20 * (n % 65536 / 128 % 8), (((1 + n % 65536 % 4).toNat : Int) - 1) * (n % 65536 / 1024 % 2 + 1) + 1 + n % 65536 / 2048 % 4, n % 65536 / 1024 % 2, ((1 + n % 65536 % 4).toNat : Int) * (n % 65536 / 1024 % 2 + 1) + 2 + n % 65536 / 8192 % 2, ((1 + n % 65536 % 4).toNat : Int) * (n % 65536 / 1024 % 2 + 1) + 2, by omega, by omega, by omega, by omega, by omega, by omega, by omega, by omega, by omega, by omega, by omega, ?_⟩
  unfold drumlineref26_Made.f
  rw [Edge_eq _ _ (by omega) (by omega) (by omega) (by omega) (by omega) (by omega) (by omega) (by omega) (by omega) (by omega) (by omega) (by omega) (by omega)]
  simp only [Option.bind_some]
  have := Eg_bd (dr := 20 * (n % 65536 / 128 % 8)) (cyc := 20000 + 1000 * (n % 65536 / 16 % 8)) (by omega) (by omega) (by omega) (by omega)
  rw [if_pos (by omega)]
end Go.Proofs.YtkhlndhleiaokaaDoor.MHo
set_option linter.unusedVariables false
set_option linter.unusedSimpArgs false
namespace Go.Proofs.YtkhlndhleiaokaaDoor.Pure
open Go.RowKit Go.Proofs.YtkhlndhleiaokaaDoor.MHo Go.Proofs.YtkhlndhleiaokaaDoorW.PrintWords Go.Proofs.YtkhlndhleiaokaaDoorW.PrintLast Go.Proofs.YtkhlndhleiaokaaDoorW.PrintMore Go.Proofs.YtkhlndhleiaokaaDoor.Plain

theorem alive_true : drumlinelaw10_alive.f = some true := by decide +kernel
/-- Two clocks' real times of the same ticks, one of which drifts. -/
theorem near_ (x d r dr cyc : Int) (x0 : 0 ≤ x) (x1 : x ≤ cyc) (p0 : -dr ≤ d) (p1 : d ≤ dr) (c2 : cyc ≤ 27000) (d1 : 0 ≤ dr) (d2 : dr ≤ 140) (r0 : -300000 ≤ r) (r1 : r ≤ 300000) :
    flo (x * r) 1000000 - flo (x * (d + r)) 1000000 < Eg dr cyc ∧ flo (x * (d + r)) 1000000 - flo (x * r) 1000000 < Eg dr cyc ∧ -900000 ≤ flo (x * r) 1000000 ∧ flo (x * r) 1000000 ≤ 900000 ∧ -900000 ≤ flo (x * (d + r)) 1000000 ∧ flo (x * (d + r)) 1000000 ≤ 900000 := by
  have e : x * (d + r) - x * r = x * d := by rw [← Int.mul_sub]; congr 1; omega
  obtain ⟨b1, b2⟩ := mul_bd (x := x) (p := d) (X := cyc) (P := dr) (by omega) x1 p0 p1
  obtain ⟨b3, b4⟩ := mul_bd (x := x) (p := d + r) (X := 27000) (P := 300140) (by omega) (by omega) (by omega) (by omega)
  obtain ⟨b5, b6⟩ := mul_bd (x := x) (p := r) (X := 27000) (P := 300140) (by omega) (by omega) (by omega) (by omega)
  have hp : 0 ≤ cyc * dr := Int.mul_nonneg (by omega) d1
  have e2 : 2 * dr * cyc = 2 * (cyc * dr) := by rw [Int.mul_assoc, Int.mul_comm dr cyc]
  unfold Eg MHo.up flo
  rw [e2]
  generalize x * (d + r) = A at *
  generalize x * r = B at *
  generalize x * d = C at *
  generalize cyc * dr = D at *
  omega
theorem time_in {x : Int} (h1 : -1099511627776 ≤ x) (h2 : x ≤ 1099511627776) : ticks_Time.f x = some true := by
  unfold ticks_Time.f; rw [if_pos (by omega), decide_eq_true (by omega)]
theorem passes (st off dri r x cyc dr : Int) (c1 : 20000 ≤ cyc) (c2 : cyc ≤ 27000) (d1 : 0 ≤ dr) (d2 : dr ≤ 140) (hx0 : 0 ≤ x) (hx1 : x < cyc)
    (s0 : -549755813888 ≤ st) (s1 : st ≤ 549755813888) (o0 : -(2 * Eg dr cyc) ≤ off) (o1 : off ≤ 2 * Eg dr cyc) (p0 : -dr ≤ dri) (p1 : dri ≤ dr) (r0 : -300000 ≤ r) (r1 : r ≤ 300000) :
    wrap64 (dri + r) = dri + r ∧ clock_Real.f x (dri + r) = some (x - flo (x * (dri + r)) 1000000) ∧ wrap64 (st + off) = st + off ∧ wrap64 (st + off + (x - flo (x * (dri + r)) 1000000)) = st + off + (x - flo (x * (dri + r)) 1000000) ∧
      guard_Pass.f true st [] x r (3 * Eg dr cyc) (st + off + (x - flo (x * (dri + r)) 1000000)) = some true := by
  have hb := Eg_bd d1 d2 c1 c2
  obtain ⟨u1, u2, u3, u4, u5, u6⟩ := near_ x dri r dr cyc hx0 (by omega) p0 p1 c2 d1 d2 r0 r1
  refine ⟨w64 (by omega) (by omega), real_eq (by omega) (by omega) (by omega) (by omega), w64 (by omega) (by omega), w64 (by omega) (by omega), ?_⟩
  unfold guard_Pass.f guard_Late.f
  rw [if_pos rfl, if_pos rfl, time_in (by omega) (by omega)]
  simp only [Option.bind_some, if_true]
  rw [time_in (by omega) (by omega)]
  simp only [Option.bind_some, if_true]
  rw [time_in (by omega) (by omega)]
  simp only [Option.bind_some, if_true]
  rw [real_eq (by omega) (by omega) (by omega) (by omega)]
  simp only [Option.bind_some, if_true]
  generalize flo (x * (dri + r)) 1000000 = A at *
  generalize flo (x * r) 1000000 = B at *
  rw [if_pos (by omega), w64 (x := st + off + (x - A) - st) (by omega) (by omega), w64 (x := st + off + (x - A) - st - (x - B)) (by omega) (by omega), w64 (x := -(3 * Eg dr cyc)) (by omega) (by omega), if_pos (by omega), decide_eq_true (by omega)]
theorem walk (a0 a1 a2 a3 a4 a5 : Int) (W : World) (w0 : (Lit.int .i64 a0).wf = true) (w1 : (Lit.int .i64 a1).wf = true) (w2 : (Lit.int .i64 a2).wf = true) (w3 : (Lit.int .i64 a3).wf = true) (w4 : (Lit.int .i64 a4).wf = true) (w5 : (Lit.int .u16 a5).wf = true) :
    Calls Tryd.prog 8 #[.int .i64 a0, .int .i64 a1, .int .i64 a2, .int .i64 a3, .int .i64 a4, .int .u16 a5] W fun e w' => e = .returned (.bool true) ∧ Below W.heap.size W w' := by
  have h5 := wfu16 w5
  by_cases hs : a1 < -549755813888 ∨ 549755813888 < a1
  · exact guardRight_out a0 a1 a2 a3 a4 a5 W alive_true hs
  obtain ⟨q, s, cyc, dr, ag, lo, li, sp, hq1, hq4, hs3, c1, c2, d1, d2, g1, g2, l1, l2, hm⟩ := made_eq a0
  obtain ⟨b3, b4, b5, b7, hin⟩ := in_eq (a3 := 60) (a4 := 100) (a5 := 3 * Eg dr cyc) (a10 := li) (a11 := sp) (a12 := 12) q s hq1 hq4 hs3 d1 d2 c1 c2 (show (0 : Int) ≤ 300000 by omega) (by omega) g1 g2 l1 l2
  have hN : bounds_Near.f 100 (madeNet q s).1 (madeNet q s).2 cyc 60 100 (3 * Eg dr cyc) dr 300000 ag lo li sp 12 = some (2 * Eg dr cyc) := by unfold bounds_Near.f; rw [hin]; rfl
  have hb := Eg_bd d1 d2 c1 c2
  have ht := Int.tmod_eq_emod_of_nonneg (b := cyc) h5.1
  have hx0 := Int.emod_nonneg a5 (show cyc ≠ 0 by omega)
  have hx1 := Int.emod_lt_of_pos a5 (show 0 < cyc by omega)
  exact guardRight_in a0 a1 a2 a3 a4 a5 (madeNet q s).1 (madeNet q s).2 cyc (3 * Eg dr cyc) dr ag lo li sp (2 * Eg dr cyc) (a5 % cyc) (a5 % cyc - flo (a5 % cyc * (a3 + a4)) 1000000) W alive_true (by omega) (by omega) hm hN ⟨d1, d2⟩ ⟨by omega, by omega⟩ h5 (by omega)
    (fun e1 e2 e3 e4 e5 e6 => ⟨passes a1 a2 a3 a4 (a5 % cyc) cyc dr c1 c2 d1 d2 hx0 hx1 (by omega) (by omega) e6 e5 e1 e2 e3 e4, ht⟩)
end Go.Proofs.YtkhlndhleiaokaaDoor.Pure
