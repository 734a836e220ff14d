/-
  frag.Add of the first piece, where the last one has come: the whole packet.
-/
import Derived.Test.YtnoobifdaldfiaaTh
namespace Go.Proofs.Ytnoobifdaldfiaa.Fr
open Go.RowKit
set_option maxRecDepth 100000

def St.zpk (lo : Nat) : St := ⟨fun v W => ∃ b, v = .pointer (some ⟨b, 0, none⟩) ∧ lo ≤ b ∧ W.heap[b]? = some (.cells #[.int .u16 0, .bool false, .int .i64 0, .int .u8 0, .int .u8 0, .int .u8 0, .int .u8 0, .int .u8 0, .int .u8 0, .int .u8 0, .int .u8 0, .int .u8 0, .int .u8 0, .slice none 0 0] 38 (0, 0)), fun _ _ _ ⟨b, h1, h2, h3⟩ k => ⟨b, h1, h2, (k.block _ (Array.getElem?_eq_some_iff.1 h3).1).trans h3⟩⟩
theorem gb_trans {a b c : World} {g : Nat} (h : a.grownBy b (some g)) (k : b.grownBy c (some g)) : a.grownBy c (some g) :=
  ⟨k.os.trans h.os, k.tape.trans h.tape, k.output.trans h.output, Nat.le_trans h.size k.size, fun j hj hne => (k.block j (Nat.lt_of_lt_of_le hj h.size) hne).trans (h.block j hj hne)⟩
def Keep.gb (g : Nat) : Keep where
  R W W' := W.grownBy W' (some g) ∧ ∀ cur, W.heap[g]? = some (.cells cur 90 (0, 0)) → ∃ cur', W'.heap[g]? = some (.cells cur' 90 (0, 0)) ∧ cur'.size = cur.size
  refl W := ⟨⟨rfl, rfl, rfl, Nat.le_refl _, fun _ _ _ => rfl⟩, fun cur h => ⟨cur, h, rfl⟩⟩
  trans h k := ⟨gb_trans h.1 k.1, fun cur hc => by
    obtain ⟨cur1, h1, e1⟩ := h.2 cur hc
    obtain ⟨cur2, h2, e2⟩ := k.2 cur1 h1
    exact ⟨cur2, h2, e2.trans e1⟩⟩
theorem rd_gb {w w' : World} {lo n g : Nat} {A : Option Addr} {l : List UInt8} (h : Rd w lo A n l) (hg : w.grownBy w' (some g)) (hlo : g < lo) : Rd w' lo A n l :=
  ⟨h.1, fun hn => by
    obtain ⟨b, off, e, h1, h2⟩ := h.2 hn
    refine ⟨b, off, e, h1, fun j u hu => ?_⟩
    have hc := h2 j u hu
    have hlt := World.block_lt_of_cell? w _ hc
    unfold World.cell? at hc ⊢
    simp only at hc hlt ⊢
    rw [hg.block b hlt (by intro e; injection e with e; omega)]
    exact hc⟩

noncomputable def ad17c (g b4 : Nat) (s0 s1 s2 s3 d0 d1 d2 d3 : UInt8) (N gp capp : Nat) (A : Option Addr) (c : Nat) : Nat → St := fun i => ([St.val (.pointer (some ⟨g, 0, none⟩)),
  St.val (.pointer (some ⟨g, 0, none⟩)),
  St.val (.agg #[.int .u8 (s0.toNat : Int), .int .u8 (s1.toNat : Int), .int .u8 (s2.toNat : Int), .int .u8 (s3.toNat : Int), .int .u8 (d0.toNat : Int), .int .u8 (d1.toNat : Int), .int .u8 (d2.toNat : Int), .int .u8 (d3.toNat : Int), .int .u8 6, .int .u16 7, .int .u8 64, .int .u64 0, .int .i64 (N : Int), .slice (some ⟨gp, 0, none⟩) 1 capp]),
  St.val (.agg #[.int .u16 7, .bool true, .int .i64 0, .int .u8 64, .int .u8 6, .int .u8 (s0.toNat : Int), .int .u8 (s1.toNat : Int), .int .u8 (s2.toNat : Int), .int .u8 (s3.toNat : Int), .int .u8 (d0.toNat : Int), .int .u8 (d1.toNat : Int), .int .u8 (d2.toNat : Int), .int .u8 (d3.toNat : Int), .slice A 176 c]),
  St.val (.int .i64 176),
  St.val (.bool true),
  St.val (.bool false)] : List St).getD i St.any
noncomputable def ad21c (lo g b4 gp capp : Nat) (A : Option Addr) (c : Nat) (l l2 : List UInt8) : Nat → StR Keep.kp := fun i => ([StR.val (.pointer (some ⟨g, 0, none⟩)),
  StR.val (.pointer (some ⟨g, 0, none⟩)),
  StR.val (.pointer (some ⟨g, 0, none⟩)),
  StR.val (.pointer (some ⟨g, 13, none⟩)),
  StR.val (.slice (some ⟨gp, 0, none⟩) 1 capp),
  StR.val (.pointer (some ⟨b4, 2, none⟩)),
  StR.val (.int .i64 0),
  StR.val (.pointer (some ⟨b4, 13, none⟩)),
  StR.val (.slice A 176 c),
  stR (St.cl lo 176 l),
  stR (St.ptx lo 0 176 l),
  stR (St.pvx lo 0 (l ++ l2)),
  StR.val (.pointer (some ⟨g, 0, none⟩)),
  StR.val (.pointer (some ⟨g, 13, none⟩))] : List (StR Keep.kp)).getD i StR.any
noncomputable def ad24 (lp g gq capq : Nat) (s0 s1 s2 s3 d0 d1 d2 d3 : UInt8) (A : Option Addr) (N c : Nat) : Nat → StR Keep.kp := fun i => ([StR.val (.pointer (some ⟨g, 0, none⟩)),
  StR.val (.pointer (some ⟨g, 0, none⟩)),
  StR.val (.pointer (some ⟨g, 9, none⟩)),
  StR.val (.int .u16 7),
  StR.val (.pointer (some ⟨g, 0, none⟩)),
  StR.val (.pointer (some ⟨g, 0, none⟩)),
  StR.val (.pointer (some ⟨g, 10, none⟩)),
  StR.val (.int .u8 64),
  StR.val (.pointer (some ⟨g, 0, none⟩)),
  StR.val (.pointer (some ⟨g, 0, none⟩)),
  StR.val (.pointer (some ⟨g, 8, none⟩)),
  StR.val (.int .u8 6),
  StR.val (.pointer (some ⟨g, 0, none⟩)),
  StR.val (.pointer (some ⟨g, 0, none⟩)),
  StR.val (.pointer (some ⟨g, 0, none⟩)),
  StR.val (.agg #[.int .u8 (s0.toNat : Int), .int .u8 (s1.toNat : Int), .int .u8 (s2.toNat : Int), .int .u8 (s3.toNat : Int)]),
  StR.val (.pointer (some ⟨g, 0, none⟩)),
  StR.val (.pointer (some ⟨g, 0, none⟩)),
  StR.val (.pointer (some ⟨g, 4, none⟩)),
  StR.val (.agg #[.int .u8 (d0.toNat : Int), .int .u8 (d1.toNat : Int), .int .u8 (d2.toNat : Int), .int .u8 (d3.toNat : Int)]),
  StR.val (.pointer (some ⟨g, 0, none⟩)),
  StR.val (.pointer (some ⟨g, 0, none⟩)),
  StR.val (.pointer (some ⟨g, 13, none⟩)),
  StR.val (.slice (some ⟨gq, 0, none⟩) 1 capq),
  StR.val (.pointer (some ⟨gq, 0, none⟩)),
  StR.val (.pointer (some ⟨gq, 1, none⟩)),
  StR.val (.slice A N c),
  StR.val (.agg #[.int .u16 7, .bool false, .int .i64 0, .int .u8 64, .int .u8 6, .int .u8 (s0.toNat : Int), .int .u8 (s1.toNat : Int), .int .u8 (s2.toNat : Int), .int .u8 (s3.toNat : Int), .int .u8 (d0.toNat : Int), .int .u8 (d1.toNat : Int), .int .u8 (d2.toNat : Int), .int .u8 (d3.toNat : Int), .slice A N c]),
  stR (St.zpk lp)] : List (StR Keep.kp)).getD i StR.any
noncomputable def ad25 (g cap bq : Nat) (s0 s1 s2 s3 d0 d1 d2 d3 : UInt8) (A : Option Addr) (N c : Nat) : Nat → StR (Keep.gb g) := fun i => ([StR.val (.slice (some ⟨g, 0, none⟩) 1 cap),
  StR.val (.int .i64 0),
  StR.val (.int .i64 0),
  StR.val (.int .i64 1),
  StR.val (.slice (some ⟨g, 0, none⟩) 0 cap),
  StR.val (.agg #[.int .u16 7, .bool false, .int .i64 0, .int .u8 64, .int .u8 6, .int .u8 (s0.toNat : Int), .int .u8 (s1.toNat : Int), .int .u8 (s2.toNat : Int), .int .u8 (s3.toNat : Int), .int .u8 (d0.toNat : Int), .int .u8 (d1.toNat : Int), .int .u8 (d2.toNat : Int), .int .u8 (d3.toNat : Int), .slice A N c]),
  StR.val (.slice (some ⟨g, 0, none⟩) 0 cap)] : List (StR (Keep.gb g))).getD i StR.any

set_option maxHeartbeats 4000000 in
theorem add_c (w : World) (v : Value) (s0 s1 s2 s3 d0 d1 d2 d3 : UInt8) (N : Nat) (l2 : List UInt8) (hv : HoleV w 0 s0 s1 s2 s3 d0 d1 d2 d3 (N : Int) 176 l2 v) (hN : N = 176 + l2.length) (h2 : 0 < l2.length ∧ l2.length ≤ 4) (A : Option Addr) (c : Nat) (l : List UInt8) (hA : Rd w 0 A 176 l) :
    Calls Try.prog 16 #[v, .agg #[.int .u16 7, .bool true, .int .i64 0, .int .u8 64, .int .u8 6, .int .u8 (s0.toNat : Int), .int .u8 (s1.toNat : Int), .int .u8 (s2.toNat : Int), .int .u8 (s3.toNat : Int), .int .u8 (d0.toNat : Int), .int .u8 (d1.toNat : Int), .int .u8 (d2.toNat : Int), .int .u8 (d3.toNat : Int), .slice A 176 c], .int .u64 0] w fun e w' => Kp w w' ∧ ∃ gh cap B k, e = .returned (.tuple #[.slice (some ⟨gh, 0, none⟩) 0 cap, .agg #[.int .u16 7, .bool false, .int .i64 0, .int .u8 64, .int .u8 6, .int .u8 (s0.toNat : Int), .int .u8 (s1.toNat : Int), .int .u8 (s2.toNat : Int), .int .u8 (s3.toNat : Int), .int .u8 (d0.toNat : Int), .int .u8 (d1.toNat : Int), .int .u8 (d2.toNat : Int), .int .u8 (d3.toNat : Int), .slice B N k], .bool true, .int .i64 0]) ∧
      Rd w' w.heap.size B N (l ++ l2) ∧ SlOk B N k := by
  obtain ⟨r4, r7⟩ := row_alloc2 w (.cells #[.int .u16 7, .bool true, .int .i64 0, .int .u8 64, .int .u8 6, .int .u8 (s0.toNat : Int), .int .u8 (s1.toNat : Int), .int .u8 (s2.toNat : Int), .int .u8 (s3.toNat : Int), .int .u8 (d0.toNat : Int), .int .u8 (d1.toNat : Int), .int .u8 (d2.toNat : Int), .int .u8 (d3.toNat : Int), .slice A 176 c] 38) (.cells #[.int .u16 0, .bool false, .int .i64 0, .int .u8 0, .int .u8 0, .int .u8 0, .int .u8 0, .int .u8 0, .int .u8 0, .int .u8 0, .int .u8 0, .int .u8 0, .int .u8 0, .slice none 0 0] 38)
  have kp : Kp w ((w.alloc (.cells #[.int .u16 7, .bool true, .int .i64 0, .int .u8 64, .int .u8 6, .int .u8 (s0.toNat : Int), .int .u8 (s1.toNat : Int), .int .u8 (s2.toNat : Int), .int .u8 (s3.toNat : Int), .int .u8 (d0.toNat : Int), .int .u8 (d1.toNat : Int), .int .u8 (d2.toNat : Int), .int .u8 (d3.toNat : Int), .slice A 176 c] 38)).alloc (.cells #[.int .u16 0, .bool false, .int .i64 0, .int .u8 0, .int .u8 0, .int .u8 0, .int .u8 0, .int .u8 0, .int .u8 0, .int .u8 0, .int .u8 0, .int .u8 0, .int .u8 0, .slice none 0 0] 38)) := ((Kp.refl w).alloc _).alloc _
  have HA := Lib.hid hA
  have HLN := Lib.hid hA.len
  have R4 := Lib.hid r4
  have R7 := Lib.hid r7
  have HKP := Lib.hid kp
  have HV := Lib.hid (hv.keep kp)
  clear hA r4 r7 kp hv
  have hN2 : 177 ≤ N ∧ N ≤ 180 := by omega
  have HNN := Lib.hid hN
  clear hN
  have hmf : ∀ (fn : Fn) (first cap : Array Value) (w : World), (Instr.makeFunc fn first cap).run Try.prog w = .ok (.func fn first cap) w := fun _ _ _ _ => rfl
  go_enter Try.func16, Try.ntmps16
  go_wp2_with fail
  refine (age_one _ v s0 s1 s2 s3 d0 d1 d2 d3 (N : Int) l2 HV.out h2.1 (by omega)).mono ?_
  rintro e w1 ⟨hk1, v1, rfl, hv1⟩
  have q4 := (hk1.block _ (Array.getElem?_eq_some_iff.1 R4.out).1).trans R4.out
  have q7 := (hk1.block _ (Array.getElem?_eq_some_iff.1 R7.out).1).trans R7.out
  have HK1 := Lib.hid (HKP.out.trans hk1)
  have hs1 : w.heap.size + 1 < w1.heap.size := (Array.getElem?_eq_some_iff.1 q7).1
  obtain ⟨b4, hb4⟩ : ∃ b, w.heap.size = b := ⟨_, rfl⟩
  have HB4 := Lib.hid hb4
  rw [World.size_alloc, World.size_alloc, hb4] at hv1
  rw [hb4] at q4 q7 hs1 ⊢
  clear hb4
  obtain ⟨g, cap, got, rfl, hgr, gp, capp, A2, c2, rfl, hpr, hrd2, hok2⟩ := hv1
  have HGR := Lib.hid hgr
  have HPV : Hid (PartV w1 (b4 + 1 + 1) 176 l2 (.slice (some ⟨gp, 0, none⟩) 1 capp)) := Lib.hid ⟨gp, capp, A2, c2, rfl, hpr, hrd2, hok2⟩
  have cells4 : ∀ W : World, W.heap[b4]? = some (.cells #[.int .u16 7, .bool true, .int .i64 0, .int .u8 64, .int .u8 6, .int .u8 (s0.toNat : Int), .int .u8 (s1.toNat : Int), .int .u8 (s2.toNat : Int), .int .u8 (s3.toNat : Int), .int .u8 (d0.toNat : Int), .int .u8 (d1.toNat : Int), .int .u8 (d2.toNat : Int), .int .u8 (d3.toNat : Int), .slice A 176 c] 38 (0, 0)) → ∀ j, W.cell? ⟨b4, j, none⟩ = (#[.int .u16 7, .bool true, .int .i64 0, .int .u8 64, .int .u8 6, .int .u8 (s0.toNat : Int), .int .u8 (s1.toNat : Int), .int .u8 (s2.toNat : Int), .int .u8 (s3.toNat : Int), .int .u8 (d0.toNat : Int), .int .u8 (d1.toNat : Int), .int .u8 (d2.toNat : Int), .int .u8 (d3.toNat : Int), .slice A 176 c] : Array Value)[j]? := fun W h j => cell_of_row W b4 j _ _ _ h
  have z1 : w1.cell? ⟨b4, 1, none⟩ = some (.bool true) := (cells4 w1 q4 1).trans rfl
  have z2 : w1.cell? ⟨b4, 2, none⟩ = some (.int .i64 0) := (cells4 w1 q4 2).trans rfl
  have z13 : w1.cell? ⟨b4, 13, none⟩ = some (.slice A 176 c) := (cells4 w1 q4 13).trans rfl
  have Q4 := Lib.hid q4
  have Q7 := Lib.hid q7
  clear q4 q7 hk1 HKP R4 R7 cells4 hgr hpr hrd2 hok2 HV
  go_wp2_with (go_at_call 34; refine (idxH_add _ _ g cap s0 s1 s2 s3 d0 d1 d2 d3 (N : Int) (.slice (some ⟨gp, 0, none⟩) 1 capp) rfl true 0 (.slice A 176 c) rfl b4 _ _ Q4.out HGR.out).mono ?_; rintro e w2 ⟨rfl, hk2⟩)
  have own2 := orow_keep HGR.out hk2
  have p4 := (hk2.block _ (Array.getElem?_eq_some_iff.1 Q4.out).1).trans Q4.out
  have p7 := (hk2.block _ (Array.getElem?_eq_some_iff.1 Q7.out).1).trans Q7.out
  have hpv2 := HPV.out.keep hk2
  obtain ⟨hlg, _, hc1, hcm, cur, hrow, hcs, htk⟩ := own_row own2
  have HK2 := Lib.hid (HK1.out.trans hk2)
  have OWN2 := Lib.hid own2
  have P4 := Lib.hid p4
  have P7 := Lib.hid p7
  have HPV2 := Lib.hid hpv2
  have HROW := Lib.hid hrow
  have HCS0 := Lib.hid hcs
  have hg2 : g < w2.heap.size := (Array.getElem?_eq_some_iff.1 hrow).1
  clear hk2 own2 p4 p7 hpv2 hcs hrow z1 z2 z13 Q4 Q7 HGR HPV HK1
  have KC : ∀ W, Kp w2.drew W → W.heap[g]? = some (.cells cur 90 (0, 0)) ∧ W.heap[b4]? = some (.cells #[.int .u16 7, .bool true, .int .i64 0, .int .u8 64, .int .u8 6, .int .u8 (s0.toNat : Int), .int .u8 (s1.toNat : Int), .int .u8 (s2.toNat : Int), .int .u8 (s3.toNat : Int), .int .u8 (d0.toNat : Int), .int .u8 (d1.toNat : Int), .int .u8 (d2.toNat : Int), .int .u8 (d3.toNat : Int), .slice A 176 c] 38 (0, 0)) := fun W hW => by
    have hk : Kp w2 W := ((Kp.refl w2).drew).trans hW
    exact ⟨(hk.block _ (Array.getElem?_eq_some_iff.1 HROW.out).1).trans HROW.out, (hk.block _ (Array.getElem?_eq_some_iff.1 P4.out).1).trans P4.out⟩
  have HFIT : Hid (∀ W, Calls Try.prog 37 #[.agg #[.int .u8 (s0.toNat : Int), .int .u8 (s1.toNat : Int), .int .u8 (s2.toNat : Int), .int .u8 (s3.toNat : Int), .int .u8 (d0.toNat : Int), .int .u8 (d1.toNat : Int), .int .u8 (d2.toNat : Int), .int .u8 (d3.toNat : Int), .int .u8 6, .int .u16 7, .int .u8 64, .int .u64 0, .int .i64 (N : Int), .slice (some ⟨gp, 0, none⟩) 1 capp], .agg #[.int .u16 7, .bool true, .int .i64 0, .int .u8 64, .int .u8 6, .int .u8 (s0.toNat : Int), .int .u8 (s1.toNat : Int), .int .u8 (s2.toNat : Int), .int .u8 (s3.toNat : Int), .int .u8 (d0.toNat : Int), .int .u8 (d1.toNat : Int), .int .u8 (d2.toNat : Int), .int .u8 (d3.toNat : Int), .slice A 176 c], .int .i64 176] W fun e w' => e = .returned (.bool true) ∧ Kp W w') := Lib.hid fun W => fits_old W s0 s1 s2 s3 d0 d1 d2 d3 (N : Int) 0 176 _ (.slice A 176 c) (by omega) (by omega)
  refine wp_region_steps (by kernel_rfl) 7 (ad17c g b4 s0 s1 s2 s3 d0 d1 d2 d3 N gp capp A c) [107, 108, 109, 110, 111, 112, 113] (by kernel_rfl) (by kernel_rfl) ⟨?_, ?_, ?_, ?_, ?_, ?_, ?_, trivial⟩ ?_
  · intro a W hW hO hφ K hK
    have q12 : a.tmps.getD 12 undef = (.pointer (some ⟨g, 0, none⟩)) := hO 12 (by kernel_rfl)
    have r12 := q12
    rw [Array.getD_eq_getD_getElem?] at r12
    clear hO hφ
    clear KC HFIT
    go_simp
    exact hK _ _ (Kp.refl _) rfl
  · intro a W hW hO hφ K hK
    have q107 : a.tmps.getD 107 undef = (.pointer (some ⟨g, 0, none⟩)) := hφ ⟨0, .data⟩ (by simp) rfl
    have r107 := q107
    rw [Array.getD_eq_getD_getElem?] at r107
    clear hO hφ
    clear KC HFIT
    go_simp
    exact hK _ _ (Kp.refl _) rfl
  · intro a W hW hO hφ K hK
    have q108 : a.tmps.getD 108 undef = (.pointer (some ⟨g, 0, none⟩)) := hφ ⟨1, .data⟩ (by simp) rfl
    have r108 := q108
    rw [Array.getD_eq_getD_getElem?] at r108
    clear hO hφ
    obtain ⟨z0, z1⟩ := KC W hW
    clear KC HFIT
    refine old_part (.tmp 108) 90 _ [.int .u8 (s0.toNat : Int), .int .u8 (s1.toNat : Int), .int .u8 (s2.toNat : Int), .int .u8 (s3.toNat : Int), .int .u8 (d0.toNat : Int), .int .u8 (d1.toNat : Int), .int .u8 (d2.toNat : Int), .int .u8 (d3.toNat : Int), .int .u8 6, .int .u16 7, .int .u8 64, .int .u64 0, .int .i64 (N : Int), .slice (some ⟨gp, 0, none⟩) 1 capp] rfl q108 z0 htk Try.underlying90 rfl szHole ?_
    exact hK _ _ (Kp.refl _) rfl
  · intro a W hW hO hφ K hK
    have q4 : a.tmps.getD 4 undef = (.pointer (some ⟨b4, 0, none⟩)) := hO 4 (by kernel_rfl)
    have r4 := q4
    rw [Array.getD_eq_getD_getElem?] at r4
    clear hO hφ
    obtain ⟨z0, z1⟩ := KC W hW
    clear KC HFIT
    refine old_part (.tmp 4) 38 _ [.int .u16 7, .bool true, .int .i64 0, .int .u8 64, .int .u8 6, .int .u8 (s0.toNat : Int), .int .u8 (s1.toNat : Int), .int .u8 (s2.toNat : Int), .int .u8 (s3.toNat : Int), .int .u8 (d0.toNat : Int), .int .u8 (d1.toNat : Int), .int .u8 (d2.toNat : Int), .int .u8 (d3.toNat : Int), .slice A 176 c] rfl q4 z1 rfl Try.underlying38 rfl szPkt ?_
    exact hK _ _ (Kp.refl _) rfl
  · intro a W hW hO hφ K hK
    have q10 : a.tmps.getD 10 undef = (.int .i64 176) := hO 10 (by kernel_rfl)
    have r10 := q10
    rw [Array.getD_eq_getD_getElem?] at r10
    clear hO hφ
    clear KC HFIT
    go_simp
    exact hK _ _ (Kp.refl _) rfl
  · intro a W hW hO hφ K hK
    have q109 : a.tmps.getD 109 undef = (.agg #[.int .u8 (s0.toNat : Int), .int .u8 (s1.toNat : Int), .int .u8 (s2.toNat : Int), .int .u8 (s3.toNat : Int), .int .u8 (d0.toNat : Int), .int .u8 (d1.toNat : Int), .int .u8 (d2.toNat : Int), .int .u8 (d3.toNat : Int), .int .u8 6, .int .u16 7, .int .u8 64, .int .u64 0, .int .i64 (N : Int), .slice (some ⟨gp, 0, none⟩) 1 capp]) := hφ ⟨2, .data⟩ (by simp) rfl
    have q110 : a.tmps.getD 110 undef = (.agg #[.int .u16 7, .bool true, .int .i64 0, .int .u8 64, .int .u8 6, .int .u8 (s0.toNat : Int), .int .u8 (s1.toNat : Int), .int .u8 (s2.toNat : Int), .int .u8 (s3.toNat : Int), .int .u8 (d0.toNat : Int), .int .u8 (d1.toNat : Int), .int .u8 (d2.toNat : Int), .int .u8 (d3.toNat : Int), .slice A 176 c]) := hφ ⟨3, .data⟩ (by simp) rfl
    have q111 : a.tmps.getD 111 undef = (.int .i64 176) := hφ ⟨4, .data⟩ (by simp) rfl
    have r109 := q109
    rw [Array.getD_eq_getD_getElem?] at r109
    have r110 := q110
    rw [Array.getD_eq_getD_getElem?] at r110
    have r111 := q111
    rw [Array.getD_eq_getD_getElem?] at r111
    clear hO hφ
    clear KC
    have hf := HFIT.out W
    clear HFIT
    go_simp
    go_at_call 37
    refine hf.mono ?_
    rintro e w' ⟨rfl, hk⟩
    exact hK _ _ hk rfl
  · intro a W hW hO hφ K hK
    have q112 : a.tmps.getD 112 undef = (.bool true) := hφ ⟨5, .data⟩ (by simp) rfl
    have r112 := q112
    rw [Array.getD_eq_getD_getElem?] at r112
    clear hO hφ
    clear KC HFIT
    go_simp
    exact hK _ _ (Kp.refl _) rfl
  intro f W hW hφ
  have v0 : f 0 = (.pointer (some ⟨g, 0, none⟩)) := hφ 0 (by omega)
  have v1 : f 1 = (.pointer (some ⟨g, 0, none⟩)) := hφ 1 (by omega)
  have v2 : f 2 = (.agg #[.int .u8 (s0.toNat : Int), .int .u8 (s1.toNat : Int), .int .u8 (s2.toNat : Int), .int .u8 (s3.toNat : Int), .int .u8 (d0.toNat : Int), .int .u8 (d1.toNat : Int), .int .u8 (d2.toNat : Int), .int .u8 (d3.toNat : Int), .int .u8 6, .int .u16 7, .int .u8 64, .int .u64 0, .int .i64 (N : Int), .slice (some ⟨gp, 0, none⟩) 1 capp]) := hφ 2 (by omega)
  have v3 : f 3 = (.agg #[.int .u16 7, .bool true, .int .i64 0, .int .u8 64, .int .u8 6, .int .u8 (s0.toNat : Int), .int .u8 (s1.toNat : Int), .int .u8 (s2.toNat : Int), .int .u8 (s3.toNat : Int), .int .u8 (d0.toNat : Int), .int .u8 (d1.toNat : Int), .int .u8 (d2.toNat : Int), .int .u8 (d3.toNat : Int), .slice A 176 c]) := hφ 3 (by omega)
  have v4 : f 4 = (.int .i64 176) := hφ 4 (by omega)
  have v5 : f 5 = (.bool true) := hφ 5 (by omega)
  have v6 : f 6 = (.bool false) := hφ 6 (by omega)
  clear hφ
  simp only [putAll, List.setIfInBounds_toArray, List.set_cons_succ, List.set_cons_zero, v0, v1, v2, v3, v4, v5, v6]
  clear v0 v1 v2 v3 v4 v5 v6
  refine wpAny_done (by kernel_rfl) ?_ _
  have hkW : Kp w2 W := ((Kp.refl w2).drew).trans hW
  clear KC HFIT htk
  have own3 := orow_keep OWN2.out hkW
  have p4 := (hkW.block _ (Array.getElem?_eq_some_iff.1 P4.out).1).trans P4.out
  have p7 := (hkW.block _ (Array.getElem?_eq_some_iff.1 P7.out).1).trans P7.out
  have hpv3 := HPV2.out.keep hkW
  have y1 : W.cell? ⟨b4, 1, none⟩ = some (.bool true) := (cell_of_row W b4 1 _ _ _ p4).trans rfl
  have hg3 : g < W.heap.size := Nat.lt_of_lt_of_le hg2 hkW.size
  have hkw3 := HK2.out.trans hkW
  obtain ⟨w3, hw3⟩ : ∃ w3, W = w3 := ⟨_, rfl⟩
  subst hw3
  have OWN3 := Lib.hid own3
  have P4' := Lib.hid p4
  have P7' := Lib.hid p7
  have HPV3 := Lib.hid hpv3
  have HK3 := Lib.hid hkw3
  clear own3 p4 p7 hpv3 hkw3 OWN2 P4 P7 HPV2 HROW HK2 hkW hW
  go_wp2
  clear y1
  obtain ⟨lo, hlo⟩ : ∃ x, W.heap.size = x := ⟨_, rfl⟩
  rw [hlo] at hg3
  have HLO := Lib.hid hlo
  clear hlo
  have hn0 : 0 < 176 := by omega
  have hn1 : 176 ≤ 1048576 := by omega
  obtain ⟨w3, hw3⟩ : ∃ w3, w3 = W := ⟨_, rfl⟩
  rw [← hw3] at OWN3 P4' P7' HPV3 HK3 HLO ⊢
  clear hw3
  clear W
  have KC : ∀ W, Kp w3.drew W → W.cell? ⟨g, 13, none⟩ = some (.slice (some ⟨gp, 0, none⟩) 1 capp) ∧ W.cell? ⟨b4, 2, none⟩ = some (.int .i64 0) ∧ W.cell? ⟨b4, 13, none⟩ = some (.slice A 176 c) ∧ Rd W 0 A 176 l ∧ lo ≤ W.heap.size := fun W hW => by
    have hk : Kp w3 W := ((Kp.refl w3).drew).trans hW
    have q4 := (hk.block _ (Array.getElem?_eq_some_iff.1 P4'.out).1).trans P4'.out
    exact ⟨((orow_keep OWN3.out hk).cellAt 13 (by omega)).trans rfl, (cell_of_row W b4 2 _ _ _ q4).trans rfl, (cell_of_row W b4 13 _ _ _ q4).trans rfl, HA.out.keep (HK3.out.trans hk), by rw [← HLO.out]; exact hk.size⟩
  have HLAY : Hid (∀ W, Kp w3.drew W → ∀ (A2 : Option Addr) (c2 : Nat), Rd W lo A2 176 l → SlOk A2 176 c2 → Calls Try.prog 39 #[.slice (some ⟨gp, 0, none⟩) 1 capp, .agg #[.int .i64 0, .slice A2 176 c2]] W fun e w' => Kp W w' ∧ ∃ v, e = .returned v ∧ PartV w' lo 0 (l ++ l2) v) := Lib.hid fun W hW A2 c2 h1 _ => by
    have hk : Kp w3 W := ((Kp.refl w3).drew).trans hW
    refine (lay_one W _ _ l2 (HPV3.out.keep hk) h2 A2 c2 l (rd_lo h1 (Nat.zero_le _))).mono ?_
    rintro e w' ⟨k1, v, e1, h3⟩
    exact ⟨k1, v, e1, h3.low (by rw [← HLO.out]; exact hk.size)⟩
  refine wp_region_stepsR (by kernel_rfl) 14 (ad21c lo g b4 gp capp A c l l2) [127, 128, 129, 130, 131, 132, 133, 134, 135, 136, 137, 138, 139, 140] (by kernel_rfl) (by kernel_rfl) ⟨?_, ?_, ?_, ?_, ?_, ?_, ?_, ?_, ?_, ?_, ?_, ?_, ?_, ?_, trivial⟩ ?_
  · refine stepR_free rfl ?_
    intro a W hW hO hφ K hK
    have q12 : a.tmps.getD 12 undef = (.pointer (some ⟨g, 0, none⟩)) := hO 12 (by kernel_rfl)
    have r12 := q12
    rw [Array.getD_eq_getD_getElem?] at r12
    clear hO hφ
    clear KC HLAY
    go_simp
    exact hK _ _ (Kp.refl _) rfl
  · refine stepR_free rfl ?_
    intro a W hW hO hφ K hK
    have q12 : a.tmps.getD 12 undef = (.pointer (some ⟨g, 0, none⟩)) := hO 12 (by kernel_rfl)
    have r12 := q12
    rw [Array.getD_eq_getD_getElem?] at r12
    clear hO hφ
    clear KC HLAY
    go_simp
    exact hK _ _ (Kp.refl _) rfl
  · refine stepR_free rfl ?_
    intro a W hW hO hφ K hK
    have q128 : a.tmps.getD 128 undef = (.pointer (some ⟨g, 0, none⟩)) := hφ ⟨1, .data⟩ (by simp) rfl
    have r128 := q128
    rw [Array.getD_eq_getD_getElem?] at r128
    clear hO hφ
    clear KC HLAY
    go_simp
    exact hK _ _ (Kp.refl _) rfl
  · refine stepR_free rfl ?_
    intro a W hW hO hφ K hK
    have q129 : a.tmps.getD 129 undef = (.pointer (some ⟨g, 0, none⟩)) := hφ ⟨2, .data⟩ (by simp) rfl
    have r129 := q129
    rw [Array.getD_eq_getD_getElem?] at r129
    clear hO hφ
    clear KC HLAY
    go_simp
    exact hK _ _ (Kp.refl _) rfl
  · refine stepR_free rfl ?_
    intro a W hW hO hφ K hK
    have q130 : a.tmps.getD 130 undef = (.pointer (some ⟨g, 13, none⟩)) := hφ ⟨3, .data⟩ (by simp) rfl
    have r130 := q130
    rw [Array.getD_eq_getD_getElem?] at r130
    clear hO hφ
    obtain ⟨z0, z1, z2, z3, z4⟩ := KC W hW
    clear KC HLAY
    go_simp
    exact hK _ _ (Kp.refl _) rfl
  · refine stepR_free rfl ?_
    intro a W hW hO hφ K hK
    have q4 : a.tmps.getD 4 undef = (.pointer (some ⟨b4, 0, none⟩)) := hO 4 (by kernel_rfl)
    have r4 := q4
    rw [Array.getD_eq_getD_getElem?] at r4
    clear hO hφ
    clear KC HLAY
    go_simp
    exact hK _ _ (Kp.refl _) rfl
  · refine stepR_free rfl ?_
    intro a W hW hO hφ K hK
    have q132 : a.tmps.getD 132 undef = (.pointer (some ⟨b4, 2, none⟩)) := hφ ⟨5, .data⟩ (by simp) rfl
    have r132 := q132
    rw [Array.getD_eq_getD_getElem?] at r132
    clear hO hφ
    obtain ⟨z0, z1, z2, z3, z4⟩ := KC W hW
    clear KC HLAY
    go_simp
    exact hK _ _ (Kp.refl _) rfl
  · refine stepR_free rfl ?_
    intro a W hW hO hφ K hK
    have q4 : a.tmps.getD 4 undef = (.pointer (some ⟨b4, 0, none⟩)) := hO 4 (by kernel_rfl)
    have r4 := q4
    rw [Array.getD_eq_getD_getElem?] at r4
    clear hO hφ
    clear KC HLAY
    go_simp
    exact hK _ _ (Kp.refl _) rfl
  · refine stepR_free rfl ?_
    intro a W hW hO hφ K hK
    have q134 : a.tmps.getD 134 undef = (.pointer (some ⟨b4, 13, none⟩)) := hφ ⟨7, .data⟩ (by simp) rfl
    have r134 := q134
    rw [Array.getD_eq_getD_getElem?] at r134
    clear hO hφ
    obtain ⟨z0, z1, z2, z3, z4⟩ := KC W hW
    clear KC HLAY
    go_simp
    exact hK _ _ (Kp.refl _) rfl
  · refine stepR_free rfl ?_
    intro a W hW hO hφ K hK
    have q135 : a.tmps.getD 135 undef = (.slice A 176 c) := hφ ⟨8, .data⟩ (by simp) rfl
    have r135 := q135
    rw [Array.getD_eq_getD_getElem?] at r135
    clear hO hφ
    obtain ⟨z0, z1, z2, z3, z4⟩ := KC W hW
    clear KC HLAY
    go_simp
    go_at_call 30
    refine (clone8_any _ _ _ _ _ _ z3 hn0 hn1).mono ?_
    rintro e w' ⟨hk, gd, cap', rfl, hrd, hok⟩
    exact hK _ _ hk ⟨_, _, rfl, rd_lo hrd z4, hok⟩
  · refine stepR_free rfl ?_
    intro a W hW hO hφ K hK
    have q133 : a.tmps.getD 133 undef = (.int .i64 0) := hφ ⟨6, .data⟩ (by simp) rfl
    have q136 : (stR (St.cl lo 176 l)).p (a.tmps.getD 136 undef) W := hφ ⟨9, .data⟩ (by simp) rfl
    have r133 := q133
    rw [Array.getD_eq_getD_getElem?] at r133
    clear hO hφ
    obtain ⟨A2, c2, q136', hrd, hok⟩ := q136
    have r136 := q136'
    rw [Array.getD_eq_getD_getElem?] at r136
    clear KC HLAY
    go_simp
    exact hK _ _ (Kp.refl _) ⟨A2, c2, rfl, hrd, hok⟩
  · refine stepR_free rfl ?_
    intro a W hW hO hφ K hK
    have q131 : a.tmps.getD 131 undef = (.slice (some ⟨gp, 0, none⟩) 1 capp) := hφ ⟨4, .data⟩ (by simp) rfl
    have q137 : (stR (St.ptx lo 0 176 l)).p (a.tmps.getD 137 undef) W := hφ ⟨10, .data⟩ (by simp) rfl
    have r131 := q131
    rw [Array.getD_eq_getD_getElem?] at r131
    clear hO hφ
    obtain ⟨A2, c2, q137', hrd, hok⟩ := q137
    have r137 := q137'
    rw [Array.getD_eq_getD_getElem?] at r137
    have hl9 := HLAY.out W hW A2 c2 hrd hok
    clear KC HLAY
    go_simp
    go_at_call 39
    refine hl9.mono ?_
    rintro e w' ⟨hk, v, rfl, hv⟩
    exact hK _ _ hk hv
  · refine stepR_free rfl ?_
    intro a W hW hO hφ K hK
    have q127 : a.tmps.getD 127 undef = (.pointer (some ⟨g, 0, none⟩)) := hφ ⟨0, .data⟩ (by simp) rfl
    have r127 := q127
    rw [Array.getD_eq_getD_getElem?] at r127
    clear hO hφ
    clear KC HLAY
    go_simp
    exact hK _ _ (Kp.refl _) rfl
  · refine stepR_free rfl ?_
    intro a W hW hO hφ K hK
    have q139 : a.tmps.getD 139 undef = (.pointer (some ⟨g, 0, none⟩)) := hφ ⟨12, .data⟩ (by simp) rfl
    have r139 := q139
    rw [Array.getD_eq_getD_getElem?] at r139
    clear hO hφ
    clear KC HLAY
    go_simp
    exact hK _ _ (Kp.refl _) rfl
  intro f W hW hφ
  have v0 : f 0 = (.pointer (some ⟨g, 0, none⟩)) := hφ 0 (by omega)
  have v1 : f 1 = (.pointer (some ⟨g, 0, none⟩)) := hφ 1 (by omega)
  have v2 : f 2 = (.pointer (some ⟨g, 0, none⟩)) := hφ 2 (by omega)
  have v3 : f 3 = (.pointer (some ⟨g, 13, none⟩)) := hφ 3 (by omega)
  have v4 : f 4 = (.slice (some ⟨gp, 0, none⟩) 1 capp) := hφ 4 (by omega)
  have v5 : f 5 = (.pointer (some ⟨b4, 2, none⟩)) := hφ 5 (by omega)
  have v6 : f 6 = (.int .i64 0) := hφ 6 (by omega)
  have v7 : f 7 = (.pointer (some ⟨b4, 13, none⟩)) := hφ 7 (by omega)
  have v8 : f 8 = (.slice A 176 c) := hφ 8 (by omega)
  have v9 : (stR (St.cl lo 176 l)).p (f 9) W := hφ 9 (by omega)
  have v10 : (stR (St.ptx lo 0 176 l)).p (f 10) W := hφ 10 (by omega)
  have v11 : (stR (St.pvx lo 0 (l ++ l2))).p (f 11) W := hφ 11 (by omega)
  have v12 : f 12 = (.pointer (some ⟨g, 0, none⟩)) := hφ 12 (by omega)
  have v13 : f 13 = (.pointer (some ⟨g, 13, none⟩)) := hφ 13 (by omega)
  clear hφ
  simp only [putAll, List.setIfInBounds_toArray, List.set_cons_succ, List.set_cons_zero, v0, v1, v2, v3, v4, v5, v6, v7, v8, v12, v13]
  clear v0 v1 v2 v3 v4 v5 v6 v7 v8 v12 v13
  have hkW : Kp w3 W := ((Kp.refl w3).drew).trans hW
  clear KC HLAY
  obtain ⟨gq, capq, A3, c3, hf, hpr, hrd3, hok3⟩ := v11
  rw [hf]
  have own4 := orow_keep OWN3.out hkW
  have y13 : W.cell? ⟨g, 13, none⟩ = some (.slice (some ⟨gp, 0, none⟩) 1 capp) := (own4.cellAt 13 (by omega)).trans rfl
  have fy13 : W.frozen? ⟨g, 13, none⟩ = false := own4.frozenAt 13
  refine wpAny_ready (rs := [14]) (by kernel_rfl) (by simp) (AllReady.cons rfl (fun K' hK' => ?_) AllReady.nil)
  split
  case isFalse hx => exact (hx rfl).elim
  go_simp
  refine hK' _ _ ?_
  refine wpAny_done (by kernel_rfl) ?_ _
  have own5 := (own4.stored 13 (.slice (some ⟨gq, 0, none⟩) 1 capq)).1
  have hLL : (l ++ l2).length = N := by rw [List.length_append, HLN.out]; exact HNN.out.symm
  rw [hLL] at hpr hrd3 hok3
  rw [hf] at hpr
  have hpr5 := ownsRow_setCell_below hpr (a := ⟨g, 13, none⟩) hg3 (.slice (some ⟨gq, 0, none⟩) 1 capq)
  have hrd5 := RdV.setCell hrd3 (a := ⟨g, 13, none⟩) hg3 (.slice (some ⟨gq, 0, none⟩) 1 capq)
  have p7 := (Below.heap_setCell W ⟨g, 13, none⟩ (.slice (some ⟨gq, 0, none⟩) 1 capq) (b4 + 1) (by show b4 + 1 ≠ g; omega)).trans ((hkW.block _ (Array.getElem?_eq_some_iff.1 P7'.out).1).trans P7'.out)
  have hk4 : Kp w (W.setCell ⟨g, 13, none⟩ (.slice (some ⟨gq, 0, none⟩) 1 capq)) := (HK3.out.trans hkW).setCell (p := ⟨g, 13, none⟩) (by show w.heap.size ≤ g; rw [HB4.out]; omega) _
  have hsz4 : lo ≤ (W.setCell ⟨g, 13, none⟩ (.slice (some ⟨gq, 0, none⟩) 1 capq)).heap.size := by rw [← HLO.out]; simpa using hkW.size
  obtain ⟨w4, hw4⟩ : ∃ w4, W.setCell ⟨g, 13, none⟩ (.slice (some ⟨gq, 0, none⟩) 1 capq) = w4 := ⟨_, rfl⟩
  rw [hw4] at own5 hpr5 hrd5 p7 hk4 hsz4 ⊢
  have x13 : w4.cell? ⟨g, 13, none⟩ = some (.slice (some ⟨gq, 0, none⟩) 1 capq) := (own5.cellAt 13 (by omega)).trans rfl
  have x12 : w4.cell? ⟨g, 12, none⟩ = some (.int .i64 (N : Int)) := (own5.cellAt 12 (by omega)).trans rfl
  have xp0 : w4.cell? ⟨gq, 0, none⟩ = some (.int .i64 0) := (hpr5.cellAt 0 (by omega)).trans rfl
  have xp1 : w4.cell? ⟨gq, 1, none⟩ = some (.slice A3 N c3) := (hpr5.cellAt 1 (by omega)).trans rfl
  have OWN5 := Lib.hid own5
  have HPR5 := Lib.hid hpr5
  have HRD5 : Hid (Rd w4 lo A3 N (l ++ l2)) := Lib.hid hrd5
  have P7 := Lib.hid p7
  have HK4 := Lib.hid hk4
  have HOK3 := Lib.hid hok3
  clear hw4 own5 hpr5 hrd5 p7 hk4 own4 hpr hrd3 hok3 hf hkW hW hK' y13 fy13 P4' P7' HK3 OWN3 HPV3 hLL
  go_wp2
  go_quiet (fail)
  go_wp2
  obtain ⟨w5, hw5⟩ : ∃ w5, w4.drewN nq = w5 := ⟨_, rfl⟩
  have own6 : w5.ownsRow (b4 + 1 + 1) 90 14 (.slice (some ⟨g, 0, none⟩) 1 cap) 1 [.int .u8 (s0.toNat : Int), .int .u8 (s1.toNat : Int), .int .u8 (s2.toNat : Int), .int .u8 (s3.toNat : Int), .int .u8 (d0.toNat : Int), .int .u8 (d1.toNat : Int), .int .u8 (d2.toNat : Int), .int .u8 (d3.toNat : Int), .int .u8 6, .int .u16 7, .int .u8 64, .int .u64 0, .int .i64 (N : Int), .slice (some ⟨gq, 0, none⟩) 1 capq] := by rw [← hw5]; exact OWN5.out
  have hpr6 : w5.ownsRow lo 98 2 (.slice (some ⟨gq, 0, none⟩) 1 capq) 1 [.int .i64 0, .slice A3 N c3] := by rw [← hw5]; exact HPR5.out
  have hrd6 : Rd w5 lo A3 N (l ++ l2) := by rw [← hw5]; exact HRD5.out
  have p76 : w5.heap[b4 + 1]? = some (.cells #[.int .u16 0, .bool false, .int .i64 0, .int .u8 0, .int .u8 0, .int .u8 0, .int .u8 0, .int .u8 0, .int .u8 0, .int .u8 0, .int .u8 0, .int .u8 0, .int .u8 0, .slice none 0 0] 38 (0, 0)) := by rw [← hw5]; exact P7.out
  have hk5 : Kp w w5 := by rw [← hw5]; exact HK4.out.of_drawn _
  have hsz5 : lo ≤ w5.heap.size := by rw [← hw5]; exact hsz4
  rw [hw5]
  clear hw5 OWN5 HPR5 HRD5 P7 HK4 hsz4 x13 x12 xp0 xp1
  obtain ⟨_, _, _, _, cur2, hrow2, hcs2, _⟩ := own_row own6
  have OWN6 := Lib.hid own6
  have HPR6 := Lib.hid hpr6
  have HRD6 := Lib.hid hrd6
  have P76 := Lib.hid p76
  have HK5 := Lib.hid hk5
  have HROW2 := Lib.hid hrow2
  have HCS := Lib.hid hcs2
  obtain ⟨lp, hlp⟩ : ∃ x, w5.heap.size = x := ⟨_, rfl⟩
  have HLP := Lib.hid hlp
  clear hlp
  clear own6 hpr6 hrd6 p76 hk5 hrow2 hcs2
  have KC : ∀ W, Kp w5.drew W → ((W.cell? ⟨g, 0, none⟩ = some (.int .u8 (s0.toNat : Int)) ∧ W.cell? ⟨g, 1, none⟩ = some (.int .u8 (s1.toNat : Int)) ∧ W.cell? ⟨g, 2, none⟩ = some (.int .u8 (s2.toNat : Int)) ∧ W.cell? ⟨g, 3, none⟩ = some (.int .u8 (s3.toNat : Int))) ∧
      (W.cell? ⟨g, 4, none⟩ = some (.int .u8 (d0.toNat : Int)) ∧ W.cell? ⟨g, 5, none⟩ = some (.int .u8 (d1.toNat : Int)) ∧ W.cell? ⟨g, 6, none⟩ = some (.int .u8 (d2.toNat : Int)) ∧ W.cell? ⟨g, 7, none⟩ = some (.int .u8 (d3.toNat : Int))) ∧
      W.cell? ⟨g, 8, none⟩ = some (.int .u8 6) ∧ W.cell? ⟨g, 9, none⟩ = some (.int .u16 7) ∧ W.cell? ⟨g, 10, none⟩ = some (.int .u8 64) ∧ W.cell? ⟨g, 13, none⟩ = some (.slice (some ⟨gq, 0, none⟩) 1 capq) ∧ W.cell? ⟨gq, 1, none⟩ = some (.slice A3 N c3) ∧ lp ≤ W.heap.size) := fun W hW => by
    have hk : Kp w5 W := ((Kp.refl w5).drew).trans hW
    have o := orow_keep OWN6.out hk
    have o2 := orow_keep HPR6.out hk
    exact ⟨⟨(o.cellAt 0 (by omega)).trans rfl, (o.cellAt 1 (by omega)).trans rfl, (o.cellAt 2 (by omega)).trans rfl, (o.cellAt 3 (by omega)).trans rfl⟩, ⟨(o.cellAt 4 (by omega)).trans rfl, (o.cellAt 5 (by omega)).trans rfl, (o.cellAt 6 (by omega)).trans rfl, (o.cellAt 7 (by omega)).trans rfl⟩,
      (o.cellAt 8 (by omega)).trans rfl, (o.cellAt 9 (by omega)).trans rfl, (o.cellAt 10 (by omega)).trans rfl, (o.cellAt 13 (by omega)).trans rfl, (o2.cellAt 1 (by omega)).trans rfl, by rw [← HLP.out]; exact hk.size⟩
  obtain ⟨c, hcc⟩ : ∃ c, c = c3 := ⟨_, rfl⟩
  subst hcc
  obtain ⟨A, hAA⟩ : ∃ x, x = A3 := ⟨_, rfl⟩
  subst hAA
  refine wp_region_stepsR (by kernel_rfl) 29 (ad24 lp g gq capq s0 s1 s2 s3 d0 d1 d2 d3 A N c) [174, 175, 176, 177, 178, 179, 180, 181, 182, 183, 184, 185, 186, 187, 188, 189, 190, 191, 192, 193, 194, 195, 196, 197, 198, 199, 200, 201, 13] (by kernel_rfl) (by kernel_rfl) ⟨?_, ?_, ?_, ?_, ?_, ?_, ?_, ?_, ?_, ?_, ?_, ?_, ?_, ?_, ?_, ?_, ?_, ?_, ?_, ?_, ?_, ?_, ?_, ?_, ?_, ?_, ?_, ?_, ?_, trivial⟩ ?_
  · refine stepR_free rfl ?_
    intro a W hW hO hφ K hK
    have q12 : a.tmps.getD 12 undef = (.pointer (some ⟨g, 0, none⟩)) := hO 12 (by kernel_rfl)
    have r12 := q12
    rw [Array.getD_eq_getD_getElem?] at r12
    clear hO hφ
    clear KC
    go_simp
    exact hK _ _ (Kp.refl _) rfl
  · refine stepR_free rfl ?_
    intro a W hW hO hφ K hK
    have q174 : a.tmps.getD 174 undef = (.pointer (some ⟨g, 0, none⟩)) := hφ ⟨0, .data⟩ (by simp) rfl
    have r174 := q174
    rw [Array.getD_eq_getD_getElem?] at r174
    clear hO hφ
    clear KC
    go_simp
    exact hK _ _ (Kp.refl _) rfl
  · refine stepR_free rfl ?_
    intro a W hW hO hφ K hK
    have q175 : a.tmps.getD 175 undef = (.pointer (some ⟨g, 0, none⟩)) := hφ ⟨1, .data⟩ (by simp) rfl
    have r175 := q175
    rw [Array.getD_eq_getD_getElem?] at r175
    clear hO hφ
    clear KC
    go_simp
    exact hK _ _ (Kp.refl _) rfl
  · refine stepR_free rfl ?_
    intro a W hW hO hφ K hK
    have q176 : a.tmps.getD 176 undef = (.pointer (some ⟨g, 9, none⟩)) := hφ ⟨2, .data⟩ (by simp) rfl
    have r176 := q176
    rw [Array.getD_eq_getD_getElem?] at r176
    clear hO hφ
    obtain ⟨⟨a0, a1, a2, a3⟩, ⟨b0, b1, b2, b3⟩, e8, e9, e10, e13, p1, zz⟩ := KC W hW
    clear KC
    go_simp
    exact hK _ _ (Kp.refl _) rfl
  · refine stepR_free rfl ?_
    intro a W hW hO hφ K hK
    have q12 : a.tmps.getD 12 undef = (.pointer (some ⟨g, 0, none⟩)) := hO 12 (by kernel_rfl)
    have r12 := q12
    rw [Array.getD_eq_getD_getElem?] at r12
    clear hO hφ
    clear KC
    go_simp
    exact hK _ _ (Kp.refl _) rfl
  · refine stepR_free rfl ?_
    intro a W hW hO hφ K hK
    have q178 : a.tmps.getD 178 undef = (.pointer (some ⟨g, 0, none⟩)) := hφ ⟨4, .data⟩ (by simp) rfl
    have r178 := q178
    rw [Array.getD_eq_getD_getElem?] at r178
    clear hO hφ
    clear KC
    go_simp
    exact hK _ _ (Kp.refl _) rfl
  · refine stepR_free rfl ?_
    intro a W hW hO hφ K hK
    have q179 : a.tmps.getD 179 undef = (.pointer (some ⟨g, 0, none⟩)) := hφ ⟨5, .data⟩ (by simp) rfl
    have r179 := q179
    rw [Array.getD_eq_getD_getElem?] at r179
    clear hO hφ
    clear KC
    go_simp
    exact hK _ _ (Kp.refl _) rfl
  · refine stepR_free rfl ?_
    intro a W hW hO hφ K hK
    have q180 : a.tmps.getD 180 undef = (.pointer (some ⟨g, 10, none⟩)) := hφ ⟨6, .data⟩ (by simp) rfl
    have r180 := q180
    rw [Array.getD_eq_getD_getElem?] at r180
    clear hO hφ
    obtain ⟨⟨a0, a1, a2, a3⟩, ⟨b0, b1, b2, b3⟩, e8, e9, e10, e13, p1, zz⟩ := KC W hW
    clear KC
    go_simp
    exact hK _ _ (Kp.refl _) rfl
  · refine stepR_free rfl ?_
    intro a W hW hO hφ K hK
    have q12 : a.tmps.getD 12 undef = (.pointer (some ⟨g, 0, none⟩)) := hO 12 (by kernel_rfl)
    have r12 := q12
    rw [Array.getD_eq_getD_getElem?] at r12
    clear hO hφ
    clear KC
    go_simp
    exact hK _ _ (Kp.refl _) rfl
  · refine stepR_free rfl ?_
    intro a W hW hO hφ K hK
    have q182 : a.tmps.getD 182 undef = (.pointer (some ⟨g, 0, none⟩)) := hφ ⟨8, .data⟩ (by simp) rfl
    have r182 := q182
    rw [Array.getD_eq_getD_getElem?] at r182
    clear hO hφ
    clear KC
    go_simp
    exact hK _ _ (Kp.refl _) rfl
  · refine stepR_free rfl ?_
    intro a W hW hO hφ K hK
    have q183 : a.tmps.getD 183 undef = (.pointer (some ⟨g, 0, none⟩)) := hφ ⟨9, .data⟩ (by simp) rfl
    have r183 := q183
    rw [Array.getD_eq_getD_getElem?] at r183
    clear hO hφ
    clear KC
    go_simp
    exact hK _ _ (Kp.refl _) rfl
  · refine stepR_free rfl ?_
    intro a W hW hO hφ K hK
    have q184 : a.tmps.getD 184 undef = (.pointer (some ⟨g, 8, none⟩)) := hφ ⟨10, .data⟩ (by simp) rfl
    have r184 := q184
    rw [Array.getD_eq_getD_getElem?] at r184
    clear hO hφ
    obtain ⟨⟨a0, a1, a2, a3⟩, ⟨b0, b1, b2, b3⟩, e8, e9, e10, e13, p1, zz⟩ := KC W hW
    clear KC
    go_simp
    exact hK _ _ (Kp.refl _) rfl
  · refine stepR_free rfl ?_
    intro a W hW hO hφ K hK
    have q12 : a.tmps.getD 12 undef = (.pointer (some ⟨g, 0, none⟩)) := hO 12 (by kernel_rfl)
    have r12 := q12
    rw [Array.getD_eq_getD_getElem?] at r12
    clear hO hφ
    clear KC
    go_simp
    exact hK _ _ (Kp.refl _) rfl
  · refine stepR_free rfl ?_
    intro a W hW hO hφ K hK
    have q186 : a.tmps.getD 186 undef = (.pointer (some ⟨g, 0, none⟩)) := hφ ⟨12, .data⟩ (by simp) rfl
    have r186 := q186
    rw [Array.getD_eq_getD_getElem?] at r186
    clear hO hφ
    clear KC
    go_simp
    exact hK _ _ (Kp.refl _) rfl
  · refine stepR_free rfl ?_
    intro a W hW hO hφ K hK
    have q187 : a.tmps.getD 187 undef = (.pointer (some ⟨g, 0, none⟩)) := hφ ⟨13, .data⟩ (by simp) rfl
    have r187 := q187
    rw [Array.getD_eq_getD_getElem?] at r187
    clear hO hφ
    clear KC
    go_simp
    exact hK _ _ (Kp.refl _) rfl
  · refine stepR_free rfl ?_
    intro a W hW hO hφ K hK
    have q188 : a.tmps.getD 188 undef = (.pointer (some ⟨g, 0, none⟩)) := hφ ⟨14, .data⟩ (by simp) rfl
    have r188 := q188
    rw [Array.getD_eq_getD_getElem?] at r188
    clear hO hφ
    obtain ⟨⟨a0, a1, a2, a3⟩, ⟨b0, b1, b2, b3⟩, e8, e9, e10, e13, p1, zz⟩ := KC W hW
    clear KC
    go_simp
    exact hK _ _ (Kp.refl _) rfl
  · refine stepR_free rfl ?_
    intro a W hW hO hφ K hK
    have q12 : a.tmps.getD 12 undef = (.pointer (some ⟨g, 0, none⟩)) := hO 12 (by kernel_rfl)
    have r12 := q12
    rw [Array.getD_eq_getD_getElem?] at r12
    clear hO hφ
    clear KC
    go_simp
    exact hK _ _ (Kp.refl _) rfl
  · refine stepR_free rfl ?_
    intro a W hW hO hφ K hK
    have q190 : a.tmps.getD 190 undef = (.pointer (some ⟨g, 0, none⟩)) := hφ ⟨16, .data⟩ (by simp) rfl
    have r190 := q190
    rw [Array.getD_eq_getD_getElem?] at r190
    clear hO hφ
    clear KC
    go_simp
    exact hK _ _ (Kp.refl _) rfl
  · refine stepR_free rfl ?_
    intro a W hW hO hφ K hK
    have q191 : a.tmps.getD 191 undef = (.pointer (some ⟨g, 0, none⟩)) := hφ ⟨17, .data⟩ (by simp) rfl
    have r191 := q191
    rw [Array.getD_eq_getD_getElem?] at r191
    clear hO hφ
    clear KC
    go_simp
    exact hK _ _ (Kp.refl _) rfl
  · refine stepR_free rfl ?_
    intro a W hW hO hφ K hK
    have q192 : a.tmps.getD 192 undef = (.pointer (some ⟨g, 4, none⟩)) := hφ ⟨18, .data⟩ (by simp) rfl
    have r192 := q192
    rw [Array.getD_eq_getD_getElem?] at r192
    clear hO hφ
    obtain ⟨⟨a0, a1, a2, a3⟩, ⟨b0, b1, b2, b3⟩, e8, e9, e10, e13, p1, zz⟩ := KC W hW
    clear KC
    go_simp
    exact hK _ _ (Kp.refl _) rfl
  · refine stepR_free rfl ?_
    intro a W hW hO hφ K hK
    have q12 : a.tmps.getD 12 undef = (.pointer (some ⟨g, 0, none⟩)) := hO 12 (by kernel_rfl)
    have r12 := q12
    rw [Array.getD_eq_getD_getElem?] at r12
    clear hO hφ
    clear KC
    go_simp
    exact hK _ _ (Kp.refl _) rfl
  · refine stepR_free rfl ?_
    intro a W hW hO hφ K hK
    have q194 : a.tmps.getD 194 undef = (.pointer (some ⟨g, 0, none⟩)) := hφ ⟨20, .data⟩ (by simp) rfl
    have r194 := q194
    rw [Array.getD_eq_getD_getElem?] at r194
    clear hO hφ
    clear KC
    go_simp
    exact hK _ _ (Kp.refl _) rfl
  · refine stepR_free rfl ?_
    intro a W hW hO hφ K hK
    have q195 : a.tmps.getD 195 undef = (.pointer (some ⟨g, 0, none⟩)) := hφ ⟨21, .data⟩ (by simp) rfl
    have r195 := q195
    rw [Array.getD_eq_getD_getElem?] at r195
    clear hO hφ
    clear KC
    go_simp
    exact hK _ _ (Kp.refl _) rfl
  · refine stepR_free rfl ?_
    intro a W hW hO hφ K hK
    have q196 : a.tmps.getD 196 undef = (.pointer (some ⟨g, 13, none⟩)) := hφ ⟨22, .data⟩ (by simp) rfl
    have r196 := q196
    rw [Array.getD_eq_getD_getElem?] at r196
    clear hO hφ
    obtain ⟨⟨a0, a1, a2, a3⟩, ⟨b0, b1, b2, b3⟩, e8, e9, e10, e13, p1, zz⟩ := KC W hW
    clear KC
    go_simp
    exact hK _ _ (Kp.refl _) rfl
  · refine stepR_free rfl ?_
    intro a W hW hO hφ K hK
    have q197 : a.tmps.getD 197 undef = (.slice (some ⟨gq, 0, none⟩) 1 capq) := hφ ⟨23, .data⟩ (by simp) rfl
    have r197 := q197
    rw [Array.getD_eq_getD_getElem?] at r197
    clear hO hφ
    clear KC
    go_simp
    exact hK _ _ (Kp.refl _) rfl
  · refine stepR_free rfl ?_
    intro a W hW hO hφ K hK
    have q198 : a.tmps.getD 198 undef = (.pointer (some ⟨gq, 0, none⟩)) := hφ ⟨24, .data⟩ (by simp) rfl
    have r198 := q198
    rw [Array.getD_eq_getD_getElem?] at r198
    clear hO hφ
    clear KC
    go_simp
    exact hK _ _ (Kp.refl _) rfl
  · refine stepR_free rfl ?_
    intro a W hW hO hφ K hK
    have q199 : a.tmps.getD 199 undef = (.pointer (some ⟨gq, 1, none⟩)) := hφ ⟨25, .data⟩ (by simp) rfl
    have r199 := q199
    rw [Array.getD_eq_getD_getElem?] at r199
    clear hO hφ
    obtain ⟨⟨a0, a1, a2, a3⟩, ⟨b0, b1, b2, b3⟩, e8, e9, e10, e13, p1, zz⟩ := KC W hW
    clear KC
    go_simp
    exact hK _ _ (Kp.refl _) rfl
  · refine stepR_free rfl ?_
    intro a W hW hO hφ K hK
    have q177 : a.tmps.getD 177 undef = (.int .u16 7) := hφ ⟨3, .data⟩ (by simp) rfl
    have q181 : a.tmps.getD 181 undef = (.int .u8 64) := hφ ⟨7, .data⟩ (by simp) rfl
    have q185 : a.tmps.getD 185 undef = (.int .u8 6) := hφ ⟨11, .data⟩ (by simp) rfl
    have q189 : a.tmps.getD 189 undef = (.agg #[.int .u8 (s0.toNat : Int), .int .u8 (s1.toNat : Int), .int .u8 (s2.toNat : Int), .int .u8 (s3.toNat : Int)]) := hφ ⟨15, .data⟩ (by simp) rfl
    have q193 : a.tmps.getD 193 undef = (.agg #[.int .u8 (d0.toNat : Int), .int .u8 (d1.toNat : Int), .int .u8 (d2.toNat : Int), .int .u8 (d3.toNat : Int)]) := hφ ⟨19, .data⟩ (by simp) rfl
    have q200 : a.tmps.getD 200 undef = (.slice A N c) := hφ ⟨26, .data⟩ (by simp) rfl
    have r177 := q177
    rw [Array.getD_eq_getD_getElem?] at r177
    have r181 := q181
    rw [Array.getD_eq_getD_getElem?] at r181
    have r185 := q185
    rw [Array.getD_eq_getD_getElem?] at r185
    have r189 := q189
    rw [Array.getD_eq_getD_getElem?] at r189
    have r193 := q193
    rw [Array.getD_eq_getD_getElem?] at r193
    have r200 := q200
    rw [Array.getD_eq_getD_getElem?] at r200
    clear hO hφ
    clear KC
    go_simp
    exact hK _ _ (Kp.refl _) rfl
  · refine stepR_free rfl ?_
    intro a W hW hO hφ K hK
    clear hO hφ
    obtain ⟨⟨a0, a1, a2, a3⟩, ⟨b0, b1, b2, b3⟩, e8, e9, e10, e13, p1, zz⟩ := KC W hW
    clear KC a0 a1 a2 a3 b0 b1 b2 b3 e8 e9 e10 e13 p1
    go_simp
    exact hK _ _ ((Kp.refl _).alloc _) ⟨_, rfl, zz, heap_alloc_new W _⟩
  intro f W hW hφ
  have v0 : f 0 = (.pointer (some ⟨g, 0, none⟩)) := hφ 0 (by omega)
  have v1 : f 1 = (.pointer (some ⟨g, 0, none⟩)) := hφ 1 (by omega)
  have v2 : f 2 = (.pointer (some ⟨g, 9, none⟩)) := hφ 2 (by omega)
  have v3 : f 3 = (.int .u16 7) := hφ 3 (by omega)
  have v4 : f 4 = (.pointer (some ⟨g, 0, none⟩)) := hφ 4 (by omega)
  have v5 : f 5 = (.pointer (some ⟨g, 0, none⟩)) := hφ 5 (by omega)
  have v6 : f 6 = (.pointer (some ⟨g, 10, none⟩)) := hφ 6 (by omega)
  have v7 : f 7 = (.int .u8 64) := hφ 7 (by omega)
  have v8 : f 8 = (.pointer (some ⟨g, 0, none⟩)) := hφ 8 (by omega)
  have v9 : f 9 = (.pointer (some ⟨g, 0, none⟩)) := hφ 9 (by omega)
  have v10 : f 10 = (.pointer (some ⟨g, 8, none⟩)) := hφ 10 (by omega)
  have v11 : f 11 = (.int .u8 6) := hφ 11 (by omega)
  have v12 : f 12 = (.pointer (some ⟨g, 0, none⟩)) := hφ 12 (by omega)
  have v13 : f 13 = (.pointer (some ⟨g, 0, none⟩)) := hφ 13 (by omega)
  have v14 : f 14 = (.pointer (some ⟨g, 0, none⟩)) := hφ 14 (by omega)
  have v15 : f 15 = (.agg #[.int .u8 (s0.toNat : Int), .int .u8 (s1.toNat : Int), .int .u8 (s2.toNat : Int), .int .u8 (s3.toNat : Int)]) := hφ 15 (by omega)
  have v16 : f 16 = (.pointer (some ⟨g, 0, none⟩)) := hφ 16 (by omega)
  have v17 : f 17 = (.pointer (some ⟨g, 0, none⟩)) := hφ 17 (by omega)
  have v18 : f 18 = (.pointer (some ⟨g, 4, none⟩)) := hφ 18 (by omega)
  have v19 : f 19 = (.agg #[.int .u8 (d0.toNat : Int), .int .u8 (d1.toNat : Int), .int .u8 (d2.toNat : Int), .int .u8 (d3.toNat : Int)]) := hφ 19 (by omega)
  have v20 : f 20 = (.pointer (some ⟨g, 0, none⟩)) := hφ 20 (by omega)
  have v21 : f 21 = (.pointer (some ⟨g, 0, none⟩)) := hφ 21 (by omega)
  have v22 : f 22 = (.pointer (some ⟨g, 13, none⟩)) := hφ 22 (by omega)
  have v23 : f 23 = (.slice (some ⟨gq, 0, none⟩) 1 capq) := hφ 23 (by omega)
  have v24 : f 24 = (.pointer (some ⟨gq, 0, none⟩)) := hφ 24 (by omega)
  have v25 : f 25 = (.pointer (some ⟨gq, 1, none⟩)) := hφ 25 (by omega)
  have v26 : f 26 = (.slice A N c) := hφ 26 (by omega)
  have v27 : f 27 = (.agg #[.int .u16 7, .bool false, .int .i64 0, .int .u8 64, .int .u8 6, .int .u8 (s0.toNat : Int), .int .u8 (s1.toNat : Int), .int .u8 (s2.toNat : Int), .int .u8 (s3.toNat : Int), .int .u8 (d0.toNat : Int), .int .u8 (d1.toNat : Int), .int .u8 (d2.toNat : Int), .int .u8 (d3.toNat : Int), .slice A N c]) := hφ 27 (by omega)
  have v28 : (stR (St.zpk lp)).p (f 28) W := hφ 28 (by omega)
  clear hφ
  simp only [putAll, List.setIfInBounds_toArray, List.set_cons_succ, List.set_cons_zero, v0, v1, v2, v3, v4, v5, v6, v7, v8, v9, v10, v11, v12, v13, v14, v15, v16, v17, v18, v19, v20, v21, v22, v23, v24, v25, v26, v27]
  clear v0 v1 v2 v3 v4 v5 v6 v7 v8 v9 v10 v11 v12 v13 v14 v15 v16 v17 v18 v19 v20 v21 v22 v23 v24 v25 v26 v27
  have hkW : Kp w5 W := ((Kp.refl w5).drew).trans hW
  clear KC
  obtain ⟨bq, hf, hbq, hrowq⟩ := v28
  rw [hf]
  refine wpAny_ready (rs := [29]) (by kernel_rfl) (by simp) (AllReady.cons rfl (fun K' hK' => ?_) AllReady.nil)
  split
  case isFalse hx => exact (hx rfl).elim
  refine ost_row (.tmp 13) (.tmp 201) _ rfl rfl rfl rfl hrowq szPkt rfl rfl ?_
  refine hK' _ _ ?_
  refine wpAny_done (by kernel_rfl) ?_ _
  have hkq : Kp w5 (W.setRow bq #[.int .u16 7, .bool false, .int .i64 0, .int .u8 64, .int .u8 6, .int .u8 (s0.toNat : Int), .int .u8 (s1.toNat : Int), .int .u8 (s2.toNat : Int), .int .u8 (s3.toNat : Int), .int .u8 (d0.toNat : Int), .int .u8 (d1.toNat : Int), .int .u8 (d2.toNat : Int), .int .u8 (d3.toNat : Int), .slice A N c]) := hkW.setRow (by rw [HLP.out]; exact hbq)
  have hrq := setRow_heap W bq _ #[.int .u16 7, .bool false, .int .i64 0, .int .u8 64, .int .u8 6, .int .u8 (s0.toNat : Int), .int .u8 (s1.toNat : Int), .int .u8 (s2.toNat : Int), .int .u8 (s3.toNat : Int), .int .u8 (d0.toNat : Int), .int .u8 (d1.toNat : Int), .int .u8 (d2.toNat : Int), .int .u8 (d3.toNat : Int), .slice A N c] _ _ hrowq
  have hbqg : g ≠ bq := by have := HLP.out; omega
  obtain ⟨w6, hw6⟩ : ∃ w6, w6 = W.setRow bq #[.int .u16 7, .bool false, .int .i64 0, .int .u8 64, .int .u8 6, .int .u8 (s0.toNat : Int), .int .u8 (s1.toNat : Int), .int .u8 (s2.toNat : Int), .int .u8 (s3.toNat : Int), .int .u8 (d0.toNat : Int), .int .u8 (d1.toNat : Int), .int .u8 (d2.toNat : Int), .int .u8 (d3.toNat : Int), .slice A N c] := ⟨_, rfl⟩
  rw [← hw6] at hkq hrq ⊢
  have HRQ := Lib.hid hrq
  have HKQ := Lib.hid hkq
  have p77 := (hkq.block _ (Array.getElem?_eq_some_iff.1 P76.out).1).trans P76.out
  have P77 : Hid (w6.heap[b4 + 1]? = some (.cells #[.int .u16 0, .bool false, .int .i64 0, .int .u8 0, .int .u8 0, .int .u8 0, .int .u8 0, .int .u8 0, .int .u8 0, .int .u8 0, .int .u8 0, .int .u8 0, .int .u8 0, .slice none 0 0] 38 (0, 0))) := Lib.hid p77
  have HRW := Lib.hid ((hkq.block _ (Array.getElem?_eq_some_iff.1 HROW2.out).1).trans HROW2.out)
  clear hw6 hkq hrq hrowq hf hK' hW hkW p77
  clear W
  go_wp2
  have KC : ∀ W, (Keep.gb g).R w6.drew W → (∃ cur', W.heap[g]? = some (.cells cur' 90 (0, 0)) ∧ cur'.size = cur2.size) ∧ W.heap[bq]? = some (.cells #[.int .u16 7, .bool false, .int .i64 0, .int .u8 64, .int .u8 6, .int .u8 (s0.toNat : Int), .int .u8 (s1.toNat : Int), .int .u8 (s2.toNat : Int), .int .u8 (s3.toNat : Int), .int .u8 (d0.toNat : Int), .int .u8 (d1.toNat : Int), .int .u8 (d2.toNat : Int), .int .u8 (d3.toNat : Int), .slice A N c] 38 (0, 0)) := fun W hW =>
    ⟨hW.2 cur2 HRW.out, (hW.1.block bq (Array.getElem?_eq_some_iff.1 HRQ.out).1 (by intro e; injection e with e; exact hbqg e.symm)).trans HRQ.out⟩
  refine wp_region_stepsR (by kernel_rfl) 7 (ad25 g cap bq s0 s1 s2 s3 d0 d1 d2 d3 A N c) [202, 203, 204, 205, 206, 207, 6] (by kernel_rfl) (by kernel_rfl) ⟨?_, ?_, ?_, ?_, ?_, ?_, ?_, trivial⟩ ?_
  · refine stepR_free rfl ?_
    intro a W hW hO hφ K hK
    have q0 : a.tmps.getD 0 undef = (.slice (some ⟨g, 0, none⟩) 1 cap) := hO 0 (by kernel_rfl)
    have r0 := q0
    rw [Array.getD_eq_getD_getElem?] at r0
    clear hO hφ
    clear KC
    go_simp
    exact hK _ _ (Keep.refl _ _) rfl
  · refine stepR_free rfl ?_
    intro a W hW hO hφ K hK
    have q11 : a.tmps.getD 11 undef = (.int .i64 0) := hO 11 (by kernel_rfl)
    have r11 := q11
    rw [Array.getD_eq_getD_getElem?] at r11
    clear hO hφ
    clear KC
    go_simp
    exact hK _ _ (Keep.refl _ _) rfl
  · refine stepR_free rfl ?_
    intro a W hW hO hφ K hK
    have q11 : a.tmps.getD 11 undef = (.int .i64 0) := hO 11 (by kernel_rfl)
    have r11 := q11
    rw [Array.getD_eq_getD_getElem?] at r11
    clear hO hφ
    clear KC
    go_simp
    exact hK _ _ (Keep.refl _ _) rfl
  · refine stepR_free rfl ?_
    intro a W hW hO hφ K hK
    have q204 : a.tmps.getD 204 undef = (.int .i64 0) := hφ ⟨2, .data⟩ (by simp) rfl
    have r204 := q204
    rw [Array.getD_eq_getD_getElem?] at r204
    clear hO hφ
    clear KC
    go_simp
    exact hK _ _ (Keep.refl _ _) rfl
  · refine stepR_free rfl ?_
    intro a W hW hO hφ K hK
    have q202 : a.tmps.getD 202 undef = (.slice (some ⟨g, 0, none⟩) 1 cap) := hφ ⟨0, .data⟩ (by simp) rfl
    have q203 : a.tmps.getD 203 undef = (.int .i64 0) := hφ ⟨1, .data⟩ (by simp) rfl
    have q205 : a.tmps.getD 205 undef = (.int .i64 1) := hφ ⟨3, .data⟩ (by simp) rfl
    have r202 := q202
    rw [Array.getD_eq_getD_getElem?] at r202
    have r203 := q203
    rw [Array.getD_eq_getD_getElem?] at r203
    have r205 := q205
    rw [Array.getD_eq_getD_getElem?] at r205
    clear hO hφ
    obtain ⟨⟨cur', hrow', hsz'⟩, zz⟩ := KC W hW
    clear KC
    go_simp
    go_at_call 38
    refine (del_one W 0 g cap cur' (Nat.zero_le _) hrow' (hsz'.trans HCS.out) hc1 hcm).mono ?_
    rintro e w' ⟨rfl, hgr, hsh⟩
    exact hK _ _ ⟨hgr, fun cur2 h2 => (by rw [hrow'] at h2; cases h2; exact hsh)⟩ rfl
  · refine stepR_free rfl ?_
    intro a W hW hO hφ K hK
    have q13 : a.tmps.getD 13 undef = (.pointer (some ⟨bq, 0, none⟩)) := hO 13 (by kernel_rfl)
    have r13 := q13
    rw [Array.getD_eq_getD_getElem?] at r13
    clear hO hφ
    obtain ⟨_, zz⟩ := KC W hW
    clear KC
    refine old_part (.tmp 13) 38 _ [.int .u16 7, .bool false, .int .i64 0, .int .u8 64, .int .u8 6, .int .u8 (s0.toNat : Int), .int .u8 (s1.toNat : Int), .int .u8 (s2.toNat : Int), .int .u8 (s3.toNat : Int), .int .u8 (d0.toNat : Int), .int .u8 (d1.toNat : Int), .int .u8 (d2.toNat : Int), .int .u8 (d3.toNat : Int), .slice A N c] rfl q13 zz rfl Try.underlying38 rfl szPkt ?_
    exact hK _ _ (Keep.refl _ _) rfl
  · refine stepR_free rfl ?_
    intro a W hW hO hφ K hK
    have q206 : a.tmps.getD 206 undef = (.slice (some ⟨g, 0, none⟩) 0 cap) := hφ ⟨4, .data⟩ (by simp) rfl
    have r206 := q206
    rw [Array.getD_eq_getD_getElem?] at r206
    clear hO hφ
    clear KC
    go_simp
    exact hK _ _ (Keep.refl _ _) rfl
  intro f W hW hφ
  have v0 : f 0 = (.slice (some ⟨g, 0, none⟩) 1 cap) := hφ 0 (by omega)
  have v1 : f 1 = (.int .i64 0) := hφ 1 (by omega)
  have v2 : f 2 = (.int .i64 0) := hφ 2 (by omega)
  have v3 : f 3 = (.int .i64 1) := hφ 3 (by omega)
  have v4 : f 4 = (.slice (some ⟨g, 0, none⟩) 0 cap) := hφ 4 (by omega)
  have v5 : f 5 = (.agg #[.int .u16 7, .bool false, .int .i64 0, .int .u8 64, .int .u8 6, .int .u8 (s0.toNat : Int), .int .u8 (s1.toNat : Int), .int .u8 (s2.toNat : Int), .int .u8 (s3.toNat : Int), .int .u8 (d0.toNat : Int), .int .u8 (d1.toNat : Int), .int .u8 (d2.toNat : Int), .int .u8 (d3.toNat : Int), .slice A N c]) := hφ 5 (by omega)
  have v6 : f 6 = (.slice (some ⟨g, 0, none⟩) 0 cap) := hφ 6 (by omega)
  clear hφ
  simp only [putAll, List.setIfInBounds_toArray, List.set_cons_succ, List.set_cons_zero, v0, v1, v2, v3, v4, v5, v6]
  clear v0 v1 v2 v3 v4 v5 v6
  have hgb : w6.grownBy W (some g) := ⟨hW.1.os, hW.1.tape, hW.1.output, hW.1.size, hW.1.block⟩
  clear KC
  have p78 : W.heap[b4 + 1]? = some (.cells #[.int .u16 0, .bool false, .int .i64 0, .int .u8 0, .int .u8 0, .int .u8 0, .int .u8 0, .int .u8 0, .int .u8 0, .int .u8 0, .int .u8 0, .int .u8 0, .int .u8 0, .slice none 0 0] 38 (0, 0)) := (hgb.block (b4 + 1) (Array.getElem?_eq_some_iff.1 P77.out).1 (by intro e; injection e with e; omega)).trans P77.out
  refine wpAny_ready (rs := [7]) (by kernel_rfl) (by simp) (AllReady.cons rfl (fun K' hK' => ?_) AllReady.nil)
  split
  case isFalse hx => exact (hx rfl).elim
  refine ost_row (.tmp 7) (.tmp 207) _ rfl rfl rfl rfl p78 szPkt rfl rfl ?_
  refine hK' _ _ ?_
  refine wpAny_take (i := 8) (v := .bool true) rfl (by kernel_rfl) (by kernel_rfl) (by kernel_rfl) (fun _ _ _ h => h) (Or.inl ⟨by rfl, ?_⟩) ?_
  · intro w; go_simp
  refine wpAny_take (i := 9) (v := .int .i64 0) rfl (by kernel_rfl) (by kernel_rfl) (by kernel_rfl) (fun _ _ _ h => h) (Or.inl ⟨by rfl, ?_⟩) ?_
  · intro w; go_simp
  refine wpAny_done (by kernel_rfl) ?_ _
  have q8 := setRow_heap W (b4 + 1) _ #[.int .u16 7, .bool false, .int .i64 0, .int .u8 64, .int .u8 6, .int .u8 (s0.toNat : Int), .int .u8 (s1.toNat : Int), .int .u8 (s2.toNat : Int), .int .u8 (s3.toNat : Int), .int .u8 (d0.toNat : Int), .int .u8 (d1.toNat : Int), .int .u8 (d2.toNat : Int), .int .u8 (d3.toNat : Int), .slice A N c] _ _ p78
  have hkf : Kp w (W.setRow (b4 + 1) #[.int .u16 7, .bool false, .int .i64 0, .int .u8 64, .int .u8 6, .int .u8 (s0.toNat : Int), .int .u8 (s1.toNat : Int), .int .u8 (s2.toNat : Int), .int .u8 (s3.toNat : Int), .int .u8 (d0.toNat : Int), .int .u8 (d1.toNat : Int), .int .u8 (d2.toNat : Int), .int .u8 (d3.toNat : Int), .slice A N c]) := ((HK5.out.trans HKQ.out).grown hgb (by rw [HB4.out]; omega)).setRow (by rw [HB4.out]; omega)
  have hrf := RdV.setRow (cs := #[.int .u16 7, .bool false, .int .i64 0, .int .u8 64, .int .u8 6, .int .u8 (s0.toNat : Int), .int .u8 (s1.toNat : Int), .int .u8 (s2.toNat : Int), .int .u8 (s3.toNat : Int), .int .u8 (d0.toNat : Int), .int .u8 (d1.toNat : Int), .int .u8 (d2.toNat : Int), .int .u8 (d3.toNat : Int), .slice A N c]) (rd_gb (Rd.keep HRD6.out HKQ.out) hgb hg3) (b := b4 + 1) (by omega)
  have hok := HOK3.out
  go_wp2
  refine bodyPost_ret (v := .tuple #[.slice (some ⟨g, 0, none⟩) 0 cap, .agg #[.int .u16 7, .bool false, .int .i64 0, .int .u8 64, .int .u8 6, .int .u8 (s0.toNat : Int), .int .u8 (s1.toNat : Int), .int .u8 (s2.toNat : Int), .int .u8 (s3.toNat : Int), .int .u8 (d0.toNat : Int), .int .u8 (d1.toNat : Int), .int .u8 (d2.toNat : Int), .int .u8 (d3.toNat : Int), .slice A N c], .bool true, .int .i64 0]) (results_cell4 (fn := Try.f16) szPkt uPkt q8 rfl Try.results16 rfl rfl rfl rfl) rfl ⟨hkf, g, cap, A, c, rfl, rd_lo hrf (by rw [HB4.out]; omega), hok⟩
end Go.Proofs.Ytnoobifdaldfiaa.Fr
