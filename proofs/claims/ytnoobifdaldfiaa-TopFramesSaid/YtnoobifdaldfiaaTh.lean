/-
  The regions of frag.Add that draw their order, at a hole in a row of one's own.
-/
import Derived.Test.YtnoobifdaldfiaaTg
namespace Go.Proofs.Ytnoobifdaldfiaa.Fr
open Go.RowKit
set_option maxRecDepth 100000

def St.ptx (lo : Nat) (off : Int) (n : Nat) (l : List UInt8) : St := ⟨fun v W => ∃ A c, v = .agg #[.int .i64 off, .slice A n c] ∧ Rd W lo A n l ∧ SlOk A n c, fun _ _ _ ⟨A, c, h1, h2, h3⟩ k => ⟨A, c, h1, h2.keep k, h3⟩⟩
theorem orow_setRow {w : World} {lo n k b : Nat} {e : TypeId} {v : Value} {xs : List Value} {cs : Array Value} (h : w.ownsRow lo e k v n xs) (hb : b < lo) : (w.setRow b cs).ownsRow lo e k v n xs := by
  obtain ⟨h1, h2⟩ := h
  refine ⟨h1, ?_⟩
  rcases h2 with h | ⟨g, cap, cur, e1, h3, h4, h5⟩
  · exact .inl h
  · exact .inr ⟨g, cap, cur, e1, h3, (setRow_other w b g cs (by omega)).trans h4, h5⟩
theorem PartV.setRow {w : World} {lo b : Nat} {off : Int} {l : List UInt8} {v : Value} {cs : Array Value} (h : PartV w lo off l v) (hb : b < lo) : PartV (w.setRow b cs) lo off l v := by
  obtain ⟨gp, capp, A, c, h1, h2, h3, h4⟩ := h
  exact ⟨gp, capp, A, c, h1, orow_setRow h2 hb, RdV.setRow h3 hb, h4⟩
def stR (s : St) : StR Keep.kp := ⟨s.p, fun v W W' h k => s.st v W W' h k⟩
def St.pvx (lo : Nat) (off : Int) (l : List UInt8) : St := ⟨fun v W => PartV W lo off l v, fun _ _ _ h k => h.keep k⟩

noncomputable def ad17b (g b4 : Nat) (s0 s1 s2 s3 d0 d1 d2 d3 : UInt8) (A : Option Addr) (n c : Nat) : Nat → St := fun i => ([St.val (.pointer (some ⟨g, 0, none⟩)),
  St.val (.pointer (some ⟨g, 0, none⟩)),
  St.val (.agg #[.int .u8 (s0.toNat : Int), .int .u8 (s1.toNat : Int), .int .u8 (s2.toNat : Int), .int .u8 (s3.toNat : Int), .int .u8 (d0.toNat : Int), .int .u8 (d1.toNat : Int), .int .u8 (d2.toNat : Int), .int .u8 (d3.toNat : Int), .int .u8 6, .int .u16 7, .int .u8 64, .int .u64 0, .int .i64 (-1), .slice none 0 0]),
  St.val (.agg #[.int .u16 7, .bool false, .int .i64 176, .int .u8 64, .int .u8 6, .int .u8 (s0.toNat : Int), .int .u8 (s1.toNat : Int), .int .u8 (s2.toNat : Int), .int .u8 (s3.toNat : Int), .int .u8 (d0.toNat : Int), .int .u8 (d1.toNat : Int), .int .u8 (d2.toNat : Int), .int .u8 (d3.toNat : Int), .slice A n c]),
  St.val (.int .i64 (176 + (n : Int))),
  St.val (.bool true),
  St.val (.bool false)] : List St).getD i St.any
noncomputable def ad21b (lo g b4 : Nat) (A : Option Addr) (n c : Nat) (l : List UInt8) : Nat → StR Keep.kp := fun i => ([StR.val (.pointer (some ⟨g, 0, none⟩)),
  StR.val (.pointer (some ⟨g, 0, none⟩)),
  StR.val (.pointer (some ⟨g, 0, none⟩)),
  StR.val (.pointer (some ⟨g, 13, none⟩)),
  StR.val (.slice none 0 0),
  StR.val (.pointer (some ⟨b4, 2, none⟩)),
  StR.val (.int .i64 176),
  StR.val (.pointer (some ⟨b4, 13, none⟩)),
  StR.val (.slice A n c),
  stR (St.cl lo n l),
  stR (St.ptx lo 176 n l),
  stR (St.pvx lo 176 l),
  StR.val (.pointer (some ⟨g, 0, none⟩)),
  StR.val (.pointer (some ⟨g, 13, none⟩))] : List (StR Keep.kp)).getD i StR.any
theorem own_row {w : World} {lo g cap : Nat} {e : TypeId} {xs : List Value} (h : w.ownsRow lo e 14 (.slice (some ⟨g, 0, none⟩) 1 cap) 1 xs) : lo ≤ g ∧ xs.length = 14 ∧ 1 ≤ cap ∧ cap ≤ maxLen ∧ ∃ cur : Array Value, w.heap[g]? = some (.cells cur e (0, 0)) ∧ cur.size = cap * 14 ∧ cur.toList.take 14 = xs := by
  obtain ⟨h1, ⟨h2, _⟩ | ⟨g', cap', cur, hv, hg, hh, hn, hc, hs, hx⟩⟩ := h
  · cases h2
  · injection hv with ha _ hc'
    injection ha with ha
    injection ha with ha
    subst ha
    subst hc'
    exact ⟨hg, by simpa using h1, hn, hc, cur, hh, hs, by simpa using hx⟩

set_option maxHeartbeats 4000000 in
theorem add_b (w : World) (s0 s1 s2 s3 d0 d1 d2 d3 : UInt8) (A : Option Addr) (n c : Nat) (l : List UInt8) (hA : Rd w 0 A n l) (hn : 0 < n) (hn2 : n ≤ 4) :
    Calls Try.prog 16 #[.slice none 0 0, .agg #[.int .u16 7, .bool false, .int .i64 176, .int .u8 64, .int .u8 6, .int .u8 (s0.toNat : Int), .int .u8 (s1.toNat : Int), .int .u8 (s2.toNat : Int), .int .u8 (s3.toNat : Int), .int .u8 (d0.toNat : Int), .int .u8 (d1.toNat : Int), .int .u8 (d2.toNat : Int), .int .u8 (d3.toNat : Int), .slice A n c], .int .u64 0] w fun e w' => Kp w w' ∧ ∃ v, e = .returned (.tuple #[v, .agg #[.int .u16 0, .bool false, .int .i64 0, .int .u8 0, .int .u8 0, .int .u8 0, .int .u8 0, .int .u8 0, .int .u8 0, .int .u8 0, .int .u8 0, .int .u8 0, .int .u8 0, .slice none 0 0], .bool false, .int .i64 0]) ∧
      HoleV w' w.heap.size s0 s1 s2 s3 d0 d1 d2 d3 (176 + (n : Int)) 176 l v := by
  obtain ⟨r4, r7⟩ := row_alloc2 w (.cells #[.int .u16 7, .bool false, .int .i64 176, .int .u8 64, .int .u8 6, .int .u8 (s0.toNat : Int), .int .u8 (s1.toNat : Int), .int .u8 (s2.toNat : Int), .int .u8 (s3.toNat : Int), .int .u8 (d0.toNat : Int), .int .u8 (d1.toNat : Int), .int .u8 (d2.toNat : Int), .int .u8 (d3.toNat : Int), .slice A n c] 38) (.cells #[.int .u16 0, .bool false, .int .i64 0, .int .u8 0, .int .u8 0, .int .u8 0, .int .u8 0, .int .u8 0, .int .u8 0, .int .u8 0, .int .u8 0, .int .u8 0, .int .u8 0, .slice none 0 0] 38)
  have kp : Kp w ((w.alloc (.cells #[.int .u16 7, .bool false, .int .i64 176, .int .u8 64, .int .u8 6, .int .u8 (s0.toNat : Int), .int .u8 (s1.toNat : Int), .int .u8 (s2.toNat : Int), .int .u8 (s3.toNat : Int), .int .u8 (d0.toNat : Int), .int .u8 (d1.toNat : Int), .int .u8 (d2.toNat : Int), .int .u8 (d3.toNat : Int), .slice A n c] 38)).alloc (.cells #[.int .u16 0, .bool false, .int .i64 0, .int .u8 0, .int .u8 0, .int .u8 0, .int .u8 0, .int .u8 0, .int .u8 0, .int .u8 0, .int .u8 0, .int .u8 0, .int .u8 0, .slice none 0 0] 38)) := ((Kp.refl w).alloc _).alloc _
  have HA := Lib.hid hA
  have HLN := Lib.hid hA.len
  have R4 := Lib.hid r4
  have R7 := Lib.hid r7
  have HKP := Lib.hid kp
  clear hA r4 r7 kp
  have i1 : ¬ (1000 : Int) < 176 + (n : Int) := by omega
  have i2 : ¬ (n : Int) = 0 := by omega
  have i3 : ((n : Int) == 0) = false := by simpa using i2
  have hmf : ∀ (fn : Fn) (first cap : Array Value) (w : World), (Instr.makeFunc fn first cap).run Try.prog w = .ok (.func fn first cap) w := fun _ _ _ _ => rfl
  go_enter Try.func16, Try.ntmps16
  go_wp2_with fail
  refine (age_nil _).mono ?_
  rintro e w1 ⟨rfl, hk1⟩
  have q4 := (hk1.block _ (Array.getElem?_eq_some_iff.1 R4.out).1).trans R4.out
  have q7 := (hk1.block _ (Array.getElem?_eq_some_iff.1 R7.out).1).trans R7.out
  have HK1 := Lib.hid (HKP.out.trans hk1)
  have hs1 : w.heap.size + 1 < w1.heap.size := (Array.getElem?_eq_some_iff.1 q7).1
  obtain ⟨b4, hb4⟩ : ∃ b, w.heap.size = b := ⟨_, rfl⟩
  have HB4 := Lib.hid hb4
  rw [hb4] at q4 q7 hs1 ⊢
  clear hb4
  have cells4 : ∀ W : World, W.heap[b4]? = some (.cells #[.int .u16 7, .bool false, .int .i64 176, .int .u8 64, .int .u8 6, .int .u8 (s0.toNat : Int), .int .u8 (s1.toNat : Int), .int .u8 (s2.toNat : Int), .int .u8 (s3.toNat : Int), .int .u8 (d0.toNat : Int), .int .u8 (d1.toNat : Int), .int .u8 (d2.toNat : Int), .int .u8 (d3.toNat : Int), .slice A n c] 38 (0, 0)) → ∀ j, W.cell? ⟨b4, j, none⟩ = (#[.int .u16 7, .bool false, .int .i64 176, .int .u8 64, .int .u8 6, .int .u8 (s0.toNat : Int), .int .u8 (s1.toNat : Int), .int .u8 (s2.toNat : Int), .int .u8 (s3.toNat : Int), .int .u8 (d0.toNat : Int), .int .u8 (d1.toNat : Int), .int .u8 (d2.toNat : Int), .int .u8 (d3.toNat : Int), .slice A n c] : Array Value)[j]? := fun W h j => cell_of_row W b4 j _ _ _ h
  have z0 : w1.cell? ⟨b4, 0, none⟩ = some (.int .u16 7) := (cells4 w1 q4 0).trans rfl
  have z1 : w1.cell? ⟨b4, 1, none⟩ = some (.bool false) := (cells4 w1 q4 1).trans rfl
  have z2 : w1.cell? ⟨b4, 2, none⟩ = some (.int .i64 176) := (cells4 w1 q4 2).trans rfl
  have z3 : w1.cell? ⟨b4, 3, none⟩ = some (.int .u8 64) := (cells4 w1 q4 3).trans rfl
  have z4 : w1.cell? ⟨b4, 4, none⟩ = some (.int .u8 6) := (cells4 w1 q4 4).trans rfl
  have z5 : w1.cell? ⟨b4, 5, none⟩ = some (.int .u8 (s0.toNat : Int)) := (cells4 w1 q4 5).trans rfl
  have z6 : w1.cell? ⟨b4, 6, none⟩ = some (.int .u8 (s1.toNat : Int)) := (cells4 w1 q4 6).trans rfl
  have z7 : w1.cell? ⟨b4, 7, none⟩ = some (.int .u8 (s2.toNat : Int)) := (cells4 w1 q4 7).trans rfl
  have z8 : w1.cell? ⟨b4, 8, none⟩ = some (.int .u8 (s3.toNat : Int)) := (cells4 w1 q4 8).trans rfl
  have z9 : w1.cell? ⟨b4, 9, none⟩ = some (.int .u8 (d0.toNat : Int)) := (cells4 w1 q4 9).trans rfl
  have z10 : w1.cell? ⟨b4, 10, none⟩ = some (.int .u8 (d1.toNat : Int)) := (cells4 w1 q4 10).trans rfl
  have z11 : w1.cell? ⟨b4, 11, none⟩ = some (.int .u8 (d2.toNat : Int)) := (cells4 w1 q4 11).trans rfl
  have z12 : w1.cell? ⟨b4, 12, none⟩ = some (.int .u8 (d3.toNat : Int)) := (cells4 w1 q4 12).trans rfl
  have z13 : w1.cell? ⟨b4, 13, none⟩ = some (.slice A n c) := (cells4 w1 q4 13).trans rfl
  have Q4 := Lib.hid q4
  have Q7 := Lib.hid q7
  clear q4 q7 hk1 HKP R4 R7 cells4
  go_wp2_with (first
    | (go_at_call 34; refine (idxH_nil _ _).mono ?_; rintro e w1 ⟨rfl, rfl⟩)
    | (at_builtin; go_loud (refine lapp_hole rfl (.tmp 89) (.tmp 102) s0 s1 s2 s3 d0 d1 d2 d3 (-1) none 0 0 (b4 + 2) rfl rfl rfl (cells_lit _ _ _ _ _ (by first | rfl | simp)) (by simp <;> omega) ?_; intro g capq wq ownq kq hgq)))
  have hkq : Kp w1 wq := ((Kp.refl w1).alloc _).trans kq
  have HKQ := Lib.hid (HK1.out.trans hkq)
  have p4 := (hkq.block _ (Array.getElem?_eq_some_iff.1 Q4.out).1).trans Q4.out
  have p7 := (hkq.block _ (Array.getElem?_eq_some_iff.1 Q7.out).1).trans Q7.out
  obtain ⟨hlg, _, hc1, hcm, cur, hrow, hcs, htk⟩ := own_row ownq
  have OWNQ := Lib.hid ownq
  have P4 := Lib.hid p4
  have P7 := Lib.hid p7
  have HROW := Lib.hid hrow
  have hbq : wq.heap.size ≥ g + 1 := (Array.getElem?_eq_some_iff.1 hrow).1
  clear hkq kq ownq z0 z1 z2 z3 z4 z5 z6 z7 z8 z9 z10 z11 z12 z13 p4 p7 Q4 Q7 HK1 hrow
  have KC : ∀ W, Kp wq.drew W → W.heap[g]? = some (.cells cur 90 (0, 0)) ∧ W.heap[b4]? = some (.cells #[.int .u16 7, .bool false, .int .i64 176, .int .u8 64, .int .u8 6, .int .u8 (s0.toNat : Int), .int .u8 (s1.toNat : Int), .int .u8 (s2.toNat : Int), .int .u8 (s3.toNat : Int), .int .u8 (d0.toNat : Int), .int .u8 (d1.toNat : Int), .int .u8 (d2.toNat : Int), .int .u8 (d3.toNat : Int), .slice A n c] 38 (0, 0)) := fun W hW => by
    have hk : Kp wq W := ((Kp.refl wq).drew).trans hW
    exact ⟨(hk.block _ (Array.getElem?_eq_some_iff.1 HROW.out).1).trans HROW.out, (hk.block _ (Array.getElem?_eq_some_iff.1 P4.out).1).trans P4.out⟩
  have HFIT : Hid (∀ W, Calls Try.prog 37 #[.agg #[.int .u8 (s0.toNat : Int), .int .u8 (s1.toNat : Int), .int .u8 (s2.toNat : Int), .int .u8 (s3.toNat : Int), .int .u8 (d0.toNat : Int), .int .u8 (d1.toNat : Int), .int .u8 (d2.toNat : Int), .int .u8 (d3.toNat : Int), .int .u8 6, .int .u16 7, .int .u8 64, .int .u64 0, .int .i64 (-1), .slice none 0 0], .agg #[.int .u16 7, .bool false, .int .i64 176, .int .u8 64, .int .u8 6, .int .u8 (s0.toNat : Int), .int .u8 (s1.toNat : Int), .int .u8 (s2.toNat : Int), .int .u8 (s3.toNat : Int), .int .u8 (d0.toNat : Int), .int .u8 (d1.toNat : Int), .int .u8 (d2.toNat : Int), .int .u8 (d3.toNat : Int), .slice A n c], .int .i64 (176 + (n : Int))] W fun e w' => e = .returned (.bool true) ∧ Kp W w') := Lib.hid fun W => fits_new W s0 s1 s2 s3 d0 d1 d2 d3 176 (176 + (n : Int)) (.slice A n c)
  have HCS := Lib.hid hcs
  clear hcs
  refine wp_region_steps (by kernel_rfl) 7 (ad17b g b4 s0 s1 s2 s3 d0 d1 d2 d3 A n c) [107, 108, 109, 110, 111, 112, 113] (by kernel_rfl) (by kernel_rfl) ⟨?_, ?_, ?_, ?_, ?_, ?_, ?_, trivial⟩ ?_
  · intro a W hW hO hφ K hK
    have q12 : a.tmps.getD 12 undef = (.pointer (some ⟨g, 0, none⟩)) := hO 12 (by kernel_rfl)
    have r12 := q12
    rw [Array.getD_eq_getD_getElem?] at r12
    clear hO hφ
    clear KC HFIT
    go_simp
    exact hK _ _ (Kp.refl _) rfl
  · intro a W hW hO hφ K hK
    have q107 : a.tmps.getD 107 undef = (.pointer (some ⟨g, 0, none⟩)) := hφ ⟨0, .data⟩ (by simp) rfl
    have r107 := q107
    rw [Array.getD_eq_getD_getElem?] at r107
    clear hO hφ
    clear KC HFIT
    go_simp
    exact hK _ _ (Kp.refl _) rfl
  · intro a W hW hO hφ K hK
    have q108 : a.tmps.getD 108 undef = (.pointer (some ⟨g, 0, none⟩)) := hφ ⟨1, .data⟩ (by simp) rfl
    have r108 := q108
    rw [Array.getD_eq_getD_getElem?] at r108
    clear hO hφ
    obtain ⟨z0, z1⟩ := KC W hW
    clear KC HFIT
    refine old_part (.tmp 108) 90 _ [.int .u8 (s0.toNat : Int), .int .u8 (s1.toNat : Int), .int .u8 (s2.toNat : Int), .int .u8 (s3.toNat : Int), .int .u8 (d0.toNat : Int), .int .u8 (d1.toNat : Int), .int .u8 (d2.toNat : Int), .int .u8 (d3.toNat : Int), .int .u8 6, .int .u16 7, .int .u8 64, .int .u64 0, .int .i64 (-1), .slice none 0 0] rfl q108 z0 htk Try.underlying90 rfl szHole ?_
    exact hK _ _ (Kp.refl _) rfl
  · intro a W hW hO hφ K hK
    have q4 : a.tmps.getD 4 undef = (.pointer (some ⟨b4, 0, none⟩)) := hO 4 (by kernel_rfl)
    have r4 := q4
    rw [Array.getD_eq_getD_getElem?] at r4
    clear hO hφ
    obtain ⟨z0, z1⟩ := KC W hW
    clear KC HFIT
    refine old_part (.tmp 4) 38 _ [.int .u16 7, .bool false, .int .i64 176, .int .u8 64, .int .u8 6, .int .u8 (s0.toNat : Int), .int .u8 (s1.toNat : Int), .int .u8 (s2.toNat : Int), .int .u8 (s3.toNat : Int), .int .u8 (d0.toNat : Int), .int .u8 (d1.toNat : Int), .int .u8 (d2.toNat : Int), .int .u8 (d3.toNat : Int), .slice A n c] rfl q4 z1 rfl Try.underlying38 rfl szPkt ?_
    exact hK _ _ (Kp.refl _) rfl
  · intro a W hW hO hφ K hK
    have q10 : a.tmps.getD 10 undef = (.int .i64 (176 + (n : Int))) := hO 10 (by kernel_rfl)
    have r10 := q10
    rw [Array.getD_eq_getD_getElem?] at r10
    clear hO hφ
    clear KC HFIT
    go_simp
    exact hK _ _ (Kp.refl _) rfl
  · intro a W hW hO hφ K hK
    have q109 : a.tmps.getD 109 undef = (.agg #[.int .u8 (s0.toNat : Int), .int .u8 (s1.toNat : Int), .int .u8 (s2.toNat : Int), .int .u8 (s3.toNat : Int), .int .u8 (d0.toNat : Int), .int .u8 (d1.toNat : Int), .int .u8 (d2.toNat : Int), .int .u8 (d3.toNat : Int), .int .u8 6, .int .u16 7, .int .u8 64, .int .u64 0, .int .i64 (-1), .slice none 0 0]) := hφ ⟨2, .data⟩ (by simp) rfl
    have q110 : a.tmps.getD 110 undef = (.agg #[.int .u16 7, .bool false, .int .i64 176, .int .u8 64, .int .u8 6, .int .u8 (s0.toNat : Int), .int .u8 (s1.toNat : Int), .int .u8 (s2.toNat : Int), .int .u8 (s3.toNat : Int), .int .u8 (d0.toNat : Int), .int .u8 (d1.toNat : Int), .int .u8 (d2.toNat : Int), .int .u8 (d3.toNat : Int), .slice A n c]) := hφ ⟨3, .data⟩ (by simp) rfl
    have q111 : a.tmps.getD 111 undef = (.int .i64 (176 + (n : Int))) := hφ ⟨4, .data⟩ (by simp) rfl
    have r109 := q109
    rw [Array.getD_eq_getD_getElem?] at r109
    have r110 := q110
    rw [Array.getD_eq_getD_getElem?] at r110
    have r111 := q111
    rw [Array.getD_eq_getD_getElem?] at r111
    clear hO hφ
    clear KC
    have hf := HFIT.out W
    clear HFIT
    go_simp
    go_at_call 37
    refine hf.mono ?_
    rintro e w' ⟨rfl, hk⟩
    exact hK _ _ hk rfl
  · intro a W hW hO hφ K hK
    have q112 : a.tmps.getD 112 undef = (.bool true) := hφ ⟨5, .data⟩ (by simp) rfl
    have r112 := q112
    rw [Array.getD_eq_getD_getElem?] at r112
    clear hO hφ
    clear KC HFIT
    go_simp
    exact hK _ _ (Kp.refl _) rfl
  intro f W hW hφ
  have v0 : f 0 = (.pointer (some ⟨g, 0, none⟩)) := hφ 0 (by omega)
  have v1 : f 1 = (.pointer (some ⟨g, 0, none⟩)) := hφ 1 (by omega)
  have v2 : f 2 = (.agg #[.int .u8 (s0.toNat : Int), .int .u8 (s1.toNat : Int), .int .u8 (s2.toNat : Int), .int .u8 (s3.toNat : Int), .int .u8 (d0.toNat : Int), .int .u8 (d1.toNat : Int), .int .u8 (d2.toNat : Int), .int .u8 (d3.toNat : Int), .int .u8 6, .int .u16 7, .int .u8 64, .int .u64 0, .int .i64 (-1), .slice none 0 0]) := hφ 2 (by omega)
  have v3 : f 3 = (.agg #[.int .u16 7, .bool false, .int .i64 176, .int .u8 64, .int .u8 6, .int .u8 (s0.toNat : Int), .int .u8 (s1.toNat : Int), .int .u8 (s2.toNat : Int), .int .u8 (s3.toNat : Int), .int .u8 (d0.toNat : Int), .int .u8 (d1.toNat : Int), .int .u8 (d2.toNat : Int), .int .u8 (d3.toNat : Int), .slice A n c]) := hφ 3 (by omega)
  have v4 : f 4 = (.int .i64 (176 + (n : Int))) := hφ 4 (by omega)
  have v5 : f 5 = (.bool true) := hφ 5 (by omega)
  have v6 : f 6 = (.bool false) := hφ 6 (by omega)
  clear hφ
  simp only [putAll, List.setIfInBounds_toArray, List.set_cons_succ, List.set_cons_zero, v0, v1, v2, v3, v4, v5, v6]
  clear v0 v1 v2 v3 v4 v5 v6
  refine wpAny_done (by kernel_rfl) ?_ _
  have hkW : Kp wq W := ((Kp.refl wq).drew).trans hW
  clear KC HFIT
  have HKW := Lib.hid (HKQ.out.trans hkW)
  have P4' := Lib.hid ((hkW.block _ (Array.getElem?_eq_some_iff.1 P4.out).1).trans P4.out)
  have P7' := Lib.hid ((hkW.block _ (Array.getElem?_eq_some_iff.1 P7.out).1).trans P7.out)
  have own2 := orow_keep OWNQ.out hkW
  have y1 : W.cell? ⟨b4, 1, none⟩ = some (.bool false) := (cell_of_row W b4 1 _ _ _ P4'.out).trans rfl
  have y12 : W.cell? ⟨g, 12, none⟩ = some (.int .i64 (-1)) := (own2.cellAt 12 (by omega)).trans rfl
  have fy12 : W.frozen? ⟨g, 12, none⟩ = false := own2.frozenAt 12
  have hgs : g < W.heap.size := Nat.lt_of_lt_of_le hbq hkW.size
  go_wp2
  have own3 := (own2.stored 12 (.int .i64 (176 + (n : Int)))).1
  have p4' := (Below.heap_setCell W ⟨g, 12, none⟩ (.int .i64 (176 + (n : Int))) b4 (by show b4 ≠ g; omega)).trans P4'.out
  have p7' := (Below.heap_setCell W ⟨g, 12, none⟩ (.int .i64 (176 + (n : Int))) (b4 + 1) (by show b4 + 1 ≠ g; omega)).trans P7'.out
  have hkw3 : Kp w (W.setCell ⟨g, 12, none⟩ (.int .i64 (176 + (n : Int)))) := HKW.out.setCell (p := ⟨g, 12, none⟩) (by show w.heap.size ≤ g; rw [HB4.out]; omega) _
  have hgs3 : g < (W.setCell ⟨g, 12, none⟩ (.int .i64 (176 + (n : Int)))).heap.size := by simpa using hgs
  obtain ⟨w3, hw3⟩ : ∃ w3, W.setCell ⟨g, 12, none⟩ (.int .i64 (176 + (n : Int))) = w3 := ⟨_, rfl⟩
  rw [hw3] at own3 p4' p7' hkw3 hgs3 ⊢
  have OWN3 := Lib.hid own3
  have P4 := Lib.hid p4'
  have P7 := Lib.hid p7'
  have HK3 := Lib.hid hkw3
  clear hw3 own3 p4' p7' hkw3 own2 y1 y12 fy12 hgs HKW P4' P7' hkW hW HROW OWNQ HKQ htk hbq HCS
  clear W
  obtain ⟨lo, hlo⟩ : ∃ x, w3.heap.size = x := ⟨_, rfl⟩
  rw [hlo] at hgs3
  have HLO := Lib.hid hlo
  clear hlo
  have hn0 := hn
  have hn1 : n ≤ 1048576 := by omega
  have KC : ∀ W, Kp w3.drew W → W.cell? ⟨g, 13, none⟩ = some (.slice none 0 0) ∧ W.cell? ⟨b4, 2, none⟩ = some (.int .i64 176) ∧ W.cell? ⟨b4, 13, none⟩ = some (.slice A n c) ∧ Rd W 0 A n l ∧ lo ≤ W.heap.size := fun W hW => by
    have hk : Kp w3 W := ((Kp.refl w3).drew).trans hW
    have q4 := (hk.block _ (Array.getElem?_eq_some_iff.1 P4.out).1).trans P4.out
    exact ⟨((orow_keep OWN3.out hk).cellAt 13 (by omega)).trans rfl, (cell_of_row W b4 2 _ _ _ q4).trans rfl, (cell_of_row W b4 13 _ _ _ q4).trans rfl, HA.out.keep (HK3.out.trans hk), by rw [← HLO.out]; exact hk.size⟩
  have HLAY : Hid (∀ W, Kp w3.drew W → ∀ (A2 : Option Addr) (c2 : Nat), Rd W lo A2 n l → SlOk A2 n c2 → Calls Try.prog 39 #[.slice none 0 0, .agg #[.int .i64 176, .slice A2 n c2]] W fun e w' => Kp W w' ∧ ∃ v, e = .returned v ∧ PartV w' lo 176 l v) := Lib.hid fun W hW A2 c2 h1 h2 => lay_nil W lo 176 A2 n c2 l h1 h2 (by rw [← HLO.out]; exact (((Kp.refl w3).drew).trans hW).size)
  refine wp_region_stepsR (by kernel_rfl) 14 (ad21b lo g b4 A n c l) [127, 128, 129, 130, 131, 132, 133, 134, 135, 136, 137, 138, 139, 140] (by kernel_rfl) (by kernel_rfl) ⟨?_, ?_, ?_, ?_, ?_, ?_, ?_, ?_, ?_, ?_, ?_, ?_, ?_, ?_, trivial⟩ ?_
  · refine stepR_free rfl ?_
    intro a W hW hO hφ K hK
    have q12 : a.tmps.getD 12 undef = (.pointer (some ⟨g, 0, none⟩)) := hO 12 (by kernel_rfl)
    have r12 := q12
    rw [Array.getD_eq_getD_getElem?] at r12
    clear hO hφ
    clear KC HLAY
    go_simp
    exact hK _ _ (Kp.refl _) rfl
  · refine stepR_free rfl ?_
    intro a W hW hO hφ K hK
    have q12 : a.tmps.getD 12 undef = (.pointer (some ⟨g, 0, none⟩)) := hO 12 (by kernel_rfl)
    have r12 := q12
    rw [Array.getD_eq_getD_getElem?] at r12
    clear hO hφ
    clear KC HLAY
    go_simp
    exact hK _ _ (Kp.refl _) rfl
  · refine stepR_free rfl ?_
    intro a W hW hO hφ K hK
    have q128 : a.tmps.getD 128 undef = (.pointer (some ⟨g, 0, none⟩)) := hφ ⟨1, .data⟩ (by simp) rfl
    have r128 := q128
    rw [Array.getD_eq_getD_getElem?] at r128
    clear hO hφ
    clear KC HLAY
    go_simp
    exact hK _ _ (Kp.refl _) rfl
  · refine stepR_free rfl ?_
    intro a W hW hO hφ K hK
    have q129 : a.tmps.getD 129 undef = (.pointer (some ⟨g, 0, none⟩)) := hφ ⟨2, .data⟩ (by simp) rfl
    have r129 := q129
    rw [Array.getD_eq_getD_getElem?] at r129
    clear hO hφ
    clear KC HLAY
    go_simp
    exact hK _ _ (Kp.refl _) rfl
  · refine stepR_free rfl ?_
    intro a W hW hO hφ K hK
    have q130 : a.tmps.getD 130 undef = (.pointer (some ⟨g, 13, none⟩)) := hφ ⟨3, .data⟩ (by simp) rfl
    have r130 := q130
    rw [Array.getD_eq_getD_getElem?] at r130
    clear hO hφ
    obtain ⟨z0, z1, z2, z3, z4⟩ := KC W hW
    clear KC HLAY
    go_simp
    exact hK _ _ (Kp.refl _) rfl
  · refine stepR_free rfl ?_
    intro a W hW hO hφ K hK
    have q4 : a.tmps.getD 4 undef = (.pointer (some ⟨b4, 0, none⟩)) := hO 4 (by kernel_rfl)
    have r4 := q4
    rw [Array.getD_eq_getD_getElem?] at r4
    clear hO hφ
    clear KC HLAY
    go_simp
    exact hK _ _ (Kp.refl _) rfl
  · refine stepR_free rfl ?_
    intro a W hW hO hφ K hK
    have q132 : a.tmps.getD 132 undef = (.pointer (some ⟨b4, 2, none⟩)) := hφ ⟨5, .data⟩ (by simp) rfl
    have r132 := q132
    rw [Array.getD_eq_getD_getElem?] at r132
    clear hO hφ
    obtain ⟨z0, z1, z2, z3, z4⟩ := KC W hW
    clear KC HLAY
    go_simp
    exact hK _ _ (Kp.refl _) rfl
  · refine stepR_free rfl ?_
    intro a W hW hO hφ K hK
    have q4 : a.tmps.getD 4 undef = (.pointer (some ⟨b4, 0, none⟩)) := hO 4 (by kernel_rfl)
    have r4 := q4
    rw [Array.getD_eq_getD_getElem?] at r4
    clear hO hφ
    clear KC HLAY
    go_simp
    exact hK _ _ (Kp.refl _) rfl
  · refine stepR_free rfl ?_
    intro a W hW hO hφ K hK
    have q134 : a.tmps.getD 134 undef = (.pointer (some ⟨b4, 13, none⟩)) := hφ ⟨7, .data⟩ (by simp) rfl
    have r134 := q134
    rw [Array.getD_eq_getD_getElem?] at r134
    clear hO hφ
    obtain ⟨z0, z1, z2, z3, z4⟩ := KC W hW
    clear KC HLAY
    go_simp
    exact hK _ _ (Kp.refl _) rfl
  · refine stepR_free rfl ?_
    intro a W hW hO hφ K hK
    have q135 : a.tmps.getD 135 undef = (.slice A n c) := hφ ⟨8, .data⟩ (by simp) rfl
    have r135 := q135
    rw [Array.getD_eq_getD_getElem?] at r135
    clear hO hφ
    obtain ⟨z0, z1, z2, z3, z4⟩ := KC W hW
    clear KC HLAY
    go_simp
    go_at_call 30
    refine (clone8_any _ _ _ _ _ _ z3 hn0 hn1).mono ?_
    rintro e w' ⟨hk, gd, cap', rfl, hrd, hok⟩
    exact hK _ _ hk ⟨_, _, rfl, rd_lo hrd z4, hok⟩
  · refine stepR_free rfl ?_
    intro a W hW hO hφ K hK
    have q133 : a.tmps.getD 133 undef = (.int .i64 176) := hφ ⟨6, .data⟩ (by simp) rfl
    have q136 : (stR (St.cl lo n l)).p (a.tmps.getD 136 undef) W := hφ ⟨9, .data⟩ (by simp) rfl
    have r133 := q133
    rw [Array.getD_eq_getD_getElem?] at r133
    clear hO hφ
    obtain ⟨A2, c2, q136', hrd, hok⟩ := q136
    have r136 := q136'
    rw [Array.getD_eq_getD_getElem?] at r136
    clear KC HLAY
    go_simp
    exact hK _ _ (Kp.refl _) ⟨A2, c2, rfl, hrd, hok⟩
  · refine stepR_free rfl ?_
    intro a W hW hO hφ K hK
    have q131 : a.tmps.getD 131 undef = (.slice none 0 0) := hφ ⟨4, .data⟩ (by simp) rfl
    have q137 : (stR (St.ptx lo 176 n l)).p (a.tmps.getD 137 undef) W := hφ ⟨10, .data⟩ (by simp) rfl
    have r131 := q131
    rw [Array.getD_eq_getD_getElem?] at r131
    clear hO hφ
    obtain ⟨A2, c2, q137', hrd, hok⟩ := q137
    have r137 := q137'
    rw [Array.getD_eq_getD_getElem?] at r137
    have hl9 := HLAY.out W hW A2 c2 hrd hok
    clear KC HLAY
    go_simp
    go_at_call 39
    refine hl9.mono ?_
    rintro e w' ⟨hk, v, rfl, hv⟩
    exact hK _ _ hk hv
  · refine stepR_free rfl ?_
    intro a W hW hO hφ K hK
    have q127 : a.tmps.getD 127 undef = (.pointer (some ⟨g, 0, none⟩)) := hφ ⟨0, .data⟩ (by simp) rfl
    have r127 := q127
    rw [Array.getD_eq_getD_getElem?] at r127
    clear hO hφ
    clear KC HLAY
    go_simp
    exact hK _ _ (Kp.refl _) rfl
  · refine stepR_free rfl ?_
    intro a W hW hO hφ K hK
    have q139 : a.tmps.getD 139 undef = (.pointer (some ⟨g, 0, none⟩)) := hφ ⟨12, .data⟩ (by simp) rfl
    have r139 := q139
    rw [Array.getD_eq_getD_getElem?] at r139
    clear hO hφ
    clear KC HLAY
    go_simp
    exact hK _ _ (Kp.refl _) rfl
  intro f W hW hφ
  have v0 : f 0 = (.pointer (some ⟨g, 0, none⟩)) := hφ 0 (by omega)
  have v1 : f 1 = (.pointer (some ⟨g, 0, none⟩)) := hφ 1 (by omega)
  have v2 : f 2 = (.pointer (some ⟨g, 0, none⟩)) := hφ 2 (by omega)
  have v3 : f 3 = (.pointer (some ⟨g, 13, none⟩)) := hφ 3 (by omega)
  have v4 : f 4 = (.slice none 0 0) := hφ 4 (by omega)
  have v5 : f 5 = (.pointer (some ⟨b4, 2, none⟩)) := hφ 5 (by omega)
  have v6 : f 6 = (.int .i64 176) := hφ 6 (by omega)
  have v7 : f 7 = (.pointer (some ⟨b4, 13, none⟩)) := hφ 7 (by omega)
  have v8 : f 8 = (.slice A n c) := hφ 8 (by omega)
  have v9 : (stR (St.cl lo n l)).p (f 9) W := hφ 9 (by omega)
  have v10 : (stR (St.ptx lo 176 n l)).p (f 10) W := hφ 10 (by omega)
  have v11 : (stR (St.pvx lo 176 l)).p (f 11) W := hφ 11 (by omega)
  have v12 : f 12 = (.pointer (some ⟨g, 0, none⟩)) := hφ 12 (by omega)
  have v13 : f 13 = (.pointer (some ⟨g, 13, none⟩)) := hφ 13 (by omega)
  clear hφ
  simp only [putAll, List.setIfInBounds_toArray, List.set_cons_succ, List.set_cons_zero, v0, v1, v2, v3, v4, v5, v6, v7, v8, v12, v13]
  clear v0 v1 v2 v3 v4 v5 v6 v7 v8 v12 v13
  have hkW : Kp w3 W := ((Kp.refl w3).drew).trans hW
  clear KC HLAY
  obtain ⟨gp, capp, A3, c3, hf, hpr, hrd3, hok3⟩ := v11
  rw [hf]
  have own4 := orow_keep OWN3.out hkW
  have y13 : W.cell? ⟨g, 13, none⟩ = some (.slice none 0 0) := (own4.cellAt 13 (by omega)).trans rfl
  have fy13 : W.frozen? ⟨g, 13, none⟩ = false := own4.frozenAt 13
  refine wpAny_ready (rs := [14]) (by kernel_rfl) (by simp) (AllReady.cons rfl (fun K' hK' => ?_) AllReady.nil)
  split
  case isFalse hx => exact (hx rfl).elim
  go_simp
  refine hK' _ _ ?_
  refine wpAny_done (by kernel_rfl) ?_ _
  have own5 := (own4.stored 13 (.slice (some ⟨gp, 0, none⟩) 1 capp)).1
  have hpv : PartV (W.setCell ⟨g, 13, none⟩ (.slice (some ⟨gp, 0, none⟩) 1 capp)) lo 176 l (.slice (some ⟨gp, 0, none⟩) 1 capp) := PartV.setCell ⟨gp, capp, A3, c3, rfl, by rw [hf] at hpr; exact hpr, hrd3, hok3⟩ (a := ⟨g, 13, none⟩) hgs3 _
  have p7 := (Below.heap_setCell W ⟨g, 13, none⟩ (.slice (some ⟨gp, 0, none⟩) 1 capp) (b4 + 1) (by show b4 + 1 ≠ g; omega)).trans ((hkW.block _ (Array.getElem?_eq_some_iff.1 P7.out).1).trans P7.out)
  have hk4 : Kp w (W.setCell ⟨g, 13, none⟩ (.slice (some ⟨gp, 0, none⟩) 1 capp)) := (HK3.out.trans hkW).setCell (p := ⟨g, 13, none⟩) (by show w.heap.size ≤ g; rw [HB4.out]; omega) _
  obtain ⟨w4, hw4⟩ : ∃ w4, W.setCell ⟨g, 13, none⟩ (.slice (some ⟨gp, 0, none⟩) 1 capp) = w4 := ⟨_, rfl⟩
  rw [hw4] at own5 hpv p7 hk4 ⊢
  obtain ⟨gq, capq2, A4, c4, he, hpr5, _, _⟩ := id hpv
  injection he with he1 _ he2
  injection he1 with he1
  injection he1 with he1
  subst he1
  subst he2
  have x13 : w4.cell? ⟨g, 13, none⟩ = some (.slice (some ⟨gp, 0, none⟩) 1 capp) := (own5.cellAt 13 (by omega)).trans rfl
  have xp0 : w4.cell? ⟨gp, 0, none⟩ = some (.int .i64 176) := (hpr5.cellAt 0 (by omega)).trans rfl
  have OWN5 := Lib.hid own5
  have HPV := Lib.hid hpv
  have P7' : Hid (w4.heap[b4 + 1]? = some (.cells #[.int .u16 0, .bool false, .int .i64 0, .int .u8 0, .int .u8 0, .int .u8 0, .int .u8 0, .int .u8 0, .int .u8 0, .int .u8 0, .int .u8 0, .int .u8 0, .int .u8 0, .slice none 0 0] 38 (0, 0))) := Lib.hid p7
  have HK4 := Lib.hid hk4
  clear hw4 own5 hpv p7 hk4 own4 hpr hrd3 hok3 hf hkW hW hK' y13 fy13 hpr5 P4 P7 HK3 OWN3
  go_wp2
  go_quiet (fail)
  go_wp2_with (refine lst_row (by rfl) (.tmp 7) (.tmp 173) _ rfl rfl rfl P7'.out szPkt rfl rfl rfl ?_)
  have q9 := setRow_heap w4 (b4 + 1) _ #[.int .u16 0, .bool false, .int .i64 0, .int .u8 0, .int .u8 0, .int .u8 0, .int .u8 0, .int .u8 0, .int .u8 0, .int .u8 0, .int .u8 0, .int .u8 0, .int .u8 0, .slice none 0 0] _ _ P7'.out
  have hne : g ≠ b4 + 1 := by omega
  refine bodyPost_ret (v := .tuple #[.slice (some ⟨g, 0, none⟩) 1 capq, .agg #[.int .u16 0, .bool false, .int .i64 0, .int .u8 0, .int .u8 0, .int .u8 0, .int .u8 0, .int .u8 0, .int .u8 0, .int .u8 0, .int .u8 0, .int .u8 0, .int .u8 0, .slice none 0 0], .bool false, .int .i64 0]) (results_cell4 (fn := Try.f16) szPkt uPkt q9 rfl Try.results16 rfl rfl rfl rfl) rfl ⟨?_, _, rfl, ?_⟩
  · exact (HK4.out.of_drawn _).setRow (by rw [HB4.out]; omega)
  · exact ⟨g, capq, _, rfl, orow_lo (orow_setRow (w := w4.drewN nq) OWN5.out (by omega)) (by rw [HB4.out]; omega), (PartV.setRow (w := w4.drewN nq) HPV.out (by omega)).low (by rw [HB4.out]; omega)⟩
end Go.Proofs.Ytnoobifdaldfiaa.Fr
