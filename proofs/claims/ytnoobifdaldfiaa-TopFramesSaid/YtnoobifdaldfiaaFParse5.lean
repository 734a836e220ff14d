/-
  The contract of ether.Parse: the frame of bytes, its body in new memory.
-/
import Derived.Test.YtnoobifdaldfiaaE5c
import Derived.Test.YtnoobifdaldfiaaSplit
import Derived.Deep.RegionLaw
namespace Go.Proofs.Ytnoobifdaldfiaa.Fr
open Go.RowKit
set_option maxRecDepth 100000


theorem split662 (d0 d1 d2 d3 d4 d5 s0 s1 s2 s3 s4 s5 x y : UInt8) (b : List UInt8) : Sp.split (d0 :: d1 :: d2 :: d3 :: d4 :: d5 :: s0 :: s1 :: s2 :: s3 :: s4 :: s5 :: x :: y :: b) [6, 6, 2] = ([[d0, d1, d2, d3, d4, d5], [s0, s1, s2, s3, s4, s5], [x, y], b], 0) := by
  have h1 : ¬ (((d0 :: d1 :: d2 :: d3 :: d4 :: d5 :: s0 :: s1 :: s2 :: s3 :: s4 :: s5 :: x :: y :: b).length : Nat) : Int) < 6 := by simp only [List.length_cons]; omega
  have h2 : ¬ (((s0 :: s1 :: s2 :: s3 :: s4 :: s5 :: x :: y :: b).length : Nat) : Int) < 6 := by simp only [List.length_cons]; omega
  have h3 : ¬ (((x :: y :: b).length : Nat) : Int) < 2 := by simp only [List.length_cons]; omega
  have e3 : Sp.split (x :: y :: b) [2] = ([[x, y], b], 0) := by
    rw [Sp.split, if_neg (by decide), if_neg h3]; rfl
  have e2 : Sp.split (s0 :: s1 :: s2 :: s3 :: s4 :: s5 :: x :: y :: b) [6, 2] = ([[s0, s1, s2, s3, s4, s5], [x, y], b], 0) := by
    rw [Sp.split, if_neg (by decide), if_neg h2]
    rw [show (s0 :: s1 :: s2 :: s3 :: s4 :: s5 :: x :: y :: b).drop (6 : Int).toNat = x :: y :: b from rfl, e3]; rfl
  rw [Sp.split, if_neg (by decide), if_neg h1]
  rw [show (d0 :: d1 :: d2 :: d3 :: d4 :: d5 :: s0 :: s1 :: s2 :: s3 :: s4 :: s5 :: x :: y :: b).drop (6 : Int).toNat = s0 :: s1 :: s2 :: s3 :: s4 :: s5 :: x :: y :: b from rfl, e2]; rfl
theorem split662_no (l : List UInt8) (h : l.length < 14) : Sp.split l [6, 6, 2] = ([], 6) := by
  simp only [Sp.split]
  by_cases h1 : (l.length : Int) < 6
  · simp [h1]
  · by_cases h2 : ((l.drop (6 : Int).toNat).length : Int) < 6
    · simp [h1] at h2 ⊢
      simp [h2]
    · have h3 : (((l.drop (6 : Int).toNat).drop (6 : Int).toNat).length : Int) < 2 := by simp; omega
      simp [h1] at h2 h3 ⊢
      simp [h3]

set_option maxHeartbeats 400000 in
theorem parse_long (w : World) (A : Option Addr) (n c : Nat) (h : 214 < n) (h2 : n ≤ 140737488351232) : Calls Try.prog 14 #[.slice A n c] w (FrameNo w 4) := by
  go_enter Try.func14, Try.ntmps14
  go_wp2
  refine bodyPost_ret (v := .tuple #[frame0, .int .i64 4]) (by simp [results, Try.results14, go_sem, frame0]) rfl ⟨(Kp.refl _).alloc _, rfl⟩

set_option maxHeartbeats 1000000 in
theorem parse_short (w : World) (A : Option Addr) (n c : Nat) (l : List UInt8) (hA : Rd w 0 A n l) (hok : SlOk A n c) (h : n < 14) : Calls Try.prog 14 #[.slice A n c] w (FrameNo w 6) := by
  have es := split662_no l (by rw [hA.len]; exact h)
  have ES := Lib.hid es
  clear es
  have HOK := Lib.hid hok
  clear hok
  go_enter Try.func14, Try.ntmps14
  go_wp2_with fail
  refine (split_any _ A n c l _ 3 3 [6, 6, 2] ?_ HOK.out (by omega) ?_ (by omega)).mono ?_
  · exact hA.keep (((Kp.refl _).alloc _).alloc _)
  · refine ⟨rfl, fun _ => ⟨_, 0, rfl, Nat.zero_le _, fun j u hu => ?_⟩⟩
    rw [show w.heap.size + 1 = (w.alloc (.cells #[.int .u8 0, .int .u8 0, .int .u8 0, .int .u8 0, .int .u8 0, .int .u8 0, .int .u8 0, .int .u8 0, .int .u8 0, .int .u8 0, .int .u8 0, .int .u8 0, .int .u16 0, .slice none 0 0] 45)).heap.size by simp, cell_new]
    simpa using hu
  rintro e w1 ⟨hk1, v, he, hcase⟩
  rw [ES.out] at he hcase
  rcases hcase with ⟨_, hv⟩ | ⟨h0, _⟩
  · subst hv
    subst he
    have hkw : Kp w w1 := (((Kp.refl w).alloc _).alloc _).trans hk1
    have hbk : w1.heap[w.heap.size]? = some (.cells #[.int .u8 0, .int .u8 0, .int .u8 0, .int .u8 0, .int .u8 0, .int .u8 0, .int .u8 0, .int .u8 0, .int .u8 0, .int .u8 0, .int .u8 0, .int .u8 0, .int .u16 0, .slice none 0 0] 45 (0, 0)) := by
      rw [hk1.block _ (by simp; omega)]
      rw [Below.heap_alloc _ _ _ (by simp)]
      exact heap_alloc_new w _
    have z0 : w1.cell? ⟨w.heap.size, 0, none⟩ = some (.int .u8 0) := (cell_of_row w1 _ 0 _ _ _ hbk).trans rfl
    have fz0 : w1.frozen? ⟨w.heap.size, 0, none⟩ = false := by simp [World.frozen?, hbk]
    have z1 : w1.cell? ⟨w.heap.size, 1, none⟩ = some (.int .u8 0) := (cell_of_row w1 _ 1 _ _ _ hbk).trans rfl
    have fz1 : w1.frozen? ⟨w.heap.size, 1, none⟩ = false := by simp [World.frozen?, hbk]
    have z2 : w1.cell? ⟨w.heap.size, 2, none⟩ = some (.int .u8 0) := (cell_of_row w1 _ 2 _ _ _ hbk).trans rfl
    have fz2 : w1.frozen? ⟨w.heap.size, 2, none⟩ = false := by simp [World.frozen?, hbk]
    have z3 : w1.cell? ⟨w.heap.size, 3, none⟩ = some (.int .u8 0) := (cell_of_row w1 _ 3 _ _ _ hbk).trans rfl
    have fz3 : w1.frozen? ⟨w.heap.size, 3, none⟩ = false := by simp [World.frozen?, hbk]
    have z4 : w1.cell? ⟨w.heap.size, 4, none⟩ = some (.int .u8 0) := (cell_of_row w1 _ 4 _ _ _ hbk).trans rfl
    have fz4 : w1.frozen? ⟨w.heap.size, 4, none⟩ = false := by simp [World.frozen?, hbk]
    have z5 : w1.cell? ⟨w.heap.size, 5, none⟩ = some (.int .u8 0) := (cell_of_row w1 _ 5 _ _ _ hbk).trans rfl
    have fz5 : w1.frozen? ⟨w.heap.size, 5, none⟩ = false := by simp [World.frozen?, hbk]
    have z6 : w1.cell? ⟨w.heap.size, 6, none⟩ = some (.int .u8 0) := (cell_of_row w1 _ 6 _ _ _ hbk).trans rfl
    have fz6 : w1.frozen? ⟨w.heap.size, 6, none⟩ = false := by simp [World.frozen?, hbk]
    have z7 : w1.cell? ⟨w.heap.size, 7, none⟩ = some (.int .u8 0) := (cell_of_row w1 _ 7 _ _ _ hbk).trans rfl
    have fz7 : w1.frozen? ⟨w.heap.size, 7, none⟩ = false := by simp [World.frozen?, hbk]
    have z8 : w1.cell? ⟨w.heap.size, 8, none⟩ = some (.int .u8 0) := (cell_of_row w1 _ 8 _ _ _ hbk).trans rfl
    have fz8 : w1.frozen? ⟨w.heap.size, 8, none⟩ = false := by simp [World.frozen?, hbk]
    have z9 : w1.cell? ⟨w.heap.size, 9, none⟩ = some (.int .u8 0) := (cell_of_row w1 _ 9 _ _ _ hbk).trans rfl
    have fz9 : w1.frozen? ⟨w.heap.size, 9, none⟩ = false := by simp [World.frozen?, hbk]
    have z10 : w1.cell? ⟨w.heap.size, 10, none⟩ = some (.int .u8 0) := (cell_of_row w1 _ 10 _ _ _ hbk).trans rfl
    have fz10 : w1.frozen? ⟨w.heap.size, 10, none⟩ = false := by simp [World.frozen?, hbk]
    have z11 : w1.cell? ⟨w.heap.size, 11, none⟩ = some (.int .u8 0) := (cell_of_row w1 _ 11 _ _ _ hbk).trans rfl
    have fz11 : w1.frozen? ⟨w.heap.size, 11, none⟩ = false := by simp [World.frozen?, hbk]
    have z12 : w1.cell? ⟨w.heap.size, 12, none⟩ = some (.int .u16 0) := (cell_of_row w1 _ 12 _ _ _ hbk).trans rfl
    have fz12 : w1.frozen? ⟨w.heap.size, 12, none⟩ = false := by simp [World.frozen?, hbk]
    have z13 : w1.cell? ⟨w.heap.size, 13, none⟩ = some (.slice none 0 0) := (cell_of_row w1 _ 13 _ _ _ hbk).trans rfl
    have fz13 : w1.frozen? ⟨w.heap.size, 13, none⟩ = false := by simp [World.frozen?, hbk]
    clear hbk
    go_wp2
    refine bodyPost_ret (v := .tuple #[frame0, .int .i64 6]) (by simp [results, Try.results14, go_sem, frame0, z0, z1, z2, z3, z4, z5, z6, z7, z8, z9, z10, z11, z12, z13]) rfl ⟨?_, rfl⟩
    refine Kp.setCell ?_ (Nat.le_refl _) _; refine Kp.setCell ?_ (Nat.le_refl _) _; refine Kp.setCell ?_ (Nat.le_refl _) _; refine Kp.setCell ?_ (Nat.le_refl _) _; refine Kp.setCell ?_ (Nat.le_refl _) _; refine Kp.setCell ?_ (Nat.le_refl _) _; refine Kp.setCell ?_ (Nat.le_refl _) _; refine Kp.setCell ?_ (Nat.le_refl _) _; refine Kp.setCell ?_ (Nat.le_refl _) _; refine Kp.setCell ?_ (Nat.le_refl _) _; refine Kp.setCell ?_ (Nat.le_refl _) _; refine Kp.setCell ?_ (Nat.le_refl _) _; refine Kp.setCell ?_ (Nat.le_refl _) _; refine Kp.setCell ?_ (Nat.le_refl _) _; exact hkw
  · exact absurd h0 (by decide)
theorem szB : (Try.prog.info? 5).map (·.size) = some 1 := by kernel_rfl
theorem row_setCell {w : World} {b : Nat} {cs : Array Value} {T : TypeId} {m : Nat × Nat} (h : w.heap[b]? = some (.cells cs T m)) (i : Nat) (v : Value) : (w.setCell ⟨b, i, none⟩ v).heap[b]? = some (.cells (cs.setIfInBounds i v) T m) := by
  simp [World.setCell, Array.getElem?_modify, h]

/-- a pointer to a new block of these cells -/
def St.row (lo : Nat) (cs : Array Value) (T : TypeId) : St :=
  ⟨fun v W => ∃ b, v = .pointer (some ⟨b, 0, none⟩) ∧ lo ≤ b ∧ W.heap[b]? = some (.cells cs T (0, 0)), fun v W W' ⟨b, h1, h2, h3⟩ k => ⟨b, h1, h2, by
    rcases Nat.lt_or_ge b W.heap.size with h | h
    · rw [k.block b h]; exact h3
    · rw [Array.getElem?_eq_none h] at h3; cases h3⟩⟩

noncomputable def pphi (w1 : World) (x y : UInt8) (b : List UInt8) (g cap g2 c2 g3 c3 : Nat) : Nat → St := fun i => ([St.val (.slice (some ⟨g, 0, none⟩) 4 cap),
  St.val (.pointer (some ⟨g, 2, none⟩)),
  St.val (.slice (some ⟨g2, 0, none⟩) 2 c2),
  St.val (.pointer (some ⟨g2, 0, none⟩)),
  St.val (.int .u8 (x.toNat : Int)),
  St.val (.int .u16 (x.toNat : Int)),
  St.val (.int .u16 ((x.toNat : Int) * 256)),
  St.val (.slice (some ⟨g, 0, none⟩) 4 cap),
  St.val (.pointer (some ⟨g, 2, none⟩)),
  St.val (.slice (some ⟨g2, 0, none⟩) 2 c2),
  St.val (.pointer (some ⟨g2, 1, none⟩)),
  St.val (.int .u8 (y.toNat : Int)),
  St.val (.int .u16 (y.toNat : Int)),
  St.val (.int .u16 ((256 * x.toNat + y.toNat : Nat) : Int)),
  St.val (.slice (some ⟨g, 0, none⟩) 4 cap),
  St.val (.pointer (some ⟨g, 3, none⟩)),
  St.val (.slice (some ⟨g3, 0, none⟩) b.length c3),
  St.val (.agg #[.int .u8 0, .int .u8 0, .int .u8 0, .int .u8 0, .int .u8 0, .int .u8 0, .int .u8 0, .int .u8 0, .int .u8 0, .int .u8 0, .int .u8 0, .int .u8 0, .int .u16 ((256 * x.toNat + y.toNat : Nat) : Int), .slice (some ⟨g3, 0, none⟩) b.length c3]),
  St.row w1.heap.size #[.int .u8 0, .int .u8 0, .int .u8 0, .int .u8 0, .int .u8 0, .int .u8 0, .int .u8 0, .int .u8 0, .int .u8 0, .int .u8 0, .int .u8 0, .int .u8 0, .int .u16 0, .slice none 0 0] 45] : List St).getD i St.any

set_option maxRecDepth 100000 in
set_option maxHeartbeats 2000000 in
theorem parse_ok (w : World) (A : Option Addr) (n c : Nat) (d0 d1 d2 d3 d4 d5 s0 s1 s2 s3 s4 s5 x y : UInt8) (b : List UInt8) (hb : b.length ≤ 200) (hA : Rd w 0 A n (d0 :: d1 :: d2 :: d3 :: d4 :: d5 :: s0 :: s1 :: s2 :: s3 :: s4 :: s5 :: x :: y :: b)) (hok : SlOk A n c) :
    Calls Try.prog 14 #[.slice A n c] w (FrameOk w d0 d1 d2 d3 d4 d5 s0 s1 s2 s3 s4 s5 x y b) := by
  have hn : n ≤ 214 ∧ 14 ≤ n := by rw [← hA.len]; simp only [List.length_cons]; omega
  obtain ⟨hn, hn1⟩ := hn
  have es := split662 d0 d1 d2 d3 d4 d5 s0 s1 s2 s3 s4 s5 x y b
  have ES := Lib.hid es
  clear es
  have HOK := Lib.hid hok
  clear hok
  have HA := Lib.hid hA
  clear hA
  go_enter Try.func14, Try.ntmps14
  go_wp2_with fail
  refine (split_any _ A n c (d0 :: d1 :: d2 :: d3 :: d4 :: d5 :: s0 :: s1 :: s2 :: s3 :: s4 :: s5 :: x :: y :: b) _ 3 3 [6, 6, 2] ?_ HOK.out (by omega) ?_ (by omega)).mono ?_
  · exact HA.out.keep (((Kp.refl _).alloc _).alloc _)
  · refine ⟨rfl, fun _ => ⟨_, 0, rfl, Nat.zero_le _, fun j u hu => ?_⟩⟩
    rw [show w.heap.size + 1 = (w.alloc (.cells #[.int .u8 0, .int .u8 0, .int .u8 0, .int .u8 0, .int .u8 0, .int .u8 0, .int .u8 0, .int .u8 0, .int .u8 0, .int .u8 0, .int .u8 0, .int .u8 0, .int .u16 0, .slice none 0 0] 45)).heap.size by simp, cell_new]
    simpa using hu
  rintro e w1 ⟨hk1, v, he, hcase⟩
  rw [ES.out] at he hcase
  rcases hcase with ⟨h0, _⟩ | ⟨_, g, cap, vs, hv, hown, hps⟩
  · exact absurd rfl h0
  subst hv
  subst he
  replace hown : OwnV 24 w1 _ g 4 cap vs := hown
  obtain ⟨g0, c0, p0, o0⟩ := hps.part hown (j := 0) rfl
  obtain ⟨g1, c1, p1, o1⟩ := hps.part hown (j := 1) rfl
  obtain ⟨g2, c2, p2, o2⟩ := hps.part hown (j := 2) rfl
  obtain ⟨g3, c3, p3, o3⟩ := hps.part hown (j := 3) rfl
  have hkw : Kp w w1 := (((Kp.refl w).alloc _).alloc _).trans hk1
  have KC : ∀ W : World, Kp w1 W → W.cell? ⟨g, 2, none⟩ = some (.slice (some ⟨g2, 0, none⟩) 2 c2) ∧ W.cell? ⟨g, 3, none⟩ = some (.slice (some ⟨g3, 0, none⟩) b.length c3) ∧ W.cell? ⟨g2, 0, none⟩ = some (.int .u8 (x.toNat : Int)) ∧ W.cell? ⟨g2, 1, none⟩ = some (.int .u8 (y.toNat : Int)) := by
    intro W hk
    obtain ⟨x', hx, cx⟩ := o2.cell8 (k := 0) (by simp)
    obtain ⟨y', hy, cy⟩ := o2.cell8 (k := 1) (by simp)
    injection hx with hx
    injection hy with hy
    subst hx
    subst hy
    exact ⟨hk.cell p2, hk.cell p3, hk.cell cx, hk.cell cy⟩
  have KD : ∀ W : World, Kp w1 W → W.cell? ⟨g, 0, none⟩ = some (.slice (some ⟨g0, 0, none⟩) 6 c0) ∧ W.cell? ⟨g, 1, none⟩ = some (.slice (some ⟨g1, 0, none⟩) 6 c1) ∧ Rd W 0 (some ⟨g0, 0, none⟩) 6 [d0, d1, d2, d3, d4, d5] ∧ Rd W 0 (some ⟨g1, 0, none⟩) 6 [s0, s1, s2, s3, s4, s5] ∧ Rd W (w.heap.size + 1) (some ⟨g3, 0, none⟩) b.length b :=
    fun W hk => ⟨hk.cell p0, hk.cell p1, o0.rd0.keep hk, o1.rd0.keep hk, (o3.rd.keep hk).mono_lo (by simp)⟩
  have hs3 : SlOk (some ⟨g3, 0, none⟩) b.length c3 := o3.slOk
  have hl1 : w.heap.size < w1.heap.size := by have := hk1.size; simp at this; omega
  have hbk : w1.heap[w.heap.size]? = some (.cells #[.int .u8 0, .int .u8 0, .int .u8 0, .int .u8 0, .int .u8 0, .int .u8 0, .int .u8 0, .int .u8 0, .int .u8 0, .int .u8 0, .int .u8 0, .int .u8 0, .int .u16 0, .slice none 0 0] 45 (0, 0)) := by
    rw [hk1.block _ (by simp; omega)]
    rw [Below.heap_alloc _ _ _ (by simp)]
    exact heap_alloc_new w _
  have HBK := Lib.hid hbk
  have HKD := Lib.hid KD
  have HS3 := Lib.hid hs3
  clear hbk p0 p1 p2 p3 o0 o1 o2 o3 hown hps KD hs3 hk1
  have ho := or_u16 x y
  have bx := x.toNat_lt
  have by_ := y.toNat_lt
  have u1 : IntKind.u16.wrap ((x.toNat : Int) * 256) = (x.toNat : Int) * 256 := wrap_u16 (by omega) (by omega)
  have u4 : IntKind.u16.wrap (x.toNat : Int) = (x.toNat : Int) := wrap_u16 (by omega) (by omega)
  have u5 : IntKind.u16.wrap (y.toNat : Int) = (y.toNat : Int) := wrap_u16 (by omega) (by omega)
  go_wp2
  refine wp_region_steps (by kernel_rfl) 19 (pphi w1 x y b g cap g2 c2 g3 c3) [21, 22, 23, 24, 25, 26, 27, 28, 29, 30, 31, 32, 33, 34, 35, 36, 37, 38, 6] (by kernel_rfl) (by kernel_rfl) ⟨?_, ?_, ?_, ?_, ?_, ?_, ?_, ?_, ?_, ?_, ?_, ?_, ?_, ?_, ?_, ?_, ?_, ?_, ?_, trivial⟩ ?_
  · intro a W hW hO hφ K hK
    have q4 : a.tmps.getD 4 undef = (.slice (some ⟨g, 0, none⟩) 4 cap) := hO 4 (by kernel_rfl)
    have r4 := q4
    rw [Array.getD_eq_getD_getElem?] at r4
    clear hO hφ
    clear KC
    go_simp
    exact hK _ _ (Kp.refl _) rfl
  · intro a W hW hO hφ K hK
    have q21 : a.tmps.getD 21 undef = (.slice (some ⟨g, 0, none⟩) 4 cap) := hφ ⟨0, .data⟩ (by simp) rfl
    have r21 := q21
    rw [Array.getD_eq_getD_getElem?] at r21
    clear hO hφ
    clear KC
    go_simp
    exact hK _ _ (Kp.refl _) rfl
  · intro a W hW hO hφ K hK
    have q22 : a.tmps.getD 22 undef = (.pointer (some ⟨g, 2, none⟩)) := hφ ⟨1, .data⟩ (by simp) rfl
    have r22 := q22
    rw [Array.getD_eq_getD_getElem?] at r22
    clear hO hφ
    obtain ⟨c2, c3, cx, cy⟩ := KC W (Kp.trans ((Kp.refl _).drew) hW)
    clear KC
    go_simp
    exact hK _ _ (Kp.refl _) rfl
  · intro a W hW hO hφ K hK
    have q23 : a.tmps.getD 23 undef = (.slice (some ⟨g2, 0, none⟩) 2 c2) := hφ ⟨2, .data⟩ (by simp) rfl
    have r23 := q23
    rw [Array.getD_eq_getD_getElem?] at r23
    clear hO hφ
    clear KC
    go_simp
    exact hK _ _ (Kp.refl _) rfl
  · intro a W hW hO hφ K hK
    have q24 : a.tmps.getD 24 undef = (.pointer (some ⟨g2, 0, none⟩)) := hφ ⟨3, .data⟩ (by simp) rfl
    have r24 := q24
    rw [Array.getD_eq_getD_getElem?] at r24
    clear hO hφ
    obtain ⟨c2, c3, cx, cy⟩ := KC W (Kp.trans ((Kp.refl _).drew) hW)
    clear KC
    go_simp
    exact hK _ _ (Kp.refl _) rfl
  · intro a W hW hO hφ K hK
    have q25 : a.tmps.getD 25 undef = (.int .u8 (x.toNat : Int)) := hφ ⟨4, .data⟩ (by simp) rfl
    have r25 := q25
    rw [Array.getD_eq_getD_getElem?] at r25
    clear hO hφ
    clear KC
    go_simp
    exact hK _ _ (Kp.refl _) rfl
  · intro a W hW hO hφ K hK
    have q26 : a.tmps.getD 26 undef = (.int .u16 (x.toNat : Int)) := hφ ⟨5, .data⟩ (by simp) rfl
    have r26 := q26
    rw [Array.getD_eq_getD_getElem?] at r26
    clear hO hφ
    clear KC
    go_simp
    exact hK _ _ (Kp.refl _) rfl
  · intro a W hW hO hφ K hK
    have q4 : a.tmps.getD 4 undef = (.slice (some ⟨g, 0, none⟩) 4 cap) := hO 4 (by kernel_rfl)
    have r4 := q4
    rw [Array.getD_eq_getD_getElem?] at r4
    clear hO hφ
    clear KC
    go_simp
    exact hK _ _ (Kp.refl _) rfl
  · intro a W hW hO hφ K hK
    have q28 : a.tmps.getD 28 undef = (.slice (some ⟨g, 0, none⟩) 4 cap) := hφ ⟨7, .data⟩ (by simp) rfl
    have r28 := q28
    rw [Array.getD_eq_getD_getElem?] at r28
    clear hO hφ
    clear KC
    go_simp
    exact hK _ _ (Kp.refl _) rfl
  · intro a W hW hO hφ K hK
    have q29 : a.tmps.getD 29 undef = (.pointer (some ⟨g, 2, none⟩)) := hφ ⟨8, .data⟩ (by simp) rfl
    have r29 := q29
    rw [Array.getD_eq_getD_getElem?] at r29
    clear hO hφ
    obtain ⟨c2, c3, cx, cy⟩ := KC W (Kp.trans ((Kp.refl _).drew) hW)
    clear KC
    go_simp
    exact hK _ _ (Kp.refl _) rfl
  · intro a W hW hO hφ K hK
    have q30 : a.tmps.getD 30 undef = (.slice (some ⟨g2, 0, none⟩) 2 c2) := hφ ⟨9, .data⟩ (by simp) rfl
    have r30 := q30
    rw [Array.getD_eq_getD_getElem?] at r30
    clear hO hφ
    clear KC
    go_simp
    exact hK _ _ (Kp.refl _) rfl
  · intro a W hW hO hφ K hK
    have q31 : a.tmps.getD 31 undef = (.pointer (some ⟨g2, 1, none⟩)) := hφ ⟨10, .data⟩ (by simp) rfl
    have r31 := q31
    rw [Array.getD_eq_getD_getElem?] at r31
    clear hO hφ
    obtain ⟨c2, c3, cx, cy⟩ := KC W (Kp.trans ((Kp.refl _).drew) hW)
    clear KC
    go_simp
    exact hK _ _ (Kp.refl _) rfl
  · intro a W hW hO hφ K hK
    have q32 : a.tmps.getD 32 undef = (.int .u8 (y.toNat : Int)) := hφ ⟨11, .data⟩ (by simp) rfl
    have r32 := q32
    rw [Array.getD_eq_getD_getElem?] at r32
    clear hO hφ
    clear KC
    go_simp
    exact hK _ _ (Kp.refl _) rfl
  · intro a W hW hO hφ K hK
    have q27 : a.tmps.getD 27 undef = (.int .u16 ((x.toNat : Int) * 256)) := hφ ⟨6, .data⟩ (by simp) rfl
    have q33 : a.tmps.getD 33 undef = (.int .u16 (y.toNat : Int)) := hφ ⟨12, .data⟩ (by simp) rfl
    have r27 := q27
    rw [Array.getD_eq_getD_getElem?] at r27
    have r33 := q33
    rw [Array.getD_eq_getD_getElem?] at r33
    clear hO hφ
    clear KC
    go_simp
    exact hK _ _ (Kp.refl _) rfl
  · intro a W hW hO hφ K hK
    have q4 : a.tmps.getD 4 undef = (.slice (some ⟨g, 0, none⟩) 4 cap) := hO 4 (by kernel_rfl)
    have r4 := q4
    rw [Array.getD_eq_getD_getElem?] at r4
    clear hO hφ
    clear KC
    go_simp
    exact hK _ _ (Kp.refl _) rfl
  · intro a W hW hO hφ K hK
    have q35 : a.tmps.getD 35 undef = (.slice (some ⟨g, 0, none⟩) 4 cap) := hφ ⟨14, .data⟩ (by simp) rfl
    have r35 := q35
    rw [Array.getD_eq_getD_getElem?] at r35
    clear hO hφ
    clear KC
    go_simp
    exact hK _ _ (Kp.refl _) rfl
  · intro a W hW hO hφ K hK
    have q36 : a.tmps.getD 36 undef = (.pointer (some ⟨g, 3, none⟩)) := hφ ⟨15, .data⟩ (by simp) rfl
    have r36 := q36
    rw [Array.getD_eq_getD_getElem?] at r36
    clear hO hφ
    obtain ⟨c2, c3, cx, cy⟩ := KC W (Kp.trans ((Kp.refl _).drew) hW)
    clear KC
    go_simp
    exact hK _ _ (Kp.refl _) rfl
  · intro a W hW hO hφ K hK
    have q34 : a.tmps.getD 34 undef = (.int .u16 ((256 * x.toNat + y.toNat : Nat) : Int)) := hφ ⟨13, .data⟩ (by simp) rfl
    have q37 : a.tmps.getD 37 undef = (.slice (some ⟨g3, 0, none⟩) b.length c3) := hφ ⟨16, .data⟩ (by simp) rfl
    have r34 := q34
    rw [Array.getD_eq_getD_getElem?] at r34
    have r37 := q37
    rw [Array.getD_eq_getD_getElem?] at r37
    clear hO hφ
    clear KC
    go_simp
    exact hK _ _ (Kp.refl _) rfl
  · intro a W hW hO hφ K hK
    clear hO hφ
    clear KC
    have hsz := hW.size
    go_simp
    exact hK _ _ ((Kp.refl _).alloc _) ⟨W.heap.size, rfl, hsz, heap_alloc_new W _⟩
  intro f W hW hφ
  have v0 : f 0 = (.slice (some ⟨g, 0, none⟩) 4 cap) := hφ 0 (by omega)
  have v1 : f 1 = (.pointer (some ⟨g, 2, none⟩)) := hφ 1 (by omega)
  have v2 : f 2 = (.slice (some ⟨g2, 0, none⟩) 2 c2) := hφ 2 (by omega)
  have v3 : f 3 = (.pointer (some ⟨g2, 0, none⟩)) := hφ 3 (by omega)
  have v4 : f 4 = (.int .u8 (x.toNat : Int)) := hφ 4 (by omega)
  have v5 : f 5 = (.int .u16 (x.toNat : Int)) := hφ 5 (by omega)
  have v6 : f 6 = (.int .u16 ((x.toNat : Int) * 256)) := hφ 6 (by omega)
  have v7 : f 7 = (.slice (some ⟨g, 0, none⟩) 4 cap) := hφ 7 (by omega)
  have v8 : f 8 = (.pointer (some ⟨g, 2, none⟩)) := hφ 8 (by omega)
  have v9 : f 9 = (.slice (some ⟨g2, 0, none⟩) 2 c2) := hφ 9 (by omega)
  have v10 : f 10 = (.pointer (some ⟨g2, 1, none⟩)) := hφ 10 (by omega)
  have v11 : f 11 = (.int .u8 (y.toNat : Int)) := hφ 11 (by omega)
  have v12 : f 12 = (.int .u16 (y.toNat : Int)) := hφ 12 (by omega)
  have v13 : f 13 = (.int .u16 ((256 * x.toNat + y.toNat : Nat) : Int)) := hφ 13 (by omega)
  have v14 : f 14 = (.slice (some ⟨g, 0, none⟩) 4 cap) := hφ 14 (by omega)
  have v15 : f 15 = (.pointer (some ⟨g, 3, none⟩)) := hφ 15 (by omega)
  have v16 : f 16 = (.slice (some ⟨g3, 0, none⟩) b.length c3) := hφ 16 (by omega)
  have v17 : f 17 = (.agg #[.int .u8 0, .int .u8 0, .int .u8 0, .int .u8 0, .int .u8 0, .int .u8 0, .int .u8 0, .int .u8 0, .int .u8 0, .int .u8 0, .int .u8 0, .int .u8 0, .int .u16 ((256 * x.toNat + y.toNat : Nat) : Int), .slice (some ⟨g3, 0, none⟩) b.length c3]) := hφ 17 (by omega)
  have v18 : (St.row w1.heap.size #[.int .u8 0, .int .u8 0, .int .u8 0, .int .u8 0, .int .u8 0, .int .u8 0, .int .u8 0, .int .u8 0, .int .u8 0, .int .u8 0, .int .u8 0, .int .u8 0, .int .u16 0, .slice none 0 0] 45).p (f 18) W := hφ 18 (by omega)
  clear hφ
  simp only [putAll, List.setIfInBounds_toArray, List.set_cons_succ, List.set_cons_zero, v0, v1, v2, v3, v4, v5, v6, v7, v8, v9, v10, v11, v12, v13, v14, v15, v16, v17]
  clear v0 v1 v2 v3 v4 v5 v6 v7 v8 v9 v10 v11 v12 v13 v14 v15 v16 v17
  obtain ⟨nb, hv, hnb, hrow⟩ := v18
  refine wpAny_ready (rs := [19]) (by kernel_rfl) (by simp) (AllReady.cons rfl (fun K' hK' => ?_) AllReady.nil)
  have hv' : f 18 = .pointer (some ⟨nb, 0, none⟩) := hv
  have z0 : W.cell? ⟨nb, 0, none⟩ = some (.int .u8 0) := (cell_of_row W _ 0 _ _ _ hrow).trans rfl
  have fz0 : W.frozen? ⟨nb, 0, none⟩ = false := by simp [World.frozen?, hrow]
  have z1 : W.cell? ⟨nb, 1, none⟩ = some (.int .u8 0) := (cell_of_row W _ 1 _ _ _ hrow).trans rfl
  have fz1 : W.frozen? ⟨nb, 1, none⟩ = false := by simp [World.frozen?, hrow]
  have z2 : W.cell? ⟨nb, 2, none⟩ = some (.int .u8 0) := (cell_of_row W _ 2 _ _ _ hrow).trans rfl
  have fz2 : W.frozen? ⟨nb, 2, none⟩ = false := by simp [World.frozen?, hrow]
  have z3 : W.cell? ⟨nb, 3, none⟩ = some (.int .u8 0) := (cell_of_row W _ 3 _ _ _ hrow).trans rfl
  have fz3 : W.frozen? ⟨nb, 3, none⟩ = false := by simp [World.frozen?, hrow]
  have z4 : W.cell? ⟨nb, 4, none⟩ = some (.int .u8 0) := (cell_of_row W _ 4 _ _ _ hrow).trans rfl
  have fz4 : W.frozen? ⟨nb, 4, none⟩ = false := by simp [World.frozen?, hrow]
  have z5 : W.cell? ⟨nb, 5, none⟩ = some (.int .u8 0) := (cell_of_row W _ 5 _ _ _ hrow).trans rfl
  have fz5 : W.frozen? ⟨nb, 5, none⟩ = false := by simp [World.frozen?, hrow]
  have z6 : W.cell? ⟨nb, 6, none⟩ = some (.int .u8 0) := (cell_of_row W _ 6 _ _ _ hrow).trans rfl
  have fz6 : W.frozen? ⟨nb, 6, none⟩ = false := by simp [World.frozen?, hrow]
  have z7 : W.cell? ⟨nb, 7, none⟩ = some (.int .u8 0) := (cell_of_row W _ 7 _ _ _ hrow).trans rfl
  have fz7 : W.frozen? ⟨nb, 7, none⟩ = false := by simp [World.frozen?, hrow]
  have z8 : W.cell? ⟨nb, 8, none⟩ = some (.int .u8 0) := (cell_of_row W _ 8 _ _ _ hrow).trans rfl
  have fz8 : W.frozen? ⟨nb, 8, none⟩ = false := by simp [World.frozen?, hrow]
  have z9 : W.cell? ⟨nb, 9, none⟩ = some (.int .u8 0) := (cell_of_row W _ 9 _ _ _ hrow).trans rfl
  have fz9 : W.frozen? ⟨nb, 9, none⟩ = false := by simp [World.frozen?, hrow]
  have z10 : W.cell? ⟨nb, 10, none⟩ = some (.int .u8 0) := (cell_of_row W _ 10 _ _ _ hrow).trans rfl
  have fz10 : W.frozen? ⟨nb, 10, none⟩ = false := by simp [World.frozen?, hrow]
  have z11 : W.cell? ⟨nb, 11, none⟩ = some (.int .u8 0) := (cell_of_row W _ 11 _ _ _ hrow).trans rfl
  have fz11 : W.frozen? ⟨nb, 11, none⟩ = false := by simp [World.frozen?, hrow]
  have z12 : W.cell? ⟨nb, 12, none⟩ = some (.int .u16 0) := (cell_of_row W _ 12 _ _ _ hrow).trans rfl
  have fz12 : W.frozen? ⟨nb, 12, none⟩ = false := by simp [World.frozen?, hrow]
  have z13 : W.cell? ⟨nb, 13, none⟩ = some (.slice none 0 0) := (cell_of_row W _ 13 _ _ _ hrow).trans rfl
  have fz13 : W.frozen? ⟨nb, 13, none⟩ = false := by simp [World.frozen?, hrow]
  have HROW := Lib.hid hrow
  clear hv hrow
  simp only [hv']
  go_simp
  refine hK' _ _ ?_
  refine wpAny_done (by kernel_rfl) ?_ _
  clear z0 fz0 z1 fz1 z2 fz2 z3 fz3 z4 fz4 z5 fz5 z6 fz6 z7 fz7 z8 fz8 z9 fz9 z10 fz10 z11 fz11 z12 fz12 z13 fz13
  obtain ⟨W2, hW2, hk2, hrow2⟩ : ∃ W2, W2 = ((((((((((((((W.setCell ⟨nb, 0, none⟩ (.int .u8 0)).setCell ⟨nb, 1, none⟩ (.int .u8 0)).setCell ⟨nb, 2, none⟩ (.int .u8 0)).setCell ⟨nb, 3, none⟩ (.int .u8 0)).setCell ⟨nb, 4, none⟩ (.int .u8 0)).setCell ⟨nb, 5, none⟩ (.int .u8 0)).setCell ⟨nb, 6, none⟩ (.int .u8 0)).setCell ⟨nb, 7, none⟩ (.int .u8 0)).setCell ⟨nb, 8, none⟩ (.int .u8 0)).setCell ⟨nb, 9, none⟩ (.int .u8 0)).setCell ⟨nb, 10, none⟩ (.int .u8 0)).setCell ⟨nb, 11, none⟩ (.int .u8 0)).setCell ⟨nb, 12, none⟩ (.int .u16 (256 * (x.toNat : Int) + (y.toNat : Int)))).setCell ⟨nb, 13, none⟩ (.slice (some ⟨g3, 0, none⟩) b.length c3)) ∧ Kp w1 W2 ∧ W2.heap[nb]? = some (.cells #[.int .u8 0, .int .u8 0, .int .u8 0, .int .u8 0, .int .u8 0, .int .u8 0, .int .u8 0, .int .u8 0, .int .u8 0, .int .u8 0, .int .u8 0, .int .u8 0, .int .u16 (256 * (x.toNat : Int) + (y.toNat : Int)), .slice (some ⟨g3, 0, none⟩) b.length c3] 45 (0, 0)) := ⟨_, rfl, (((((((((((((((Kp.trans ((Kp.refl w1).drew) hW).setCell (p := ⟨nb, 0, none⟩) hnb (.int .u8 0)).setCell (p := ⟨nb, 1, none⟩) hnb (.int .u8 0)).setCell (p := ⟨nb, 2, none⟩) hnb (.int .u8 0)).setCell (p := ⟨nb, 3, none⟩) hnb (.int .u8 0)).setCell (p := ⟨nb, 4, none⟩) hnb (.int .u8 0)).setCell (p := ⟨nb, 5, none⟩) hnb (.int .u8 0)).setCell (p := ⟨nb, 6, none⟩) hnb (.int .u8 0)).setCell (p := ⟨nb, 7, none⟩) hnb (.int .u8 0)).setCell (p := ⟨nb, 8, none⟩) hnb (.int .u8 0)).setCell (p := ⟨nb, 9, none⟩) hnb (.int .u8 0)).setCell (p := ⟨nb, 10, none⟩) hnb (.int .u8 0)).setCell (p := ⟨nb, 11, none⟩) hnb (.int .u8 0)).setCell (p := ⟨nb, 12, none⟩) hnb (.int .u16 (256 * (x.toNat : Int) + (y.toNat : Int)))).setCell (p := ⟨nb, 13, none⟩) hnb (.slice (some ⟨g3, 0, none⟩) b.length c3)), (row_setCell (row_setCell (row_setCell (row_setCell (row_setCell (row_setCell (row_setCell (row_setCell (row_setCell (row_setCell (row_setCell (row_setCell (row_setCell (row_setCell HROW.out 0 (.int .u8 0)) 1 (.int .u8 0)) 2 (.int .u8 0)) 3 (.int .u8 0)) 4 (.int .u8 0)) 5 (.int .u8 0)) 6 (.int .u8 0)) 7 (.int .u8 0)) 8 (.int .u8 0)) 9 (.int .u8 0)) 10 (.int .u8 0)) 11 (.int .u8 0)) 12 (.int .u16 (256 * (x.toNat : Int) + (y.toNat : Int)))) 13 (.slice (some ⟨g3, 0, none⟩) b.length c3))⟩
  rw [← hW2]
  clear hW2 HROW KC hK' hW
  obtain ⟨hc0, hc1, hr0, hr1, hr3⟩ := HKD.out W2 hk2
  go_wp2
  go_region_law (refine step_copy8 rfl (.tmp 40) (.tmp 43) _ _ rfl Try.underlying24 szB rfl rfl (by decide) hrow2 hr0 (by simp) ?_; intro w3 hrow3 gr3; have hk3 := hk2.drew.grown gr3 hnb)
  replace hrow3 : w3.heap[nb]? = some (.cells #[.int .u8 (d0.toNat : Int), .int .u8 (d1.toNat : Int), .int .u8 (d2.toNat : Int), .int .u8 (d3.toNat : Int), .int .u8 (d4.toNat : Int), .int .u8 (d5.toNat : Int), .int .u8 0, .int .u8 0, .int .u8 0, .int .u8 0, .int .u8 0, .int .u8 0, .int .u16 (256 * (x.toNat : Int) + (y.toNat : Int)), .slice (some ⟨g3, 0, none⟩) b.length c3] 45 (0, 0)) := hrow3
  clear hc0 hc1 hr0 hr1 hr3 hrow2 gr3
  obtain ⟨hc0, hc1, hr0, hr1, hr3⟩ := HKD.out w3 hk3
  go_wp2
  go_region_law (refine step_copy8 rfl (.tmp 46) (.tmp 49) _ _ rfl Try.underlying24 szB rfl rfl (by decide) hrow3 hr1 (by simp) ?_; intro w4 hrow4 gr4; have hk4 := hk3.drew.grown gr4 hnb)
  replace hrow4 : w4.heap[nb]? = some (.cells #[.int .u8 (d0.toNat : Int), .int .u8 (d1.toNat : Int), .int .u8 (d2.toNat : Int), .int .u8 (d3.toNat : Int), .int .u8 (d4.toNat : Int), .int .u8 (d5.toNat : Int), .int .u8 (s0.toNat : Int), .int .u8 (s1.toNat : Int), .int .u8 (s2.toNat : Int), .int .u8 (s3.toNat : Int), .int .u8 (s4.toNat : Int), .int .u8 (s5.toNat : Int), .int .u16 (256 * (x.toNat : Int) + (y.toNat : Int)), .slice (some ⟨g3, 0, none⟩) b.length c3] 45 (0, 0)) := hrow4
  clear hc0 hc1 hr0 hr1 hr3 hrow3 gr4
  obtain ⟨_, _, _, _, hr3⟩ := HKD.out w4 hk4
  have hbk : w4.heap[w.heap.size]? = _ := (hk4.block _ hl1).trans HBK.out
  have z0 : w4.cell? ⟨w.heap.size, 0, none⟩ = some (.int .u8 0) := (cell_of_row w4 _ 0 _ _ _ hbk).trans rfl
  have fz0 : w4.frozen? ⟨w.heap.size, 0, none⟩ = false := by simp [World.frozen?, hbk]
  have b0 : w4.cell? ⟨nb, 0, none⟩ = some (.int .u8 (d0.toNat : Int)) := (cell_of_row w4 _ 0 _ _ _ hrow4).trans rfl
  have z1 : w4.cell? ⟨w.heap.size, 1, none⟩ = some (.int .u8 0) := (cell_of_row w4 _ 1 _ _ _ hbk).trans rfl
  have fz1 : w4.frozen? ⟨w.heap.size, 1, none⟩ = false := by simp [World.frozen?, hbk]
  have b1 : w4.cell? ⟨nb, 1, none⟩ = some (.int .u8 (d1.toNat : Int)) := (cell_of_row w4 _ 1 _ _ _ hrow4).trans rfl
  have z2 : w4.cell? ⟨w.heap.size, 2, none⟩ = some (.int .u8 0) := (cell_of_row w4 _ 2 _ _ _ hbk).trans rfl
  have fz2 : w4.frozen? ⟨w.heap.size, 2, none⟩ = false := by simp [World.frozen?, hbk]
  have b2 : w4.cell? ⟨nb, 2, none⟩ = some (.int .u8 (d2.toNat : Int)) := (cell_of_row w4 _ 2 _ _ _ hrow4).trans rfl
  have z3 : w4.cell? ⟨w.heap.size, 3, none⟩ = some (.int .u8 0) := (cell_of_row w4 _ 3 _ _ _ hbk).trans rfl
  have fz3 : w4.frozen? ⟨w.heap.size, 3, none⟩ = false := by simp [World.frozen?, hbk]
  have b3 : w4.cell? ⟨nb, 3, none⟩ = some (.int .u8 (d3.toNat : Int)) := (cell_of_row w4 _ 3 _ _ _ hrow4).trans rfl
  have z4 : w4.cell? ⟨w.heap.size, 4, none⟩ = some (.int .u8 0) := (cell_of_row w4 _ 4 _ _ _ hbk).trans rfl
  have fz4 : w4.frozen? ⟨w.heap.size, 4, none⟩ = false := by simp [World.frozen?, hbk]
  have b4 : w4.cell? ⟨nb, 4, none⟩ = some (.int .u8 (d4.toNat : Int)) := (cell_of_row w4 _ 4 _ _ _ hrow4).trans rfl
  have z5 : w4.cell? ⟨w.heap.size, 5, none⟩ = some (.int .u8 0) := (cell_of_row w4 _ 5 _ _ _ hbk).trans rfl
  have fz5 : w4.frozen? ⟨w.heap.size, 5, none⟩ = false := by simp [World.frozen?, hbk]
  have b5 : w4.cell? ⟨nb, 5, none⟩ = some (.int .u8 (d5.toNat : Int)) := (cell_of_row w4 _ 5 _ _ _ hrow4).trans rfl
  have z6 : w4.cell? ⟨w.heap.size, 6, none⟩ = some (.int .u8 0) := (cell_of_row w4 _ 6 _ _ _ hbk).trans rfl
  have fz6 : w4.frozen? ⟨w.heap.size, 6, none⟩ = false := by simp [World.frozen?, hbk]
  have b6 : w4.cell? ⟨nb, 6, none⟩ = some (.int .u8 (s0.toNat : Int)) := (cell_of_row w4 _ 6 _ _ _ hrow4).trans rfl
  have z7 : w4.cell? ⟨w.heap.size, 7, none⟩ = some (.int .u8 0) := (cell_of_row w4 _ 7 _ _ _ hbk).trans rfl
  have fz7 : w4.frozen? ⟨w.heap.size, 7, none⟩ = false := by simp [World.frozen?, hbk]
  have b7 : w4.cell? ⟨nb, 7, none⟩ = some (.int .u8 (s1.toNat : Int)) := (cell_of_row w4 _ 7 _ _ _ hrow4).trans rfl
  have z8 : w4.cell? ⟨w.heap.size, 8, none⟩ = some (.int .u8 0) := (cell_of_row w4 _ 8 _ _ _ hbk).trans rfl
  have fz8 : w4.frozen? ⟨w.heap.size, 8, none⟩ = false := by simp [World.frozen?, hbk]
  have b8 : w4.cell? ⟨nb, 8, none⟩ = some (.int .u8 (s2.toNat : Int)) := (cell_of_row w4 _ 8 _ _ _ hrow4).trans rfl
  have z9 : w4.cell? ⟨w.heap.size, 9, none⟩ = some (.int .u8 0) := (cell_of_row w4 _ 9 _ _ _ hbk).trans rfl
  have fz9 : w4.frozen? ⟨w.heap.size, 9, none⟩ = false := by simp [World.frozen?, hbk]
  have b9 : w4.cell? ⟨nb, 9, none⟩ = some (.int .u8 (s3.toNat : Int)) := (cell_of_row w4 _ 9 _ _ _ hrow4).trans rfl
  have z10 : w4.cell? ⟨w.heap.size, 10, none⟩ = some (.int .u8 0) := (cell_of_row w4 _ 10 _ _ _ hbk).trans rfl
  have fz10 : w4.frozen? ⟨w.heap.size, 10, none⟩ = false := by simp [World.frozen?, hbk]
  have b10 : w4.cell? ⟨nb, 10, none⟩ = some (.int .u8 (s4.toNat : Int)) := (cell_of_row w4 _ 10 _ _ _ hrow4).trans rfl
  have z11 : w4.cell? ⟨w.heap.size, 11, none⟩ = some (.int .u8 0) := (cell_of_row w4 _ 11 _ _ _ hbk).trans rfl
  have fz11 : w4.frozen? ⟨w.heap.size, 11, none⟩ = false := by simp [World.frozen?, hbk]
  have b11 : w4.cell? ⟨nb, 11, none⟩ = some (.int .u8 (s5.toNat : Int)) := (cell_of_row w4 _ 11 _ _ _ hrow4).trans rfl
  have z12 : w4.cell? ⟨w.heap.size, 12, none⟩ = some (.int .u16 0) := (cell_of_row w4 _ 12 _ _ _ hbk).trans rfl
  have fz12 : w4.frozen? ⟨w.heap.size, 12, none⟩ = false := by simp [World.frozen?, hbk]
  have b12 : w4.cell? ⟨nb, 12, none⟩ = some (.int .u16 (256 * (x.toNat : Int) + (y.toNat : Int))) := (cell_of_row w4 _ 12 _ _ _ hrow4).trans rfl
  have z13 : w4.cell? ⟨w.heap.size, 13, none⟩ = some (.slice none 0 0) := (cell_of_row w4 _ 13 _ _ _ hbk).trans rfl
  have fz13 : w4.frozen? ⟨w.heap.size, 13, none⟩ = false := by simp [World.frozen?, hbk]
  have b13 : w4.cell? ⟨nb, 13, none⟩ = some (.slice (some ⟨g3, 0, none⟩) b.length c3) := (cell_of_row w4 _ 13 _ _ _ hrow4).trans rfl
  clear hbk hrow4
  have hr4 := Lib.hid hr3
  clear hr3
  go_wp2
  refine bodyPost_ret (v := .tuple #[.agg #[.int .u8 (d0.toNat : Int), .int .u8 (d1.toNat : Int), .int .u8 (d2.toNat : Int), .int .u8 (d3.toNat : Int), .int .u8 (d4.toNat : Int), .int .u8 (d5.toNat : Int), .int .u8 (s0.toNat : Int), .int .u8 (s1.toNat : Int), .int .u8 (s2.toNat : Int), .int .u8 (s3.toNat : Int), .int .u8 (s4.toNat : Int), .int .u8 (s5.toNat : Int), .int .u16 (256 * (x.toNat : Int) + (y.toNat : Int)), .slice (some ⟨g3, 0, none⟩) b.length c3], .int .i64 0]) (by simp [results, Try.results14, go_sem, z0, z1, z2, z3, z4, z5, z6, z7, z8, z9, z10, z11, z12, z13]) rfl ⟨(((((((((((((((hkw.trans hk4).setCell (p := ⟨w.heap.size, 0, none⟩) (Nat.le_refl _) _).setCell (p := ⟨w.heap.size, 1, none⟩) (Nat.le_refl _) _).setCell (p := ⟨w.heap.size, 2, none⟩) (Nat.le_refl _) _).setCell (p := ⟨w.heap.size, 3, none⟩) (Nat.le_refl _) _).setCell (p := ⟨w.heap.size, 4, none⟩) (Nat.le_refl _) _).setCell (p := ⟨w.heap.size, 5, none⟩) (Nat.le_refl _) _).setCell (p := ⟨w.heap.size, 6, none⟩) (Nat.le_refl _) _).setCell (p := ⟨w.heap.size, 7, none⟩) (Nat.le_refl _) _).setCell (p := ⟨w.heap.size, 8, none⟩) (Nat.le_refl _) _).setCell (p := ⟨w.heap.size, 9, none⟩) (Nat.le_refl _) _).setCell (p := ⟨w.heap.size, 10, none⟩) (Nat.le_refl _) _).setCell (p := ⟨w.heap.size, 11, none⟩) (Nat.le_refl _) _).setCell (p := ⟨w.heap.size, 12, none⟩) (Nat.le_refl _) _).setCell (p := ⟨w.heap.size, 13, none⟩) (Nat.le_refl _) _), some ⟨g3, 0, none⟩, c3, by simp, RdV.mono_lo (((((((((((((((hr4.out).setCell (a := ⟨w.heap.size, 0, none⟩) (by simp) _).setCell (a := ⟨w.heap.size, 1, none⟩) (by simp) _).setCell (a := ⟨w.heap.size, 2, none⟩) (by simp) _).setCell (a := ⟨w.heap.size, 3, none⟩) (by simp) _).setCell (a := ⟨w.heap.size, 4, none⟩) (by simp) _).setCell (a := ⟨w.heap.size, 5, none⟩) (by simp) _).setCell (a := ⟨w.heap.size, 6, none⟩) (by simp) _).setCell (a := ⟨w.heap.size, 7, none⟩) (by simp) _).setCell (a := ⟨w.heap.size, 8, none⟩) (by simp) _).setCell (a := ⟨w.heap.size, 9, none⟩) (by simp) _).setCell (a := ⟨w.heap.size, 10, none⟩) (by simp) _).setCell (a := ⟨w.heap.size, 11, none⟩) (by simp) _).setCell (a := ⟨w.heap.size, 12, none⟩) (by simp) _).setCell (a := ⟨w.heap.size, 13, none⟩) (by simp) _) (by omega), HS3.out⟩
end Go.Proofs.Ytnoobifdaldfiaa.Fr
