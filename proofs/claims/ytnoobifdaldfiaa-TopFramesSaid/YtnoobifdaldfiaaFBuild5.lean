/-
  The contract of ether.Build: the frame's bytes in own memory.
-/
import Derived.Test.YtnoobifdaldfiaaE5c
import Derived.Test.YtnoobifdaldfiaaSplit
import Derived.Deep.RegionLaw
namespace Go.Proofs.Ytnoobifdaldfiaa.Fr
open Go.RowKit
set_option maxRecDepth 100000


def BuildPost (w : World) (d s : List UInt8) (ty : Nat) (b : List UInt8) (e : Ending) (w' : World) : Prop :=
  Kp w w' ∧ ((200 < b.length ∧ e = .returned (.tuple #[.slice none 0 0, .int .i64 4])) ∨
    (b.length ≤ 200 ∧ ∃ g cap, e = .returned (.tuple #[.slice (some ⟨g, 0, none⟩) (14 + b.length) cap, .int .i64 0]) ∧ OwnV 5 w' w.heap.size g (14 + b.length) cap (bvs (frameBytes d s ty b))))

set_option maxRecDepth 100000 in
set_option maxHeartbeats 1000000 in
theorem build_any (w : World) (d0 d1 d2 d3 d4 d5 s0 s1 s2 s3 s4 s5 : UInt8) (ty : Nat) (hty : ty ≤ 65535) (A : Option Addr) (n c : Nat) (l : List UInt8) (hA : Rd w 0 A n l) :
    Calls Try.prog 13 #[.agg #[.int .u8 (d0.toNat : Int), .int .u8 (d1.toNat : Int), .int .u8 (d2.toNat : Int), .int .u8 (d3.toNat : Int), .int .u8 (d4.toNat : Int), .int .u8 (d5.toNat : Int),
      .int .u8 (s0.toNat : Int), .int .u8 (s1.toNat : Int), .int .u8 (s2.toNat : Int), .int .u8 (s3.toNat : Int), .int .u8 (s4.toNat : Int), .int .u8 (s5.toNat : Int), .int .u16 (ty : Int), .slice A n c]] w
      (BuildPost w [d0, d1, d2, d3, d4, d5] [s0, s1, s2, s3, s4, s5] ty l) := by
  by_cases h : 200 < n
  · go_enter Try.func13, Try.ntmps13
    go_wp2
    go_ret2
    exact ⟨(Kp.refl _).alloc _, .inl ⟨by rw [hA.len]; exact h, rfl⟩⟩
  · have HA := Lib.hid hA
    clear hA
    obtain ⟨cs, hcs⟩ : ∃ cs : Array Value, #[.int .u8 (d0.toNat : Int), .int .u8 (d1.toNat : Int), .int .u8 (d2.toNat : Int), .int .u8 (d3.toNat : Int), .int .u8 (d4.toNat : Int), .int .u8 (d5.toNat : Int),
      .int .u8 (s0.toNat : Int), .int .u8 (s1.toNat : Int), .int .u8 (s2.toNat : Int), .int .u8 (s3.toNat : Int), .int .u8 (s4.toNat : Int), .int .u8 (s5.toNat : Int), .int .u16 (ty : Int), .slice A n c] = cs := ⟨_, rfl⟩
    have hk0 : Kp w ((w.alloc (.cells cs 45)).drew.alloc (.cells #[] 5)) := (((Kp.refl w).alloc _).drew).alloc _
    have own0 : OwnV 5 ((w.alloc (.cells cs 45)).drew.alloc (.cells #[] 5)) w.heap.size (w.heap.size + 1) 0 0 (bvs []) := OwnV.lit (vs := []) (by simp) (by omega) rfl (by decide)
    have r1 : Rd (w.alloc (.cells cs 45)) w.heap.size (some ⟨w.heap.size, 0, none⟩) 6 [d0, d1, d2, d3, d4, d5] := cell_new_rd _ _ _ _ _ _ rfl (by
      subst hcs; intro j u hj; match j with | 0 | 1 | 2 | 3 | 4 | 5 => simpa [bvs] using hj | j + 6 => simp [bvs] at hj)
    have r2 : Rd (w.alloc (.cells cs 45)) w.heap.size (some ⟨w.heap.size, 6, none⟩) 6 [s0, s1, s2, s3, s4, s5] := cell_new_rd _ _ _ _ _ _ rfl (by
      subst hcs; intro j u hj; match j with | 0 | 1 | 2 | 3 | 4 | 5 => simpa [bvs] using hj | j + 6 => simp [bvs] at hj)
    have c12 : (w.alloc (.cells cs 45)).cell? ⟨w.heap.size, 12, none⟩ = some (.int .u16 (ty : Int)) := by rw [cell_new]; subst hcs; rfl
    have c13 : (w.alloc (.cells cs 45)).cell? ⟨w.heap.size, 13, none⟩ = some (.slice A n c) := by rw [cell_new]; subst hcs; rfl
    have kb : Kp (w.alloc (.cells cs 45)) ((w.alloc (.cells cs 45)).drew.alloc (.cells #[] 5)) := ((Kp.refl _).drew).alloc _
    have R1 := Lib.hid (r1.keep kb)
    have R2 := Lib.hid r2
    have C12 := Lib.hid c12
    have C13 := Lib.hid c13
    clear r1 r2 c12 c13
    subst hcs
    go_enter Try.func13, Try.ntmps13
    go_wp2
    go_region_law (first
      | (refine stp8 rfl (.tmp 9) (.tmp 11) rfl rfl rfl own0 R1.out 6 [d0, d1, d2, d3, d4, d5] rfl rfl (by omega) hk0.size ?_; intro g1 cap1 w1 own1 gr1 at1; have hk1 := hk0.grown gr1 own0.lo_le; have kb1 := kb.grown gr1 (by simp))
      | (refine stp8 rfl (.tmp 12) (.tmp 14) rfl rfl rfl own1 (R2.out.keep kb1) 12 ([d0, d1, d2, d3, d4, d5] ++ [s0, s1, s2, s3, s4, s5]) rfl rfl (by omega) hk1.size ?_; intro g2 cap2 w2 own2 gr2 at2; have hk2 := hk1.grown gr2 own1.lo_le; have kb2 := kb1.grown gr2 (by rcases at1 with h | h <;> subst h <;> simp); have c12 := kb2.cell C12.out; have c13 := kb2.cell C13.out))
    have glo : (w.alloc (.cells #[.int .u8 (d0.toNat : Int), .int .u8 (d1.toNat : Int), .int .u8 (d2.toNat : Int), .int .u8 (d3.toNat : Int), .int .u8 (d4.toNat : Int), .int .u8 (d5.toNat : Int), .int .u8 (s0.toNat : Int), .int .u8 (s1.toNat : Int), .int .u8 (s2.toNat : Int), .int .u8 (s3.toNat : Int), .int .u8 (s4.toNat : Int), .int .u8 (s5.toNat : Int), .int .u16 (ty : Int), .slice A n c] 45)).heap.size ≤ g2 := by
      rcases at2 with h | h
      · rw [h]; rcases at1 with h1 | h1 <;> rw [h1] <;> simp
      · rw [h]; exact kb1.size
    clear kb kb1 hk0 hk1 own0 own1 gr1 gr2 at1 at2
    have rb := rd_lit (w := w2) (lo := 0) (T := 5) (m := (0, 0)) (g := w2.heap.size) (l := [UInt8.ofNat (ty / 256), UInt8.ofNat (ty % 256)]) rfl (Nat.zero_le _) rfl (bytes2 ty hty)
    have own3 := own2.keep ((Kp.refl w2).alloc (.cells #[.int .u8 ((ty : Int) / 256), .int .u8 ((ty : Int) % 256)] 5))
    have hk3 := hk2.alloc (.cells #[.int .u8 ((ty : Int) / 256), .int .u8 ((ty : Int) % 256)] 5)
    have kb3 := kb2.alloc (.cells #[.int .u8 ((ty : Int) / 256), .int .u8 ((ty : Int) % 256)] 5)
    have hl := HA.out.len
    have HL := Lib.hid hl
    clear hl
    go_wp2_with (first
      | (at_builtin; refine app8 (by rfl) (.tmp 16) (.tmp 24) rfl rfl rfl own3 rb 14 ([d0, d1, d2, d3, d4, d5] ++ [s0, s1, s2, s3, s4, s5] ++ [UInt8.ofNat (ty / 256), UInt8.ofNat (ty % 256)]) rfl rfl (by omega) hk3.size ?_; intro g3 cap3 w3 own4 gr3 at3; have hk4 := hk3.grown gr3 own2.lo_le; have kb4 := kb3.grown gr3 glo; have c13' := kb4.cell C13.out)
      | (at_builtin; refine app8 (by rfl) (.tmp 26) (.tmp 28) rfl rfl rfl own4 (HA.out.keep hk4) (14 + n) (frameBytes [d0, d1, d2, d3, d4, d5] [s0, s1, s2, s3, s4, s5] ty l) rfl rfl (by omega) hk4.size ?_; intro g4 cap4 w4 own5 gr4 at4; have hk5 := hk4.grown gr4 own4.lo_le))
    go_ret2
    refine ⟨hk5, .inr ⟨by rw [HL.out]; omega, g4, cap4, by rw [HL.out]; rfl, by rw [HL.out]; exact own5⟩⟩
end Go.Proofs.Ytnoobifdaldfiaa.Fr
