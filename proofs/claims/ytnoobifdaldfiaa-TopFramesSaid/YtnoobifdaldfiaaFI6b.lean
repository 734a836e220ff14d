/-
  The contract of ip4.Build: the packet's bytes in own memory.
-/
import Derived.Test.YtnoobifdaldfiaaFI6b0
namespace Go.Proofs.Ytnoobifdaldfiaa.Fr
open Go.RowKit
set_option maxRecDepth 100000


theorem front_vals (n id P : Nat) (ttl proto : UInt8) (hn : n ≤ 180) (hid : id ≤ 65535) (hP : P ≤ 65535) :
    (#[.int .u8 69, .int .u8 0, .int .u8 ((20 + (n : Int)) / 256), .int .u8 (20 + (n : Int)), .int .u8 ((id : Int) / 256), .int .u8 ((id : Int) % 256), .int .u8 ((P : Int) / 256), .int .u8 ((P : Int) % 256), .int .u8 (ttl.toNat : Int), .int .u8 (proto.toNat : Int), .int .u8 0, .int .u8 0] : Array Value) =
      (bvs (pfront (20 + n) id P ttl proto ++ [0, 0])).toArray := by
  have e1 : (((UInt8.ofNat ((20 + n) / 256)).toNat : Nat) : Int) = (20 + (n : Int)) / 256 := by rw [UInt8.toNat_ofNat']; omega
  have e2 : (((UInt8.ofNat (20 + n)).toNat : Nat) : Int) = 20 + (n : Int) := by rw [UInt8.toNat_ofNat']; omega
  have e3 : (((UInt8.ofNat (id / 256)).toNat : Nat) : Int) = (id : Int) / 256 := by rw [UInt8.toNat_ofNat']; omega
  have e4 : (((UInt8.ofNat id).toNat : Nat) : Int) = (id : Int) % 256 := by rw [UInt8.toNat_ofNat']; omega
  have e5 : (((UInt8.ofNat (P / 256)).toNat : Nat) : Int) = (P : Int) / 256 := by rw [UInt8.toNat_ofNat']; omega
  have e6 : (((UInt8.ofNat P).toNat : Nat) : Int) = (P : Int) % 256 := by rw [UInt8.toNat_ofNat']; omega
  simp only [pfront, wd2, bvs, List.cons_append, List.nil_append, List.map_cons, List.map_nil, e1, e2, e3, e4, e5, e6]
  rfl
theorem set_mid (X B : List UInt8) (a b x y : UInt8) (h : X.length = 10) : ((X ++ [a, b] ++ B).set 10 x).set 11 y = X ++ [x, y] ++ B := by
  rw [List.append_assoc, List.set_append_right _ _ (by omega), List.set_append_right _ _ (by omega), h]
  simp

def I6Post (w : World) (L : List UInt8) (N : Nat) (e : Ending) (w' : World) : Prop :=
  Kp w w' ∧ ∃ g cap, e = .returned (.tuple #[.slice (some ⟨g, 0, none⟩) N cap, .int .i64 0]) ∧ OwnV 5 w' w.heap.size g N cap (bvs L)

set_option maxRecDepth 100000 in
set_option maxHeartbeats 2000000 in
theorem i6build_ok (w : World) (id : Nat) (more : Bool) (pl : Nat) (ttl proto s0 s1 s2 s3 d0 d1 d2 d3 : UInt8) (A : Option Addr) (n c : Nat) (l : List UInt8) (hid : id ≤ 65535) (hpl : pl < 8192) (hm : more = true → n % 8 = 0) (hn : n ≤ 180) (hA : Rd w 0 A n l) :
    Calls Try.prog 12 #[.agg #[.int .u16 (id : Int), .bool more, .int .i64 (8 * (pl : Int)), .int .u8 (ttl.toNat : Int), .int .u8 (proto.toNat : Int), .int .u8 (s0.toNat : Int), .int .u8 (s1.toNat : Int), .int .u8 (s2.toNat : Int), .int .u8 (s3.toNat : Int), .int .u8 (d0.toNat : Int), .int .u8 (d1.toNat : Int), .int .u8 (d2.toNat : Int), .int .u8 (d3.toNat : Int), .slice A n c]] w
      (I6Post w (pbytes id (placeOf pl more) ttl proto [s0, s1, s2, s3] [d0, d1, d2, d3] l) (20 + n)) := by
  have HA := Lib.hid hA
  have HL := Lib.hid hA.len
  clear hA
  have e : ((8 * (pl : Int)).tmod 8 != 0) = false := by rw [Int.tmod_eq_emod_of_nonneg (by omega)]; simp
  have e1 : ¬ 8 * (pl : Int) < 0 := by omega
  have e3 : ¬ 65528 < 8 * (pl : Int) := by omega
  have e4 : (8 * (pl : Int)).tdiv 8 = (pl : Int) := by rw [Int.tdiv_eq_ediv_of_nonneg (by omega)]; omega
  have e5 : IntKind.u16.wrap (pl : Int) = (pl : Int) := wrap_u16 (by omega) (by omega)
  have eo := or_8192 pl hpl
  have hfr := front_vals n id (placeOf pl more) ttl proto hn hid (by unfold placeOf; split <;> omega)
  have ep : placeOf pl more = (if more then pl + 8192 else pl) := rfl
  have em : more = true → ((n : Int) % 8 != 0) = false := by intro h; have := hm h; simp; omega
  obtain ⟨P, hP⟩ : ∃ P, placeOf pl more = P := ⟨_, rfl⟩
  have hP2 : P ≤ 65535 := by rw [← hP]; unfold placeOf; split <;> omega
  rw [hP] at hfr ep ⊢
  have hk0 : Kp w ((w.alloc (.cells #[.int .u16 (id : Int), .bool more, .int .i64 (8 * (pl : Int)), .int .u8 (ttl.toNat : Int), .int .u8 (proto.toNat : Int), .int .u8 (s0.toNat : Int), .int .u8 (s1.toNat : Int), .int .u8 (s2.toNat : Int), .int .u8 (s3.toNat : Int), .int .u8 (d0.toNat : Int), .int .u8 (d1.toNat : Int), .int .u8 (d2.toNat : Int), .int .u8 (d3.toNat : Int), .slice A n c] 38)).alloc (.cells #[.int .u8 69, .int .u8 0, .int .u8 ((20 + (n : Int)) / 256), .int .u8 (20 + (n : Int)), .int .u8 ((id : Int) / 256), .int .u8 ((id : Int) % 256), .int .u8 ((P : Int) / 256), .int .u8 ((P : Int) % 256), .int .u8 (ttl.toNat : Int), .int .u8 (proto.toNat : Int), .int .u8 0, .int .u8 0] 5)) := ((Kp.refl w).alloc _).alloc _
  have kb : Kp (w.alloc (.cells #[.int .u16 (id : Int), .bool more, .int .i64 (8 * (pl : Int)), .int .u8 (ttl.toNat : Int), .int .u8 (proto.toNat : Int), .int .u8 (s0.toNat : Int), .int .u8 (s1.toNat : Int), .int .u8 (s2.toNat : Int), .int .u8 (s3.toNat : Int), .int .u8 (d0.toNat : Int), .int .u8 (d1.toNat : Int), .int .u8 (d2.toNat : Int), .int .u8 (d3.toNat : Int), .slice A n c] 38)) ((w.alloc (.cells #[.int .u16 (id : Int), .bool more, .int .i64 (8 * (pl : Int)), .int .u8 (ttl.toNat : Int), .int .u8 (proto.toNat : Int), .int .u8 (s0.toNat : Int), .int .u8 (s1.toNat : Int), .int .u8 (s2.toNat : Int), .int .u8 (s3.toNat : Int), .int .u8 (d0.toNat : Int), .int .u8 (d1.toNat : Int), .int .u8 (d2.toNat : Int), .int .u8 (d3.toNat : Int), .slice A n c] 38)).alloc (.cells #[.int .u8 69, .int .u8 0, .int .u8 ((20 + (n : Int)) / 256), .int .u8 (20 + (n : Int)), .int .u8 ((id : Int) / 256), .int .u8 ((id : Int) % 256), .int .u8 ((P : Int) / 256), .int .u8 ((P : Int) % 256), .int .u8 (ttl.toNat : Int), .int .u8 (proto.toNat : Int), .int .u8 0, .int .u8 0] 5)) := (Kp.refl _).alloc _
  have own0 : OwnV 5 ((w.alloc (.cells #[.int .u16 (id : Int), .bool more, .int .i64 (8 * (pl : Int)), .int .u8 (ttl.toNat : Int), .int .u8 (proto.toNat : Int), .int .u8 (s0.toNat : Int), .int .u8 (s1.toNat : Int), .int .u8 (s2.toNat : Int), .int .u8 (s3.toNat : Int), .int .u8 (d0.toNat : Int), .int .u8 (d1.toNat : Int), .int .u8 (d2.toNat : Int), .int .u8 (d3.toNat : Int), .slice A n c] 38)).alloc (.cells #[.int .u8 69, .int .u8 0, .int .u8 ((20 + (n : Int)) / 256), .int .u8 (20 + (n : Int)), .int .u8 ((id : Int) / 256), .int .u8 ((id : Int) % 256), .int .u8 ((P : Int) / 256), .int .u8 ((P : Int) % 256), .int .u8 (ttl.toNat : Int), .int .u8 (proto.toNat : Int), .int .u8 0, .int .u8 0] 5)) w.heap.size (w.heap.size + 1) 12 12 (bvs (pfront (20 + n) id P ttl proto ++ [0, 0])) := by
    rw [hfr]; exact OwnV.lit (vs := bvs (pfront (20 + n) id P ttl proto ++ [0, 0])) (by simp) (by omega) rfl (by decide)
  have r1 : Rd (w.alloc (.cells #[.int .u16 (id : Int), .bool more, .int .i64 (8 * (pl : Int)), .int .u8 (ttl.toNat : Int), .int .u8 (proto.toNat : Int), .int .u8 (s0.toNat : Int), .int .u8 (s1.toNat : Int), .int .u8 (s2.toNat : Int), .int .u8 (s3.toNat : Int), .int .u8 (d0.toNat : Int), .int .u8 (d1.toNat : Int), .int .u8 (d2.toNat : Int), .int .u8 (d3.toNat : Int), .slice A n c] 38)) w.heap.size (some ⟨w.heap.size, 5, none⟩) 4 [s0, s1, s2, s3] := cell_new_rd _ _ _ _ _ _ rfl (by
    intro j u hj; match j with | 0 | 1 | 2 | 3 => simpa [bvs] using hj | j + 4 => simp [bvs] at hj)
  have r2 : Rd (w.alloc (.cells #[.int .u16 (id : Int), .bool more, .int .i64 (8 * (pl : Int)), .int .u8 (ttl.toNat : Int), .int .u8 (proto.toNat : Int), .int .u8 (s0.toNat : Int), .int .u8 (s1.toNat : Int), .int .u8 (s2.toNat : Int), .int .u8 (s3.toNat : Int), .int .u8 (d0.toNat : Int), .int .u8 (d1.toNat : Int), .int .u8 (d2.toNat : Int), .int .u8 (d3.toNat : Int), .slice A n c] 38)) w.heap.size (some ⟨w.heap.size, 9, none⟩) 4 [d0, d1, d2, d3] := cell_new_rd _ _ _ _ _ _ rfl (by
    intro j u hj; match j with | 0 | 1 | 2 | 3 => simpa [bvs] using hj | j + 4 => simp [bvs] at hj)
  have c13 : (w.alloc (.cells #[.int .u16 (id : Int), .bool more, .int .i64 (8 * (pl : Int)), .int .u8 (ttl.toNat : Int), .int .u8 (proto.toNat : Int), .int .u8 (s0.toNat : Int), .int .u8 (s1.toNat : Int), .int .u8 (s2.toNat : Int), .int .u8 (s3.toNat : Int), .int .u8 (d0.toNat : Int), .int .u8 (d1.toNat : Int), .int .u8 (d2.toNat : Int), .int .u8 (d3.toNat : Int), .slice A n c] 38)).cell? ⟨w.heap.size, 13, none⟩ = some (.slice A n c) := by rw [cell_new]; rfl
  have C13 := Lib.hid c13
  have rd1 := Rd.keep r1 kb
  have hw2 : ((w.alloc (.cells #[.int .u16 (id : Int), .bool more, .int .i64 (8 * (pl : Int)), .int .u8 (ttl.toNat : Int), .int .u8 (proto.toNat : Int), .int .u8 (s0.toNat : Int), .int .u8 (s1.toNat : Int), .int .u8 (s2.toNat : Int), .int .u8 (s3.toNat : Int), .int .u8 (d0.toNat : Int), .int .u8 (d1.toNat : Int), .int .u8 (d2.toNat : Int), .int .u8 (d3.toNat : Int), .slice A n c] 38)).alloc (.cells #[.int .u8 69, .int .u8 0, .int .u8 ((20 + (n : Int)) / 256), .int .u8 (20 + (n : Int)), .int .u8 ((id : Int) / 256), .int .u8 ((id : Int) % 256), .int .u8 ((P : Int) / 256), .int .u8 ((P : Int) % 256), .int .u8 (ttl.toNat : Int), .int .u8 (proto.toNat : Int), .int .u8 0, .int .u8 0] 5)).heap.size = w.heap.size + 1 + 1 := by simp
  have hw1 : (w.alloc (.cells #[.int .u16 (id : Int), .bool more, .int .i64 (8 * (pl : Int)), .int .u8 (ttl.toNat : Int), .int .u8 (proto.toNat : Int), .int .u8 (s0.toNat : Int), .int .u8 (s1.toNat : Int), .int .u8 (s2.toNat : Int), .int .u8 (s3.toNat : Int), .int .u8 (d0.toNat : Int), .int .u8 (d1.toNat : Int), .int .u8 (d2.toNat : Int), .int .u8 (d3.toNat : Int), .slice A n c] 38)).heap.size = w.heap.size + 1 := by simp
  have R2 := Lib.hid r2
  have hplen : (pfront (20 + n) id P ttl proto).length = 10 := rfl
  have hpb : pbytes id P ttl proto [s0, s1, s2, s3] [d0, d1, d2, d3] l = pfront (20 + n) id P ttl proto ++ wd2 (65535 - Ck.ck (pfront (20 + n) id P ttl proto ++ [0, 0] ++ ([s0, s1, s2, s3] ++ [d0, d1, d2, d3]))) ++ ([s0, s1, s2, s3] ++ [d0, d1, d2, d3]) ++ l := by
    unfold pbytes psum; rw [HL.out]
  rw [hpb]
  have hck := Ck.ck_le (pfront (20 + n) id P ttl proto ++ [0, 0] ++ ([s0, s1, s2, s3] ++ [d0, d1, d2, d3]))
  obtain ⟨X, hX⟩ : ∃ X, pfront (20 + n) id P ttl proto = X := ⟨_, rfl⟩
  rw [hX] at own0 hplen hck ⊢
  obtain ⟨Y, hY⟩ : ∃ Y, X ++ wd2 (65535 - Ck.ck (X ++ [0, 0] ++ ([s0, s1, s2, s3] ++ [d0, d1, d2, d3]))) ++ ([s0, s1, s2, s3] ++ [d0, d1, d2, d3]) ++ l = Y := ⟨_, rfl⟩
  rw [hY]
  have HY := Lib.hid hY
  clear c13 r1 r2 hX hpb hP hfr hY
  have hXB : (X ++ [0, 0]).length = 12 := by rw [List.length_append, hplen]; rfl
  cases more
  case' false =>
    have hP' : pl = P := ep.symm
    subst hP'
    clear eo em ep
    go_enter Try.func12, Try.ntmps12
    go_wp2
    generalize (w.alloc (.cells #[.int .u16 (id : Int), .bool false, .int .i64 (8 * (pl : Int)), .int .u8 (ttl.toNat : Int), .int .u8 (proto.toNat : Int), .int .u8 (s0.toNat : Int), .int .u8 (s1.toNat : Int), .int .u8 (s2.toNat : Int), .int .u8 (s3.toNat : Int), .int .u8 (d0.toNat : Int), .int .u8 (d1.toNat : Int), .int .u8 (d2.toNat : Int), .int .u8 (d3.toNat : Int), .slice A n c] 38)).alloc (.cells #[.int .u8 69, .int .u8 0, .int .u8 ((20 + (n : Int)) / 256), .int .u8 (20 + (n : Int)), .int .u8 ((id : Int) / 256), .int .u8 ((id : Int) % 256), .int .u8 ((pl : Int) / 256), .int .u8 ((pl : Int) % 256), .int .u8 (ttl.toNat : Int), .int .u8 (proto.toNat : Int), .int .u8 0, .int .u8 0] 5) = W2 at own0 hk0 kb rd1 hw2 ⊢
  case' true =>
    have hP' : P = pl + 8192 := ep
    rw [← hP'] at eo
    have HP := Lib.hid hP'
    clear hP'
    have em' := em rfl
    clear em ep
    go_enter Try.func12, Try.ntmps12
    go_wp2
    generalize (w.alloc (.cells #[.int .u16 (id : Int), .bool true, .int .i64 (8 * (pl : Int)), .int .u8 (ttl.toNat : Int), .int .u8 (proto.toNat : Int), .int .u8 (s0.toNat : Int), .int .u8 (s1.toNat : Int), .int .u8 (s2.toNat : Int), .int .u8 (s3.toNat : Int), .int .u8 (d0.toNat : Int), .int .u8 (d1.toNat : Int), .int .u8 (d2.toNat : Int), .int .u8 (d3.toNat : Int), .slice A n c] 38)).alloc (.cells #[.int .u8 69, .int .u8 0, .int .u8 ((20 + (n : Int)) / 256), .int .u8 (20 + (n : Int)), .int .u8 ((id : Int) / 256), .int .u8 ((id : Int) % 256), .int .u8 ((P : Int) / 256), .int .u8 ((P : Int) % 256), .int .u8 (ttl.toNat : Int), .int .u8 (proto.toNat : Int), .int .u8 0, .int .u8 0] 5) = W2 at own0 hk0 kb rd1 hw2 ⊢
  all_goals
    have R1 := Lib.hid (Rd.keep rd1 (Kp.refl W2).drew)
    replace hk0 := hk0.drew
    replace kb := kb.drew
    replace own0 := own0.drew
    have HW1 := Lib.hid hw1
    clear rd1 hw1
    go_region_law (first
      | (refine stp8 rfl (.tmp 71) (.tmp 73) rfl rfl rfl own0 R1.out 16 (X ++ [0, 0] ++ [s0, s1, s2, s3]) rfl rfl (by omega) hk0.size ?_; intro g1 cap1 w1 own1 gr1 at1; have hk1 := hk0.grown gr1 own0.lo_le; have hg1 : g1 = w.heap.size + 1 ∨ g1 = w.heap.size + 1 + 1 := (by rcases at1 with h | h; exact .inl h; exact .inr (h.trans hw2)); have kb1 := kb.grown gr1 (by rw [HW1.out]; omega))
      | (refine stp8 rfl (.tmp 74) (.tmp 76) rfl rfl rfl own1 (R2.out.keep kb1) 20 (X ++ [0, 0] ++ ([s0, s1, s2, s3] ++ [d0, d1, d2, d3])) rfl (List.append_assoc _ _ _) (by omega) hk1.size ?_; intro g2 cap2 w2 own2 gr2 at2; have hk2 := hk1.grown gr2 own1.lo_le; have kb2 := kb1.grown gr2 (by rw [HW1.out]; omega)))
    have glo2 : w.heap.size < g2 := by
      have h0 := kb1.size
      rw [HW1.out] at h0
      rcases at2 with h | h <;> omega
    clear kb kb1 hk0 hk1 own0 own1 gr1 gr2 at1 at2 R1 R2
    have own3 := own2.keep ((Kp.refl w2).alloc (.cells #[.slice (some ⟨g2, 0, none⟩) 20 cap2] 24))
    have hk3 := hk2.alloc (.cells #[.slice (some ⟨g2, 0, none⟩) 20 cap2] 24)
    have kb3 := kb2.alloc (.cells #[.slice (some ⟨g2, 0, none⟩) 20 cap2] 24)
    have hall : RdAll (w2.alloc (.cells #[.slice (some ⟨g2, 0, none⟩) 20 cap2] 24)) (some ⟨w2.heap.size, 0, none⟩) 1 [X ++ [0, 0] ++ ([s0, s1, s2, s3] ++ [d0, d1, d2, d3])] :=
      rdAll_mk (vs := [.slice (some ⟨g2, 0, none⟩) 20 cap2]) rfl rfl (by decide) ⟨⟨_, _, _, rfl, own2.rd0, by decide⟩, trivial⟩
    have c13 := kb3.cell C13.out
    have hr := HA.out.keep hk3
    have HALL := Lib.hid hall
    have HR := Lib.hid hr
    have HK3 := Lib.hid hk3
    have HO3 := Lib.hid own3
    have C13b := Lib.hid c13
    clear hall hr c13 kb2 kb3 own2 hk2
    go_wp2_with fail
    refine (sum_any _ _ 1 _ _ HALL.out).mono ?_
    rintro e W3 ⟨rfl, rfl⟩
    rw [show [X ++ [0, 0] ++ ([s0, s1, s2, s3] ++ [d0, d1, d2, d3])].flatten = X ++ [0, 0] ++ ([s0, s1, s2, s3] ++ [d0, d1, d2, d3]) by simp]
    obtain ⟨S, hS⟩ : ∃ S, 65535 - Ck.ck (X ++ [0, 0] ++ ([s0, s1, s2, s3] ++ [d0, d1, d2, d3])) = S := ⟨_, rfl⟩
    have hS2 : S ≤ 65535 := by omega
    rw [hS] at HY ⊢
    clear hS hck hk3 own3
    generalize w2.alloc (.cells #[.slice (some ⟨g2, 0, none⟩) 20 cap2] 24) = W3 at HR HK3 HO3 C13b ⊢
    obtain ⟨ca, _, z10⟩ := HO3.out.cell8 (k := 10) (by decide)
    obtain ⟨cb, _, z11⟩ := HO3.out.cell8 (k := 11) (by decide)
    have fz10 := HO3.out.frozen 10
    have fz11 := HO3.out.frozen 11
    have hk5 := (HK3.out.setCell (p := ⟨g2, 10, none⟩) (Nat.le_of_lt glo2) (.int .u8 ((S : Int) / 256))).setCell (p := ⟨g2, 11, none⟩) (Nat.le_of_lt glo2) (.int .u8 ((S : Int) % 256))
    have own5 := (HO3.out.set8 10 ((S : Int) / 256) (by omega) (by omega)).set8 11 ((S : Int) % 256) (by omega) (by omega)
    have ec : ∀ u v : Value, ((W3.setCell ⟨g2, 10, none⟩ u).setCell ⟨g2, 11, none⟩ v).cell? ⟨w.heap.size, 13, none⟩ = some (.slice A n c) := by
      intro u v
      rw [World.cell?_setCell_other _ _ _ _ (fun e => by have := congrArg Addr.block e; simp at this; omega), World.cell?_setCell_other _ _ _ _ (fun e => by have := congrArg Addr.block e; simp at this; omega)]
      exact C13b.out
    have e10 : (UInt8.ofNat ((S : Int) / 256).toNat) = UInt8.ofNat (S / 256) := by congr 1
    have e11 : (UInt8.ofNat ((S : Int) % 256).toNat) = UInt8.ofNat S := UInt8.toNat_inj.1 (by rw [UInt8.toNat_ofNat', UInt8.toNat_ofNat']; omega)
    rw [set_mid X ([s0, s1, s2, s3] ++ [d0, d1, d2, d3]) 0 0 _ _ hplen, e10, e11] at own5
    have OWN5 := Lib.hid own5
    have HK5 := Lib.hid hk5
    clear own5 hk5 e10 e11
    go_wp2_with (first
      | (at_builtin; refine app8 (by rfl) (.tmp 90) (.tmp 92) rfl rfl rfl OWN5.out (HA.out.keep HK5.out) (20 + n) Y rfl HY.out (by omega) HK5.out.size ?_; intro g6 cap6 w6 own6 gr6 at6; have hk6 := HK5.out.grown gr6 (Nat.le_of_lt glo2)))
    go_ret2
    exact ⟨hk6, g6, cap6, rfl, own6⟩
end Go.Proofs.Ytnoobifdaldfiaa.Fr
