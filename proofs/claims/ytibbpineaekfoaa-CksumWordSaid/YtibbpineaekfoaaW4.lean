/-
  The walk of the law CksumWord: it returns true and leaves what was there as it was.
-/
import Derived.Test.YtibbpineaekfoaaW5
import Derived.BigRegion
namespace Go.Proofs.Ytibbpineaekfoaa
open Go.RowKit

theorem two_bytes (S : Nat) (h : S ≤ 65535) : (#[.int .u8 ((S : Int) / 256), .int .u8 ((S : Int) % 256)] : Array Value) = (bvs [UInt8.ofNat (S / 256), UInt8.ofNat (S % 256)]).toArray := by
  have e1 : (((UInt8.ofNat (S / 256)).toNat : Nat) : Int) = (S : Int) / 256 := by rw [UInt8.toNat_ofNat']; omega
  have e2 : (((UInt8.ofNat (S % 256)).toNat : Nat) : Int) = (S : Int) % 256 := by rw [UInt8.toNat_ofNat']; omega
  simp only [bvs, List.map_cons, List.map_nil, e1, e2]

theorem word_cases (P Q G : Nat) (L1 : (P = Q ∨ (P + Q = 65535 ∧ (P = 0 ∨ Q = 0))) → G = 65535 ∨ G = 0) (L2 : ¬ (P = Q ∨ (P + Q = 65535 ∧ (P = 0 ∨ Q = 0))) → G ≠ 65535) :
    (((P : Int) == (Q : Int)) = true ∧ (G = 65535 ∨ G = 0)) ∨
    (((P : Int) == (Q : Int)) = false ∧ ((P : Int) + (Q : Int) == 65535) = true ∧ ((P : Int) * (Q : Int) == 0) = true ∧ (G = 65535 ∨ G = 0)) ∨
    (((P : Int) == (Q : Int)) = false ∧ ((P : Int) + (Q : Int) == 65535) = true ∧ ((P : Int) * (Q : Int) == 0) = false ∧ G ≠ 65535) ∨
    (((P : Int) == (Q : Int)) = false ∧ ((P : Int) + (Q : Int) == 65535) = false ∧ G ≠ 65535) := by
  by_cases h1 : P = Q
  · exact .inl ⟨by simp; omega, L1 (.inl h1)⟩
  · right
    have t2 : ((P : Int) == (Q : Int)) = false := by simp; omega
    by_cases h2 : P + Q = 65535
    · have t3 : ((P : Int) + (Q : Int) == 65535) = true := by simp; omega
      by_cases h3 : P = 0 ∨ Q = 0
      · exact .inl ⟨t2, t3, by rw [beq_iff_eq]; rcases h3 with h | h <;> simp [h], L1 (.inr ⟨h2, h3⟩)⟩
      · exact .inr (.inl ⟨t2, t3, by rw [beq_eq_false_iff_ne, ne_eq, Int.mul_eq_zero]; omega, L2 (by rintro (h | ⟨_, h⟩); exact h1 h; exact h3 h)⟩)
    · exact .inr (.inr ⟨t2, by simp; omega, L2 (by rintro (h | ⟨h, _⟩); exact h1 h; exact h2 h)⟩)

theorem ck_self (l : List UInt8) (S : Nat) (hl : l.length % 2 = 0) (hS : S + Ck.ck l = 65535) : Ck.ck (l ++ [UInt8.ofNat (S / 256), UInt8.ofNat (S % 256)]) = 65535 := by
  have e1 : (UInt8.ofNat (S / 256)).toNat = S / 256 := by rw [UInt8.toNat_ofNat']; omega
  have e2 : (UInt8.ofNat (S % 256)).toNat = S % 256 := by rw [UInt8.toNat_ofNat']; omega
  unfold Ck.ck at hS ⊢
  rw [Ck.wsum_even _ _ _ hl]
  simp only [Ck.wsum, e1, e2]
  rw [← Ck.norm_add, show Ck.norm (Ck.wsum true l) + (256 * (S / 256) + (S % 256 + 0)) = 65535 by omega]
  rfl

set_option maxRecDepth 100000 in
set_option maxHeartbeats 1000000 in
theorem word_walk (w : World) (A : Option Addr) (n c : Nat) (la : List UInt8) (a : Int) (hb lb : UInt8)
    (hA : Rd w 0 A n la) (hn : n ≤ 140737488351232) (_ha : (Lit.int .i64 a).wf = true) :
    Calls Try.prog 6 #[.slice A n c, .int .i64 a, .agg #[.int .u8 (hb.toNat : Int), .int .u8 (lb.toNat : Int)]] w fun e w' => e = .returned (.bool true) ∧ Kp w w' := by
  have ela := Lib.hid hA.len
  have bh : (hb.toNat : Int) < 256 := by have := hb.toNat_lt; omega
  have bl : (lb.toNat : Int) < 256 := by have := lb.toNat_lt; omega
  by_cases hc : n ≤ 2000 ∧ n % 2 = 0
  · obtain ⟨hn1, hn2⟩ := hc
    have t1 : ((n : Int) % 2 == 1) = false := by simp; omega
    have HN : Hid (n ≤ maxLen) := Lib.hid (by unfold maxLen; omega)
    obtain ⟨F, hF⟩ : ∃ F, Ck.ck [la].flatten = F := ⟨_, rfl⟩
    have bF := Ck.ck_le [la].flatten
    rw [hF] at bF
    have EF := Lib.hid hF
    have HN2 := Lib.hid hn2
    obtain ⟨S, hS⟩ : ∃ S, 65535 - F = S := ⟨_, rfl⟩
    have bS : S ≤ 65535 := by omega
    have ES := Lib.hid hS
    obtain ⟨X, hX⟩ : ∃ X, la ++ [UInt8.ofNat (S / 256), UInt8.ofNat (S % 256)] = X := ⟨_, rfl⟩
    have cX : Ck.ck X = 65535 := by
      rw [← hX]; exact ck_self la S (by rw [ela.out]; exact hn2) (by rw [← hF] at hS; simp only [List.flatten_cons, List.flatten_nil, List.append_nil] at hS; have := Ck.ck_le la; omega)
    have E1 : Hid (Ck.ck [X].flatten = 65535) := Lib.hid (by simpa using cX)
    have EX := Lib.hid hX
    obtain ⟨nx, hnx⟩ : ∃ nx, n + 2 = nx := ⟨_, rfl⟩
    have NX := Lib.hid hnx
    have bnx : nx ≤ 2002 ∧ 2 ≤ nx := by omega
    obtain ⟨bnx1, bnx2⟩ := bnx
    have NM : Hid (nx ≤ maxLen) := Lib.hid (by unfold maxLen; omega)
    obtain ⟨j, hj, ej⟩ := u64_rem a (nx / 2) (by omega)
    have ej' : (IntKind.u64.wrap a).tmod ((nx : Int) / 2) = (j : Int) := by rw [← ej]; congr 1
    obtain ⟨i, hi⟩ : ∃ i : Nat, i = 2 * j := ⟨_, rfl⟩
    have ei : 2 * (j : Int) = (i : Int) := by omega
    obtain ⟨j2, hj2⟩ : ∃ j2, j2 = hb.toNat % (nx / 2) := ⟨_, rfl⟩
    have ej2 : (hb.toNat : Int) % ((nx : Int) / 2) = (j2 : Int) := by rw [hj2, Int.natCast_emod, Int.natCast_ediv]; rfl
    have ej3 : (hb.toNat : Int).tmod ((nx : Int) / 2) = (j2 : Int) := by rw [Int.tmod_eq_emod_of_nonneg (by omega)]; exact ej2
    have hj2' : j2 < nx / 2 := by rw [hj2]; exact Nat.mod_lt _ (by omega)
    obtain ⟨k, hk'⟩ : ∃ k : Nat, k = 2 * j2 := ⟨_, rfl⟩
    have ek : 2 * (j2 : Int) = (k : Int) := by omega
    have hi1 : i + 1 < nx := by omega
    have hk1 : k + 1 < nx := by omega
    have I2 := Lib.hid (show i % 2 = 0 by omega)
    have K2 := Lib.hid (show k % 2 = 0 by omega)
    clear hF hn2 hS hX cX hnx ej hi hj2 hk'
    go_enter Try.func6, Try.ntmps6
    go_wp2_with (go_at_call 13; refine (lives_any _).mono ?_; rintro e w' ⟨rfl, hk⟩)
    go_quiet (fail)
    have hk0 : Kp w ((w.alloc (.cells #[.int .u8 (hb.toNat : Int), .int .u8 (lb.toNat : Int)] 30)).drewN nq) := ((Kp.refl w).alloc _).of_drawn nq
    generalize (w.alloc (.cells #[.int .u8 (hb.toNat : Int), .int .u8 (lb.toNat : Int)] 30)).drewN nq = W0 at hk0 ⊢
    go_wp2_with (go_at_call 13; refine (lives_any _).mono ?_; rintro e w' ⟨rfl, hk⟩)
    have hk1 := hk0.trans hk
    clear hk hk0
    refine (sum_any _ _ _ _ [la] ?_).mono ?_
    · exact rdAll_mk (by simp) rfl (by decide) ⟨⟨_, _, _, rfl, hA.keep hk1, HN.out⟩, trivial⟩
    rintro e w2 ⟨rfl, rfl⟩
    rw [EF.out, ES.out]
    have hk2 : Kp w ((w'.alloc (.cells #[.slice A n c] 22)).alloc (.cells #[] 5)) := (hk1.alloc _).alloc _
    have own0 : OwnV 5 ((w'.alloc (.cells #[.slice A n c] 22)).alloc (.cells #[] 5)) w.heap.size (w'.heap.size + 1) 0 0 (bvs []) :=
      OwnV.lit (vs := []) (by simp) (by have := hk1.size; omega) rfl (by decide)
    go_wp2_with (first
      | (at_builtin; refine app8 (by rfl) (.tmp 38) (.tmp 39) rfl rfl rfl own0 (hA.keep hk2) n la (by omega) rfl (by omega) hk2.size ?_; intro g1 cap1 w1 own1 gr1 at1; have hk3 := hk2.grown gr1 own0.lo_le)
      | (at_builtin; refine app8 (by rfl) (.tmp 40) (.tmp 46) rfl rfl rfl (own1.keep ((Kp.refl _).alloc _)) (rd_lit (l := [UInt8.ofNat (S / 256), UInt8.ofNat (S % 256)]) rfl (Nat.zero_le _) rfl (two_bytes S bS)) nx X NX.out EX.out (by omega) (hk3.alloc _).size ?_; intro g2 cap2 w2 own2 gr2 at2; have hk4 := (hk3.alloc _).grown gr2 own1.lo_le))
    clear own1 gr1 at1 own0 hk3 hk2 gr2 at2
    refine (right_any _ _ _ _ [X] ?_).mono ?_
    · exact rdAll_mk (by simp) rfl (by decide) ⟨⟨_, _, _, rfl, own2.rd0, NM.out⟩, trivial⟩
    rintro e w5 ⟨rfl, rfl⟩
    rw [E1.out]
    have hk5 : Kp w ((w2.alloc (.cells #[.slice (some ⟨g2, 0, none⟩) nx cap2] 22)).alloc (.cells #[] 5)) := (hk4.alloc _).alloc _
    have own3 : OwnV 5 ((w2.alloc (.cells #[.slice (some ⟨g2, 0, none⟩) nx cap2] 22)).alloc (.cells #[] 5)) (w2.alloc (.cells #[.slice (some ⟨g2, 0, none⟩) nx cap2] 22)).heap.size (w2.heap.size + 1) 0 0 (bvs []) :=
      OwnV.lit (vs := []) (by simp) (by simp) rfl (by decide)
    have kx : Kp (w2.alloc (.cells #[.slice (some ⟨g2, 0, none⟩) nx cap2] 22)) ((w2.alloc (.cells #[.slice (some ⟨g2, 0, none⟩) nx cap2] 22)).alloc (.cells #[] 5)) := (Kp.refl _).alloc _
    have own2' := own2.keep ((Kp.refl _).alloc (.cells #[.slice (some ⟨g2, 0, none⟩) nx cap2] 22))
    go_wp2_with (at_builtin; refine app8 (by rfl) (.tmp 70) (.tmp 71) rfl rfl rfl own3 (own2'.rd0.keep kx) nx X (by omega) rfl (by omega) kx.size ?_; intro g3 cap3 w3 own4 gr3 at3; have kx2 := kx.grown gr3 own3.lo_le; have hk6 := hk5.grown gr3 (by have := hk4.size; simp; omega))
    have lt2 := own2'.lt
    have hne : ¬ g3 = g2 := by have := own4.lo_le; omega
    have own5 := own2'.keep kx2
    clear own2 own2' own3 kx gr3 at3 hk5 kx2
    obtain ⟨y0, hy0, cy0⟩ := own4.cell8 (k := i) (by omega)
    obtain ⟨y1, hy1, cy1⟩ := own4.cell8 (k := i + 1) (by omega)
    obtain ⟨y2, hy2, cy2⟩ := own4.cell8 (k := k) (by omega)
    obtain ⟨y3, hy3, cy3⟩ := own4.cell8 (k := k + 1) (by omega)
    have fr0 := own4.frozen i
    have fr1 := own4.frozen (i + 1)
    have fr2 := own4.frozen k
    have fr3 := own4.frozen (k + 1)
    have HY0 := Lib.hid hy0
    have HY1 := Lib.hid hy1
    have HY2 := Lib.hid hy2
    have HY3 := Lib.hid hy3
    have O4 := Lib.hid own4
    have O5 := Lib.hid own5
    have H6 := Lib.hid hk6
    clear hy0 hy1 hy2 hy3 own4 own5 hk6
    have s1 : IntKind.i64.wrap ((i : Int) + 1) = (i : Int) + 1 := IntWalk.i64_in _ (by omega)
    have s2 : 0 ≤ (i : Int) + 1 := by omega
    have s3 : ((i : Int) + 1).toNat = i + 1 := by omega
    have s4 : (i : Int) + 1 < nx := by omega
    have r1 : IntKind.i64.wrap ((k : Int) + 1) = (k : Int) + 1 := IntWalk.i64_in _ (by omega)
    have r2 : 0 ≤ (k : Int) + 1 := by omega
    have r3 : ((k : Int) + 1).toNat = k + 1 := by omega
    have r4 : (k : Int) + 1 < nx := by omega
    have r5 : (k : Int) < nx := by omega
    have r6 : (i : Int) < nx := by omega
    have cXX : Ck.norm (Ck.wsum true X) = 65535 := by have := E1.out; simpa [Ck.ck] using this
    have CXX := Lib.hid cXX
    clear cXX
    have B4 : ∀ o : Nat, w.heap.size ≤ (⟨g3, o, none⟩ : Addr).block := fun o => by have h1 := O4.out.lo_le; have h2 := hk4.size; simp at h1; simp; omega
    have ne : ∀ o : Nat, g2 ≠ (⟨g3, o, none⟩ : Addr).block := fun o h => hne h.symm
    have O4F := Lib.hid ((((O4.out.setb i y2).setb (i + 1) y3).setb k y0).setb (k + 1) y1).drew
    have O5F := Lib.hid ((((O5.out.other (ne i) (.int .u8 (y2.toNat : Int))).other (ne (i + 1)) (.int .u8 (y3.toNat : Int))).other (ne k) (.int .u8 (y0.toNat : Int))).other (ne (k + 1)) (.int .u8 (y1.toNat : Int))).drew
    have H6F := Lib.hid ((((H6.out.setCell (B4 i) (.int .u8 (y2.toNat : Int))).setCell (B4 (i + 1)) (.int .u8 (y3.toNat : Int))).setCell (B4 k) (.int .u8 (y0.toNat : Int))).setCell (B4 (k + 1)) (.int .u8 (y1.toNat : Int))).drew
    obtain ⟨Y, hY⟩ : ∃ Y, (((X.set i y2).set (i + 1) y3).set k y0).set (k + 1) y1 = Y := ⟨_, rfl⟩
    have EY : Hid (Ck.ck [Y].flatten = 65535) := Lib.hid (by
      rw [← hY]
      simp only [List.flatten_cons, List.flatten_nil, List.append_nil]
      unfold Ck.ck
      rw [Ck.swap_sum X i k y0 y1 y2 y3 I2.out K2.out HY0.out HY1.out HY2.out HY3.out]
      exact CXX.out)
    rw [hY] at O4F
    clear hY B4 ne
    obtain ⟨x0, hx0, cx0⟩ := O5F.out.cell8 (k := i) (by omega)
    obtain ⟨x1, hx1, cx1⟩ := O5F.out.cell8 (k := i + 1) (by omega)
    have fx0 := O5F.out.frozen i
    have fx1 := O5F.out.frozen (i + 1)
    have HX0 := Lib.hid hx0
    have HX1 := Lib.hid hx1
    clear hx0 hx1
    have CX0 := Lib.hid cx0
    have CX1 := Lib.hid cx1
    have FX0 := Lib.hid fx0
    have FX1 := Lib.hid fx1
    clear cx0 cx1 fx0 fx1
    generalize hW : ((((w3.setCell ⟨g3, i, none⟩ (.int .u8 (y2.toNat : Int))).setCell ⟨g3, i + 1, none⟩ (.int .u8 (y3.toNat : Int))).setCell ⟨g3, k, none⟩ (.int .u8 (y0.toNat : Int))).setCell ⟨g3, k + 1, none⟩ (.int .u8 (y1.toNat : Int))).drew = W4 at O4F O5F H6F CX0 CX1 FX0 FX1
    have HW := Lib.hid hW
    clear hW
    by_cases hik : i = k
    case' pos =>
      obtain rfl := hik
      have e2 : y2 = y0 := by have h0 := HY0.out; have h2 := HY2.out; rw [h0] at h2; injection h2 with h2; exact h2.symm
      have e3 : y3 = y1 := by have h0 := HY1.out; have h2 := HY3.out; rw [h0] at h2; injection h2 with h2; exact h2.symm
      subst e2
      subst e3
      go_region
      rw [HW.out]
    case' neg =>
      have d1 : ¬ k = i := fun h => hik h.symm
      have d2 : ¬ k = i + 1 := by have := I2.out; have := K2.out; omega
      have d3 : ¬ i = k + 1 := by have := I2.out; have := K2.out; omega
      have d4 : ¬ i + 1 = k := fun h => d2 h.symm
      have d5 : ¬ k + 1 = i := fun h => d3 h.symm
      have d6 : ¬ k + 1 = i + 1 := by omega
      have d7 : ¬ i + 1 = k + 1 := by omega
      go_region
      rw [HW.out]
    all_goals
      clear HW fr0 fr1 fr2 fr3 cy0 cy1 cy2 cy3 O4 O5 H6
      obtain ⟨T, eT, eT2⟩ := Ck.wsum_word X i x0 x1 I2.out HX0.out HX1.out
      obtain ⟨P, hP⟩ : ∃ P : Nat, 256 * x0.toNat + x1.toNat = P := ⟨_, rfl⟩
      obtain ⟨Q, hQ⟩ : ∃ Q : Nat, 256 * hb.toNat + lb.toNat = Q := ⟨_, rfl⟩
      have bx0 : (x0.toNat : Int) < 256 := by have := x0.toNat_lt; omega
      have bx1 : (x1.toNat : Int) < 256 := by have := x1.toNat_lt; omega
      have eP : (x0.toNat : Int) * 256 + (x1.toNat : Int) = (P : Int) := by omega
      have eQ : (hb.toNat : Int) * 256 + (lb.toNat : Int) = (Q : Int) := by omega
      have bP : P ≤ 65535 := by omega
      have bQ : Q ≤ 65535 := by omega
      have eQ2 := eT2 hb lb
      rw [hQ] at eQ2
      rw [hP] at eT
      obtain ⟨Z, hZ⟩ : ∃ Z, (X.set i hb).set (i + 1) lb = Z := ⟨_, rfl⟩
      rw [hZ] at eQ2
      have hZ := Lib.hid hZ
      obtain ⟨G, hG⟩ : ∃ G, Ck.ck Z = G := ⟨_, rfl⟩
      have bG := Ck.ck_le Z
      rw [hG] at bG
      have E2 : Hid (Ck.ck (str Z).data.toList = G) := Lib.hid (by rw [str_list]; exact hG)
      have E3 : Hid (Ck.ck [Z].flatten = G) := Lib.hid (by simpa using hG)
      have nG : Ck.norm (T + Q) = G := by rw [← eQ2]; exact hG
      have nP : Ck.norm (T + P) = 65535 := by rw [← eT]; exact CXX.out
      have L1 : Hid ((P = Q ∨ (P + Q = 65535 ∧ (P = 0 ∨ Q = 0))) → G = 65535 ∨ G = 0) := Lib.hid (fun h => by rw [← nG]; exact Ck.word_same T P Q nP h)
      have L2 : Hid (¬ (P = Q ∨ (P + Q = 65535 ∧ (P = 0 ∨ Q = 0))) → G ≠ 65535) := Lib.hid (fun h => by rw [← nG]; exact Ck.word_law T P Q bP bQ nP h)
      have PQ0 : 0 ≤ (P : Int) * (Q : Int) := Int.mul_nonneg (by omega) (by omega)
      have PQ1 : (P : Int) * (Q : Int) ≤ 4294836225 := by
        have : P * Q ≤ 65535 * 65535 := Nat.mul_le_mul bP bQ
        have h2 : ((P * Q : Nat) : Int) ≤ 4294836225 := by omega
        rwa [Int.natCast_mul] at h2
      have O5Z := O5F.out
      have cx0 := CX0.out
      have cx1 := CX1.out
      clear eT eT2 hP hQ eQ2 hG nG nP O5Z r1 r2 r3 r4 r5 hA hn ela bS hn1 t1 ej' ei ej2 ej3 bF hj hj2'
      go_wp2
      go_quiet (fail)
      have hk8 := H6F.out.of_drawn nq
      have o5 := O5F.out.drawn nq
      have o4 := O4F.out.drawn nq
      clear cx0 cx1
      have cx0 : (W4.drewN nq).cell? ⟨g2, i, none⟩ = some (.int .u8 (x0.toNat : Int)) := CX0.out
      have cx1 : (W4.drewN nq).cell? ⟨g2, i + 1, none⟩ = some (.int .u8 (x1.toNat : Int)) := CX1.out
      have fx0 := o5.frozen i
      have fx1 := o5.frozen (i + 1)
      generalize W4.drewN nq = W5 at hk8 o5 o4 cx0 cx1 fx0 fx1 ⊢
      have o6 := (o5.setb i hb).setb (i + 1) lb
      rw [hZ.out] at o6
      have o7 := (o4.other (a := ⟨g2, i, none⟩) hne (.int .u8 (hb.toNat : Int))).other (a := ⟨g2, i + 1, none⟩) hne (.int .u8 (lb.toNat : Int))
      have hk9 := (hk8.setCell (p := ⟨g2, i, none⟩) o5.lo_le (.int .u8 (hb.toNat : Int))).setCell (p := ⟨g2, i + 1, none⟩) o5.lo_le (.int .u8 (lb.toNat : Int))
      have cs := conv_str (P := Try.prog) (c := cap2) Try.underlying22 Try.underlying5 Try.underlying9 o6.rd0
      have hls : (str Z).size ≤ 65536 := by rw [str_size, o6.rd0.len]; omega
      have HLS := Lib.hid hls
      have O6 := Lib.hid o6
      have O7 := Lib.hid o7
      have HK9 := Lib.hid hk9
      clear hls o6 o7 hk9 o5 o4 hk8 hk4
      have WC := word_cases P Q G L1.out L2.out
      clear L1 L2
      rcases WC with ⟨t2, hG⟩ | ⟨t2, t3, t4, hG⟩ | ⟨t2, t3, t4, hG⟩ | ⟨t2, t3, hG⟩
      all_goals
        have HG := Lib.hid hG
        clear hG
        go_wp2_with (go_at_call 16; refine (rfold_any _ _ HLS.out).mono ?_; rintro e w5 ⟨rfl, rfl⟩; rw [E2.out])
        refine (right_any _ _ _ _ [Y] ?_).mono ?_
        · exact rdAll_mk (by simp) rfl (by decide) ⟨⟨_, _, _, rfl, O7.out.rd0, NM.out⟩, trivial⟩
        rintro e w5 ⟨rfl, rfl⟩
        rw [EY.out]
        go_wp2_with fail
        refine (right_any _ _ _ _ [Z] ?_).mono ?_
        · exact rdAll_mk (by simp) rfl (by decide) ⟨⟨_, _, _, rfl, O6.out.rd0.keep ((Kp.refl _).alloc _), NM.out⟩, trivial⟩
        rintro e w5 ⟨rfl, rfl⟩
        rw [E3.out]
        first
          | (rcases (show G = 65535 ∨ G = 0 from HG.out) with h | h <;> subst h <;> go_wp2 <;> go_ret <;> exact ⟨rfl, (HK9.out.alloc _).alloc _⟩)
          | (have t5 : (G == 65535) = false := by simpa using (show G ≠ 65535 from HG.out)
             go_wp2
             go_ret
             exact ⟨rfl, (HK9.out.alloc _).alloc _⟩)
  · go_enter Try.func6, Try.ntmps6
    go_wp2_with (go_at_call 13; refine (lives_any _).mono ?_; rintro e w' ⟨rfl, hk⟩)
    go_quiet (fail)
    have hk0 : Kp w ((w.alloc (.cells #[.int .u8 (hb.toNat : Int), .int .u8 (lb.toNat : Int)] 30)).drewN nq) := ((Kp.refl w).alloc _).of_drawn nq
    generalize (w.alloc (.cells #[.int .u8 (hb.toNat : Int), .int .u8 (lb.toNat : Int)] 30)).drewN nq = W0 at hk0 ⊢
    go_wp2_with (go_at_call 13; refine (lives_any _).mono ?_; rintro e w' ⟨rfl, hk⟩)
    all_goals first
      | (go_ret; exact ⟨rfl, (Kp.trans hk0 (by assumption)).trans hk⟩)
      | (exfalso; simp only [beq_eq_false_iff_ne, ne_eq] at *; omega)
end Go.Proofs.Ytibbpineaekfoaa
