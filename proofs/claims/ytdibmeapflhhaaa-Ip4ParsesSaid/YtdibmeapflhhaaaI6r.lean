/-
  The contract of the document's Parse for packets.
-/
import Derived.Test.YtdibmeapflhhaaaI6g
namespace Go.Proofs.Ytdibmeapflhhaaa
open Go.RowKit

theorem size_alloc1 {w : World} {X : Obj} : (w.alloc X).heap.size = w.heap.size + 1 := by simp

set_option maxHeartbeats 1000000 in
theorem rp6_short (w : World) (l : List UInt8) (h : l.length < 20) : Calls Try.prog 27 #[.string (str l)] w (PktNo w 6) := by
  have hsz := str_size l
  have hbk := heap_alloc_new w (.cells #[.int .u16 0, .bool false, .int .i64 0, .int .u8 0, .int .u8 0, .int .u8 0, .int .u8 0, .int .u8 0, .int .u8 0, .int .u8 0, .int .u8 0, .int .u8 0, .int .u8 0, .slice none 0 0] 50)
  have hb2 := ((Kp.refl _).alloc (.cells #[.int .u16 0, .bool false, .int .i64 0, .int .u8 0, .int .u8 0, .int .u8 0, .int .u8 0, .int .u8 0, .int .u8 0, .int .u8 0, .int .u8 0, .int .u8 0, .int .u8 0, .slice none 0 0] 50)).block _ (Array.getElem?_eq_some_iff.1 hbk).1 |>.trans hbk
  have hb4 := heap_alloc_new (w.alloc (.cells #[.int .u16 0, .bool false, .int .i64 0, .int .u8 0, .int .u8 0, .int .u8 0, .int .u8 0, .int .u8 0, .int .u8 0, .int .u8 0, .int .u8 0, .int .u8 0, .int .u8 0, .slice none 0 0] 50)) (.cells #[.int .u16 0, .bool false, .int .i64 0, .int .u8 0, .int .u8 0, .int .u8 0, .int .u8 0, .int .u8 0, .int .u8 0, .int .u8 0, .int .u8 0, .int .u8 0, .int .u8 0, .slice none 0 0] 50)
  rw [size_alloc1] at hb4
  have hrow := setRow_heap _ w.heap.size _ #[.int .u16 0, .bool false, .int .i64 0, .int .u8 0, .int .u8 0, .int .u8 0, .int .u8 0, .int .u8 0, .int .u8 0, .int .u8 0, .int .u8 0, .int .u8 0, .int .u8 0, .slice none 0 0] _ _ hb2
  have HX := Lib.hid hb2
  have HY := Lib.hid hb4
  clear hbk hb2 hb4
  go_enter Try.func27, Try.ntmps27
  go_wp2_with (first | (refine lst_new (by rfl) (.tmp 4) (.tmp 8) _ rfl rfl rfl szPkt rfl rfl rfl ?_) | (refine lld_row (by rfl) (.tmp 4) _ _ rfl rfl HY.out Try.underlying50 rfl szPkt ?_; refine lst_row (by rfl) (.tmp 2) (.tmp 12) _ rfl rfl rfl HX.out szPkt rfl rfl rfl ?_))
  refine bodyPost_ret (v := .tuple #[.agg #[.int .u16 0, .bool false, .int .i64 0, .int .u8 0, .int .u8 0, .int .u8 0, .int .u8 0, .int .u8 0, .int .u8 0, .int .u8 0, .int .u8 0, .int .u8 0, .int .u8 0, .slice none 0 0], .int .i64 6]) (results_cell2 (fn := Try.f27) szPkt uPkt hrow rfl Try.results27 rfl rfl) rfl ⟨(((Kp.refl _).alloc _).alloc _).setRow (Nat.le_refl _), rfl⟩

noncomputable def r6aphi (S : ByteArray) (p0 : UInt8) (hd al : Nat) : Nat → St := fun i => ([St.val (.string S),
  St.val (.int .u8 (p0.toNat : Int)),
  St.val (.int .u8 (hd : Int)),
  St.val (.int .i64 (hd : Int)),
  St.val (.int .i64 (4 * (hd : Int))),
  St.val (.string S),
  St.val (.int .i64 (al : Int)),
  St.val (.int .i64 (4 * (hd : Int))),
  St.val (.int .i64 (al : Int))] : List St).getD i St.any

noncomputable def r6bphi (w : World) (S : ByteArray) (q0 q1 s0 s1 s2 s3 d0 d1 d2 d3 : UInt8) (idn pc pq pr pm hd al : Nat) (mo : Bool) (data : List UInt8) : Nat → St := fun i => ([St.val (.string S),
  St.val (.int .i64 (idn : Int)),
  St.val (.int .u16 (idn : Int)),
  St.val (.int .i64 (pc : Int)),
  St.val (.int .i64 (pq : Int)),
  St.val (.int .i64 (pr : Int)),
  St.val (.bool mo),
  St.val (.int .i64 (pc : Int)),
  St.val (.int .i64 (pm : Int)),
  St.val (.int .i64 (8 * (pm : Int))),
  St.val (.string S),
  St.val (.int .u8 (q0.toNat : Int)),
  St.val (.string S),
  St.val (.int .u8 (q1.toNat : Int)),
  St.val (.string S),
  St.val (.int .u8 (s0.toNat : Int)),
  St.val (.string S),
  St.val (.int .u8 (s1.toNat : Int)),
  St.val (.string S),
  St.val (.int .u8 (s2.toNat : Int)),
  St.val (.string S),
  St.val (.int .u8 (s3.toNat : Int)),
  St.val (.agg #[.int .u8 (s0.toNat : Int), .int .u8 (s1.toNat : Int), .int .u8 (s2.toNat : Int), .int .u8 (s3.toNat : Int)]),
  St.val (.string S),
  St.val (.int .u8 (d0.toNat : Int)),
  St.val (.string S),
  St.val (.int .u8 (d1.toNat : Int)),
  St.val (.string S),
  St.val (.int .u8 (d2.toNat : Int)),
  St.val (.string S),
  St.val (.int .u8 (d3.toNat : Int)),
  St.val (.agg #[.int .u8 (d0.toNat : Int), .int .u8 (d1.toNat : Int), .int .u8 (d2.toNat : Int), .int .u8 (d3.toNat : Int)]),
  St.val (.string S),
  St.val (.int .i64 (4 * (hd : Int))),
  St.val (.int .i64 (al : Int)),
  St.val (.string (str data)),
  St.rdk (w.heap.size + 1) data.length data,
  St.withRd (w.heap.size + 1) data.length data (fun A c => .agg #[.int .u16 (idn : Int), .bool mo, .int .i64 (8 * (pm : Int)), .int .u8 (q0.toNat : Int), .int .u8 (q1.toNat : Int), .int .u8 (s0.toNat : Int), .int .u8 (s1.toNat : Int), .int .u8 (s2.toNat : Int), .int .u8 (s3.toNat : Int), .int .u8 (d0.toNat : Int), .int .u8 (d1.toNat : Int), .int .u8 (d2.toNat : Int), .int .u8 (d3.toNat : Int), .slice A data.length c])] : List St).getD i St.any

/-- the error's return: none, and the number -/
theorem mul8 (m : Nat) (h : m < 8192) : wrap64 ((m : Int) * 8) = 8 * (m : Int) := by unfold wrap64; omega

set_option maxRecDepth 100000 in
set_option maxHeartbeats 4000000 in
theorem rp6_long (w : World) (p0 p1 p2 p3 p4 p5 p6 p7 q0 q1 q2 q3 s0 s1 s2 s3 d0 d1 d2 d3 : UInt8) (r : List UInt8) (hn2 : (p0 :: p1 :: p2 :: p3 :: p4 :: p5 :: p6 :: p7 :: q0 :: q1 :: q2 :: q3 :: s0 :: s1 :: s2 :: s3 :: d0 :: d1 :: d2 :: d3 :: r).length ≤ 65536) :
    Calls Try.prog 27 #[.string (str (p0 :: p1 :: p2 :: p3 :: p4 :: p5 :: p6 :: p7 :: q0 :: q1 :: q2 :: q3 :: s0 :: s1 :: s2 :: s3 :: d0 :: d1 :: d2 :: d3 :: r))] w (P6Post w (p0 :: p1 :: p2 :: p3 :: p4 :: p5 :: p6 :: p7 :: q0 :: q1 :: q2 :: q3 :: s0 :: s1 :: s2 :: s3 :: d0 :: d1 :: d2 :: d3 :: r)) := by
  have hbk := heap_alloc_new w (.cells #[.int .u16 0, .bool false, .int .i64 0, .int .u8 0, .int .u8 0, .int .u8 0, .int .u8 0, .int .u8 0, .int .u8 0, .int .u8 0, .int .u8 0, .int .u8 0, .int .u8 0, .slice none 0 0] 50)
  have hb2 := ((Kp.refl _).alloc (.cells #[.int .u16 0, .bool false, .int .i64 0, .int .u8 0, .int .u8 0, .int .u8 0, .int .u8 0, .int .u8 0, .int .u8 0, .int .u8 0, .int .u8 0, .int .u8 0, .int .u8 0, .slice none 0 0] 50)).block _ (Array.getElem?_eq_some_iff.1 hbk).1 |>.trans hbk
  have hb4 := heap_alloc_new (w.alloc (.cells #[.int .u16 0, .bool false, .int .i64 0, .int .u8 0, .int .u8 0, .int .u8 0, .int .u8 0, .int .u8 0, .int .u8 0, .int .u8 0, .int .u8 0, .int .u8 0, .int .u8 0, .slice none 0 0] 50)) (.cells #[.int .u16 0, .bool false, .int .i64 0, .int .u8 0, .int .u8 0, .int .u8 0, .int .u8 0, .int .u8 0, .int .u8 0, .int .u8 0, .int .u8 0, .int .u8 0, .int .u8 0, .slice none 0 0] 50)
  rw [size_alloc1] at hb4
  have K0 : Kp w ((w.alloc (.cells #[.int .u16 0, .bool false, .int .i64 0, .int .u8 0, .int .u8 0, .int .u8 0, .int .u8 0, .int .u8 0, .int .u8 0, .int .u8 0, .int .u8 0, .int .u8 0, .int .u8 0, .slice none 0 0] 50)).alloc (.cells #[.int .u16 0, .bool false, .int .i64 0, .int .u8 0, .int .u8 0, .int .u8 0, .int .u8 0, .int .u8 0, .int .u8 0, .int .u8 0, .int .u8 0, .int .u8 0, .int .u8 0, .slice none 0 0] 50)) := ((Kp.refl _).alloc _).alloc _
  have HX := Lib.hid hb2
  have HY := Lib.hid hb4
  have HK0 := Lib.hid K0
  clear hbk hb2 hb4 K0
  -- what out6 says
  obtain ⟨L, hL⟩ : ∃ L, p0 :: p1 :: p2 :: p3 :: p4 :: p5 :: p6 :: p7 :: q0 :: q1 :: q2 :: q3 :: s0 :: s1 :: s2 :: s3 :: d0 :: d1 :: d2 :: d3 :: r = L := ⟨_, rfl⟩
  obtain ⟨n, hn⟩ : ∃ n, L.length = n := ⟨_, rfl⟩
  have hn20 : 20 ≤ n := by rw [← hn, ← hL]; simp only [List.length_cons]; omega
  have b0 := p0.toNat_lt
  have b2 := p2.toNat_lt
  have b3 := p3.toNat_lt
  have b4 := p4.toNat_lt
  have b5 := p5.toNat_lt
  have b6 := p6.toNat_lt
  have b7 := p7.toNat_lt
  obtain ⟨al, hal⟩ : ∃ al, 256 * p2.toNat + p3.toNat = al := ⟨_, rfl⟩
  obtain ⟨idn, hid⟩ : ∃ x, 256 * p4.toNat + p5.toNat = x := ⟨_, rfl⟩
  obtain ⟨pc, hpc⟩ : ∃ x, 256 * p6.toNat + p7.toNat = x := ⟨_, rfl⟩
  obtain ⟨hd, hhd⟩ : ∃ x, p0.toNat % 16 = x := ⟨_, rfl⟩
  obtain ⟨ve, hve⟩ : ∃ x, p0.toNat / 16 = x := ⟨_, rfl⟩
  have HO : Hid (out6 L = if form6 p0 al = true then .inl 7 else if L.length < al then .inl 6 else if Ck.ck (L.take (4 * hd)) ≠ 65535 then .inl 8
    else .inr ⟨idn, decide (pc / 8192 % 2 = 1), pc % 8192, q0, q1, [s0, s1, s2, s3], [d0, d1, d2, d3], (L.take al).drop (4 * hd)⟩) := Lib.hid (by
    rw [← hL, ← hal, ← hid, ← hpc, ← hhd]; rfl)
  have hn3 : n ≤ 65536 := by rw [← hn, ← hL]; exact hn2
  have hsz : (str L).size = n := by rw [str_size, hn]
  have HF : form6 p0 al = (ve != 4 || decide (4 * hd < 20) || decide (al < 4 * hd)) := by unfold form6; rw [hhd, hve]
  obtain ⟨ck, hck⟩ : ∃ x, Ck.ck (L.take (4 * hd)) = x := ⟨_, rfl⟩
  have N2 : ∀ W, Calls Try.prog 41 #[.string (str L), .int .i64 2] W fun e w' => e = .returned (.int .i64 (al : Int)) ∧ Kp W w' := fun W => by
    have := num_any W (str L) 2 p2 p3 (by omega) (by omega) (by intro h; subst hL; rfl) (by intro h; subst hL; rfl)
    rw [hal] at this; exact this
  have N4 : ∀ W, Calls Try.prog 41 #[.string (str L), .int .i64 4] W fun e w' => e = .returned (.int .i64 (idn : Int)) ∧ Kp W w' := fun W => by
    have := num_any W (str L) 4 p4 p5 (by omega) (by omega) (by intro h; subst hL; rfl) (by intro h; subst hL; rfl)
    rw [hid] at this; exact this
  have N6 : ∀ W, Calls Try.prog 41 #[.string (str L), .int .i64 6] W fun e w' => e = .returned (.int .i64 (pc : Int)) ∧ Kp W w' := fun W => by
    have := num_any W (str L) 6 p6 p7 (by omega) (by omega) (by intro h; subst hL; rfl) (by intro h; subst hL; rfl)
    rw [hpc] at this; exact this
  have i0 : ∀ h, (str L)[0]'h = p0 := by subst hL; exact fun _ => rfl
  have i8 : ∀ h, (str L)[8]'h = q0 := by subst hL; exact fun _ => rfl
  have i9 : ∀ h, (str L)[9]'h = q1 := by subst hL; exact fun _ => rfl
  have i12 : ∀ h, (str L)[12]'h = s0 := by subst hL; exact fun _ => rfl
  have i13 : ∀ h, (str L)[13]'h = s1 := by subst hL; exact fun _ => rfl
  have i14 : ∀ h, (str L)[14]'h = s2 := by subst hL; exact fun _ => rfl
  have i15 : ∀ h, (str L)[15]'h = s3 := by subst hL; exact fun _ => rfl
  have i16 : ∀ h, (str L)[16]'h = d0 := by subst hL; exact fun _ => rfl
  have i17 : ∀ h, (str L)[17]'h = d1 := by subst hL; exact fun _ => rfl
  have i18 : ∀ h, (str L)[18]'h = d2 := by subst hL; exact fun _ => rfl
  have i19 : ∀ h, (str L)[19]'h = d3 := by subst hL; exact fun _ => rfl
  rw [hL]
  clear hn2
  clear hL
  have hal2 : al ≤ 65535 := by omega
  have hid2 : idn ≤ 65535 := by omega
  have hpc2 : pc ≤ 65535 := by omega
  have hhd2 : hd < 16 := by omega
  have hve2 : ve < 16 := by omega
  have m1 : (p0.toNat : Int) % 16 = (hd : Int) := by omega
  have m2 : (p0.toNat : Int).tmod 16 = (hd : Int) := by rw [Int.tmod_eq_emod_of_nonneg (by omega)]; omega
  have m3 : (p0.toNat : Int) / 16 = (ve : Int) := by omega
  have m4 : (p0.toNat : Int).tdiv 16 = (ve : Int) := by rw [Int.tdiv_eq_ediv_of_nonneg (by omega)]; omega
  have x1 : (str L).extract 0 (4 * hd) = str (L.take (4 * hd)) := by rw [str_extract]; rfl
  obtain ⟨data, hdata⟩ : ∃ x, (L.take al).drop (4 * hd) = x := ⟨_, rfl⟩
  have x2 : (str L).extract (4 * hd) al = str data := by rw [str_extract, hdata]
  have hdl : data.length ≤ 1048576 := by rw [← hdata, List.length_drop, List.length_take]; omega
  have hdl2 : data.length ≤ L.length := by rw [← hdata, List.length_drop, List.length_take]; omega
  rw [hdata] at HO
  have hfs : (str (L.take (4 * hd))).size ≤ 65536 := by rw [str_size, List.length_take]; omega
  have RF : ∀ W, Calls Try.prog 42 #[.string (str (L.take (4 * hd)))] W fun e w' => e = .returned (.int .u16 (ck : Int)) ∧ W = w' := fun W => by
    have := rfold_any W _ hfs
    rw [str_list, hck] at this; exact this
  have RF' := Lib.hid RF
  rw [HF, hck, hn] at HO
  have hckb : ck ≤ 65535 := by rw [← hck]; exact Ck.ck_le _
  obtain ⟨pq, hpq⟩ : ∃ x, pc / 8192 = x := ⟨_, rfl⟩
  obtain ⟨pr, hpr⟩ : ∃ x, pq % 2 = x := ⟨_, rfl⟩
  obtain ⟨pm, hpm⟩ : ∃ x, pc % 8192 = x := ⟨_, rfl⟩
  obtain ⟨mo, hmo⟩ : ∃ x, decide (pr = 1) = x := ⟨_, rfl⟩
  rw [hpq, hpr, hpm, hmo] at HO
  have o1 : (pc : Int) / 8192 = (pq : Int) := by omega
  have o2 : (pc : Int).tdiv 8192 = (pq : Int) := by rw [Int.tdiv_eq_ediv_of_nonneg (by omega)]; omega
  have o3 : (pq : Int) % 2 = (pr : Int) := by omega
  have o4 : (pq : Int).tmod 2 = (pr : Int) := by rw [Int.tmod_eq_emod_of_nonneg (by omega)]; omega
  have o5 : (pc : Int) % 8192 = (pm : Int) := by omega
  have o6 : (pc : Int).tmod 8192 = (pm : Int) := by rw [Int.tmod_eq_emod_of_nonneg (by omega)]; omega
  have o7 : ((pr : Int) == 1) = mo := by rw [← hmo, Bool.eq_iff_iff, beq_iff_eq, decide_eq_true_iff]; omega
  have hpm2 : pm < 8192 := by omega
  have hpq2 : pq < 8 := by omega
  have hpr2 : pr < 2 := by omega
  have g1 : IntKind.i64.wrap (hd : Int) = (hd : Int) := by rw [IntKind.wrap_i64]; omega
  have g2 : IntKind.i64.wrap (4 * (hd : Int)) = 4 * (hd : Int) := by rw [IntKind.wrap_i64]; omega
  have g3 : IntKind.u16.wrap (idn : Int) = (idn : Int) := wrap_u16 (by omega) (by omega)
  have g4 : IntKind.i64.wrap ((pm : Int) * 8) = 8 * (pm : Int) := by rw [IntKind.wrap_i64]; omega
  have g6 : IntKind.i64.wrap (pq : Int) = (pq : Int) := by rw [IntKind.wrap_i64]; omega
  have g7 : IntKind.i64.wrap (8 * (pm : Int)) = 8 * (pm : Int) := by rw [IntKind.wrap_i64]; omega
  have g5 : (pm : Int) * 8 = 8 * (pm : Int) := by omega
  have t4 : (4 * (hd : Int)).toNat = 4 * hd := by omega
  have e4 : (0 : Int) ≤ 4 * (hd : Int) := by omega
  clear hpq hpr hpm hmo hck RF HF
  obtain ⟨S, hS⟩ : ∃ S, str L = S := ⟨_, rfl⟩
  rw [hS] at hsz N2 N4 N6 i0 i8 i9 i12 i13 i14 i15 i16 i17 i18 i19 x1 x2 ⊢
  have HDL := Lib.hid hdl2
  clear hS hal hid hpc hhd hve hdata hdl2 b2 b3 b4 b5 b6 b7
  have n20 : ¬ (n : Int) < 20 := by omega
  have j0 : (0 : Int) < (n : Int) := by omega
  have j0' : 0 < n := by omega
  have j8 : (8 : Int) < (n : Int) := by omega
  have j9 : (9 : Int) < (n : Int) := by omega
  have j12 : (12 : Int) < (n : Int) := by omega
  have j13 : (13 : Int) < (n : Int) := by omega
  have j14 : (14 : Int) < (n : Int) := by omega
  have j15 : (15 : Int) < (n : Int) := by omega
  have j16 : (16 : Int) < (n : Int) := by omega
  have j17 : (17 : Int) < (n : Int) := by omega
  have j18 : (18 : Int) < (n : Int) := by omega
  have j19 : (19 : Int) < (n : Int) := by omega
  go_enter Try.func27, Try.ntmps27
  go_wp2_with (refine lst_new (by rfl) (.tmp 4) (.tmp 8) _ rfl rfl rfl szPkt rfl rfl rfl ?_)
  refine wp_region_steps (by kernel_rfl) 9 (r6aphi S p0 hd al) [13, 14, 15, 16, 17, 18, 19, 5, 6] (by kernel_rfl) (by kernel_rfl) ⟨?_, ?_, ?_, ?_, ?_, ?_, ?_, ?_, ?_, trivial⟩ ?_
  · intro a W hW hO hφ K hK
    have q0 : a.tmps.getD 0 undef = (.string S) := hO 0 (by kernel_rfl)
    have r0 := q0
    rw [Array.getD_eq_getD_getElem?] at r0
    clear hO hφ
    clear N6 N4 N2
    go_simp
    exact hK _ _ (Kp.refl _) rfl
  · intro a W hW hO hφ K hK
    have q13 : a.tmps.getD 13 undef = (.string S) := hφ ⟨0, .data⟩ (by simp) rfl
    have r13 := q13
    rw [Array.getD_eq_getD_getElem?] at r13
    clear hO hφ
    clear N6 N4 N2
    go_simp
    exact hK _ _ (Kp.refl _) rfl
  · intro a W hW hO hφ K hK
    have q14 : a.tmps.getD 14 undef = (.int .u8 (p0.toNat : Int)) := hφ ⟨1, .data⟩ (by simp) rfl
    have r14 := q14
    rw [Array.getD_eq_getD_getElem?] at r14
    clear hO hφ
    clear N6 N4 N2
    go_simp
    exact hK _ _ (Kp.refl _) rfl
  · intro a W hW hO hφ K hK
    have q15 : a.tmps.getD 15 undef = (.int .u8 (hd : Int)) := hφ ⟨2, .data⟩ (by simp) rfl
    have r15 := q15
    rw [Array.getD_eq_getD_getElem?] at r15
    clear hO hφ
    clear N6 N4 N2
    go_simp
    exact hK _ _ (Kp.refl _) rfl
  · intro a W hW hO hφ K hK
    have q16 : a.tmps.getD 16 undef = (.int .i64 (hd : Int)) := hφ ⟨3, .data⟩ (by simp) rfl
    have r16 := q16
    rw [Array.getD_eq_getD_getElem?] at r16
    clear hO hφ
    clear N6 N4 N2
    go_simp
    exact hK _ _ (Kp.refl _) rfl
  · intro a W hW hO hφ K hK
    have q0 : a.tmps.getD 0 undef = (.string S) := hO 0 (by kernel_rfl)
    have r0 := q0
    rw [Array.getD_eq_getD_getElem?] at r0
    clear hO hφ
    clear N6 N4 N2
    go_simp
    exact hK _ _ (Kp.refl _) rfl
  · intro a W hW hO hφ K hK
    have q18 : a.tmps.getD 18 undef = (.string S) := hφ ⟨5, .data⟩ (by simp) rfl
    have r18 := q18
    rw [Array.getD_eq_getD_getElem?] at r18
    clear hO hφ
    go_simp
    go_at_call 41
    refine (N2 _).mono ?_
    rintro e w' ⟨rfl, hk⟩
    exact hK _ _ hk rfl
  · intro a W hW hO hφ K hK
    have q17 : a.tmps.getD 17 undef = (.int .i64 (4 * (hd : Int))) := hφ ⟨4, .data⟩ (by simp) rfl
    have r17 := q17
    rw [Array.getD_eq_getD_getElem?] at r17
    clear hO hφ
    clear N6 N4 N2
    go_simp
    exact hK _ _ (Kp.refl _) rfl
  · intro a W hW hO hφ K hK
    have q19 : a.tmps.getD 19 undef = (.int .i64 (al : Int)) := hφ ⟨6, .data⟩ (by simp) rfl
    have r19 := q19
    rw [Array.getD_eq_getD_getElem?] at r19
    clear hO hφ
    clear N6 N4 N2
    go_simp
    exact hK _ _ (Kp.refl _) rfl
  intro f W hW hφ
  have v0 : f 0 = (.string S) := hφ 0 (by omega)
  have v1 : f 1 = (.int .u8 (p0.toNat : Int)) := hφ 1 (by omega)
  have v2 : f 2 = (.int .u8 (hd : Int)) := hφ 2 (by omega)
  have v3 : f 3 = (.int .i64 (hd : Int)) := hφ 3 (by omega)
  have v4 : f 4 = (.int .i64 (4 * (hd : Int))) := hφ 4 (by omega)
  have v5 : f 5 = (.string S) := hφ 5 (by omega)
  have v6 : f 6 = (.int .i64 (al : Int)) := hφ 6 (by omega)
  have v7 : f 7 = (.int .i64 (4 * (hd : Int))) := hφ 7 (by omega)
  have v8 : f 8 = (.int .i64 (al : Int)) := hφ 8 (by omega)
  clear hφ
  simp only [putAll, List.setIfInBounds_toArray, List.set_cons_succ, List.set_cons_zero, v0, v1, v2, v3, v4, v5, v6, v7, v8]
  clear v0 v1 v2 v3 v4 v5 v6 v7 v8
  refine wpAny_done (by kernel_rfl) ?_ _
  have HKW := Lib.hid (HK0.out.trans (Kp.trans ((Kp.refl _).drew) hW))
  have HXW := Lib.hid (((Kp.trans ((Kp.refl _).drew) hW).block _ (Array.getElem?_eq_some_iff.1 HX.out).1).trans HX.out)
  have HYW := Lib.hid (((Kp.trans ((Kp.refl _).drew) hW).block _ (Array.getElem?_eq_some_iff.1 HY.out).1).trans HY.out)
  clear hW N2 HX HY HK0 m1 m2
  have hrowE := setRow_heap W w.heap.size _ #[.int .u16 0, .bool false, .int .i64 0, .int .u8 0, .int .u8 0, .int .u8 0, .int .u8 0, .int .u8 0, .int .u8 0, .int .u8 0, .int .u8 0, .int .u8 0, .int .u8 0, .slice none 0 0] _ _ HXW.out
  have HROWE := Lib.hid hrowE
  clear hrowE
  rcases (by omega : (¬ ve = 4) ∨ (ve = 4 ∧ 4 * hd < 20) ∨ (ve = 4 ∧ ¬ 4 * hd < 20 ∧ al < 4 * hd) ∨ (ve = 4 ∧ ¬ 4 * hd < 20 ∧ ¬ al < 4 * hd)) with h1 | ⟨rfl, h1⟩ | ⟨rfl, h1, h2⟩ | ⟨rfl, h1, h2⟩
  · have HO' : Hid (out6 L = .inl 7) := Lib.hid (by rw [HO.out, if_pos (by simp [h1])])
    have y1 : ¬ (ve : Int) = 4 := by omega
    go_wp2_with (refine lld_row (by rfl) (.tmp 4) _ _ rfl rfl HYW.out Try.underlying50 rfl szPkt ?_; refine lst_row (by rfl) (.tmp 2) (.tmp 33) _ rfl rfl rfl HXW.out szPkt rfl rfl rfl ?_)
    refine bodyPost_ret (v := .tuple #[.agg #[.int .u16 0, .bool false, .int .i64 0, .int .u8 0, .int .u8 0, .int .u8 0, .int .u8 0, .int .u8 0, .int .u8 0, .int .u8 0, .int .u8 0, .int .u8 0, .int .u8 0, .slice none 0 0], .int .i64 7]) (results_cell2 (fn := Try.f27) szPkt uPkt HROWE.out rfl Try.results27 rfl rfl) rfl (.inl ⟨7, by decide, HO'.out, HKW.out.setRow (Nat.le_refl _), rfl⟩)
  · have HO' : Hid (out6 L = .inl 7) := Lib.hid (by rw [HO.out, if_pos (by simp [h1])])
    have y1 : 4 * (hd : Int) < 20 := by omega
    go_wp2_with (refine lld_row (by rfl) (.tmp 4) _ _ rfl rfl HYW.out Try.underlying50 rfl szPkt ?_; refine lst_row (by rfl) (.tmp 2) (.tmp 33) _ rfl rfl rfl HXW.out szPkt rfl rfl rfl ?_)
    refine bodyPost_ret (v := .tuple #[.agg #[.int .u16 0, .bool false, .int .i64 0, .int .u8 0, .int .u8 0, .int .u8 0, .int .u8 0, .int .u8 0, .int .u8 0, .int .u8 0, .int .u8 0, .int .u8 0, .int .u8 0, .slice none 0 0], .int .i64 7]) (results_cell2 (fn := Try.f27) szPkt uPkt HROWE.out rfl Try.results27 rfl rfl) rfl (.inl ⟨7, by decide, HO'.out, HKW.out.setRow (Nat.le_refl _), rfl⟩)
  · have HO' : Hid (out6 L = .inl 7) := Lib.hid (by rw [HO.out, if_pos (by simp [h2])])
    have y1 : ¬ 4 * (hd : Int) < 20 := by omega
    have y2 : (al : Int) < 4 * (hd : Int) := by omega
    go_wp2_with (refine lld_row (by rfl) (.tmp 4) _ _ rfl rfl HYW.out Try.underlying50 rfl szPkt ?_; refine lst_row (by rfl) (.tmp 2) (.tmp 33) _ rfl rfl rfl HXW.out szPkt rfl rfl rfl ?_)
    refine bodyPost_ret (v := .tuple #[.agg #[.int .u16 0, .bool false, .int .i64 0, .int .u8 0, .int .u8 0, .int .u8 0, .int .u8 0, .int .u8 0, .int .u8 0, .int .u8 0, .int .u8 0, .int .u8 0, .int .u8 0, .slice none 0 0], .int .i64 7]) (results_cell2 (fn := Try.f27) szPkt uPkt HROWE.out rfl Try.results27 rfl rfl) rfl (.inl ⟨7, by decide, HO'.out, HKW.out.setRow (Nat.le_refl _), rfl⟩)
  have y1 : ¬ 4 * (hd : Int) < 20 := by omega
  have y2 : ¬ (al : Int) < 4 * (hd : Int) := by omega
  have hf4 : ¬ (((4 : Nat) != 4 || decide (4 * hd < 20) || decide (al < 4 * hd)) = true) := by simp [h1, h2]
  by_cases h3 : n < al
  · have HO' : Hid (out6 L = .inl 6) := Lib.hid (by rw [HO.out, if_neg hf4, if_pos h3])
    have y3 : (n : Int) < (al : Int) := by omega
    go_wp2_with (refine lld_row (by rfl) (.tmp 4) _ _ rfl rfl HYW.out Try.underlying50 rfl szPkt ?_; refine lst_row (by rfl) (.tmp 2) (.tmp 38) _ rfl rfl rfl HXW.out szPkt rfl rfl rfl ?_)
    refine bodyPost_ret (v := .tuple #[.agg #[.int .u16 0, .bool false, .int .i64 0, .int .u8 0, .int .u8 0, .int .u8 0, .int .u8 0, .int .u8 0, .int .u8 0, .int .u8 0, .int .u8 0, .int .u8 0, .int .u8 0, .slice none 0 0], .int .i64 6]) (results_cell2 (fn := Try.f27) szPkt uPkt HROWE.out rfl Try.results27 rfl rfl) rfl (.inl ⟨6, by decide, HO'.out, HKW.out.setRow (Nat.le_refl _), rfl⟩)
  have y3 : ¬ (n : Int) < (al : Int) := by omega
  have y4 : 4 * (hd : Int) ≤ (n : Int) := by omega
  have y5 : 4 * (hd : Int) ≤ (al : Int) := by omega
  have y6 : (al : Int) ≤ (n : Int) := by omega
  go_wp2_with fail
  refine (RF'.out _).mono ?_
  rintro e w5 ⟨rfl, rfl⟩
  by_cases h4 : ck = 65535
  · subst h4
    have HO' : Hid (out6 L = .inr ⟨idn, mo, pm, q0, q1, [s0, s1, s2, s3], [d0, d1, d2, d3], data⟩) := Lib.hid (by rw [HO.out, if_neg hf4, if_neg h3, if_neg (by simp)])
    go_wp2_with fail
    refine (N6 _).mono ?_
    rintro e w6 ⟨rfl, hk6⟩
    have HK6 := Lib.hid (HKW.out.trans hk6)
    have HX6 := Lib.hid ((hk6.block _ (Array.getElem?_eq_some_iff.1 HXW.out).1).trans HXW.out)
    clear hk6 HYW
    go_wp2_with fail
    refine wp_region_steps (by kernel_rfl) 38 (r6bphi w S q0 q1 s0 s1 s2 s3 d0 d1 d2 d3 idn pc pq pr pm hd al mo data) [47, 48, 49, 50, 51, 52, 53, 54, 55, 56, 57, 58, 59, 60, 61, 62, 63, 64, 65, 66, 67, 68, 69, 70, 71, 72, 73, 74, 75, 76, 77, 78, 79, 80, 81, 82, 83, 84] (by kernel_rfl) (by kernel_rfl) ⟨?_, ?_, ?_, ?_, ?_, ?_, ?_, ?_, ?_, ?_, ?_, ?_, ?_, ?_, ?_, ?_, ?_, ?_, ?_, ?_, ?_, ?_, ?_, ?_, ?_, ?_, ?_, ?_, ?_, ?_, ?_, ?_, ?_, ?_, ?_, ?_, ?_, ?_, trivial⟩ ?_
    · intro a W hW hO hφ K hK
      have q0 : a.tmps.getD 0 undef = (.string S) := hO 0 (by kernel_rfl)
      have r0 := q0
      rw [Array.getD_eq_getD_getElem?] at r0
      clear hO hφ
      clear N6 N4
      go_simp
      exact hK _ _ (Kp.refl _) rfl
    · intro a W hW hO hφ K hK
      have q47 : a.tmps.getD 47 undef = (.string S) := hφ ⟨0, .data⟩ (by simp) rfl
      have r47 := q47
      rw [Array.getD_eq_getD_getElem?] at r47
      clear hO hφ
      go_simp
      go_at_call 41
      refine (N4 _).mono ?_
      rintro e w' ⟨rfl, hk⟩
      exact hK _ _ hk rfl
    · intro a W hW hO hφ K hK
      have q48 : a.tmps.getD 48 undef = (.int .i64 (idn : Int)) := hφ ⟨1, .data⟩ (by simp) rfl
      have r48 := q48
      rw [Array.getD_eq_getD_getElem?] at r48
      clear hO hφ
      clear N6 N4
      go_simp
      exact hK _ _ (Kp.refl _) rfl
    · intro a W hW hO hφ K hK
      have q7 : a.tmps.getD 7 undef = (.int .i64 (pc : Int)) := hO 7 (by kernel_rfl)
      have r7 := q7
      rw [Array.getD_eq_getD_getElem?] at r7
      clear hO hφ
      clear N6 N4
      go_simp
      exact hK _ _ (Kp.refl _) rfl
    · intro a W hW hO hφ K hK
      have q50 : a.tmps.getD 50 undef = (.int .i64 (pc : Int)) := hφ ⟨3, .data⟩ (by simp) rfl
      have r50 := q50
      rw [Array.getD_eq_getD_getElem?] at r50
      clear hO hφ
      clear N6 N4
      go_simp
      exact hK _ _ (Kp.refl _) rfl
    · intro a W hW hO hφ K hK
      have q51 : a.tmps.getD 51 undef = (.int .i64 (pq : Int)) := hφ ⟨4, .data⟩ (by simp) rfl
      have r51 := q51
      rw [Array.getD_eq_getD_getElem?] at r51
      clear hO hφ
      clear N6 N4
      go_simp
      exact hK _ _ (Kp.refl _) rfl
    · intro a W hW hO hφ K hK
      have q52 : a.tmps.getD 52 undef = (.int .i64 (pr : Int)) := hφ ⟨5, .data⟩ (by simp) rfl
      have r52 := q52
      rw [Array.getD_eq_getD_getElem?] at r52
      clear hO hφ
      clear N6 N4
      go_simp
      exact hK _ _ (Kp.refl _) rfl
    · intro a W hW hO hφ K hK
      have q7 : a.tmps.getD 7 undef = (.int .i64 (pc : Int)) := hO 7 (by kernel_rfl)
      have r7 := q7
      rw [Array.getD_eq_getD_getElem?] at r7
      clear hO hφ
      clear N6 N4
      go_simp
      exact hK _ _ (Kp.refl _) rfl
    · intro a W hW hO hφ K hK
      have q54 : a.tmps.getD 54 undef = (.int .i64 (pc : Int)) := hφ ⟨7, .data⟩ (by simp) rfl
      have r54 := q54
      rw [Array.getD_eq_getD_getElem?] at r54
      clear hO hφ
      clear N6 N4
      go_simp
      exact hK _ _ (Kp.refl _) rfl
    · intro a W hW hO hφ K hK
      have q55 : a.tmps.getD 55 undef = (.int .i64 (pm : Int)) := hφ ⟨8, .data⟩ (by simp) rfl
      have r55 := q55
      rw [Array.getD_eq_getD_getElem?] at r55
      clear hO hφ
      clear N6 N4
      go_simp
      exact hK _ _ (Kp.refl _) rfl
    · intro a W hW hO hφ K hK
      have q0 : a.tmps.getD 0 undef = (.string S) := hO 0 (by kernel_rfl)
      have r0 := q0
      rw [Array.getD_eq_getD_getElem?] at r0
      clear hO hφ
      clear N6 N4
      go_simp
      exact hK _ _ (Kp.refl _) rfl
    · intro a W hW hO hφ K hK
      have q57 : a.tmps.getD 57 undef = (.string S) := hφ ⟨10, .data⟩ (by simp) rfl
      have r57 := q57
      rw [Array.getD_eq_getD_getElem?] at r57
      clear hO hφ
      clear N6 N4
      go_simp
      exact hK _ _ (Kp.refl _) rfl
    · intro a W hW hO hφ K hK
      have q0 : a.tmps.getD 0 undef = (.string S) := hO 0 (by kernel_rfl)
      have r0 := q0
      rw [Array.getD_eq_getD_getElem?] at r0
      clear hO hφ
      clear N6 N4
      go_simp
      exact hK _ _ (Kp.refl _) rfl
    · intro a W hW hO hφ K hK
      have q59 : a.tmps.getD 59 undef = (.string S) := hφ ⟨12, .data⟩ (by simp) rfl
      have r59 := q59
      rw [Array.getD_eq_getD_getElem?] at r59
      clear hO hφ
      clear N6 N4
      go_simp
      exact hK _ _ (Kp.refl _) rfl
    · intro a W hW hO hφ K hK
      have q0 : a.tmps.getD 0 undef = (.string S) := hO 0 (by kernel_rfl)
      have r0 := q0
      rw [Array.getD_eq_getD_getElem?] at r0
      clear hO hφ
      clear N6 N4
      go_simp
      exact hK _ _ (Kp.refl _) rfl
    · intro a W hW hO hφ K hK
      have q61 : a.tmps.getD 61 undef = (.string S) := hφ ⟨14, .data⟩ (by simp) rfl
      have r61 := q61
      rw [Array.getD_eq_getD_getElem?] at r61
      clear hO hφ
      clear N6 N4
      go_simp
      exact hK _ _ (Kp.refl _) rfl
    · intro a W hW hO hφ K hK
      have q0 : a.tmps.getD 0 undef = (.string S) := hO 0 (by kernel_rfl)
      have r0 := q0
      rw [Array.getD_eq_getD_getElem?] at r0
      clear hO hφ
      clear N6 N4
      go_simp
      exact hK _ _ (Kp.refl _) rfl
    · intro a W hW hO hφ K hK
      have q63 : a.tmps.getD 63 undef = (.string S) := hφ ⟨16, .data⟩ (by simp) rfl
      have r63 := q63
      rw [Array.getD_eq_getD_getElem?] at r63
      clear hO hφ
      clear N6 N4
      go_simp
      exact hK _ _ (Kp.refl _) rfl
    · intro a W hW hO hφ K hK
      have q0 : a.tmps.getD 0 undef = (.string S) := hO 0 (by kernel_rfl)
      have r0 := q0
      rw [Array.getD_eq_getD_getElem?] at r0
      clear hO hφ
      clear N6 N4
      go_simp
      exact hK _ _ (Kp.refl _) rfl
    · intro a W hW hO hφ K hK
      have q65 : a.tmps.getD 65 undef = (.string S) := hφ ⟨18, .data⟩ (by simp) rfl
      have r65 := q65
      rw [Array.getD_eq_getD_getElem?] at r65
      clear hO hφ
      clear N6 N4
      go_simp
      exact hK _ _ (Kp.refl _) rfl
    · intro a W hW hO hφ K hK
      have q0 : a.tmps.getD 0 undef = (.string S) := hO 0 (by kernel_rfl)
      have r0 := q0
      rw [Array.getD_eq_getD_getElem?] at r0
      clear hO hφ
      clear N6 N4
      go_simp
      exact hK _ _ (Kp.refl _) rfl
    · intro a W hW hO hφ K hK
      have q67 : a.tmps.getD 67 undef = (.string S) := hφ ⟨20, .data⟩ (by simp) rfl
      have r67 := q67
      rw [Array.getD_eq_getD_getElem?] at r67
      clear hO hφ
      clear N6 N4
      go_simp
      exact hK _ _ (Kp.refl _) rfl
    · intro a W hW hO hφ K hK
      have q62 : a.tmps.getD 62 undef = (.int .u8 (s0.toNat : Int)) := hφ ⟨15, .data⟩ (by simp) rfl
      have q64 : a.tmps.getD 64 undef = (.int .u8 (s1.toNat : Int)) := hφ ⟨17, .data⟩ (by simp) rfl
      have q66 : a.tmps.getD 66 undef = (.int .u8 (s2.toNat : Int)) := hφ ⟨19, .data⟩ (by simp) rfl
      have q68 : a.tmps.getD 68 undef = (.int .u8 (s3.toNat : Int)) := hφ ⟨21, .data⟩ (by simp) rfl
      have r62 := q62
      rw [Array.getD_eq_getD_getElem?] at r62
      have r64 := q64
      rw [Array.getD_eq_getD_getElem?] at r64
      have r66 := q66
      rw [Array.getD_eq_getD_getElem?] at r66
      have r68 := q68
      rw [Array.getD_eq_getD_getElem?] at r68
      clear hO hφ
      clear N6 N4
      go_simp
      exact hK _ _ (Kp.refl _) rfl
    · intro a W hW hO hφ K hK
      have q0 : a.tmps.getD 0 undef = (.string S) := hO 0 (by kernel_rfl)
      have r0 := q0
      rw [Array.getD_eq_getD_getElem?] at r0
      clear hO hφ
      clear N6 N4
      go_simp
      exact hK _ _ (Kp.refl _) rfl
    · intro a W hW hO hφ K hK
      have q70 : a.tmps.getD 70 undef = (.string S) := hφ ⟨23, .data⟩ (by simp) rfl
      have r70 := q70
      rw [Array.getD_eq_getD_getElem?] at r70
      clear hO hφ
      clear N6 N4
      go_simp
      exact hK _ _ (Kp.refl _) rfl
    · intro a W hW hO hφ K hK
      have q0 : a.tmps.getD 0 undef = (.string S) := hO 0 (by kernel_rfl)
      have r0 := q0
      rw [Array.getD_eq_getD_getElem?] at r0
      clear hO hφ
      clear N6 N4
      go_simp
      exact hK _ _ (Kp.refl _) rfl
    · intro a W hW hO hφ K hK
      have q72 : a.tmps.getD 72 undef = (.string S) := hφ ⟨25, .data⟩ (by simp) rfl
      have r72 := q72
      rw [Array.getD_eq_getD_getElem?] at r72
      clear hO hφ
      clear N6 N4
      go_simp
      exact hK _ _ (Kp.refl _) rfl
    · intro a W hW hO hφ K hK
      have q0 : a.tmps.getD 0 undef = (.string S) := hO 0 (by kernel_rfl)
      have r0 := q0
      rw [Array.getD_eq_getD_getElem?] at r0
      clear hO hφ
      clear N6 N4
      go_simp
      exact hK _ _ (Kp.refl _) rfl
    · intro a W hW hO hφ K hK
      have q74 : a.tmps.getD 74 undef = (.string S) := hφ ⟨27, .data⟩ (by simp) rfl
      have r74 := q74
      rw [Array.getD_eq_getD_getElem?] at r74
      clear hO hφ
      clear N6 N4
      go_simp
      exact hK _ _ (Kp.refl _) rfl
    · intro a W hW hO hφ K hK
      have q0 : a.tmps.getD 0 undef = (.string S) := hO 0 (by kernel_rfl)
      have r0 := q0
      rw [Array.getD_eq_getD_getElem?] at r0
      clear hO hφ
      clear N6 N4
      go_simp
      exact hK _ _ (Kp.refl _) rfl
    · intro a W hW hO hφ K hK
      have q76 : a.tmps.getD 76 undef = (.string S) := hφ ⟨29, .data⟩ (by simp) rfl
      have r76 := q76
      rw [Array.getD_eq_getD_getElem?] at r76
      clear hO hφ
      clear N6 N4
      go_simp
      exact hK _ _ (Kp.refl _) rfl
    · intro a W hW hO hφ K hK
      have q71 : a.tmps.getD 71 undef = (.int .u8 (d0.toNat : Int)) := hφ ⟨24, .data⟩ (by simp) rfl
      have q73 : a.tmps.getD 73 undef = (.int .u8 (d1.toNat : Int)) := hφ ⟨26, .data⟩ (by simp) rfl
      have q75 : a.tmps.getD 75 undef = (.int .u8 (d2.toNat : Int)) := hφ ⟨28, .data⟩ (by simp) rfl
      have q77 : a.tmps.getD 77 undef = (.int .u8 (d3.toNat : Int)) := hφ ⟨30, .data⟩ (by simp) rfl
      have r71 := q71
      rw [Array.getD_eq_getD_getElem?] at r71
      have r73 := q73
      rw [Array.getD_eq_getD_getElem?] at r73
      have r75 := q75
      rw [Array.getD_eq_getD_getElem?] at r75
      have r77 := q77
      rw [Array.getD_eq_getD_getElem?] at r77
      clear hO hφ
      clear N6 N4
      go_simp
      exact hK _ _ (Kp.refl _) rfl
    · intro a W hW hO hφ K hK
      have q0 : a.tmps.getD 0 undef = (.string S) := hO 0 (by kernel_rfl)
      have r0 := q0
      rw [Array.getD_eq_getD_getElem?] at r0
      clear hO hφ
      clear N6 N4
      go_simp
      exact hK _ _ (Kp.refl _) rfl
    · intro a W hW hO hφ K hK
      have q5 : a.tmps.getD 5 undef = (.int .i64 (4 * (hd : Int))) := hO 5 (by kernel_rfl)
      have r5 := q5
      rw [Array.getD_eq_getD_getElem?] at r5
      clear hO hφ
      clear N6 N4
      go_simp
      exact hK _ _ (Kp.refl _) rfl
    · intro a W hW hO hφ K hK
      have q6 : a.tmps.getD 6 undef = (.int .i64 (al : Int)) := hO 6 (by kernel_rfl)
      have r6 := q6
      rw [Array.getD_eq_getD_getElem?] at r6
      clear hO hφ
      clear N6 N4
      go_simp
      exact hK _ _ (Kp.refl _) rfl
    · intro a W hW hO hφ K hK
      have q79 : a.tmps.getD 79 undef = (.string S) := hφ ⟨32, .data⟩ (by simp) rfl
      have q80 : a.tmps.getD 80 undef = (.int .i64 (4 * (hd : Int))) := hφ ⟨33, .data⟩ (by simp) rfl
      have q81 : a.tmps.getD 81 undef = (.int .i64 (al : Int)) := hφ ⟨34, .data⟩ (by simp) rfl
      have r79 := q79
      rw [Array.getD_eq_getD_getElem?] at r79
      have r80 := q80
      rw [Array.getD_eq_getD_getElem?] at r80
      have r81 := q81
      rw [Array.getD_eq_getD_getElem?] at r81
      clear hO hφ
      clear N6 N4
      go_simp
      exact hK _ _ (Kp.refl _) rfl
    · intro a W hW hO hφ K hK
      have q82 : a.tmps.getD 82 undef = (.string (str data)) := hφ ⟨35, .data⟩ (by simp) rfl
      have r82 := q82
      rw [Array.getD_eq_getD_getElem?] at r82
      clear hO hφ
      clear N6 N4
      have hcv := Lib.run_convert_string_bytes (P := Try.prog) W 9 25 5 (str data) Try.underlying9 Try.underlying25 Try.underlying5
      rw [str_size] at hcv
      go_simp
      exact hK _ _ (kp_bytes _ _ _) ⟨_, _, rfl, RdV.mono_lo (rd_bytes W _ data hdl).1 (Nat.lt_of_lt_of_le (Array.getElem?_eq_some_iff.1 HX6.out).1 (Kp.trans ((Kp.refl _).drew) hW).size), (rd_bytes W _ data hdl).2⟩
    · intro a W hW hO hφ K hK
      have q49 : a.tmps.getD 49 undef = (.int .u16 (idn : Int)) := hφ ⟨2, .data⟩ (by simp) rfl
      have q53 : a.tmps.getD 53 undef = (.bool mo) := hφ ⟨6, .data⟩ (by simp) rfl
      have q56 : a.tmps.getD 56 undef = (.int .i64 (8 * (pm : Int))) := hφ ⟨9, .data⟩ (by simp) rfl
      have q58 : a.tmps.getD 58 undef = (.int .u8 (q0.toNat : Int)) := hφ ⟨11, .data⟩ (by simp) rfl
      have q60 : a.tmps.getD 60 undef = (.int .u8 (q1.toNat : Int)) := hφ ⟨13, .data⟩ (by simp) rfl
      have q69 : a.tmps.getD 69 undef = (.agg #[.int .u8 (s0.toNat : Int), .int .u8 (s1.toNat : Int), .int .u8 (s2.toNat : Int), .int .u8 (s3.toNat : Int)]) := hφ ⟨22, .data⟩ (by simp) rfl
      have q78 : a.tmps.getD 78 undef = (.agg #[.int .u8 (d0.toNat : Int), .int .u8 (d1.toNat : Int), .int .u8 (d2.toNat : Int), .int .u8 (d3.toNat : Int)]) := hφ ⟨31, .data⟩ (by simp) rfl
      have q83 : (St.rdk (w.heap.size + 1) data.length data).p (a.tmps.getD 83 undef) W := hφ ⟨36, .data⟩ (by simp) rfl
      have r49 := q49
      rw [Array.getD_eq_getD_getElem?] at r49
      have r53 := q53
      rw [Array.getD_eq_getD_getElem?] at r53
      have r56 := q56
      rw [Array.getD_eq_getD_getElem?] at r56
      have r58 := q58
      rw [Array.getD_eq_getD_getElem?] at r58
      have r60 := q60
      rw [Array.getD_eq_getD_getElem?] at r60
      have r69 := q69
      rw [Array.getD_eq_getD_getElem?] at r69
      have r78 := q78
      rw [Array.getD_eq_getD_getElem?] at r78
      clear hO hφ
      clear N6 N4
      obtain ⟨A1, c1, q83', hr, hok⟩ := q83
      have r83 := q83'
      rw [Array.getD_eq_getD_getElem?] at r83
      go_simp
      exact hK _ _ (Kp.refl _) ⟨_, _, rfl, hr, hok⟩
    intro f W hW hφ
    have v0 : f 0 = (.string S) := hφ 0 (by omega)
    have v1 : f 1 = (.int .i64 (idn : Int)) := hφ 1 (by omega)
    have v2 : f 2 = (.int .u16 (idn : Int)) := hφ 2 (by omega)
    have v3 : f 3 = (.int .i64 (pc : Int)) := hφ 3 (by omega)
    have v4 : f 4 = (.int .i64 (pq : Int)) := hφ 4 (by omega)
    have v5 : f 5 = (.int .i64 (pr : Int)) := hφ 5 (by omega)
    have v6 : f 6 = (.bool mo) := hφ 6 (by omega)
    have v7 : f 7 = (.int .i64 (pc : Int)) := hφ 7 (by omega)
    have v8 : f 8 = (.int .i64 (pm : Int)) := hφ 8 (by omega)
    have v9 : f 9 = (.int .i64 (8 * (pm : Int))) := hφ 9 (by omega)
    have v10 : f 10 = (.string S) := hφ 10 (by omega)
    have v11 : f 11 = (.int .u8 (q0.toNat : Int)) := hφ 11 (by omega)
    have v12 : f 12 = (.string S) := hφ 12 (by omega)
    have v13 : f 13 = (.int .u8 (q1.toNat : Int)) := hφ 13 (by omega)
    have v14 : f 14 = (.string S) := hφ 14 (by omega)
    have v15 : f 15 = (.int .u8 (s0.toNat : Int)) := hφ 15 (by omega)
    have v16 : f 16 = (.string S) := hφ 16 (by omega)
    have v17 : f 17 = (.int .u8 (s1.toNat : Int)) := hφ 17 (by omega)
    have v18 : f 18 = (.string S) := hφ 18 (by omega)
    have v19 : f 19 = (.int .u8 (s2.toNat : Int)) := hφ 19 (by omega)
    have v20 : f 20 = (.string S) := hφ 20 (by omega)
    have v21 : f 21 = (.int .u8 (s3.toNat : Int)) := hφ 21 (by omega)
    have v22 : f 22 = (.agg #[.int .u8 (s0.toNat : Int), .int .u8 (s1.toNat : Int), .int .u8 (s2.toNat : Int), .int .u8 (s3.toNat : Int)]) := hφ 22 (by omega)
    have v23 : f 23 = (.string S) := hφ 23 (by omega)
    have v24 : f 24 = (.int .u8 (d0.toNat : Int)) := hφ 24 (by omega)
    have v25 : f 25 = (.string S) := hφ 25 (by omega)
    have v26 : f 26 = (.int .u8 (d1.toNat : Int)) := hφ 26 (by omega)
    have v27 : f 27 = (.string S) := hφ 27 (by omega)
    have v28 : f 28 = (.int .u8 (d2.toNat : Int)) := hφ 28 (by omega)
    have v29 : f 29 = (.string S) := hφ 29 (by omega)
    have v30 : f 30 = (.int .u8 (d3.toNat : Int)) := hφ 30 (by omega)
    have v31 : f 31 = (.agg #[.int .u8 (d0.toNat : Int), .int .u8 (d1.toNat : Int), .int .u8 (d2.toNat : Int), .int .u8 (d3.toNat : Int)]) := hφ 31 (by omega)
    have v32 : f 32 = (.string S) := hφ 32 (by omega)
    have v33 : f 33 = (.int .i64 (4 * (hd : Int))) := hφ 33 (by omega)
    have v34 : f 34 = (.int .i64 (al : Int)) := hφ 34 (by omega)
    have v35 : f 35 = (.string (str data)) := hφ 35 (by omega)
    have v36 : (St.rdk (w.heap.size + 1) data.length data).p (f 36) W := hφ 36 (by omega)
    have v37 : (St.withRd (w.heap.size + 1) data.length data (fun A c => .agg #[.int .u16 (idn : Int), .bool mo, .int .i64 (8 * (pm : Int)), .int .u8 (q0.toNat : Int), .int .u8 (q1.toNat : Int), .int .u8 (s0.toNat : Int), .int .u8 (s1.toNat : Int), .int .u8 (s2.toNat : Int), .int .u8 (s3.toNat : Int), .int .u8 (d0.toNat : Int), .int .u8 (d1.toNat : Int), .int .u8 (d2.toNat : Int), .int .u8 (d3.toNat : Int), .slice A data.length c])).p (f 37) W := hφ 37 (by omega)
    clear hφ
    simp only [putAll, List.setIfInBounds_toArray, List.set_cons_succ, List.set_cons_zero, v0, v1, v2, v3, v4, v5, v6, v7, v8, v9, v10, v11, v12, v13, v14, v15, v16, v17, v18, v19, v20, v21, v22, v23, v24, v25, v26, v27, v28, v29, v30, v31, v32, v33, v34, v35]
    clear v0 v1 v2 v3 v4 v5 v6 v7 v8 v9 v10 v11 v12 v13 v14 v15 v16 v17 v18 v19 v20 v21 v22 v23 v24 v25 v26 v27 v28 v29 v30 v31 v32 v33 v34 v35
    obtain ⟨A1, c1, hv, hr, hok⟩ := v37
    have hv' : f 37 = .agg #[.int .u16 (idn : Int), .bool mo, .int .i64 (8 * (pm : Int)), .int .u8 (q0.toNat : Int), .int .u8 (q1.toNat : Int), .int .u8 (s0.toNat : Int), .int .u8 (s1.toNat : Int), .int .u8 (s2.toNat : Int), .int .u8 (s3.toNat : Int), .int .u8 (d0.toNat : Int), .int .u8 (d1.toNat : Int), .int .u8 (d2.toNat : Int), .int .u8 (d3.toNat : Int), .slice A1 data.length c1] := hv
    have hk7 := HK6.out.trans (Kp.trans ((Kp.refl _).drew) hW)
    have r7 := ((Kp.trans ((Kp.refl _).drew) hW).block _ (Array.getElem?_eq_some_iff.1 HX6.out).1).trans HX6.out
    have r8 := setRow_heap W w.heap.size _ #[.int .u16 (idn : Int), .bool mo, .int .i64 (8 * (pm : Int)), .int .u8 (q0.toNat : Int), .int .u8 (q1.toNat : Int), .int .u8 (s0.toNat : Int), .int .u8 (s1.toNat : Int), .int .u8 (s2.toNat : Int), .int .u8 (s3.toNat : Int), .int .u8 (d0.toNat : Int), .int .u8 (d1.toNat : Int), .int .u8 (d2.toNat : Int), .int .u8 (d3.toNat : Int), .slice A1 data.length c1] _ _ r7
    refine wpAny_ready (rs := [38]) (by kernel_rfl) (by simp) (AllReady.cons rfl (fun K' hK' => ?_) AllReady.nil)
    simp only [hv']
    split
    case isFalse hx => exact (hx rfl).elim
    refine ost_row (.tmp 2) (.tmp 84) _ rfl rfl rfl rfl r7 szPkt rfl rfl ?_
    refine hK' _ _ ?_
    refine wpAny_ready (rs := [39]) (by kernel_rfl) (by simp) (AllReady.cons rfl (fun K2 hK2 => ?_) AllReady.nil)
    go_simp
    refine hK2 _ _ ?_
    refine wpAny_done (by kernel_rfl) ?_ _
    go_wp2
    refine bodyPost_ret (v := .tuple #[.agg #[.int .u16 (idn : Int), .bool mo, .int .i64 (8 * (pm : Int)), .int .u8 (q0.toNat : Int), .int .u8 (q1.toNat : Int), .int .u8 (s0.toNat : Int), .int .u8 (s1.toNat : Int), .int .u8 (s2.toNat : Int), .int .u8 (s3.toNat : Int), .int .u8 (d0.toNat : Int), .int .u8 (d1.toNat : Int), .int .u8 (d2.toNat : Int), .int .u8 (d3.toNat : Int), .slice A1 data.length c1], .int .i64 0]) (results_cell2 (fn := Try.f27) szPkt uPkt r8 rfl Try.results27 rfl rfl) rfl (.inr ⟨idn, mo, pm, q0, q1, s0, s1, s2, s3, d0, d1, d2, d3, data, HO'.out, hid2, hpm2, HDL.out, hk7.setRow (Nat.le_refl _), A1, c1, rfl, RdV.mono_lo (RdV.setRow hr (Nat.lt_succ_self _)) (by omega), hok⟩)
  · have HO' : Hid (out6 L = .inl 8) := Lib.hid (by rw [HO.out, if_neg hf4, if_neg h3, if_pos h4])
    have y7 : ¬ (ck : Int) = 65535 := by omega
    go_wp2_with (refine lld_row (by rfl) (.tmp 4) _ _ rfl rfl HYW.out Try.underlying50 rfl szPkt ?_; refine lst_row (by rfl) (.tmp 2) (.tmp 44) _ rfl rfl rfl HXW.out szPkt rfl rfl rfl ?_)
    refine bodyPost_ret (v := .tuple #[.agg #[.int .u16 0, .bool false, .int .i64 0, .int .u8 0, .int .u8 0, .int .u8 0, .int .u8 0, .int .u8 0, .int .u8 0, .int .u8 0, .int .u8 0, .int .u8 0, .int .u8 0, .slice none 0 0], .int .i64 8]) (results_cell2 (fn := Try.f27) szPkt uPkt HROWE.out rfl Try.results27 rfl rfl) rfl (.inl ⟨8, by decide, HO'.out, HKW.out.setRow (Nat.le_refl _), rfl⟩)

theorem rp6_any (w : World) (l : List UInt8) (hn : l.length ≤ 65536) : Calls Try.prog 27 #[.string (str l)] w (P6Post w l) := by
  by_cases h : l.length < 20
  · exact (rp6_short w l h).mono fun e w' hp => .inl ⟨6, by decide, out6_short h, hp⟩
  · obtain ⟨p0, p1, p2, p3, p4, p5, p6, p7, q0, q1, q2, q3, s0, s1, s2, s3, d0, d1, d2, d3, r, rfl⟩ := len20 l (by omega)
    exact rp6_long w p0 p1 p2 p3 p4 p5 p6 p7 q0 q1 q2 q3 s0 s1 s2 s3 d0 d1 d2 d3 r hn
end Go.Proofs.Ytdibmeapflhhaaa
