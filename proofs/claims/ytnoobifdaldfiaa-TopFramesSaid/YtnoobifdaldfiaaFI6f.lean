/-
  The contract of ip4.Parse: the packet of right bytes.
-/
import Derived.Test.YtnoobifdaldfiaaFI6e
namespace Go.Proofs.Ytnoobifdaldfiaa.Fr
open Go.RowKit
set_option maxRecDepth 100000


/-- a packet of these bytes: its data lie in new memory -/
def PktOk (w : World) (idn : Nat) (mo : Bool) (pm : Nat) (q0 q1 s0 s1 s2 s3 d0 d1 d2 d3 : UInt8) (data : List UInt8) (e : Ending) (w' : World) : Prop :=
  Kp w w' ∧ ∃ A c, e = .returned (.tuple #[.agg #[.int .u16 (idn : Int), .bool mo, .int .i64 (8 * (pm : Int)), .int .u8 (q0.toNat : Int), .int .u8 (q1.toNat : Int), .int .u8 (s0.toNat : Int), .int .u8 (s1.toNat : Int), .int .u8 (s2.toNat : Int), .int .u8 (s3.toNat : Int), .int .u8 (d0.toNat : Int), .int .u8 (d1.toNat : Int), .int .u8 (d2.toNat : Int), .int .u8 (d3.toNat : Int), .slice A data.length c], .int .i64 0]) ∧
    Rd w' w.heap.size A data.length data ∧ SlOk A data.length c

noncomputable def p6phi (w : World) (w4 : World) (g off n c : Nat) (p4 p5 q0 q1 : UInt8) (idn pc pm hd al m c2 : Nat) (mo : Bool) (A2 : Option Addr) (data : List UInt8) : Nat → St := fun i => ([St.val (.slice (some ⟨g, off, none⟩) n c),
  St.val (.pointer (some ⟨g, off + 4, none⟩)),
  St.val (.int .u8 (p4.toNat : Int)),
  St.val (.int .u16 (p4.toNat : Int)),
  St.val (.int .u16 ((p4.toNat : Int) * 256)),
  St.val (.slice (some ⟨g, off, none⟩) n c),
  St.val (.pointer (some ⟨g, off + 5, none⟩)),
  St.val (.int .u8 (p5.toNat : Int)),
  St.val (.int .u16 (p5.toNat : Int)),
  St.val (.int .u16 (idn : Int)),
  St.val (.int .u16 (pc : Int)),
  St.val (.int .u16 (bits BinOp.and IntKind.u16 (pc : Int) 8192)),
  St.val (.bool mo),
  St.val (.int .u16 (pc : Int)),
  St.val (.int .u16 (pm : Int)),
  St.val (.int .i64 (pm : Int)),
  St.val (.int .i64 (8 * (pm : Int))),
  St.val (.slice (some ⟨g, off, none⟩) n c),
  St.val (.pointer (some ⟨g, off + 8, none⟩)),
  St.val (.int .u8 (q0.toNat : Int)),
  St.val (.slice (some ⟨g, off, none⟩) n c),
  St.val (.pointer (some ⟨g, off + 9, none⟩)),
  St.val (.int .u8 (q1.toNat : Int)),
  St.emp,
  St.val (.slice (some ⟨g, off, none⟩) n c),
  St.val (.int .i64 (4 * (hd : Int))),
  St.val (.int .i64 (al : Int)),
  St.val (.slice A2 m c2),
  St.rd0 (w.heap.size + 1) m data,
  St.with0 (w.heap.size + 1) m data (fun gd c => .agg #[.int .u16 (idn : Int), .bool mo, .int .i64 (8 * (pm : Int)), .int .u8 (q0.toNat : Int), .int .u8 (q1.toNat : Int), .int .u8 0, .int .u8 0, .int .u8 0, .int .u8 0, .int .u8 0, .int .u8 0, .int .u8 0, .int .u8 0, .slice (some ⟨gd, 0, none⟩) m c]),
  St.row w4.heap.size #[.int .u16 0, .bool false, .int .i64 0, .int .u8 0, .int .u8 0, .int .u8 0, .int .u8 0, .int .u8 0, .int .u8 0, .int .u8 0, .int .u8 0, .int .u8 0, .int .u8 0, .slice none 0 0] 38] : List St).getD i St.any

set_option maxRecDepth 100000 in
set_option maxHeartbeats 4000000 in
theorem p6_ok (w : World) (A : Option Addr) (n c : Nat) (p0 p1 p2 p3 p4 p5 p6 p7 q0 q1 q2 q3 s0 s1 s2 s3 d0 d1 d2 d3 : UInt8) (r : List UInt8) (hA : Rd w 0 A n (p0 :: p1 :: p2 :: p3 :: p4 :: p5 :: p6 :: p7 :: q0 :: q1 :: q2 :: q3 :: s0 :: s1 :: s2 :: s3 :: d0 :: d1 :: d2 :: d3 :: r)) (hok : SlOk A n c) (hn : 20 ≤ n) (hn2 : n ≤ 1048576)
    (hf : form6 p0 (256 * p2.toNat + p3.toNat) = false) (hcut : 256 * p2.toNat + p3.toNat ≤ n) (hs : Ck.ck ((p0 :: p1 :: p2 :: p3 :: p4 :: p5 :: p6 :: p7 :: q0 :: q1 :: q2 :: q3 :: s0 :: s1 :: s2 :: s3 :: d0 :: d1 :: d2 :: d3 :: r).take (4 * (p0.toNat % 16))) = 65535) :
    Calls Try.prog 15 #[.slice A n c] w (PktOk w (256 * p4.toNat + p5.toNat) (decide ((256 * p6.toNat + p7.toNat) / 8192 % 2 = 1)) ((256 * p6.toNat + p7.toNat) % 8192) q0 q1 s0 s1 s2 s3 d0 d1 d2 d3
      (((p0 :: p1 :: p2 :: p3 :: p4 :: p5 :: p6 :: p7 :: q0 :: q1 :: q2 :: q3 :: s0 :: s1 :: s2 :: s3 :: d0 :: d1 :: d2 :: d3 :: r).take (256 * p2.toNat + p3.toNat)).drop (4 * (p0.toNat % 16)))) := by
  obtain ⟨g, off, rfl, _⟩ := hA.at_ (by omega)
  have kb : Kp w (w.alloc (.cells #[.int .u16 0, .bool false, .int .i64 0, .int .u8 0, .int .u8 0, .int .u8 0, .int .u8 0, .int .u8 0, .int .u8 0, .int .u8 0, .int .u8 0, .int .u8 0, .int .u8 0, .slice none 0 0] 38)) := (Kp.refl w).alloc _
  have KA : ∀ W, Kp w W → W.cell? ⟨g, off, none⟩ = some (.int .u8 (p0.toNat : Int)) ∧ W.cell? ⟨g, off + 2, none⟩ = some (.int .u8 (p2.toNat : Int)) ∧ W.cell? ⟨g, off + 3, none⟩ = some (.int .u8 (p3.toNat : Int)) ∧ W.cell? ⟨g, off + 4, none⟩ = some (.int .u8 (p4.toNat : Int)) ∧ W.cell? ⟨g, off + 5, none⟩ = some (.int .u8 (p5.toNat : Int)) ∧
      W.cell? ⟨g, off + 6, none⟩ = some (.int .u8 (p6.toNat : Int)) ∧ W.cell? ⟨g, off + 7, none⟩ = some (.int .u8 (p7.toNat : Int)) ∧ W.cell? ⟨g, off + 8, none⟩ = some (.int .u8 (q0.toNat : Int)) ∧ W.cell? ⟨g, off + 9, none⟩ = some (.int .u8 (q1.toNat : Int)) := by
    intro W hk
    obtain ⟨g', o', e, _, hc⟩ := hA.2 (by omega)
    simp only [Option.some.injEq, Addr.mk.injEq] at e
    obtain ⟨rfl, rfl, _⟩ := e
    exact ⟨hk.cell (hc 0 _ rfl), hk.cell (hc 2 _ rfl), hk.cell (hc 3 _ rfl), hk.cell (hc 4 _ rfl), hk.cell (hc 5 _ rfl), hk.cell (hc 6 _ rfl), hk.cell (hc 7 _ rfl), hk.cell (hc 8 _ rfl), hk.cell (hc 9 _ rfl)⟩
  obtain ⟨z0, z2, z3, _⟩ := KA _ kb
  have KA' := Lib.hid KA
  clear KA
  have b0 := p0.toNat_lt
  have b2 := p2.toNat_lt
  have b3 := p3.toNat_lt
  have a1 := and_15 p0
  have a2 := or_i64 p2 p3
  have a3 : IntKind.i64.wrap ((p2.toNat : Int) * 256) = (p2.toNat : Int) * 256 := by rw [IntKind.wrap_i64]; omega
  have hbk := heap_alloc_new w (.cells #[.int .u16 0, .bool false, .int .i64 0, .int .u8 0, .int .u8 0, .int .u8 0, .int .u8 0, .int .u8 0, .int .u8 0, .int .u8 0, .int .u8 0, .int .u8 0, .int .u8 0, .slice none 0 0] 38)
  have HX := Lib.hid hbk
  clear hbk
  obtain ⟨L, hL⟩ : ∃ L, p0 :: p1 :: p2 :: p3 :: p4 :: p5 :: p6 :: p7 :: q0 :: q1 :: q2 :: q3 :: s0 :: s1 :: s2 :: s3 :: d0 :: d1 :: d2 :: d3 :: r = L := ⟨_, rfl⟩
  have e1216 : (L.take 16).drop 12 = [s0, s1, s2, s3] := by rw [← hL]; rfl
  have e1620 : (L.take 20).drop 16 = [d0, d1, d2, d3] := by rw [← hL]; rfl
  rw [hL] at hA hs ⊢
  clear hL
  have hLn := hA.len
  obtain ⟨al, hal⟩ : ∃ al, 256 * p2.toNat + p3.toNat = al := ⟨_, rfl⟩
  have hal2 : al ≤ 65535 := by omega
  rw [hal] at a2 hf hcut ⊢
  clear hal
  obtain ⟨hd, hhd⟩ : ∃ hd, p0.toNat % 16 = hd := ⟨_, rfl⟩
  obtain ⟨ve, hve⟩ : ∃ ve, p0.toNat / 16 = ve := ⟨_, rfl⟩
  have hve2 : (p0.toNat : Int) / 16 = (ve : Int) := by omega
  have hhd2 : hd < 16 := by omega
  unfold form6 at hf
  rw [hhd] at a1 hf hs ⊢
  rw [hve] at hf
  clear hhd hve
  obtain ⟨h1, h2, h3⟩ : ve = 4 ∧ 20 ≤ 4 * hd ∧ 4 * hd ≤ al := by
    simp only [Bool.or_eq_false_iff, bne_eq_false_iff_eq, decide_eq_false_iff_not] at hf
    omega
  clear hf
  subst h1
  have e2 : ¬ 4 * (hd : Int) < 20 := by omega
  have e3 : ¬ (al : Int) < 4 * (hd : Int) := by omega
  have e4 : ¬ (n : Int) < (al : Int) := by omega
  have hsb : (Ck.ck (L.take (4 * hd)) == 65535) = true := by simpa using hs
  obtain ⟨i8, hi8, hs8⟩ : ∃ i, Try.prog.info? (Try.prog.elem 24) = some i ∧ i.size = 1 := by
    obtain ⟨i0, hi0, _, hz1, _⟩ := info_parts info5
    exact ⟨i0, hi0, hz1⟩
  obtain ⟨sl1, rd1, _⟩ := cut_hi (P := Try.prog) (kd := .i64) (m := 4 * hd) Try.underlying24 hi8 hs8 hA hok (by omega)
  have sl2 : ∀ wx : World, (Instr.slice 24 (.slice (some ⟨g, off, none⟩) n c) none (some (.int .i64 (4 * (hd : Int)))) none).run Try.prog wx = .ok (.slice (some ⟨g, off, none⟩) (4 * hd) c) wx := by
    intro wx
    have := sl1 wx
    rwa [show ((4 * hd : Nat) : Int) = 4 * (hd : Int) by omega] at this
  obtain ⟨A2, t1, rd2, _⟩ := cut_mid (P := Try.prog) (kd := .i64) (kd2 := .i64) (k := 4 * hd) (m := al) Try.underlying24 hi8 hs8 hA hok h3 hcut
  have t2 : ∀ wx : World, (Instr.slice 24 (.slice (some ⟨g, off, none⟩) n c) (some (.int .i64 (4 * (hd : Int)))) (some (.int .i64 (al : Int))) none).run Try.prog wx = .ok (.slice A2 (al - 4 * hd) (c - 4 * hd)) wx := by
    intro wx
    have := t1 wx
    rwa [show ((4 * hd : Nat) : Int) = 4 * (hd : Int) by omega] at this
  obtain ⟨A12, v1, rd12, _⟩ := cut_mid (P := Try.prog) (kd := .i64) (kd2 := .i64) (k := 12) (m := 16) Try.underlying24 hi8 hs8 hA hok (by decide) (by omega)
  have v2 : ∀ wx : World, (Instr.slice 24 (.slice (some ⟨g, off, none⟩) n c) (some (.int .i64 12)) (some (.int .i64 16)) none).run Try.prog wx = .ok (.slice A12 4 (c - 12)) wx := v1
  obtain ⟨A16, u1', rd16, _⟩ := cut_mid (P := Try.prog) (kd := .i64) (kd2 := .i64) (k := 16) (m := 20) Try.underlying24 hi8 hs8 hA hok (by decide) (by omega)
  have u2' : ∀ wx : World, (Instr.slice 24 (.slice (some ⟨g, off, none⟩) n c) (some (.int .i64 16)) (some (.int .i64 20)) none).run Try.prog wx = .ok (.slice A16 4 (c - 16)) wx := u1'
  rw [e1216] at rd12
  rw [e1620] at rd16
  have HRD := Lib.hid rd1
  have HSB := Lib.hid hsb
  have HR2 := Lib.hid rd2
  have HR12 : Hid (Rd w 0 A12 4 [s0, s1, s2, s3]) := Lib.hid rd12
  have HR16 : Hid (Rd w 0 A16 4 [d0, d1, d2, d3]) := Lib.hid rd16
  have T2 := Lib.hid t2
  have V2 := Lib.hid v2
  have U2 := Lib.hid u2'
  clear hA hok sl1 rd1 rd2 rd12 rd16 hs hsb t1 t2 v1 v2 u1' u2' e1216 e1620
  have hdl : ((L.take al).drop (4 * hd)).length = al - 4 * hd := by rw [List.length_drop, List.length_take, hLn]; omega
  obtain ⟨data, hdata⟩ : ∃ data, (L.take al).drop (4 * hd) = data := ⟨_, rfl⟩
  rw [hdata] at HR2 hdl ⊢
  clear hdata hLn
  obtain ⟨m, hm⟩ : ∃ m, al - 4 * hd = m := ⟨_, rfl⟩
  have hm2 : m ≤ 65535 := by omega
  rw [hm] at HR2 T2 hdl
  clear hm
  obtain ⟨c2, hc2⟩ : ∃ c2, c - 4 * hd = c2 := ⟨_, rfl⟩
  rw [hc2] at T2
  clear hc2
  have c4 := p4.toNat_lt
  have c5 := p5.toNat_lt
  have c6 := p6.toNat_lt
  have c7 := p7.toNat_lt
  have o1 := or_u16 p4 p5
  have o2 := or_u16 p6 p7
  have w41 : IntKind.u16.wrap (p4.toNat : Int) = (p4.toNat : Int) := wrap_u16 (by omega) (by omega)
  have w51 : IntKind.u16.wrap (p5.toNat : Int) = (p5.toNat : Int) := wrap_u16 (by omega) (by omega)
  have w61 : IntKind.u16.wrap (p6.toNat : Int) = (p6.toNat : Int) := wrap_u16 (by omega) (by omega)
  have w71 : IntKind.u16.wrap (p7.toNat : Int) = (p7.toNat : Int) := wrap_u16 (by omega) (by omega)
  have w42 : IntKind.u16.wrap ((p4.toNat : Int) * 256) = (p4.toNat : Int) * 256 := wrap_u16 (by omega) (by omega)
  have w62 : IntKind.u16.wrap ((p6.toNat : Int) * 256) = (p6.toNat : Int) * 256 := wrap_u16 (by omega) (by omega)
  obtain ⟨idn, hid⟩ : ∃ idn, 256 * p4.toNat + p5.toNat = idn := ⟨_, rfl⟩
  obtain ⟨pc, hpc⟩ : ∃ pc, 256 * p6.toNat + p7.toNat = pc := ⟨_, rfl⟩
  have hpc2 : pc ≤ 65535 := by omega
  have am := and_8192 pc hpc2
  have al1 := and_8191 pc hpc2
  rw [hid] at o1 ⊢
  rw [hpc] at o2 ⊢
  clear hid hpc
  obtain ⟨mo, hmo⟩ : ∃ mo, decide (pc / 8192 % 2 = 1) = mo := ⟨_, rfl⟩
  obtain ⟨pm, hpm⟩ : ∃ pm, pc % 8192 = pm := ⟨_, rfl⟩
  have hpm2 : pm < 8192 := by omega
  rw [hmo] at am ⊢
  rw [hpm] at al1 ⊢
  clear hmo hpm
  go_enter Try.func15, Try.ntmps15
  go_wp2
  go_quiet (fail)
  go_wp2_with fail
  refine (right_any _ _ 1 _ [L.take (4 * hd)] (rdAll_mk (vs := [.slice (some ⟨g, off, none⟩) (4 * hd) c]) (by simp) rfl (by decide) ⟨⟨_, _, _, rfl, HRD.out.keep (kb.of_drawn _), by unfold maxLen; omega⟩, trivial⟩)).mono ?_
  rintro e W3 ⟨rfl, rfl⟩
  rw [show [L.take (4 * hd)].flatten = L.take (4 * hd) by simp, HSB.out]
  have kw3 : Kp w (((w.alloc (.cells #[.int .u16 0, .bool false, .int .i64 0, .int .u8 0, .int .u8 0, .int .u8 0, .int .u8 0, .int .u8 0, .int .u8 0, .int .u8 0, .int .u8 0, .int .u8 0, .int .u8 0, .slice none 0 0] 38)).drewN nq).alloc (.cells #[.slice (some ⟨g, off, none⟩) (4 * hd) c] 24)) := (kb.of_drawn _).alloc _
  have row3 : (((w.alloc (.cells #[.int .u16 0, .bool false, .int .i64 0, .int .u8 0, .int .u8 0, .int .u8 0, .int .u8 0, .int .u8 0, .int .u8 0, .int .u8 0, .int .u8 0, .int .u8 0, .int .u8 0, .slice none 0 0] 38)).drewN nq).alloc (.cells #[.slice (some ⟨g, off, none⟩) (4 * hd) c] 24)).heap[w.heap.size]? = some (.cells #[.int .u16 0, .bool false, .int .i64 0, .int .u8 0, .int .u8 0, .int .u8 0, .int .u8 0, .int .u8 0, .int .u8 0, .int .u8 0, .int .u8 0, .int .u8 0, .int .u8 0, .slice none 0 0] 38 (0, 0)) := (Below.heap_alloc _ _ _ (by simp)).trans HX.out
  generalize ((w.alloc (.cells #[.int .u16 0, .bool false, .int .i64 0, .int .u8 0, .int .u8 0, .int .u8 0, .int .u8 0, .int .u8 0, .int .u8 0, .int .u8 0, .int .u8 0, .int .u8 0, .int .u8 0, .slice none 0 0] 38)).drewN nq).alloc (.cells #[.slice (some ⟨g, off, none⟩) (4 * hd) c] 24) = w3 at kw3 row3 ⊢
  have HX3 := Lib.hid row3
  have hlt3 : w.heap.size < w3.heap.size := (Array.getElem?_eq_some_iff.1 row3).1
  clear row3 z0 z2 z3 b0 b2 b3 a1 a2 a3 sl2 HX kb HRD HSB
  obtain ⟨_, _, _, _, _, y6, y7, _⟩ := KA'.out _ kw3
  go_wp2
  go_quiet (fail)
  have kw4 : Kp w (w3.drewN nq) := kw3.of_drawn _
  have row4 : (w3.drewN nq).heap[w.heap.size]? = some (.cells #[.int .u16 0, .bool false, .int .i64 0, .int .u8 0, .int .u8 0, .int .u8 0, .int .u8 0, .int .u8 0, .int .u8 0, .int .u8 0, .int .u8 0, .int .u8 0, .int .u8 0, .slice none 0 0] 38 (0, 0)) := HX3.out
  have hlt4 : w.heap.size < (w3.drewN nq).heap.size := hlt3
  generalize w3.drewN nq = w4 at kw4 row4 hlt4 ⊢
  have HX4 := Lib.hid row4
  have t2 := T2.out
  have KC : ∀ W : World, Kp w4 W → W.cell? ⟨g, off + 4, none⟩ = some (.int .u8 (p4.toNat : Int)) ∧ W.cell? ⟨g, off + 5, none⟩ = some (.int .u8 (p5.toNat : Int)) ∧ W.cell? ⟨g, off + 8, none⟩ = some (.int .u8 (q0.toNat : Int)) ∧ W.cell? ⟨g, off + 9, none⟩ = some (.int .u8 (q1.toNat : Int)) := by
    intro W hk
    obtain ⟨_, _, _, x4, x5, _, _, x8, x9⟩ := KA'.out W (kw4.trans hk)
    exact ⟨x4, x5, x8, x9⟩
  have RDM : ∀ W : World, Kp w4 W → Rd W 0 A2 m data := fun W hk => HR2.out.keep (kw4.trans hk)
  have n4 : (4 : Int) < (n : Int) := by omega
  have n5 : (5 : Int) < (n : Int) := by omega
  have n8 : (8 : Int) < (n : Int) := by omega
  have n9 : (9 : Int) < (n : Int) := by omega
  have wpm : IntKind.i64.wrap (pm : Int) = (pm : Int) := by rw [IntKind.wrap_i64]; omega
  have wp8 : IntKind.i64.wrap (8 * (pm : Int)) = 8 * (pm : Int) := by rw [IntKind.wrap_i64]; omega
  clear row4 y6 y7 o2 w61 w71 w62 kw3 HX3 hlt3 T2
  go_wp2
  refine wp_region_steps (by kernel_rfl) 31 (p6phi w w4 g off n c p4 p5 q0 q1 idn pc pm hd al m c2 mo A2 data) [68, 69, 70, 71, 72, 73, 74, 75, 76, 77, 78, 79, 80, 81, 82, 83, 84, 85, 86, 87, 88, 89, 90, 91, 92, 93, 94, 95, 96, 97, 7] (by kernel_rfl) (by kernel_rfl) ⟨?_, ?_, ?_, ?_, ?_, ?_, ?_, ?_, ?_, ?_, ?_, ?_, ?_, ?_, ?_, ?_, ?_, ?_, ?_, ?_, ?_, ?_, ?_, ?_, ?_, ?_, ?_, ?_, ?_, ?_, ?_, trivial⟩ ?_
  · intro a W hW hO hφ K hK
    have q0 : a.tmps.getD 0 undef = (.slice (some ⟨g, off, none⟩) n c) := hO 0 (by kernel_rfl)
    have r0 := q0
    rw [Array.getD_eq_getD_getElem?] at r0
    clear hO hφ
    clear KC RDM
    go_simp
    exact hK _ _ (Kp.refl _) rfl
  · intro a W hW hO hφ K hK
    have q68 : a.tmps.getD 68 undef = (.slice (some ⟨g, off, none⟩) n c) := hφ ⟨0, .data⟩ (by simp) rfl
    have r68 := q68
    rw [Array.getD_eq_getD_getElem?] at r68
    clear hO hφ
    clear KC RDM
    go_simp
    exact hK _ _ (Kp.refl _) rfl
  · intro a W hW hO hφ K hK
    have q69 : a.tmps.getD 69 undef = (.pointer (some ⟨g, off + 4, none⟩)) := hφ ⟨1, .data⟩ (by simp) rfl
    have r69 := q69
    rw [Array.getD_eq_getD_getElem?] at r69
    clear hO hφ
    obtain ⟨k4, k5, k8, k9⟩ := KC W (Kp.trans ((Kp.refl _).drew) hW)
    clear KC RDM
    go_simp
    exact hK _ _ (Kp.refl _) rfl
  · intro a W hW hO hφ K hK
    have q70 : a.tmps.getD 70 undef = (.int .u8 (p4.toNat : Int)) := hφ ⟨2, .data⟩ (by simp) rfl
    have r70 := q70
    rw [Array.getD_eq_getD_getElem?] at r70
    clear hO hφ
    clear KC RDM
    go_simp
    exact hK _ _ (Kp.refl _) rfl
  · intro a W hW hO hφ K hK
    have q71 : a.tmps.getD 71 undef = (.int .u16 (p4.toNat : Int)) := hφ ⟨3, .data⟩ (by simp) rfl
    have r71 := q71
    rw [Array.getD_eq_getD_getElem?] at r71
    clear hO hφ
    clear KC RDM
    go_simp
    exact hK _ _ (Kp.refl _) rfl
  · intro a W hW hO hφ K hK
    have q0 : a.tmps.getD 0 undef = (.slice (some ⟨g, off, none⟩) n c) := hO 0 (by kernel_rfl)
    have r0 := q0
    rw [Array.getD_eq_getD_getElem?] at r0
    clear hO hφ
    clear KC RDM
    go_simp
    exact hK _ _ (Kp.refl _) rfl
  · intro a W hW hO hφ K hK
    have q73 : a.tmps.getD 73 undef = (.slice (some ⟨g, off, none⟩) n c) := hφ ⟨5, .data⟩ (by simp) rfl
    have r73 := q73
    rw [Array.getD_eq_getD_getElem?] at r73
    clear hO hφ
    clear KC RDM
    go_simp
    exact hK _ _ (Kp.refl _) rfl
  · intro a W hW hO hφ K hK
    have q74 : a.tmps.getD 74 undef = (.pointer (some ⟨g, off + 5, none⟩)) := hφ ⟨6, .data⟩ (by simp) rfl
    have r74 := q74
    rw [Array.getD_eq_getD_getElem?] at r74
    clear hO hφ
    obtain ⟨k4, k5, k8, k9⟩ := KC W (Kp.trans ((Kp.refl _).drew) hW)
    clear KC RDM
    go_simp
    exact hK _ _ (Kp.refl _) rfl
  · intro a W hW hO hφ K hK
    have q75 : a.tmps.getD 75 undef = (.int .u8 (p5.toNat : Int)) := hφ ⟨7, .data⟩ (by simp) rfl
    have r75 := q75
    rw [Array.getD_eq_getD_getElem?] at r75
    clear hO hφ
    clear KC RDM
    go_simp
    exact hK _ _ (Kp.refl _) rfl
  · intro a W hW hO hφ K hK
    have q72 : a.tmps.getD 72 undef = (.int .u16 ((p4.toNat : Int) * 256)) := hφ ⟨4, .data⟩ (by simp) rfl
    have q76 : a.tmps.getD 76 undef = (.int .u16 (p5.toNat : Int)) := hφ ⟨8, .data⟩ (by simp) rfl
    have r72 := q72
    rw [Array.getD_eq_getD_getElem?] at r72
    have r76 := q76
    rw [Array.getD_eq_getD_getElem?] at r76
    clear hO hφ
    clear KC RDM
    go_simp
    exact hK _ _ (Kp.refl _) rfl
  · intro a W hW hO hφ K hK
    have q6 : a.tmps.getD 6 undef = (.int .u16 (pc : Int)) := hO 6 (by kernel_rfl)
    have r6 := q6
    rw [Array.getD_eq_getD_getElem?] at r6
    clear hO hφ
    clear KC RDM
    go_simp
    exact hK _ _ (Kp.refl _) rfl
  · intro a W hW hO hφ K hK
    have q78 : a.tmps.getD 78 undef = (.int .u16 (pc : Int)) := hφ ⟨10, .data⟩ (by simp) rfl
    have r78 := q78
    rw [Array.getD_eq_getD_getElem?] at r78
    clear hO hφ
    clear KC RDM am
    go_simp
    exact hK _ _ (Kp.refl _) rfl
  · intro a W hW hO hφ K hK
    have q79 : a.tmps.getD 79 undef = (.int .u16 (bits BinOp.and IntKind.u16 (pc : Int) 8192)) := hφ ⟨11, .data⟩ (by simp) rfl
    have r79 := q79
    rw [Array.getD_eq_getD_getElem?] at r79
    clear hO hφ
    clear KC RDM
    go_simp
    exact hK _ _ (Kp.refl _) rfl
  · intro a W hW hO hφ K hK
    have q6 : a.tmps.getD 6 undef = (.int .u16 (pc : Int)) := hO 6 (by kernel_rfl)
    have r6 := q6
    rw [Array.getD_eq_getD_getElem?] at r6
    clear hO hφ
    clear KC RDM
    go_simp
    exact hK _ _ (Kp.refl _) rfl
  · intro a W hW hO hφ K hK
    have q81 : a.tmps.getD 81 undef = (.int .u16 (pc : Int)) := hφ ⟨13, .data⟩ (by simp) rfl
    have r81 := q81
    rw [Array.getD_eq_getD_getElem?] at r81
    clear hO hφ
    clear KC RDM
    go_simp
    exact hK _ _ (Kp.refl _) rfl
  · intro a W hW hO hφ K hK
    have q82 : a.tmps.getD 82 undef = (.int .u16 (pm : Int)) := hφ ⟨14, .data⟩ (by simp) rfl
    have r82 := q82
    rw [Array.getD_eq_getD_getElem?] at r82
    clear hO hφ
    clear KC RDM
    go_simp
    exact hK _ _ (Kp.refl _) rfl
  · intro a W hW hO hφ K hK
    have q83 : a.tmps.getD 83 undef = (.int .i64 (pm : Int)) := hφ ⟨15, .data⟩ (by simp) rfl
    have r83 := q83
    rw [Array.getD_eq_getD_getElem?] at r83
    clear hO hφ
    clear KC RDM
    go_simp
    exact hK _ _ (Kp.refl _) rfl
  · intro a W hW hO hφ K hK
    have q0 : a.tmps.getD 0 undef = (.slice (some ⟨g, off, none⟩) n c) := hO 0 (by kernel_rfl)
    have r0 := q0
    rw [Array.getD_eq_getD_getElem?] at r0
    clear hO hφ
    clear KC RDM
    go_simp
    exact hK _ _ (Kp.refl _) rfl
  · intro a W hW hO hφ K hK
    have q85 : a.tmps.getD 85 undef = (.slice (some ⟨g, off, none⟩) n c) := hφ ⟨17, .data⟩ (by simp) rfl
    have r85 := q85
    rw [Array.getD_eq_getD_getElem?] at r85
    clear hO hφ
    clear KC RDM
    go_simp
    exact hK _ _ (Kp.refl _) rfl
  · intro a W hW hO hφ K hK
    have q86 : a.tmps.getD 86 undef = (.pointer (some ⟨g, off + 8, none⟩)) := hφ ⟨18, .data⟩ (by simp) rfl
    have r86 := q86
    rw [Array.getD_eq_getD_getElem?] at r86
    clear hO hφ
    obtain ⟨k4, k5, k8, k9⟩ := KC W (Kp.trans ((Kp.refl _).drew) hW)
    clear KC RDM
    go_simp
    exact hK _ _ (Kp.refl _) rfl
  · intro a W hW hO hφ K hK
    have q0 : a.tmps.getD 0 undef = (.slice (some ⟨g, off, none⟩) n c) := hO 0 (by kernel_rfl)
    have r0 := q0
    rw [Array.getD_eq_getD_getElem?] at r0
    clear hO hφ
    clear KC RDM
    go_simp
    exact hK _ _ (Kp.refl _) rfl
  · intro a W hW hO hφ K hK
    have q88 : a.tmps.getD 88 undef = (.slice (some ⟨g, off, none⟩) n c) := hφ ⟨20, .data⟩ (by simp) rfl
    have r88 := q88
    rw [Array.getD_eq_getD_getElem?] at r88
    clear hO hφ
    clear KC RDM
    go_simp
    exact hK _ _ (Kp.refl _) rfl
  · intro a W hW hO hφ K hK
    have q89 : a.tmps.getD 89 undef = (.pointer (some ⟨g, off + 9, none⟩)) := hφ ⟨21, .data⟩ (by simp) rfl
    have r89 := q89
    rw [Array.getD_eq_getD_getElem?] at r89
    clear hO hφ
    obtain ⟨k4, k5, k8, k9⟩ := KC W (Kp.trans ((Kp.refl _).drew) hW)
    clear KC RDM
    go_simp
    exact hK _ _ (Kp.refl _) rfl
  · intro a W hW hO hφ K hK
    clear hO hφ
    clear KC RDM
    go_simp
    exact hK _ _ ((Kp.refl _).alloc _) ⟨_, rfl⟩
  · intro a W hW hO hφ K hK
    have q0 : a.tmps.getD 0 undef = (.slice (some ⟨g, off, none⟩) n c) := hO 0 (by kernel_rfl)
    have r0 := q0
    rw [Array.getD_eq_getD_getElem?] at r0
    clear hO hφ
    clear KC RDM
    go_simp
    exact hK _ _ (Kp.refl _) rfl
  · intro a W hW hO hφ K hK
    have q4 : a.tmps.getD 4 undef = (.int .i64 (4 * (hd : Int))) := hO 4 (by kernel_rfl)
    have r4 := q4
    rw [Array.getD_eq_getD_getElem?] at r4
    clear hO hφ
    clear KC RDM
    go_simp
    exact hK _ _ (Kp.refl _) rfl
  · intro a W hW hO hφ K hK
    have q5 : a.tmps.getD 5 undef = (.int .i64 (al : Int)) := hO 5 (by kernel_rfl)
    have r5 := q5
    rw [Array.getD_eq_getD_getElem?] at r5
    clear hO hφ
    clear KC RDM
    go_simp
    exact hK _ _ (Kp.refl _) rfl
  · intro a W hW hO hφ K hK
    have q92 : a.tmps.getD 92 undef = (.slice (some ⟨g, off, none⟩) n c) := hφ ⟨24, .data⟩ (by simp) rfl
    have q93 : a.tmps.getD 93 undef = (.int .i64 (4 * (hd : Int))) := hφ ⟨25, .data⟩ (by simp) rfl
    have q94 : a.tmps.getD 94 undef = (.int .i64 (al : Int)) := hφ ⟨26, .data⟩ (by simp) rfl
    have r92 := q92
    rw [Array.getD_eq_getD_getElem?] at r92
    have r93 := q93
    rw [Array.getD_eq_getD_getElem?] at r93
    have r94 := q94
    rw [Array.getD_eq_getD_getElem?] at r94
    clear hO hφ
    clear KC RDM
    go_simp
    exact hK _ _ (Kp.refl _) rfl
  · intro a W hW hO hφ K hK
    have q91 : (St.emp).p (a.tmps.getD 91 undef) W := hφ ⟨23, .data⟩ (by simp) rfl
    have q95 : a.tmps.getD 95 undef = (.slice A2 m c2) := hφ ⟨27, .data⟩ (by simp) rfl
    have r95 := q95
    rw [Array.getD_eq_getD_getElem?] at r95
    clear hO hφ
    obtain ⟨ge, qe⟩ := q91
    refine oapp_empty (.tmp 91) (.tmp 95) rfl qe q95 (RDM W (Kp.trans ((Kp.refl _).drew) hW)) (by omega) (fun A' cap' w' h1 h2 h3 => ?_)
    exact hK _ _ h3 ⟨_, _, rfl, RdV.mono_lo h1 (by have := hW.size; simp at this; omega), h2⟩
  · intro a W hW hO hφ K hK
    have q77 : a.tmps.getD 77 undef = (.int .u16 (idn : Int)) := hφ ⟨9, .data⟩ (by simp) rfl
    have q80 : a.tmps.getD 80 undef = (.bool mo) := hφ ⟨12, .data⟩ (by simp) rfl
    have q84 : a.tmps.getD 84 undef = (.int .i64 (8 * (pm : Int))) := hφ ⟨16, .data⟩ (by simp) rfl
    have q87 : a.tmps.getD 87 undef = (.int .u8 (q0.toNat : Int)) := hφ ⟨19, .data⟩ (by simp) rfl
    have q90 : a.tmps.getD 90 undef = (.int .u8 (q1.toNat : Int)) := hφ ⟨22, .data⟩ (by simp) rfl
    have q96 : (St.rd0 (w.heap.size + 1) m data).p (a.tmps.getD 96 undef) W := hφ ⟨28, .data⟩ (by simp) rfl
    have r77 := q77
    rw [Array.getD_eq_getD_getElem?] at r77
    have r80 := q80
    rw [Array.getD_eq_getD_getElem?] at r80
    have r84 := q84
    rw [Array.getD_eq_getD_getElem?] at r84
    have r87 := q87
    rw [Array.getD_eq_getD_getElem?] at r87
    have r90 := q90
    rw [Array.getD_eq_getD_getElem?] at r90
    clear hO hφ
    clear KC RDM
    obtain ⟨A1, c1, q96', hr, hok⟩ := q96
    have r96 := q96'
    rw [Array.getD_eq_getD_getElem?] at r96
    go_simp
    exact hK _ _ (Kp.refl _) ⟨_, _, rfl, hr, hok⟩
  · intro a W hW hO hφ K hK
    clear hO hφ
    clear KC RDM
    have hsz := hW.size
    go_simp
    exact hK _ _ ((Kp.refl _).alloc _) ⟨W.heap.size, rfl, hsz, heap_alloc_new W _⟩
  intro f W hW hφ
  have v0 : f 0 = (.slice (some ⟨g, off, none⟩) n c) := hφ 0 (by omega)
  have v1 : f 1 = (.pointer (some ⟨g, off + 4, none⟩)) := hφ 1 (by omega)
  have v2 : f 2 = (.int .u8 (p4.toNat : Int)) := hφ 2 (by omega)
  have v3 : f 3 = (.int .u16 (p4.toNat : Int)) := hφ 3 (by omega)
  have v4 : f 4 = (.int .u16 ((p4.toNat : Int) * 256)) := hφ 4 (by omega)
  have v5 : f 5 = (.slice (some ⟨g, off, none⟩) n c) := hφ 5 (by omega)
  have v6 : f 6 = (.pointer (some ⟨g, off + 5, none⟩)) := hφ 6 (by omega)
  have v7 : f 7 = (.int .u8 (p5.toNat : Int)) := hφ 7 (by omega)
  have v8 : f 8 = (.int .u16 (p5.toNat : Int)) := hφ 8 (by omega)
  have v9 : f 9 = (.int .u16 (idn : Int)) := hφ 9 (by omega)
  have v10 : f 10 = (.int .u16 (pc : Int)) := hφ 10 (by omega)
  have v11 : f 11 = (.int .u16 (bits BinOp.and IntKind.u16 (pc : Int) 8192)) := hφ 11 (by omega)
  have v12 : f 12 = (.bool mo) := hφ 12 (by omega)
  have v13 : f 13 = (.int .u16 (pc : Int)) := hφ 13 (by omega)
  have v14 : f 14 = (.int .u16 (pm : Int)) := hφ 14 (by omega)
  have v15 : f 15 = (.int .i64 (pm : Int)) := hφ 15 (by omega)
  have v16 : f 16 = (.int .i64 (8 * (pm : Int))) := hφ 16 (by omega)
  have v17 : f 17 = (.slice (some ⟨g, off, none⟩) n c) := hφ 17 (by omega)
  have v18 : f 18 = (.pointer (some ⟨g, off + 8, none⟩)) := hφ 18 (by omega)
  have v19 : f 19 = (.int .u8 (q0.toNat : Int)) := hφ 19 (by omega)
  have v20 : f 20 = (.slice (some ⟨g, off, none⟩) n c) := hφ 20 (by omega)
  have v21 : f 21 = (.pointer (some ⟨g, off + 9, none⟩)) := hφ 21 (by omega)
  have v22 : f 22 = (.int .u8 (q1.toNat : Int)) := hφ 22 (by omega)
  have v23 : (St.emp).p (f 23) W := hφ 23 (by omega)
  have v24 : f 24 = (.slice (some ⟨g, off, none⟩) n c) := hφ 24 (by omega)
  have v25 : f 25 = (.int .i64 (4 * (hd : Int))) := hφ 25 (by omega)
  have v26 : f 26 = (.int .i64 (al : Int)) := hφ 26 (by omega)
  have v27 : f 27 = (.slice A2 m c2) := hφ 27 (by omega)
  have v28 : (St.rd0 (w.heap.size + 1) m data).p (f 28) W := hφ 28 (by omega)
  have v29 : (St.with0 (w.heap.size + 1) m data (fun gd c => .agg #[.int .u16 (idn : Int), .bool mo, .int .i64 (8 * (pm : Int)), .int .u8 (q0.toNat : Int), .int .u8 (q1.toNat : Int), .int .u8 0, .int .u8 0, .int .u8 0, .int .u8 0, .int .u8 0, .int .u8 0, .int .u8 0, .int .u8 0, .slice (some ⟨gd, 0, none⟩) m c])).p (f 29) W := hφ 29 (by omega)
  have v30 : (St.row w4.heap.size #[.int .u16 0, .bool false, .int .i64 0, .int .u8 0, .int .u8 0, .int .u8 0, .int .u8 0, .int .u8 0, .int .u8 0, .int .u8 0, .int .u8 0, .int .u8 0, .int .u8 0, .slice none 0 0] 38).p (f 30) W := hφ 30 (by omega)
  clear hφ
  simp only [putAll, List.setIfInBounds_toArray, List.set_cons_succ, List.set_cons_zero, v0, v1, v2, v3, v4, v5, v6, v7, v8, v9, v10, v11, v12, v13, v14, v15, v16, v17, v18, v19, v20, v21, v22, v24, v25, v26, v27]
  clear v0 v1 v2 v3 v4 v5 v6 v7 v8 v9 v10 v11 v12 v13 v14 v15 v16 v17 v18 v19 v20 v21 v22 v24 v25 v26 v27
  obtain ⟨gd, cd, hv29, hrd, hsd⟩ := v29
  obtain ⟨nb, hv30, hnb, hrow⟩ := v30
  refine wpAny_ready (rs := [31]) (by kernel_rfl) (by simp) (AllReady.cons rfl (fun K' hK' => ?_) AllReady.nil)
  have hv29' : f 29 = .agg #[.int .u16 (idn : Int), .bool mo, .int .i64 (8 * (pm : Int)), .int .u8 (q0.toNat : Int), .int .u8 (q1.toNat : Int), .int .u8 0, .int .u8 0, .int .u8 0, .int .u8 0, .int .u8 0, .int .u8 0, .int .u8 0, .int .u8 0, .slice (some ⟨gd, 0, none⟩) m cd] := hv29
  have hv30' : f 30 = .pointer (some ⟨nb, 0, none⟩) := hv30
  simp only [hv29', hv30']
  split
  case isFalse hx => exact (hx rfl).elim
  refine ost_row (.tmp 7) (.tmp 97) _ rfl rfl rfl rfl hrow szPkt rfl rfl ?_
  refine hK' _ _ ?_
  refine wpAny_done (by kernel_rfl) ?_ _
  have hkW : Kp w4 W := Kp.trans ((Kp.refl _).drew) hW
  obtain ⟨w5, hw5, hk5, hrow5, hrd5⟩ : ∃ w5, w5 = W.setRow nb #[.int .u16 (idn : Int), .bool mo, .int .i64 (8 * (pm : Int)), .int .u8 (q0.toNat : Int), .int .u8 (q1.toNat : Int), .int .u8 0, .int .u8 0, .int .u8 0, .int .u8 0, .int .u8 0, .int .u8 0, .int .u8 0, .int .u8 0, .slice (some ⟨gd, 0, none⟩) m cd] ∧ Kp w4 w5 ∧ w5.heap[nb]? = some (.cells #[.int .u16 (idn : Int), .bool mo, .int .i64 (8 * (pm : Int)), .int .u8 (q0.toNat : Int), .int .u8 (q1.toNat : Int), .int .u8 0, .int .u8 0, .int .u8 0, .int .u8 0, .int .u8 0, .int .u8 0, .int .u8 0, .int .u8 0, .slice (some ⟨gd, 0, none⟩) m cd] 38 (0, 0)) ∧ Rd w5 (w.heap.size + 1) (some ⟨gd, 0, none⟩) m data :=
    ⟨_, rfl, hkW.setRow hnb, setRow_heap _ _ _ _ _ _ hrow, rd0_other hrd hrow rfl (by decide)⟩
  rw [← hw5]
  clear hw5 hrow hrd hK' hv29 hv29' hv30 hv30' hkW hW RDM KC t2
  have v12 := V2.out
  have v16 := U2.out
  have rd12 : Rd w5.drew 0 A12 4 [s0, s1, s2, s3] := HR12.out.keep (kw4.trans hk5).drew
  go_wp2
  go_region_law (refine step_copy8 rfl (.tmp 99) (.tmp 101) _ _ rfl Try.underlying24 szB rfl rfl (by decide) hrow5 rd12 (by simp) ?_; intro w6 hrow6 gr6; have hk6 := hk5.drew.grown gr6 hnb)
  replace hrow6 : w6.heap[nb]? = some (.cells #[.int .u16 (idn : Int), .bool mo, .int .i64 (8 * (pm : Int)), .int .u8 (q0.toNat : Int), .int .u8 (q1.toNat : Int), .int .u8 (s0.toNat : Int), .int .u8 (s1.toNat : Int), .int .u8 (s2.toNat : Int), .int .u8 (s3.toNat : Int), .int .u8 0, .int .u8 0, .int .u8 0, .int .u8 0, .slice (some ⟨gd, 0, none⟩) m cd] 38 (0, 0)) := hrow6
  have hrd6 : Rd w6 (w.heap.size + 1) (some ⟨gd, 0, none⟩) m data := rd0_grown (w := w5.drew) hrd5 hrow5 rfl (by decide) gr6
  have rd16 : Rd w6.drew 0 A16 4 [d0, d1, d2, d3] := HR16.out.keep (kw4.trans hk6).drew
  clear hrow5 hrd5 gr6 rd12 hk5 v12
  go_wp2
  go_region_law (refine step_copy8 rfl (.tmp 104) (.tmp 106) _ _ rfl Try.underlying24 szB rfl rfl (by decide) hrow6 rd16 (by simp) ?_; intro w7 hrow7 gr7; have hk7 := hk6.drew.grown gr7 hnb)
  replace hrow7 : w7.heap[nb]? = some (.cells #[.int .u16 (idn : Int), .bool mo, .int .i64 (8 * (pm : Int)), .int .u8 (q0.toNat : Int), .int .u8 (q1.toNat : Int), .int .u8 (s0.toNat : Int), .int .u8 (s1.toNat : Int), .int .u8 (s2.toNat : Int), .int .u8 (s3.toNat : Int), .int .u8 (d0.toNat : Int), .int .u8 (d1.toNat : Int), .int .u8 (d2.toNat : Int), .int .u8 (d3.toNat : Int), .slice (some ⟨gd, 0, none⟩) m cd] 38 (0, 0)) := hrow7
  have hrd7 : Rd w7 (w.heap.size + 1) (some ⟨gd, 0, none⟩) m data := rd0_grown (w := w6.drew) hrd6 hrow6 rfl (by decide) gr7
  clear hrow6 hrd6 gr7 rd16 hk6 v16
  have hbk7 := (hk7.block _ hlt4).trans HX4.out
  have hrow8 := setRow_heap w7 w.heap.size _ #[.int .u16 (idn : Int), .bool mo, .int .i64 (8 * (pm : Int)), .int .u8 (q0.toNat : Int), .int .u8 (q1.toNat : Int), .int .u8 (s0.toNat : Int), .int .u8 (s1.toNat : Int), .int .u8 (s2.toNat : Int), .int .u8 (s3.toNat : Int), .int .u8 (d0.toNat : Int), .int .u8 (d1.toNat : Int), .int .u8 (d2.toNat : Int), .int .u8 (d3.toNat : Int), .slice (some ⟨gd, 0, none⟩) m cd] _ _ hbk7
  have HX7 := Lib.hid hbk7
  have HRW7 := Lib.hid hrow7
  clear hbk7 hrow7
  go_wp2_with (first | (refine lld_row (by rfl) (.tmp 7) _ _ rfl rfl HRW7.out Try.underlying38 rfl szPkt ?_) | (refine lst_row (by rfl) (.tmp 2) (.tmp 108) _ rfl rfl rfl HX7.out szPkt rfl rfl rfl ?_))
  refine bodyPost_ret (v := .tuple #[.agg #[.int .u16 (idn : Int), .bool mo, .int .i64 (8 * (pm : Int)), .int .u8 (q0.toNat : Int), .int .u8 (q1.toNat : Int), .int .u8 (s0.toNat : Int), .int .u8 (s1.toNat : Int), .int .u8 (s2.toNat : Int), .int .u8 (s3.toNat : Int), .int .u8 (d0.toNat : Int), .int .u8 (d1.toNat : Int), .int .u8 (d2.toNat : Int), .int .u8 (d3.toNat : Int), .slice (some ⟨gd, 0, none⟩) m cd], .int .i64 0]) (results_cell2 (fn := Try.f15) szPkt uPkt hrow8 rfl Try.results15 rfl rfl) rfl ⟨(kw4.trans hk7).setRow (Nat.le_refl _), some ⟨gd, 0, none⟩, cd, by rw [hdl], ?_, ?_⟩
  · rw [hdl]
    exact RdV.mono_lo (RdV.setRow hrd7 (by omega)) (by omega)
  · rw [hdl]; exact hsd
end Go.Proofs.Ytnoobifdaldfiaa.Fr
