/-
  The contract of dgram.datagram: the Datagram of bytes.
-/
import Derived.Test.YtpjjanbcjkdciaaD8c
import Derived.Test.YtpjjanbcjkdciaaD8e
namespace Go.Proofs.Ytpjjanbcjkdciaa
open Go.RowKit

/-- a slice of two byte slices -/
def St.all2 (P L : List UInt8) : St := ⟨fun v W => ∃ A c, v = .slice A 2 c ∧ RdAll W A 2 [P, L], fun _ _ _ ⟨A, c, h1, h2, h3, h4⟩ k => ⟨A, c, h1, h2.keep k, h3, h4⟩⟩

def outG (src dst : List UInt8) : List UInt8 → Int ⊕ (Nat × Nat × List UInt8)
  | a0 :: a1 :: b0 :: b1 :: n0 :: n1 :: c0 :: c1 :: r =>
    if 256 * n0.toNat + n1.toNat < 8 then .inl 7
    else if (a0 :: a1 :: b0 :: b1 :: n0 :: n1 :: c0 :: c1 :: r).length < 256 * n0.toNat + n1.toNat then .inl 6
    else if 256 * c0.toNat + c1.toNat ≠ 0 ∧ Ck.ck (pseudo src dst 17 (256 * n0.toNat + n1.toNat) ++ (a0 :: a1 :: b0 :: b1 :: n0 :: n1 :: c0 :: c1 :: r).take (256 * n0.toNat + n1.toNat)) ≠ 65535 then .inl 8
    else .inr (256 * a0.toNat + a1.toNat, 256 * b0.toNat + b1.toNat, r.take (256 * n0.toNat + n1.toNat - 8))
  | _ => .inl 6
theorem outG_short {src dst l : List UInt8} (h : l.length < 8) : outG src dst l = .inl 6 := by
  unfold outG
  split
  · simp only [List.length_cons] at h; omega
  · rfl
/-- this Datagram -/
def GramOk (w : World) (sp dp : Nat) (data : List UInt8) (e : Ending) (w' : World) : Prop :=
  Kp w w' ∧ ∃ A c, e = .returned (.tuple #[.iface 43 (.agg #[.int .u16 (sp : Int), .int .u16 (dp : Int), .slice A data.length c]), .int .i64 0]) ∧ Rd w' w.heap.size A data.length data ∧ SlOk A data.length c
def GPost (w : World) (src dst l : List UInt8) (e : Ending) (w' : World) : Prop :=
  (∃ k, k ≠ 0 ∧ outG src dst l = .inl k ∧ MsgNo w k e w') ∨ ∃ sp dp data, outG src dst l = .inr (sp, dp, data) ∧ sp ≤ 65535 ∧ dp ≤ 65535 ∧ data.length ≤ l.length ∧ GramOk w sp dp data e w'

theorem splitG (a0 a1 b0 b1 n0 n1 c0 c1 : UInt8) (r : List UInt8) : Sp.split (a0 :: a1 :: b0 :: b1 :: n0 :: n1 :: c0 :: c1 :: r) [2, 2, 2, 2] = ([[a0, a1], [b0, b1], [n0, n1], [c0, c1], r], 0) :=
  Sp.split_part [a0, a1] (b0 :: b1 :: n0 :: n1 :: c0 :: c1 :: r) 2 [2, 2, 2] rfl _ (Sp.split_part [b0, b1] (n0 :: n1 :: c0 :: c1 :: r) 2 [2, 2] rfl _ (Sp.split_part [n0, n1] (c0 :: c1 :: r) 2 [2] rfl _ (Sp.split_part [c0, c1] r 2 [] rfl _ rfl)))
theorem splitG_no (l : List UInt8) (h : l.length < 8) : Sp.split l [2, 2, 2, 2] = ([], 6) := by
  by_cases h1 : (l.length : Int) < 2
  · exact split_step _ _ _ (by decide) (.inl h1)
  refine split_step _ _ _ (by decide) (.inr ?_)
  by_cases h2 : ((l.drop (2 : Int).toNat).length : Int) < 2
  · exact split_step _ _ _ (by decide) (.inl h2)
  refine split_step _ _ _ (by decide) (.inr ?_)
  by_cases h3 : (((l.drop (2 : Int).toNat).drop (2 : Int).toNat).length : Int) < 2
  · exact split_step _ _ _ (by decide) (.inl h3)
  refine split_step _ _ _ (by decide) (.inr ?_)
  refine split_step _ _ _ (by decide) (.inl ?_)
  simp at h1 h2 h3 ⊢
  omega

set_option maxHeartbeats 1000000 in
theorem g8_short (w : World) (A : Option Addr) (n c : Nat) (l : List UInt8) (s0 s1 s2 s3 d0 d1 d2 d3 : UInt8) (hA : Rd w 0 A n l) (hok : SlOk A n c) (h : n < 8) : Calls Try.prog 23 #[.agg #[.int .u8 (s0.toNat : Int), .int .u8 (s1.toNat : Int), .int .u8 (s2.toNat : Int), .int .u8 (s3.toNat : Int)], .agg #[.int .u8 (d0.toNat : Int), .int .u8 (d1.toNat : Int), .int .u8 (d2.toNat : Int), .int .u8 (d3.toNat : Int)], .slice A n c] w (MsgNo w 6) := by
  have es := splitG_no l (by rw [hA.len]; exact h)
  have ES := Lib.hid es
  have HOK := Lib.hid hok
  have HA := Lib.hid hA
  have e2 : ((w.alloc (.cells #[.int .u8 (s0.toNat : Int), .int .u8 (s1.toNat : Int), .int .u8 (s2.toNat : Int), .int .u8 (s3.toNat : Int)] 27)).alloc (.cells #[.int .u8 (d0.toNat : Int), .int .u8 (d1.toNat : Int), .int .u8 (d2.toNat : Int), .int .u8 (d3.toNat : Int)] 27)).heap.size = w.heap.size + 1 + 1 := by simp
  have E2 := Lib.hid e2
  clear hok es hA e2
  go_enter Try.func23, Try.ntmps23
  go_wp2_with fail
  refine (split_any _ A n c l _ 4 4 [2, 2, 2, 2] ?_ HOK.out (by omega) ?_ (by omega)).mono ?_
  · exact HA.out.keep ((((Kp.refl _).alloc _).alloc _).alloc _)
  · refine ⟨rfl, fun _ => ⟨_, 0, rfl, Nat.zero_le _, fun j u hu => ?_⟩⟩
    rw [← E2.out, cell_new]
    simpa using hu
  rintro e w1 ⟨hk1, v, he, hcase⟩
  rw [ES.out] at he hcase
  rcases hcase with ⟨_, hv⟩ | ⟨h0, _⟩
  · subst hv
    subst he
    go_wp2
    go_ret2
    exact ⟨((((Kp.refl w).alloc _).alloc _).alloc _).trans hk1, rfl⟩
  · exact absurd h0 (by decide)

noncomputable def g8on (g cap g3 c3 cs N gb ob n c : Nat) (s0 s1 s2 s3 d0 d1 d2 d3 : UInt8) (rt : Bool) (PS LN : List UInt8) : Nat → St := fun i => ([St.val (.slice (some ⟨g, 0, none⟩) 5 cap),
  St.val (.pointer (some ⟨g, 3, none⟩)),
  St.val (.slice (some ⟨g3, 0, none⟩) 2 c3),
  St.val (.int .u16 (cs : Int)),
  St.val (.bool true),
  St.val (.bool true),
  St.val (.agg #[.int .u8 (s0.toNat : Int), .int .u8 (s1.toNat : Int), .int .u8 (s2.toNat : Int), .int .u8 (s3.toNat : Int)]),
  St.val (.agg #[.int .u8 (d0.toNat : Int), .int .u8 (d1.toNat : Int), .int .u8 (d2.toNat : Int), .int .u8 (d3.toNat : Int)]),
  St.val (.int .i64 (N : Int)),
  St.rd 12 PS,
  St.val (.slice (some ⟨gb, ob, none⟩) n c),
  St.val (.int .i64 (N : Int)),
  St.val (.slice (some ⟨gb, ob, none⟩) N c),
  St.all2 PS LN,
  St.val (.bool rt),
  St.val (.bool (!rt)),
  St.val (.bool (!rt)),
  St.val (.bool (!rt))] : List St).getD i St.any
noncomputable def g8off (g cap g3 c3 cs : Nat) : Nat → St := fun i => ([St.val (.slice (some ⟨g, 0, none⟩) 5 cap),
  St.val (.pointer (some ⟨g, 3, none⟩)),
  St.val (.slice (some ⟨g3, 0, none⟩) 2 c3),
  St.val (.int .u16 (cs : Int)),
  St.val (.bool false),
  St.val (.bool false),
  St.val (undef),
  St.val (undef),
  St.val (undef),
  St.val (undef),
  St.val (undef),
  St.val (undef),
  St.val (undef),
  St.val (undef),
  St.val (undef),
  St.val (undef),
  St.val (.bool false),
  St.val (.bool false)] : List St).getD i St.any
noncomputable def g8fin (g cap g0 c0 g1 c1 g4 c4 sp dp N m rl : Nat) : Nat → St := fun i => ([St.val (.slice (some ⟨g, 0, none⟩) 5 cap),
  St.val (.pointer (some ⟨g, 0, none⟩)),
  St.val (.slice (some ⟨g0, 0, none⟩) 2 c0),
  St.val (.int .u16 (sp : Int)),
  St.val (.slice (some ⟨g, 0, none⟩) 5 cap),
  St.val (.pointer (some ⟨g, 1, none⟩)),
  St.val (.slice (some ⟨g1, 0, none⟩) 2 c1),
  St.val (.int .u16 (dp : Int)),
  St.val (.slice (some ⟨g, 0, none⟩) 5 cap),
  St.val (.pointer (some ⟨g, 4, none⟩)),
  St.val (.slice (some ⟨g4, 0, none⟩) rl c4),
  St.val (.int .i64 (N : Int)),
  St.val (.int .i64 (m : Int)),
  St.val (.slice (some ⟨g4, 0, none⟩) m c4),
  St.val (.agg #[.int .u16 (sp : Int), .int .u16 (dp : Int), .slice (some ⟨g4, 0, none⟩) m c4]),
  St.val (.iface 43 (.agg #[.int .u16 (sp : Int), .int .u16 (dp : Int), .slice (some ⟨g4, 0, none⟩) m c4])),
  St.val (.iface 43 (.agg #[.int .u16 (sp : Int), .int .u16 (dp : Int), .slice (some ⟨g4, 0, none⟩) m c4])),
  St.val (.int .i64 0)] : List St).getD i St.any

set_option maxRecDepth 100000 in
set_option maxHeartbeats 4000000 in
theorem g8_long (w : World) (A : Option Addr) (n c : Nat) (s0 s1 s2 s3 d0 d1 d2 d3 a0 a1 b0 b1 n0 n1 e0' e1' : UInt8) (r : List UInt8) (hA : Rd w 0 A n (a0 :: a1 :: b0 :: b1 :: n0 :: n1 :: e0' :: e1' :: r)) (hok : SlOk A n c) (hn : n ≤ 1048576) :
    Calls Try.prog 23 #[.agg #[.int .u8 (s0.toNat : Int), .int .u8 (s1.toNat : Int), .int .u8 (s2.toNat : Int), .int .u8 (s3.toNat : Int)], .agg #[.int .u8 (d0.toNat : Int), .int .u8 (d1.toNat : Int), .int .u8 (d2.toNat : Int), .int .u8 (d3.toNat : Int)], .slice A n c] w (GPost w [s0, s1, s2, s3] [d0, d1, d2, d3] (a0 :: a1 :: b0 :: b1 :: n0 :: n1 :: e0' :: e1' :: r)) := by
  have ES := Lib.hid (splitG a0 a1 b0 b1 n0 n1 e0' e1' r)
  have HOK := Lib.hid hok
  have HA := Lib.hid hA
  have hln := hA.len
  obtain ⟨gb, ob, rfl, _⟩ := hA.at_ (by rw [← hln]; simp)
  obtain ⟨L, hL⟩ : ∃ L, a0 :: a1 :: b0 :: b1 :: n0 :: n1 :: e0' :: e1' :: r = L := ⟨_, rfl⟩
  have hrl : r.length + 8 = L.length := by rw [← hL]; simp only [List.length_cons]
  have bn0 := n0.toNat_lt
  have bn1 := n1.toNat_lt
  have be0 := e0'.toNat_lt
  have be1 := e1'.toNat_lt
  have ba0 := a0.toNat_lt
  have ba1 := a1.toNat_lt
  have bb0 := b0.toNat_lt
  have bb1 := b1.toNat_lt
  obtain ⟨N, hN⟩ : ∃ N, 256 * n0.toNat + n1.toNat = N := ⟨_, rfl⟩
  obtain ⟨cs, hcs⟩ : ∃ cs, 256 * e0'.toNat + e1'.toNat = cs := ⟨_, rfl⟩
  obtain ⟨sp, hsp⟩ : ∃ sp, 256 * a0.toNat + a1.toNat = sp := ⟨_, rfl⟩
  obtain ⟨dp, hdp⟩ : ∃ dp, 256 * b0.toNat + b1.toNat = dp := ⟨_, rfl⟩
  have HO : Hid (outG [s0, s1, s2, s3] [d0, d1, d2, d3] L = if N < 8 then .inl 7 else if L.length < N then .inl 6 else if cs ≠ 0 ∧ Ck.ck (pseudo [s0, s1, s2, s3] [d0, d1, d2, d3] 17 N ++ L.take N) ≠ 65535 then .inl 8 else .inr (sp, dp, r.take (N - 8))) := Lib.hid (by rw [← hL, ← hN, ← hcs, ← hsp, ← hdp]; rfl)
  have hN2 : N ≤ 65535 := by omega
  have hcs2 : cs ≤ 65535 := by omega
  have hsp2 : sp ≤ 65535 := by omega
  have hdp2 : dp ≤ 65535 := by omega
  rw [hL] at HA ES hln ⊢
  have hK2 : Kp w ((w.alloc (.cells #[.int .u8 (s0.toNat : Int), .int .u8 (s1.toNat : Int), .int .u8 (s2.toNat : Int), .int .u8 (s3.toNat : Int)] 27)).alloc (.cells #[.int .u8 (d0.toNat : Int), .int .u8 (d1.toNat : Int), .int .u8 (d2.toNat : Int), .int .u8 (d3.toNat : Int)] 27)) := ((Kp.refl w).alloc _).alloc _
  have e2 : ((w.alloc (.cells #[.int .u8 (s0.toNat : Int), .int .u8 (s1.toNat : Int), .int .u8 (s2.toNat : Int), .int .u8 (s3.toNat : Int)] 27)).alloc (.cells #[.int .u8 (d0.toNat : Int), .int .u8 (d1.toNat : Int), .int .u8 (d2.toNat : Int), .int .u8 (d3.toNat : Int)] 27)).heap.size = w.heap.size + 1 + 1 := by simp
  have KH := Lib.hid (cells8h w s0 s1 s2 s3 d0 d1 d2 d3)
  have E2 := Lib.hid e2
  have HK2 := Lib.hid hK2
  clear hok hA hL e2 hK2 bn0 bn1 be0 be1 ba0 ba1 bb0 bb1
  go_enter Try.func23, Try.ntmps23
  go_wp2_with fail
  refine (split_any _ _ n c L _ 4 4 [2, 2, 2, 2] ?_ HOK.out (by omega) ?_ (by omega)).mono ?_
  · exact HA.out.keep ((((Kp.refl _).alloc _).alloc _).alloc _)
  · refine ⟨rfl, fun _ => ⟨_, 0, rfl, Nat.zero_le _, fun j u hu => ?_⟩⟩
    rw [← E2.out, cell_new]
    simpa using hu
  rintro e w1 ⟨hk1, v, he, hcase⟩
  rw [ES.out] at he hcase
  rcases hcase with ⟨h0, _⟩ | ⟨_, g, cap, vs, hv, hown, hps⟩
  · exact absurd rfl h0
  subst hv
  subst he
  replace hown : OwnV 23 w1 _ g 5 cap vs := hown
  obtain ⟨g0, c0, p0, o0⟩ := hps.part hown (j := 0) rfl
  obtain ⟨g1, c1, p1, o1⟩ := hps.part hown (j := 1) rfl
  obtain ⟨g2, c2, p2, o2⟩ := hps.part hown (j := 2) rfl
  obtain ⟨g3, c3, p3, o3⟩ := hps.part hown (j := 3) rfl
  obtain ⟨g4, c4, p4, o4⟩ := hps.part hown (j := 4) rfl
  have HKW : Hid (Kp ((w.alloc (.cells #[.int .u8 (s0.toNat : Int), .int .u8 (s1.toNat : Int), .int .u8 (s2.toNat : Int), .int .u8 (s3.toNat : Int)] 27)).alloc (.cells #[.int .u8 (d0.toNat : Int), .int .u8 (d1.toNat : Int), .int .u8 (d2.toNat : Int), .int .u8 (d3.toNat : Int)] 27)) w1) := Lib.hid (((Kp.refl _).alloc _).trans hk1)
  have HK1 : Hid (Kp w w1) := Lib.hid (HK2.out.trans HKW.out)
  obtain ⟨b3, hb3⟩ : ∃ b, w.heap.size = b := ⟨_, rfl⟩
  have KC0 : Hid (∀ W : World, Kp w1 W → W.cell? ⟨g, 0, none⟩ = some (.slice (some ⟨g0, 0, none⟩) 2 c0) ∧ W.cell? ⟨g, 1, none⟩ = some (.slice (some ⟨g1, 0, none⟩) 2 c1) ∧ W.cell? ⟨g, 3, none⟩ = some (.slice (some ⟨g3, 0, none⟩) 2 c3) ∧ W.cell? ⟨g, 4, none⟩ = some (.slice (some ⟨g4, 0, none⟩) r.length c4) ∧ (W.cell? ⟨b3, 0, none⟩ = some (.int .u8 (s0.toNat : Int)) ∧ W.cell? ⟨b3, 1, none⟩ = some (.int .u8 (s1.toNat : Int)) ∧ W.cell? ⟨b3, 2, none⟩ = some (.int .u8 (s2.toNat : Int)) ∧ W.cell? ⟨b3, 3, none⟩ = some (.int .u8 (s3.toNat : Int))) ∧ (W.cell? ⟨b3 + 1, 0, none⟩ = some (.int .u8 (d0.toNat : Int)) ∧ W.cell? ⟨b3 + 1, 1, none⟩ = some (.int .u8 (d1.toNat : Int)) ∧ W.cell? ⟨b3 + 1, 2, none⟩ = some (.int .u8 (d2.toNat : Int)) ∧ W.cell? ⟨b3 + 1, 3, none⟩ = some (.int .u8 (d3.toNat : Int)))) :=
    Lib.hid fun W hk => ⟨hk.cell p0, hk.cell p1, hk.cell p3, hk.cell p4, by rw [← hb3]; exact KH.out W (HKW.out.trans hk)⟩
  have p2' := p2
  have WD0 : Hid (∀ W, Kp w1 W → (Calls Try.prog 30 #[.slice (some ⟨g0, 0, none⟩) 2 c0] W fun e w' => e = .returned (.int .u16 (sp : Int)) ∧ Kp W w') ∧ (Calls Try.prog 30 #[.slice (some ⟨g1, 0, none⟩) 2 c1] W fun e w' => e = .returned (.int .u16 (dp : Int)) ∧ Kp W w') ∧ (Calls Try.prog 30 #[.slice (some ⟨g3, 0, none⟩) 2 c3] W fun e w' => e = .returned (.int .u16 (cs : Int)) ∧ Kp W w')) :=
    Lib.hid fun W hk => by
      have h1 := word8_any W _ c0 a0 a1 (o0.rd0.keep hk)
      have h2 := word8_any W _ c1 b0 b1 (o1.rd0.keep hk)
      have h3 := word8_any W _ c3 e0' e1' (o3.rd0.keep hk)
      rw [hsp] at h1
      rw [hdp] at h2
      rw [hcs] at h3
      exact ⟨h1, h2, h3⟩
  have WN : Hid (Calls Try.prog 30 #[.slice (some ⟨g2, 0, none⟩) 2 c2] w1 fun e w' => e = .returned (.int .u16 (N : Int)) ∧ Kp w1 w') := Lib.hid (by
    have h1 := word8_any w1 _ c2 n0 n1 o2.rd0
    rw [hN] at h1
    exact h1)
  have HR4 : Hid (Rd w1 w.heap.size (some ⟨g4, 0, none⟩) r.length r) := Lib.hid (o4.rd.mono_lo (by simp; omega))
  have HS4 := Lib.hid o4.slOk
  have v1 : IntKind.i64.wrap (N : Int) = (N : Int) := by rw [IntKind.wrap_i64]; omega
  obtain ⟨i8, hi8, hs8⟩ := infoU
  clear p0 p1 p2 p3 p4 o0 o1 o2 o3 o4 hown hps hk1 hN hcs hsp hdp ES
  go_wp2_with fail
  refine WN.out.mono ?_
  rintro e w2 ⟨rfl, hk2⟩
  have HK12 := Lib.hid hk2
  clear hk2 p2' WN
  by_cases h1 : N < 8
  · have HO' : Hid (outG [s0, s1, s2, s3] [d0, d1, d2, d3] L = .inl 7) := Lib.hid (by rw [HO.out, if_pos h1])
    have y1 : (N : Int) < 8 := by omega
    go_wp2
    go_ret2
    exact .inl ⟨7, by decide, HO'.out, HK1.out.trans HK12.out, rfl⟩
  have y1 : ¬ (N : Int) < 8 := by omega
  by_cases h2 : n < N
  · have HO' : Hid (outG [s0, s1, s2, s3] [d0, d1, d2, d3] L = .inl 6) := Lib.hid (by rw [HO.out, if_neg h1, if_pos (by rw [hln]; exact h2)])
    have y2 : (n : Int) < (N : Int) := by omega
    go_wp2
    go_ret2
    exact .inl ⟨6, by decide, HO'.out, HK1.out.trans HK12.out, rfl⟩
  have y2 : ¬ (n : Int) < (N : Int) := by omega
  have hHI := cut_hi (P := Try.prog) (kd := .i64) (m := N) Try.underlying23 hi8 hs8 (HA.out.keep (HK1.out.trans HK12.out)) HOK.out (by omega)
  have SLN : Hid (∀ W : World, (Instr.slice 23 (.slice (some ⟨gb, ob, none⟩) n c) none (some (.int .i64 (N : Int))) none).run Try.prog W = .ok (.slice (some ⟨gb, ob, none⟩) N c) W) := Lib.hid hHI.1
  have RBN : Hid (∀ W, Kp w2 W → Rd W 0 (some ⟨gb, ob, none⟩) N (L.take N)) := Lib.hid fun W hk => hHI.2.1.keep hk
  obtain ⟨m, hm⟩ : ∃ m, N - 8 = m := ⟨_, rfl⟩
  have nm : (N : Int) - 8 = (m : Int) := by omega
  have vm : IntKind.i64.wrap (m : Int) = (m : Int) := by rw [IntKind.wrap_i64]; omega
  have hM := cut_hi (P := Try.prog) (kd := .i64) (m := m) Try.underlying23 hi8 hs8 HR4.out HS4.out (by omega)
  have SLM : Hid (∀ W : World, (Instr.slice 23 (.slice (some ⟨g4, 0, none⟩) r.length c4) none (some (.int .i64 (m : Int))) none).run Try.prog W = .ok (.slice (some ⟨g4, 0, none⟩) m c4) W) := Lib.hid hM.1
  have HRM := Lib.hid hM.2.1
  have HSM := Lib.hid hM.2.2
  have hml : (r.take m).length = m := by rw [List.length_take]; omega
  obtain ⟨PS, hPS⟩ : ∃ PS, pseudo [s0, s1, s2, s3] [d0, d1, d2, d3] 17 N = PS := ⟨_, rfl⟩
  have PSD : Hid (∀ W, Calls Try.prog 19 #[.agg #[.int .u8 (s0.toNat : Int), .int .u8 (s1.toNat : Int), .int .u8 (s2.toNat : Int), .int .u8 (s3.toNat : Int)], .agg #[.int .u8 (d0.toNat : Int), .int .u8 (d1.toNat : Int), .int .u8 (d2.toNat : Int), .int .u8 (d3.toNat : Int)], .int .u8 17, .int .i64 (N : Int)] W fun e w' => Kp W w' ∧ ∃ g cap, e = .returned (.slice (some ⟨g, 0, none⟩) 12 cap) ∧ OwnV 5 w' W.heap.size g 12 cap (bvs PS)) := Lib.hid fun W => by
    have h := pseudo_any W s0 s1 s2 s3 d0 d1 d2 d3 17 N (by omega)
    rw [hPS] at h; exact h
  obtain ⟨LN, hLN⟩ : ∃ LN, L.take N = LN := ⟨_, rfl⟩
  obtain ⟨data, hdata⟩ : ∃ data, r.take m = data := ⟨_, rfl⟩
  rw [hPS, hLN, hm, hdata, hln] at HO
  rw [hLN] at RBN
  rw [hdata] at HRM hml
  have hdl : data.length ≤ L.length := by omega
  obtain ⟨rt, hrt⟩ : ∃ rt, (Ck.ck (PS ++ LN) == 65535) = rt := ⟨_, rfl⟩
  have RT : Hid ((Ck.ck ([PS, LN] : List (List UInt8)).flatten == 65535) = rt) := Lib.hid (by rw [← hrt]; simp)
  have KC : ∀ W : World, Kp w2 W → _ := fun W hk => KC0.out W (HK12.out.trans hk)
  have WD : Hid (∀ W, Kp w2 W → _) := Lib.hid fun W hk => WD0.out W (HK12.out.trans hk)
  have HOF : Hid (cs ≠ 0 → rt = false → outG [s0, s1, s2, s3] [d0, d1, d2, d3] L = .inl 8) := Lib.hid fun ha hb => by
    rw [HO.out, if_neg h1, if_neg h2, if_pos ⟨ha, by rw [hb] at hrt; simpa using hrt⟩]
  have HOT : Hid ((cs = 0 ∨ rt = true) → outG [s0, s1, s2, s3] [d0, d1, d2, d3] L = .inr (sp, dp, data)) := Lib.hid fun ha => by
    rw [HO.out, if_neg h1, if_neg h2, if_neg]
    rintro ⟨hb, hc⟩
    rcases ha with ha | ha
    · exact hb ha
    · rw [ha] at hrt; exact hc (by simpa using hrt)
  obtain ⟨rl, hrl2⟩ : ∃ rl, r.length = rl := ⟨_, rfl⟩
  rw [hrl2] at SLM
  rw [hrl2] at KC0
  have KCA : Hid (∀ W : World, Kp w2 W → _) := Lib.hid fun W hk => KC0.out W (HK12.out.trans hk)
  have WDA : Hid (∀ W, Kp w2 W → _) := Lib.hid fun W hk => WD0.out W (HK12.out.trans hk)
  clear KC KC0 WD0 HO hHI hM hi8 hs8 hrt hPS hLN hdata
  have KC := KCA.out
  by_cases hc0 : cs = 0
  · have hz : ((cs : Int) != 0) = false := by rw [hc0]; rfl
    have HQ : Hid (cs = 0 ∨ rt = true) := Lib.hid (.inl hc0)
    clear hc0 HOF
    go_wp2_with fail
    refine wp_region_stepsG (by kernel_rfl) 18 (g8off g cap g3 c3 cs) [34, 35, 36, 37, 38, 39, 40, 41, 42, 43, 44, 45, 46, 47, 48, 49, 50, 33] (by kernel_rfl) (by kernel_rfl) ⟨?_, ?_, ?_, ?_, ?_, ?_, ?_, ?_, ?_, ?_, ?_, ?_, ?_, ?_, ?_, ?_, ?_, ?_, trivial⟩ ?_
    · refine stepG_free rfl ?_
      intro a W hW hO hφ K hK
      have q8 : a.tmps.getD 8 undef = (.slice (some ⟨g, 0, none⟩) 5 cap) := hO 8 (by kernel_rfl)
      have r8 := q8
      rw [Array.getD_eq_getD_getElem?] at r8
      clear hO hφ
      clear KC WD
      go_simp
      exact hK _ _ (Kp.refl _) rfl
    · refine stepG_free rfl ?_
      intro a W hW hO hφ K hK
      have q34 : a.tmps.getD 34 undef = (.slice (some ⟨g, 0, none⟩) 5 cap) := hφ ⟨0, .data⟩ (by simp) rfl
      have r34 := q34
      rw [Array.getD_eq_getD_getElem?] at r34
      clear hO hφ
      clear KC WD
      go_simp
      exact hK _ _ (Kp.refl _) rfl
    · refine stepG_free rfl ?_
      intro a W hW hO hφ K hK
      have q35 : a.tmps.getD 35 undef = (.pointer (some ⟨g, 3, none⟩)) := hφ ⟨1, .data⟩ (by simp) rfl
      have r35 := q35
      rw [Array.getD_eq_getD_getElem?] at r35
      clear hO hφ
      obtain ⟨z0, z1, z3, z4, ⟨x0, x1, x2, x3⟩, ⟨y0, y1, y2, y3⟩⟩ := KC W (Kp.trans ((Kp.refl _).drew) hW)
      clear KC WD
      go_simp
      exact hK _ _ (Kp.refl _) rfl
    · refine stepG_free rfl ?_
      intro a W hW hO hφ K hK
      have q36 : a.tmps.getD 36 undef = (.slice (some ⟨g3, 0, none⟩) 2 c3) := hφ ⟨2, .data⟩ (by simp) rfl
      have r36 := q36
      rw [Array.getD_eq_getD_getElem?] at r36
      clear hO hφ
      clear KC
      go_simp
      go_at_call 30
      refine (WD.out W (Kp.trans ((Kp.refl _).drew) hW)).2.2.mono ?_
      rintro e w' ⟨rfl, hk⟩
      exact hK _ _ hk rfl
    · refine stepG_free rfl ?_
      intro a W hW hO hφ K hK
      have q37 : a.tmps.getD 37 undef = (.int .u16 (cs : Int)) := hφ ⟨3, .data⟩ (by simp) rfl
      have r37 := q37
      rw [Array.getD_eq_getD_getElem?] at r37
      clear hO hφ
      clear KC WD
      go_simp
      exact hK _ _ (Kp.refl _) rfl
    · refine stepG_free rfl ?_
      intro a W hW hO hφ K hK
      have q38 : a.tmps.getD 38 undef = (.bool false) := hφ ⟨4, .data⟩ (by simp) rfl
      have r38 := q38
      rw [Array.getD_eq_getD_getElem?] at r38
      clear hO hφ
      clear KC WD
      go_simp
      exact hK _ _ (Kp.refl _) rfl
    · exact stepG_off rfl (fun x W h => h) (fun W => rfl)
    · exact stepG_off rfl (fun x W h => h) (fun W => rfl)
    · exact stepG_off rfl (fun x W h => h) (fun W => rfl)
    · exact stepG_off rfl (fun x W h => h) (fun W => rfl)
    · exact stepG_off rfl (fun x W h => h) (fun W => rfl)
    · exact stepG_off rfl (fun x W h => h) (fun W => rfl)
    · exact stepG_off rfl (fun x W h => h) (fun W => rfl)
    · exact stepG_off rfl (fun x W h => h) (fun W => rfl)
    · exact stepG_off rfl (fun x W h => h) (fun W => rfl)
    · exact stepG_off rfl (fun x W h => h) (fun W => rfl)
    · refine stepG_free rfl ?_
      intro a W hW hO hφ K hK
      have q39 : a.tmps.getD 39 undef = (.bool false) := hφ ⟨5, .data⟩ (by simp) rfl
      have q49 : a.tmps.getD 49 undef = (undef) := hφ ⟨15, .data⟩ (by simp) rfl
      have r39 := q39
      rw [Array.getD_eq_getD_getElem?] at r39
      have r49 := q49
      rw [Array.getD_eq_getD_getElem?] at r49
      clear hO hφ
      clear KC WD
      go_simp
      exact hK _ _ (Kp.refl _) rfl
    · refine stepG_free rfl ?_
      intro a W hW hO hφ K hK
      have q50 : a.tmps.getD 50 undef = (.bool false) := hφ ⟨16, .data⟩ (by simp) rfl
      have r50 := q50
      rw [Array.getD_eq_getD_getElem?] at r50
      clear hO hφ
      clear KC WD
      go_simp
      exact hK _ _ (Kp.refl _) rfl
    intro f W hW hφ
    have v0 : f 0 = (.slice (some ⟨g, 0, none⟩) 5 cap) := hφ 0 (by omega)
    have v1 : f 1 = (.pointer (some ⟨g, 3, none⟩)) := hφ 1 (by omega)
    have v2 : f 2 = (.slice (some ⟨g3, 0, none⟩) 2 c3) := hφ 2 (by omega)
    have v3 : f 3 = (.int .u16 (cs : Int)) := hφ 3 (by omega)
    have v4 : f 4 = (.bool false) := hφ 4 (by omega)
    have v5 : f 5 = (.bool false) := hφ 5 (by omega)
    have v6 : f 6 = (undef) := hφ 6 (by omega)
    have v7 : f 7 = (undef) := hφ 7 (by omega)
    have v8 : f 8 = (undef) := hφ 8 (by omega)
    have v9 : f 9 = (undef) := hφ 9 (by omega)
    have v10 : f 10 = (undef) := hφ 10 (by omega)
    have v11 : f 11 = (undef) := hφ 11 (by omega)
    have v12 : f 12 = (undef) := hφ 12 (by omega)
    have v13 : f 13 = (undef) := hφ 13 (by omega)
    have v14 : f 14 = (undef) := hφ 14 (by omega)
    have v15 : f 15 = (undef) := hφ 15 (by omega)
    have v16 : f 16 = (.bool false) := hφ 16 (by omega)
    have v17 : f 17 = (.bool false) := hφ 17 (by omega)
    clear hφ
    simp only [putAll, List.setIfInBounds_toArray, List.set_cons_succ, List.set_cons_zero, v0, v1, v2, v3, v4, v5, v6, v7, v8, v9, v10, v11, v12, v13, v14, v15, v16, v17]
    clear v0 v1 v2 v3 v4 v5 v6 v7 v8 v9 v10 v11 v12 v13 v14 v15 v16 v17
    refine wpAny_done (by kernel_rfl) ?_ _
    have hkA : Kp w2 W := Kp.trans ((Kp.refl _).drew) hW
    clear hW KC WD
    go_wp2_with fail
    · have KC : ∀ W' : World, Kp W W' → _ := fun W' hk => KCA.out W' (hkA.trans hk)
      have WD : Hid (∀ W', Kp W W' → _) := Lib.hid fun W' hk => WDA.out W' (hkA.trans hk)
      refine wp_region_steps (by kernel_rfl) 18 (g8fin g cap g0 c0 g1 c1 g4 c4 sp dp N m rl) [51, 52, 53, 54, 55, 56, 57, 58, 59, 60, 61, 62, 63, 64, 65, 66, 6, 7] (by kernel_rfl) (by kernel_rfl) ⟨?_, ?_, ?_, ?_, ?_, ?_, ?_, ?_, ?_, ?_, ?_, ?_, ?_, ?_, ?_, ?_, ?_, ?_, trivial⟩ ?_
      · intro a W hW hO hφ K hK
        have q8 : a.tmps.getD 8 undef = (.slice (some ⟨g, 0, none⟩) 5 cap) := hO 8 (by kernel_rfl)
        have r8 := q8
        rw [Array.getD_eq_getD_getElem?] at r8
        clear hO hφ
        clear KC WD
        go_simp
        exact hK _ _ (Kp.refl _) rfl
      · intro a W hW hO hφ K hK
        have q51 : a.tmps.getD 51 undef = (.slice (some ⟨g, 0, none⟩) 5 cap) := hφ ⟨0, .data⟩ (by simp) rfl
        have r51 := q51
        rw [Array.getD_eq_getD_getElem?] at r51
        clear hO hφ
        clear KC WD
        go_simp
        exact hK _ _ (Kp.refl _) rfl
      · intro a W hW hO hφ K hK
        have q52 : a.tmps.getD 52 undef = (.pointer (some ⟨g, 0, none⟩)) := hφ ⟨1, .data⟩ (by simp) rfl
        have r52 := q52
        rw [Array.getD_eq_getD_getElem?] at r52
        clear hO hφ
        obtain ⟨z0, z1, z3, z4, ⟨x0, x1, x2, x3⟩, ⟨y0, y1, y2, y3⟩⟩ := KC W (Kp.trans ((Kp.refl _).drew) hW)
        clear KC WD
        go_simp
        exact hK _ _ (Kp.refl _) rfl
      · intro a W hW hO hφ K hK
        have q53 : a.tmps.getD 53 undef = (.slice (some ⟨g0, 0, none⟩) 2 c0) := hφ ⟨2, .data⟩ (by simp) rfl
        have r53 := q53
        rw [Array.getD_eq_getD_getElem?] at r53
        clear hO hφ
        clear KC
        go_simp
        go_at_call 30
        refine (WD.out W (Kp.trans ((Kp.refl _).drew) hW)).1.mono ?_
        rintro e w' ⟨rfl, hk⟩
        exact hK _ _ hk rfl
      · intro a W hW hO hφ K hK
        have q8 : a.tmps.getD 8 undef = (.slice (some ⟨g, 0, none⟩) 5 cap) := hO 8 (by kernel_rfl)
        have r8 := q8
        rw [Array.getD_eq_getD_getElem?] at r8
        clear hO hφ
        clear KC WD
        go_simp
        exact hK _ _ (Kp.refl _) rfl
      · intro a W hW hO hφ K hK
        have q55 : a.tmps.getD 55 undef = (.slice (some ⟨g, 0, none⟩) 5 cap) := hφ ⟨4, .data⟩ (by simp) rfl
        have r55 := q55
        rw [Array.getD_eq_getD_getElem?] at r55
        clear hO hφ
        clear KC WD
        go_simp
        exact hK _ _ (Kp.refl _) rfl
      · intro a W hW hO hφ K hK
        have q56 : a.tmps.getD 56 undef = (.pointer (some ⟨g, 1, none⟩)) := hφ ⟨5, .data⟩ (by simp) rfl
        have r56 := q56
        rw [Array.getD_eq_getD_getElem?] at r56
        clear hO hφ
        obtain ⟨z0, z1, z3, z4, ⟨x0, x1, x2, x3⟩, ⟨y0, y1, y2, y3⟩⟩ := KC W (Kp.trans ((Kp.refl _).drew) hW)
        clear KC WD
        go_simp
        exact hK _ _ (Kp.refl _) rfl
      · intro a W hW hO hφ K hK
        have q57 : a.tmps.getD 57 undef = (.slice (some ⟨g1, 0, none⟩) 2 c1) := hφ ⟨6, .data⟩ (by simp) rfl
        have r57 := q57
        rw [Array.getD_eq_getD_getElem?] at r57
        clear hO hφ
        clear KC
        go_simp
        go_at_call 30
        refine (WD.out W (Kp.trans ((Kp.refl _).drew) hW)).2.1.mono ?_
        rintro e w' ⟨rfl, hk⟩
        exact hK _ _ hk rfl
      · intro a W hW hO hφ K hK
        have q8 : a.tmps.getD 8 undef = (.slice (some ⟨g, 0, none⟩) 5 cap) := hO 8 (by kernel_rfl)
        have r8 := q8
        rw [Array.getD_eq_getD_getElem?] at r8
        clear hO hφ
        clear KC WD
        go_simp
        exact hK _ _ (Kp.refl _) rfl
      · intro a W hW hO hφ K hK
        have q59 : a.tmps.getD 59 undef = (.slice (some ⟨g, 0, none⟩) 5 cap) := hφ ⟨8, .data⟩ (by simp) rfl
        have r59 := q59
        rw [Array.getD_eq_getD_getElem?] at r59
        clear hO hφ
        clear KC WD
        go_simp
        exact hK _ _ (Kp.refl _) rfl
      · intro a W hW hO hφ K hK
        have q60 : a.tmps.getD 60 undef = (.pointer (some ⟨g, 4, none⟩)) := hφ ⟨9, .data⟩ (by simp) rfl
        have r60 := q60
        rw [Array.getD_eq_getD_getElem?] at r60
        clear hO hφ
        obtain ⟨z0, z1, z3, z4, ⟨x0, x1, x2, x3⟩, ⟨y0, y1, y2, y3⟩⟩ := KC W (Kp.trans ((Kp.refl _).drew) hW)
        clear KC WD
        go_simp
        exact hK _ _ (Kp.refl _) rfl
      · intro a W hW hO hφ K hK
        have q10 : a.tmps.getD 10 undef = (.int .i64 (N : Int)) := hO 10 (by kernel_rfl)
        have r10 := q10
        rw [Array.getD_eq_getD_getElem?] at r10
        clear hO hφ
        clear KC WD
        go_simp
        exact hK _ _ (Kp.refl _) rfl
      · intro a W hW hO hφ K hK
        have q62 : a.tmps.getD 62 undef = (.int .i64 (N : Int)) := hφ ⟨11, .data⟩ (by simp) rfl
        have r62 := q62
        rw [Array.getD_eq_getD_getElem?] at r62
        clear hO hφ
        clear KC WD
        go_simp
        exact hK _ _ (Kp.refl _) rfl
      · intro a W hW hO hφ K hK
        have q61 : a.tmps.getD 61 undef = (.slice (some ⟨g4, 0, none⟩) rl c4) := hφ ⟨10, .data⟩ (by simp) rfl
        have q63 : a.tmps.getD 63 undef = (.int .i64 (m : Int)) := hφ ⟨12, .data⟩ (by simp) rfl
        have r61 := q61
        rw [Array.getD_eq_getD_getElem?] at r61
        have r63 := q63
        rw [Array.getD_eq_getD_getElem?] at r63
        clear hO hφ
        have tt := SLM.out W
        clear KC WD
        go_simp
        exact hK _ _ (Kp.refl _) rfl
      · intro a W hW hO hφ K hK
        have q54 : a.tmps.getD 54 undef = (.int .u16 (sp : Int)) := hφ ⟨3, .data⟩ (by simp) rfl
        have q58 : a.tmps.getD 58 undef = (.int .u16 (dp : Int)) := hφ ⟨7, .data⟩ (by simp) rfl
        have q64 : a.tmps.getD 64 undef = (.slice (some ⟨g4, 0, none⟩) m c4) := hφ ⟨13, .data⟩ (by simp) rfl
        have r54 := q54
        rw [Array.getD_eq_getD_getElem?] at r54
        have r58 := q58
        rw [Array.getD_eq_getD_getElem?] at r58
        have r64 := q64
        rw [Array.getD_eq_getD_getElem?] at r64
        clear hO hφ
        clear KC WD
        go_simp
        exact hK _ _ (Kp.refl _) rfl
      · intro a W hW hO hφ K hK
        have q65 : a.tmps.getD 65 undef = (.agg #[.int .u16 (sp : Int), .int .u16 (dp : Int), .slice (some ⟨g4, 0, none⟩) m c4]) := hφ ⟨14, .data⟩ (by simp) rfl
        have r65 := q65
        rw [Array.getD_eq_getD_getElem?] at r65
        clear hO hφ
        clear KC WD
        go_simp
        exact hK _ _ (Kp.refl _) rfl
      · intro a W hW hO hφ K hK
        have q66 : a.tmps.getD 66 undef = (.iface 43 (.agg #[.int .u16 (sp : Int), .int .u16 (dp : Int), .slice (some ⟨g4, 0, none⟩) m c4])) := hφ ⟨15, .data⟩ (by simp) rfl
        have r66 := q66
        rw [Array.getD_eq_getD_getElem?] at r66
        clear hO hφ
        clear KC WD
        go_simp
        exact hK _ _ (Kp.refl _) rfl
      · intro a W hW hO hφ K hK
        clear hO hφ
        clear KC WD
        go_simp
        exact hK _ _ (Kp.refl _) rfl
      intro f W hW hφ
      have v0 : f 0 = (.slice (some ⟨g, 0, none⟩) 5 cap) := hφ 0 (by omega)
      have v1 : f 1 = (.pointer (some ⟨g, 0, none⟩)) := hφ 1 (by omega)
      have v2 : f 2 = (.slice (some ⟨g0, 0, none⟩) 2 c0) := hφ 2 (by omega)
      have v3 : f 3 = (.int .u16 (sp : Int)) := hφ 3 (by omega)
      have v4 : f 4 = (.slice (some ⟨g, 0, none⟩) 5 cap) := hφ 4 (by omega)
      have v5 : f 5 = (.pointer (some ⟨g, 1, none⟩)) := hφ 5 (by omega)
      have v6 : f 6 = (.slice (some ⟨g1, 0, none⟩) 2 c1) := hφ 6 (by omega)
      have v7 : f 7 = (.int .u16 (dp : Int)) := hφ 7 (by omega)
      have v8 : f 8 = (.slice (some ⟨g, 0, none⟩) 5 cap) := hφ 8 (by omega)
      have v9 : f 9 = (.pointer (some ⟨g, 4, none⟩)) := hφ 9 (by omega)
      have v10 : f 10 = (.slice (some ⟨g4, 0, none⟩) rl c4) := hφ 10 (by omega)
      have v11 : f 11 = (.int .i64 (N : Int)) := hφ 11 (by omega)
      have v12 : f 12 = (.int .i64 (m : Int)) := hφ 12 (by omega)
      have v13 : f 13 = (.slice (some ⟨g4, 0, none⟩) m c4) := hφ 13 (by omega)
      have v14 : f 14 = (.agg #[.int .u16 (sp : Int), .int .u16 (dp : Int), .slice (some ⟨g4, 0, none⟩) m c4]) := hφ 14 (by omega)
      have v15 : f 15 = (.iface 43 (.agg #[.int .u16 (sp : Int), .int .u16 (dp : Int), .slice (some ⟨g4, 0, none⟩) m c4])) := hφ 15 (by omega)
      have v16 : f 16 = (.iface 43 (.agg #[.int .u16 (sp : Int), .int .u16 (dp : Int), .slice (some ⟨g4, 0, none⟩) m c4])) := hφ 16 (by omega)
      have v17 : f 17 = (.int .i64 0) := hφ 17 (by omega)
      clear hφ
      simp only [putAll, List.setIfInBounds_toArray, List.set_cons_succ, List.set_cons_zero, v0, v1, v2, v3, v4, v5, v6, v7, v8, v9, v10, v11, v12, v13, v14, v15, v16, v17]
      clear v0 v1 v2 v3 v4 v5 v6 v7 v8 v9 v10 v11 v12 v13 v14 v15 v16 v17
      refine wpAny_done (by kernel_rfl) ?_ _
      have hk7 : Kp w2 W := hkA.trans (Kp.trans ((Kp.refl _).drew) hW)
      go_wp2
      go_ret2
      refine .inr ⟨sp, dp, data, HOT.out HQ.out, hsp2, hdp2, hdl, HK1.out.trans (HK12.out.trans hk7), some ⟨g4, 0, none⟩, c4, ?_, ?_, ?_⟩
      · rw [hml]; rfl
      · rw [hml]; exact RdV.keep HRM.out (HK12.out.trans hk7)
      · rw [hml]; exact HSM.out
  · have hz : ((cs : Int) != 0) = true := by simp; omega
    have HC0 := Lib.hid hc0
    clear hc0
    go_wp2_with fail
    refine wp_region_stepsG (by kernel_rfl) 18 (g8on g cap g3 c3 cs N gb ob n c s0 s1 s2 s3 d0 d1 d2 d3 rt PS LN) [34, 35, 36, 37, 38, 39, 40, 41, 42, 43, 44, 45, 46, 47, 48, 49, 50, 33] (by kernel_rfl) (by kernel_rfl) ⟨?_, ?_, ?_, ?_, ?_, ?_, ?_, ?_, ?_, ?_, ?_, ?_, ?_, ?_, ?_, ?_, ?_, ?_, trivial⟩ ?_
    · refine stepG_free rfl ?_
      intro a W hW hO hφ K hK
      have q8 : a.tmps.getD 8 undef = (.slice (some ⟨g, 0, none⟩) 5 cap) := hO 8 (by kernel_rfl)
      have r8 := q8
      rw [Array.getD_eq_getD_getElem?] at r8
      clear hO hφ
      clear KC WD
      go_simp
      exact hK _ _ (Kp.refl _) rfl
    · refine stepG_free rfl ?_
      intro a W hW hO hφ K hK
      have q34 : a.tmps.getD 34 undef = (.slice (some ⟨g, 0, none⟩) 5 cap) := hφ ⟨0, .data⟩ (by simp) rfl
      have r34 := q34
      rw [Array.getD_eq_getD_getElem?] at r34
      clear hO hφ
      clear KC WD
      go_simp
      exact hK _ _ (Kp.refl _) rfl
    · refine stepG_free rfl ?_
      intro a W hW hO hφ K hK
      have q35 : a.tmps.getD 35 undef = (.pointer (some ⟨g, 3, none⟩)) := hφ ⟨1, .data⟩ (by simp) rfl
      have r35 := q35
      rw [Array.getD_eq_getD_getElem?] at r35
      clear hO hφ
      obtain ⟨z0, z1, z3, z4, ⟨x0, x1, x2, x3⟩, ⟨y0, y1, y2, y3⟩⟩ := KC W (Kp.trans ((Kp.refl _).drew) hW)
      clear KC WD
      go_simp
      exact hK _ _ (Kp.refl _) rfl
    · refine stepG_free rfl ?_
      intro a W hW hO hφ K hK
      have q36 : a.tmps.getD 36 undef = (.slice (some ⟨g3, 0, none⟩) 2 c3) := hφ ⟨2, .data⟩ (by simp) rfl
      have r36 := q36
      rw [Array.getD_eq_getD_getElem?] at r36
      clear hO hφ
      clear KC
      go_simp
      go_at_call 30
      refine (WD.out W (Kp.trans ((Kp.refl _).drew) hW)).2.2.mono ?_
      rintro e w' ⟨rfl, hk⟩
      exact hK _ _ hk rfl
    · refine stepG_free rfl ?_
      intro a W hW hO hφ K hK
      have q37 : a.tmps.getD 37 undef = (.int .u16 (cs : Int)) := hφ ⟨3, .data⟩ (by simp) rfl
      have r37 := q37
      rw [Array.getD_eq_getD_getElem?] at r37
      clear hO hφ
      clear KC WD
      go_simp
      exact hK _ _ (Kp.refl _) rfl
    · refine stepG_free rfl ?_
      intro a W hW hO hφ K hK
      have q38 : a.tmps.getD 38 undef = (.bool true) := hφ ⟨4, .data⟩ (by simp) rfl
      have r38 := q38
      rw [Array.getD_eq_getD_getElem?] at r38
      clear hO hφ
      clear KC WD
      go_simp
      exact hK _ _ (Kp.refl _) rfl
    · refine stepG_on rfl (fun x W h => h) ?_
      intro a W hW hO hφ K hK
      have q3 : a.tmps.getD 3 undef = (.pointer (some ⟨b3, 0, none⟩)) := hO 3 (by kernel_rfl)
      have r3 := q3
      rw [Array.getD_eq_getD_getElem?] at r3
      clear hO hφ
      obtain ⟨z0, z1, z3, z4, ⟨x0, x1, x2, x3⟩, ⟨y0, y1, y2, y3⟩⟩ := KC W (Kp.trans ((Kp.refl _).drew) hW)
      clear KC WD
      go_simp
      exact hK _ _ (Kp.refl _) rfl
    · refine stepG_on rfl (fun x W h => h) ?_
      intro a W hW hO hφ K hK
      have q4 : a.tmps.getD 4 undef = (.pointer (some ⟨b3 + 1, 0, none⟩)) := hO 4 (by kernel_rfl)
      have r4 := q4
      rw [Array.getD_eq_getD_getElem?] at r4
      clear hO hφ
      obtain ⟨z0, z1, z3, z4, ⟨x0, x1, x2, x3⟩, ⟨y0, y1, y2, y3⟩⟩ := KC W (Kp.trans ((Kp.refl _).drew) hW)
      clear KC WD
      go_simp
      exact hK _ _ (Kp.refl _) rfl
    · refine stepG_on rfl (fun x W h => h) ?_
      intro a W hW hO hφ K hK
      have q10 : a.tmps.getD 10 undef = (.int .i64 (N : Int)) := hO 10 (by kernel_rfl)
      have r10 := q10
      rw [Array.getD_eq_getD_getElem?] at r10
      clear hO hφ
      clear KC WD
      go_simp
      exact hK _ _ (Kp.refl _) rfl
    · refine stepG_on rfl (fun x W h => h) ?_
      intro a W hW hO hφ K hK
      have q40 : a.tmps.getD 40 undef = (.agg #[.int .u8 (s0.toNat : Int), .int .u8 (s1.toNat : Int), .int .u8 (s2.toNat : Int), .int .u8 (s3.toNat : Int)]) := hφ ⟨6, .data⟩ (by simp) rfl
      have q41 : a.tmps.getD 41 undef = (.agg #[.int .u8 (d0.toNat : Int), .int .u8 (d1.toNat : Int), .int .u8 (d2.toNat : Int), .int .u8 (d3.toNat : Int)]) := hφ ⟨7, .data⟩ (by simp) rfl
      have q42 : a.tmps.getD 42 undef = (.int .i64 (N : Int)) := hφ ⟨8, .data⟩ (by simp) rfl
      have r40 := q40
      rw [Array.getD_eq_getD_getElem?] at r40
      have r41 := q41
      rw [Array.getD_eq_getD_getElem?] at r41
      have r42 := q42
      rw [Array.getD_eq_getD_getElem?] at r42
      clear hO hφ
      clear KC
      go_simp
      go_at_call 19
      refine (PSD.out W).mono ?_
      rintro e w' ⟨hk, g7, cap7, rfl, hown⟩
      exact hK _ _ hk ⟨_, _, rfl, hown.rd0⟩
    · refine stepG_on rfl (fun x W h => h) ?_
      intro a W hW hO hφ K hK
      have q2 : a.tmps.getD 2 undef = (.slice (some ⟨gb, ob, none⟩) n c) := hO 2 (by kernel_rfl)
      have r2 := q2
      rw [Array.getD_eq_getD_getElem?] at r2
      clear hO hφ
      clear KC WD
      go_simp
      exact hK _ _ (Kp.refl _) rfl
    · refine stepG_on rfl (fun x W h => h) ?_
      intro a W hW hO hφ K hK
      have q10 : a.tmps.getD 10 undef = (.int .i64 (N : Int)) := hO 10 (by kernel_rfl)
      have r10 := q10
      rw [Array.getD_eq_getD_getElem?] at r10
      clear hO hφ
      clear KC WD
      go_simp
      exact hK _ _ (Kp.refl _) rfl
    · refine stepG_on rfl (fun x W h => h) ?_
      intro a W hW hO hφ K hK
      have q44 : a.tmps.getD 44 undef = (.slice (some ⟨gb, ob, none⟩) n c) := hφ ⟨10, .data⟩ (by simp) rfl
      have q45 : a.tmps.getD 45 undef = (.int .i64 (N : Int)) := hφ ⟨11, .data⟩ (by simp) rfl
      have r44 := q44
      rw [Array.getD_eq_getD_getElem?] at r44
      have r45 := q45
      rw [Array.getD_eq_getD_getElem?] at r45
      clear hO hφ
      have tt := SLN.out W
      clear KC WD
      go_simp
      exact hK _ _ (Kp.refl _) rfl
    · refine stepG_on rfl (fun x W h => h) ?_
      intro a W hW hO hφ K hK
      have q43 : (St.rd 12 PS).p (a.tmps.getD 43 undef) W := hφ ⟨9, .data⟩ (by simp) rfl
      have q46 : a.tmps.getD 46 undef = (.slice (some ⟨gb, ob, none⟩) N c) := hφ ⟨12, .data⟩ (by simp) rfl
      have r46 := q46
      rw [Array.getD_eq_getD_getElem?] at r46
      clear hO hφ
      have hrb := RBN.out W (Kp.trans ((Kp.refl _).drew) hW)
      clear KC WD
      obtain ⟨A1, c1, q43', hr⟩ := q43
      have r43 := q43'
      rw [Array.getD_eq_getD_getElem?] at r43
      have hall : RdAll (W.alloc (.cells #[.slice A1 12 c1, .slice (some ⟨gb, ob, none⟩) N c] 23)) (some ⟨W.heap.size, 0, none⟩) 2 [PS, LN] := rdAll_mk (vs := [.slice A1 12 c1, .slice (some ⟨gb, ob, none⟩) N c]) rfl rfl (by decide) ⟨⟨_, _, _, rfl, hr, by decide⟩, ⟨_, _, _, rfl, hrb, by unfold maxLen; omega⟩, trivial⟩
      have HALL := Lib.hid hall
      clear hall
      go_simp
      exact hK _ _ ((Kp.refl _).alloc _) ⟨_, _, rfl, HALL.out⟩
    · refine stepG_on rfl (fun x W h => h) ?_
      intro a W hW hO hφ K hK
      have q47 : (St.all2 PS LN).p (a.tmps.getD 47 undef) W := hφ ⟨13, .data⟩ (by simp) rfl
      clear hO hφ
      clear KC WD
      obtain ⟨A2, c2, q47', hall⟩ := q47
      have HALL := Lib.hid hall
      clear hall
      go_simp
      go_at_call 29
      refine (right_any _ _ 2 _ _ HALL.out).mono ?_
      rintro e w' ⟨rfl, rfl⟩
      rw [RT.out]
      exact hK _ _ (Kp.refl _) rfl
    · refine stepG_on rfl (fun x W h => h) ?_
      intro a W hW hO hφ K hK
      have q48 : a.tmps.getD 48 undef = (.bool rt) := hφ ⟨14, .data⟩ (by simp) rfl
      have r48 := q48
      rw [Array.getD_eq_getD_getElem?] at r48
      clear hO hφ
      clear KC WD
      go_simp
      exact hK _ _ (Kp.refl _) rfl
    · refine stepG_free rfl ?_
      intro a W hW hO hφ K hK
      have q39 : a.tmps.getD 39 undef = (.bool true) := hφ ⟨5, .data⟩ (by simp) rfl
      have q49 : a.tmps.getD 49 undef = (.bool (!rt)) := hφ ⟨15, .data⟩ (by simp) rfl
      have r39 := q39
      rw [Array.getD_eq_getD_getElem?] at r39
      have r49 := q49
      rw [Array.getD_eq_getD_getElem?] at r49
      clear hO hφ
      clear KC WD
      go_simp
      exact hK _ _ (Kp.refl _) rfl
    · refine stepG_free rfl ?_
      intro a W hW hO hφ K hK
      have q50 : a.tmps.getD 50 undef = (.bool (!rt)) := hφ ⟨16, .data⟩ (by simp) rfl
      have r50 := q50
      rw [Array.getD_eq_getD_getElem?] at r50
      clear hO hφ
      clear KC WD
      go_simp
      exact hK _ _ (Kp.refl _) rfl
    intro f W hW hφ
    have v0 : f 0 = (.slice (some ⟨g, 0, none⟩) 5 cap) := hφ 0 (by omega)
    have v1 : f 1 = (.pointer (some ⟨g, 3, none⟩)) := hφ 1 (by omega)
    have v2 : f 2 = (.slice (some ⟨g3, 0, none⟩) 2 c3) := hφ 2 (by omega)
    have v3 : f 3 = (.int .u16 (cs : Int)) := hφ 3 (by omega)
    have v4 : f 4 = (.bool true) := hφ 4 (by omega)
    have v5 : f 5 = (.bool true) := hφ 5 (by omega)
    have v6 : f 6 = (.agg #[.int .u8 (s0.toNat : Int), .int .u8 (s1.toNat : Int), .int .u8 (s2.toNat : Int), .int .u8 (s3.toNat : Int)]) := hφ 6 (by omega)
    have v7 : f 7 = (.agg #[.int .u8 (d0.toNat : Int), .int .u8 (d1.toNat : Int), .int .u8 (d2.toNat : Int), .int .u8 (d3.toNat : Int)]) := hφ 7 (by omega)
    have v8 : f 8 = (.int .i64 (N : Int)) := hφ 8 (by omega)
    have v9 : (St.rd 12 PS).p (f 9) W := hφ 9 (by omega)
    have v10 : f 10 = (.slice (some ⟨gb, ob, none⟩) n c) := hφ 10 (by omega)
    have v11 : f 11 = (.int .i64 (N : Int)) := hφ 11 (by omega)
    have v12 : f 12 = (.slice (some ⟨gb, ob, none⟩) N c) := hφ 12 (by omega)
    have v13 : (St.all2 PS LN).p (f 13) W := hφ 13 (by omega)
    have v14 : f 14 = (.bool rt) := hφ 14 (by omega)
    have v15 : f 15 = (.bool (!rt)) := hφ 15 (by omega)
    have v16 : f 16 = (.bool (!rt)) := hφ 16 (by omega)
    have v17 : f 17 = (.bool (!rt)) := hφ 17 (by omega)
    clear hφ
    simp only [putAll, List.setIfInBounds_toArray, List.set_cons_succ, List.set_cons_zero, v0, v1, v2, v3, v4, v5, v6, v7, v8, v10, v11, v12, v14, v15, v16, v17]
    clear v0 v1 v2 v3 v4 v5 v6 v7 v8 v10 v11 v12 v14 v15 v16 v17
    refine wpAny_done (by kernel_rfl) ?_ _
    have hkA : Kp w2 W := Kp.trans ((Kp.refl _).drew) hW
    clear hW KC WD
    cases rt
    · have HO' := Lib.hid (HOF.out HC0.out rfl)
      go_wp2
      go_ret2
      exact .inl ⟨8, by decide, HO'.out, HK1.out.trans (HK12.out.trans hkA), rfl⟩
    · have HQ : Hid (cs = 0 ∨ true = true) := Lib.hid (.inr rfl)
      go_wp2_with fail
      have KC : ∀ W' : World, Kp W W' → _ := fun W' hk => KCA.out W' (hkA.trans hk)
      have WD : Hid (∀ W', Kp W W' → _) := Lib.hid fun W' hk => WDA.out W' (hkA.trans hk)
      refine wp_region_steps (by kernel_rfl) 18 (g8fin g cap g0 c0 g1 c1 g4 c4 sp dp N m rl) [51, 52, 53, 54, 55, 56, 57, 58, 59, 60, 61, 62, 63, 64, 65, 66, 6, 7] (by kernel_rfl) (by kernel_rfl) ⟨?_, ?_, ?_, ?_, ?_, ?_, ?_, ?_, ?_, ?_, ?_, ?_, ?_, ?_, ?_, ?_, ?_, ?_, trivial⟩ ?_
      · intro a W hW hO hφ K hK
        have q8 : a.tmps.getD 8 undef = (.slice (some ⟨g, 0, none⟩) 5 cap) := hO 8 (by kernel_rfl)
        have r8 := q8
        rw [Array.getD_eq_getD_getElem?] at r8
        clear hO hφ
        clear KC WD
        go_simp
        exact hK _ _ (Kp.refl _) rfl
      · intro a W hW hO hφ K hK
        have q51 : a.tmps.getD 51 undef = (.slice (some ⟨g, 0, none⟩) 5 cap) := hφ ⟨0, .data⟩ (by simp) rfl
        have r51 := q51
        rw [Array.getD_eq_getD_getElem?] at r51
        clear hO hφ
        clear KC WD
        go_simp
        exact hK _ _ (Kp.refl _) rfl
      · intro a W hW hO hφ K hK
        have q52 : a.tmps.getD 52 undef = (.pointer (some ⟨g, 0, none⟩)) := hφ ⟨1, .data⟩ (by simp) rfl
        have r52 := q52
        rw [Array.getD_eq_getD_getElem?] at r52
        clear hO hφ
        obtain ⟨z0, z1, z3, z4, ⟨x0, x1, x2, x3⟩, ⟨y0, y1, y2, y3⟩⟩ := KC W (Kp.trans ((Kp.refl _).drew) hW)
        clear KC WD
        go_simp
        exact hK _ _ (Kp.refl _) rfl
      · intro a W hW hO hφ K hK
        have q53 : a.tmps.getD 53 undef = (.slice (some ⟨g0, 0, none⟩) 2 c0) := hφ ⟨2, .data⟩ (by simp) rfl
        have r53 := q53
        rw [Array.getD_eq_getD_getElem?] at r53
        clear hO hφ
        clear KC
        go_simp
        go_at_call 30
        refine (WD.out W (Kp.trans ((Kp.refl _).drew) hW)).1.mono ?_
        rintro e w' ⟨rfl, hk⟩
        exact hK _ _ hk rfl
      · intro a W hW hO hφ K hK
        have q8 : a.tmps.getD 8 undef = (.slice (some ⟨g, 0, none⟩) 5 cap) := hO 8 (by kernel_rfl)
        have r8 := q8
        rw [Array.getD_eq_getD_getElem?] at r8
        clear hO hφ
        clear KC WD
        go_simp
        exact hK _ _ (Kp.refl _) rfl
      · intro a W hW hO hφ K hK
        have q55 : a.tmps.getD 55 undef = (.slice (some ⟨g, 0, none⟩) 5 cap) := hφ ⟨4, .data⟩ (by simp) rfl
        have r55 := q55
        rw [Array.getD_eq_getD_getElem?] at r55
        clear hO hφ
        clear KC WD
        go_simp
        exact hK _ _ (Kp.refl _) rfl
      · intro a W hW hO hφ K hK
        have q56 : a.tmps.getD 56 undef = (.pointer (some ⟨g, 1, none⟩)) := hφ ⟨5, .data⟩ (by simp) rfl
        have r56 := q56
        rw [Array.getD_eq_getD_getElem?] at r56
        clear hO hφ
        obtain ⟨z0, z1, z3, z4, ⟨x0, x1, x2, x3⟩, ⟨y0, y1, y2, y3⟩⟩ := KC W (Kp.trans ((Kp.refl _).drew) hW)
        clear KC WD
        go_simp
        exact hK _ _ (Kp.refl _) rfl
      · intro a W hW hO hφ K hK
        have q57 : a.tmps.getD 57 undef = (.slice (some ⟨g1, 0, none⟩) 2 c1) := hφ ⟨6, .data⟩ (by simp) rfl
        have r57 := q57
        rw [Array.getD_eq_getD_getElem?] at r57
        clear hO hφ
        clear KC
        go_simp
        go_at_call 30
        refine (WD.out W (Kp.trans ((Kp.refl _).drew) hW)).2.1.mono ?_
        rintro e w' ⟨rfl, hk⟩
        exact hK _ _ hk rfl
      · intro a W hW hO hφ K hK
        have q8 : a.tmps.getD 8 undef = (.slice (some ⟨g, 0, none⟩) 5 cap) := hO 8 (by kernel_rfl)
        have r8 := q8
        rw [Array.getD_eq_getD_getElem?] at r8
        clear hO hφ
        clear KC WD
        go_simp
        exact hK _ _ (Kp.refl _) rfl
      · intro a W hW hO hφ K hK
        have q59 : a.tmps.getD 59 undef = (.slice (some ⟨g, 0, none⟩) 5 cap) := hφ ⟨8, .data⟩ (by simp) rfl
        have r59 := q59
        rw [Array.getD_eq_getD_getElem?] at r59
        clear hO hφ
        clear KC WD
        go_simp
        exact hK _ _ (Kp.refl _) rfl
      · intro a W hW hO hφ K hK
        have q60 : a.tmps.getD 60 undef = (.pointer (some ⟨g, 4, none⟩)) := hφ ⟨9, .data⟩ (by simp) rfl
        have r60 := q60
        rw [Array.getD_eq_getD_getElem?] at r60
        clear hO hφ
        obtain ⟨z0, z1, z3, z4, ⟨x0, x1, x2, x3⟩, ⟨y0, y1, y2, y3⟩⟩ := KC W (Kp.trans ((Kp.refl _).drew) hW)
        clear KC WD
        go_simp
        exact hK _ _ (Kp.refl _) rfl
      · intro a W hW hO hφ K hK
        have q10 : a.tmps.getD 10 undef = (.int .i64 (N : Int)) := hO 10 (by kernel_rfl)
        have r10 := q10
        rw [Array.getD_eq_getD_getElem?] at r10
        clear hO hφ
        clear KC WD
        go_simp
        exact hK _ _ (Kp.refl _) rfl
      · intro a W hW hO hφ K hK
        have q62 : a.tmps.getD 62 undef = (.int .i64 (N : Int)) := hφ ⟨11, .data⟩ (by simp) rfl
        have r62 := q62
        rw [Array.getD_eq_getD_getElem?] at r62
        clear hO hφ
        clear KC WD
        go_simp
        exact hK _ _ (Kp.refl _) rfl
      · intro a W hW hO hφ K hK
        have q61 : a.tmps.getD 61 undef = (.slice (some ⟨g4, 0, none⟩) rl c4) := hφ ⟨10, .data⟩ (by simp) rfl
        have q63 : a.tmps.getD 63 undef = (.int .i64 (m : Int)) := hφ ⟨12, .data⟩ (by simp) rfl
        have r61 := q61
        rw [Array.getD_eq_getD_getElem?] at r61
        have r63 := q63
        rw [Array.getD_eq_getD_getElem?] at r63
        clear hO hφ
        have tt := SLM.out W
        clear KC WD
        go_simp
        exact hK _ _ (Kp.refl _) rfl
      · intro a W hW hO hφ K hK
        have q54 : a.tmps.getD 54 undef = (.int .u16 (sp : Int)) := hφ ⟨3, .data⟩ (by simp) rfl
        have q58 : a.tmps.getD 58 undef = (.int .u16 (dp : Int)) := hφ ⟨7, .data⟩ (by simp) rfl
        have q64 : a.tmps.getD 64 undef = (.slice (some ⟨g4, 0, none⟩) m c4) := hφ ⟨13, .data⟩ (by simp) rfl
        have r54 := q54
        rw [Array.getD_eq_getD_getElem?] at r54
        have r58 := q58
        rw [Array.getD_eq_getD_getElem?] at r58
        have r64 := q64
        rw [Array.getD_eq_getD_getElem?] at r64
        clear hO hφ
        clear KC WD
        go_simp
        exact hK _ _ (Kp.refl _) rfl
      · intro a W hW hO hφ K hK
        have q65 : a.tmps.getD 65 undef = (.agg #[.int .u16 (sp : Int), .int .u16 (dp : Int), .slice (some ⟨g4, 0, none⟩) m c4]) := hφ ⟨14, .data⟩ (by simp) rfl
        have r65 := q65
        rw [Array.getD_eq_getD_getElem?] at r65
        clear hO hφ
        clear KC WD
        go_simp
        exact hK _ _ (Kp.refl _) rfl
      · intro a W hW hO hφ K hK
        have q66 : a.tmps.getD 66 undef = (.iface 43 (.agg #[.int .u16 (sp : Int), .int .u16 (dp : Int), .slice (some ⟨g4, 0, none⟩) m c4])) := hφ ⟨15, .data⟩ (by simp) rfl
        have r66 := q66
        rw [Array.getD_eq_getD_getElem?] at r66
        clear hO hφ
        clear KC WD
        go_simp
        exact hK _ _ (Kp.refl _) rfl
      · intro a W hW hO hφ K hK
        clear hO hφ
        clear KC WD
        go_simp
        exact hK _ _ (Kp.refl _) rfl
      intro f W hW hφ
      have v0 : f 0 = (.slice (some ⟨g, 0, none⟩) 5 cap) := hφ 0 (by omega)
      have v1 : f 1 = (.pointer (some ⟨g, 0, none⟩)) := hφ 1 (by omega)
      have v2 : f 2 = (.slice (some ⟨g0, 0, none⟩) 2 c0) := hφ 2 (by omega)
      have v3 : f 3 = (.int .u16 (sp : Int)) := hφ 3 (by omega)
      have v4 : f 4 = (.slice (some ⟨g, 0, none⟩) 5 cap) := hφ 4 (by omega)
      have v5 : f 5 = (.pointer (some ⟨g, 1, none⟩)) := hφ 5 (by omega)
      have v6 : f 6 = (.slice (some ⟨g1, 0, none⟩) 2 c1) := hφ 6 (by omega)
      have v7 : f 7 = (.int .u16 (dp : Int)) := hφ 7 (by omega)
      have v8 : f 8 = (.slice (some ⟨g, 0, none⟩) 5 cap) := hφ 8 (by omega)
      have v9 : f 9 = (.pointer (some ⟨g, 4, none⟩)) := hφ 9 (by omega)
      have v10 : f 10 = (.slice (some ⟨g4, 0, none⟩) rl c4) := hφ 10 (by omega)
      have v11 : f 11 = (.int .i64 (N : Int)) := hφ 11 (by omega)
      have v12 : f 12 = (.int .i64 (m : Int)) := hφ 12 (by omega)
      have v13 : f 13 = (.slice (some ⟨g4, 0, none⟩) m c4) := hφ 13 (by omega)
      have v14 : f 14 = (.agg #[.int .u16 (sp : Int), .int .u16 (dp : Int), .slice (some ⟨g4, 0, none⟩) m c4]) := hφ 14 (by omega)
      have v15 : f 15 = (.iface 43 (.agg #[.int .u16 (sp : Int), .int .u16 (dp : Int), .slice (some ⟨g4, 0, none⟩) m c4])) := hφ 15 (by omega)
      have v16 : f 16 = (.iface 43 (.agg #[.int .u16 (sp : Int), .int .u16 (dp : Int), .slice (some ⟨g4, 0, none⟩) m c4])) := hφ 16 (by omega)
      have v17 : f 17 = (.int .i64 0) := hφ 17 (by omega)
      clear hφ
      simp only [putAll, List.setIfInBounds_toArray, List.set_cons_succ, List.set_cons_zero, v0, v1, v2, v3, v4, v5, v6, v7, v8, v9, v10, v11, v12, v13, v14, v15, v16, v17]
      clear v0 v1 v2 v3 v4 v5 v6 v7 v8 v9 v10 v11 v12 v13 v14 v15 v16 v17
      refine wpAny_done (by kernel_rfl) ?_ _
      have hk7 : Kp w2 W := hkA.trans (Kp.trans ((Kp.refl _).drew) hW)
      go_wp2
      go_ret2
      refine .inr ⟨sp, dp, data, HOT.out HQ.out, hsp2, hdp2, hdl, HK1.out.trans (HK12.out.trans hk7), some ⟨g4, 0, none⟩, c4, ?_, ?_, ?_⟩
      · rw [hml]; rfl
      · rw [hml]; exact RdV.keep HRM.out (HK12.out.trans hk7)
      · rw [hml]; exact HSM.out

theorem g8_any (w : World) (A : Option Addr) (n c : Nat) (l : List UInt8) (s0 s1 s2 s3 d0 d1 d2 d3 : UInt8) (hA : Rd w 0 A n l) (hok : SlOk A n c) (hn : n ≤ 1048576) : Calls Try.prog 23 #[.agg #[.int .u8 (s0.toNat : Int), .int .u8 (s1.toNat : Int), .int .u8 (s2.toNat : Int), .int .u8 (s3.toNat : Int)], .agg #[.int .u8 (d0.toNat : Int), .int .u8 (d1.toNat : Int), .int .u8 (d2.toNat : Int), .int .u8 (d3.toNat : Int)], .slice A n c] w (GPost w [s0, s1, s2, s3] [d0, d1, d2, d3] l) := by
  by_cases h : n < 8
  · exact (g8_short w A n c l s0 s1 s2 s3 d0 d1 d2 d3 hA hok h).mono fun e w' hp => .inl ⟨6, by decide, outG_short (by rw [hA.len]; exact h), hp⟩
  · obtain ⟨k0, k1, c0, c1, i0, i1, q0, q1, r, rfl⟩ := len8s l (by rw [hA.len]; omega)
    exact g8_long w A n c s0 s1 s2 s3 d0 d1 d2 d3 k0 k1 c0 c1 i0 i1 q0 q1 r hA hok hn
end Go.Proofs.Ytpjjanbcjkdciaa
