/-
  The contracts of dgram.word and dgram.echo: the Echo of bytes.
-/
import Derived.Test.YtpjjanbcjkdciaaD8b
import Derived.Test.YtpjjanbcjkdciaaSplit2
namespace Go.Proofs.Ytpjjanbcjkdciaa
open Go.RowKit

theorem u8_ne {x : UInt8} {k : Nat} (hk : k < 256) (h : x ≠ UInt8.ofNat k) : ((x.toNat : Int) == (k : Int)) = false := by
  rw [beq_eq_false_iff_ne]
  intro e
  exact h (UInt8.toNat_inj.1 (by rw [UInt8.toNat_ofNat', Nat.mod_eq_of_lt hk]; omega))
theorem split_step : ∀ (l : List UInt8) (z : Int) (zs : List Int), 0 ≤ z → ((l.length : Int) < z ∨ Sp.split (l.drop z.toNat) zs = ([], 6)) → Sp.split l (z :: zs) = ([], 6) := by
  intro l z zs h0 h
  rw [Sp.split, if_neg (by omega)]
  by_cases hz : (l.length : Int) < z
  · rw [if_pos hz]
  · rw [if_neg hz]
    rcases h with h | h
    · exact absurd h hz
    · rw [h]; rfl

/-- a message's kind, its numbers, its data; or an error's number -/
def outE : List UInt8 → Int ⊕ (Bool × Nat × Nat × List UInt8)
  | k0 :: k1 :: c0 :: c1 :: i0 :: i1 :: q0 :: q1 :: r =>
    if Ck.ck (k0 :: k1 :: c0 :: c1 :: i0 :: i1 :: q0 :: q1 :: r) ≠ 65535 then .inl 8
    else if (k0 ≠ 0 ∧ k0 ≠ 8) ∨ k1 ≠ 0 then .inl 7
    else .inr (decide (k0 = 0), 256 * i0.toNat + i1.toNat, 256 * q0.toNat + q1.toNat, r)
  | _ => .inl 6
theorem len8s (l : List UInt8) (h : 8 ≤ l.length) : ∃ (k0 k1 c0 c1 i0 i1 q0 q1 : UInt8) (r : List UInt8), l = k0 :: k1 :: c0 :: c1 :: i0 :: i1 :: q0 :: q1 :: r := by
  match l, h with
  | k0 :: k1 :: c0 :: c1 :: i0 :: i1 :: q0 :: q1 :: r, _ => exact ⟨k0, k1, c0, c1, i0, i1, q0, q1, r, rfl⟩
theorem outE_short {l : List UInt8} (h : l.length < 8) : outE l = .inl 6 := by
  unfold outE
  split
  · simp only [List.length_cons] at h; omega
  · rfl

/-- no message -/
def MsgNo (w : World) (k : Int) (e : Ending) (w' : World) : Prop := Kp w w' ∧ e = .returned (.tuple #[.nilIface, .int .i64 k])
/-- this Echo -/
def EchoOk (w : World) (rp : Bool) (id sq : Nat) (data : List UInt8) (e : Ending) (w' : World) : Prop :=
  Kp w w' ∧ ∃ A c, e = .returned (.tuple #[.iface 25 (.agg #[.bool rp, .int .u16 (id : Int), .int .u16 (sq : Int), .slice A data.length c]), .int .i64 0]) ∧ Rd w' w.heap.size A data.length data ∧ SlOk A data.length c
def EPost (w : World) (l : List UInt8) (e : Ending) (w' : World) : Prop :=
  (∃ k, k ≠ 0 ∧ outE l = .inl k ∧ MsgNo w k e w') ∨ ∃ rp id sq data, outE l = .inr (rp, id, sq, data) ∧ id ≤ 65535 ∧ sq ≤ 65535 ∧ data.length ≤ l.length ∧ EchoOk w rp id sq data e w'

set_option maxHeartbeats 400000 in
theorem word8_any (w : World) (A : Option Addr) (c : Nat) (x y : UInt8) (hA : Rd w 0 A 2 [x, y]) :
    Calls Try.prog 30 #[.slice A 2 c] w fun e w' => e = .returned (.int .u16 ((256 * x.toNat + y.toNat : Nat) : Int)) ∧ Kp w w' := by
  obtain ⟨g, off, rfl, _⟩ := hA.at_ (by omega)
  obtain ⟨x', hx, cx⟩ := hA.cell (k := 0) (by omega)
  obtain ⟨y', hy, cy⟩ := hA.cell (k := 1) (by omega)
  injection hx with hx
  injection hy with hy
  subst hx
  subst hy
  rw [Nat.add_zero] at cx
  have bx : x.toNat < 256 := x.toNat_lt
  have by_ : y.toNat < 256 := y.toNat_lt
  have ho := or_u16 x y
  have u1 : IntKind.u16.wrap ((x.toNat : Int) * 256) = (x.toNat : Int) * 256 := wrap_u16 (by omega) (by omega)
  have u4 : IntKind.u16.wrap (x.toNat : Int) = (x.toNat : Int) := wrap_u16 (by omega) (by omega)
  have u5 : IntKind.u16.wrap (y.toNat : Int) = (y.toNat : Int) := wrap_u16 (by omega) (by omega)
  clear hA
  go_enter Try.func30, Try.ntmps30
  go_wp2
  go_quiet (fail)
  go_wp2
  go_ret
  exact ⟨ret_int (by omega), (Kp.refl w).of_drawn _⟩

theorem splitE (k0 k1 c0 c1 i0 i1 q0 q1 : UInt8) (r : List UInt8) : Sp.split (k0 :: k1 :: c0 :: c1 :: i0 :: i1 :: q0 :: q1 :: r) [1, 1, 2, 2, 2] = ([[k0], [k1], [c0, c1], [i0, i1], [q0, q1], r], 0) :=
  Sp.split_part [k0] (k1 :: c0 :: c1 :: i0 :: i1 :: q0 :: q1 :: r) 1 [1, 2, 2, 2] rfl _ (Sp.split_part [k1] (c0 :: c1 :: i0 :: i1 :: q0 :: q1 :: r) 1 [2, 2, 2] rfl _ (Sp.split_part [c0, c1] (i0 :: i1 :: q0 :: q1 :: r) 2 [2, 2] rfl _ (Sp.split_part [i0, i1] (q0 :: q1 :: r) 2 [2] rfl _ (Sp.split_part [q0, q1] r 2 [] rfl _ rfl))))
theorem splitE_no (l : List UInt8) (h : l.length < 8) : Sp.split l [1, 1, 2, 2, 2] = ([], 6) := by
  by_cases h1 : (l.length : Int) < 1
  · exact split_step _ _ _ (by decide) (.inl h1)
  refine split_step _ _ _ (by decide) (.inr ?_)
  by_cases h2 : ((l.drop (1 : Int).toNat).length : Int) < 1
  · exact split_step _ _ _ (by decide) (.inl h2)
  refine split_step _ _ _ (by decide) (.inr ?_)
  by_cases h3 : (((l.drop (1 : Int).toNat).drop (1 : Int).toNat).length : Int) < 2
  · exact split_step _ _ _ (by decide) (.inl h3)
  refine split_step _ _ _ (by decide) (.inr ?_)
  by_cases h4 : ((((l.drop (1 : Int).toNat).drop (1 : Int).toNat).drop (2 : Int).toNat).length : Int) < 2
  · exact split_step _ _ _ (by decide) (.inl h4)
  refine split_step _ _ _ (by decide) (.inr ?_)
  refine split_step _ _ _ (by decide) (.inl ?_)
  simp at h1 h2 h3 h4 ⊢
  omega

set_option maxHeartbeats 1000000 in
theorem e8_short (w : World) (A : Option Addr) (n c : Nat) (l : List UInt8) (hA : Rd w 0 A n l) (hok : SlOk A n c) (h : n < 8) : Calls Try.prog 22 #[.slice A n c] w (MsgNo w 6) := by
  have es := splitE_no l (by rw [hA.len]; exact h)
  have ES := Lib.hid es
  have HOK := Lib.hid hok
  have HA := Lib.hid hA
  clear hok es hA
  go_enter Try.func22, Try.ntmps22
  go_wp2_with fail
  refine (split_any _ A n c l _ 5 5 [1, 1, 2, 2, 2] ?_ HOK.out (by omega) ?_ (by omega)).mono ?_
  · exact HA.out.keep ((Kp.refl _).alloc _)
  · refine ⟨rfl, fun _ => ⟨_, 0, rfl, Nat.zero_le _, fun j u hu => ?_⟩⟩
    rw [cell_new]
    simpa using hu
  rintro e w1 ⟨hk1, v, he, hcase⟩
  rw [ES.out] at he hcase
  rcases hcase with ⟨_, hv⟩ | ⟨h0, _⟩
  · subst hv
    subst he
    go_wp2
    go_ret2
    exact ⟨((Kp.refl w).alloc _).trans hk1, rfl⟩
  · exact absurd h0 (by decide)

noncomputable def e8ophi (g cap g0 c0 g3 c3 g4 c4 g5 c5 id sq : Nat) (rp : Bool) (k0 : UInt8) (r : List UInt8) : Nat → St := fun i => ([St.val (.slice (some ⟨g, 0, none⟩) 6 cap),
  St.val (.pointer (some ⟨g, 0, none⟩)),
  St.val (.slice (some ⟨g0, 0, none⟩) 1 c0),
  St.val (.pointer (some ⟨g0, 0, none⟩)),
  St.val (.int .u8 (k0.toNat : Int)),
  St.val (.bool rp),
  St.val (.slice (some ⟨g, 0, none⟩) 6 cap),
  St.val (.pointer (some ⟨g, 3, none⟩)),
  St.val (.slice (some ⟨g3, 0, none⟩) 2 c3),
  St.val (.int .u16 (id : Int)),
  St.val (.slice (some ⟨g, 0, none⟩) 6 cap),
  St.val (.pointer (some ⟨g, 4, none⟩)),
  St.val (.slice (some ⟨g4, 0, none⟩) 2 c4),
  St.val (.int .u16 (sq : Int)),
  St.val (.slice (some ⟨g, 0, none⟩) 6 cap),
  St.val (.pointer (some ⟨g, 5, none⟩)),
  St.val (.slice (some ⟨g5, 0, none⟩) r.length c5),
  St.val (.agg #[.bool rp, .int .u16 (id : Int), .int .u16 (sq : Int), .slice (some ⟨g5, 0, none⟩) r.length c5]),
  St.val (.iface 25 (.agg #[.bool rp, .int .u16 (id : Int), .int .u16 (sq : Int), .slice (some ⟨g5, 0, none⟩) r.length c5])),
  St.val (.iface 25 (.agg #[.bool rp, .int .u16 (id : Int), .int .u16 (sq : Int), .slice (some ⟨g5, 0, none⟩) r.length c5])),
  St.val (.int .i64 0)] : List St).getD i St.any

set_option maxRecDepth 100000 in
set_option maxHeartbeats 4000000 in
theorem e8_long (w : World) (A : Option Addr) (n c : Nat) (k0 k1 c0' c1' i0 i1 q0 q1 : UInt8) (r : List UInt8) (hA : Rd w 0 A n (k0 :: k1 :: c0' :: c1' :: i0 :: i1 :: q0 :: q1 :: r)) (hok : SlOk A n c) (hn : n ≤ 1048576) :
    Calls Try.prog 22 #[.slice A n c] w (EPost w (k0 :: k1 :: c0' :: c1' :: i0 :: i1 :: q0 :: q1 :: r)) := by
  have ES := Lib.hid (splitE k0 k1 c0' c1' i0 i1 q0 q1 r)
  have HOK := Lib.hid hok
  have HA := Lib.hid hA
  obtain ⟨L, hL⟩ : ∃ L, k0 :: k1 :: c0' :: c1' :: i0 :: i1 :: q0 :: q1 :: r = L := ⟨_, rfl⟩
  have hrl : r.length ≤ L.length := by rw [← hL]; simp only [List.length_cons]; omega
  have HO : Hid (outE L = if Ck.ck L ≠ 65535 then .inl 8 else if (k0 ≠ 0 ∧ k0 ≠ 8) ∨ k1 ≠ 0 then .inl 7 else .inr (decide (k0 = 0), 256 * i0.toNat + i1.toNat, 256 * q0.toNat + q1.toNat, r)) := Lib.hid (by rw [← hL]; rfl)
  rw [hL] at HA ES ⊢
  clear hok hA hL
  go_enter Try.func22, Try.ntmps22
  go_wp2_with fail
  refine (split_any _ A n c L _ 5 5 [1, 1, 2, 2, 2] ?_ HOK.out (by omega) ?_ (by omega)).mono ?_
  · exact HA.out.keep ((Kp.refl _).alloc _)
  · refine ⟨rfl, fun _ => ⟨_, 0, rfl, Nat.zero_le _, fun j u hu => ?_⟩⟩
    rw [cell_new]
    simpa using hu
  rintro e w1 ⟨hk1, v, he, hcase⟩
  rw [ES.out] at he hcase
  rcases hcase with ⟨h0, _⟩ | ⟨_, g, cap, vs, hv, hown, hps⟩
  · exact absurd rfl h0
  subst hv
  subst he
  replace hown : OwnV 23 w1 _ g 6 cap vs := hown
  obtain ⟨g0, c0, p0, o0⟩ := hps.part hown (j := 0) rfl
  obtain ⟨g1, c1, p1, o1⟩ := hps.part hown (j := 1) rfl
  obtain ⟨g3, c3, p3, o3⟩ := hps.part hown (j := 3) rfl
  obtain ⟨g4, c4, p4, o4⟩ := hps.part hown (j := 4) rfl
  obtain ⟨g5, c5, p5, o5⟩ := hps.part hown (j := 5) rfl
  have HK1 : Hid (Kp w w1) := Lib.hid (((Kp.refl w).alloc _).trans hk1)
  obtain ⟨x0, hx0, cx0⟩ := o0.cell8 (k := 0) (by simp)
  obtain ⟨x1, hx1, cx1⟩ := o1.cell8 (k := 0) (by simp)
  injection hx0 with hx0
  injection hx1 with hx1
  subst hx0
  subst hx1
  have KC0 : Hid (∀ W : World, Kp w1 W → W.cell? ⟨g, 0, none⟩ = some (.slice (some ⟨g0, 0, none⟩) 1 c0) ∧ W.cell? ⟨g, 3, none⟩ = some (.slice (some ⟨g3, 0, none⟩) 2 c3) ∧ W.cell? ⟨g, 4, none⟩ = some (.slice (some ⟨g4, 0, none⟩) 2 c4) ∧ W.cell? ⟨g, 5, none⟩ = some (.slice (some ⟨g5, 0, none⟩) r.length c5) ∧ W.cell? ⟨g0, 0, none⟩ = some (.int .u8 (k0.toNat : Int))) :=
    Lib.hid fun W hk => ⟨hk.cell p0, hk.cell p3, hk.cell p4, hk.cell p5, hk.cell cx0⟩
  have KD0 : Hid (∀ W : World, Kp w1 W → W.cell? ⟨g, 1, none⟩ = some (.slice (some ⟨g1, 0, none⟩) 1 c1) ∧ W.cell? ⟨g1, 0, none⟩ = some (.int .u8 (k1.toNat : Int))) := Lib.hid fun W hk => ⟨hk.cell p1, hk.cell cx1⟩
  have WD0 : Hid (∀ W, Kp w1 W → (Calls Try.prog 30 #[.slice (some ⟨g3, 0, none⟩) 2 c3] W fun e w' => e = .returned (.int .u16 ((256 * i0.toNat + i1.toNat : Nat) : Int)) ∧ Kp W w') ∧ (Calls Try.prog 30 #[.slice (some ⟨g4, 0, none⟩) 2 c4] W fun e w' => e = .returned (.int .u16 ((256 * q0.toNat + q1.toNat : Nat) : Int)) ∧ Kp W w')) :=
    Lib.hid fun W hk => ⟨word8_any W _ c3 i0 i1 (o3.rd0.keep hk), word8_any W _ c4 q0 q1 (o4.rd0.keep hk)⟩
  have HR5 : Hid (Rd w1 w.heap.size (some ⟨g5, 0, none⟩) r.length r) := Lib.hid (o5.rd.mono_lo (by simp))
  have HS5 := Lib.hid o5.slOk
  have b1 := i0.toNat_lt
  have b2 := i1.toNat_lt
  have b3 := q0.toNat_lt
  have b4 := q1.toNat_lt
  obtain ⟨id, hid⟩ : ∃ id, 256 * i0.toNat + i1.toNat = id := ⟨_, rfl⟩
  obtain ⟨sq, hsq⟩ : ∃ sq, 256 * q0.toNat + q1.toNat = sq := ⟨_, rfl⟩
  have hid2 : id ≤ 65535 := by omega
  have hsq2 : sq ≤ 65535 := by omega
  rw [hid, hsq] at WD0 HO
  clear p0 p1 p3 p4 p5 o0 o1 o3 o4 o5 cx0 cx1 hown hps hk1 hid hsq b1 b2 b3 b4 ES
  have hall : RdAll (w1.alloc (.cells #[.slice A n c] 23)) (some ⟨w1.heap.size, 0, none⟩) 1 [L] :=
    rdAll_mk (vs := [.slice A n c]) rfl rfl (by decide) ⟨⟨_, _, _, rfl, HA.out.keep HK1.out, by unfold maxLen; omega⟩, trivial⟩
  have HALL := Lib.hid hall
  have hk2 : Kp w1 (w1.alloc (.cells #[.slice A n c] 23)) := (Kp.refl _).alloc _
  clear hall
  go_wp2_with fail
  refine (right_any _ _ 1 _ _ HALL.out).mono ?_
  rintro e W3 ⟨rfl, rfl⟩
  rw [show [L].flatten = L by simp]
  generalize w1.alloc (.cells #[.slice A n c] 23) = w2 at hk2 ⊢
  have HK2 := Lib.hid hk2
  obtain ⟨z0, _, _, _, y0⟩ := KC0.out _ hk2
  obtain ⟨z1, y1⟩ := KD0.out _ hk2
  clear HALL hk2
  by_cases h4 : Ck.ck L = 65535
  case neg =>
    have HO' : Hid (outE L = .inl 8) := Lib.hid (by rw [HO.out, if_pos h4])
    have h4' : (Ck.ck L == 65535) = false := by simpa using h4
    rw [h4']
    clear h4 h4'
    go_wp2
    go_ret2
    exact .inl ⟨8, by decide, HO'.out, HK1.out.trans HK2.out, rfl⟩
  have h4' : (Ck.ck L == 65535) = true := by simpa using h4
  rw [h4']
  by_cases hf : (k0 ≠ 0 ∧ k0 ≠ 8) ∨ k1 ≠ 0
  · have HO' : Hid (outE L = .inl 7) := Lib.hid (by rw [HO.out, if_neg (by simpa using h4), if_pos hf])
    clear h4 h4'
    by_cases ha : k0 = 0
    · subst ha
      have hb : k1 ≠ 0 := hf.resolve_left fun h => h.1 rfl
      have fb : ((k1.toNat : Int) == 0) = false := u8_ne (k := 0) (by decide) hb
      have fb' : ((k1.toNat : Int) != 0) = true := by rw [bne, fb]; rfl
      clear hf hb
      go_wp2
      go_ret2
      exact .inl ⟨7, by decide, HO'.out, HK1.out.trans HK2.out, rfl⟩
    · have fa : ((k0.toNat : Int) == 0) = false := u8_ne (k := 0) (by decide) ha
      have fa' : ((k0.toNat : Int) != 0) = true := by rw [bne, fa]; rfl
      by_cases h8 : k0 = 8
      · subst h8
        have hb : k1 ≠ 0 := hf.resolve_left fun h => h.2 rfl
        have fb : ((k1.toNat : Int) == 0) = false := u8_ne (k := 0) (by decide) hb
        have fb' : ((k1.toNat : Int) != 0) = true := by rw [bne, fb]; rfl
        clear hf hb ha fa fa'
        go_wp2
        go_ret2
        exact .inl ⟨7, by decide, HO'.out, HK1.out.trans HK2.out, rfl⟩
      · have f8 : ((k0.toNat : Int) == 8) = false := u8_ne (k := 8) (by decide) h8
        have f8' : ((k0.toNat : Int) != 8) = true := by rw [bne, f8]; rfl
        clear hf ha h8
        go_wp2
        go_ret2
        exact .inl ⟨7, by decide, HO'.out, HK1.out.trans HK2.out, rfl⟩
  · have HO' : Hid (outE L = .inr (decide (k0 = 0), id, sq, r)) := Lib.hid (by rw [HO.out, if_neg (by simpa using h4), if_neg hf])
    obtain rfl : k1 = 0 := Decidable.byContradiction fun h => hf (.inr h)
    obtain ⟨rp, hrp⟩ : ∃ rp, decide (k0 = 0) = rp := ⟨_, rfl⟩
    have hq : ((k0.toNat : Int) == 0) = rp := by
      rw [← hrp]
      by_cases ha : k0 = 0
      · subst ha; rfl
      · have fa : ((k0.toNat : Int) == 0) = false := u8_ne (k := 0) (by decide) ha
        rw [fa]; simp [ha]
    rw [hrp] at HO'
    have h08 : ((k0.toNat : Int) != 0) = false ∨ (((k0.toNat : Int) != 0) = true ∧ ((k0.toNat : Int) != 8) = false) := by
      by_cases ha : k0 = 0
      · subst ha; exact .inl rfl
      · have fa : ((k0.toNat : Int) == 0) = false := u8_ne (k := 0) (by decide) ha
        have h8 : k0 = 8 := Decidable.byContradiction fun h => hf (.inl ⟨ha, h⟩)
        subst h8
        exact .inr ⟨rfl, rfl⟩
    clear h4 h4' hf hrp HO KD0
    rcases h08 with h08 | ⟨h08, h88⟩
    all_goals
      go_wp2_with fail
      have KC : ∀ W : World, Kp w2 W → _ := fun W hk => KC0.out W (HK2.out.trans hk)
      have WD : Hid (∀ W, Kp w2 W → _) := Lib.hid fun W hk => WD0.out W (HK2.out.trans hk)
      clear z0 y0 z1 y1
      refine wp_region_steps (by kernel_rfl) 21 (e8ophi g cap g0 c0 g3 c3 g4 c4 g5 c5 id sq rp k0 r) [44, 45, 46, 47, 48, 49, 50, 51, 52, 53, 54, 55, 56, 57, 58, 59, 60, 61, 62, 2, 3] (by kernel_rfl) (by kernel_rfl) ⟨?_, ?_, ?_, ?_, ?_, ?_, ?_, ?_, ?_, ?_, ?_, ?_, ?_, ?_, ?_, ?_, ?_, ?_, ?_, ?_, ?_, trivial⟩ ?_
      · intro a W hW hO hφ K hK
        have q4 : a.tmps.getD 4 undef = (.slice (some ⟨g, 0, none⟩) 6 cap) := hO 4 (by kernel_rfl)
        have r4 := q4
        rw [Array.getD_eq_getD_getElem?] at r4
        clear hO hφ
        clear KC WD
        go_simp
        exact hK _ _ (Kp.refl _) rfl
      · intro a W hW hO hφ K hK
        have q44 : a.tmps.getD 44 undef = (.slice (some ⟨g, 0, none⟩) 6 cap) := hφ ⟨0, .data⟩ (by simp) rfl
        have r44 := q44
        rw [Array.getD_eq_getD_getElem?] at r44
        clear hO hφ
        clear KC WD
        go_simp
        exact hK _ _ (Kp.refl _) rfl
      · intro a W hW hO hφ K hK
        have q45 : a.tmps.getD 45 undef = (.pointer (some ⟨g, 0, none⟩)) := hφ ⟨1, .data⟩ (by simp) rfl
        have r45 := q45
        rw [Array.getD_eq_getD_getElem?] at r45
        clear hO hφ
        obtain ⟨z0, z3, z4, z5, y0⟩ := KC W (Kp.trans ((Kp.refl _).drew) hW)
        clear KC WD
        go_simp
        exact hK _ _ (Kp.refl _) rfl
      · intro a W hW hO hφ K hK
        have q46 : a.tmps.getD 46 undef = (.slice (some ⟨g0, 0, none⟩) 1 c0) := hφ ⟨2, .data⟩ (by simp) rfl
        have r46 := q46
        rw [Array.getD_eq_getD_getElem?] at r46
        clear hO hφ
        clear KC WD
        go_simp
        exact hK _ _ (Kp.refl _) rfl
      · intro a W hW hO hφ K hK
        have q47 : a.tmps.getD 47 undef = (.pointer (some ⟨g0, 0, none⟩)) := hφ ⟨3, .data⟩ (by simp) rfl
        have r47 := q47
        rw [Array.getD_eq_getD_getElem?] at r47
        clear hO hφ
        obtain ⟨z0, z3, z4, z5, y0⟩ := KC W (Kp.trans ((Kp.refl _).drew) hW)
        clear KC WD
        go_simp
        exact hK _ _ (Kp.refl _) rfl
      · intro a W hW hO hφ K hK
        have q48 : a.tmps.getD 48 undef = (.int .u8 (k0.toNat : Int)) := hφ ⟨4, .data⟩ (by simp) rfl
        have r48 := q48
        rw [Array.getD_eq_getD_getElem?] at r48
        clear hO hφ
        clear KC WD
        go_simp
        exact hK _ _ (Kp.refl _) rfl
      · intro a W hW hO hφ K hK
        have q4 : a.tmps.getD 4 undef = (.slice (some ⟨g, 0, none⟩) 6 cap) := hO 4 (by kernel_rfl)
        have r4 := q4
        rw [Array.getD_eq_getD_getElem?] at r4
        clear hO hφ
        clear KC WD
        go_simp
        exact hK _ _ (Kp.refl _) rfl
      · intro a W hW hO hφ K hK
        have q50 : a.tmps.getD 50 undef = (.slice (some ⟨g, 0, none⟩) 6 cap) := hφ ⟨6, .data⟩ (by simp) rfl
        have r50 := q50
        rw [Array.getD_eq_getD_getElem?] at r50
        clear hO hφ
        clear KC WD
        go_simp
        exact hK _ _ (Kp.refl _) rfl
      · intro a W hW hO hφ K hK
        have q51 : a.tmps.getD 51 undef = (.pointer (some ⟨g, 3, none⟩)) := hφ ⟨7, .data⟩ (by simp) rfl
        have r51 := q51
        rw [Array.getD_eq_getD_getElem?] at r51
        clear hO hφ
        obtain ⟨z0, z3, z4, z5, y0⟩ := KC W (Kp.trans ((Kp.refl _).drew) hW)
        clear KC WD
        go_simp
        exact hK _ _ (Kp.refl _) rfl
      · intro a W hW hO hφ K hK
        have q52 : a.tmps.getD 52 undef = (.slice (some ⟨g3, 0, none⟩) 2 c3) := hφ ⟨8, .data⟩ (by simp) rfl
        have r52 := q52
        rw [Array.getD_eq_getD_getElem?] at r52
        clear hO hφ
        clear KC
        go_simp
        go_at_call 30
        refine (WD.out W (Kp.trans ((Kp.refl _).drew) hW)).1.mono ?_
        rintro e w' ⟨rfl, hk⟩
        exact hK _ _ hk rfl
      · intro a W hW hO hφ K hK
        have q4 : a.tmps.getD 4 undef = (.slice (some ⟨g, 0, none⟩) 6 cap) := hO 4 (by kernel_rfl)
        have r4 := q4
        rw [Array.getD_eq_getD_getElem?] at r4
        clear hO hφ
        clear KC WD
        go_simp
        exact hK _ _ (Kp.refl _) rfl
      · intro a W hW hO hφ K hK
        have q54 : a.tmps.getD 54 undef = (.slice (some ⟨g, 0, none⟩) 6 cap) := hφ ⟨10, .data⟩ (by simp) rfl
        have r54 := q54
        rw [Array.getD_eq_getD_getElem?] at r54
        clear hO hφ
        clear KC WD
        go_simp
        exact hK _ _ (Kp.refl _) rfl
      · intro a W hW hO hφ K hK
        have q55 : a.tmps.getD 55 undef = (.pointer (some ⟨g, 4, none⟩)) := hφ ⟨11, .data⟩ (by simp) rfl
        have r55 := q55
        rw [Array.getD_eq_getD_getElem?] at r55
        clear hO hφ
        obtain ⟨z0, z3, z4, z5, y0⟩ := KC W (Kp.trans ((Kp.refl _).drew) hW)
        clear KC WD
        go_simp
        exact hK _ _ (Kp.refl _) rfl
      · intro a W hW hO hφ K hK
        have q56 : a.tmps.getD 56 undef = (.slice (some ⟨g4, 0, none⟩) 2 c4) := hφ ⟨12, .data⟩ (by simp) rfl
        have r56 := q56
        rw [Array.getD_eq_getD_getElem?] at r56
        clear hO hφ
        clear KC
        go_simp
        go_at_call 30
        refine (WD.out W (Kp.trans ((Kp.refl _).drew) hW)).2.mono ?_
        rintro e w' ⟨rfl, hk⟩
        exact hK _ _ hk rfl
      · intro a W hW hO hφ K hK
        have q4 : a.tmps.getD 4 undef = (.slice (some ⟨g, 0, none⟩) 6 cap) := hO 4 (by kernel_rfl)
        have r4 := q4
        rw [Array.getD_eq_getD_getElem?] at r4
        clear hO hφ
        clear KC WD
        go_simp
        exact hK _ _ (Kp.refl _) rfl
      · intro a W hW hO hφ K hK
        have q58 : a.tmps.getD 58 undef = (.slice (some ⟨g, 0, none⟩) 6 cap) := hφ ⟨14, .data⟩ (by simp) rfl
        have r58 := q58
        rw [Array.getD_eq_getD_getElem?] at r58
        clear hO hφ
        clear KC WD
        go_simp
        exact hK _ _ (Kp.refl _) rfl
      · intro a W hW hO hφ K hK
        have q59 : a.tmps.getD 59 undef = (.pointer (some ⟨g, 5, none⟩)) := hφ ⟨15, .data⟩ (by simp) rfl
        have r59 := q59
        rw [Array.getD_eq_getD_getElem?] at r59
        clear hO hφ
        obtain ⟨z0, z3, z4, z5, y0⟩ := KC W (Kp.trans ((Kp.refl _).drew) hW)
        clear KC WD
        go_simp
        exact hK _ _ (Kp.refl _) rfl
      · intro a W hW hO hφ K hK
        have q49 : a.tmps.getD 49 undef = (.bool rp) := hφ ⟨5, .data⟩ (by simp) rfl
        have q53 : a.tmps.getD 53 undef = (.int .u16 (id : Int)) := hφ ⟨9, .data⟩ (by simp) rfl
        have q57 : a.tmps.getD 57 undef = (.int .u16 (sq : Int)) := hφ ⟨13, .data⟩ (by simp) rfl
        have q60 : a.tmps.getD 60 undef = (.slice (some ⟨g5, 0, none⟩) r.length c5) := hφ ⟨16, .data⟩ (by simp) rfl
        have r49 := q49
        rw [Array.getD_eq_getD_getElem?] at r49
        have r53 := q53
        rw [Array.getD_eq_getD_getElem?] at r53
        have r57 := q57
        rw [Array.getD_eq_getD_getElem?] at r57
        have r60 := q60
        rw [Array.getD_eq_getD_getElem?] at r60
        clear hO hφ
        clear KC WD
        go_simp
        exact hK _ _ (Kp.refl _) rfl
      · intro a W hW hO hφ K hK
        have q61 : a.tmps.getD 61 undef = (.agg #[.bool rp, .int .u16 (id : Int), .int .u16 (sq : Int), .slice (some ⟨g5, 0, none⟩) r.length c5]) := hφ ⟨17, .data⟩ (by simp) rfl
        have r61 := q61
        rw [Array.getD_eq_getD_getElem?] at r61
        clear hO hφ
        clear KC WD
        go_simp
        exact hK _ _ (Kp.refl _) rfl
      · intro a W hW hO hφ K hK
        have q62 : a.tmps.getD 62 undef = (.iface 25 (.agg #[.bool rp, .int .u16 (id : Int), .int .u16 (sq : Int), .slice (some ⟨g5, 0, none⟩) r.length c5])) := hφ ⟨18, .data⟩ (by simp) rfl
        have r62 := q62
        rw [Array.getD_eq_getD_getElem?] at r62
        clear hO hφ
        clear KC WD
        go_simp
        exact hK _ _ (Kp.refl _) rfl
      · intro a W hW hO hφ K hK
        clear hO hφ
        clear KC WD
        go_simp
        exact hK _ _ (Kp.refl _) rfl
      intro f W hW hφ
      have v0 : f 0 = (.slice (some ⟨g, 0, none⟩) 6 cap) := hφ 0 (by omega)
      have v1 : f 1 = (.pointer (some ⟨g, 0, none⟩)) := hφ 1 (by omega)
      have v2 : f 2 = (.slice (some ⟨g0, 0, none⟩) 1 c0) := hφ 2 (by omega)
      have v3 : f 3 = (.pointer (some ⟨g0, 0, none⟩)) := hφ 3 (by omega)
      have v4 : f 4 = (.int .u8 (k0.toNat : Int)) := hφ 4 (by omega)
      have v5 : f 5 = (.bool rp) := hφ 5 (by omega)
      have v6 : f 6 = (.slice (some ⟨g, 0, none⟩) 6 cap) := hφ 6 (by omega)
      have v7 : f 7 = (.pointer (some ⟨g, 3, none⟩)) := hφ 7 (by omega)
      have v8 : f 8 = (.slice (some ⟨g3, 0, none⟩) 2 c3) := hφ 8 (by omega)
      have v9 : f 9 = (.int .u16 (id : Int)) := hφ 9 (by omega)
      have v10 : f 10 = (.slice (some ⟨g, 0, none⟩) 6 cap) := hφ 10 (by omega)
      have v11 : f 11 = (.pointer (some ⟨g, 4, none⟩)) := hφ 11 (by omega)
      have v12 : f 12 = (.slice (some ⟨g4, 0, none⟩) 2 c4) := hφ 12 (by omega)
      have v13 : f 13 = (.int .u16 (sq : Int)) := hφ 13 (by omega)
      have v14 : f 14 = (.slice (some ⟨g, 0, none⟩) 6 cap) := hφ 14 (by omega)
      have v15 : f 15 = (.pointer (some ⟨g, 5, none⟩)) := hφ 15 (by omega)
      have v16 : f 16 = (.slice (some ⟨g5, 0, none⟩) r.length c5) := hφ 16 (by omega)
      have v17 : f 17 = (.agg #[.bool rp, .int .u16 (id : Int), .int .u16 (sq : Int), .slice (some ⟨g5, 0, none⟩) r.length c5]) := hφ 17 (by omega)
      have v18 : f 18 = (.iface 25 (.agg #[.bool rp, .int .u16 (id : Int), .int .u16 (sq : Int), .slice (some ⟨g5, 0, none⟩) r.length c5])) := hφ 18 (by omega)
      have v19 : f 19 = (.iface 25 (.agg #[.bool rp, .int .u16 (id : Int), .int .u16 (sq : Int), .slice (some ⟨g5, 0, none⟩) r.length c5])) := hφ 19 (by omega)
      have v20 : f 20 = (.int .i64 0) := hφ 20 (by omega)
      clear hφ
      simp only [putAll, List.setIfInBounds_toArray, List.set_cons_succ, List.set_cons_zero, v0, v1, v2, v3, v4, v5, v6, v7, v8, v9, v10, v11, v12, v13, v14, v15, v16, v17, v18, v19, v20]
      clear v0 v1 v2 v3 v4 v5 v6 v7 v8 v9 v10 v11 v12 v13 v14 v15 v16 v17 v18 v19 v20
      refine wpAny_done (by kernel_rfl) ?_ _
      have hk7 : Kp w2 W := Kp.trans ((Kp.refl _).drew) hW
      go_wp2
      go_ret2
      exact .inr ⟨rp, id, sq, r, HO'.out, hid2, hsq2, hrl, HK1.out.trans (HK2.out.trans hk7), some ⟨g5, 0, none⟩, c5, rfl, RdV.keep HR5.out (HK2.out.trans hk7), HS5.out⟩

theorem e8_any (w : World) (A : Option Addr) (n c : Nat) (l : List UInt8) (hA : Rd w 0 A n l) (hok : SlOk A n c) (hn : n ≤ 1048576) : Calls Try.prog 22 #[.slice A n c] w (EPost w l) := by
  by_cases h : n < 8
  · exact (e8_short w A n c l hA hok h).mono fun e w' hp => .inl ⟨6, by decide, outE_short (by rw [hA.len]; exact h), hp⟩
  · obtain ⟨k0, k1, c0, c1, i0, i1, q0, q1, r, rfl⟩ := len8s l (by rw [hA.len]; omega)
    exact e8_long w A n c k0 k1 c0 c1 i0 i1 q0 q1 r hA hok hn
end Go.Proofs.Ytpjjanbcjkdciaa
