/-
  The walk of DgramBack: it returns true and leaves what was there as it was.
-/
import Derived.Test.YtpjjanbcjkdciaaLives8
import Derived.Test.YtpjjanbcjkdciaaStableR
namespace Go.Proofs.Ytpjjanbcjkdciaa
open Go.RowKit

theorem cellsEB (w : World) (a0 a1 a2 a3 b0 b1 b2 b3 : UInt8) (W : World) (hk : Kp (w.alloc (.cells #[.int .u8 (a0.toNat : Int), .int .u8 (a1.toNat : Int), .int .u8 (a2.toNat : Int), .int .u8 (a3.toNat : Int), .int .u8 (b0.toNat : Int), .int .u8 (b1.toNat : Int), .int .u8 (b2.toNat : Int), .int .u8 (b3.toNat : Int)] 29)) W) : (W.cell? ⟨w.heap.size, 0, none⟩ = some (.int .u8 (a0.toNat : Int)) ∧ W.cell? ⟨w.heap.size, 1, none⟩ = some (.int .u8 (a1.toNat : Int)) ∧ W.cell? ⟨w.heap.size, 2, none⟩ = some (.int .u8 (a2.toNat : Int)) ∧ W.cell? ⟨w.heap.size, 3, none⟩ = some (.int .u8 (a3.toNat : Int))) ∧ (W.cell? ⟨w.heap.size, 4, none⟩ = some (.int .u8 (b0.toNat : Int)) ∧ W.cell? ⟨w.heap.size, 5, none⟩ = some (.int .u8 (b1.toNat : Int)) ∧ W.cell? ⟨w.heap.size, 6, none⟩ = some (.int .u8 (b2.toNat : Int)) ∧ W.cell? ⟨w.heap.size, 7, none⟩ = some (.int .u8 (b3.toNat : Int))) := by
  refine ⟨⟨?_, ?_, ?_, ?_⟩, ⟨?_, ?_, ?_, ?_⟩⟩
  all_goals
    refine hk.cell ?_
    rw [cell_new]
    rfl
theorem outG_gbytes (src dst : List UInt8) (hs : src.length = 4) (hd : dst.length = 4) (sp dp : Nat) (D : List UInt8) (h1 : sp ≤ 65535) (h2 : dp ≤ 65535) (hD : D.length ≤ 992) : outG src dst (gbytes src dst sp dp D) = .inr (sp, dp, D) := by
  have h := outG_right (gbytes_right src dst hs hd sp dp D h1 h2 hD) []
  rwa [List.append_nil] at h
theorem proto8_e (W : World) (rp : Bool) (id sq : Nat) (A : Option Addr) (n c : Nat) : Calls Try.prog 48 #[.agg #[.bool rp, .int .u16 (id : Int), .int .u16 (sq : Int), .slice A n c]] W fun e w' => e = .returned (.int .u8 1) ∧ Kp W w' := by
  go_enter Try.func48, Try.ntmps48
  go_wp2
  go_ret
  exact ⟨rfl, (Kp.refl _).alloc _⟩
theorem proto8_g (W : World) (sp dp : Nat) (A : Option Addr) (n c : Nat) : Calls Try.prog 49 #[.agg #[.int .u16 (sp : Int), .int .u16 (dp : Int), .slice A n c]] W fun e w' => e = .returned (.int .u8 17) ∧ Kp W w' := by
  go_enter Try.func49, Try.ntmps49
  go_wp2
  go_ret
  exact ⟨rfl, (Kp.refl _).alloc _⟩
theorem mt8_e (v : Value) (W : World) : (method 195 25 v "Proto").run Try.prog W = .ok (48, v) W := by kernel_rfl
theorem mt8_g (v : Value) (W : World) : (method 195 43 v "Proto").run Try.prog W = .ok (49, v) W := by kernel_rfl
/-- what a function makes of a slice of these bytes -/
def StR.mk8 (f : Option Addr → Nat → Value) (n : Nat) (l : List UInt8) : StR Keep.kp := ⟨fun v W => ∃ A c, v = f A c ∧ Rd W 0 A n l, fun _ _ _ ⟨A, c, h1, h2⟩ k => ⟨A, c, h1, h2.keep k⟩⟩
noncomputable def backephi (b4' : Nat) (a0 a1 a2 a3 b0 b1 b2 b3 : UInt8) (rp : Bool) (id sq : Nat) (A2 : Option Addr) (c2 dl N g cap : Nat) (data : List UInt8) : Nat → StR Keep.kp := fun i => ([StR.val (.iface 25 (.agg #[.bool rp, .int .u16 (id : Int), .int .u16 (sq : Int), .slice A2 dl c2])),
  StR.val (.int .u8 1),
  StR.val (.pointer (some ⟨b4', 0, none⟩)),
  StR.val (.agg #[.int .u8 (a0.toNat : Int), .int .u8 (a1.toNat : Int), .int .u8 (a2.toNat : Int), .int .u8 (a3.toNat : Int)]),
  StR.val (.pointer (some ⟨b4', 4, none⟩)),
  StR.val (.agg #[.int .u8 (b0.toNat : Int), .int .u8 (b1.toNat : Int), .int .u8 (b2.toNat : Int), .int .u8 (b3.toNat : Int)]),
  StR.val (.slice (some ⟨g, 0, none⟩) N cap),
  StR.mk8 (fun A c => .tuple #[.iface 25 (.agg #[.bool rp, .int .u16 (id : Int), .int .u16 (sq : Int), .slice A dl c]), .int .i64 0]) dl data,
  StR.mk8 (fun A c => .tuple #[.iface 25 (.agg #[.bool rp, .int .u16 (id : Int), .int .u16 (sq : Int), .slice A dl c]), .int .i64 0]) dl data,
  StR.mk8 (fun A c => .iface 25 (.agg #[.bool rp, .int .u16 (id : Int), .int .u16 (sq : Int), .slice A dl c])) dl data,
  StR.val (.int .i64 0),
  StR.mk8 (fun A c => .iface 25 (.agg #[.bool rp, .int .u16 (id : Int), .int .u16 (sq : Int), .slice A dl c])) dl data,
  StR.val (.int .i64 0)] : List (StR Keep.kp)).getD i StR.any
noncomputable def backgphi (b4' : Nat) (a0 a1 a2 a3 b0 b1 b2 b3 : UInt8) (sp dp : Nat) (A2 : Option Addr) (c2 dl N g cap : Nat) (data : List UInt8) : Nat → StR Keep.kp := fun i => ([StR.val (.iface 43 (.agg #[.int .u16 (sp : Int), .int .u16 (dp : Int), .slice A2 dl c2])),
  StR.val (.int .u8 17),
  StR.val (.pointer (some ⟨b4', 0, none⟩)),
  StR.val (.agg #[.int .u8 (a0.toNat : Int), .int .u8 (a1.toNat : Int), .int .u8 (a2.toNat : Int), .int .u8 (a3.toNat : Int)]),
  StR.val (.pointer (some ⟨b4', 4, none⟩)),
  StR.val (.agg #[.int .u8 (b0.toNat : Int), .int .u8 (b1.toNat : Int), .int .u8 (b2.toNat : Int), .int .u8 (b3.toNat : Int)]),
  StR.val (.slice (some ⟨g, 0, none⟩) N cap),
  StR.mk8 (fun A c => .tuple #[.iface 43 (.agg #[.int .u16 (sp : Int), .int .u16 (dp : Int), .slice A dl c]), .int .i64 0]) dl data,
  StR.mk8 (fun A c => .tuple #[.iface 43 (.agg #[.int .u16 (sp : Int), .int .u16 (dp : Int), .slice A dl c]), .int .i64 0]) dl data,
  StR.mk8 (fun A c => .iface 43 (.agg #[.int .u16 (sp : Int), .int .u16 (dp : Int), .slice A dl c])) dl data,
  StR.val (.int .i64 0),
  StR.mk8 (fun A c => .iface 43 (.agg #[.int .u16 (sp : Int), .int .u16 (dp : Int), .slice A dl c])) dl data,
  StR.val (.int .i64 0)] : List (StR Keep.kp)).getD i StR.any

set_option maxRecDepth 100000 in
set_option maxHeartbeats 4000000 in
theorem back8_e (w : World) (A : Option Addr) (n c : Nat) (l : List UInt8) (a0 a1 a2 a3 b0 b1 b2 b3 : UInt8) (hA : Rd w 0 A n l) (hok : SlOk A n c) (hn : ¬ 1000 < n) :
    Calls Try.prog 9 #[.int .u8 1, .agg #[.int .u8 (a0.toNat : Int), .int .u8 (a1.toNat : Int), .int .u8 (a2.toNat : Int), .int .u8 (a3.toNat : Int), .int .u8 (b0.toNat : Int), .int .u8 (b1.toNat : Int), .int .u8 (b2.toNat : Int), .int .u8 (b3.toNat : Int)], .slice A n c] w fun e w' => e = .returned (.bool true) ∧ Kp w w' := by
  have hL := hA.len
  have hK0 : Kp w (w.alloc (.cells #[.int .u8 (a0.toNat : Int), .int .u8 (a1.toNat : Int), .int .u8 (a2.toNat : Int), .int .u8 (a3.toNat : Int), .int .u8 (b0.toNat : Int), .int .u8 (b1.toNat : Int), .int .u8 (b2.toNat : Int), .int .u8 (b3.toNat : Int)] 29)) := (Kp.refl w).alloc _
  have HK0 := Lib.hid hK0
  have HA := Lib.hid (hA.keep hK0)
  have HOK := Lib.hid hok
  have KE := Lib.hid (cellsEB w a0 a1 a2 a3 b0 b1 b2 b3)
  have HL1 : l.length ≤ n ∧ n ≤ l.length := by omega
  have i2 : ¬ (1200 : Int) < (n : Int) := by omega
  clear hA hok hK0 hL
  go_enter Try.func9, Try.ntmps9
  go_wp2_with fail
  refine (lives8_any _).mono ?_
  rintro e w1 ⟨rfl, hk1⟩
  have HK1 := Lib.hid hk1
  clear hk1
  obtain ⟨⟨x0, x1, x2, x3⟩, ⟨y0, y1, y2, y3⟩⟩ := KE.out _ HK1.out
  go_wp2_with fail
  refine (o8_e _ a0 a1 a2 a3 b0 b1 b2 b3 A n c l (HA.out.keep HK1.out) HOK.out (by omega)).mono ?_
  clear x0 x1 x2 x3 y0 y1 y2 y3
  rintro e w2 (⟨k, hk0, hko, hk2, rfl⟩ | ⟨rp, id, sq, data, hko, hb1, hb2, _, hk2, A2, c2, rfl, hr, hok2⟩)
  · have hk0' : (k != 0) = true := by simpa using hk0
    have HK2 := Lib.hid (HK0.out.trans (HK1.out.trans hk2))
    clear hk0 hk2 hko
    go_wp2
    go_ret
    exact ⟨rfl, HK2.out⟩
  · have hdl := outE_len l rp id sq data hko
    have HK2 := Lib.hid (HK1.out.trans hk2)
    have HR : Hid (Rd w2 0 A2 data.length data) := Lib.hid hr.lo0
    have HBK := Lib.hid (outE_ebytes rp id sq data hb1 hb2)
    have hdn : 8 + data.length ≤ n := by omega
    clear hk2 hr hko hdl
    obtain ⟨⟨x0, x1, x2, x3⟩, ⟨y0, y1, y2, y3⟩⟩ := KE.out _ HK2.out
    go_wp2_with fail
    refine (b8e_ok _ rp id sq A2 data.length c2 data a0 a1 a2 a3 b0 b1 b2 b3 hb1 hb2 (by omega) HR.out).mono ?_
    clear x0 x1 x2 x3 y0 y1 y2 y3
    rintro e w3 ⟨hk3, g, cap, rfl, hown⟩
    obtain ⟨N, hN⟩ : ∃ N, 8 + data.length = N := ⟨_, rfl⟩
    rw [hN] at hown hdn ⊢
    have hN2 : N ≤ 1000 := by omega
    have hcmp : (N : Int) ≤ (n : Int) := by omega
    have HK3 := Lib.hid (HK2.out.trans hk3)
    have HR3 := Lib.hid (HR.out.keep hk3)
    have HO := Lib.hid hown.rd0
    have HOS := Lib.hid hown.slOk
    obtain ⟨dl, hdl⟩ : ∃ dl, data.length = dl := ⟨_, rfl⟩
    have HDL := Lib.hid hdl
    rw [hdl] at HR3 ⊢
    clear hk3 hown hN hdl HR
    obtain ⟨pb, hpb⟩ : ∃ pb, ebytes rp id sq data = pb := ⟨_, rfl⟩
    rw [hpb] at HO
    have hB : outE pb = .inr (rp, id, sq, data) := by rw [← hpb]; exact HBK.out
    have HB := Lib.hid hB
    clear hpb hB HBK
    have OP : Hid (∀ W, Kp w3 W → Calls Try.prog 13 #[.int .u8 1, .agg #[.int .u8 (a0.toNat : Int), .int .u8 (a1.toNat : Int), .int .u8 (a2.toNat : Int), .int .u8 (a3.toNat : Int)], .agg #[.int .u8 (b0.toNat : Int), .int .u8 (b1.toNat : Int), .int .u8 (b2.toNat : Int), .int .u8 (b3.toNat : Int)], .slice (some ⟨g, 0, none⟩) N cap] W fun e w' => Kp W w' ∧ ∃ A c, e = .returned (.tuple #[.iface 25 (.agg #[.bool rp, .int .u16 (id : Int), .int .u16 (sq : Int), .slice A dl c]), .int .i64 0]) ∧ Rd w' 0 A dl data) := Lib.hid fun W hk => by
      refine (o8_e W a0 a1 a2 a3 b0 b1 b2 b3 _ N cap pb (HO.out.keep hk) HOS.out (by omega)).mono ?_
      rintro e w' (⟨k', _, hk', _⟩ | ⟨rp', id', sq', data', hs', _, _, _, hk4, A4, c4, rfl, hr4, _⟩)
      · rw [HB.out] at hk'; cases hk'
      · rw [HB.out] at hs'
        injection hs' with hs'
        injection hs' with h1 hs'
        injection hs' with h2 hs'
        injection hs' with h3 h4
        subst h1 h2 h3 h4
        rw [HDL.out] at hr4 ⊢
        exact ⟨hk4, A4, c4, rfl, hr4.lo0⟩
    have PR : Hid (∀ W, Calls Try.prog 48 #[.agg #[.bool rp, .int .u16 (id : Int), .int .u16 (sq : Int), .slice A2 dl c2]] W fun e w' => e = .returned (.int .u8 1) ∧ Kp W w') := Lib.hid fun W => proto8_e W _ _ _ _ _ _
    obtain ⟨b4', hb4⟩ : ∃ b, w.heap.size = b := ⟨_, rfl⟩
    have KCA : Hid (∀ W, Kp w3 W → _) := Lib.hid fun W hk => KE.out W (HK3.out.trans hk)
    have KC := KCA.out
    rw [hb4] at KC
    have HK00 := Lib.hid (HK0.out.trans HK3.out)
    have KCH := Lib.hid KC
    clear KC KCA HK0 HK1 HK2 HK3 KE HO HOS HB HA HOK
    go_wp2_with fail
    have KC := KCH.out
    refine wp_region_stepsR (by kernel_rfl) 13 (backephi b4' a0 a1 a2 a3 b0 b1 b2 b3 rp id sq A2 c2 dl N g cap data) [45, 46, 47, 48, 49, 50, 51, 52, 44, 53, 54, 11, 12] (by kernel_rfl) (by kernel_rfl) ⟨?_, ?_, ?_, ?_, ?_, ?_, ?_, ?_, ?_, ?_, ?_, ?_, ?_, trivial⟩ ?_
    · refine stepR_free rfl ?_
      intro a W hW hO hφ K hK
      have q7 : a.tmps.getD 7 undef = (.iface 25 (.agg #[.bool rp, .int .u16 (id : Int), .int .u16 (sq : Int), .slice A2 dl c2])) := hO 7 (by kernel_rfl)
      have r7 := q7
      rw [Array.getD_eq_getD_getElem?] at r7
      clear hO hφ
      clear KC OP PR
      go_simp
      exact hK _ _ (Kp.refl _) rfl
    · refine stepR_free rfl ?_
      intro a W hW hO hφ K hK
      have q45 : a.tmps.getD 45 undef = (.iface 25 (.agg #[.bool rp, .int .u16 (id : Int), .int .u16 (sq : Int), .slice A2 dl c2])) := hφ ⟨0, .data⟩ (by simp) rfl
      have r45 := q45
      rw [Array.getD_eq_getD_getElem?] at r45
      clear hO hφ
      clear KC OP
      have mt := mt8_e
      go_simp
      go_at_call 48
      refine (PR.out W).mono ?_
      rintro e w' ⟨rfl, hk⟩
      exact hK _ _ hk rfl
    · refine stepR_free rfl ?_
      intro a W hW hO hφ K hK
      have q4 : a.tmps.getD 4 undef = (.pointer (some ⟨b4', 0, none⟩)) := hO 4 (by kernel_rfl)
      have r4 := q4
      rw [Array.getD_eq_getD_getElem?] at r4
      clear hO hφ
      clear KC OP PR
      go_simp
      exact hK _ _ (Kp.refl _) rfl
    · refine stepR_free rfl ?_
      intro a W hW hO hφ K hK
      have q47 : a.tmps.getD 47 undef = (.pointer (some ⟨b4', 0, none⟩)) := hφ ⟨2, .data⟩ (by simp) rfl
      have r47 := q47
      rw [Array.getD_eq_getD_getElem?] at r47
      clear hO hφ
      obtain ⟨⟨x0, x1, x2, x3⟩, ⟨y0, y1, y2, y3⟩⟩ := KC W (Kp.trans ((Kp.refl _).drew) hW)
      clear KC OP PR
      go_simp
      exact hK _ _ (Kp.refl _) rfl
    · refine stepR_free rfl ?_
      intro a W hW hO hφ K hK
      have q4 : a.tmps.getD 4 undef = (.pointer (some ⟨b4', 0, none⟩)) := hO 4 (by kernel_rfl)
      have r4 := q4
      rw [Array.getD_eq_getD_getElem?] at r4
      clear hO hφ
      clear KC OP PR
      go_simp
      exact hK _ _ (Kp.refl _) rfl
    · refine stepR_free rfl ?_
      intro a W hW hO hφ K hK
      have q49 : a.tmps.getD 49 undef = (.pointer (some ⟨b4', 4, none⟩)) := hφ ⟨4, .data⟩ (by simp) rfl
      have r49 := q49
      rw [Array.getD_eq_getD_getElem?] at r49
      clear hO hφ
      obtain ⟨⟨x0, x1, x2, x3⟩, ⟨y0, y1, y2, y3⟩⟩ := KC W (Kp.trans ((Kp.refl _).drew) hW)
      clear KC OP PR
      go_simp
      exact hK _ _ (Kp.refl _) rfl
    · refine stepR_free rfl ?_
      intro a W hW hO hφ K hK
      have q9 : a.tmps.getD 9 undef = (.slice (some ⟨g, 0, none⟩) N cap) := hO 9 (by kernel_rfl)
      have r9 := q9
      rw [Array.getD_eq_getD_getElem?] at r9
      clear hO hφ
      clear KC OP PR
      go_simp
      exact hK _ _ (Kp.refl _) rfl
    · refine stepR_free rfl ?_
      intro a W hW hO hφ K hK
      have q46 : a.tmps.getD 46 undef = (.int .u8 1) := hφ ⟨1, .data⟩ (by simp) rfl
      have q48 : a.tmps.getD 48 undef = (.agg #[.int .u8 (a0.toNat : Int), .int .u8 (a1.toNat : Int), .int .u8 (a2.toNat : Int), .int .u8 (a3.toNat : Int)]) := hφ ⟨3, .data⟩ (by simp) rfl
      have q50 : a.tmps.getD 50 undef = (.agg #[.int .u8 (b0.toNat : Int), .int .u8 (b1.toNat : Int), .int .u8 (b2.toNat : Int), .int .u8 (b3.toNat : Int)]) := hφ ⟨5, .data⟩ (by simp) rfl
      have q51 : a.tmps.getD 51 undef = (.slice (some ⟨g, 0, none⟩) N cap) := hφ ⟨6, .data⟩ (by simp) rfl
      have r46 := q46
      rw [Array.getD_eq_getD_getElem?] at r46
      have r48 := q48
      rw [Array.getD_eq_getD_getElem?] at r48
      have r50 := q50
      rw [Array.getD_eq_getD_getElem?] at r50
      have r51 := q51
      rw [Array.getD_eq_getD_getElem?] at r51
      clear hO hφ
      clear KC PR
      go_simp
      go_at_call 13
      refine (OP.out W (Kp.trans ((Kp.refl _).drew) hW)).mono ?_
      rintro e w' ⟨hk, Aq, cq, rfl, hr⟩
      exact hK _ _ hk ⟨_, _, rfl, hr⟩
    · refine stepR_free rfl ?_
      intro a W hW hO hφ K hK
      have q52 : (StR.mk8 (fun A c => .tuple #[.iface 25 (.agg #[.bool rp, .int .u16 (id : Int), .int .u16 (sq : Int), .slice A dl c]), .int .i64 0]) dl data).p (a.tmps.getD 52 undef) W := hφ ⟨7, .data⟩ (by simp) rfl
      clear hO hφ
      clear KC OP PR
      obtain ⟨Aq, cq, q52', hr⟩ := q52
      have r52 := q52'
      rw [Array.getD_eq_getD_getElem?] at r52
      clear q52'
      go_simp
      exact hK _ _ (Kp.refl _) ⟨_, _, rfl, hr⟩
    · refine stepR_free rfl ?_
      intro a W hW hO hφ K hK
      have q44 : (StR.mk8 (fun A c => .tuple #[.iface 25 (.agg #[.bool rp, .int .u16 (id : Int), .int .u16 (sq : Int), .slice A dl c]), .int .i64 0]) dl data).p (a.tmps.getD 44 undef) W := hφ ⟨8, .data⟩ (by simp) rfl
      clear hO hφ
      clear KC OP PR
      obtain ⟨Aq, cq, q44', hr⟩ := q44
      have r44 := q44'
      rw [Array.getD_eq_getD_getElem?] at r44
      clear q44'
      go_simp
      exact hK _ _ (Kp.refl _) ⟨_, _, rfl, hr⟩
    · refine stepR_free rfl ?_
      intro a W hW hO hφ K hK
      have q44 : (StR.mk8 (fun A c => .tuple #[.iface 25 (.agg #[.bool rp, .int .u16 (id : Int), .int .u16 (sq : Int), .slice A dl c]), .int .i64 0]) dl data).p (a.tmps.getD 44 undef) W := hφ ⟨8, .data⟩ (by simp) rfl
      clear hO hφ
      clear KC OP PR
      obtain ⟨Aq, cq, q44', hr⟩ := q44
      have r44 := q44'
      rw [Array.getD_eq_getD_getElem?] at r44
      clear q44'
      go_simp
      exact hK _ _ (Kp.refl _) rfl
    · refine stepR_free rfl ?_
      intro a W hW hO hφ K hK
      have q53 : (StR.mk8 (fun A c => .iface 25 (.agg #[.bool rp, .int .u16 (id : Int), .int .u16 (sq : Int), .slice A dl c])) dl data).p (a.tmps.getD 53 undef) W := hφ ⟨9, .data⟩ (by simp) rfl
      clear hO hφ
      clear KC OP PR
      obtain ⟨Aq, cq, q53', hr⟩ := q53
      have r53 := q53'
      rw [Array.getD_eq_getD_getElem?] at r53
      clear q53'
      go_simp
      exact hK _ _ (Kp.refl _) ⟨_, _, rfl, hr⟩
    · refine stepR_free rfl ?_
      intro a W hW hO hφ K hK
      have q54 : a.tmps.getD 54 undef = (.int .i64 0) := hφ ⟨10, .data⟩ (by simp) rfl
      have r54 := q54
      rw [Array.getD_eq_getD_getElem?] at r54
      clear hO hφ
      clear KC OP PR
      go_simp
      exact hK _ _ (Kp.refl _) rfl
    intro f W hW hφ
    have v0 : f 0 = (.iface 25 (.agg #[.bool rp, .int .u16 (id : Int), .int .u16 (sq : Int), .slice A2 dl c2])) := hφ 0 (by omega)
    have v1 : f 1 = (.int .u8 1) := hφ 1 (by omega)
    have v2 : f 2 = (.pointer (some ⟨b4', 0, none⟩)) := hφ 2 (by omega)
    have v3 : f 3 = (.agg #[.int .u8 (a0.toNat : Int), .int .u8 (a1.toNat : Int), .int .u8 (a2.toNat : Int), .int .u8 (a3.toNat : Int)]) := hφ 3 (by omega)
    have v4 : f 4 = (.pointer (some ⟨b4', 4, none⟩)) := hφ 4 (by omega)
    have v5 : f 5 = (.agg #[.int .u8 (b0.toNat : Int), .int .u8 (b1.toNat : Int), .int .u8 (b2.toNat : Int), .int .u8 (b3.toNat : Int)]) := hφ 5 (by omega)
    have v6 : f 6 = (.slice (some ⟨g, 0, none⟩) N cap) := hφ 6 (by omega)
    have v7 : (StR.mk8 (fun A c => .tuple #[.iface 25 (.agg #[.bool rp, .int .u16 (id : Int), .int .u16 (sq : Int), .slice A dl c]), .int .i64 0]) dl data).p (f 7) W := hφ 7 (by omega)
    have v8 : (StR.mk8 (fun A c => .tuple #[.iface 25 (.agg #[.bool rp, .int .u16 (id : Int), .int .u16 (sq : Int), .slice A dl c]), .int .i64 0]) dl data).p (f 8) W := hφ 8 (by omega)
    have v9 : (StR.mk8 (fun A c => .iface 25 (.agg #[.bool rp, .int .u16 (id : Int), .int .u16 (sq : Int), .slice A dl c])) dl data).p (f 9) W := hφ 9 (by omega)
    have v10 : f 10 = (.int .i64 0) := hφ 10 (by omega)
    have v11 : (StR.mk8 (fun A c => .iface 25 (.agg #[.bool rp, .int .u16 (id : Int), .int .u16 (sq : Int), .slice A dl c])) dl data).p (f 11) W := hφ 11 (by omega)
    have v12 : f 12 = (.int .i64 0) := hφ 12 (by omega)
    clear hφ
    simp only [putAll, List.setIfInBounds_toArray, List.set_cons_succ, List.set_cons_zero, v0, v1, v2, v3, v4, v5, v6, v10, v12]
    clear v0 v1 v2 v3 v4 v5 v6 v10 v12
    refine wpAny_done (by kernel_rfl) ?_ _
    have hkA : Kp w3 W := Kp.trans ((Kp.refl _).drew) hW
    obtain ⟨A4, c4, h11, hr4⟩ := v11
    rw [h11]
    have HKA := Lib.hid hkA
    have HR4 := Lib.hid hr4
    clear hW KC OP hkA h11 hr4 v7 v8 v9
    have mt := mt8_e
    go_wp2_with fail
    refine (PR.out _).mono ?_
    rintro e w5 ⟨rfl, hk5⟩
    have HK5 := Lib.hid (HKA.out.trans hk5)
    have HR5 := Lib.hid (HR4.out.keep hk5)
    clear hk5
    go_wp2_with fail
    refine (s8_ee _ rp id sq A2 dl c2 data rp id sq A4 dl c4 data (HR3.out.keep HK5.out) HR5.out).mono ?_
    rintro e w6 ⟨rfl, hk6⟩
    rw [sameE_self]
    go_wp2
    go_ret
    exact ⟨rfl, HK00.out.trans (HK5.out.trans hk6)⟩

set_option maxRecDepth 100000 in
set_option maxHeartbeats 4000000 in
theorem back8_g (w : World) (A : Option Addr) (n c : Nat) (l : List UInt8) (a0 a1 a2 a3 b0 b1 b2 b3 : UInt8) (hA : Rd w 0 A n l) (hok : SlOk A n c) (hn : ¬ 1000 < n) :
    Calls Try.prog 9 #[.int .u8 17, .agg #[.int .u8 (a0.toNat : Int), .int .u8 (a1.toNat : Int), .int .u8 (a2.toNat : Int), .int .u8 (a3.toNat : Int), .int .u8 (b0.toNat : Int), .int .u8 (b1.toNat : Int), .int .u8 (b2.toNat : Int), .int .u8 (b3.toNat : Int)], .slice A n c] w fun e w' => e = .returned (.bool true) ∧ Kp w w' := by
  have hL := hA.len
  have hK0 : Kp w (w.alloc (.cells #[.int .u8 (a0.toNat : Int), .int .u8 (a1.toNat : Int), .int .u8 (a2.toNat : Int), .int .u8 (a3.toNat : Int), .int .u8 (b0.toNat : Int), .int .u8 (b1.toNat : Int), .int .u8 (b2.toNat : Int), .int .u8 (b3.toNat : Int)] 29)) := (Kp.refl w).alloc _
  have HK0 := Lib.hid hK0
  have HA := Lib.hid (hA.keep hK0)
  have HOK := Lib.hid hok
  have KE := Lib.hid (cellsEB w a0 a1 a2 a3 b0 b1 b2 b3)
  have HL1 : l.length ≤ n ∧ n ≤ l.length := by omega
  have i2 : ¬ (1200 : Int) < (n : Int) := by omega
  clear hA hok hK0 hL
  go_enter Try.func9, Try.ntmps9
  go_wp2_with fail
  refine (lives8_any _).mono ?_
  rintro e w1 ⟨rfl, hk1⟩
  have HK1 := Lib.hid hk1
  clear hk1
  obtain ⟨⟨x0, x1, x2, x3⟩, ⟨y0, y1, y2, y3⟩⟩ := KE.out _ HK1.out
  go_wp2_with fail
  refine (o8_g _ a0 a1 a2 a3 b0 b1 b2 b3 A n c l (HA.out.keep HK1.out) HOK.out (by omega)).mono ?_
  clear x0 x1 x2 x3 y0 y1 y2 y3
  rintro e w2 (⟨k, hk0, hko, hk2, rfl⟩ | ⟨sp, dp, data, hko, hb1, hb2, _, hk2, A2, c2, rfl, hr, hok2⟩)
  · have hk0' : (k != 0) = true := by simpa using hk0
    have HK2 := Lib.hid (HK0.out.trans (HK1.out.trans hk2))
    clear hk0 hk2 hko
    go_wp2
    go_ret
    exact ⟨rfl, HK2.out⟩
  · have hdl := outG_len [a0, a1, a2, a3] [b0, b1, b2, b3] l sp dp data hko
    have HK2 := Lib.hid (HK1.out.trans hk2)
    have HR : Hid (Rd w2 0 A2 data.length data) := Lib.hid hr.lo0
    have HBK := Lib.hid (outG_gbytes [a0, a1, a2, a3] [b0, b1, b2, b3] rfl rfl sp dp data hb1 hb2 (by omega))
    have hdn : 8 + data.length ≤ n := by omega
    clear hk2 hr hko hdl
    obtain ⟨⟨x0, x1, x2, x3⟩, ⟨y0, y1, y2, y3⟩⟩ := KE.out _ HK2.out
    go_wp2_with fail
    refine (b8g_ok _ sp dp A2 data.length c2 data a0 a1 a2 a3 b0 b1 b2 b3 hb1 hb2 (by omega) HR.out).mono ?_
    clear x0 x1 x2 x3 y0 y1 y2 y3
    rintro e w3 ⟨hk3, g, cap, rfl, hown⟩
    obtain ⟨N, hN⟩ : ∃ N, 8 + data.length = N := ⟨_, rfl⟩
    rw [hN] at hown hdn ⊢
    have hN2 : N ≤ 1000 := by omega
    have hcmp : (N : Int) ≤ (n : Int) := by omega
    have HK3 := Lib.hid (HK2.out.trans hk3)
    have HR3 := Lib.hid (HR.out.keep hk3)
    have HO := Lib.hid hown.rd0
    have HOS := Lib.hid hown.slOk
    obtain ⟨dl, hdl⟩ : ∃ dl, data.length = dl := ⟨_, rfl⟩
    have HDL := Lib.hid hdl
    rw [hdl] at HR3 ⊢
    clear hk3 hown hN hdl HR
    obtain ⟨pb, hpb⟩ : ∃ pb, gbytes [a0, a1, a2, a3] [b0, b1, b2, b3] sp dp data = pb := ⟨_, rfl⟩
    rw [hpb] at HO
    have hB : outG [a0, a1, a2, a3] [b0, b1, b2, b3] pb = .inr (sp, dp, data) := by rw [← hpb]; exact HBK.out
    have HB := Lib.hid hB
    clear hpb hB HBK
    have OP : Hid (∀ W, Kp w3 W → Calls Try.prog 13 #[.int .u8 17, .agg #[.int .u8 (a0.toNat : Int), .int .u8 (a1.toNat : Int), .int .u8 (a2.toNat : Int), .int .u8 (a3.toNat : Int)], .agg #[.int .u8 (b0.toNat : Int), .int .u8 (b1.toNat : Int), .int .u8 (b2.toNat : Int), .int .u8 (b3.toNat : Int)], .slice (some ⟨g, 0, none⟩) N cap] W fun e w' => Kp W w' ∧ ∃ A c, e = .returned (.tuple #[.iface 43 (.agg #[.int .u16 (sp : Int), .int .u16 (dp : Int), .slice A dl c]), .int .i64 0]) ∧ Rd w' 0 A dl data) := Lib.hid fun W hk => by
      refine (o8_g W a0 a1 a2 a3 b0 b1 b2 b3 _ N cap pb (HO.out.keep hk) HOS.out (by omega)).mono ?_
      rintro e w' (⟨k', _, hk', _⟩ | ⟨sp', dp', data', hs', _, _, _, hk4, A4, c4, rfl, hr4, _⟩)
      · rw [HB.out] at hk'; cases hk'
      · rw [HB.out] at hs'
        injection hs' with hs'
        injection hs' with h1 hs'
        injection hs' with h2 h3
        subst h1 h2 h3
        rw [HDL.out] at hr4 ⊢
        exact ⟨hk4, A4, c4, rfl, hr4.lo0⟩
    have PR : Hid (∀ W, Calls Try.prog 49 #[.agg #[.int .u16 (sp : Int), .int .u16 (dp : Int), .slice A2 dl c2]] W fun e w' => e = .returned (.int .u8 17) ∧ Kp W w') := Lib.hid fun W => proto8_g W _ _ _ _ _
    obtain ⟨b4', hb4⟩ : ∃ b, w.heap.size = b := ⟨_, rfl⟩
    have KCA : Hid (∀ W, Kp w3 W → _) := Lib.hid fun W hk => KE.out W (HK3.out.trans hk)
    have KC := KCA.out
    rw [hb4] at KC
    have HK00 := Lib.hid (HK0.out.trans HK3.out)
    have KCH := Lib.hid KC
    clear KC KCA HK0 HK1 HK2 HK3 KE HO HOS HB HA HOK
    go_wp2_with fail
    have KC := KCH.out
    refine wp_region_stepsR (by kernel_rfl) 13 (backgphi b4' a0 a1 a2 a3 b0 b1 b2 b3 sp dp A2 c2 dl N g cap data) [45, 46, 47, 48, 49, 50, 51, 52, 44, 53, 54, 11, 12] (by kernel_rfl) (by kernel_rfl) ⟨?_, ?_, ?_, ?_, ?_, ?_, ?_, ?_, ?_, ?_, ?_, ?_, ?_, trivial⟩ ?_
    · refine stepR_free rfl ?_
      intro a W hW hO hφ K hK
      have q7 : a.tmps.getD 7 undef = (.iface 43 (.agg #[.int .u16 (sp : Int), .int .u16 (dp : Int), .slice A2 dl c2])) := hO 7 (by kernel_rfl)
      have r7 := q7
      rw [Array.getD_eq_getD_getElem?] at r7
      clear hO hφ
      clear KC OP PR
      go_simp
      exact hK _ _ (Kp.refl _) rfl
    · refine stepR_free rfl ?_
      intro a W hW hO hφ K hK
      have q45 : a.tmps.getD 45 undef = (.iface 43 (.agg #[.int .u16 (sp : Int), .int .u16 (dp : Int), .slice A2 dl c2])) := hφ ⟨0, .data⟩ (by simp) rfl
      have r45 := q45
      rw [Array.getD_eq_getD_getElem?] at r45
      clear hO hφ
      clear KC OP
      have mt := mt8_g
      go_simp
      go_at_call 49
      refine (PR.out W).mono ?_
      rintro e w' ⟨rfl, hk⟩
      exact hK _ _ hk rfl
    · refine stepR_free rfl ?_
      intro a W hW hO hφ K hK
      have q4 : a.tmps.getD 4 undef = (.pointer (some ⟨b4', 0, none⟩)) := hO 4 (by kernel_rfl)
      have r4 := q4
      rw [Array.getD_eq_getD_getElem?] at r4
      clear hO hφ
      clear KC OP PR
      go_simp
      exact hK _ _ (Kp.refl _) rfl
    · refine stepR_free rfl ?_
      intro a W hW hO hφ K hK
      have q47 : a.tmps.getD 47 undef = (.pointer (some ⟨b4', 0, none⟩)) := hφ ⟨2, .data⟩ (by simp) rfl
      have r47 := q47
      rw [Array.getD_eq_getD_getElem?] at r47
      clear hO hφ
      obtain ⟨⟨x0, x1, x2, x3⟩, ⟨y0, y1, y2, y3⟩⟩ := KC W (Kp.trans ((Kp.refl _).drew) hW)
      clear KC OP PR
      go_simp
      exact hK _ _ (Kp.refl _) rfl
    · refine stepR_free rfl ?_
      intro a W hW hO hφ K hK
      have q4 : a.tmps.getD 4 undef = (.pointer (some ⟨b4', 0, none⟩)) := hO 4 (by kernel_rfl)
      have r4 := q4
      rw [Array.getD_eq_getD_getElem?] at r4
      clear hO hφ
      clear KC OP PR
      go_simp
      exact hK _ _ (Kp.refl _) rfl
    · refine stepR_free rfl ?_
      intro a W hW hO hφ K hK
      have q49 : a.tmps.getD 49 undef = (.pointer (some ⟨b4', 4, none⟩)) := hφ ⟨4, .data⟩ (by simp) rfl
      have r49 := q49
      rw [Array.getD_eq_getD_getElem?] at r49
      clear hO hφ
      obtain ⟨⟨x0, x1, x2, x3⟩, ⟨y0, y1, y2, y3⟩⟩ := KC W (Kp.trans ((Kp.refl _).drew) hW)
      clear KC OP PR
      go_simp
      exact hK _ _ (Kp.refl _) rfl
    · refine stepR_free rfl ?_
      intro a W hW hO hφ K hK
      have q9 : a.tmps.getD 9 undef = (.slice (some ⟨g, 0, none⟩) N cap) := hO 9 (by kernel_rfl)
      have r9 := q9
      rw [Array.getD_eq_getD_getElem?] at r9
      clear hO hφ
      clear KC OP PR
      go_simp
      exact hK _ _ (Kp.refl _) rfl
    · refine stepR_free rfl ?_
      intro a W hW hO hφ K hK
      have q46 : a.tmps.getD 46 undef = (.int .u8 17) := hφ ⟨1, .data⟩ (by simp) rfl
      have q48 : a.tmps.getD 48 undef = (.agg #[.int .u8 (a0.toNat : Int), .int .u8 (a1.toNat : Int), .int .u8 (a2.toNat : Int), .int .u8 (a3.toNat : Int)]) := hφ ⟨3, .data⟩ (by simp) rfl
      have q50 : a.tmps.getD 50 undef = (.agg #[.int .u8 (b0.toNat : Int), .int .u8 (b1.toNat : Int), .int .u8 (b2.toNat : Int), .int .u8 (b3.toNat : Int)]) := hφ ⟨5, .data⟩ (by simp) rfl
      have q51 : a.tmps.getD 51 undef = (.slice (some ⟨g, 0, none⟩) N cap) := hφ ⟨6, .data⟩ (by simp) rfl
      have r46 := q46
      rw [Array.getD_eq_getD_getElem?] at r46
      have r48 := q48
      rw [Array.getD_eq_getD_getElem?] at r48
      have r50 := q50
      rw [Array.getD_eq_getD_getElem?] at r50
      have r51 := q51
      rw [Array.getD_eq_getD_getElem?] at r51
      clear hO hφ
      clear KC PR
      go_simp
      go_at_call 13
      refine (OP.out W (Kp.trans ((Kp.refl _).drew) hW)).mono ?_
      rintro e w' ⟨hk, Aq, cq, rfl, hr⟩
      exact hK _ _ hk ⟨_, _, rfl, hr⟩
    · refine stepR_free rfl ?_
      intro a W hW hO hφ K hK
      have q52 : (StR.mk8 (fun A c => .tuple #[.iface 43 (.agg #[.int .u16 (sp : Int), .int .u16 (dp : Int), .slice A dl c]), .int .i64 0]) dl data).p (a.tmps.getD 52 undef) W := hφ ⟨7, .data⟩ (by simp) rfl
      clear hO hφ
      clear KC OP PR
      obtain ⟨Aq, cq, q52', hr⟩ := q52
      have r52 := q52'
      rw [Array.getD_eq_getD_getElem?] at r52
      clear q52'
      go_simp
      exact hK _ _ (Kp.refl _) ⟨_, _, rfl, hr⟩
    · refine stepR_free rfl ?_
      intro a W hW hO hφ K hK
      have q44 : (StR.mk8 (fun A c => .tuple #[.iface 43 (.agg #[.int .u16 (sp : Int), .int .u16 (dp : Int), .slice A dl c]), .int .i64 0]) dl data).p (a.tmps.getD 44 undef) W := hφ ⟨8, .data⟩ (by simp) rfl
      clear hO hφ
      clear KC OP PR
      obtain ⟨Aq, cq, q44', hr⟩ := q44
      have r44 := q44'
      rw [Array.getD_eq_getD_getElem?] at r44
      clear q44'
      go_simp
      exact hK _ _ (Kp.refl _) ⟨_, _, rfl, hr⟩
    · refine stepR_free rfl ?_
      intro a W hW hO hφ K hK
      have q44 : (StR.mk8 (fun A c => .tuple #[.iface 43 (.agg #[.int .u16 (sp : Int), .int .u16 (dp : Int), .slice A dl c]), .int .i64 0]) dl data).p (a.tmps.getD 44 undef) W := hφ ⟨8, .data⟩ (by simp) rfl
      clear hO hφ
      clear KC OP PR
      obtain ⟨Aq, cq, q44', hr⟩ := q44
      have r44 := q44'
      rw [Array.getD_eq_getD_getElem?] at r44
      clear q44'
      go_simp
      exact hK _ _ (Kp.refl _) rfl
    · refine stepR_free rfl ?_
      intro a W hW hO hφ K hK
      have q53 : (StR.mk8 (fun A c => .iface 43 (.agg #[.int .u16 (sp : Int), .int .u16 (dp : Int), .slice A dl c])) dl data).p (a.tmps.getD 53 undef) W := hφ ⟨9, .data⟩ (by simp) rfl
      clear hO hφ
      clear KC OP PR
      obtain ⟨Aq, cq, q53', hr⟩ := q53
      have r53 := q53'
      rw [Array.getD_eq_getD_getElem?] at r53
      clear q53'
      go_simp
      exact hK _ _ (Kp.refl _) ⟨_, _, rfl, hr⟩
    · refine stepR_free rfl ?_
      intro a W hW hO hφ K hK
      have q54 : a.tmps.getD 54 undef = (.int .i64 0) := hφ ⟨10, .data⟩ (by simp) rfl
      have r54 := q54
      rw [Array.getD_eq_getD_getElem?] at r54
      clear hO hφ
      clear KC OP PR
      go_simp
      exact hK _ _ (Kp.refl _) rfl
    intro f W hW hφ
    have v0 : f 0 = (.iface 43 (.agg #[.int .u16 (sp : Int), .int .u16 (dp : Int), .slice A2 dl c2])) := hφ 0 (by omega)
    have v1 : f 1 = (.int .u8 17) := hφ 1 (by omega)
    have v2 : f 2 = (.pointer (some ⟨b4', 0, none⟩)) := hφ 2 (by omega)
    have v3 : f 3 = (.agg #[.int .u8 (a0.toNat : Int), .int .u8 (a1.toNat : Int), .int .u8 (a2.toNat : Int), .int .u8 (a3.toNat : Int)]) := hφ 3 (by omega)
    have v4 : f 4 = (.pointer (some ⟨b4', 4, none⟩)) := hφ 4 (by omega)
    have v5 : f 5 = (.agg #[.int .u8 (b0.toNat : Int), .int .u8 (b1.toNat : Int), .int .u8 (b2.toNat : Int), .int .u8 (b3.toNat : Int)]) := hφ 5 (by omega)
    have v6 : f 6 = (.slice (some ⟨g, 0, none⟩) N cap) := hφ 6 (by omega)
    have v7 : (StR.mk8 (fun A c => .tuple #[.iface 43 (.agg #[.int .u16 (sp : Int), .int .u16 (dp : Int), .slice A dl c]), .int .i64 0]) dl data).p (f 7) W := hφ 7 (by omega)
    have v8 : (StR.mk8 (fun A c => .tuple #[.iface 43 (.agg #[.int .u16 (sp : Int), .int .u16 (dp : Int), .slice A dl c]), .int .i64 0]) dl data).p (f 8) W := hφ 8 (by omega)
    have v9 : (StR.mk8 (fun A c => .iface 43 (.agg #[.int .u16 (sp : Int), .int .u16 (dp : Int), .slice A dl c])) dl data).p (f 9) W := hφ 9 (by omega)
    have v10 : f 10 = (.int .i64 0) := hφ 10 (by omega)
    have v11 : (StR.mk8 (fun A c => .iface 43 (.agg #[.int .u16 (sp : Int), .int .u16 (dp : Int), .slice A dl c])) dl data).p (f 11) W := hφ 11 (by omega)
    have v12 : f 12 = (.int .i64 0) := hφ 12 (by omega)
    clear hφ
    simp only [putAll, List.setIfInBounds_toArray, List.set_cons_succ, List.set_cons_zero, v0, v1, v2, v3, v4, v5, v6, v10, v12]
    clear v0 v1 v2 v3 v4 v5 v6 v10 v12
    refine wpAny_done (by kernel_rfl) ?_ _
    have hkA : Kp w3 W := Kp.trans ((Kp.refl _).drew) hW
    obtain ⟨A4, c4, h11, hr4⟩ := v11
    rw [h11]
    have HKA := Lib.hid hkA
    have HR4 := Lib.hid hr4
    clear hW KC OP hkA h11 hr4 v7 v8 v9
    have mt := mt8_g
    go_wp2_with fail
    refine (PR.out _).mono ?_
    rintro e w5 ⟨rfl, hk5⟩
    have HK5 := Lib.hid (HKA.out.trans hk5)
    have HR5 := Lib.hid (HR4.out.keep hk5)
    clear hk5
    go_wp2_with fail
    refine (s8_gg _ sp dp A2 dl c2 data sp dp A4 dl c4 data (HR3.out.keep HK5.out) HR5.out).mono ?_
    rintro e w6 ⟨rfl, hk6⟩
    rw [sameG_self]
    go_wp2
    go_ret
    exact ⟨rfl, HK00.out.trans (HK5.out.trans hk6)⟩

set_option maxRecDepth 100000 in
set_option maxHeartbeats 4000000 in
theorem back8_walk (w : World) (p : UInt8) (a0 a1 a2 a3 b0 b1 b2 b3 : UInt8) (A : Option Addr) (n c : Nat) (l : List UInt8) (hA : Rd w 0 A n l) (hok : SlOk A n c) (hn : n ≤ 140737488351232) :
    Calls Try.prog 9 #[.int .u8 (p.toNat : Int), .agg #[.int .u8 (a0.toNat : Int), .int .u8 (a1.toNat : Int), .int .u8 (a2.toNat : Int), .int .u8 (a3.toNat : Int), .int .u8 (b0.toNat : Int), .int .u8 (b1.toNat : Int), .int .u8 (b2.toNat : Int), .int .u8 (b3.toNat : Int)], .slice A n c] w fun e w' => e = .returned (.bool true) ∧ Kp w w' := by
  have hK0 : Kp w (w.alloc (.cells #[.int .u8 (a0.toNat : Int), .int .u8 (a1.toNat : Int), .int .u8 (a2.toNat : Int), .int .u8 (a3.toNat : Int), .int .u8 (b0.toNat : Int), .int .u8 (b1.toNat : Int), .int .u8 (b2.toNat : Int), .int .u8 (b3.toNat : Int)] 29)) := (Kp.refl w).alloc _
  have HK0 := Lib.hid hK0
  have KE := Lib.hid (cellsEB w a0 a1 a2 a3 b0 b1 b2 b3)
  clear hK0
  by_cases h : 1200 < n
  · clear hA hok
    go_enter Try.func9, Try.ntmps9
    go_wp2_with (first | (go_at_call 10; refine (lives8_any _).mono ?_; rintro e w1 ⟨rfl, hk⟩))
    go_ret
    exact ⟨rfl, Kp.trans HK0.out (Kp.trans (by assumption) hk)⟩
  by_cases h2 : 1000 < n
  · clear hA hok
    have i2 : ¬ (1200 : Int) < (n : Int) := by omega
    go_enter Try.func9, Try.ntmps9
    go_wp2_with fail
    refine (lives8_any _).mono ?_
    rintro e w1 ⟨rfl, hk1⟩
    have HK1 := Lib.hid hk1
    clear hk1
    obtain ⟨⟨x0, x1, x2, x3⟩, ⟨y0, y1, y2, y3⟩⟩ := KE.out _ HK1.out
    go_wp2_with fail
    refine (o8_long _ p a0 a1 a2 a3 b0 b1 b2 b3 A n c (by omega)).mono ?_
    rintro e w2 ⟨hk2, rfl⟩
    go_wp2
    go_ret
    exact ⟨rfl, HK0.out.trans (HK1.out.trans hk2)⟩
  by_cases p1 : p = 1
  · subst p1
    exact back8_e w A n c l a0 a1 a2 a3 b0 b1 b2 b3 hA hok h2
  by_cases p17 : p = 17
  · subst p17
    exact back8_g w A n c l a0 a1 a2 a3 b0 b1 b2 b3 hA hok h2
  clear hA hok
  have i2 : ¬ (1200 : Int) < (n : Int) := by omega
  have P1 := Lib.hid p1
  have P17 := Lib.hid p17
  clear p1 p17
  go_enter Try.func9, Try.ntmps9
  go_wp2_with fail
  refine (lives8_any _).mono ?_
  rintro e w1 ⟨rfl, hk1⟩
  have HK1 := Lib.hid hk1
  clear hk1
  obtain ⟨⟨x0, x1, x2, x3⟩, ⟨y0, y1, y2, y3⟩⟩ := KE.out _ HK1.out
  go_wp2_with fail
  refine (o8_arg _ p a0 a1 a2 a3 b0 b1 b2 b3 A n c (by omega) P1.out P17.out).mono ?_
  rintro e w2 ⟨hk2, rfl⟩
  go_wp2
  go_ret
  exact ⟨rfl, HK0.out.trans (HK1.out.trans hk2)⟩
end Go.Proofs.Ytpjjanbcjkdciaa
