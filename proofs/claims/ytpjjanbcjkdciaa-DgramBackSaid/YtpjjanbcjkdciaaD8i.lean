/-
  The contracts of the document's OpenEcho and OpenDatagram.
-/
import Derived.Test.YtpjjanbcjkdciaaD8f
namespace Go.Proofs.Ytpjjanbcjkdciaa
open Go.RowKit

theorem results_cell2 {fn : Func} {a e b : Nat} {k : Nat} {ty : TypeId} {w : World} {cs : Array Value} {T : TypeId} {m : Nat × Nat} {tmps : Array Value} {v : Value} (hi : (Try.prog.info? ty).map (·.size) = some k) (hu : ∃ fs, Try.prog.underlying ty = some (.struct fs))
    (hrow : w.heap[b]? = some (.cells cs T m)) (hk : cs.size = k) (hr : fn.results = #[.cell a ty, .tmp e]) (ha : tmps.getD a undef = .pointer (some ⟨b, 0, none⟩)) (he : tmps.getD e undef = v) :
    (results fn tmps).run Try.prog w = .ok (.tuple #[.agg cs, v]) w := by
  subst hk
  obtain ⟨fs, hu⟩ := hu
  have := run_loadVar_row (P := Try.prog) w b T ty cs m _ hrow hu rfl hi
  rw [Array.getD_eq_getD_getElem?] at ha he
  simp [results, hr, ha, he, asAddr, this]


def REPost (w : World) (l : List UInt8) (e : Ending) (w' : World) : Prop :=
  (∃ k, k ≠ 0 ∧ outE l = .inl k ∧ Kp w w' ∧ e = .returned (.tuple #[.agg #[.bool false, .int .u16 0, .int .u16 0, .slice none 0 0], .int .i64 k])) ∨ ∃ rp id sq data, outE l = .inr (rp, id, sq, data) ∧ id ≤ 65535 ∧ sq ≤ 65535 ∧ data.length ≤ l.length ∧
    Kp w w' ∧ ∃ A c, e = .returned (.tuple #[.agg #[.bool rp, .int .u16 (id : Int), .int .u16 (sq : Int), .slice A data.length c], .int .i64 0]) ∧ Rd w' w.heap.size A data.length data ∧ SlOk A data.length c
def RGPost (w : World) (src dst l : List UInt8) (e : Ending) (w' : World) : Prop :=
  (∃ k, k ≠ 0 ∧ outG src dst l = .inl k ∧ Kp w w' ∧ e = .returned (.tuple #[.agg #[.int .u16 0, .int .u16 0, .slice none 0 0], .int .i64 k])) ∨ ∃ sp dp data, outG src dst l = .inr (sp, dp, data) ∧ sp ≤ 65535 ∧ dp ≤ 65535 ∧ data.length ≤ l.length ∧
    Kp w w' ∧ ∃ A c, e = .returned (.tuple #[.agg #[.int .u16 (sp : Int), .int .u16 (dp : Int), .slice A data.length c], .int .i64 0]) ∧ Rd w' w.heap.size A data.length data ∧ SlOk A data.length c

noncomputable def re8phi (w : World) (S : ByteArray) (id sq : Nat) (rp : Bool) (k0 : UInt8) (data : List UInt8) : Nat → St := fun i => ([St.val (.string S),
  St.val (.int .u8 (k0.toNat : Int)),
  St.val (.bool rp),
  St.val (.string S),
  St.val (.int .i64 (id : Int)),
  St.val (.int .u16 (id : Int)),
  St.val (.string S),
  St.val (.int .i64 (sq : Int)),
  St.val (.int .u16 (sq : Int)),
  St.val (.string S),
  St.val (.string (str data)),
  St.rdk (w.heap.size + 2) data.length data,
  St.withRd (w.heap.size + 2) data.length data (fun A c => .agg #[.bool rp, .int .u16 (id : Int), .int .u16 (sq : Int), .slice A data.length c])] : List St).getD i St.any

set_option maxRecDepth 100000 in
set_option maxHeartbeats 4000000 in
theorem re8_any (w : World) (l : List UInt8) (hn : l.length ≤ 1000) : Calls Try.prog 16 #[.string (str l)] w (REPost w l) := by
  have KB : Kp w ((w.alloc (.cells #[.bool false, .int .u16 0, .int .u16 0, .slice none 0 0] 25)).alloc (.cells #[.bool false, .int .u16 0, .int .u16 0, .slice none 0 0] 25)) := ((Kp.refl w).alloc _).alloc _
  have HKB := Lib.hid KB
  have hb2 := heap_alloc_new w (.cells #[.bool false, .int .u16 0, .int .u16 0, .slice none 0 0] 25)
  have hb4 := heap_alloc_new (w.alloc (.cells #[.bool false, .int .u16 0, .int .u16 0, .slice none 0 0] 25)) (.cells #[.bool false, .int .u16 0, .int .u16 0, .slice none 0 0] 25)
  rw [show (w.alloc (.cells #[.bool false, .int .u16 0, .int .u16 0, .slice none 0 0] 25)).heap.size = w.heap.size + 1 by simp] at hb4
  have hb2' := (Below.heap_alloc (w.alloc (.cells #[.bool false, .int .u16 0, .int .u16 0, .slice none 0 0] 25)) (.cells #[.bool false, .int .u16 0, .int .u16 0, .slice none 0 0] 25) _ (Array.getElem?_eq_some_iff.1 hb2).1).trans hb2
  have HRW : Hid (∀ W, Kp ((w.alloc (.cells #[.bool false, .int .u16 0, .int .u16 0, .slice none 0 0] 25)).alloc (.cells #[.bool false, .int .u16 0, .int .u16 0, .slice none 0 0] 25)) W → W.heap[w.heap.size]? = some (.cells #[.bool false, .int .u16 0, .int .u16 0, .slice none 0 0] 25 (0, 0))) := Lib.hid fun W hk => (hk.block _ (Array.getElem?_eq_some_iff.1 hb2').1).trans hb2'
  have HRN : Hid (∀ W, Kp ((w.alloc (.cells #[.bool false, .int .u16 0, .int .u16 0, .slice none 0 0] 25)).alloc (.cells #[.bool false, .int .u16 0, .int .u16 0, .slice none 0 0] 25)) W → W.heap[w.heap.size + 1]? = some (.cells #[.bool false, .int .u16 0, .int .u16 0, .slice none 0 0] 25 (0, 0))) := Lib.hid fun W hk => (hk.block _ (Array.getElem?_eq_some_iff.1 hb4).1).trans hb4
  have K0 : Kp ((w.alloc (.cells #[.bool false, .int .u16 0, .int .u16 0, .slice none 0 0] 25)).alloc (.cells #[.bool false, .int .u16 0, .int .u16 0, .slice none 0 0] 25)) ((w.alloc (.cells #[.bool false, .int .u16 0, .int .u16 0, .slice none 0 0] 25)).alloc (.cells #[.bool false, .int .u16 0, .int .u16 0, .slice none 0 0] 25)) := Kp.refl _
  have HK0 := Lib.hid K0
  have hsz := str_size l
  obtain ⟨n, hlen⟩ : ∃ n, l.length = n := ⟨_, rfl⟩
  have i1 : ¬ (1000 : Int) < (n : Int) := by omega
  clear KB K0 hb2 hb4 hb2'
  by_cases hs : n < 8
  · have HO' : Hid (outE l = .inl 6) := Lib.hid (outE_short (by omega))
    rw [hlen] at hsz
    clear hlen
    go_enter Try.func16, Try.ntmps16
    go_wp2_with (first | (refine lld_row (by rfl) (.tmp 4) _ _ rfl rfl (HRN.out _ (HK0.out)) Try.underlying25 rfl szEcho ?_) | (refine lst_row (by rfl) (.tmp 2) (.tmp 13) _ rfl rfl rfl (HRW.out _ (HK0.out)) szEcho rfl rfl rfl ?_) | (refine lst_new (by rfl) (.tmp 4) (.tmp 5) _ rfl rfl rfl szEcho rfl rfl rfl ?_))
    refine bodyPost_ret (v := .tuple #[.agg #[.bool false, .int .u16 0, .int .u16 0, .slice none 0 0], .int .i64 6]) (results_cell2 (fn := Try.f16) szEcho uEcho (setRow_heap _ _ _ #[.bool false, .int .u16 0, .int .u16 0, .slice none 0 0] _ _ (HRW.out _ (HK0.out))) rfl Try.results16 rfl rfl) rfl (.inl ⟨6, by decide, HO'.out, (HKB.out.trans (HK0.out)).setRow (by omega), rfl⟩)
  obtain ⟨k0, k1, c0, c1, i0, j0, q0, q1, data, rfl⟩ := len8s l (by omega)
  obtain ⟨L, hL⟩ : ∃ L, k0 :: k1 :: c0 :: c1 :: i0 :: j0 :: q0 :: q1 :: data = L := ⟨_, rfl⟩
  have g0 : ∀ h, (str L)[0]'h = k0 := by subst hL; exact fun _ => rfl
  have g1 : ∀ h, (str L)[1]'h = k1 := by subst hL; exact fun _ => rfl
  have b1 := i0.toNat_lt
  have b2 := j0.toNat_lt
  have b3 := q0.toNat_lt
  have b4 := q1.toNat_lt
  have bk0 : k0.toNat < 256 := k0.toNat_lt
  obtain ⟨id, hid⟩ : ∃ id, 256 * i0.toNat + j0.toNat = id := ⟨_, rfl⟩
  obtain ⟨sq, hsq⟩ : ∃ sq, 256 * q0.toNat + q1.toNat = sq := ⟨_, rfl⟩
  have hid2 : id ≤ 65535 := by omega
  have hsq2 : sq ≤ 65535 := by omega
  have HO : Hid (outE L = if Ck.ck L ≠ 65535 then .inl 8 else if (k0 ≠ 0 ∧ k0 ≠ 8) ∨ k1 ≠ 0 then .inl 7 else .inr (decide (k0 = 0), id, sq, data)) := Lib.hid (by rw [← hL, ← hid, ← hsq]; rfl)
  rw [hL] at hlen hn hsz ⊢
  have NN : Hid ((∀ W, Calls Try.prog 26 #[.string (str L), .int .i64 4] W fun e w' => e = .returned (.int .i64 (id : Int)) ∧ Kp W w') ∧ (∀ W, Calls Try.prog 26 #[.string (str L), .int .i64 6] W fun e w' => e = .returned (.int .i64 (sq : Int)) ∧ Kp W w')) := Lib.hid ⟨fun W => by
    have h := num_any W (str L) 4 i0 j0 (by omega) (by omega) (by intro h; subst hL; rfl) (by intro h; subst hL; rfl)
    rw [hid] at h; exact h, fun W => by
    have h := num_any W (str L) 6 q0 q1 (by omega) (by omega) (by intro h; subst hL; rfl) (by intro h; subst hL; rfl)
    rw [hsq] at h; exact h⟩
  have xd : (str L).extract 8 n = str data := by rw [str_extract, ← hlen, List.take_length, ← hL]; rfl
  have RF : Hid (∀ W, Calls Try.prog 25 #[.string (str L)] W fun e w' => e = .returned (.int .u16 (Ck.ck L : Nat)) ∧ W = w') := Lib.hid fun W => by
    have := rfold_any W (str L) (by omega)
    rw [str_list] at this; exact this
  have hckb := Ck.ck_le L
  have hdl : data.length ≤ 1048576 := by rw [← hL] at hn; simp only [List.length_cons] at hn; omega
  have hrl : data.length ≤ L.length := by rw [← hL]; simp only [List.length_cons]; omega
  have HRL := Lib.hid hrl
  obtain ⟨ck, hck⟩ : ∃ ck, Ck.ck L = ck := ⟨_, rfl⟩
  rw [hck] at HO RF hckb
  rw [hlen] at hsz hn
  clear hck hlen hL hid hsq b1 b2 b3 b4 hrl
  obtain ⟨S, hS⟩ : ∃ S, str L = S := ⟨_, rfl⟩
  rw [hS] at hsz g0 g1 NN xd RF ⊢
  clear hS
  have p0 : 0 < n := by omega
  have p0' : (0 : Int) < (n : Int) := by omega
  have p1 : 1 < n := by omega
  have p1' : (1 : Int) < (n : Int) := by omega
  have p8 : 8 ≤ n := by omega
  have p8' : (8 : Int) ≤ (n : Int) := by omega
  have i2 : ¬ (n : Int) < 8 := by omega
  have u1 : IntKind.u16.wrap (id : Int) = (id : Int) := wrap_u16 (by omega) (by omega)
  have u2 : IntKind.u16.wrap (sq : Int) = (sq : Int) := wrap_u16 (by omega) (by omega)
  go_enter Try.func16, Try.ntmps16
  go_wp2_with (refine lst_new (by rfl) (.tmp 4) (.tmp 5) _ rfl rfl rfl szEcho rfl rfl rfl ?_)
  refine (RF.out _).mono ?_
  rintro e w4 ⟨rfl, rfl⟩
  by_cases h4 : ck = 65535
  case neg =>
    have HO' : Hid (outE L = .inl 8) := Lib.hid (by rw [HO.out, if_pos h4])
    have y4 : ((ck : Int) != 65535) = true := by simp; omega
    go_wp2_with (first | (refine lld_row (by rfl) (.tmp 4) _ _ rfl rfl (HRN.out _ (HK0.out)) Try.underlying25 rfl szEcho ?_) | (refine lst_row (by rfl) (.tmp 2) (.tmp 17) _ rfl rfl rfl (HRW.out _ (HK0.out)) szEcho rfl rfl rfl ?_) | (refine lst_new (by rfl) (.tmp 4) (.tmp 5) _ rfl rfl rfl szEcho rfl rfl rfl ?_))
    refine bodyPost_ret (v := .tuple #[.agg #[.bool false, .int .u16 0, .int .u16 0, .slice none 0 0], .int .i64 8]) (results_cell2 (fn := Try.f16) szEcho uEcho (setRow_heap _ _ _ #[.bool false, .int .u16 0, .int .u16 0, .slice none 0 0] _ _ (HRW.out _ (HK0.out))) rfl Try.results16 rfl rfl) rfl (.inl ⟨8, by decide, HO'.out, (HKB.out.trans (HK0.out)).setRow (by omega), rfl⟩)
  have y4 : ((ck : Int) != 65535) = false := by simp; omega
  by_cases hf : (k0 ≠ 0 ∧ k0 ≠ 8) ∨ k1 ≠ 0
  · have HO' : Hid (outE L = .inl 7) := Lib.hid (by rw [HO.out, if_neg (by simpa using h4), if_pos hf])
    clear h4
    by_cases ha : k0 = 0
    · subst ha
      have hb : k1 ≠ 0 := hf.resolve_left fun h => h.1 rfl
      have fb : ((k1.toNat : Int) == 0) = false := u8_ne (k := 0) (by decide) hb
      have fb' : ((k1.toNat : Int) != 0) = true := by rw [bne, fb]; rfl
      clear hf hb
      go_wp2_with (first | (refine lld_row (by rfl) (.tmp 4) _ _ rfl rfl (HRN.out _ (HK0.out)) Try.underlying25 rfl szEcho ?_) | (refine lst_row (by rfl) (.tmp 2) (.tmp 31) _ rfl rfl rfl (HRW.out _ (HK0.out)) szEcho rfl rfl rfl ?_) | (refine lst_new (by rfl) (.tmp 4) (.tmp 5) _ rfl rfl rfl szEcho rfl rfl rfl ?_))
      refine bodyPost_ret (v := .tuple #[.agg #[.bool false, .int .u16 0, .int .u16 0, .slice none 0 0], .int .i64 7]) (results_cell2 (fn := Try.f16) szEcho uEcho (setRow_heap _ _ _ #[.bool false, .int .u16 0, .int .u16 0, .slice none 0 0] _ _ (HRW.out _ (HK0.out))) rfl Try.results16 rfl rfl) rfl (.inl ⟨7, by decide, HO'.out, (HKB.out.trans (HK0.out)).setRow (by omega), rfl⟩)
    · have fa : ((k0.toNat : Int) == 0) = false := u8_ne (k := 0) (by decide) ha
      have fa' : ((k0.toNat : Int) != 0) = true := by rw [bne, fa]; rfl
      by_cases h8 : k0 = 8
      · subst h8
        have hb : k1 ≠ 0 := hf.resolve_left fun h => h.2 rfl
        have fb : ((k1.toNat : Int) == 0) = false := u8_ne (k := 0) (by decide) hb
        have fb' : ((k1.toNat : Int) != 0) = true := by rw [bne, fb]; rfl
        clear hf hb ha fa fa'
        go_wp2_with (first | (refine lld_row (by rfl) (.tmp 4) _ _ rfl rfl (HRN.out _ (HK0.out)) Try.underlying25 rfl szEcho ?_) | (refine lst_row (by rfl) (.tmp 2) (.tmp 31) _ rfl rfl rfl (HRW.out _ (HK0.out)) szEcho rfl rfl rfl ?_) | (refine lst_new (by rfl) (.tmp 4) (.tmp 5) _ rfl rfl rfl szEcho rfl rfl rfl ?_))
        refine bodyPost_ret (v := .tuple #[.agg #[.bool false, .int .u16 0, .int .u16 0, .slice none 0 0], .int .i64 7]) (results_cell2 (fn := Try.f16) szEcho uEcho (setRow_heap _ _ _ #[.bool false, .int .u16 0, .int .u16 0, .slice none 0 0] _ _ (HRW.out _ (HK0.out))) rfl Try.results16 rfl rfl) rfl (.inl ⟨7, by decide, HO'.out, (HKB.out.trans (HK0.out)).setRow (by omega), rfl⟩)
      · have f8 : ((k0.toNat : Int) == 8) = false := u8_ne (k := 8) (by decide) h8
        have f8' : ((k0.toNat : Int) != 8) = true := by rw [bne, f8]; rfl
        clear hf ha h8
        go_wp2_with (first | (refine lld_row (by rfl) (.tmp 4) _ _ rfl rfl (HRN.out _ (HK0.out)) Try.underlying25 rfl szEcho ?_) | (refine lst_row (by rfl) (.tmp 2) (.tmp 31) _ rfl rfl rfl (HRW.out _ (HK0.out)) szEcho rfl rfl rfl ?_) | (refine lst_new (by rfl) (.tmp 4) (.tmp 5) _ rfl rfl rfl szEcho rfl rfl rfl ?_))
        refine bodyPost_ret (v := .tuple #[.agg #[.bool false, .int .u16 0, .int .u16 0, .slice none 0 0], .int .i64 7]) (results_cell2 (fn := Try.f16) szEcho uEcho (setRow_heap _ _ _ #[.bool false, .int .u16 0, .int .u16 0, .slice none 0 0] _ _ (HRW.out _ (HK0.out))) rfl Try.results16 rfl rfl) rfl (.inl ⟨7, by decide, HO'.out, (HKB.out.trans (HK0.out)).setRow (by omega), rfl⟩)
  · have HO' : Hid (outE L = .inr (decide (k0 = 0), id, sq, data)) := Lib.hid (by rw [HO.out, if_neg (by simpa using h4), if_neg hf])
    obtain rfl : k1 = 0 := Decidable.byContradiction fun h => hf (.inr h)
    obtain ⟨rp, hrp⟩ : ∃ rp, decide (k0 = 0) = rp := ⟨_, rfl⟩
    have hq : ((k0.toNat : Int) == 0) = rp := by
      rw [← hrp]
      by_cases ha : k0 = 0
      · subst ha; rfl
      · have fa : ((k0.toNat : Int) == 0) = false := u8_ne (k := 0) (by decide) ha
        rw [fa]; simp [ha]
    rw [hrp] at HO'
    have h08 : ((k0.toNat : Int) != 0) = false ∨ (((k0.toNat : Int) != 0) = true ∧ ((k0.toNat : Int) != 8) = false) := by
      by_cases ha : k0 = 0
      · subst ha; exact .inl rfl
      · have fa : ((k0.toNat : Int) == 0) = false := u8_ne (k := 0) (by decide) ha
        have h8 : k0 = 8 := Decidable.byContradiction fun h => hf (.inl ⟨ha, h⟩)
        subst h8
        exact .inr ⟨rfl, rfl⟩
    have hlt4 : w.heap.size + 2 ≤ ((w.alloc (.cells #[.bool false, .int .u16 0, .int .u16 0, .slice none 0 0] 25)).alloc (.cells #[.bool false, .int .u16 0, .int .u16 0, .slice none 0 0] 25)).heap.size := by simp
    clear h4 hf hrp HO RF
    rcases h08 with h08 | ⟨h08, h88⟩
    all_goals
      go_wp2_with fail
      refine wp_region_steps (by kernel_rfl) 13 (re8phi w S id sq rp k0 data) [32, 33, 34, 35, 36, 37, 38, 39, 40, 41, 42, 43, 44] (by kernel_rfl) (by kernel_rfl) ⟨?_, ?_, ?_, ?_, ?_, ?_, ?_, ?_, ?_, ?_, ?_, ?_, ?_, trivial⟩ ?_
      · intro a W hW hO hφ K hK
        have q0 : a.tmps.getD 0 undef = (.string S) := hO 0 (by kernel_rfl)
        have r0 := q0
        rw [Array.getD_eq_getD_getElem?] at r0
        clear hO hφ
        clear NN
        go_simp
        exact hK _ _ (Kp.refl _) rfl
      · intro a W hW hO hφ K hK
        have q32 : a.tmps.getD 32 undef = (.string S) := hφ ⟨0, .data⟩ (by simp) rfl
        have r32 := q32
        rw [Array.getD_eq_getD_getElem?] at r32
        clear hO hφ
        clear NN
        go_simp
        exact hK _ _ (Kp.refl _) rfl
      · intro a W hW hO hφ K hK
        have q33 : a.tmps.getD 33 undef = (.int .u8 (k0.toNat : Int)) := hφ ⟨1, .data⟩ (by simp) rfl
        have r33 := q33
        rw [Array.getD_eq_getD_getElem?] at r33
        clear hO hφ
        clear NN
        go_simp
        exact hK _ _ (Kp.refl _) rfl
      · intro a W hW hO hφ K hK
        have q0 : a.tmps.getD 0 undef = (.string S) := hO 0 (by kernel_rfl)
        have r0 := q0
        rw [Array.getD_eq_getD_getElem?] at r0
        clear hO hφ
        clear NN
        go_simp
        exact hK _ _ (Kp.refl _) rfl
      · intro a W hW hO hφ K hK
        have q35 : a.tmps.getD 35 undef = (.string S) := hφ ⟨3, .data⟩ (by simp) rfl
        have r35 := q35
        rw [Array.getD_eq_getD_getElem?] at r35
        clear hO hφ
        go_simp
        go_at_call 26
        refine (NN.out.1 W).mono ?_
        rintro e w' ⟨rfl, hk⟩
        exact hK _ _ hk rfl
      · intro a W hW hO hφ K hK
        have q36 : a.tmps.getD 36 undef = (.int .i64 (id : Int)) := hφ ⟨4, .data⟩ (by simp) rfl
        have r36 := q36
        rw [Array.getD_eq_getD_getElem?] at r36
        clear hO hφ
        clear NN
        go_simp
        exact hK _ _ (Kp.refl _) rfl
      · intro a W hW hO hφ K hK
        have q0 : a.tmps.getD 0 undef = (.string S) := hO 0 (by kernel_rfl)
        have r0 := q0
        rw [Array.getD_eq_getD_getElem?] at r0
        clear hO hφ
        clear NN
        go_simp
        exact hK _ _ (Kp.refl _) rfl
      · intro a W hW hO hφ K hK
        have q38 : a.tmps.getD 38 undef = (.string S) := hφ ⟨6, .data⟩ (by simp) rfl
        have r38 := q38
        rw [Array.getD_eq_getD_getElem?] at r38
        clear hO hφ
        go_simp
        go_at_call 26
        refine (NN.out.2 W).mono ?_
        rintro e w' ⟨rfl, hk⟩
        exact hK _ _ hk rfl
      · intro a W hW hO hφ K hK
        have q39 : a.tmps.getD 39 undef = (.int .i64 (sq : Int)) := hφ ⟨7, .data⟩ (by simp) rfl
        have r39 := q39
        rw [Array.getD_eq_getD_getElem?] at r39
        clear hO hφ
        clear NN
        go_simp
        exact hK _ _ (Kp.refl _) rfl
      · intro a W hW hO hφ K hK
        have q0 : a.tmps.getD 0 undef = (.string S) := hO 0 (by kernel_rfl)
        have r0 := q0
        rw [Array.getD_eq_getD_getElem?] at r0
        clear hO hφ
        clear NN
        go_simp
        exact hK _ _ (Kp.refl _) rfl
      · intro a W hW hO hφ K hK
        have q41 : a.tmps.getD 41 undef = (.string S) := hφ ⟨9, .data⟩ (by simp) rfl
        have r41 := q41
        rw [Array.getD_eq_getD_getElem?] at r41
        clear hO hφ
        clear NN
        go_simp
        exact hK _ _ (Kp.refl _) rfl
      · intro a W hW hO hφ K hK
        have q42 : a.tmps.getD 42 undef = (.string (str data)) := hφ ⟨10, .data⟩ (by simp) rfl
        have r42 := q42
        rw [Array.getD_eq_getD_getElem?] at r42
        clear hO hφ
        clear NN
        have hcv := Lib.run_convert_string_bytes (P := Try.prog) W 9 23 5 (str data) Try.underlying9 Try.underlying23 Try.underlying5
        rw [str_size] at hcv
        go_simp
        exact hK _ _ (kp_bytes _ _ _) ⟨_, _, rfl, RdV.mono_lo (rd_bytes W _ data hdl).1 (by have := (Kp.trans ((Kp.refl _).drew) hW).size; omega), (rd_bytes W _ data hdl).2⟩
      · intro a W hW hO hφ K hK
        have q34 : a.tmps.getD 34 undef = (.bool rp) := hφ ⟨2, .data⟩ (by simp) rfl
        have q37 : a.tmps.getD 37 undef = (.int .u16 (id : Int)) := hφ ⟨5, .data⟩ (by simp) rfl
        have q40 : a.tmps.getD 40 undef = (.int .u16 (sq : Int)) := hφ ⟨8, .data⟩ (by simp) rfl
        have q43 : (St.rdk (w.heap.size + 2) data.length data).p (a.tmps.getD 43 undef) W := hφ ⟨11, .data⟩ (by simp) rfl
        have r34 := q34
        rw [Array.getD_eq_getD_getElem?] at r34
        have r37 := q37
        rw [Array.getD_eq_getD_getElem?] at r37
        have r40 := q40
        rw [Array.getD_eq_getD_getElem?] at r40
        clear hO hφ
        clear NN
        obtain ⟨A1, c1, q43', hr, hok⟩ := q43
        have r43 := q43'
        rw [Array.getD_eq_getD_getElem?] at r43
        go_simp
        exact hK _ _ (Kp.refl _) ⟨_, _, rfl, hr, hok⟩
      intro f W hW hφ
      have v0 : f 0 = (.string S) := hφ 0 (by omega)
      have v1 : f 1 = (.int .u8 (k0.toNat : Int)) := hφ 1 (by omega)
      have v2 : f 2 = (.bool rp) := hφ 2 (by omega)
      have v3 : f 3 = (.string S) := hφ 3 (by omega)
      have v4 : f 4 = (.int .i64 (id : Int)) := hφ 4 (by omega)
      have v5 : f 5 = (.int .u16 (id : Int)) := hφ 5 (by omega)
      have v6 : f 6 = (.string S) := hφ 6 (by omega)
      have v7 : f 7 = (.int .i64 (sq : Int)) := hφ 7 (by omega)
      have v8 : f 8 = (.int .u16 (sq : Int)) := hφ 8 (by omega)
      have v9 : f 9 = (.string S) := hφ 9 (by omega)
      have v10 : f 10 = (.string (str data)) := hφ 10 (by omega)
      have v11 : (St.rdk (w.heap.size + 2) data.length data).p (f 11) W := hφ 11 (by omega)
      have v12 : (St.withRd (w.heap.size + 2) data.length data (fun A c => .agg #[.bool rp, .int .u16 (id : Int), .int .u16 (sq : Int), .slice A data.length c])).p (f 12) W := hφ 12 (by omega)
      clear hφ
      simp only [putAll, List.setIfInBounds_toArray, List.set_cons_succ, List.set_cons_zero, v0, v1, v2, v3, v4, v5, v6, v7, v8, v9, v10]
      clear v0 v1 v2 v3 v4 v5 v6 v7 v8 v9 v10
      obtain ⟨A1, c1, hv, hr, hok⟩ := v12
      have hv' : f 12 = .agg #[.bool rp, .int .u16 (id : Int), .int .u16 (sq : Int), .slice A1 data.length c1] := hv
      have hk7 : Kp ((w.alloc (.cells #[.bool false, .int .u16 0, .int .u16 0, .slice none 0 0] 25)).alloc (.cells #[.bool false, .int .u16 0, .int .u16 0, .slice none 0 0] 25)) W := Kp.trans ((Kp.refl _).drew) hW
      have r7 := HRW.out _ hk7
      have r8 := setRow_heap W _ _ #[.bool rp, .int .u16 (id : Int), .int .u16 (sq : Int), .slice A1 data.length c1] _ _ r7
      refine wpAny_ready (rs := [13]) (by kernel_rfl) (by simp) (AllReady.cons rfl (fun K' hK' => ?_) AllReady.nil)
      simp only [hv']
      split
      case isFalse hx => exact (hx rfl).elim
      refine ost_row (.tmp 2) (.tmp 44) _ rfl rfl rfl rfl r7 szEcho rfl rfl ?_
      refine hK' _ _ ?_
      refine wpAny_ready (rs := [14]) (by kernel_rfl) (by simp) (AllReady.cons rfl (fun K2 hK2 => ?_) AllReady.nil)
      go_simp
      refine hK2 _ _ ?_
      refine wpAny_done (by kernel_rfl) ?_ _
      go_wp2
      refine bodyPost_ret (v := .tuple #[.agg #[.bool rp, .int .u16 (id : Int), .int .u16 (sq : Int), .slice A1 data.length c1], .int .i64 0]) (results_cell2 (fn := Try.f16) szEcho uEcho r8 rfl Try.results16 rfl rfl) rfl
        (.inr ⟨rp, id, sq, data, HO'.out, hid2, hsq2, HRL.out, (HKB.out.trans hk7).setRow (by omega), A1, c1, rfl, RdV.mono_lo (RdV.setRow hr (by omega)) (by omega), hok⟩)
noncomputable def rg8on (_w : World) (S : ByteArray) (N cs ck : Nat) (rt : Bool) (s0 s1 s2 s3 d0 d1 d2 d3 : UInt8) (PS LN : List UInt8) : Nat → St := fun i => ([St.val (.string S),
  St.val (.int .i64 (cs : Int)),
  St.val (.bool true),
  St.val (.bool true),
  St.val (.agg #[.int .u8 (s0.toNat : Int), .int .u8 (s1.toNat : Int), .int .u8 (s2.toNat : Int), .int .u8 (s3.toNat : Int)]),
  St.val (.agg #[.int .u8 (d0.toNat : Int), .int .u8 (d1.toNat : Int), .int .u8 (d2.toNat : Int), .int .u8 (d3.toNat : Int)]),
  St.val (.int .i64 (N : Int)),
  St.val (.string (str PS)),
  St.val (.string S),
  St.val (.int .i64 (N : Int)),
  St.val (.string (str LN)),
  St.val (.string (str (PS ++ LN))),
  St.val (.int .u16 (ck : Int)),
  St.val (.bool rt),
  St.val (.bool rt)] : List St).getD i St.any
noncomputable def rg8off (S : ByteArray) (cs : Nat) : Nat → St := fun i => ([St.val (.string S),
  St.val (.int .i64 (cs : Int)),
  St.val (.bool false),
  St.val (.bool false),
  St.val (undef),
  St.val (undef),
  St.val (undef),
  St.val (undef),
  St.val (undef),
  St.val (undef),
  St.val (undef),
  St.val (undef),
  St.val (undef),
  St.val (undef),
  St.val (.bool false)] : List St).getD i St.any
noncomputable def rg8phi (w : World) (S : ByteArray) (sp dp N : Nat) (data : List UInt8) : Nat → St := fun i => ([St.val (.string S),
  St.val (.int .i64 (sp : Int)),
  St.val (.int .u16 (sp : Int)),
  St.val (.string S),
  St.val (.int .i64 (dp : Int)),
  St.val (.int .u16 (dp : Int)),
  St.val (.string S),
  St.val (.int .i64 (N : Int)),
  St.val (.string (str data)),
  St.rdk (w.heap.size + 4) data.length data,
  St.withRd (w.heap.size + 4) data.length data (fun A c => .agg #[.int .u16 (sp : Int), .int .u16 (dp : Int), .slice A data.length c])] : List St).getD i St.any

set_option maxRecDepth 100000 in
set_option maxHeartbeats 4000000 in
theorem rg8_any (w : World) (l : List UInt8) (s0 s1 s2 s3 d0 d1 d2 d3 : UInt8) (hn : l.length ≤ 1000) : Calls Try.prog 17 #[.string (str l), .agg #[.int .u8 (s0.toNat : Int), .int .u8 (s1.toNat : Int), .int .u8 (s2.toNat : Int), .int .u8 (s3.toNat : Int)], .agg #[.int .u8 (d0.toNat : Int), .int .u8 (d1.toNat : Int), .int .u8 (d2.toNat : Int), .int .u8 (d3.toNat : Int)]] w (RGPost w [s0, s1, s2, s3] [d0, d1, d2, d3] l) := by
  have KB : Kp w ((((w.alloc (.cells #[.int .u8 (s0.toNat : Int), .int .u8 (s1.toNat : Int), .int .u8 (s2.toNat : Int), .int .u8 (s3.toNat : Int)] 27)).alloc (.cells #[.int .u8 (d0.toNat : Int), .int .u8 (d1.toNat : Int), .int .u8 (d2.toNat : Int), .int .u8 (d3.toNat : Int)] 27)).alloc (.cells #[.int .u16 0, .int .u16 0, .slice none 0 0] 43)).alloc (.cells #[.int .u16 0, .int .u16 0, .slice none 0 0] 43)) := ((((Kp.refl w).alloc _).alloc _).alloc _).alloc _
  have HKB := Lib.hid KB
  have hb2 := heap_alloc_new ((w.alloc (.cells #[.int .u8 (s0.toNat : Int), .int .u8 (s1.toNat : Int), .int .u8 (s2.toNat : Int), .int .u8 (s3.toNat : Int)] 27)).alloc (.cells #[.int .u8 (d0.toNat : Int), .int .u8 (d1.toNat : Int), .int .u8 (d2.toNat : Int), .int .u8 (d3.toNat : Int)] 27)) (.cells #[.int .u16 0, .int .u16 0, .slice none 0 0] 43)
  rw [show ((w.alloc (.cells #[.int .u8 (s0.toNat : Int), .int .u8 (s1.toNat : Int), .int .u8 (s2.toNat : Int), .int .u8 (s3.toNat : Int)] 27)).alloc (.cells #[.int .u8 (d0.toNat : Int), .int .u8 (d1.toNat : Int), .int .u8 (d2.toNat : Int), .int .u8 (d3.toNat : Int)] 27)).heap.size = w.heap.size + 1 + 1 by simp] at hb2
  have hb4 := heap_alloc_new (((w.alloc (.cells #[.int .u8 (s0.toNat : Int), .int .u8 (s1.toNat : Int), .int .u8 (s2.toNat : Int), .int .u8 (s3.toNat : Int)] 27)).alloc (.cells #[.int .u8 (d0.toNat : Int), .int .u8 (d1.toNat : Int), .int .u8 (d2.toNat : Int), .int .u8 (d3.toNat : Int)] 27)).alloc (.cells #[.int .u16 0, .int .u16 0, .slice none 0 0] 43)) (.cells #[.int .u16 0, .int .u16 0, .slice none 0 0] 43)
  rw [show (((w.alloc (.cells #[.int .u8 (s0.toNat : Int), .int .u8 (s1.toNat : Int), .int .u8 (s2.toNat : Int), .int .u8 (s3.toNat : Int)] 27)).alloc (.cells #[.int .u8 (d0.toNat : Int), .int .u8 (d1.toNat : Int), .int .u8 (d2.toNat : Int), .int .u8 (d3.toNat : Int)] 27)).alloc (.cells #[.int .u16 0, .int .u16 0, .slice none 0 0] 43)).heap.size = w.heap.size + 1 + 1 + 1 by simp] at hb4
  have hb2' := (Below.heap_alloc (((w.alloc (.cells #[.int .u8 (s0.toNat : Int), .int .u8 (s1.toNat : Int), .int .u8 (s2.toNat : Int), .int .u8 (s3.toNat : Int)] 27)).alloc (.cells #[.int .u8 (d0.toNat : Int), .int .u8 (d1.toNat : Int), .int .u8 (d2.toNat : Int), .int .u8 (d3.toNat : Int)] 27)).alloc (.cells #[.int .u16 0, .int .u16 0, .slice none 0 0] 43)) (.cells #[.int .u16 0, .int .u16 0, .slice none 0 0] 43) _ (Array.getElem?_eq_some_iff.1 hb2).1).trans hb2
  have HRW : Hid (∀ W, Kp ((((w.alloc (.cells #[.int .u8 (s0.toNat : Int), .int .u8 (s1.toNat : Int), .int .u8 (s2.toNat : Int), .int .u8 (s3.toNat : Int)] 27)).alloc (.cells #[.int .u8 (d0.toNat : Int), .int .u8 (d1.toNat : Int), .int .u8 (d2.toNat : Int), .int .u8 (d3.toNat : Int)] 27)).alloc (.cells #[.int .u16 0, .int .u16 0, .slice none 0 0] 43)).alloc (.cells #[.int .u16 0, .int .u16 0, .slice none 0 0] 43)) W → W.heap[w.heap.size + 1 + 1]? = some (.cells #[.int .u16 0, .int .u16 0, .slice none 0 0] 43 (0, 0))) := Lib.hid fun W hk => (hk.block _ (Array.getElem?_eq_some_iff.1 hb2').1).trans hb2'
  have HRN : Hid (∀ W, Kp ((((w.alloc (.cells #[.int .u8 (s0.toNat : Int), .int .u8 (s1.toNat : Int), .int .u8 (s2.toNat : Int), .int .u8 (s3.toNat : Int)] 27)).alloc (.cells #[.int .u8 (d0.toNat : Int), .int .u8 (d1.toNat : Int), .int .u8 (d2.toNat : Int), .int .u8 (d3.toNat : Int)] 27)).alloc (.cells #[.int .u16 0, .int .u16 0, .slice none 0 0] 43)).alloc (.cells #[.int .u16 0, .int .u16 0, .slice none 0 0] 43)) W → W.heap[w.heap.size + 1 + 1 + 1]? = some (.cells #[.int .u16 0, .int .u16 0, .slice none 0 0] 43 (0, 0))) := Lib.hid fun W hk => (hk.block _ (Array.getElem?_eq_some_iff.1 hb4).1).trans hb4
  have HKX : Hid (Kp ((w.alloc (.cells #[.int .u8 (s0.toNat : Int), .int .u8 (s1.toNat : Int), .int .u8 (s2.toNat : Int), .int .u8 (s3.toNat : Int)] 27)).alloc (.cells #[.int .u8 (d0.toNat : Int), .int .u8 (d1.toNat : Int), .int .u8 (d2.toNat : Int), .int .u8 (d3.toNat : Int)] 27)) ((((w.alloc (.cells #[.int .u8 (s0.toNat : Int), .int .u8 (s1.toNat : Int), .int .u8 (s2.toNat : Int), .int .u8 (s3.toNat : Int)] 27)).alloc (.cells #[.int .u8 (d0.toNat : Int), .int .u8 (d1.toNat : Int), .int .u8 (d2.toNat : Int), .int .u8 (d3.toNat : Int)] 27)).alloc (.cells #[.int .u16 0, .int .u16 0, .slice none 0 0] 43)).alloc (.cells #[.int .u16 0, .int .u16 0, .slice none 0 0] 43))) := Lib.hid (((Kp.refl _).alloc _).alloc _)
  have KH := cells8h w s0 s1 s2 s3 d0 d1 d2 d3
  have HKH := Lib.hid KH
  have K0 : Kp ((((w.alloc (.cells #[.int .u8 (s0.toNat : Int), .int .u8 (s1.toNat : Int), .int .u8 (s2.toNat : Int), .int .u8 (s3.toNat : Int)] 27)).alloc (.cells #[.int .u8 (d0.toNat : Int), .int .u8 (d1.toNat : Int), .int .u8 (d2.toNat : Int), .int .u8 (d3.toNat : Int)] 27)).alloc (.cells #[.int .u16 0, .int .u16 0, .slice none 0 0] 43)).alloc (.cells #[.int .u16 0, .int .u16 0, .slice none 0 0] 43)) ((((w.alloc (.cells #[.int .u8 (s0.toNat : Int), .int .u8 (s1.toNat : Int), .int .u8 (s2.toNat : Int), .int .u8 (s3.toNat : Int)] 27)).alloc (.cells #[.int .u8 (d0.toNat : Int), .int .u8 (d1.toNat : Int), .int .u8 (d2.toNat : Int), .int .u8 (d3.toNat : Int)] 27)).alloc (.cells #[.int .u16 0, .int .u16 0, .slice none 0 0] 43)).alloc (.cells #[.int .u16 0, .int .u16 0, .slice none 0 0] 43)) := Kp.refl _
  have HK0 := Lib.hid K0
  have hsz := str_size l
  obtain ⟨n, hlen⟩ : ∃ n, l.length = n := ⟨_, rfl⟩
  have i1 : ¬ (1000 : Int) < (n : Int) := by omega
  clear KB K0 hb2 hb4 hb2' KH
  by_cases hs : n < 8
  · have HO' : Hid (outG [s0, s1, s2, s3] [d0, d1, d2, d3] l = .inl 6) := Lib.hid (outG_short (by omega))
    rw [hlen] at hsz
    clear hlen
    go_enter Try.func17, Try.ntmps17
    go_wp2_with (first | (refine lld_row (by rfl) (.tmp 8) _ _ rfl rfl (HRN.out _ (HK0.out)) Try.underlying43 rfl szGram ?_) | (refine lst_row (by rfl) (.tmp 6) (.tmp 18) _ rfl rfl rfl (HRW.out _ (HK0.out)) szGram rfl rfl rfl ?_) | (refine lst_new (by rfl) (.tmp 8) (.tmp 10) _ rfl rfl rfl szGram rfl rfl rfl ?_))
    refine bodyPost_ret (v := .tuple #[.agg #[.int .u16 0, .int .u16 0, .slice none 0 0], .int .i64 6]) (results_cell2 (fn := Try.f17) szGram uGram (setRow_heap _ _ _ #[.int .u16 0, .int .u16 0, .slice none 0 0] _ _ (HRW.out _ (HK0.out))) rfl Try.results17 rfl rfl) rfl (.inl ⟨6, by decide, HO'.out, (HKB.out.trans (HK0.out)).setRow (by omega), rfl⟩)
  obtain ⟨a0, a1, b0, b1, n0, n1, c0, c1, r, rfl⟩ := len8s l (by omega)
  obtain ⟨L, hL⟩ : ∃ L, a0 :: a1 :: b0 :: b1 :: n0 :: n1 :: c0 :: c1 :: r = L := ⟨_, rfl⟩
  have e1 := a0.toNat_lt
  have e2 := a1.toNat_lt
  have e3 := b0.toNat_lt
  have e4 := b1.toNat_lt
  have e5 := n0.toNat_lt
  have e6 := n1.toNat_lt
  have e7 := c0.toNat_lt
  have e8 := c1.toNat_lt
  obtain ⟨N, hN⟩ : ∃ N, 256 * n0.toNat + n1.toNat = N := ⟨_, rfl⟩
  obtain ⟨cs, hcs⟩ : ∃ cs, 256 * c0.toNat + c1.toNat = cs := ⟨_, rfl⟩
  obtain ⟨sp, hsp⟩ : ∃ sp, 256 * a0.toNat + a1.toNat = sp := ⟨_, rfl⟩
  obtain ⟨dp, hdp⟩ : ∃ dp, 256 * b0.toNat + b1.toNat = dp := ⟨_, rfl⟩
  have hN2 : N ≤ 65535 := by omega
  have hcs2 : cs ≤ 65535 := by omega
  have hsp2 : sp ≤ 65535 := by omega
  have hdp2 : dp ≤ 65535 := by omega
  have HO : Hid (outG [s0, s1, s2, s3] [d0, d1, d2, d3] L = if N < 8 then .inl 7 else if L.length < N then .inl 6 else if cs ≠ 0 ∧ Ck.ck (pseudo [s0, s1, s2, s3] [d0, d1, d2, d3] 17 N ++ L.take N) ≠ 65535 then .inl 8 else .inr (sp, dp, r.take (N - 8))) := Lib.hid (by rw [← hL, ← hN, ← hcs, ← hsp, ← hdp]; rfl)
  rw [hL] at hlen hn hsz ⊢
  have NN : Hid ((∀ W, Calls Try.prog 26 #[.string (str L), .int .i64 0] W fun e w' => e = .returned (.int .i64 (sp : Int)) ∧ Kp W w') ∧ (∀ W, Calls Try.prog 26 #[.string (str L), .int .i64 2] W fun e w' => e = .returned (.int .i64 (dp : Int)) ∧ Kp W w') ∧ (∀ W, Calls Try.prog 26 #[.string (str L), .int .i64 6] W fun e w' => e = .returned (.int .i64 (cs : Int)) ∧ Kp W w') ∧ (∀ W, Calls Try.prog 26 #[.string (str L), .int .i64 4] W fun e w' => e = .returned (.int .i64 (N : Int)) ∧ Kp W w')) := Lib.hid ⟨fun W => by
    have h := num_any W (str L) 0 a0 a1 (by omega) (by omega) (by intro h; subst hL; rfl) (by intro h; subst hL; rfl)
    rw [hsp] at h; exact h, fun W => by
    have h := num_any W (str L) 2 b0 b1 (by omega) (by omega) (by intro h; subst hL; rfl) (by intro h; subst hL; rfl)
    rw [hdp] at h; exact h, fun W => by
    have h := num_any W (str L) 6 c0 c1 (by omega) (by omega) (by intro h; subst hL; rfl) (by intro h; subst hL; rfl)
    rw [hcs] at h; exact h, fun W => by
    have h := num_any W (str L) 4 n0 n1 (by omega) (by omega) (by intro h; subst hL; rfl) (by intro h; subst hL; rfl)
    rw [hN] at h; exact h⟩
  have hrl : r.length + 8 = n := by rw [← hlen, ← hL]; simp only [List.length_cons]
  obtain ⟨LN, hLN⟩ : ∃ LN, L.take N = LN := ⟨_, rfl⟩
  obtain ⟨data, hdata⟩ : ∃ data, r.take (N - 8) = data := ⟨_, rfl⟩
  obtain ⟨PS, hPS⟩ : ∃ PS, pseudo [s0, s1, s2, s3] [d0, d1, d2, d3] 17 N = PS := ⟨_, rfl⟩
  have hP12 : PS.length = 12 := by rw [← hPS]; rfl
  have xN : (str L).extract 0 N = str LN := by rw [str_extract, ← hLN, List.drop_zero]
  have xd : 8 ≤ N → (str L).extract 8 N = str data := fun h8 => by
    obtain ⟨m, rfl⟩ : ∃ m, N = m + 8 := ⟨N - 8, by omega⟩
    rw [str_extract, ← hL, ← hdata]
    rfl
  have hLNl : LN.length ≤ 1000 := by rw [← hLN, List.length_take]; omega
  have hdl : data.length ≤ 1048576 := by rw [← hdata, List.length_take]; omega
  have HRL : Hid (data.length ≤ L.length) := Lib.hid (by rw [← hdata, List.length_take]; omega)
  have RP : Hid (∀ W, Calls Try.prog 24 #[.agg #[.int .u8 (s0.toNat : Int), .int .u8 (s1.toNat : Int), .int .u8 (s2.toNat : Int), .int .u8 (s3.toNat : Int)], .agg #[.int .u8 (d0.toNat : Int), .int .u8 (d1.toNat : Int), .int .u8 (d2.toNat : Int), .int .u8 (d3.toNat : Int)], .int .u8 17, .int .i64 (N : Int)] W fun e w' => e = .returned (.string (str PS)) ∧ Kp W w') := Lib.hid fun W => by
    have := rpseudo_any W s0 s1 s2 s3 d0 d1 d2 d3 17 N (by omega)
    rw [hPS] at this; exact this
  have RF : Hid (∀ W, Calls Try.prog 25 #[.string (str (PS ++ LN))] W fun e w' => e = .returned (.int .u16 (Ck.ck (PS ++ LN) : Nat)) ∧ W = w') := Lib.hid fun W => by
    have := rfold_any W (str (PS ++ LN)) (by rw [str_size, List.length_append]; omega)
    rw [str_list] at this; exact this
  obtain ⟨ck, hck⟩ : ∃ ck, Ck.ck (PS ++ LN) = ck := ⟨_, rfl⟩
  have hckb := Ck.ck_le (PS ++ LN)
  rw [hPS, hLN, hdata, hck, hlen] at HO
  rw [hck] at RF hckb
  rw [hlen] at hsz hn
  clear hck hlen hL hsp hdp hcs hN e1 e2 e3 e4 e5 e6 e7 e8 hrl hLN hdata hPS
  have hap := str_append
  have hsl := str_size
  obtain ⟨S, hS⟩ : ∃ S, str L = S := ⟨_, rfl⟩
  rw [hS] at hsz NN xd xN ⊢
  clear hS
  have i2 : ¬ (n : Int) < 8 := by omega
  have hov : ¬ 9223372036854775807 < 12 + LN.length := by omega
  go_enter Try.func17, Try.ntmps17
  go_wp2_with (refine lst_new (by rfl) (.tmp 8) (.tmp 10) _ rfl rfl rfl szGram rfl rfl rfl ?_)
  refine (NN.out.2.2.2 _).mono ?_
  rintro e w4 ⟨rfl, hk4⟩
  have HK4 := Lib.hid hk4
  clear hk4
  by_cases h1 : N < 8
  · have HO' : Hid (outG [s0, s1, s2, s3] [d0, d1, d2, d3] L = .inl 7) := Lib.hid (by rw [HO.out, if_pos h1])
    have y1 : (N : Int) < 8 := by omega
    clear xd xN
    go_wp2_with (first | (refine lld_row (by rfl) (.tmp 8) _ _ rfl rfl (HRN.out _ (HK4.out)) Try.underlying43 rfl szGram ?_) | (refine lst_row (by rfl) (.tmp 6) (.tmp 23) _ rfl rfl rfl (HRW.out _ (HK4.out)) szGram rfl rfl rfl ?_) | (refine lst_new (by rfl) (.tmp 8) (.tmp 10) _ rfl rfl rfl szGram rfl rfl rfl ?_))
    refine bodyPost_ret (v := .tuple #[.agg #[.int .u16 0, .int .u16 0, .slice none 0 0], .int .i64 7]) (results_cell2 (fn := Try.f17) szGram uGram (setRow_heap _ _ _ #[.int .u16 0, .int .u16 0, .slice none 0 0] _ _ (HRW.out _ (HK4.out))) rfl Try.results17 rfl rfl) rfl (.inl ⟨7, by decide, HO'.out, (HKB.out.trans (HK4.out)).setRow (by omega), rfl⟩)
  have y1 : ¬ (N : Int) < 8 := by omega
  by_cases h2 : n < N
  · have HO' : Hid (outG [s0, s1, s2, s3] [d0, d1, d2, d3] L = .inl 6) := Lib.hid (by rw [HO.out, if_neg h1, if_pos h2])
    have y2 : (n : Int) < (N : Int) := by omega
    clear xd xN
    go_wp2_with (first | (refine lld_row (by rfl) (.tmp 8) _ _ rfl rfl (HRN.out _ (HK4.out)) Try.underlying43 rfl szGram ?_) | (refine lst_row (by rfl) (.tmp 6) (.tmp 28) _ rfl rfl rfl (HRW.out _ (HK4.out)) szGram rfl rfl rfl ?_) | (refine lst_new (by rfl) (.tmp 8) (.tmp 10) _ rfl rfl rfl szGram rfl rfl rfl ?_))
    refine bodyPost_ret (v := .tuple #[.agg #[.int .u16 0, .int .u16 0, .slice none 0 0], .int .i64 6]) (results_cell2 (fn := Try.f17) szGram uGram (setRow_heap _ _ _ #[.int .u16 0, .int .u16 0, .slice none 0 0] _ _ (HRW.out _ (HK4.out))) rfl Try.results17 rfl rfl) rfl (.inl ⟨6, by decide, HO'.out, (HKB.out.trans (HK4.out)).setRow (by omega), rfl⟩)
  have y2 : ¬ (n : Int) < (N : Int) := by omega
  replace xd := xd (by omega)
  have p8 : 8 ≤ N := by omega
  have p8' : (8 : Int) ≤ (N : Int) := by omega
  have pn : N ≤ n := by omega
  have pn' : (N : Int) ≤ (n : Int) := by omega
  have pN0 : (0 : Int) ≤ (N : Int) := by omega
  have u1 : IntKind.u16.wrap (sp : Int) = (sp : Int) := wrap_u16 (by omega) (by omega)
  have u2 : IntKind.u16.wrap (dp : Int) = (dp : Int) := wrap_u16 (by omega) (by omega)
  obtain ⟨rt, hrt⟩ : ∃ rt, ((ck : Int) != 65535) = rt := ⟨_, rfl⟩
  have HOF : Hid (cs ≠ 0 → rt = true → outG [s0, s1, s2, s3] [d0, d1, d2, d3] L = .inl 8) := Lib.hid fun ha hb => by
    rw [HO.out, if_neg h1, if_neg h2, if_pos ⟨ha, by rw [hb] at hrt; simp at hrt; omega⟩]
  have HOT : Hid ((cs = 0 ∨ rt = false) → outG [s0, s1, s2, s3] [d0, d1, d2, d3] L = .inr (sp, dp, data)) := Lib.hid fun ha => by
    rw [HO.out, if_neg h1, if_neg h2, if_neg]
    rintro ⟨hb, hc⟩
    rcases ha with ha | ha
    · exact hb ha
    · rw [ha] at hrt; simp at hrt; omega
  have HKW : Hid (Kp ((w.alloc (.cells #[.int .u8 (s0.toNat : Int), .int .u8 (s1.toNat : Int), .int .u8 (s2.toNat : Int), .int .u8 (s3.toNat : Int)] 27)).alloc (.cells #[.int .u8 (d0.toNat : Int), .int .u8 (d1.toNat : Int), .int .u8 (d2.toNat : Int), .int .u8 (d3.toNat : Int)] 27)) w4) := Lib.hid (HKX.out.trans HK4.out)
  clear HO h1 h2 HKX
  have HKX := HKW
  clear HKW
  have KH := HKH.out
  have hlt4 : w.heap.size + 4 ≤ w4.heap.size := by have h := HK4.out.size; simp at h; omega
  have HLT := Lib.hid hlt4
  clear hlt4
  by_cases hc0 : cs = 0
  case' pos =>
    have hz : ((cs : Int) != 0) = false := by rw [hc0]; rfl
    have HQ : Hid (cs = 0 ∨ rt = false) := Lib.hid (.inl hc0)
    clear hc0 HOF
    go_wp2_with fail
    refine wp_region_stepsG (by kernel_rfl) 15 (rg8off S cs) [29, 30, 31, 32, 33, 34, 35, 36, 37, 38, 39, 40, 41, 42, 43] (by kernel_rfl) (by kernel_rfl) ⟨?_, ?_, ?_, ?_, ?_, ?_, ?_, ?_, ?_, ?_, ?_, ?_, ?_, ?_, ?_, trivial⟩ ?_
    · refine stepG_free rfl ?_
      intro a W hW hO hφ K hK
      have q0 : a.tmps.getD 0 undef = (.string S) := hO 0 (by kernel_rfl)
      have r0 := q0
      rw [Array.getD_eq_getD_getElem?] at r0
      clear hO hφ
      clear KH NN
      go_simp
      exact hK _ _ (Kp.refl _) rfl
    · refine stepG_free rfl ?_
      intro a W hW hO hφ K hK
      have q29 : a.tmps.getD 29 undef = (.string S) := hφ ⟨0, .data⟩ (by simp) rfl
      have r29 := q29
      rw [Array.getD_eq_getD_getElem?] at r29
      clear hO hφ
      clear KH
      go_simp
      go_at_call 26
      refine (NN.out.2.2.1 W).mono ?_
      rintro e w' ⟨rfl, hk⟩
      exact hK _ _ hk rfl
    · refine stepG_free rfl ?_
      intro a W hW hO hφ K hK
      have q30 : a.tmps.getD 30 undef = (.int .i64 (cs : Int)) := hφ ⟨1, .data⟩ (by simp) rfl
      have r30 := q30
      rw [Array.getD_eq_getD_getElem?] at r30
      clear hO hφ
      clear KH NN
      go_simp
      exact hK _ _ (Kp.refl _) rfl
    · refine stepG_free rfl ?_
      intro a W hW hO hφ K hK
      have q31 : a.tmps.getD 31 undef = (.bool false) := hφ ⟨2, .data⟩ (by simp) rfl
      have r31 := q31
      rw [Array.getD_eq_getD_getElem?] at r31
      clear hO hφ
      clear KH NN
      go_simp
      exact hK _ _ (Kp.refl _) rfl
    · exact stepG_off rfl (fun x W h => h) (fun W => rfl)
    · exact stepG_off rfl (fun x W h => h) (fun W => rfl)
    · exact stepG_off rfl (fun x W h => h) (fun W => rfl)
    · exact stepG_off rfl (fun x W h => h) (fun W => rfl)
    · exact stepG_off rfl (fun x W h => h) (fun W => rfl)
    · exact stepG_off rfl (fun x W h => h) (fun W => rfl)
    · exact stepG_off rfl (fun x W h => h) (fun W => rfl)
    · exact stepG_off rfl (fun x W h => h) (fun W => rfl)
    · exact stepG_off rfl (fun x W h => h) (fun W => rfl)
    · exact stepG_off rfl (fun x W h => h) (fun W => rfl)
    · refine stepG_free rfl ?_
      intro a W hW hO hφ K hK
      have q32 : a.tmps.getD 32 undef = (.bool false) := hφ ⟨3, .data⟩ (by simp) rfl
      have q42 : a.tmps.getD 42 undef = (undef) := hφ ⟨13, .data⟩ (by simp) rfl
      have r32 := q32
      rw [Array.getD_eq_getD_getElem?] at r32
      have r42 := q42
      rw [Array.getD_eq_getD_getElem?] at r42
      clear hO hφ
      clear KH NN
      go_simp
      exact hK _ _ (Kp.refl _) rfl
    intro f W hW hφ
    have v0 : f 0 = (.string S) := hφ 0 (by omega)
    have v1 : f 1 = (.int .i64 (cs : Int)) := hφ 1 (by omega)
    have v2 : f 2 = (.bool false) := hφ 2 (by omega)
    have v3 : f 3 = (.bool false) := hφ 3 (by omega)
    have v4 : f 4 = (undef) := hφ 4 (by omega)
    have v5 : f 5 = (undef) := hφ 5 (by omega)
    have v6 : f 6 = (undef) := hφ 6 (by omega)
    have v7 : f 7 = (undef) := hφ 7 (by omega)
    have v8 : f 8 = (undef) := hφ 8 (by omega)
    have v9 : f 9 = (undef) := hφ 9 (by omega)
    have v10 : f 10 = (undef) := hφ 10 (by omega)
    have v11 : f 11 = (undef) := hφ 11 (by omega)
    have v12 : f 12 = (undef) := hφ 12 (by omega)
    have v13 : f 13 = (undef) := hφ 13 (by omega)
    have v14 : f 14 = (.bool false) := hφ 14 (by omega)
    clear hφ
    simp only [putAll, List.setIfInBounds_toArray, List.set_cons_succ, List.set_cons_zero, v0, v1, v2, v3, v4, v5, v6, v7, v8, v9, v10, v11, v12, v13, v14]
    clear v0 v1 v2 v3 v4 v5 v6 v7 v8 v9 v10 v11 v12 v13 v14
    refine wpAny_done (by kernel_rfl) ?_ _
    have hkA : Kp ((((w.alloc (.cells #[.int .u8 (s0.toNat : Int), .int .u8 (s1.toNat : Int), .int .u8 (s2.toNat : Int), .int .u8 (s3.toNat : Int)] 27)).alloc (.cells #[.int .u8 (d0.toNat : Int), .int .u8 (d1.toNat : Int), .int .u8 (d2.toNat : Int), .int .u8 (d3.toNat : Int)] 27)).alloc (.cells #[.int .u16 0, .int .u16 0, .slice none 0 0] 43)).alloc (.cells #[.int .u16 0, .int .u16 0, .slice none 0 0] 43)) W := HK4.out.trans (Kp.trans ((Kp.refl _).drew) hW)
    have HLT2 : Hid (w.heap.size + 4 ≤ W.heap.size) := Lib.hid (by have h := (Kp.trans ((Kp.refl _).drew) hW).size; have := HLT.out; omega)
    clear hW KH
    go_wp2_with fail
  case' neg =>
    have hz : ((cs : Int) != 0) = true := by simp; omega
    have HC0 := Lib.hid hc0
    clear hc0
    go_wp2_with fail
    refine wp_region_stepsG (by kernel_rfl) 15 (rg8on w S N cs ck rt s0 s1 s2 s3 d0 d1 d2 d3 PS LN) [29, 30, 31, 32, 33, 34, 35, 36, 37, 38, 39, 40, 41, 42, 43] (by kernel_rfl) (by kernel_rfl) ⟨?_, ?_, ?_, ?_, ?_, ?_, ?_, ?_, ?_, ?_, ?_, ?_, ?_, ?_, ?_, trivial⟩ ?_
    · refine stepG_free rfl ?_
      intro a W hW hO hφ K hK
      have q0 : a.tmps.getD 0 undef = (.string S) := hO 0 (by kernel_rfl)
      have r0 := q0
      rw [Array.getD_eq_getD_getElem?] at r0
      clear hO hφ
      clear KH NN
      go_simp
      exact hK _ _ (Kp.refl _) rfl
    · refine stepG_free rfl ?_
      intro a W hW hO hφ K hK
      have q29 : a.tmps.getD 29 undef = (.string S) := hφ ⟨0, .data⟩ (by simp) rfl
      have r29 := q29
      rw [Array.getD_eq_getD_getElem?] at r29
      clear hO hφ
      clear KH
      go_simp
      go_at_call 26
      refine (NN.out.2.2.1 W).mono ?_
      rintro e w' ⟨rfl, hk⟩
      exact hK _ _ hk rfl
    · refine stepG_free rfl ?_
      intro a W hW hO hφ K hK
      have q30 : a.tmps.getD 30 undef = (.int .i64 (cs : Int)) := hφ ⟨1, .data⟩ (by simp) rfl
      have r30 := q30
      rw [Array.getD_eq_getD_getElem?] at r30
      clear hO hφ
      clear KH NN
      go_simp
      exact hK _ _ (Kp.refl _) rfl
    · refine stepG_free rfl ?_
      intro a W hW hO hφ K hK
      have q31 : a.tmps.getD 31 undef = (.bool true) := hφ ⟨2, .data⟩ (by simp) rfl
      have r31 := q31
      rw [Array.getD_eq_getD_getElem?] at r31
      clear hO hφ
      clear KH NN
      go_simp
      exact hK _ _ (Kp.refl _) rfl
    · refine stepG_on rfl (fun x W h => h) ?_
      intro a W hW hO hφ K hK
      have q4 : a.tmps.getD 4 undef = (.pointer (some ⟨w.heap.size, 0, none⟩)) := hO 4 (by kernel_rfl)
      have r4 := q4
      rw [Array.getD_eq_getD_getElem?] at r4
      clear hO hφ
      obtain ⟨⟨x0, x1, x2, x3⟩, ⟨y0, y1, y2, y3⟩⟩ := KH W (HKX.out.trans (Kp.trans ((Kp.refl _).drew) hW))
      clear KH NN
      go_simp
      exact hK _ _ (Kp.refl _) rfl
    · refine stepG_on rfl (fun x W h => h) ?_
      intro a W hW hO hφ K hK
      have q5 : a.tmps.getD 5 undef = (.pointer (some ⟨w.heap.size + 1, 0, none⟩)) := hO 5 (by kernel_rfl)
      have r5 := q5
      rw [Array.getD_eq_getD_getElem?] at r5
      clear hO hφ
      obtain ⟨⟨x0, x1, x2, x3⟩, ⟨y0, y1, y2, y3⟩⟩ := KH W (HKX.out.trans (Kp.trans ((Kp.refl _).drew) hW))
      clear KH NN
      go_simp
      exact hK _ _ (Kp.refl _) rfl
    · refine stepG_on rfl (fun x W h => h) ?_
      intro a W hW hO hφ K hK
      have q9 : a.tmps.getD 9 undef = (.int .i64 (N : Int)) := hO 9 (by kernel_rfl)
      have r9 := q9
      rw [Array.getD_eq_getD_getElem?] at r9
      clear hO hφ
      clear KH NN
      go_simp
      exact hK _ _ (Kp.refl _) rfl
    · refine stepG_on rfl (fun x W h => h) ?_
      intro a W hW hO hφ K hK
      have q33 : a.tmps.getD 33 undef = (.agg #[.int .u8 (s0.toNat : Int), .int .u8 (s1.toNat : Int), .int .u8 (s2.toNat : Int), .int .u8 (s3.toNat : Int)]) := hφ ⟨4, .data⟩ (by simp) rfl
      have q34 : a.tmps.getD 34 undef = (.agg #[.int .u8 (d0.toNat : Int), .int .u8 (d1.toNat : Int), .int .u8 (d2.toNat : Int), .int .u8 (d3.toNat : Int)]) := hφ ⟨5, .data⟩ (by simp) rfl
      have q35 : a.tmps.getD 35 undef = (.int .i64 (N : Int)) := hφ ⟨6, .data⟩ (by simp) rfl
      have r33 := q33
      rw [Array.getD_eq_getD_getElem?] at r33
      have r34 := q34
      rw [Array.getD_eq_getD_getElem?] at r34
      have r35 := q35
      rw [Array.getD_eq_getD_getElem?] at r35
      clear hO hφ
      clear KH
      go_simp
      go_at_call 24
      refine (RP.out _).mono ?_
      rintro e w' ⟨rfl, hk⟩
      exact hK _ _ hk rfl
    · refine stepG_on rfl (fun x W h => h) ?_
      intro a W hW hO hφ K hK
      have q0 : a.tmps.getD 0 undef = (.string S) := hO 0 (by kernel_rfl)
      have r0 := q0
      rw [Array.getD_eq_getD_getElem?] at r0
      clear hO hφ
      clear KH NN
      go_simp
      exact hK _ _ (Kp.refl _) rfl
    · refine stepG_on rfl (fun x W h => h) ?_
      intro a W hW hO hφ K hK
      have q9 : a.tmps.getD 9 undef = (.int .i64 (N : Int)) := hO 9 (by kernel_rfl)
      have r9 := q9
      rw [Array.getD_eq_getD_getElem?] at r9
      clear hO hφ
      clear KH NN
      go_simp
      exact hK _ _ (Kp.refl _) rfl
    · refine stepG_on rfl (fun x W h => h) ?_
      intro a W hW hO hφ K hK
      have q37 : a.tmps.getD 37 undef = (.string S) := hφ ⟨8, .data⟩ (by simp) rfl
      have q38 : a.tmps.getD 38 undef = (.int .i64 (N : Int)) := hφ ⟨9, .data⟩ (by simp) rfl
      have r37 := q37
      rw [Array.getD_eq_getD_getElem?] at r37
      have r38 := q38
      rw [Array.getD_eq_getD_getElem?] at r38
      clear hO hφ
      clear KH NN
      go_simp
      exact hK _ _ (Kp.refl _) rfl
    · refine stepG_on rfl (fun x W h => h) ?_
      intro a W hW hO hφ K hK
      have q36 : a.tmps.getD 36 undef = (.string (str PS)) := hφ ⟨7, .data⟩ (by simp) rfl
      have q39 : a.tmps.getD 39 undef = (.string (str LN)) := hφ ⟨10, .data⟩ (by simp) rfl
      have r36 := q36
      rw [Array.getD_eq_getD_getElem?] at r36
      have r39 := q39
      rw [Array.getD_eq_getD_getElem?] at r39
      clear hO hφ
      clear KH NN
      go_simp
      exact hK _ _ (Kp.refl _) rfl
    · refine stepG_on rfl (fun x W h => h) ?_
      intro a W hW hO hφ K hK
      have q40 : a.tmps.getD 40 undef = (.string (str (PS ++ LN))) := hφ ⟨11, .data⟩ (by simp) rfl
      have r40 := q40
      rw [Array.getD_eq_getD_getElem?] at r40
      clear hO hφ
      clear KH
      go_simp
      go_at_call 25
      refine (RF.out _).mono ?_
      rintro e w' ⟨rfl, rfl⟩
      exact hK _ _ (Kp.refl _) rfl
    · refine stepG_on rfl (fun x W h => h) ?_
      intro a W hW hO hφ K hK
      have q41 : a.tmps.getD 41 undef = (.int .u16 (ck : Int)) := hφ ⟨12, .data⟩ (by simp) rfl
      have r41 := q41
      rw [Array.getD_eq_getD_getElem?] at r41
      clear hO hφ
      clear KH NN
      go_simp
      exact hK _ _ (Kp.refl _) rfl
    · refine stepG_free rfl ?_
      intro a W hW hO hφ K hK
      have q32 : a.tmps.getD 32 undef = (.bool true) := hφ ⟨3, .data⟩ (by simp) rfl
      have q42 : a.tmps.getD 42 undef = (.bool rt) := hφ ⟨13, .data⟩ (by simp) rfl
      have r32 := q32
      rw [Array.getD_eq_getD_getElem?] at r32
      have r42 := q42
      rw [Array.getD_eq_getD_getElem?] at r42
      clear hO hφ
      clear KH NN
      go_simp
      exact hK _ _ (Kp.refl _) rfl
    intro f W hW hφ
    have v0 : f 0 = (.string S) := hφ 0 (by omega)
    have v1 : f 1 = (.int .i64 (cs : Int)) := hφ 1 (by omega)
    have v2 : f 2 = (.bool true) := hφ 2 (by omega)
    have v3 : f 3 = (.bool true) := hφ 3 (by omega)
    have v4 : f 4 = (.agg #[.int .u8 (s0.toNat : Int), .int .u8 (s1.toNat : Int), .int .u8 (s2.toNat : Int), .int .u8 (s3.toNat : Int)]) := hφ 4 (by omega)
    have v5 : f 5 = (.agg #[.int .u8 (d0.toNat : Int), .int .u8 (d1.toNat : Int), .int .u8 (d2.toNat : Int), .int .u8 (d3.toNat : Int)]) := hφ 5 (by omega)
    have v6 : f 6 = (.int .i64 (N : Int)) := hφ 6 (by omega)
    have v7 : f 7 = (.string (str PS)) := hφ 7 (by omega)
    have v8 : f 8 = (.string S) := hφ 8 (by omega)
    have v9 : f 9 = (.int .i64 (N : Int)) := hφ 9 (by omega)
    have v10 : f 10 = (.string (str LN)) := hφ 10 (by omega)
    have v11 : f 11 = (.string (str (PS ++ LN))) := hφ 11 (by omega)
    have v12 : f 12 = (.int .u16 (ck : Int)) := hφ 12 (by omega)
    have v13 : f 13 = (.bool rt) := hφ 13 (by omega)
    have v14 : f 14 = (.bool rt) := hφ 14 (by omega)
    clear hφ
    simp only [putAll, List.setIfInBounds_toArray, List.set_cons_succ, List.set_cons_zero, v0, v1, v2, v3, v4, v5, v6, v7, v8, v9, v10, v11, v12, v13, v14]
    clear v0 v1 v2 v3 v4 v5 v6 v7 v8 v9 v10 v11 v12 v13 v14
    refine wpAny_done (by kernel_rfl) ?_ _
    have hkA : Kp ((((w.alloc (.cells #[.int .u8 (s0.toNat : Int), .int .u8 (s1.toNat : Int), .int .u8 (s2.toNat : Int), .int .u8 (s3.toNat : Int)] 27)).alloc (.cells #[.int .u8 (d0.toNat : Int), .int .u8 (d1.toNat : Int), .int .u8 (d2.toNat : Int), .int .u8 (d3.toNat : Int)] 27)).alloc (.cells #[.int .u16 0, .int .u16 0, .slice none 0 0] 43)).alloc (.cells #[.int .u16 0, .int .u16 0, .slice none 0 0] 43)) W := HK4.out.trans (Kp.trans ((Kp.refl _).drew) hW)
    have HLT2 : Hid (w.heap.size + 4 ≤ W.heap.size) := Lib.hid (by have h := (Kp.trans ((Kp.refl _).drew) hW).size; have := HLT.out; omega)
    clear hW KH
    cases rt
    case' true =>
      have HO' := Lib.hid (HOF.out HC0.out rfl)
      go_wp2_with (first | (refine lld_row (by rfl) (.tmp 8) _ _ rfl rfl (HRN.out _ (hkA)) Try.underlying43 rfl szGram ?_) | (refine lst_row (by rfl) (.tmp 6) (.tmp 44) _ rfl rfl rfl (HRW.out _ (hkA)) szGram rfl rfl rfl ?_) | (refine lst_new (by rfl) (.tmp 8) (.tmp 10) _ rfl rfl rfl szGram rfl rfl rfl ?_))
      refine bodyPost_ret (v := .tuple #[.agg #[.int .u16 0, .int .u16 0, .slice none 0 0], .int .i64 8]) (results_cell2 (fn := Try.f17) szGram uGram (setRow_heap _ _ _ #[.int .u16 0, .int .u16 0, .slice none 0 0] _ _ (HRW.out _ (hkA))) rfl Try.results17 rfl rfl) rfl (.inl ⟨8, by decide, HO'.out, (HKB.out.trans (hkA)).setRow (by omega), rfl⟩)
    case' false =>
      have HQ : Hid (cs = 0 ∨ false = false) := Lib.hid (.inr rfl)
      go_wp2_with fail
  all_goals
    have HKA := Lib.hid hkA
    clear hkA
    refine wp_region_steps (by kernel_rfl) 11 (rg8phi w S sp dp N data) [45, 46, 47, 48, 49, 50, 51, 52, 53, 54, 55] (by kernel_rfl) (by kernel_rfl) ⟨?_, ?_, ?_, ?_, ?_, ?_, ?_, ?_, ?_, ?_, ?_, trivial⟩ ?_
    · intro a W hW hO hφ K hK
      have q0 : a.tmps.getD 0 undef = (.string S) := hO 0 (by kernel_rfl)
      have r0 := q0
      rw [Array.getD_eq_getD_getElem?] at r0
      clear hO hφ
      clear NN
      go_simp
      exact hK _ _ (Kp.refl _) rfl
    · intro a W hW hO hφ K hK
      have q45 : a.tmps.getD 45 undef = (.string S) := hφ ⟨0, .data⟩ (by simp) rfl
      have r45 := q45
      rw [Array.getD_eq_getD_getElem?] at r45
      clear hO hφ
      go_simp
      go_at_call 26
      refine (NN.out.1 W).mono ?_
      rintro e w' ⟨rfl, hk⟩
      exact hK _ _ hk rfl
    · intro a W hW hO hφ K hK
      have q46 : a.tmps.getD 46 undef = (.int .i64 (sp : Int)) := hφ ⟨1, .data⟩ (by simp) rfl
      have r46 := q46
      rw [Array.getD_eq_getD_getElem?] at r46
      clear hO hφ
      clear NN
      go_simp
      exact hK _ _ (Kp.refl _) rfl
    · intro a W hW hO hφ K hK
      have q0 : a.tmps.getD 0 undef = (.string S) := hO 0 (by kernel_rfl)
      have r0 := q0
      rw [Array.getD_eq_getD_getElem?] at r0
      clear hO hφ
      clear NN
      go_simp
      exact hK _ _ (Kp.refl _) rfl
    · intro a W hW hO hφ K hK
      have q48 : a.tmps.getD 48 undef = (.string S) := hφ ⟨3, .data⟩ (by simp) rfl
      have r48 := q48
      rw [Array.getD_eq_getD_getElem?] at r48
      clear hO hφ
      go_simp
      go_at_call 26
      refine (NN.out.2.1 W).mono ?_
      rintro e w' ⟨rfl, hk⟩
      exact hK _ _ hk rfl
    · intro a W hW hO hφ K hK
      have q49 : a.tmps.getD 49 undef = (.int .i64 (dp : Int)) := hφ ⟨4, .data⟩ (by simp) rfl
      have r49 := q49
      rw [Array.getD_eq_getD_getElem?] at r49
      clear hO hφ
      clear NN
      go_simp
      exact hK _ _ (Kp.refl _) rfl
    · intro a W hW hO hφ K hK
      have q0 : a.tmps.getD 0 undef = (.string S) := hO 0 (by kernel_rfl)
      have r0 := q0
      rw [Array.getD_eq_getD_getElem?] at r0
      clear hO hφ
      clear NN
      go_simp
      exact hK _ _ (Kp.refl _) rfl
    · intro a W hW hO hφ K hK
      have q9 : a.tmps.getD 9 undef = (.int .i64 (N : Int)) := hO 9 (by kernel_rfl)
      have r9 := q9
      rw [Array.getD_eq_getD_getElem?] at r9
      clear hO hφ
      clear NN
      go_simp
      exact hK _ _ (Kp.refl _) rfl
    · intro a W hW hO hφ K hK
      have q51 : a.tmps.getD 51 undef = (.string S) := hφ ⟨6, .data⟩ (by simp) rfl
      have q52 : a.tmps.getD 52 undef = (.int .i64 (N : Int)) := hφ ⟨7, .data⟩ (by simp) rfl
      have r51 := q51
      rw [Array.getD_eq_getD_getElem?] at r51
      have r52 := q52
      rw [Array.getD_eq_getD_getElem?] at r52
      clear hO hφ
      clear NN
      go_simp
      exact hK _ _ (Kp.refl _) rfl
    · intro a W hW hO hφ K hK
      have q53 : a.tmps.getD 53 undef = (.string (str data)) := hφ ⟨8, .data⟩ (by simp) rfl
      have r53 := q53
      rw [Array.getD_eq_getD_getElem?] at r53
      clear hO hφ
      clear NN
      have hcv := Lib.run_convert_string_bytes (P := Try.prog) W 9 23 5 (str data) Try.underlying9 Try.underlying23 Try.underlying5
      rw [str_size] at hcv
      go_simp
      exact hK _ _ (kp_bytes _ _ _) ⟨_, _, rfl, RdV.mono_lo (rd_bytes W _ data hdl).1 (by have := (Kp.trans ((Kp.refl _).drew) hW).size; have := HLT2.out; omega), (rd_bytes W _ data hdl).2⟩
    · intro a W hW hO hφ K hK
      have q47 : a.tmps.getD 47 undef = (.int .u16 (sp : Int)) := hφ ⟨2, .data⟩ (by simp) rfl
      have q50 : a.tmps.getD 50 undef = (.int .u16 (dp : Int)) := hφ ⟨5, .data⟩ (by simp) rfl
      have q54 : (St.rdk (w.heap.size + 4) data.length data).p (a.tmps.getD 54 undef) W := hφ ⟨9, .data⟩ (by simp) rfl
      have r47 := q47
      rw [Array.getD_eq_getD_getElem?] at r47
      have r50 := q50
      rw [Array.getD_eq_getD_getElem?] at r50
      clear hO hφ
      clear NN
      obtain ⟨A1, c1, q54', hr, hok⟩ := q54
      have r54 := q54'
      rw [Array.getD_eq_getD_getElem?] at r54
      go_simp
      exact hK _ _ (Kp.refl _) ⟨_, _, rfl, hr, hok⟩
    intro f W hW hφ
    have v0 : f 0 = (.string S) := hφ 0 (by omega)
    have v1 : f 1 = (.int .i64 (sp : Int)) := hφ 1 (by omega)
    have v2 : f 2 = (.int .u16 (sp : Int)) := hφ 2 (by omega)
    have v3 : f 3 = (.string S) := hφ 3 (by omega)
    have v4 : f 4 = (.int .i64 (dp : Int)) := hφ 4 (by omega)
    have v5 : f 5 = (.int .u16 (dp : Int)) := hφ 5 (by omega)
    have v6 : f 6 = (.string S) := hφ 6 (by omega)
    have v7 : f 7 = (.int .i64 (N : Int)) := hφ 7 (by omega)
    have v8 : f 8 = (.string (str data)) := hφ 8 (by omega)
    have v9 : (St.rdk (w.heap.size + 4) data.length data).p (f 9) W := hφ 9 (by omega)
    have v10 : (St.withRd (w.heap.size + 4) data.length data (fun A c => .agg #[.int .u16 (sp : Int), .int .u16 (dp : Int), .slice A data.length c])).p (f 10) W := hφ 10 (by omega)
    clear hφ
    simp only [putAll, List.setIfInBounds_toArray, List.set_cons_succ, List.set_cons_zero, v0, v1, v2, v3, v4, v5, v6, v7, v8]
    clear v0 v1 v2 v3 v4 v5 v6 v7 v8
    obtain ⟨A1, c1, hv, hr, hok⟩ := v10
    have hv' : f 10 = .agg #[.int .u16 (sp : Int), .int .u16 (dp : Int), .slice A1 data.length c1] := hv
    have hk7 : Kp ((((w.alloc (.cells #[.int .u8 (s0.toNat : Int), .int .u8 (s1.toNat : Int), .int .u8 (s2.toNat : Int), .int .u8 (s3.toNat : Int)] 27)).alloc (.cells #[.int .u8 (d0.toNat : Int), .int .u8 (d1.toNat : Int), .int .u8 (d2.toNat : Int), .int .u8 (d3.toNat : Int)] 27)).alloc (.cells #[.int .u16 0, .int .u16 0, .slice none 0 0] 43)).alloc (.cells #[.int .u16 0, .int .u16 0, .slice none 0 0] 43)) W := HKA.out.trans (Kp.trans ((Kp.refl _).drew) hW)
    have r7 := HRW.out _ hk7
    have r8 := setRow_heap W _ _ #[.int .u16 (sp : Int), .int .u16 (dp : Int), .slice A1 data.length c1] _ _ r7
    refine wpAny_ready (rs := [11]) (by kernel_rfl) (by simp) (AllReady.cons rfl (fun K' hK' => ?_) AllReady.nil)
    simp only [hv']
    split
    case isFalse hx => exact (hx rfl).elim
    refine ost_row (.tmp 6) (.tmp 55) _ rfl rfl rfl rfl r7 szGram rfl rfl ?_
    refine hK' _ _ ?_
    refine wpAny_ready (rs := [12]) (by kernel_rfl) (by simp) (AllReady.cons rfl (fun K2 hK2 => ?_) AllReady.nil)
    go_simp
    refine hK2 _ _ ?_
    refine wpAny_done (by kernel_rfl) ?_ _
    go_wp2
    refine bodyPost_ret (v := .tuple #[.agg #[.int .u16 (sp : Int), .int .u16 (dp : Int), .slice A1 data.length c1], .int .i64 0]) (results_cell2 (fn := Try.f17) szGram uGram r8 rfl Try.results17 rfl rfl) rfl
      (.inr ⟨sp, dp, data, HOT.out HQ.out, hsp2, hdp2, HRL.out, (HKB.out.trans hk7).setRow (by omega), A1, c1, rfl, RdV.mono_lo (RdV.setRow hr (by omega)) (by omega), hok⟩)
end Go.Proofs.Ytpjjanbcjkdciaa
