/-
  The contracts of the document's number of four bytes, and of its Open for segments.
-/
import Derived.Test.YtnoobifdaldfiaaO9
import Derived.Test.YtnoobifdaldfiaaOq9
namespace Go.Proofs.Ytnoobifdaldfiaa
open Go.RowKit

theorem take_drop2 (l : List UInt8) (k : Nat) (h : k + 1 < l.length) : (l.take (k + 2)).drop k = [l[k], l[k + 1]] := by
  rw [List.drop_take, show k + 2 - k = 2 by omega, List.drop_eq_getElem_cons (i := k) (by omega), List.drop_eq_getElem_cons (i := k + 1) (by omega)]
  rfl
theorem take_drop4 (l : List UInt8) (k : Nat) (h : k + 3 < l.length) : (l.take (k + 4)).drop k = [l[k], l[k + 1], l[k + 2], l[k + 3]] := by
  rw [List.drop_take, show k + 4 - k = 4 by omega, List.drop_eq_getElem_cons (i := k) (by omega), List.drop_eq_getElem_cons (i := k + 1) (by omega), List.drop_eq_getElem_cons (i := k + 1 + 1) (by omega), List.drop_eq_getElem_cons (i := k + 1 + 1 + 1) (by omega)]
  rfl
theorem num_be (W : World) (l : List UInt8) (k : Nat) (h : k + 1 < l.length) (hl : l.length ≤ 65536) :
    Calls Try.prog 48 #[.string (str l), .int .i64 (k : Int)] W fun e w' => e = .returned (.int .i64 (be ((l.take (k + 2)).drop k) : Nat)) ∧ Kp W w' := by
  rw [take_drop2 l k h]
  have := num_any W (str l) k l[k] l[k + 1] (by rw [str_size]; exact h) (by rw [str_size]; omega) (fun _ => rfl) (fun _ => rfl)
  have e : be [l[k], l[k + 1]] = 256 * l[k].toNat + l[k + 1].toNat := by simp [be]
  rw [e]
  exact this

set_option maxHeartbeats 400000 in
theorem rnum9_any (w : World) (l : List UInt8) (k : Nat) (h : k + 3 < l.length) (hl : l.length ≤ 65536) :
    Calls Try.prog 49 #[.string (str l), .int .i64 (k : Int)] w fun e w' => e = .returned (.int .u32 (be ((l.take (k + 4)).drop k) : Nat)) ∧ Kp w w' := by
  have n1 := fun W => num_be W l k (by omega) hl
  have n2 : ∀ W, Calls Try.prog 48 #[.string (str l), .int .i64 ((k : Int) + 2)] W fun e w' => e = .returned (.int .i64 (be ((l.take (k + 2 + 2)).drop (k + 2)) : Nat)) ∧ Kp W w' := fun W => by
    have := num_be W l (k + 2) (by omega) hl
    rw [show ((k + 2 : Nat) : Int) = (k : Int) + 2 by omega] at this
    exact this
  have e4 : be ((l.take (k + 4)).drop k) = 65536 * be ((l.take (k + 2)).drop k) + be ((l.take (k + 2 + 2)).drop (k + 2)) := by
    rw [take_drop4 l k h, take_drop2 l k (by omega), take_drop2 l (k + 2) (by omega)]
    show be [l[k], l[k + 1], l[k + 2], l[k + 3]] = 65536 * be [l[k], l[k + 1]] + be [l[k + 2], l[k + 3]]
    simp only [be, List.foldl_cons, List.foldl_nil]
    omega
  have b1 := be2_le ((l.take (k + 2)).drop k) (by rw [List.length_drop, List.length_take]; omega)
  have b2 := be2_le ((l.take (k + 2 + 2)).drop (k + 2)) (by rw [List.length_drop, List.length_take]; omega)
  rw [e4]
  obtain ⟨x, hx⟩ : ∃ x, be ((l.take (k + 2)).drop k) = x := ⟨_, rfl⟩
  obtain ⟨y, hy⟩ : ∃ y, be ((l.take (k + 2 + 2)).drop (k + 2)) = y := ⟨_, rfl⟩
  rw [hx] at n1 b1 ⊢
  rw [hy] at n2 b2 ⊢
  clear e4 hx hy
  have u1 : IntKind.u32.wrap (x : Int) = (x : Int) := wrap_u32 (by omega) (by omega)
  have u2 : IntKind.u32.wrap (y : Int) = (y : Int) := wrap_u32 (by omega) (by omega)
  have u3 : IntKind.u32.wrap ((x : Int) * 65536) = (x : Int) * 65536 := wrap_u32 (by omega) (by omega)
  have u4 : IntKind.u32.wrap ((x : Int) * 65536 + (y : Int)) = (x : Int) * 65536 + (y : Int) := wrap_u32 (by omega) (by omega)
  have hk6 : (k : Int) + 2 < 65536 := by omega
  go_enter Try.func49, Try.ntmps49
  go_wp2_with fail
  refine (n1 _).mono ?_
  rintro e w1 ⟨rfl, hk1⟩
  go_wp2_with fail
  refine (n2 _).mono ?_
  rintro e w2 ⟨rfl, hk2⟩
  go_wp2
  go_ret
  exact ⟨ret_int (by omega), hk1.trans hk2⟩

theorem rowQ9 (w : World) (s0 s1 s2 s3 d0 d1 d2 d3 : UInt8) (W : World) (hk : Kp ((((w.alloc (.cells #[.int .u8 (s0.toNat : Int), .int .u8 (s1.toNat : Int), .int .u8 (s2.toNat : Int), .int .u8 (s3.toNat : Int)] 28)).alloc (.cells #[.int .u8 (d0.toNat : Int), .int .u8 (d1.toNat : Int), .int .u8 (d2.toNat : Int), .int .u8 (d3.toNat : Int)] 28)).alloc (.cells #[.int .u16 0, .int .u16 0, .int .u32 0, .int .u32 0, .int .u8 0, .int .u16 0, .int .u16 0, .slice none 0 0] 26)).alloc (.cells #[.int .u16 0, .int .u16 0, .int .u32 0, .int .u32 0, .int .u8 0, .int .u16 0, .int .u16 0, .slice none 0 0] 26)) W) : W.heap[w.heap.size + 1 + 1 + 1]? = some (.cells #[.int .u16 0, .int .u16 0, .int .u32 0, .int .u32 0, .int .u8 0, .int .u16 0, .int .u16 0, .slice none 0 0] 26 (0, 0)) := by
  have e2 : (((w.alloc (.cells #[.int .u8 (s0.toNat : Int), .int .u8 (s1.toNat : Int), .int .u8 (s2.toNat : Int), .int .u8 (s3.toNat : Int)] 28)).alloc (.cells #[.int .u8 (d0.toNat : Int), .int .u8 (d1.toNat : Int), .int .u8 (d2.toNat : Int), .int .u8 (d3.toNat : Int)] 28)).alloc (.cells #[.int .u16 0, .int .u16 0, .int .u32 0, .int .u32 0, .int .u8 0, .int .u16 0, .int .u16 0, .slice none 0 0] 26)).heap.size = w.heap.size + 1 + 1 + 1 := by simp
  have h := heap_alloc_new (((w.alloc (.cells #[.int .u8 (s0.toNat : Int), .int .u8 (s1.toNat : Int), .int .u8 (s2.toNat : Int), .int .u8 (s3.toNat : Int)] 28)).alloc (.cells #[.int .u8 (d0.toNat : Int), .int .u8 (d1.toNat : Int), .int .u8 (d2.toNat : Int), .int .u8 (d3.toNat : Int)] 28)).alloc (.cells #[.int .u16 0, .int .u16 0, .int .u32 0, .int .u32 0, .int .u8 0, .int .u16 0, .int .u16 0, .slice none 0 0] 26)) (.cells #[.int .u16 0, .int .u16 0, .int .u32 0, .int .u32 0, .int .u8 0, .int .u16 0, .int .u16 0, .slice none 0 0] 26)
  rw [e2] at h
  exact (hk.block _ (by simp)).trans h

noncomputable def q9phi (w : World) (S : ByteArray) (hd sp dp sq ak wn ms : Nat) (x13 fl : UInt8) (data : List UInt8) : Nat → St := fun i => ([St.val (.string S),
  St.val (.int .i64 (sp : Int)),
  St.val (.int .u16 (sp : Int)),
  St.val (.string S),
  St.val (.int .i64 (dp : Int)),
  St.val (.int .u16 (dp : Int)),
  St.val (.string S),
  St.val (.int .u32 (sq : Int)),
  St.val (.string S),
  St.val (.int .u32 (ak : Int)),
  St.val (.string S),
  St.val (.int .u8 (x13.toNat : Int)),
  St.val (.int .u8 (fl.toNat : Int)),
  St.val (.string S),
  St.val (.int .i64 (wn : Int)),
  St.val (.int .u16 (wn : Int)),
  St.val (.int .u16 (ms : Int)),
  St.val (.string S),
  St.val (.int .i64 (hd : Int)),
  St.val (.string (str data)),
  St.rdk (w.heap.size + 3) data.length data,
  St.withRd (w.heap.size + 3) data.length data (fun A c => .agg #[.int .u16 (sp : Int), .int .u16 (dp : Int), .int .u32 (sq : Int), .int .u32 (ak : Int), .int .u8 (fl.toNat : Int), .int .u16 (wn : Int), .int .u16 (ms : Int), .slice A data.length c])] : List St).getD i St.any

set_option maxRecDepth 100000 in
set_option maxHeartbeats 4000000 in
theorem q9_any (w : World) (l : List UInt8) (s0 s1 s2 s3 d0 d1 d2 d3 : UInt8) (hn : l.length ≤ 60000) :
    Calls Try.prog 22 #[.string (str l), .agg #[.int .u8 (s0.toNat : Int), .int .u8 (s1.toNat : Int), .int .u8 (s2.toNat : Int), .int .u8 (s3.toNat : Int)], .agg #[.int .u8 (d0.toNat : Int), .int .u8 (d1.toNat : Int), .int .u8 (d2.toNat : Int), .int .u8 (d3.toNat : Int)]] w (O9Post w [s0, s1, s2, s3] [d0, d1, d2, d3] l) := by
  have KB : Kp w ((((w.alloc (.cells #[.int .u8 (s0.toNat : Int), .int .u8 (s1.toNat : Int), .int .u8 (s2.toNat : Int), .int .u8 (s3.toNat : Int)] 28)).alloc (.cells #[.int .u8 (d0.toNat : Int), .int .u8 (d1.toNat : Int), .int .u8 (d2.toNat : Int), .int .u8 (d3.toNat : Int)] 28)).alloc (.cells #[.int .u16 0, .int .u16 0, .int .u32 0, .int .u32 0, .int .u8 0, .int .u16 0, .int .u16 0, .slice none 0 0] 26)).alloc (.cells #[.int .u16 0, .int .u16 0, .int .u32 0, .int .u32 0, .int .u8 0, .int .u16 0, .int .u16 0, .slice none 0 0] 26)) := ((((Kp.refl w).alloc _).alloc _).alloc _).alloc _
  have HKB := Lib.hid KB
  have HRW : Hid (∀ W, Kp ((((w.alloc (.cells #[.int .u8 (s0.toNat : Int), .int .u8 (s1.toNat : Int), .int .u8 (s2.toNat : Int), .int .u8 (s3.toNat : Int)] 28)).alloc (.cells #[.int .u8 (d0.toNat : Int), .int .u8 (d1.toNat : Int), .int .u8 (d2.toNat : Int), .int .u8 (d3.toNat : Int)] 28)).alloc (.cells #[.int .u16 0, .int .u16 0, .int .u32 0, .int .u32 0, .int .u8 0, .int .u16 0, .int .u16 0, .slice none 0 0] 26)).alloc (.cells #[.int .u16 0, .int .u16 0, .int .u32 0, .int .u32 0, .int .u8 0, .int .u16 0, .int .u16 0, .slice none 0 0] 26)) W → W.heap[w.heap.size + 1 + 1]? = some (.cells #[.int .u16 0, .int .u16 0, .int .u32 0, .int .u32 0, .int .u8 0, .int .u16 0, .int .u16 0, .slice none 0 0] 26 (0, 0))) := Lib.hid fun W hk => rowO9 w s0 s1 s2 s3 d0 d1 d2 d3 W (Kp.trans ((Kp.refl _).alloc _) hk)
  have HRN := Lib.hid (rowQ9 w s0 s1 s2 s3 d0 d1 d2 d3)
  have KS : Hid (∀ W, Kp ((((w.alloc (.cells #[.int .u8 (s0.toNat : Int), .int .u8 (s1.toNat : Int), .int .u8 (s2.toNat : Int), .int .u8 (s3.toNat : Int)] 28)).alloc (.cells #[.int .u8 (d0.toNat : Int), .int .u8 (d1.toNat : Int), .int .u8 (d2.toNat : Int), .int .u8 (d3.toNat : Int)] 28)).alloc (.cells #[.int .u16 0, .int .u16 0, .int .u32 0, .int .u32 0, .int .u8 0, .int .u16 0, .int .u16 0, .slice none 0 0] 26)).alloc (.cells #[.int .u16 0, .int .u16 0, .int .u32 0, .int .u32 0, .int .u8 0, .int .u16 0, .int .u16 0, .slice none 0 0] 26)) W → _) := Lib.hid fun W hk => cellsO9 w s0 s1 s2 s3 d0 d1 d2 d3 W (Kp.trans ((Kp.refl _).alloc _) hk)
  have K0 : Kp ((((w.alloc (.cells #[.int .u8 (s0.toNat : Int), .int .u8 (s1.toNat : Int), .int .u8 (s2.toNat : Int), .int .u8 (s3.toNat : Int)] 28)).alloc (.cells #[.int .u8 (d0.toNat : Int), .int .u8 (d1.toNat : Int), .int .u8 (d2.toNat : Int), .int .u8 (d3.toNat : Int)] 28)).alloc (.cells #[.int .u16 0, .int .u16 0, .int .u32 0, .int .u32 0, .int .u8 0, .int .u16 0, .int .u16 0, .slice none 0 0] 26)).alloc (.cells #[.int .u16 0, .int .u16 0, .int .u32 0, .int .u32 0, .int .u8 0, .int .u16 0, .int .u16 0, .slice none 0 0] 26)) ((((w.alloc (.cells #[.int .u8 (s0.toNat : Int), .int .u8 (s1.toNat : Int), .int .u8 (s2.toNat : Int), .int .u8 (s3.toNat : Int)] 28)).alloc (.cells #[.int .u8 (d0.toNat : Int), .int .u8 (d1.toNat : Int), .int .u8 (d2.toNat : Int), .int .u8 (d3.toNat : Int)] 28)).alloc (.cells #[.int .u16 0, .int .u16 0, .int .u32 0, .int .u32 0, .int .u8 0, .int .u16 0, .int .u16 0, .slice none 0 0] 26)).alloc (.cells #[.int .u16 0, .int .u16 0, .int .u32 0, .int .u32 0, .int .u8 0, .int .u16 0, .int .u16 0, .slice none 0 0] 26)) := Kp.refl _
  have HK0 := Lib.hid K0
  have hsz := str_size l
  obtain ⟨n, hlen⟩ : ∃ n, l.length = n := ⟨_, rfl⟩
  clear KB K0
  by_cases hs : n < 20
  · have HO' : Hid (out9 [s0, s1, s2, s3] [d0, d1, d2, d3] l = .inl 6) := Lib.hid (by unfold out9; rw [hlen, if_pos hs])
    rw [hlen] at hsz
    clear hlen
    go_enter Try.func22, Try.ntmps22
    go_wp2_with (first | (refine lld_row (by rfl) (.tmp 8) _ _ rfl rfl (HRN.out _ (HK0.out)) Try.underlying26 rfl szSeg ?_) | (refine lst_row (by rfl) (.tmp 6) (.tmp 16) _ rfl rfl rfl (HRW.out _ (HK0.out)) szSeg rfl rfl rfl ?_) | (refine lst_new (by rfl) (.tmp 8) (.tmp 12) _ rfl rfl rfl szSeg rfl rfl rfl ?_))
    refine bodyPost_ret (v := .tuple #[.agg #[.int .u16 0, .int .u16 0, .int .u32 0, .int .u32 0, .int .u8 0, .int .u16 0, .int .u16 0, .slice none 0 0], .int .i64 6]) (results_cell2 (fn := Try.f22) szSeg uSeg (setRow_heap _ _ _ #[.int .u16 0, .int .u16 0, .int .u32 0, .int .u32 0, .int .u8 0, .int .u16 0, .int .u16 0, .slice none 0 0] _ _ (HRW.out _ (HK0.out))) rfl Try.results22 rfl rfl) rfl (.inl ⟨6, by decide, HO'.out, (HKB.out.trans (HK0.out)).setRow (by omega), rfl⟩)
  have hs20 : 20 ≤ l.length := by omega
  obtain ⟨x12, h12⟩ : ∃ x, l[12]'(by omega) = x := ⟨_, rfl⟩
  obtain ⟨x13, h13⟩ : ∃ x, l[13]'(by omega) = x := ⟨_, rfl⟩
  have g12 : ∀ h, (str l)[12]'h = x12 := fun h => h12
  have g13 : ∀ h, (str l)[13]'h = x13 := fun h => h13
  have hg12 : l.getD 12 0 = x12 := by rw [← h12]; simp [List.getD, List.getElem?_eq_getElem (show 12 < l.length by omega)]
  have hg13 : l.getD 13 0 = x13 := by rw [← h13]; simp [List.getD, List.getElem?_eq_getElem (show 13 < l.length by omega)]
  have b12 : x12.toNat < 256 := x12.toNat_lt
  have b13 : x13.toNat < 256 := x13.toNat_lt
  obtain ⟨q, hq⟩ : ∃ q, x12.toNat / 16 = q := ⟨_, rfl⟩
  have hq2 : q < 16 := by omega
  have q1 : (x12.toNat : Int) / 16 = (q : Int) := by omega
  have q1' : (x12.toNat : Int).tdiv 16 = (q : Int) := by rw [Int.tdiv_eq_ediv_of_nonneg (by omega)]; omega
  obtain ⟨hd, hhd⟩ : ∃ hd, 4 * q = hd := ⟨_, rfl⟩
  have hd2 : hd ≤ 60 := by omega
  have q2 : (q : Int) * 4 = (hd : Int) := by omega
  have q3 : 4 * (q : Int) = (hd : Int) := by omega
  have i20 : ¬ (n : Int) < 20 := by omega
  have p12 : 12 < n := by omega
  have p12' : (12 : Int) < (n : Int) := by omega
  have p13 : 13 < n := by omega
  have p13' : (13 : Int) < (n : Int) := by omega
  have HO : Hid (out9 [s0, s1, s2, s3] [d0, d1, d2, d3] l = if hd < 20 then .inl 7 else if n < hd then .inl 6 else if 1000 < n then .inl 4 else if Ck.ck (pseudo [s0, s1, s2, s3] [d0, d1, d2, d3] 6 n ++ l) ≠ 65535 then .inl 8
      else match opts ((l.take hd).drop 20) 0 with
        | none => .inl 7
        | some k => .inr ⟨be (l.take 2), be ((l.take 4).drop 2), be ((l.take 8).drop 4), be ((l.take 12).drop 8), UInt8.ofNat (x13.toNat % 32), be ((l.take 16).drop 14), if x13.toNat / 2 % 2 = 0 then 0 else k, l.drop hd⟩) :=
    Lib.hid (by unfold out9; rw [hlen, if_neg hs, hg12, hg13, hq, hhd]; rfl)
  have N5 : Hid ((∀ W, Calls Try.prog 48 #[.string (str l), .int .i64 0] W fun e w' => e = .returned (.int .i64 (be (l.take 2) : Nat)) ∧ Kp W w') ∧ (∀ W, Calls Try.prog 48 #[.string (str l), .int .i64 2] W fun e w' => e = .returned (.int .i64 (be ((l.take 4).drop 2) : Nat)) ∧ Kp W w') ∧
      (∀ W, Calls Try.prog 49 #[.string (str l), .int .i64 4] W fun e w' => e = .returned (.int .u32 (be ((l.take 8).drop 4) : Nat)) ∧ Kp W w') ∧ (∀ W, Calls Try.prog 49 #[.string (str l), .int .i64 8] W fun e w' => e = .returned (.int .u32 (be ((l.take 12).drop 8) : Nat)) ∧ Kp W w') ∧
      (∀ W, Calls Try.prog 48 #[.string (str l), .int .i64 14] W fun e w' => e = .returned (.int .i64 (be ((l.take 16).drop 14) : Nat)) ∧ Kp W w')) :=
    Lib.hid ⟨fun W => num_be W l 0 (by omega) (by omega), fun W => num_be W l 2 (by omega) (by omega), fun W => rnum9_any W l 4 (by omega) (by omega), fun W => rnum9_any W l 8 (by omega) (by omega), fun W => num_be W l 14 (by omega) (by omega)⟩
  rw [hlen] at hsz
  clear h12 hg12 hg13 hq h13 hhd
  by_cases h1 : hd < 20
  · have HO' : Hid (out9 [s0, s1, s2, s3] [d0, d1, d2, d3] l = .inl 7) := Lib.hid (by rw [HO.out, if_pos h1])
    have y1 : (hd : Int) < 20 := by omega
    clear hlen
    go_enter Try.func22, Try.ntmps22
    go_wp2_with (first | (refine lld_row (by rfl) (.tmp 8) _ _ rfl rfl (HRN.out _ (HK0.out)) Try.underlying26 rfl szSeg ?_) | (refine lst_row (by rfl) (.tmp 6) (.tmp 24) _ rfl rfl rfl (HRW.out _ (HK0.out)) szSeg rfl rfl rfl ?_) | (refine lst_new (by rfl) (.tmp 8) (.tmp 12) _ rfl rfl rfl szSeg rfl rfl rfl ?_))
    refine bodyPost_ret (v := .tuple #[.agg #[.int .u16 0, .int .u16 0, .int .u32 0, .int .u32 0, .int .u8 0, .int .u16 0, .int .u16 0, .slice none 0 0], .int .i64 7]) (results_cell2 (fn := Try.f22) szSeg uSeg (setRow_heap _ _ _ #[.int .u16 0, .int .u16 0, .int .u32 0, .int .u32 0, .int .u8 0, .int .u16 0, .int .u16 0, .slice none 0 0] _ _ (HRW.out _ (HK0.out))) rfl Try.results22 rfl rfl) rfl (.inl ⟨7, by decide, HO'.out, (HKB.out.trans (HK0.out)).setRow (by omega), rfl⟩)
  have y1 : ¬ (hd : Int) < 20 := by omega
  by_cases h2 : n < hd
  · have HO' : Hid (out9 [s0, s1, s2, s3] [d0, d1, d2, d3] l = .inl 6) := Lib.hid (by rw [HO.out, if_neg h1, if_pos h2])
    have y2 : (n : Int) < (hd : Int) := by omega
    clear hlen
    go_enter Try.func22, Try.ntmps22
    go_wp2_with (first | (refine lld_row (by rfl) (.tmp 8) _ _ rfl rfl (HRN.out _ (HK0.out)) Try.underlying26 rfl szSeg ?_) | (refine lst_row (by rfl) (.tmp 6) (.tmp 29) _ rfl rfl rfl (HRW.out _ (HK0.out)) szSeg rfl rfl rfl ?_) | (refine lst_new (by rfl) (.tmp 8) (.tmp 12) _ rfl rfl rfl szSeg rfl rfl rfl ?_))
    refine bodyPost_ret (v := .tuple #[.agg #[.int .u16 0, .int .u16 0, .int .u32 0, .int .u32 0, .int .u8 0, .int .u16 0, .int .u16 0, .slice none 0 0], .int .i64 6]) (results_cell2 (fn := Try.f22) szSeg uSeg (setRow_heap _ _ _ #[.int .u16 0, .int .u16 0, .int .u32 0, .int .u32 0, .int .u8 0, .int .u16 0, .int .u16 0, .slice none 0 0] _ _ (HRW.out _ (HK0.out))) rfl Try.results22 rfl rfl) rfl (.inl ⟨6, by decide, HO'.out, (HKB.out.trans (HK0.out)).setRow (by omega), rfl⟩)
  have y2 : ¬ (n : Int) < (hd : Int) := by omega
  by_cases h3 : 1000 < n
  · have HO' : Hid (out9 [s0, s1, s2, s3] [d0, d1, d2, d3] l = .inl 4) := Lib.hid (by rw [HO.out, if_neg h1, if_neg h2, if_pos h3])
    have y3 : (1000 : Int) < (n : Int) := by omega
    clear hlen
    go_enter Try.func22, Try.ntmps22
    go_wp2_with (first | (refine lld_row (by rfl) (.tmp 8) _ _ rfl rfl (HRN.out _ (HK0.out)) Try.underlying26 rfl szSeg ?_) | (refine lst_row (by rfl) (.tmp 6) (.tmp 33) _ rfl rfl rfl (HRW.out _ (HK0.out)) szSeg rfl rfl rfl ?_) | (refine lst_new (by rfl) (.tmp 8) (.tmp 12) _ rfl rfl rfl szSeg rfl rfl rfl ?_))
    refine bodyPost_ret (v := .tuple #[.agg #[.int .u16 0, .int .u16 0, .int .u32 0, .int .u32 0, .int .u8 0, .int .u16 0, .int .u16 0, .slice none 0 0], .int .i64 4]) (results_cell2 (fn := Try.f22) szSeg uSeg (setRow_heap _ _ _ #[.int .u16 0, .int .u16 0, .int .u32 0, .int .u32 0, .int .u8 0, .int .u16 0, .int .u16 0, .slice none 0 0] _ _ (HRW.out _ (HK0.out))) rfl Try.results22 rfl rfl) rfl (.inl ⟨4, by decide, HO'.out, (HKB.out.trans (HK0.out)).setRow (by omega), rfl⟩)
  have y3 : ¬ (1000 : Int) < (n : Int) := by omega
  obtain ⟨PS, hPS⟩ : ∃ PS, pseudo [s0, s1, s2, s3] [d0, d1, d2, d3] 6 n = PS := ⟨_, rfl⟩
  have hPL : PS.length = 12 := by rw [← hPS]; rfl
  have RP : Hid (∀ W, Calls Try.prog 45 #[.agg #[.int .u8 (s0.toNat : Int), .int .u8 (s1.toNat : Int), .int .u8 (s2.toNat : Int), .int .u8 (s3.toNat : Int)], .agg #[.int .u8 (d0.toNat : Int), .int .u8 (d1.toNat : Int), .int .u8 (d2.toNat : Int), .int .u8 (d3.toNat : Int)], .int .u8 6, .int .i64 (n : Int)] W fun e w' => e = .returned (.string (str PS)) ∧ Kp W w') := Lib.hid fun W => by
    have := rpseudo_any W s0 s1 s2 s3 d0 d1 d2 d3 6 n (by omega)
    rw [hPS] at this; exact this
  rw [hPS] at HO
  have RF : Hid (∀ W, Calls Try.prog 46 #[.string (str (PS ++ l))] W fun e w' => e = .returned (.int .u16 (Ck.ck (PS ++ l) : Nat)) ∧ W = w') := Lib.hid fun W => by
    have := rfold_any W (str (PS ++ l)) (by rw [str_size, List.length_append, hPL]; omega)
    rw [str_list] at this; exact this
  have hap : str PS ++ str l = str (PS ++ l) := str_append _ _
  have hps : (str PS).size = 12 := by rw [str_size, hPL]
  have hov : ¬ 9223372036854775807 < 12 + n := by omega
  have hckb := Ck.ck_le (PS ++ l)
  have xo : (str l).extract 20 hd = str ((l.take hd).drop 20) := str_extract _ _ _
  have xd : (str l).extract hd n = str (l.drop hd) := by rw [str_extract, ← hlen, List.take_length]
  have RO : Hid (∀ W, Calls Try.prog 47 #[.string (str ((l.take hd).drop 20))] W fun e w' => e = .returned (roptsVal (opts ((l.take hd).drop 20) 0)) ∧ Kp W w') := Lib.hid fun W => roptions9_any W _ (by rw [List.length_drop, List.length_take]; omega)
  have hdl : (l.drop hd).length ≤ 1048576 := by rw [List.length_drop]; omega
  have hdl2 : (l.drop hd).length ≤ 980 := by rw [List.length_drop]; omega
  have l1 : (l.take 2).length ≤ 2 := by rw [List.length_take]; omega
  have l2 : ((l.take 4).drop 2).length ≤ 2 := by rw [List.length_drop, List.length_take]; omega
  have l3 : ((l.take 8).drop 4).length ≤ 4 := by rw [List.length_drop, List.length_take]; omega
  have l4 : ((l.take 12).drop 8).length ≤ 4 := by rw [List.length_drop, List.length_take]; omega
  have l5 : ((l.take 16).drop 14).length ≤ 2 := by rw [List.length_drop, List.length_take]; omega
  have v1 := be2_le _ l1
  have v2 := be2_le _ l2
  have v3 := be4_lt _ l3
  have v4 := be4_lt _ l4
  have v5 := be2_le _ l5
  obtain ⟨ob, hob⟩ : ∃ ob, (l.take hd).drop 20 = ob := ⟨_, rfl⟩
  obtain ⟨data, hdata⟩ : ∃ data, l.drop hd = data := ⟨_, rfl⟩
  obtain ⟨sp, hsp⟩ : ∃ x, be (l.take 2) = x := ⟨_, rfl⟩
  obtain ⟨dp, hdp⟩ : ∃ x, be ((l.take 4).drop 2) = x := ⟨_, rfl⟩
  obtain ⟨sq, hsq⟩ : ∃ x, be ((l.take 8).drop 4) = x := ⟨_, rfl⟩
  obtain ⟨ak, hak⟩ : ∃ x, be ((l.take 12).drop 8) = x := ⟨_, rfl⟩
  obtain ⟨wn, hwn⟩ : ∃ x, be ((l.take 16).drop 14) = x := ⟨_, rfl⟩
  obtain ⟨fl, hfl⟩ : ∃ x, UInt8.ofNat (x13.toNat % 32) = x := ⟨_, rfl⟩
  have hfn : fl.toNat = x13.toNat % 32 := by rw [← hfl, UInt8.toNat_ofNat']; omega
  have a31 : (x13.toNat : Int) % 32 = (fl.toNat : Int) := by omega
  have a31' : (x13.toNat : Int).tmod 32 = (fl.toNat : Int) := by rw [Int.tmod_eq_emod_of_nonneg (by omega)]; omega
  have hf31 : fl.toNat ≤ 31 := by omega
  have hf2 : x13.toNat / 2 % 2 = fl.toNat / 2 % 2 := by rw [hfn]; omega
  rw [hob, hdata, hsp, hdp, hsq, hak, hwn, hfl] at HO
  rw [hsp, hdp, hsq, hak, hwn] at N5
  rw [hsp] at v1
  rw [hdp] at v2
  rw [hsq] at v3
  rw [hak] at v4
  rw [hwn] at v5
  rw [hob] at xo RO
  rw [hdata] at xd hdl hdl2
  have u1 : IntKind.u16.wrap (sp : Int) = (sp : Int) := wrap_u16 (by omega) (by omega)
  have u2 : IntKind.u16.wrap (dp : Int) = (dp : Int) := wrap_u16 (by omega) (by omega)
  have u3 : IntKind.u16.wrap (wn : Int) = (wn : Int) := wrap_u16 (by omega) (by omega)
  have z20 : (20 : Int) ≤ (hd : Int) := by omega
  have z21 : (hd : Int) ≤ (n : Int) := by omega
  have z22 : ((20 : Int)).toNat = 20 := rfl
  obtain ⟨ck, hck⟩ : ∃ ck, Ck.ck (PS ++ l) = ck := ⟨_, rfl⟩
  rw [hck] at HO RF hckb
  clear hob hdata hsp hdp hsq hak hwn hfl hfn l1 l2 l3 l4 l5 hPS hPL hck hlen hs20 hn
  obtain ⟨S, hS⟩ : ∃ S, str l = S := ⟨_, rfl⟩
  rw [hS] at hsz g12 g13 N5 hap xo xd ⊢
  clear hS
  go_enter Try.func22, Try.ntmps22
  go_wp2_with (refine lst_new (by rfl) (.tmp 8) (.tmp 12) _ rfl rfl rfl szSeg rfl rfl rfl ?_)
  refine (RP.out _).mono ?_
  rintro e w3 ⟨rfl, hk3⟩
  have HK3 := Lib.hid hk3
  clear hk3 RP
  go_wp2_with fail
  refine (RF.out _).mono ?_
  rintro e w4 ⟨rfl, rfl⟩
  clear hap hps RF
  by_cases h4 : ck = 65535
  case neg =>
    have HO' : Hid (out9 [s0, s1, s2, s3] [d0, d1, d2, d3] l = .inl 8) := Lib.hid (by rw [HO.out, if_neg h1, if_neg h2, if_neg h3, if_pos h4])
    have y4 : ((ck : Int) != 65535) = true := by simp; omega
    go_wp2_with (first | (refine lld_row (by rfl) (.tmp 8) _ _ rfl rfl (HRN.out _ (HK3.out)) Try.underlying26 rfl szSeg ?_) | (refine lst_row (by rfl) (.tmp 6) (.tmp 43) _ rfl rfl rfl (HRW.out _ (HK3.out)) szSeg rfl rfl rfl ?_) | (refine lst_new (by rfl) (.tmp 8) (.tmp 12) _ rfl rfl rfl szSeg rfl rfl rfl ?_))
    refine bodyPost_ret (v := .tuple #[.agg #[.int .u16 0, .int .u16 0, .int .u32 0, .int .u32 0, .int .u8 0, .int .u16 0, .int .u16 0, .slice none 0 0], .int .i64 8]) (results_cell2 (fn := Try.f22) szSeg uSeg (setRow_heap _ _ _ #[.int .u16 0, .int .u16 0, .int .u32 0, .int .u32 0, .int .u8 0, .int .u16 0, .int .u16 0, .slice none 0 0] _ _ (HRW.out _ (HK3.out))) rfl Try.results22 rfl rfl) rfl (.inl ⟨8, by decide, HO'.out, (HKB.out.trans (HK3.out)).setRow (by omega), rfl⟩)
  have y4 : ((ck : Int) != 65535) = false := by simp; omega
  go_wp2_with fail
  refine (RO.out _).mono ?_
  rintro e w4 ⟨rfl, hk4⟩
  have HK4 := Lib.hid (HK3.out.trans hk4)
  clear hk4 RO xo y4
  rcases ho : opts ob 0 with _ | k
  · have HO' : Hid (out9 [s0, s1, s2, s3] [d0, d1, d2, d3] l = .inl 7) := Lib.hid (by rw [HO.out, if_neg h1, if_neg h2, if_neg h3, if_neg (by simpa using h4), ho])
    simp only [roptsVal]
    go_wp2_with (first | (refine lld_row (by rfl) (.tmp 8) _ _ rfl rfl (HRN.out _ (HK4.out)) Try.underlying26 rfl szSeg ?_) | (refine lst_row (by rfl) (.tmp 6) (.tmp 53) _ rfl rfl rfl (HRW.out _ (HK4.out)) szSeg rfl rfl rfl ?_) | (refine lst_new (by rfl) (.tmp 8) (.tmp 12) _ rfl rfl rfl szSeg rfl rfl rfl ?_))
    refine bodyPost_ret (v := .tuple #[.agg #[.int .u16 0, .int .u16 0, .int .u32 0, .int .u32 0, .int .u8 0, .int .u16 0, .int .u16 0, .slice none 0 0], .int .i64 7]) (results_cell2 (fn := Try.f22) szSeg uSeg (setRow_heap _ _ _ #[.int .u16 0, .int .u16 0, .int .u32 0, .int .u32 0, .int .u8 0, .int .u16 0, .int .u16 0, .slice none 0 0] _ _ (HRW.out _ (HK4.out))) rfl Try.results22 rfl rfl) rfl (.inl ⟨7, by decide, HO'.out, (HKB.out.trans (HK4.out)).setRow (by omega), rfl⟩)
  · have hk := opts_le _ _ 0 k (Nat.le_refl _) (by omega) ho
    obtain ⟨ms, hms⟩ : ∃ ms, (if x13.toNat / 2 % 2 = 0 then 0 else k) = ms := ⟨_, rfl⟩
    have HO' : Hid (out9 [s0, s1, s2, s3] [d0, d1, d2, d3] l = .inr ⟨sp, dp, sq, ak, fl, wn, ms, data⟩) :=
      Lib.hid (by rw [HO.out, if_neg h1, if_neg h2, if_neg h3, if_neg (by simpa using h4), ho, ← hms])
    have hms2 : ms ≤ 65535 := by rw [← hms]; split <;> omega
    have HF2 : Hid (ms ≠ 0 → fl.toNat / 2 % 2 = 1) := Lib.hid (by rw [← hms, ← hf2]; split <;> omega)
    have hlt4 : w.heap.size + 3 ≤ w4.heap.size := by have := HK4.out.size; simp at this; omega
    clear HO ho h4 h1 h2 h3 hf2
    simp only [roptsVal]
    by_cases hb2 : x13.toNat / 2 % 2 = 0
    case' pos =>
      have w1 : (x13.toNat : Int) / 2 % 2 = 0 := by omega
      have w2 : ((x13.toNat : Int).tdiv 2).tmod 2 = 0 := by rw [Int.tdiv_eq_ediv_of_nonneg (by omega), Int.tmod_eq_emod_of_nonneg (by omega)]; exact w1
      rw [if_pos hb2] at hms
      have hms' := Lib.hid hms
      clear hms
      go_wp2_with fail
      rw [show Value.int IntKind.u16 0 = Value.int IntKind.u16 (ms : Int) by rw [← hms'.out]; rfl]
    case' neg =>
      have w1 : (x13.toNat : Int) / 2 % 2 = 1 := by omega
      have w2 : ((x13.toNat : Int).tdiv 2).tmod 2 = 1 := by rw [Int.tdiv_eq_ediv_of_nonneg (by omega), Int.tmod_eq_emod_of_nonneg (by omega)]; exact w1
      rw [if_neg hb2] at hms
      have hms' := Lib.hid hms
      clear hms
      go_wp2_with fail
      rw [show Value.int IntKind.u16 (k : Int) = Value.int IntKind.u16 (ms : Int) by rw [← hms'.out]]
    all_goals
      clear w1 w2 hms' hb2 g12 q1 q1' q2 q3 HRN
      refine wp_region_steps (by kernel_rfl) 22 (q9phi w S hd sp dp sq ak wn ms x13 fl data) [59, 60, 61, 62, 63, 64, 65, 66, 67, 68, 69, 70, 71, 72, 73, 74, 75, 76, 77, 78, 79, 80] (by kernel_rfl) (by kernel_rfl) ⟨?_, ?_, ?_, ?_, ?_, ?_, ?_, ?_, ?_, ?_, ?_, ?_, ?_, ?_, ?_, ?_, ?_, ?_, ?_, ?_, ?_, ?_, trivial⟩ ?_
      · intro a W hW hO hφ K hK
        have q0 : a.tmps.getD 0 undef = (.string S) := hO 0 (by kernel_rfl)
        have r0 := q0
        rw [Array.getD_eq_getD_getElem?] at r0
        clear hO hφ
        clear N5
        go_simp
        exact hK _ _ (Kp.refl _) rfl
      · intro a W hW hO hφ K hK
        have q59 : a.tmps.getD 59 undef = (.string S) := hφ ⟨0, .data⟩ (by simp) rfl
        have r59 := q59
        rw [Array.getD_eq_getD_getElem?] at r59
        clear hO hφ
        go_simp
        go_at_call 48
        refine (N5.out.1 W).mono ?_
        rintro e w' ⟨rfl, hk⟩
        exact hK _ _ hk rfl
      · intro a W hW hO hφ K hK
        have q60 : a.tmps.getD 60 undef = (.int .i64 (sp : Int)) := hφ ⟨1, .data⟩ (by simp) rfl
        have r60 := q60
        rw [Array.getD_eq_getD_getElem?] at r60
        clear hO hφ
        clear N5
        go_simp
        exact hK _ _ (Kp.refl _) rfl
      · intro a W hW hO hφ K hK
        have q0 : a.tmps.getD 0 undef = (.string S) := hO 0 (by kernel_rfl)
        have r0 := q0
        rw [Array.getD_eq_getD_getElem?] at r0
        clear hO hφ
        clear N5
        go_simp
        exact hK _ _ (Kp.refl _) rfl
      · intro a W hW hO hφ K hK
        have q62 : a.tmps.getD 62 undef = (.string S) := hφ ⟨3, .data⟩ (by simp) rfl
        have r62 := q62
        rw [Array.getD_eq_getD_getElem?] at r62
        clear hO hφ
        go_simp
        go_at_call 48
        refine (N5.out.2.1 W).mono ?_
        rintro e w' ⟨rfl, hk⟩
        exact hK _ _ hk rfl
      · intro a W hW hO hφ K hK
        have q63 : a.tmps.getD 63 undef = (.int .i64 (dp : Int)) := hφ ⟨4, .data⟩ (by simp) rfl
        have r63 := q63
        rw [Array.getD_eq_getD_getElem?] at r63
        clear hO hφ
        clear N5
        go_simp
        exact hK _ _ (Kp.refl _) rfl
      · intro a W hW hO hφ K hK
        have q0 : a.tmps.getD 0 undef = (.string S) := hO 0 (by kernel_rfl)
        have r0 := q0
        rw [Array.getD_eq_getD_getElem?] at r0
        clear hO hφ
        clear N5
        go_simp
        exact hK _ _ (Kp.refl _) rfl
      · intro a W hW hO hφ K hK
        have q65 : a.tmps.getD 65 undef = (.string S) := hφ ⟨6, .data⟩ (by simp) rfl
        have r65 := q65
        rw [Array.getD_eq_getD_getElem?] at r65
        clear hO hφ
        go_simp
        go_at_call 49
        refine (N5.out.2.2.1 W).mono ?_
        rintro e w' ⟨rfl, hk⟩
        exact hK _ _ hk rfl
      · intro a W hW hO hφ K hK
        have q0 : a.tmps.getD 0 undef = (.string S) := hO 0 (by kernel_rfl)
        have r0 := q0
        rw [Array.getD_eq_getD_getElem?] at r0
        clear hO hφ
        clear N5
        go_simp
        exact hK _ _ (Kp.refl _) rfl
      · intro a W hW hO hφ K hK
        have q67 : a.tmps.getD 67 undef = (.string S) := hφ ⟨8, .data⟩ (by simp) rfl
        have r67 := q67
        rw [Array.getD_eq_getD_getElem?] at r67
        clear hO hφ
        go_simp
        go_at_call 49
        refine (N5.out.2.2.2.1 W).mono ?_
        rintro e w' ⟨rfl, hk⟩
        exact hK _ _ hk rfl
      · intro a W hW hO hφ K hK
        have q0 : a.tmps.getD 0 undef = (.string S) := hO 0 (by kernel_rfl)
        have r0 := q0
        rw [Array.getD_eq_getD_getElem?] at r0
        clear hO hφ
        clear N5
        go_simp
        exact hK _ _ (Kp.refl _) rfl
      · intro a W hW hO hφ K hK
        have q69 : a.tmps.getD 69 undef = (.string S) := hφ ⟨10, .data⟩ (by simp) rfl
        have r69 := q69
        rw [Array.getD_eq_getD_getElem?] at r69
        clear hO hφ
        clear N5
        go_simp
        exact hK _ _ (Kp.refl _) rfl
      · intro a W hW hO hφ K hK
        have q70 : a.tmps.getD 70 undef = (.int .u8 (x13.toNat : Int)) := hφ ⟨11, .data⟩ (by simp) rfl
        have r70 := q70
        rw [Array.getD_eq_getD_getElem?] at r70
        clear hO hφ
        clear N5
        go_simp
        exact hK _ _ (Kp.refl _) rfl
      · intro a W hW hO hφ K hK
        have q0 : a.tmps.getD 0 undef = (.string S) := hO 0 (by kernel_rfl)
        have r0 := q0
        rw [Array.getD_eq_getD_getElem?] at r0
        clear hO hφ
        clear N5
        go_simp
        exact hK _ _ (Kp.refl _) rfl
      · intro a W hW hO hφ K hK
        have q72 : a.tmps.getD 72 undef = (.string S) := hφ ⟨13, .data⟩ (by simp) rfl
        have r72 := q72
        rw [Array.getD_eq_getD_getElem?] at r72
        clear hO hφ
        go_simp
        go_at_call 48
        refine (N5.out.2.2.2.2 W).mono ?_
        rintro e w' ⟨rfl, hk⟩
        exact hK _ _ hk rfl
      · intro a W hW hO hφ K hK
        have q73 : a.tmps.getD 73 undef = (.int .i64 (wn : Int)) := hφ ⟨14, .data⟩ (by simp) rfl
        have r73 := q73
        rw [Array.getD_eq_getD_getElem?] at r73
        clear hO hφ
        clear N5
        go_simp
        exact hK _ _ (Kp.refl _) rfl
      · intro a W hW hO hφ K hK
        have q10 : a.tmps.getD 10 undef = (.int .u16 (ms : Int)) := hO 10 (by kernel_rfl)
        have r10 := q10
        rw [Array.getD_eq_getD_getElem?] at r10
        clear hO hφ
        clear N5
        go_simp
        exact hK _ _ (Kp.refl _) rfl
      · intro a W hW hO hφ K hK
        have q0 : a.tmps.getD 0 undef = (.string S) := hO 0 (by kernel_rfl)
        have r0 := q0
        rw [Array.getD_eq_getD_getElem?] at r0
        clear hO hφ
        clear N5
        go_simp
        exact hK _ _ (Kp.refl _) rfl
      · intro a W hW hO hφ K hK
        have q9 : a.tmps.getD 9 undef = (.int .i64 (hd : Int)) := hO 9 (by kernel_rfl)
        have r9 := q9
        rw [Array.getD_eq_getD_getElem?] at r9
        clear hO hφ
        clear N5
        go_simp
        exact hK _ _ (Kp.refl _) rfl
      · intro a W hW hO hφ K hK
        have q76 : a.tmps.getD 76 undef = (.string S) := hφ ⟨17, .data⟩ (by simp) rfl
        have q77 : a.tmps.getD 77 undef = (.int .i64 (hd : Int)) := hφ ⟨18, .data⟩ (by simp) rfl
        have r76 := q76
        rw [Array.getD_eq_getD_getElem?] at r76
        have r77 := q77
        rw [Array.getD_eq_getD_getElem?] at r77
        clear hO hφ
        clear N5
        go_simp
        exact hK _ _ (Kp.refl _) rfl
      · intro a W hW hO hφ K hK
        have q78 : a.tmps.getD 78 undef = (.string (str data)) := hφ ⟨19, .data⟩ (by simp) rfl
        have r78 := q78
        rw [Array.getD_eq_getD_getElem?] at r78
        clear hO hφ
        clear N5
        have hcv := Lib.run_convert_string_bytes (P := Try.prog) W 9 24 5 (str data) Try.underlying9 Try.underlying24 Try.underlying5
        rw [str_size] at hcv
        go_simp
        exact hK _ _ (kp_bytes _ _ _) ⟨_, _, rfl, RdV.mono_lo (rd_bytes W _ data hdl).1 (by have := (Kp.trans ((Kp.refl _).drew) hW).size; omega), (rd_bytes W _ data hdl).2⟩
      · intro a W hW hO hφ K hK
        have q61 : a.tmps.getD 61 undef = (.int .u16 (sp : Int)) := hφ ⟨2, .data⟩ (by simp) rfl
        have q64 : a.tmps.getD 64 undef = (.int .u16 (dp : Int)) := hφ ⟨5, .data⟩ (by simp) rfl
        have q66 : a.tmps.getD 66 undef = (.int .u32 (sq : Int)) := hφ ⟨7, .data⟩ (by simp) rfl
        have q68 : a.tmps.getD 68 undef = (.int .u32 (ak : Int)) := hφ ⟨9, .data⟩ (by simp) rfl
        have q71 : a.tmps.getD 71 undef = (.int .u8 (fl.toNat : Int)) := hφ ⟨12, .data⟩ (by simp) rfl
        have q74 : a.tmps.getD 74 undef = (.int .u16 (wn : Int)) := hφ ⟨15, .data⟩ (by simp) rfl
        have q75 : a.tmps.getD 75 undef = (.int .u16 (ms : Int)) := hφ ⟨16, .data⟩ (by simp) rfl
        have q79 : (St.rdk (w.heap.size + 3) data.length data).p (a.tmps.getD 79 undef) W := hφ ⟨20, .data⟩ (by simp) rfl
        have r61 := q61
        rw [Array.getD_eq_getD_getElem?] at r61
        have r64 := q64
        rw [Array.getD_eq_getD_getElem?] at r64
        have r66 := q66
        rw [Array.getD_eq_getD_getElem?] at r66
        have r68 := q68
        rw [Array.getD_eq_getD_getElem?] at r68
        have r71 := q71
        rw [Array.getD_eq_getD_getElem?] at r71
        have r74 := q74
        rw [Array.getD_eq_getD_getElem?] at r74
        have r75 := q75
        rw [Array.getD_eq_getD_getElem?] at r75
        clear hO hφ
        clear N5
        obtain ⟨A1, c1, q79', hr, hok⟩ := q79
        have r79 := q79'
        rw [Array.getD_eq_getD_getElem?] at r79
        go_simp
        exact hK _ _ (Kp.refl _) ⟨_, _, rfl, hr, hok⟩
      intro f W hW hφ
      have v0 : f 0 = (.string S) := hφ 0 (by omega)
      have v1 : f 1 = (.int .i64 (sp : Int)) := hφ 1 (by omega)
      have v2 : f 2 = (.int .u16 (sp : Int)) := hφ 2 (by omega)
      have v3 : f 3 = (.string S) := hφ 3 (by omega)
      have v4 : f 4 = (.int .i64 (dp : Int)) := hφ 4 (by omega)
      have v5 : f 5 = (.int .u16 (dp : Int)) := hφ 5 (by omega)
      have v6 : f 6 = (.string S) := hφ 6 (by omega)
      have v7 : f 7 = (.int .u32 (sq : Int)) := hφ 7 (by omega)
      have v8 : f 8 = (.string S) := hφ 8 (by omega)
      have v9 : f 9 = (.int .u32 (ak : Int)) := hφ 9 (by omega)
      have v10 : f 10 = (.string S) := hφ 10 (by omega)
      have v11 : f 11 = (.int .u8 (x13.toNat : Int)) := hφ 11 (by omega)
      have v12 : f 12 = (.int .u8 (fl.toNat : Int)) := hφ 12 (by omega)
      have v13 : f 13 = (.string S) := hφ 13 (by omega)
      have v14 : f 14 = (.int .i64 (wn : Int)) := hφ 14 (by omega)
      have v15 : f 15 = (.int .u16 (wn : Int)) := hφ 15 (by omega)
      have v16 : f 16 = (.int .u16 (ms : Int)) := hφ 16 (by omega)
      have v17 : f 17 = (.string S) := hφ 17 (by omega)
      have v18 : f 18 = (.int .i64 (hd : Int)) := hφ 18 (by omega)
      have v19 : f 19 = (.string (str data)) := hφ 19 (by omega)
      have v20 : (St.rdk (w.heap.size + 3) data.length data).p (f 20) W := hφ 20 (by omega)
      have v21 : (St.withRd (w.heap.size + 3) data.length data (fun A c => .agg #[.int .u16 (sp : Int), .int .u16 (dp : Int), .int .u32 (sq : Int), .int .u32 (ak : Int), .int .u8 (fl.toNat : Int), .int .u16 (wn : Int), .int .u16 (ms : Int), .slice A data.length c])).p (f 21) W := hφ 21 (by omega)
      clear hφ
      simp only [putAll, List.setIfInBounds_toArray, List.set_cons_succ, List.set_cons_zero, v0, v1, v2, v3, v4, v5, v6, v7, v8, v9, v10, v11, v12, v13, v14, v15, v16, v17, v18, v19]
      clear v0 v1 v2 v3 v4 v5 v6 v7 v8 v9 v10 v11 v12 v13 v14 v15 v16 v17 v18 v19
      obtain ⟨A1, c1, hv, hr, hok⟩ := v21
      have hv' : f 21 = .agg #[.int .u16 (sp : Int), .int .u16 (dp : Int), .int .u32 (sq : Int), .int .u32 (ak : Int), .int .u8 (fl.toNat : Int), .int .u16 (wn : Int), .int .u16 (ms : Int), .slice A1 data.length c1] := hv
      have hk7 := HK4.out.trans (Kp.trans ((Kp.refl _).drew) hW)
      have r7 := HRW.out _ hk7
      have r8 := setRow_heap W _ _ #[.int .u16 (sp : Int), .int .u16 (dp : Int), .int .u32 (sq : Int), .int .u32 (ak : Int), .int .u8 (fl.toNat : Int), .int .u16 (wn : Int), .int .u16 (ms : Int), .slice A1 data.length c1] _ _ r7
      refine wpAny_ready (rs := [22]) (by kernel_rfl) (by simp) (AllReady.cons rfl (fun K' hK' => ?_) AllReady.nil)
      simp only [hv']
      split
      case isFalse hx => exact (hx rfl).elim
      refine ost_row (.tmp 6) (.tmp 80) _ rfl rfl rfl rfl r7 szSeg rfl rfl ?_
      refine hK' _ _ ?_
      refine wpAny_ready (rs := [23]) (by kernel_rfl) (by simp) (AllReady.cons rfl (fun K2 hK2 => ?_) AllReady.nil)
      go_simp
      refine hK2 _ _ ?_
      refine wpAny_done (by kernel_rfl) ?_ _
      go_wp2
      refine bodyPost_ret (v := .tuple #[.agg #[.int .u16 (sp : Int), .int .u16 (dp : Int), .int .u32 (sq : Int), .int .u32 (ak : Int), .int .u8 (fl.toNat : Int), .int .u16 (wn : Int), .int .u16 (ms : Int), .slice A1 data.length c1], .int .i64 0]) (results_cell2 (fn := Try.f22) szSeg uSeg r8 rfl Try.results22 rfl rfl) rfl
        (.inr ⟨⟨sp, dp, sq, ak, fl, wn, ms, data⟩, HO'.out, ⟨v1, v2, v3, v4, hf31, v5, hms2, HF2.out⟩, hdl2, (HKB.out.trans hk7).setRow (by omega), A1, c1, rfl, RdV.mono_lo (RdV.setRow hr (by omega)) (by omega), hok⟩)
end Go.Proofs.Ytnoobifdaldfiaa
