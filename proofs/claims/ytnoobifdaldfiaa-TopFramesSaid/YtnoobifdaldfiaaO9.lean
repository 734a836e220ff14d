/-
  The contract of segment.Open: the segment of bytes.
-/
import Derived.Test.YtnoobifdaldfiaaP9b
import Derived.Test.YtnoobifdaldfiaaB9
namespace Go.Proofs.Ytnoobifdaldfiaa
open Go.RowKit
set_option maxRecDepth 100000

theorem cellsO9 (w : World) (s0 s1 s2 s3 d0 d1 d2 d3 : UInt8) (W : World) (hk : Kp (((w.alloc (.cells #[.int .u8 (s0.toNat : Int), .int .u8 (s1.toNat : Int), .int .u8 (s2.toNat : Int), .int .u8 (s3.toNat : Int)] 28)).alloc (.cells #[.int .u8 (d0.toNat : Int), .int .u8 (d1.toNat : Int), .int .u8 (d2.toNat : Int), .int .u8 (d3.toNat : Int)] 28)).alloc (.cells #[.int .u16 0, .int .u16 0, .int .u32 0, .int .u32 0, .int .u8 0, .int .u16 0, .int .u16 0, .slice none 0 0] 26)) W) : (W.cell? ⟨w.heap.size, 0, none⟩ = some (.int .u8 (s0.toNat : Int)) ∧ W.cell? ⟨w.heap.size, 1, none⟩ = some (.int .u8 (s1.toNat : Int)) ∧ W.cell? ⟨w.heap.size, 2, none⟩ = some (.int .u8 (s2.toNat : Int)) ∧ W.cell? ⟨w.heap.size, 3, none⟩ = some (.int .u8 (s3.toNat : Int))) ∧ (W.cell? ⟨w.heap.size + 1, 0, none⟩ = some (.int .u8 (d0.toNat : Int)) ∧ W.cell? ⟨w.heap.size + 1, 1, none⟩ = some (.int .u8 (d1.toNat : Int)) ∧ W.cell? ⟨w.heap.size + 1, 2, none⟩ = some (.int .u8 (d2.toNat : Int)) ∧ W.cell? ⟨w.heap.size + 1, 3, none⟩ = some (.int .u8 (d3.toNat : Int))) := by
  have h2 : Kp ((w.alloc (.cells #[.int .u8 (s0.toNat : Int), .int .u8 (s1.toNat : Int), .int .u8 (s2.toNat : Int), .int .u8 (s3.toNat : Int)] 28)).alloc (.cells #[.int .u8 (d0.toNat : Int), .int .u8 (d1.toNat : Int), .int .u8 (d2.toNat : Int), .int .u8 (d3.toNat : Int)] 28)) W := ((Kp.refl _).alloc _).trans hk
  have h1 : Kp (w.alloc (.cells #[.int .u8 (s0.toNat : Int), .int .u8 (s1.toNat : Int), .int .u8 (s2.toNat : Int), .int .u8 (s3.toNat : Int)] 28)) W := ((Kp.refl _).alloc _).trans h2
  have e1 : (w.alloc (.cells #[.int .u8 (s0.toNat : Int), .int .u8 (s1.toNat : Int), .int .u8 (s2.toNat : Int), .int .u8 (s3.toNat : Int)] 28)).heap.size = w.heap.size + 1 := by simp
  refine ⟨⟨?_, ?_, ?_, ?_⟩, ⟨?_, ?_, ?_, ?_⟩⟩
  · refine h1.cell ?_; rw [cell_new]; rfl
  · refine h1.cell ?_; rw [cell_new]; rfl
  · refine h1.cell ?_; rw [cell_new]; rfl
  · refine h1.cell ?_; rw [cell_new]; rfl
  · refine h2.cell ?_; rw [← e1, cell_new]; rfl
  · refine h2.cell ?_; rw [← e1, cell_new]; rfl
  · refine h2.cell ?_; rw [← e1, cell_new]; rfl
  · refine h2.cell ?_; rw [← e1, cell_new]; rfl
theorem rowO9 (w : World) (s0 s1 s2 s3 d0 d1 d2 d3 : UInt8) (W : World) (hk : Kp (((w.alloc (.cells #[.int .u8 (s0.toNat : Int), .int .u8 (s1.toNat : Int), .int .u8 (s2.toNat : Int), .int .u8 (s3.toNat : Int)] 28)).alloc (.cells #[.int .u8 (d0.toNat : Int), .int .u8 (d1.toNat : Int), .int .u8 (d2.toNat : Int), .int .u8 (d3.toNat : Int)] 28)).alloc (.cells #[.int .u16 0, .int .u16 0, .int .u32 0, .int .u32 0, .int .u8 0, .int .u16 0, .int .u16 0, .slice none 0 0] 26)) W) : W.heap[w.heap.size + 1 + 1]? = some (.cells #[.int .u16 0, .int .u16 0, .int .u32 0, .int .u32 0, .int .u8 0, .int .u16 0, .int .u16 0, .slice none 0 0] 26 (0, 0)) := by
  have e2 : ((w.alloc (.cells #[.int .u8 (s0.toNat : Int), .int .u8 (s1.toNat : Int), .int .u8 (s2.toNat : Int), .int .u8 (s3.toNat : Int)] 28)).alloc (.cells #[.int .u8 (d0.toNat : Int), .int .u8 (d1.toNat : Int), .int .u8 (d2.toNat : Int), .int .u8 (d3.toNat : Int)] 28)).heap.size = w.heap.size + 1 + 1 := by simp
  have h := heap_alloc_new ((w.alloc (.cells #[.int .u8 (s0.toNat : Int), .int .u8 (s1.toNat : Int), .int .u8 (s2.toNat : Int), .int .u8 (s3.toNat : Int)] 28)).alloc (.cells #[.int .u8 (d0.toNat : Int), .int .u8 (d1.toNat : Int), .int .u8 (d2.toNat : Int), .int .u8 (d3.toNat : Int)] 28)) (.cells #[.int .u16 0, .int .u16 0, .int .u32 0, .int .u32 0, .int .u8 0, .int .u16 0, .int .u16 0, .slice none 0 0] 26)
  rw [e2] at h
  exact (hk.block _ (by simp)).trans h

noncomputable def o9phi (w w4 : World) (g off n c hd c2 sp dp sq ak wn : Nat) (x13 fl : UInt8) (A1 A2 A3 A4 A5 : Option Addr) (data : List UInt8) : Nat → St := fun i => ([St.val (.slice (some ⟨g, off, none⟩) n c),
  St.val (.slice (some ⟨g, off, none⟩) 2 c),
  St.val (.int .u32 (sp : Int)),
  St.val (.int .u16 (sp : Int)),
  St.val (.slice (some ⟨g, off, none⟩) n c),
  St.val (.slice A1 2 (c - 2)),
  St.val (.int .u32 (dp : Int)),
  St.val (.int .u16 (dp : Int)),
  St.val (.slice (some ⟨g, off, none⟩) n c),
  St.val (.slice A2 4 (c - 4)),
  St.val (.int .u32 (sq : Int)),
  St.val (.slice (some ⟨g, off, none⟩) n c),
  St.val (.slice A3 4 (c - 8)),
  St.val (.int .u32 (ak : Int)),
  St.val (.slice (some ⟨g, off, none⟩) n c),
  St.val (.pointer (some ⟨g, off + 13, none⟩)),
  St.val (.int .u8 (x13.toNat : Int)),
  St.val (.int .u8 (fl.toNat : Int)),
  St.val (.slice (some ⟨g, off, none⟩) n c),
  St.val (.slice A4 2 (c - 14)),
  St.val (.int .u32 (wn : Int)),
  St.val (.int .u16 (wn : Int)),
  St.emp,
  St.val (.slice (some ⟨g, off, none⟩) n c),
  St.val (.int .i64 (hd : Int)),
  St.val (.slice A5 data.length c2),
  St.rd0 (w.heap.size + 3) data.length data,
  St.with0 (w.heap.size + 3) data.length data (fun gd c => .agg #[.int .u16 (sp : Int), .int .u16 (dp : Int), .int .u32 (sq : Int), .int .u32 (ak : Int), .int .u8 (fl.toNat : Int), .int .u16 (wn : Int), .int .u16 0, .slice (some ⟨gd, 0, none⟩) data.length c]),
  St.row w4.heap.size #[.int .u16 0, .int .u16 0, .int .u32 0, .int .u32 0, .int .u8 0, .int .u16 0, .int .u16 0, .slice none 0 0] 26] : List St).getD i St.any

set_option maxRecDepth 100000 in
set_option maxHeartbeats 4000000 in
theorem o9_any (w : World) (A : Option Addr) (n c : Nat) (l : List UInt8) (s0 s1 s2 s3 d0 d1 d2 d3 : UInt8) (hA : Rd w 0 A n l) (hok : SlOk A n c) (hn : n ≤ 1048576) :
    Calls Try.prog 17 #[.slice A n c, .agg #[.int .u8 (s0.toNat : Int), .int .u8 (s1.toNat : Int), .int .u8 (s2.toNat : Int), .int .u8 (s3.toNat : Int)], .agg #[.int .u8 (d0.toNat : Int), .int .u8 (d1.toNat : Int), .int .u8 (d2.toNat : Int), .int .u8 (d3.toNat : Int)]] w (O9Post w [s0, s1, s2, s3] [d0, d1, d2, d3] l) := by
  have hlen := hA.len
  have KB : Kp w (((w.alloc (.cells #[.int .u8 (s0.toNat : Int), .int .u8 (s1.toNat : Int), .int .u8 (s2.toNat : Int), .int .u8 (s3.toNat : Int)] 28)).alloc (.cells #[.int .u8 (d0.toNat : Int), .int .u8 (d1.toNat : Int), .int .u8 (d2.toNat : Int), .int .u8 (d3.toNat : Int)] 28)).alloc (.cells #[.int .u16 0, .int .u16 0, .int .u32 0, .int .u32 0, .int .u8 0, .int .u16 0, .int .u16 0, .slice none 0 0] 26)) := (((Kp.refl w).alloc _).alloc _).alloc _
  have HKB := Lib.hid KB
  have HA := Lib.hid (hA.keep KB)
  have HOK := Lib.hid hok
  have KS := Lib.hid (cellsO9 w s0 s1 s2 s3 d0 d1 d2 d3)
  have HRW := Lib.hid (rowO9 w s0 s1 s2 s3 d0 d1 d2 d3)
  have K0 : Kp (((w.alloc (.cells #[.int .u8 (s0.toNat : Int), .int .u8 (s1.toNat : Int), .int .u8 (s2.toNat : Int), .int .u8 (s3.toNat : Int)] 28)).alloc (.cells #[.int .u8 (d0.toNat : Int), .int .u8 (d1.toNat : Int), .int .u8 (d2.toNat : Int), .int .u8 (d3.toNat : Int)] 28)).alloc (.cells #[.int .u16 0, .int .u16 0, .int .u32 0, .int .u32 0, .int .u8 0, .int .u16 0, .int .u16 0, .slice none 0 0] 26)) (((w.alloc (.cells #[.int .u8 (s0.toNat : Int), .int .u8 (s1.toNat : Int), .int .u8 (s2.toNat : Int), .int .u8 (s3.toNat : Int)] 28)).alloc (.cells #[.int .u8 (d0.toNat : Int), .int .u8 (d1.toNat : Int), .int .u8 (d2.toNat : Int), .int .u8 (d3.toNat : Int)] 28)).alloc (.cells #[.int .u16 0, .int .u16 0, .int .u32 0, .int .u32 0, .int .u8 0, .int .u16 0, .int .u16 0, .slice none 0 0] 26)) := Kp.refl _
  have HK0 := Lib.hid K0
  clear hA hok KB K0
  by_cases hs : n < 20
  · have HO' : Hid (out9 [s0, s1, s2, s3] [d0, d1, d2, d3] l = .inl 6) := Lib.hid (by unfold out9; rw [hlen, if_pos hs])
    clear hlen
    go_enter Try.func17, Try.ntmps17
    go_wp2_with (refine lst_row (by rfl) (.tmp 6) (.tmp 15) _ rfl rfl rfl (HRW.out _ (HK0.out)) szSeg rfl rfl rfl ?_)
    refine bodyPost_ret (v := .tuple #[.agg #[.int .u16 0, .int .u16 0, .int .u32 0, .int .u32 0, .int .u8 0, .int .u16 0, .int .u16 0, .slice none 0 0], .int .i64 6]) (results_cell2 (fn := Try.f17) szSeg uSeg (setRow_heap _ _ _ #[.int .u16 0, .int .u16 0, .int .u32 0, .int .u32 0, .int .u8 0, .int .u16 0, .int .u16 0, .slice none 0 0] _ _ (HRW.out _ (HK0.out))) rfl Try.results17 rfl rfl) rfl (.inl ⟨6, by decide, HO'.out, (HKB.out.trans (HK0.out)).setRow (by omega), rfl⟩)
  obtain ⟨g, off, rfl, _⟩ := HA.out.at_ (by omega)
  obtain ⟨x12, h12, z12⟩ := HA.out.cell (k := 12) (by omega)
  obtain ⟨x13, h13, z13⟩ := HA.out.cell (k := 13) (by omega)
  have Z13 := Lib.hid z13
  have hg12 : l.getD 12 0 = x12 := by simp [List.getD, h12]
  have hg13 : l.getD 13 0 = x13 := by simp [List.getD, h13]
  have b12 : x12.toNat < 256 := x12.toNat_lt
  have b13 : x13.toNat < 256 := x13.toNat_lt
  obtain ⟨q, hq⟩ : ∃ q, x12.toNat / 16 = q := ⟨_, rfl⟩
  have hq2 : q < 16 := by omega
  have q1 : (x12.toNat : Int) / 16 = (q : Int) := by omega
  obtain ⟨hd, hhd⟩ : ∃ hd, 4 * q = hd := ⟨_, rfl⟩
  have hd2 : hd ≤ 60 := by omega
  have q2 : (q : Int) * 4 = (hd : Int) := by omega
  have q3 : 4 * (q : Int) = (hd : Int) := by omega
  have i20 : ¬ (n : Int) < 20 := by omega
  have p12 : 12 < n := by omega
  have p12' : (12 : Int) < (n : Int) := by omega
  have HO : Hid (out9 [s0, s1, s2, s3] [d0, d1, d2, d3] l = if hd < 20 then .inl 7 else if n < hd then .inl 6 else if 1000 < n then .inl 4 else if Ck.ck (pseudo [s0, s1, s2, s3] [d0, d1, d2, d3] 6 n ++ l) ≠ 65535 then .inl 8
      else match opts ((l.take hd).drop 20) 0 with
        | none => .inl 7
        | some k => .inr ⟨be (l.take 2), be ((l.take 4).drop 2), be ((l.take 8).drop 4), be ((l.take 12).drop 8), UInt8.ofNat (x13.toNat % 32), be ((l.take 16).drop 14), if x13.toNat / 2 % 2 = 0 then 0 else k, l.drop hd⟩) :=
    Lib.hid (by unfold out9; rw [hlen, if_neg hs, hg12, hg13, hq, hhd]; rfl)
  clear h12 hg12 hg13 hq h13 z13 hhd
  by_cases h1 : hd < 20
  · have HO' : Hid (out9 [s0, s1, s2, s3] [d0, d1, d2, d3] l = .inl 7) := Lib.hid (by rw [HO.out, if_pos h1])
    have y1 : (hd : Int) < 20 := by omega
    clear hlen
    go_enter Try.func17, Try.ntmps17
    go_wp2_with (refine lst_row (by rfl) (.tmp 6) (.tmp 25) _ rfl rfl rfl (HRW.out _ (HK0.out)) szSeg rfl rfl rfl ?_)
    refine bodyPost_ret (v := .tuple #[.agg #[.int .u16 0, .int .u16 0, .int .u32 0, .int .u32 0, .int .u8 0, .int .u16 0, .int .u16 0, .slice none 0 0], .int .i64 7]) (results_cell2 (fn := Try.f17) szSeg uSeg (setRow_heap _ _ _ #[.int .u16 0, .int .u16 0, .int .u32 0, .int .u32 0, .int .u8 0, .int .u16 0, .int .u16 0, .slice none 0 0] _ _ (HRW.out _ (HK0.out))) rfl Try.results17 rfl rfl) rfl (.inl ⟨7, by decide, HO'.out, (HKB.out.trans (HK0.out)).setRow (by omega), rfl⟩)
  have y1 : ¬ (hd : Int) < 20 := by omega
  by_cases h2 : n < hd
  · have HO' : Hid (out9 [s0, s1, s2, s3] [d0, d1, d2, d3] l = .inl 6) := Lib.hid (by rw [HO.out, if_neg h1, if_pos h2])
    have y2 : (n : Int) < (hd : Int) := by omega
    clear hlen
    go_enter Try.func17, Try.ntmps17
    go_wp2_with (refine lst_row (by rfl) (.tmp 6) (.tmp 31) _ rfl rfl rfl (HRW.out _ (HK0.out)) szSeg rfl rfl rfl ?_)
    refine bodyPost_ret (v := .tuple #[.agg #[.int .u16 0, .int .u16 0, .int .u32 0, .int .u32 0, .int .u8 0, .int .u16 0, .int .u16 0, .slice none 0 0], .int .i64 6]) (results_cell2 (fn := Try.f17) szSeg uSeg (setRow_heap _ _ _ #[.int .u16 0, .int .u16 0, .int .u32 0, .int .u32 0, .int .u8 0, .int .u16 0, .int .u16 0, .slice none 0 0] _ _ (HRW.out _ (HK0.out))) rfl Try.results17 rfl rfl) rfl (.inl ⟨6, by decide, HO'.out, (HKB.out.trans (HK0.out)).setRow (by omega), rfl⟩)
  have y2 : ¬ (n : Int) < (hd : Int) := by omega
  by_cases h3 : 1000 < n
  · have HO' : Hid (out9 [s0, s1, s2, s3] [d0, d1, d2, d3] l = .inl 4) := Lib.hid (by rw [HO.out, if_neg h1, if_neg h2, if_pos h3])
    have y3 : (1000 : Int) < (n : Int) := by omega
    clear hlen
    go_enter Try.func17, Try.ntmps17
    go_wp2_with (refine lst_row (by rfl) (.tmp 6) (.tmp 36) _ rfl rfl rfl (HRW.out _ (HK0.out)) szSeg rfl rfl rfl ?_)
    refine bodyPost_ret (v := .tuple #[.agg #[.int .u16 0, .int .u16 0, .int .u32 0, .int .u32 0, .int .u8 0, .int .u16 0, .int .u16 0, .slice none 0 0], .int .i64 4]) (results_cell2 (fn := Try.f17) szSeg uSeg (setRow_heap _ _ _ #[.int .u16 0, .int .u16 0, .int .u32 0, .int .u32 0, .int .u8 0, .int .u16 0, .int .u16 0, .slice none 0 0] _ _ (HRW.out _ (HK0.out))) rfl Try.results17 rfl rfl) rfl (.inl ⟨4, by decide, HO'.out, (HKB.out.trans (HK0.out)).setRow (by omega), rfl⟩)
  have y3 : ¬ (1000 : Int) < (n : Int) := by omega
  have HLEN := Lib.hid hlen
  clear hlen
  go_enter Try.func17, Try.ntmps17
  go_wp2_with fail
  refine (pseudo_any _ s0 s1 s2 s3 d0 d1 d2 d3 6 n (by omega)).mono ?_
  rintro e w3 ⟨hk3, g3, cap3, rfl, own3⟩
  have hall : RdAll (w3.alloc (.cells #[.slice (some ⟨g3, 0, none⟩) 12 cap3, .slice (some ⟨g, off, none⟩) n c] 24)) (some ⟨w3.heap.size, 0, none⟩) 2 [pseudo [s0, s1, s2, s3] [d0, d1, d2, d3] 6 n, l] :=
    rdAll_mk (vs := [.slice (some ⟨g3, 0, none⟩) 12 cap3, .slice (some ⟨g, off, none⟩) n c]) rfl rfl (by decide) ⟨⟨_, _, _, rfl, own3.rd0, by decide⟩, ⟨_, _, _, rfl, HA.out.keep hk3, by unfold maxLen; omega⟩, trivial⟩
  have HALL := Lib.hid hall
  have HK4 := Lib.hid (hk3.alloc (.cells #[.slice (some ⟨g3, 0, none⟩) 12 cap3, .slice (some ⟨g, off, none⟩) n c] 24))
  clear hk3 own3 hall z12
  go_wp2_with fail
  refine (right_any _ _ 2 _ _ HALL.out).mono ?_
  rintro e W3 ⟨rfl, rfl⟩
  rw [show [pseudo [s0, s1, s2, s3] [d0, d1, d2, d3] 6 n, l].flatten = pseudo [s0, s1, s2, s3] [d0, d1, d2, d3] 6 n ++ l by simp]
  clear HALL
  generalize w3.alloc (.cells #[.slice (some ⟨g3, 0, none⟩) 12 cap3, .slice (some ⟨g, off, none⟩) n c] 24) = w4 at HK4 ⊢
  by_cases h4 : Ck.ck (pseudo [s0, s1, s2, s3] [d0, d1, d2, d3] 6 n ++ l) = 65535
  case neg =>
    have HO' : Hid (out9 [s0, s1, s2, s3] [d0, d1, d2, d3] l = .inl 8) := Lib.hid (by rw [HO.out, if_neg h1, if_neg h2, if_neg h3, if_pos h4])
    have h4' : (Ck.ck (pseudo [s0, s1, s2, s3] [d0, d1, d2, d3] 6 n ++ l) == 65535) = false := by simpa using h4
    rw [h4']
    go_wp2_with (refine lst_row (by rfl) (.tmp 6) (.tmp 47) _ rfl rfl rfl (HRW.out _ (HK4.out)) szSeg rfl rfl rfl ?_)
    refine bodyPost_ret (v := .tuple #[.agg #[.int .u16 0, .int .u16 0, .int .u32 0, .int .u32 0, .int .u8 0, .int .u16 0, .int .u16 0, .slice none 0 0], .int .i64 8]) (results_cell2 (fn := Try.f17) szSeg uSeg (setRow_heap _ _ _ #[.int .u16 0, .int .u16 0, .int .u32 0, .int .u32 0, .int .u8 0, .int .u16 0, .int .u16 0, .slice none 0 0] _ _ (HRW.out _ (HK4.out))) rfl Try.results17 rfl rfl) rfl (.inl ⟨8, by decide, HO'.out, (HKB.out.trans (HK4.out)).setRow (by omega), rfl⟩)
  have h4' : (Ck.ck (pseudo [s0, s1, s2, s3] [d0, d1, d2, d3] 6 n ++ l) == 65535) = true := by simpa using h4
  rw [h4']
  obtain ⟨i8, hi8, hs8⟩ : ∃ i, Try.prog.info? (Try.prog.elem 24) = some i ∧ i.size = 1 := by
    obtain ⟨i0, hi0, _, hz1, _⟩ := info_parts info5
    exact ⟨i0, hi0, hz1⟩
  obtain ⟨B0, so, rdo, oko⟩ := cut_mid (P := Try.prog) (k := 20) (m := hd) (kd := .i64) (kd2 := .i64) Try.underlying24 hi8 hs8 HA.out HOK.out (by omega) (by omega)
  have so' : ∀ wx : World, (Instr.slice 24 (.slice (some ⟨g, off, none⟩) n c) (some (.int .i64 20)) (some (.int .i64 (hd : Int))) none).run Try.prog wx = .ok (.slice B0 (hd - 20) (c - 20)) wx := so
  have RDO := Lib.hid (rdo.keep HK4.out)
  have OKO := Lib.hid oko
  clear so rdo oko h4'
  go_wp2_with fail
  refine (options9_any _ B0 (hd - 20) _ _ RDO.out OKO.out (by omega)).mono ?_
  rintro e w5 ⟨rfl, rfl⟩
  clear so' RDO OKO
  rcases ho : opts ((l.take hd).drop 20) 0 with _ | k
  · have HO' : Hid (out9 [s0, s1, s2, s3] [d0, d1, d2, d3] l = .inl 7) := Lib.hid (by rw [HO.out, if_neg h1, if_neg h2, if_neg h3, if_neg (by simpa using h4), ho])
    simp only [optsVal]
    go_wp2_with (refine lst_row (by rfl) (.tmp 6) (.tmp 57) _ rfl rfl rfl (HRW.out _ (HK4.out)) szSeg rfl rfl rfl ?_)
    refine bodyPost_ret (v := .tuple #[.agg #[.int .u16 0, .int .u16 0, .int .u32 0, .int .u32 0, .int .u8 0, .int .u16 0, .int .u16 0, .slice none 0 0], .int .i64 7]) (results_cell2 (fn := Try.f17) szSeg uSeg (setRow_heap _ _ _ #[.int .u16 0, .int .u16 0, .int .u32 0, .int .u32 0, .int .u8 0, .int .u16 0, .int .u16 0, .slice none 0 0] _ _ (HRW.out _ (HK4.out))) rfl Try.results17 rfl rfl) rfl (.inl ⟨7, by decide, HO'.out, (HKB.out.trans (HK4.out)).setRow (by omega), rfl⟩)
  · have hk := opts_le _ _ 0 k (Nat.le_refl _) (by omega) ho
    have HO' : Hid (out9 [s0, s1, s2, s3] [d0, d1, d2, d3] l = .inr ⟨be (l.take 2), be ((l.take 4).drop 2), be ((l.take 8).drop 4), be ((l.take 12).drop 8), UInt8.ofNat (x13.toNat % 32), be ((l.take 16).drop 14), if x13.toNat / 2 % 2 = 0 then 0 else k, l.drop hd⟩) :=
      Lib.hid (by rw [HO.out, if_neg h1, if_neg h2, if_neg h3, if_neg (by simpa using h4), ho])
    clear HO ho h4
    simp only [optsVal]
    obtain ⟨s1', r1, _⟩ := cut_hi (P := Try.prog) (kd := .i64) (m := 2) Try.underlying24 hi8 hs8 HA.out HOK.out (by omega)
    obtain ⟨A1, s2', r2, _⟩ := cut_mid (P := Try.prog) (k := 2) (m := 4) (kd := .i64) (kd2 := .i64) Try.underlying24 hi8 hs8 HA.out HOK.out (by omega) (by omega)
    obtain ⟨A2, s3', r3, _⟩ := cut_mid (P := Try.prog) (k := 4) (m := 8) (kd := .i64) (kd2 := .i64) Try.underlying24 hi8 hs8 HA.out HOK.out (by omega) (by omega)
    obtain ⟨A3, s4', r4, _⟩ := cut_mid (P := Try.prog) (k := 8) (m := 12) (kd := .i64) (kd2 := .i64) Try.underlying24 hi8 hs8 HA.out HOK.out (by omega) (by omega)
    obtain ⟨A4, s5', r5, _⟩ := cut_mid (P := Try.prog) (k := 14) (m := 16) (kd := .i64) (kd2 := .i64) Try.underlying24 hi8 hs8 HA.out HOK.out (by omega) (by omega)
    obtain ⟨A5, s6', r6, _⟩ := cut_lo (P := Try.prog) (m := hd) (kd := .i64) Try.underlying24 hi8 hs8 HA.out HOK.out (by omega)
    have hdl : (l.drop hd).length = n - hd := by rw [List.length_drop, HLEN.out]
    obtain ⟨data, hdata⟩ : ∃ data, l.drop hd = data := ⟨_, rfl⟩
    rw [hdata] at hdl HO' r6
    rw [← hdl] at s6' r6
    have hdl2 : data.length ≤ 980 := by omega
    obtain ⟨c2, hc2⟩ : ∃ c2, c - hd = c2 := ⟨_, rfl⟩
    rw [hc2] at s6'
    have l1 : (l.take 2).length ≤ 2 := by rw [List.length_take]; omega
    have l2 : ((l.take 4).drop 2).length ≤ 2 := by rw [List.length_drop, List.length_take]; omega
    have l3 : ((l.take 8).drop 4).length ≤ 4 := by rw [List.length_drop, List.length_take]; omega
    have l4 : ((l.take 12).drop 8).length ≤ 4 := by rw [List.length_drop, List.length_take]; omega
    have l5 : ((l.take 16).drop 14).length ≤ 2 := by rw [List.length_drop, List.length_take]; omega
    have v1 := be2_le _ l1
    have v2 := be2_le _ l2
    have v3 := be4_lt _ l3
    have v4 := be4_lt _ l4
    have v5 := be2_le _ l5
    have NB : Hid (∀ W, Kp w4 W → (Calls Try.prog 41 #[.slice (some ⟨g, off, none⟩) 2 c] W fun e w' => e = .returned (.int .u32 (be (l.take 2) : Nat)) ∧ W = w') ∧ (Calls Try.prog 41 #[.slice A1 2 (c - 2)] W fun e w' => e = .returned (.int .u32 (be ((l.take 4).drop 2) : Nat)) ∧ W = w') ∧
        (Calls Try.prog 41 #[.slice A2 4 (c - 4)] W fun e w' => e = .returned (.int .u32 (be ((l.take 8).drop 4) : Nat)) ∧ W = w') ∧ (Calls Try.prog 41 #[.slice A3 4 (c - 8)] W fun e w' => e = .returned (.int .u32 (be ((l.take 12).drop 8) : Nat)) ∧ W = w') ∧
        (Calls Try.prog 41 #[.slice A4 2 (c - 14)] W fun e w' => e = .returned (.int .u32 (be ((l.take 16).drop 14) : Nat)) ∧ W = w')) :=
      Lib.hid fun W hk => ⟨num9_any W 0 _ 2 c _ ((r1.keep HK4.out).keep hk) (by decide), num9_any W 0 _ 2 _ _ ((r2.keep HK4.out).keep hk) (by decide), num9_any W 0 _ 4 _ _ ((r3.keep HK4.out).keep hk) (by decide), num9_any W 0 _ 4 _ _ ((r4.keep HK4.out).keep hk) (by decide), num9_any W 0 _ 2 _ _ ((r5.keep HK4.out).keep hk) (by decide)⟩
    obtain ⟨sp, hsp⟩ : ∃ x, be (l.take 2) = x := ⟨_, rfl⟩
    obtain ⟨dp, hdp⟩ : ∃ x, be ((l.take 4).drop 2) = x := ⟨_, rfl⟩
    obtain ⟨sq, hsq⟩ : ∃ x, be ((l.take 8).drop 4) = x := ⟨_, rfl⟩
    obtain ⟨ak, hak⟩ : ∃ x, be ((l.take 12).drop 8) = x := ⟨_, rfl⟩
    obtain ⟨wn, hwn⟩ : ∃ x, be ((l.take 16).drop 14) = x := ⟨_, rfl⟩
    obtain ⟨fl, hfl⟩ : ∃ x, UInt8.ofNat (x13.toNat % 32) = x := ⟨_, rfl⟩
    have hfn : fl.toNat = x13.toNat % 32 := by rw [← hfl, UInt8.toNat_ofNat']; omega
    have a31 : bits BinOp.and IntKind.u8 (x13.toNat : Int) 31 = (fl.toNat : Int) := by rw [and_31, hfn]
    have hf31 : fl.toNat ≤ 31 := by omega
    have hf2 : x13.toNat / 2 % 2 = fl.toNat / 2 % 2 := by rw [hfn]; omega
    rw [hsp, hdp, hsq, hak, hwn, hfl, hf2] at HO'
    rw [hsp, hdp, hsq, hak, hwn] at NB
    rw [hsp] at v1
    rw [hdp] at v2
    rw [hsq] at v3
    rw [hak] at v4
    rw [hwn] at v5
    have T2 : Hid (∀ W : World, ((Instr.slice 24 (.slice (some ⟨g, off, none⟩) n c) none (some (.int .i64 2)) none).run Try.prog W = .ok (.slice (some ⟨g, off, none⟩) 2 c) W) ∧ ((Instr.slice 24 (.slice (some ⟨g, off, none⟩) n c) (some (.int .i64 2)) (some (.int .i64 4)) none).run Try.prog W = .ok (.slice A1 2 (c - 2)) W) ∧
        ((Instr.slice 24 (.slice (some ⟨g, off, none⟩) n c) (some (.int .i64 4)) (some (.int .i64 8)) none).run Try.prog W = .ok (.slice A2 4 (c - 4)) W) ∧ ((Instr.slice 24 (.slice (some ⟨g, off, none⟩) n c) (some (.int .i64 8)) (some (.int .i64 12)) none).run Try.prog W = .ok (.slice A3 4 (c - 8)) W) ∧
        ((Instr.slice 24 (.slice (some ⟨g, off, none⟩) n c) (some (.int .i64 14)) (some (.int .i64 16)) none).run Try.prog W = .ok (.slice A4 2 (c - 14)) W) ∧ ((Instr.slice 24 (.slice (some ⟨g, off, none⟩) n c) (some (.int .i64 (hd : Int))) none none).run Try.prog W = .ok (.slice A5 data.length c2) W)) :=
      Lib.hid fun W => ⟨s1' W, s2' W, s3' W, s4' W, s5' W, s6' W⟩
    have KC : ∀ W : World, Kp w4 W → W.cell? ⟨g, off + 13, none⟩ = some (.int .u8 (x13.toNat : Int)) := fun W hk => hk.cell (HK4.out.cell Z13.out)
    have RDM : Hid (∀ W : World, Kp w4 W → Rd W 0 A5 data.length data) := Lib.hid fun W hk => (r6.keep HK4.out).keep hk
    have hlt4 : w.heap.size + 3 ≤ w4.heap.size := by have := HK4.out.size; simp at this; omega
    have u1 : IntKind.u16.wrap (sp : Int) = (sp : Int) := wrap_u16 (by omega) (by omega)
    have u2 : IntKind.u16.wrap (dp : Int) = (dp : Int) := wrap_u16 (by omega) (by omega)
    have u3 : IntKind.u16.wrap (wn : Int) = (wn : Int) := wrap_u16 (by omega) (by omega)
    have p13 : 13 < n := by omega
    have p13' : (13 : Int) < (n : Int) := by omega
    clear s1' s2' s3' s4' s5' s6' r1 r2 r3 r4 r5 r6 l1 l2 l3 l4 l5 hsp hdp hsq hak hwn hfl hdata hc2 hdl hi8 hs8 Z13 hfn HLEN h3 hs i8
    go_wp2_with fail
    refine wp_region_steps (by kernel_rfl) 29 (o9phi w w4 g off n c hd c2 sp dp sq ak wn x13 fl A1 A2 A3 A4 A5 data) [59, 60, 61, 62, 63, 64, 65, 66, 67, 68, 69, 70, 71, 72, 73, 74, 75, 76, 77, 78, 79, 80, 81, 82, 83, 84, 85, 86, 11] (by kernel_rfl) (by kernel_rfl) ⟨?_, ?_, ?_, ?_, ?_, ?_, ?_, ?_, ?_, ?_, ?_, ?_, ?_, ?_, ?_, ?_, ?_, ?_, ?_, ?_, ?_, ?_, ?_, ?_, ?_, ?_, ?_, ?_, ?_, trivial⟩ ?_
    · intro a W hW hO hφ K hK
      have q0 : a.tmps.getD 0 undef = (.slice (some ⟨g, off, none⟩) n c) := hO 0 (by kernel_rfl)
      have r0 := q0
      rw [Array.getD_eq_getD_getElem?] at r0
      clear hO hφ
      clear KC
      go_simp
      exact hK _ _ (Kp.refl _) rfl
    · intro a W hW hO hφ K hK
      have q59 : a.tmps.getD 59 undef = (.slice (some ⟨g, off, none⟩) n c) := hφ ⟨0, .data⟩ (by simp) rfl
      have r59 := q59
      rw [Array.getD_eq_getD_getElem?] at r59
      clear hO hφ
      have tt := (T2.out W).1
      clear KC
      go_simp
      exact hK _ _ (Kp.refl _) rfl
    · intro a W hW hO hφ K hK
      have q60 : a.tmps.getD 60 undef = (.slice (some ⟨g, off, none⟩) 2 c) := hφ ⟨1, .data⟩ (by simp) rfl
      have r60 := q60
      rw [Array.getD_eq_getD_getElem?] at r60
      clear hO hφ
      clear KC
      go_simp
      go_at_call 41
      refine (NB.out W (Kp.trans ((Kp.refl _).drew) hW)).1.mono ?_
      rintro e w' ⟨rfl, rfl⟩
      exact hK _ _ (Kp.refl _) rfl
    · intro a W hW hO hφ K hK
      have q61 : a.tmps.getD 61 undef = (.int .u32 (sp : Int)) := hφ ⟨2, .data⟩ (by simp) rfl
      have r61 := q61
      rw [Array.getD_eq_getD_getElem?] at r61
      clear hO hφ
      clear KC
      go_simp
      exact hK _ _ (Kp.refl _) rfl
    · intro a W hW hO hφ K hK
      have q0 : a.tmps.getD 0 undef = (.slice (some ⟨g, off, none⟩) n c) := hO 0 (by kernel_rfl)
      have r0 := q0
      rw [Array.getD_eq_getD_getElem?] at r0
      clear hO hφ
      clear KC
      go_simp
      exact hK _ _ (Kp.refl _) rfl
    · intro a W hW hO hφ K hK
      have q63 : a.tmps.getD 63 undef = (.slice (some ⟨g, off, none⟩) n c) := hφ ⟨4, .data⟩ (by simp) rfl
      have r63 := q63
      rw [Array.getD_eq_getD_getElem?] at r63
      clear hO hφ
      have tt := (T2.out W).2.1
      clear KC
      go_simp
      exact hK _ _ (Kp.refl _) rfl
    · intro a W hW hO hφ K hK
      have q64 : a.tmps.getD 64 undef = (.slice A1 2 (c - 2)) := hφ ⟨5, .data⟩ (by simp) rfl
      have r64 := q64
      rw [Array.getD_eq_getD_getElem?] at r64
      clear hO hφ
      clear KC
      go_simp
      go_at_call 41
      refine (NB.out W (Kp.trans ((Kp.refl _).drew) hW)).2.1.mono ?_
      rintro e w' ⟨rfl, rfl⟩
      exact hK _ _ (Kp.refl _) rfl
    · intro a W hW hO hφ K hK
      have q65 : a.tmps.getD 65 undef = (.int .u32 (dp : Int)) := hφ ⟨6, .data⟩ (by simp) rfl
      have r65 := q65
      rw [Array.getD_eq_getD_getElem?] at r65
      clear hO hφ
      clear KC
      go_simp
      exact hK _ _ (Kp.refl _) rfl
    · intro a W hW hO hφ K hK
      have q0 : a.tmps.getD 0 undef = (.slice (some ⟨g, off, none⟩) n c) := hO 0 (by kernel_rfl)
      have r0 := q0
      rw [Array.getD_eq_getD_getElem?] at r0
      clear hO hφ
      clear KC
      go_simp
      exact hK _ _ (Kp.refl _) rfl
    · intro a W hW hO hφ K hK
      have q67 : a.tmps.getD 67 undef = (.slice (some ⟨g, off, none⟩) n c) := hφ ⟨8, .data⟩ (by simp) rfl
      have r67 := q67
      rw [Array.getD_eq_getD_getElem?] at r67
      clear hO hφ
      have tt := (T2.out W).2.2.1
      clear KC
      go_simp
      exact hK _ _ (Kp.refl _) rfl
    · intro a W hW hO hφ K hK
      have q68 : a.tmps.getD 68 undef = (.slice A2 4 (c - 4)) := hφ ⟨9, .data⟩ (by simp) rfl
      have r68 := q68
      rw [Array.getD_eq_getD_getElem?] at r68
      clear hO hφ
      clear KC
      go_simp
      go_at_call 41
      refine (NB.out W (Kp.trans ((Kp.refl _).drew) hW)).2.2.1.mono ?_
      rintro e w' ⟨rfl, rfl⟩
      exact hK _ _ (Kp.refl _) rfl
    · intro a W hW hO hφ K hK
      have q0 : a.tmps.getD 0 undef = (.slice (some ⟨g, off, none⟩) n c) := hO 0 (by kernel_rfl)
      have r0 := q0
      rw [Array.getD_eq_getD_getElem?] at r0
      clear hO hφ
      clear KC
      go_simp
      exact hK _ _ (Kp.refl _) rfl
    · intro a W hW hO hφ K hK
      have q70 : a.tmps.getD 70 undef = (.slice (some ⟨g, off, none⟩) n c) := hφ ⟨11, .data⟩ (by simp) rfl
      have r70 := q70
      rw [Array.getD_eq_getD_getElem?] at r70
      clear hO hφ
      have tt := (T2.out W).2.2.2.1
      clear KC
      go_simp
      exact hK _ _ (Kp.refl _) rfl
    · intro a W hW hO hφ K hK
      have q71 : a.tmps.getD 71 undef = (.slice A3 4 (c - 8)) := hφ ⟨12, .data⟩ (by simp) rfl
      have r71 := q71
      rw [Array.getD_eq_getD_getElem?] at r71
      clear hO hφ
      clear KC
      go_simp
      go_at_call 41
      refine (NB.out W (Kp.trans ((Kp.refl _).drew) hW)).2.2.2.1.mono ?_
      rintro e w' ⟨rfl, rfl⟩
      exact hK _ _ (Kp.refl _) rfl
    · intro a W hW hO hφ K hK
      have q0 : a.tmps.getD 0 undef = (.slice (some ⟨g, off, none⟩) n c) := hO 0 (by kernel_rfl)
      have r0 := q0
      rw [Array.getD_eq_getD_getElem?] at r0
      clear hO hφ
      clear KC
      go_simp
      exact hK _ _ (Kp.refl _) rfl
    · intro a W hW hO hφ K hK
      have q73 : a.tmps.getD 73 undef = (.slice (some ⟨g, off, none⟩) n c) := hφ ⟨14, .data⟩ (by simp) rfl
      have r73 := q73
      rw [Array.getD_eq_getD_getElem?] at r73
      clear hO hφ
      clear KC
      go_simp
      exact hK _ _ (Kp.refl _) rfl
    · intro a W hW hO hφ K hK
      have q74 : a.tmps.getD 74 undef = (.pointer (some ⟨g, off + 13, none⟩)) := hφ ⟨15, .data⟩ (by simp) rfl
      have r74 := q74
      rw [Array.getD_eq_getD_getElem?] at r74
      clear hO hφ
      have kk := KC W (Kp.trans ((Kp.refl _).drew) hW)
      clear KC
      go_simp
      exact hK _ _ (Kp.refl _) rfl
    · intro a W hW hO hφ K hK
      have q75 : a.tmps.getD 75 undef = (.int .u8 (x13.toNat : Int)) := hφ ⟨16, .data⟩ (by simp) rfl
      have r75 := q75
      rw [Array.getD_eq_getD_getElem?] at r75
      clear hO hφ
      clear KC
      go_simp
      exact hK _ _ (Kp.refl _) rfl
    · intro a W hW hO hφ K hK
      have q0 : a.tmps.getD 0 undef = (.slice (some ⟨g, off, none⟩) n c) := hO 0 (by kernel_rfl)
      have r0 := q0
      rw [Array.getD_eq_getD_getElem?] at r0
      clear hO hφ
      clear KC
      go_simp
      exact hK _ _ (Kp.refl _) rfl
    · intro a W hW hO hφ K hK
      have q77 : a.tmps.getD 77 undef = (.slice (some ⟨g, off, none⟩) n c) := hφ ⟨18, .data⟩ (by simp) rfl
      have r77 := q77
      rw [Array.getD_eq_getD_getElem?] at r77
      clear hO hφ
      have tt := (T2.out W).2.2.2.2.1
      clear KC
      go_simp
      exact hK _ _ (Kp.refl _) rfl
    · intro a W hW hO hφ K hK
      have q78 : a.tmps.getD 78 undef = (.slice A4 2 (c - 14)) := hφ ⟨19, .data⟩ (by simp) rfl
      have r78 := q78
      rw [Array.getD_eq_getD_getElem?] at r78
      clear hO hφ
      clear KC
      go_simp
      go_at_call 41
      refine (NB.out W (Kp.trans ((Kp.refl _).drew) hW)).2.2.2.2.mono ?_
      rintro e w' ⟨rfl, rfl⟩
      exact hK _ _ (Kp.refl _) rfl
    · intro a W hW hO hφ K hK
      have q79 : a.tmps.getD 79 undef = (.int .u32 (wn : Int)) := hφ ⟨20, .data⟩ (by simp) rfl
      have r79 := q79
      rw [Array.getD_eq_getD_getElem?] at r79
      clear hO hφ
      clear KC
      go_simp
      exact hK _ _ (Kp.refl _) rfl
    · intro a W hW hO hφ K hK
      clear hO hφ
      clear KC
      go_simp
      exact hK _ _ ((Kp.refl _).alloc _) ⟨_, rfl⟩
    · intro a W hW hO hφ K hK
      have q0 : a.tmps.getD 0 undef = (.slice (some ⟨g, off, none⟩) n c) := hO 0 (by kernel_rfl)
      have r0 := q0
      rw [Array.getD_eq_getD_getElem?] at r0
      clear hO hφ
      clear KC
      go_simp
      exact hK _ _ (Kp.refl _) rfl
    · intro a W hW hO hφ K hK
      have q8 : a.tmps.getD 8 undef = (.int .i64 (hd : Int)) := hO 8 (by kernel_rfl)
      have r8 := q8
      rw [Array.getD_eq_getD_getElem?] at r8
      clear hO hφ
      clear KC
      go_simp
      exact hK _ _ (Kp.refl _) rfl
    · intro a W hW hO hφ K hK
      have q82 : a.tmps.getD 82 undef = (.slice (some ⟨g, off, none⟩) n c) := hφ ⟨23, .data⟩ (by simp) rfl
      have q83 : a.tmps.getD 83 undef = (.int .i64 (hd : Int)) := hφ ⟨24, .data⟩ (by simp) rfl
      have r82 := q82
      rw [Array.getD_eq_getD_getElem?] at r82
      have r83 := q83
      rw [Array.getD_eq_getD_getElem?] at r83
      clear hO hφ
      have tt := (T2.out W).2.2.2.2.2
      clear KC
      go_simp
      exact hK _ _ (Kp.refl _) rfl
    · intro a W hW hO hφ K hK
      have q81 : (St.emp).p (a.tmps.getD 81 undef) W := hφ ⟨22, .data⟩ (by simp) rfl
      have q84 : a.tmps.getD 84 undef = (.slice A5 data.length c2) := hφ ⟨25, .data⟩ (by simp) rfl
      have r84 := q84
      rw [Array.getD_eq_getD_getElem?] at r84
      clear hO hφ
      obtain ⟨ge, qe⟩ := q81
      refine oapp_empty (.tmp 81) (.tmp 84) rfl qe q84 (RDM.out W (Kp.trans ((Kp.refl _).drew) hW)) (by omega) (fun A' cap' w' h1 h2 h3 => ?_)
      exact hK _ _ h3 ⟨_, _, rfl, RdV.mono_lo h1 (by have := hW.size; simp at this; omega), h2⟩
    · intro a W hW hO hφ K hK
      have q62 : a.tmps.getD 62 undef = (.int .u16 (sp : Int)) := hφ ⟨3, .data⟩ (by simp) rfl
      have q66 : a.tmps.getD 66 undef = (.int .u16 (dp : Int)) := hφ ⟨7, .data⟩ (by simp) rfl
      have q69 : a.tmps.getD 69 undef = (.int .u32 (sq : Int)) := hφ ⟨10, .data⟩ (by simp) rfl
      have q72 : a.tmps.getD 72 undef = (.int .u32 (ak : Int)) := hφ ⟨13, .data⟩ (by simp) rfl
      have q76 : a.tmps.getD 76 undef = (.int .u8 (fl.toNat : Int)) := hφ ⟨17, .data⟩ (by simp) rfl
      have q80 : a.tmps.getD 80 undef = (.int .u16 (wn : Int)) := hφ ⟨21, .data⟩ (by simp) rfl
      have q85 : (St.rd0 (w.heap.size + 3) data.length data).p (a.tmps.getD 85 undef) W := hφ ⟨26, .data⟩ (by simp) rfl
      have r62 := q62
      rw [Array.getD_eq_getD_getElem?] at r62
      have r66 := q66
      rw [Array.getD_eq_getD_getElem?] at r66
      have r69 := q69
      rw [Array.getD_eq_getD_getElem?] at r69
      have r72 := q72
      rw [Array.getD_eq_getD_getElem?] at r72
      have r76 := q76
      rw [Array.getD_eq_getD_getElem?] at r76
      have r80 := q80
      rw [Array.getD_eq_getD_getElem?] at r80
      clear hO hφ
      clear KC
      obtain ⟨Q1, c1, q85', hr, hok⟩ := q85
      have r85 := q85'
      rw [Array.getD_eq_getD_getElem?] at r85
      go_simp
      exact hK _ _ (Kp.refl _) ⟨_, _, rfl, hr, hok⟩
    · intro a W hW hO hφ K hK
      clear hO hφ
      clear KC
      have hsz := hW.size
      go_simp
      exact hK _ _ ((Kp.refl _).alloc _) ⟨W.heap.size, rfl, hsz, heap_alloc_new W _⟩
    intro f W hW hφ
    have v0 : f 0 = (.slice (some ⟨g, off, none⟩) n c) := hφ 0 (by omega)
    have v1 : f 1 = (.slice (some ⟨g, off, none⟩) 2 c) := hφ 1 (by omega)
    have v2 : f 2 = (.int .u32 (sp : Int)) := hφ 2 (by omega)
    have v3 : f 3 = (.int .u16 (sp : Int)) := hφ 3 (by omega)
    have v4 : f 4 = (.slice (some ⟨g, off, none⟩) n c) := hφ 4 (by omega)
    have v5 : f 5 = (.slice A1 2 (c - 2)) := hφ 5 (by omega)
    have v6 : f 6 = (.int .u32 (dp : Int)) := hφ 6 (by omega)
    have v7 : f 7 = (.int .u16 (dp : Int)) := hφ 7 (by omega)
    have v8 : f 8 = (.slice (some ⟨g, off, none⟩) n c) := hφ 8 (by omega)
    have v9 : f 9 = (.slice A2 4 (c - 4)) := hφ 9 (by omega)
    have v10 : f 10 = (.int .u32 (sq : Int)) := hφ 10 (by omega)
    have v11 : f 11 = (.slice (some ⟨g, off, none⟩) n c) := hφ 11 (by omega)
    have v12 : f 12 = (.slice A3 4 (c - 8)) := hφ 12 (by omega)
    have v13 : f 13 = (.int .u32 (ak : Int)) := hφ 13 (by omega)
    have v14 : f 14 = (.slice (some ⟨g, off, none⟩) n c) := hφ 14 (by omega)
    have v15 : f 15 = (.pointer (some ⟨g, off + 13, none⟩)) := hφ 15 (by omega)
    have v16 : f 16 = (.int .u8 (x13.toNat : Int)) := hφ 16 (by omega)
    have v17 : f 17 = (.int .u8 (fl.toNat : Int)) := hφ 17 (by omega)
    have v18 : f 18 = (.slice (some ⟨g, off, none⟩) n c) := hφ 18 (by omega)
    have v19 : f 19 = (.slice A4 2 (c - 14)) := hφ 19 (by omega)
    have v20 : f 20 = (.int .u32 (wn : Int)) := hφ 20 (by omega)
    have v21 : f 21 = (.int .u16 (wn : Int)) := hφ 21 (by omega)
    have v22 : (St.emp).p (f 22) W := hφ 22 (by omega)
    have v23 : f 23 = (.slice (some ⟨g, off, none⟩) n c) := hφ 23 (by omega)
    have v24 : f 24 = (.int .i64 (hd : Int)) := hφ 24 (by omega)
    have v25 : f 25 = (.slice A5 data.length c2) := hφ 25 (by omega)
    have v26 : (St.rd0 (w.heap.size + 3) data.length data).p (f 26) W := hφ 26 (by omega)
    have v27 : (St.with0 (w.heap.size + 3) data.length data (fun gd c => .agg #[.int .u16 (sp : Int), .int .u16 (dp : Int), .int .u32 (sq : Int), .int .u32 (ak : Int), .int .u8 (fl.toNat : Int), .int .u16 (wn : Int), .int .u16 0, .slice (some ⟨gd, 0, none⟩) data.length c])).p (f 27) W := hφ 27 (by omega)
    have v28 : (St.row w4.heap.size #[.int .u16 0, .int .u16 0, .int .u32 0, .int .u32 0, .int .u8 0, .int .u16 0, .int .u16 0, .slice none 0 0] 26).p (f 28) W := hφ 28 (by omega)
    clear hφ
    simp only [putAll, List.setIfInBounds_toArray, List.set_cons_succ, List.set_cons_zero, v0, v1, v2, v3, v4, v5, v6, v7, v8, v9, v10, v11, v12, v13, v14, v15, v16, v17, v18, v19, v20, v21, v23, v24, v25]
    clear v0 v1 v2 v3 v4 v5 v6 v7 v8 v9 v10 v11 v12 v13 v14 v15 v16 v17 v18 v19 v20 v21 v23 v24 v25
    obtain ⟨gd, cd, hv27, hrd, hsd⟩ := v27
    obtain ⟨nb, hv28, hnb, hrow⟩ := v28
    refine wpAny_ready (rs := [29]) (by kernel_rfl) (by simp) (AllReady.cons rfl (fun K' hK' => ?_) AllReady.nil)
    have hv27' : f 27 = .agg #[.int .u16 (sp : Int), .int .u16 (dp : Int), .int .u32 (sq : Int), .int .u32 (ak : Int), .int .u8 (fl.toNat : Int), .int .u16 (wn : Int), .int .u16 0, .slice (some ⟨gd, 0, none⟩) data.length cd] := hv27
    have hv28' : f 28 = .pointer (some ⟨nb, 0, none⟩) := hv28
    simp only [hv27', hv28']
    split
    case isFalse hx => exact (hx rfl).elim
    refine ost_row (.tmp 11) (.tmp 86) _ rfl rfl rfl rfl hrow szSeg rfl rfl ?_
    refine hK' _ _ ?_
    refine wpAny_done (by kernel_rfl) ?_ _
    have hkW : Kp w4 W := Kp.trans ((Kp.refl _).drew) hW
    obtain ⟨w5, hw5, hk5, hrow5, hrd5⟩ : ∃ w5, w5 = W.setRow nb #[.int .u16 (sp : Int), .int .u16 (dp : Int), .int .u32 (sq : Int), .int .u32 (ak : Int), .int .u8 (fl.toNat : Int), .int .u16 (wn : Int), .int .u16 0, .slice (some ⟨gd, 0, none⟩) data.length cd] ∧ Kp w4 w5 ∧ w5.heap[nb]? = some (.cells #[.int .u16 (sp : Int), .int .u16 (dp : Int), .int .u32 (sq : Int), .int .u32 (ak : Int), .int .u8 (fl.toNat : Int), .int .u16 (wn : Int), .int .u16 0, .slice (some ⟨gd, 0, none⟩) data.length cd] 26 (0, 0)) ∧ Rd w5 (w.heap.size + 3) (some ⟨gd, 0, none⟩) data.length data :=
      ⟨_, rfl, hkW.setRow hnb, setRow_heap _ _ _ _ _ _ hrow, rd0_other hrd hrow rfl (by decide)⟩
    rw [← hw5]
    clear hw5 hrow hrd hK' hv27 hv27' hv28 hv28' hkW hW RDM KC T2 NB
    have z4 : w5.cell? ⟨nb, 4, none⟩ = some (.int .u8 (fl.toNat : Int)) := (cell_of_row w5 _ 4 _ _ _ hrow5).trans rfl
    have z6 : w5.cell? ⟨nb, 6, none⟩ = some (.int .u16 0) := (cell_of_row w5 _ 6 _ _ _ hrow5).trans rfl
    have fz6 : w5.frozen? ⟨nb, 6, none⟩ = false := by simp [World.frozen?, hrow5]
    have a2 := and_2 fl
    by_cases hb2 : fl.toNat / 2 % 2 = 0
    · rw [hb2] at a2 HO'
      have HRW5 := Lib.hid hrow5
      have HRD5 := Lib.hid hrd5
      have HK5 := Lib.hid (HK4.out.trans hk5)
      clear hrow5 hrd5 hk5
      go_wp2_with (first | (refine lld_row (by rfl) (.tmp 11) _ _ rfl rfl HRW5.out Try.underlying26 rfl szSeg ?_) | (refine lst_row (by rfl) (.tmp 6) (.tmp 93) _ rfl rfl rfl (HRW.out _ HK5.out) szSeg rfl rfl rfl ?_))
      refine bodyPost_ret (v := .tuple #[.agg #[.int .u16 (sp : Int), .int .u16 (dp : Int), .int .u32 (sq : Int), .int .u32 (ak : Int), .int .u8 (fl.toNat : Int), .int .u16 (wn : Int), .int .u16 0, .slice (some ⟨gd, 0, none⟩) data.length cd], .int .i64 0]) (results_cell2 (fn := Try.f17) szSeg uSeg (setRow_heap _ _ _ _ _ _ (HRW.out _ HK5.out)) rfl Try.results17 rfl rfl) rfl
        (.inr ⟨⟨sp, dp, sq, ak, fl, wn, 0, data⟩, by rw [HO'.out]; rfl, ⟨v1, v2, v3, v4, hf31, v5, Nat.zero_le _, fun h => absurd rfl h⟩, hdl2, (HKB.out.trans HK5.out).setRow (by omega), some ⟨gd, 0, none⟩, cd, rfl, RdV.mono_lo (RdV.setRow HRD5.out (by omega)) (by omega), hsd⟩)
    · have hb3 : fl.toNat / 2 % 2 = 1 := by omega
      rw [if_neg hb2] at HO'
      rw [hb3] at a2
      have hrow6 := row_setCell hrow5 6 (.int .u16 (k : Int))
      have hrow6' : (w5.setCell ⟨nb, 6, none⟩ (.int .u16 (k : Int))).heap[nb]? = some (.cells #[.int .u16 (sp : Int), .int .u16 (dp : Int), .int .u32 (sq : Int), .int .u32 (ak : Int), .int .u8 (fl.toNat : Int), .int .u16 (wn : Int), .int .u16 (k : Int), .slice (some ⟨gd, 0, none⟩) data.length cd] 26 (0, 0)) := hrow6
      have HRW5 := Lib.hid hrow6'
      have HRD5 : Hid (Rd (w5.setCell ⟨nb, 6, none⟩ (.int .u16 (k : Int))) (w.heap.size + 3) (some ⟨gd, 0, none⟩) data.length data) := Lib.hid (rd0_cell hrd5 hrow5 rfl (by decide))
      have HK5 : Hid (Kp (((w.alloc (.cells #[.int .u8 (s0.toNat : Int), .int .u8 (s1.toNat : Int), .int .u8 (s2.toNat : Int), .int .u8 (s3.toNat : Int)] 28)).alloc (.cells #[.int .u8 (d0.toNat : Int), .int .u8 (d1.toNat : Int), .int .u8 (d2.toNat : Int), .int .u8 (d3.toNat : Int)] 28)).alloc (.cells #[.int .u16 0, .int .u16 0, .int .u32 0, .int .u32 0, .int .u8 0, .int .u16 0, .int .u16 0, .slice none 0 0] 26)) (w5.setCell ⟨nb, 6, none⟩ (.int .u16 (k : Int)))) := Lib.hid (HK4.out.trans (hk5.setCell hnb _))
      clear hrow5 hrd5 hk5 hrow6 hrow6'
      go_wp2_with (first | (refine lld_row (by rfl) (.tmp 11) _ _ rfl rfl HRW5.out Try.underlying26 rfl szSeg ?_) | (refine lst_row (by rfl) (.tmp 6) (.tmp 93) _ rfl rfl rfl (HRW.out _ HK5.out) szSeg rfl rfl rfl ?_))
      refine bodyPost_ret (v := .tuple #[.agg #[.int .u16 (sp : Int), .int .u16 (dp : Int), .int .u32 (sq : Int), .int .u32 (ak : Int), .int .u8 (fl.toNat : Int), .int .u16 (wn : Int), .int .u16 (k : Int), .slice (some ⟨gd, 0, none⟩) data.length cd], .int .i64 0]) (results_cell2 (fn := Try.f17) szSeg uSeg (setRow_heap _ _ _ _ _ _ (HRW.out _ HK5.out)) rfl Try.results17 rfl rfl) rfl
        (.inr ⟨⟨sp, dp, sq, ak, fl, wn, k, data⟩, by rw [HO'.out], ⟨v1, v2, v3, v4, hf31, v5, hk, fun _ => hb3⟩, hdl2, (HKB.out.trans HK5.out).setRow (by omega), some ⟨gd, 0, none⟩, cd, rfl, RdV.mono_lo (RdV.setRow HRD5.out (by omega)) (by omega), hsd⟩)
end Go.Proofs.Ytnoobifdaldfiaa
