/-
  The contract of ether.ParseArp: the Arp of bytes.
-/
import Derived.Test.YtdibmeapflhhaaaArp5e
namespace Go.Proofs.Ytdibmeapflhhaaa
open Go.RowKit

def ArpOk (w : World) (o : UInt8) (a0 a1 a2 a3 a4 a5 b0 b1 b2 b3 c0 c1 c2 c3 c4 c5 d0 d1 d2 d3 : UInt8) (e : Ending) (w' : World) : Prop :=
  Kp w w' ∧ e = .returned (.tuple #[.agg #[.int .i64 (o.toNat : Int), .int .u8 (a0.toNat : Int), .int .u8 (a1.toNat : Int), .int .u8 (a2.toNat : Int), .int .u8 (a3.toNat : Int), .int .u8 (a4.toNat : Int), .int .u8 (a5.toNat : Int), .int .u8 (b0.toNat : Int), .int .u8 (b1.toNat : Int), .int .u8 (b2.toNat : Int), .int .u8 (b3.toNat : Int), .int .u8 (c0.toNat : Int), .int .u8 (c1.toNat : Int), .int .u8 (c2.toNat : Int), .int .u8 (c3.toNat : Int), .int .u8 (c4.toNat : Int), .int .u8 (c5.toNat : Int), .int .u8 (d0.toNat : Int), .int .u8 (d1.toNat : Int), .int .u8 (d2.toNat : Int), .int .u8 (d3.toNat : Int)], .int .i64 0])
def arpGood (h : List UInt8) (o : UInt8) : Bool := h == [0, 1, 8, 0, 6, 4, 0] && (o == 1 || o == 2)

set_option maxRecDepth 100000 in
set_option maxHeartbeats 2000000 in
theorem parp_ok (w : World) (A : Option Addr) (n c : Nat) (h0 h1 h2 h3 h4 h5 h6 o a0 a1 a2 a3 a4 a5 b0 b1 b2 b3 c0 c1 c2 c3 c4 c5 d0 d1 d2 d3 : UInt8) (m : List UInt8)
    (hA : Rd w 0 A n ([h0, h1, h2, h3, h4, h5, h6] ++ ([o] ++ ([a0, a1, a2, a3, a4, a5] ++ ([b0, b1, b2, b3] ++ ([c0, c1, c2, c3, c4, c5] ++ ([d0, d1, d2, d3] ++ m))))))) (hok : SlOk A n c) (hn : n ≤ 140737488351232) :
    Calls Try.prog 20 #[.slice A n c] w fun e w' => (arpGood [h0, h1, h2, h3, h4, h5, h6] o = true → ArpOk w o a0 a1 a2 a3 a4 a5 b0 b1 b2 b3 c0 c1 c2 c3 c4 c5 d0 d1 d2 d3 e w') ∧ (arpGood [h0, h1, h2, h3, h4, h5, h6] o = false → ArpNo w 7 e w') := by
  have ES := Lib.hid (splitArp [h0, h1, h2, h3, h4, h5, h6] [a0, a1, a2, a3, a4, a5] [b0, b1, b2, b3] [c0, c1, c2, c3, c4, c5] [d0, d1, d2, d3] m o rfl rfl rfl rfl rfl)
  have HOK := Lib.hid hok
  clear hok
  go_enter Try.func20, Try.ntmps20
  go_wp2_with fail
  refine (split_any _ A n c _ _ 6 6 [7, 1, 6, 4, 6, 4] (hA.keep (((Kp.refl _).alloc _).alloc _)) HOK.out (by omega) ?_ (by omega)).mono ?_
  · refine ⟨rfl, fun _ => ⟨_, 0, rfl, Nat.zero_le _, fun j u hu => ?_⟩⟩
    rw [show w.heap.size + 1 = (w.alloc (.cells #[.int .i64 0, .int .u8 0, .int .u8 0, .int .u8 0, .int .u8 0, .int .u8 0, .int .u8 0, .int .u8 0, .int .u8 0, .int .u8 0, .int .u8 0, .int .u8 0, .int .u8 0, .int .u8 0, .int .u8 0, .int .u8 0, .int .u8 0, .int .u8 0, .int .u8 0, .int .u8 0, .int .u8 0] 44)).heap.size by simp, cell_new]
    simpa using hu
  rintro e w1 ⟨hk1, v, he, hcase⟩
  rw [ES.out] at he hcase
  rcases hcase with ⟨h0, _⟩ | ⟨_, g, cap, vs, hv, hown, hps⟩
  · exact absurd rfl h0
  subst hv
  subst he
  obtain ⟨g0, c0', p0, o0⟩ := hps.part hown (j := 0) rfl
  obtain ⟨g1, c1', p1, o1⟩ := hps.part hown (j := 1) rfl
  obtain ⟨g2, c2', p2, o2⟩ := hps.part hown (j := 2) rfl
  obtain ⟨g3, c3', p3, o3⟩ := hps.part hown (j := 3) rfl
  obtain ⟨g4, c4', p4, o4⟩ := hps.part hown (j := 4) rfl
  obtain ⟨g5, c5', p5, o5⟩ := hps.part hown (j := 5) rfl
  have hkw : Kp w w1 := (((Kp.refl w).alloc _).alloc _).trans hk1
  have hbk : w1.heap[w.heap.size]? = some (.cells #[.int .i64 0, .int .u8 0, .int .u8 0, .int .u8 0, .int .u8 0, .int .u8 0, .int .u8 0, .int .u8 0, .int .u8 0, .int .u8 0, .int .u8 0, .int .u8 0, .int .u8 0, .int .u8 0, .int .u8 0, .int .u8 0, .int .u8 0, .int .u8 0, .int .u8 0, .int .u8 0, .int .u8 0] 44 (0, 0)) := by
    rw [hk1.block _ (by simp; omega)]
    rw [Below.heap_alloc _ _ _ (by simp)]
    exact heap_alloc_new w _
  have hlt : w.heap.size < w1.heap.size := by have := hk1.size; simp at this; omega
  have q1 : w1.cell? ⟨g1, 0, none⟩ = some (.int .u8 (o.toNat : Int)) := by
    obtain ⟨x', hx, cx⟩ := o1.cell8 (k := 0) (by simp)
    injection hx with hx
    subst hx
    exact cx
  have bo := o.toNat_lt
  have wo : wrap64 (o.toNat : Int) = (o.toNat : Int) := by unfold wrap64; omega
  have ka : Kp w1 (w1.alloc (.cells #[.int .i64 (o.toNat : Int), .int .u8 0, .int .u8 0, .int .u8 0, .int .u8 0, .int .u8 0, .int .u8 0, .int .u8 0, .int .u8 0, .int .u8 0, .int .u8 0, .int .u8 0, .int .u8 0, .int .u8 0, .int .u8 0, .int .u8 0, .int .u8 0, .int .u8 0, .int .u8 0, .int .u8 0, .int .u8 0] 44)) := (Kp.refl w1).alloc _
  have cv : ∀ W, Kp w1 W → (convert 25 9 (.slice (some ⟨g0, 0, none⟩) 7 c0')).run Try.prog W = .ok (.string (str [h0, h1, h2, h3, h4, h5, h6])) W :=
    fun W hk => conv_str (P := Try.prog) (c := c0') Try.underlying25 Try.underlying5 Try.underlying9 (o0.rd0.keep hk)
  have cv1 := cv _ ka
  have pa0 := ka.cell p0
  have htl : (str [h0, h1, h2, h3, h4, h5, h6]).toList = [h0, h1, h2, h3, h4, h5, h6] := by rw [ByteArray.toList_eq, str_list]
  have KD : ∀ W : World, Kp w1 W → W.cell? ⟨g, 2, none⟩ = some (.slice (some ⟨g2, 0, none⟩) 6 c2') ∧ W.cell? ⟨g, 3, none⟩ = some (.slice (some ⟨g3, 0, none⟩) 4 c3') ∧ W.cell? ⟨g, 4, none⟩ = some (.slice (some ⟨g4, 0, none⟩) 6 c4') ∧ W.cell? ⟨g, 5, none⟩ = some (.slice (some ⟨g5, 0, none⟩) 4 c5') ∧ Rd W 0 (some ⟨g2, 0, none⟩) 6 [a0, a1, a2, a3, a4, a5] ∧ Rd W 0 (some ⟨g3, 0, none⟩) 4 [b0, b1, b2, b3] ∧ Rd W 0 (some ⟨g4, 0, none⟩) 6 [c0, c1, c2, c3, c4, c5] ∧ Rd W 0 (some ⟨g5, 0, none⟩) 4 [d0, d1, d2, d3] :=
    fun W hk => ⟨hk.cell p2, hk.cell p3, hk.cell p4, hk.cell p5, o2.rd0.keep hk, o3.rd0.keep hk, o4.rd0.keep hk, o5.rd0.keep hk⟩
  have HKD := Lib.hid KD
  have HBK := Lib.hid hbk
  clear KD hbk cv p0 p2 p3 p4 p5 o0 o1 o2 o3 o4 o5 hps hown hk1 hA
  by_cases hh : [h0, h1, h2, h3, h4, h5, h6] = [0, 1, 8, 0, 6, 4, 0]
  rotate_left
  · have GH : Hid (arpGood [h0, h1, h2, h3, h4, h5, h6] o = false) := Lib.hid (by unfold arpGood; rw [beq_eq_false_iff_ne.2 hh]; rfl)
    rw [← htl] at hh
    clear htl
    go_wp2_with (first | (refine lst_new (by rfl) (.tmp 6) (.tmp 23) _ rfl rfl rfl szArp rfl rfl rfl ?_) | (refine lst_row (by rfl) (.tmp 2) (.tmp 39) _ rfl rfl rfl (ka.block _ hlt |>.trans HBK.out) szArp rfl rfl rfl ?_))
    have hrow := setRow_heap (w1.alloc (.cells #[.int .i64 (o.toNat : Int), .int .u8 0, .int .u8 0, .int .u8 0, .int .u8 0, .int .u8 0, .int .u8 0, .int .u8 0, .int .u8 0, .int .u8 0, .int .u8 0, .int .u8 0, .int .u8 0, .int .u8 0, .int .u8 0, .int .u8 0, .int .u8 0, .int .u8 0, .int .u8 0, .int .u8 0, .int .u8 0] 44)) w.heap.size _ #[.int .i64 0, .int .u8 0, .int .u8 0, .int .u8 0, .int .u8 0, .int .u8 0, .int .u8 0, .int .u8 0, .int .u8 0, .int .u8 0, .int .u8 0, .int .u8 0, .int .u8 0, .int .u8 0, .int .u8 0, .int .u8 0, .int .u8 0, .int .u8 0, .int .u8 0, .int .u8 0, .int .u8 0] _ _ (ka.block _ hlt |>.trans HBK.out)
    refine bodyPost_ret (v := .tuple #[.agg #[.int .i64 0, .int .u8 0, .int .u8 0, .int .u8 0, .int .u8 0, .int .u8 0, .int .u8 0, .int .u8 0, .int .u8 0, .int .u8 0, .int .u8 0, .int .u8 0, .int .u8 0, .int .u8 0, .int .u8 0, .int .u8 0, .int .u8 0, .int .u8 0, .int .u8 0, .int .u8 0, .int .u8 0], .int .i64 7]) (results_cell2 (fn := Try.f20) szArp uArp hrow rfl Try.results20 rfl rfl) rfl ⟨fun h => ?_, fun _ => ⟨(hkw.trans ka).setRow (Nat.le_refl _), rfl⟩⟩
    rw [GH.out] at h
    cases h
  · simp only [List.cons.injEq, and_true] at hh
    obtain ⟨rfl, rfl, rfl, rfl, rfl, rfl, rfl⟩ := hh
    by_cases ho : o = 1 ∨ o = 2
    · have GH : Hid (arpGood [0, 1, 8, 0, 6, 4, 0] o = true) := Lib.hid (by rcases ho with rfl | rfl <;> rfl)
      have e : ((o.toNat : Int) != 1) = false ∨ (((o.toNat : Int) != 1) = true ∧ ((o.toNat : Int) != 2) = false) := by rcases ho with rfl | rfl <;> decide
      clear ho bo
      rcases e with e1 | ⟨e1, e2⟩
      all_goals
        go_wp2_with (refine lst_new (by rfl) (.tmp 6) (.tmp 23) _ rfl rfl rfl szArp rfl rfl rfl ?_)
        obtain ⟨W2, hW2, hk2, hrow2⟩ : ∃ W2, W2 = w1.alloc (.cells #[.int .i64 (o.toNat : Int), .int .u8 0, .int .u8 0, .int .u8 0, .int .u8 0, .int .u8 0, .int .u8 0, .int .u8 0, .int .u8 0, .int .u8 0, .int .u8 0, .int .u8 0, .int .u8 0, .int .u8 0, .int .u8 0, .int .u8 0, .int .u8 0, .int .u8 0, .int .u8 0, .int .u8 0, .int .u8 0] 44) ∧ Kp w1 W2 ∧ W2.heap[w1.heap.size]? = some (.cells #[.int .i64 (o.toNat : Int), .int .u8 0, .int .u8 0, .int .u8 0, .int .u8 0, .int .u8 0, .int .u8 0, .int .u8 0, .int .u8 0, .int .u8 0, .int .u8 0, .int .u8 0, .int .u8 0, .int .u8 0, .int .u8 0, .int .u8 0, .int .u8 0, .int .u8 0, .int .u8 0, .int .u8 0, .int .u8 0] 44 (0, 0)) := ⟨_, rfl, ka, heap_alloc_new w1 _⟩
        rw [← hW2]
        clear hW2 cv1 pa0 ka
        obtain ⟨pc2, pc3, pc4, pc5, rd2, rd3, rd4, rd5⟩ := HKD.out W2 hk2
        go_wp2
        go_region_law (refine step_copy8 rfl (.tmp 41) (.tmp 44) _ _ rfl Try.underlying25 szB rfl rfl (by decide) hrow2 rd2 (by simp) ?_; intro w3 hrow3 gr3; have hk3 := hk2.drew.grown gr3 (Nat.le_refl _))
        replace hrow3 : w3.heap[w1.heap.size]? = some (.cells #[.int .i64 (o.toNat : Int), .int .u8 (a0.toNat : Int), .int .u8 (a1.toNat : Int), .int .u8 (a2.toNat : Int), .int .u8 (a3.toNat : Int), .int .u8 (a4.toNat : Int), .int .u8 (a5.toNat : Int), .int .u8 0, .int .u8 0, .int .u8 0, .int .u8 0, .int .u8 0, .int .u8 0, .int .u8 0, .int .u8 0, .int .u8 0, .int .u8 0, .int .u8 0, .int .u8 0, .int .u8 0, .int .u8 0] 44 (0, 0)) := hrow3
        clear pc2 pc3 pc4 pc5 rd2 rd3 rd4 rd5 hrow2 gr3
        obtain ⟨pc2, pc3, pc4, pc5, rd2, rd3, rd4, rd5⟩ := HKD.out w3 hk3
        go_wp2
        go_region_law (refine step_copy8 rfl (.tmp 47) (.tmp 50) _ _ rfl Try.underlying25 szB rfl rfl (by decide) hrow3 rd3 (by simp) ?_; intro w4 hrow4 gr4; have hk4 := hk3.drew.grown gr4 (Nat.le_refl _))
        replace hrow4 : w4.heap[w1.heap.size]? = some (.cells #[.int .i64 (o.toNat : Int), .int .u8 (a0.toNat : Int), .int .u8 (a1.toNat : Int), .int .u8 (a2.toNat : Int), .int .u8 (a3.toNat : Int), .int .u8 (a4.toNat : Int), .int .u8 (a5.toNat : Int), .int .u8 (b0.toNat : Int), .int .u8 (b1.toNat : Int), .int .u8 (b2.toNat : Int), .int .u8 (b3.toNat : Int), .int .u8 0, .int .u8 0, .int .u8 0, .int .u8 0, .int .u8 0, .int .u8 0, .int .u8 0, .int .u8 0, .int .u8 0, .int .u8 0] 44 (0, 0)) := hrow4
        clear pc2 pc3 pc4 pc5 rd2 rd3 rd4 rd5 hrow3 gr4
        obtain ⟨pc2, pc3, pc4, pc5, rd2, rd3, rd4, rd5⟩ := HKD.out w4 hk4
        go_wp2
        go_region_law (refine step_copy8 rfl (.tmp 53) (.tmp 56) _ _ rfl Try.underlying25 szB rfl rfl (by decide) hrow4 rd4 (by simp) ?_; intro w5 hrow5 gr5; have hk5 := hk4.drew.grown gr5 (Nat.le_refl _))
        replace hrow5 : w5.heap[w1.heap.size]? = some (.cells #[.int .i64 (o.toNat : Int), .int .u8 (a0.toNat : Int), .int .u8 (a1.toNat : Int), .int .u8 (a2.toNat : Int), .int .u8 (a3.toNat : Int), .int .u8 (a4.toNat : Int), .int .u8 (a5.toNat : Int), .int .u8 (b0.toNat : Int), .int .u8 (b1.toNat : Int), .int .u8 (b2.toNat : Int), .int .u8 (b3.toNat : Int), .int .u8 (c0.toNat : Int), .int .u8 (c1.toNat : Int), .int .u8 (c2.toNat : Int), .int .u8 (c3.toNat : Int), .int .u8 (c4.toNat : Int), .int .u8 (c5.toNat : Int), .int .u8 0, .int .u8 0, .int .u8 0, .int .u8 0] 44 (0, 0)) := hrow5
        clear pc2 pc3 pc4 pc5 rd2 rd3 rd4 rd5 hrow4 gr5
        obtain ⟨pc2, pc3, pc4, pc5, rd2, rd3, rd4, rd5⟩ := HKD.out w5 hk5
        go_wp2
        go_region_law (refine step_copy8 rfl (.tmp 59) (.tmp 62) _ _ rfl Try.underlying25 szB rfl rfl (by decide) hrow5 rd5 (by simp) ?_; intro w6 hrow6 gr6; have hk6 := hk5.drew.grown gr6 (Nat.le_refl _))
        replace hrow6 : w6.heap[w1.heap.size]? = some (.cells #[.int .i64 (o.toNat : Int), .int .u8 (a0.toNat : Int), .int .u8 (a1.toNat : Int), .int .u8 (a2.toNat : Int), .int .u8 (a3.toNat : Int), .int .u8 (a4.toNat : Int), .int .u8 (a5.toNat : Int), .int .u8 (b0.toNat : Int), .int .u8 (b1.toNat : Int), .int .u8 (b2.toNat : Int), .int .u8 (b3.toNat : Int), .int .u8 (c0.toNat : Int), .int .u8 (c1.toNat : Int), .int .u8 (c2.toNat : Int), .int .u8 (c3.toNat : Int), .int .u8 (c4.toNat : Int), .int .u8 (c5.toNat : Int), .int .u8 (d0.toNat : Int), .int .u8 (d1.toNat : Int), .int .u8 (d2.toNat : Int), .int .u8 (d3.toNat : Int)] 44 (0, 0)) := hrow6
        clear pc2 pc3 pc4 pc5 rd2 rd3 rd4 rd5 hrow5 gr6
        have hbk := (hk6.block _ hlt).trans HBK.out
        have hrow := setRow_heap w6 w.heap.size _ #[.int .i64 (o.toNat : Int), .int .u8 (a0.toNat : Int), .int .u8 (a1.toNat : Int), .int .u8 (a2.toNat : Int), .int .u8 (a3.toNat : Int), .int .u8 (a4.toNat : Int), .int .u8 (a5.toNat : Int), .int .u8 (b0.toNat : Int), .int .u8 (b1.toNat : Int), .int .u8 (b2.toNat : Int), .int .u8 (b3.toNat : Int), .int .u8 (c0.toNat : Int), .int .u8 (c1.toNat : Int), .int .u8 (c2.toNat : Int), .int .u8 (c3.toNat : Int), .int .u8 (c4.toNat : Int), .int .u8 (c5.toNat : Int), .int .u8 (d0.toNat : Int), .int .u8 (d1.toNat : Int), .int .u8 (d2.toNat : Int), .int .u8 (d3.toNat : Int)] _ _ hbk
        have HX := Lib.hid hbk
        clear hbk
        go_wp2_with (refine lld_row (by rfl) (.tmp 6) _ _ rfl rfl hrow6 Try.underlying44 rfl szArp ?_; refine lst_row (by rfl) (.tmp 2) (.tmp 64) _ rfl rfl rfl HX.out szArp rfl rfl rfl ?_)
        refine bodyPost_ret (v := .tuple #[.agg #[.int .i64 (o.toNat : Int), .int .u8 (a0.toNat : Int), .int .u8 (a1.toNat : Int), .int .u8 (a2.toNat : Int), .int .u8 (a3.toNat : Int), .int .u8 (a4.toNat : Int), .int .u8 (a5.toNat : Int), .int .u8 (b0.toNat : Int), .int .u8 (b1.toNat : Int), .int .u8 (b2.toNat : Int), .int .u8 (b3.toNat : Int), .int .u8 (c0.toNat : Int), .int .u8 (c1.toNat : Int), .int .u8 (c2.toNat : Int), .int .u8 (c3.toNat : Int), .int .u8 (c4.toNat : Int), .int .u8 (c5.toNat : Int), .int .u8 (d0.toNat : Int), .int .u8 (d1.toNat : Int), .int .u8 (d2.toNat : Int), .int .u8 (d3.toNat : Int)], .int .i64 0]) (results_cell2 (fn := Try.f20) szArp uArp hrow rfl Try.results20 rfl rfl) rfl ⟨fun _ => ⟨(hkw.trans hk6).setRow (Nat.le_refl _), rfl⟩, fun h => ?_⟩
        rw [GH.out] at h
        cases h
    · have GH : Hid (arpGood [0, 1, 8, 0, 6, 4, 0] o = false) := Lib.hid (by
        simp only [not_or] at ho
        simp [arpGood, ho.1, ho.2])
      have e1 : ((o.toNat : Int) != 1) = true := by
        simp only [bne_iff_ne, ne_eq]; intro h; exact ho (.inl (UInt8.toNat_inj.1 (by simpa using (by omega : o.toNat = 1))))
      have e2 : ((o.toNat : Int) != 2) = true := by
        simp only [bne_iff_ne, ne_eq]; intro h; exact ho (.inr (UInt8.toNat_inj.1 (by simpa using (by omega : o.toNat = 2))))
      clear ho bo
      go_wp2_with (first | (refine lst_new (by rfl) (.tmp 6) (.tmp 23) _ rfl rfl rfl szArp rfl rfl rfl ?_) | (refine lst_row (by rfl) (.tmp 2) (.tmp 39) _ rfl rfl rfl (ka.block _ hlt |>.trans HBK.out) szArp rfl rfl rfl ?_))
      have hrow := setRow_heap (w1.alloc (.cells #[.int .i64 (o.toNat : Int), .int .u8 0, .int .u8 0, .int .u8 0, .int .u8 0, .int .u8 0, .int .u8 0, .int .u8 0, .int .u8 0, .int .u8 0, .int .u8 0, .int .u8 0, .int .u8 0, .int .u8 0, .int .u8 0, .int .u8 0, .int .u8 0, .int .u8 0, .int .u8 0, .int .u8 0, .int .u8 0] 44)) w.heap.size _ #[.int .i64 0, .int .u8 0, .int .u8 0, .int .u8 0, .int .u8 0, .int .u8 0, .int .u8 0, .int .u8 0, .int .u8 0, .int .u8 0, .int .u8 0, .int .u8 0, .int .u8 0, .int .u8 0, .int .u8 0, .int .u8 0, .int .u8 0, .int .u8 0, .int .u8 0, .int .u8 0, .int .u8 0] _ _ (ka.block _ hlt |>.trans HBK.out)
      refine bodyPost_ret (v := .tuple #[.agg #[.int .i64 0, .int .u8 0, .int .u8 0, .int .u8 0, .int .u8 0, .int .u8 0, .int .u8 0, .int .u8 0, .int .u8 0, .int .u8 0, .int .u8 0, .int .u8 0, .int .u8 0, .int .u8 0, .int .u8 0, .int .u8 0, .int .u8 0, .int .u8 0, .int .u8 0, .int .u8 0, .int .u8 0], .int .i64 7]) (results_cell2 (fn := Try.f20) szArp uArp hrow rfl Try.results20 rfl rfl) rfl ⟨fun h => ?_, fun _ => ⟨(hkw.trans ka).setRow (Nat.le_refl _), rfl⟩⟩
      rw [GH.out] at h
      cases h
end Go.Proofs.Ytdibmeapflhhaaa
