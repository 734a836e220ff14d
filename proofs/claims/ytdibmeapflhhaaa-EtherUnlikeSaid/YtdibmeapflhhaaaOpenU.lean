/-
  Arguments opened: two frames, two Arps.
-/
import Derived.Test.YtdibmeapflhhaaaOpenB
import Derived.OpenShut
namespace Go.Proofs.Ytdibmeapflhhaaa
open Go.ChangeShapes Go.WideShapes Go.RowKit

section
variable {H : Type} {enc : TypeId × Value → H} {W : World} {base : Nat}

theorem arp_cells {cs : List Value} (hl : cs.length = (3 :: List.replicate 20 5).length) (hc : ∀ (i : Nat) (x : Value) (T : TypeId), cs[i]? = some x → (3 :: List.replicate 20 5)[i]? = some T → Cell.okWide Try.prog W .any base T x) : ∃ (op : Int) (a0 a1 a2 a3 a4 a5 b0 b1 b2 b3 c0 c1 c2 c3 c4 c5 d0 d1 d2 d3 : UInt8), cs = [.int .i64 op, .int .u8 (a0.toNat : Int), .int .u8 (a1.toNat : Int), .int .u8 (a2.toNat : Int), .int .u8 (a3.toNat : Int), .int .u8 (a4.toNat : Int), .int .u8 (a5.toNat : Int), .int .u8 (b0.toNat : Int), .int .u8 (b1.toNat : Int), .int .u8 (b2.toNat : Int), .int .u8 (b3.toNat : Int), .int .u8 (c0.toNat : Int), .int .u8 (c1.toNat : Int), .int .u8 (c2.toNat : Int), .int .u8 (c3.toNat : Int), .int .u8 (c4.toNat : Int), .int .u8 (c5.toNat : Int), .int .u8 (d0.toNat : Int), .int .u8 (d1.toNat : Int), .int .u8 (d2.toNat : Int), .int .u8 (d3.toNat : Int)] := by
  obtain ⟨q, hq, hq2⟩ := run_u8s hc hl Try.underlying5 1 20 (by decide)
  rw [List.length_cons, List.length_replicate] at hl
  match cs, hl with
  | x :: cs, hl =>
    obtain ⟨z, rfl, _⟩ := cell_int Try.underlying3 (hc 0 x 3 rfl rfl)
    rw [List.drop_one, List.tail_cons, List.take_of_length_le (by simp at hl; omega)] at hq
    subst hq
    obtain ⟨p1, r1, rfl, hp1, hr1⟩ := partOf 6 (by omega : 6 ≤ q.length)
    rw [List.length_append] at hr1 hq2
    obtain ⟨p2, r2, rfl, hp2, hr2⟩ := partOf 4 (by omega : 4 ≤ r1.length)
    rw [List.length_append] at hr1 hr2 hq2
    obtain ⟨p3, p4, rfl, hp3, hr3⟩ := partOf 6 (by omega : 6 ≤ r2.length)
    rw [List.length_append] at hr1 hr2 hr3 hq2
    obtain ⟨a0, a1, a2, a3, a4, a5, rfl⟩ := len6 hp1
    obtain ⟨b0, b1, b2, b3, rfl⟩ := len4 hp2
    obtain ⟨c0, c1, c2, c3, c4, c5, rfl⟩ := len6 hp3
    obtain ⟨d0, d1, d2, d3, rfl⟩ := len4 (by omega : p4.length = 4)
    exact ⟨z, a0, a1, a2, a3, a4, a5, b0, b1, b2, b3, c0, c1, c2, c3, c4, c5, d0, d1, d2, d3, rfl⟩

theorem frame_cells {cs : List Value} {d : DataW H} {p : List MemPlace} (hl : cs.length = (List.replicate 12 5 ++ [24, 25]).length) (hc : ∀ (i : Nat) (x : Value) (T : TypeId), cs[i]? = some x → (List.replicate 12 5 ++ [24, 25])[i]? = some T → Cell.okWide Try.prog W .any base T x) (hd : DataW.Trod enc Try.prog W 0 (fun _ => true) true 27 (.agg cs.toArray) d p) :
    ∃ (d0 d1 d2 d3 d4 d5 s0 s1 s2 s3 s4 s5 : UInt8) (ty : Nat) (A : Option Addr) (n c : Nat) (l : List UInt8), cs = [.int .u8 (d0.toNat : Int), .int .u8 (d1.toNat : Int), .int .u8 (d2.toNat : Int), .int .u8 (d3.toNat : Int), .int .u8 (d4.toNat : Int), .int .u8 (d5.toNat : Int), .int .u8 (s0.toNat : Int), .int .u8 (s1.toNat : Int), .int .u8 (s2.toNat : Int), .int .u8 (s3.toNat : Int), .int .u8 (s4.toNat : Int), .int .u8 (s5.toNat : Int), .int .u16 (ty : Int), .slice A n c] ∧ ty ≤ 65535 ∧ Rd W 0 A n l ∧ SlOk A n c := by
  obtain ⟨q, hq, hq2⟩ := run_u8s hc hl Try.underlying5 0 12 (by decide)
  have h14 : cs.length = 14 := by rw [hl]; rfl
  obtain ⟨x, hx⟩ : ∃ x, cs[12]? = some x := ⟨_, List.getElem?_eq_getElem (by omega)⟩
  obtain ⟨y, hy⟩ : ∃ y, cs[13]? = some y := ⟨_, List.getElem?_eq_getElem (by omega)⟩
  obtain ⟨z, rfl, h0, h1⟩ := cell_int Try.underlying24 (hc 12 x 24 hx rfl)
  have h0' : 0 ≤ z := h0
  have h1' : z ≤ 65535 := h1
  obtain ⟨A, n, c, l, rfl, hr, hok⟩ := field_bytes (i := 3) Try.underlying27 hd rfl (e := 5) Try.underlying25 Try.underlying5 (by kernel_rfl) (by kernel_rfl) (x := y) (by simpa [Value.cells] using hy)
  have e : cs = bvs q ++ [.int .u16 z, .slice A n c] := by
    rw [← hq]
    apply List.ext_getElem?
    intro j
    rw [List.drop_zero]
    rcases Nat.lt_or_ge j 12 with h | h
    · rw [List.getElem?_append_left (by rw [List.length_take]; omega), List.getElem?_take, if_pos h]
    · rw [List.getElem?_append_right (by rw [List.length_take]; omega), List.length_take, show min 12 cs.length = 12 by omega]
      rcases Nat.lt_trichotomy j 13 with h2 | h2 | h2
      · obtain rfl : j = 12 := by omega
        rw [hx]; rfl
      · subst h2
        rw [hy]; rfl
      · rw [List.getElem?_eq_none (by omega), List.getElem?_eq_none (by simp; omega)]
  obtain ⟨p1, p2, rfl, hp1, hr1⟩ := partOf 6 (by omega : 6 ≤ q.length)
  rw [List.length_append] at hr1 hq2
  obtain ⟨d0, d1, d2, d3, d4, d5, rfl⟩ := len6 hp1
  obtain ⟨s0, s1, s2, s3, s4, s5, rfl⟩ := len6 (by omega : p2.length = 6)
  refine ⟨d0, d1, d2, d3, d4, d5, s0, s1, s2, s3, s4, s5, z.toNat, A, n, c, l, ?_, by omega, hr, hok⟩
  rw [e, show ((z.toNat : Nat) : Int) = z by omega]
  rfl

theorem cells_part {P : Program} {cs : List Value} {ts ts1 ts2 : List TypeId} (e : ts = ts1 ++ ts2) (hl : cs.length = ts.length) (hc : ∀ (i : Nat) (x : Value) (T : TypeId), cs[i]? = some x → ts[i]? = some T → Cell.okWide P W .any base T x) :
    ∃ c1 c2, cs = c1 ++ c2 ∧ c1.length = ts1.length ∧ c2.length = ts2.length ∧ (∀ (i : Nat) (x : Value) (T : TypeId), c1[i]? = some x → ts1[i]? = some T → Cell.okWide P W .any base T x) ∧ (∀ (i : Nat) (x : Value) (T : TypeId), c2[i]? = some x → ts2[i]? = some T → Cell.okWide P W .any base T x) := by
  subst e
  rw [List.length_append] at hl
  refine ⟨cs.take ts1.length, cs.drop ts1.length, (List.take_append_drop _ _).symm, by rw [List.length_take]; omega, by rw [List.length_drop]; omega, fun i x T hx hT => ?_, fun i x T hx hT => ?_⟩
  · rw [List.getElem?_take] at hx
    split at hx
    · exact hc i x T hx (by rw [List.getElem?_append_left (by assumption)]; exact hT)
    · cases hx
  · rw [List.getElem?_drop] at hx
    exact hc _ x T hx (by rw [List.getElem?_append_right (by omega), Nat.add_sub_cancel_left]; exact hT)

theorem open_arps2 {v : Value} (hval : Value.okWide Try.prog W .any base 65 v) : ∃ (op : Int) (a0 a1 a2 a3 a4 a5 b0 b1 b2 b3 c0 c1 c2 c3 c4 c5 d0 d1 d2 d3 : UInt8) (oq : Int) (e0 e1 e2 e3 e4 e5 f0 f1 f2 f3 g0 g1 g2 g3 g4 g5 h0 h1 h2 h3 : UInt8),
    v = .agg #[.int .i64 op, .int .u8 (a0.toNat : Int), .int .u8 (a1.toNat : Int), .int .u8 (a2.toNat : Int), .int .u8 (a3.toNat : Int), .int .u8 (a4.toNat : Int), .int .u8 (a5.toNat : Int), .int .u8 (b0.toNat : Int), .int .u8 (b1.toNat : Int), .int .u8 (b2.toNat : Int), .int .u8 (b3.toNat : Int), .int .u8 (c0.toNat : Int), .int .u8 (c1.toNat : Int), .int .u8 (c2.toNat : Int), .int .u8 (c3.toNat : Int), .int .u8 (c4.toNat : Int), .int .u8 (c5.toNat : Int), .int .u8 (d0.toNat : Int), .int .u8 (d1.toNat : Int), .int .u8 (d2.toNat : Int), .int .u8 (d3.toNat : Int), .int .i64 oq, .int .u8 (e0.toNat : Int), .int .u8 (e1.toNat : Int), .int .u8 (e2.toNat : Int), .int .u8 (e3.toNat : Int), .int .u8 (e4.toNat : Int), .int .u8 (e5.toNat : Int), .int .u8 (f0.toNat : Int), .int .u8 (f1.toNat : Int), .int .u8 (f2.toNat : Int), .int .u8 (f3.toNat : Int), .int .u8 (g0.toNat : Int), .int .u8 (g1.toNat : Int), .int .u8 (g2.toNat : Int), .int .u8 (g3.toNat : Int), .int .u8 (g4.toNat : Int), .int .u8 (g5.toNat : Int), .int .u8 (h0.toNat : Int), .int .u8 (h1.toNat : Int), .int .u8 (h2.toNat : Int), .int .u8 (h3.toNat : Int)] := by
  obtain ⟨cs, rfl, hl, hc⟩ := agg_cells (P := Try.prog) (ts := (3 :: List.replicate 20 5) ++ (3 :: List.replicate 20 5)) (.inr ⟨_, _, Try.underlying65⟩) (by kernel_rfl) (by kernel_rfl) hval
  obtain ⟨c1, c2, rfl, l1, l2, k1, k2⟩ := cells_part rfl hl hc
  obtain ⟨op, a0, a1, a2, a3, a4, a5, b0, b1, b2, b3, c0, c1, c2, c3, c4, c5, d0, d1, d2, d3, rfl⟩ := arp_cells l1 k1
  obtain ⟨oq, e0, e1, e2, e3, e4, e5, f0, f1, f2, f3, g0, g1, g2, g3, g4, g5, h0, h1, h2, h3, rfl⟩ := arp_cells l2 k2
  exact ⟨op, a0, a1, a2, a3, a4, a5, b0, b1, b2, b3, c0, c1, c2, c3, c4, c5, d0, d1, d2, d3, oq, e0, e1, e2, e3, e4, e5, f0, f1, f2, f3, g0, g1, g2, g3, g4, g5, h0, h1, h2, h3, rfl⟩

theorem open_frames2 {v : Value} {d : DataW H} {p : List MemPlace} (hval : Value.okWide Try.prog W .any base 64 v) (hd : DataW.Trod enc Try.prog W 0 (fun _ => true) true 64 v d p) :
    ∃ (d0 d1 d2 d3 d4 d5 s0 s1 s2 s3 s4 s5 : UInt8) (ty : Nat) (A : Option Addr) (n c : Nat) (e0 e1 e2 e3 e4 e5 t0 t1 t2 t3 t4 t5 : UInt8) (tz : Nat) (B : Option Addr) (m k : Nat) (l lb : List UInt8), v = .agg #[.int .u8 (d0.toNat : Int), .int .u8 (d1.toNat : Int), .int .u8 (d2.toNat : Int), .int .u8 (d3.toNat : Int), .int .u8 (d4.toNat : Int), .int .u8 (d5.toNat : Int), .int .u8 (s0.toNat : Int), .int .u8 (s1.toNat : Int), .int .u8 (s2.toNat : Int), .int .u8 (s3.toNat : Int), .int .u8 (s4.toNat : Int), .int .u8 (s5.toNat : Int), .int .u16 (ty : Int), .slice A n c, .int .u8 (e0.toNat : Int), .int .u8 (e1.toNat : Int), .int .u8 (e2.toNat : Int), .int .u8 (e3.toNat : Int), .int .u8 (e4.toNat : Int), .int .u8 (e5.toNat : Int), .int .u8 (t0.toNat : Int), .int .u8 (t1.toNat : Int), .int .u8 (t2.toNat : Int), .int .u8 (t3.toNat : Int), .int .u8 (t4.toNat : Int), .int .u8 (t5.toNat : Int), .int .u16 (tz : Int), .slice B m k] ∧ ty ≤ 65535 ∧ tz ≤ 65535 ∧ Rd W 0 A n l ∧ Rd W 0 B m lb := by
  obtain ⟨cs, rfl, hl, hc⟩ := agg_cells (P := Try.prog) (ts := (List.replicate 12 5 ++ [24, 25]) ++ (List.replicate 12 5 ++ [24, 25])) (.inr ⟨_, _, Try.underlying64⟩) (by kernel_rfl) (by kernel_rfl) hval
  obtain ⟨c1, c2, rfl, l1, l2, k1, k2⟩ := cells_part rfl hl hc
  obtain ⟨fuel, hfu⟩ := hd
  obtain ⟨xs, m0, _, _, _, hx2, hel⟩ := DataW.trod_array Try.underlying64 hfu
  have h14 : Try.prog.cellsOf 27 = 14 := by kernel_rfl
  have z0 := hel 0 (by omega)
  have z1 := hel 1 (by omega)
  rw [h14] at z0 z1
  have hcc : (Value.agg (c1 ++ c2).toArray).cells.toList = c1 ++ c2 := by simp [Value.cells]
  have l1' : c1.length = 14 := l1
  have l2' : c2.length = 14 := l2
  rw [hcc, List.getElem?_eq_getElem (by omega)] at z0 z1
  rw [show (0 * 14 : Nat) = 0 from rfl, List.drop_zero, List.take_append_of_le_length (by omega), List.take_of_length_le (by omega)] at z0
  rw [show (1 * 14 : Nat) = 14 from rfl, List.drop_append_of_le_length (by omega), List.drop_of_length_le (by omega), List.nil_append, List.take_of_length_le (by omega)] at z1
  obtain ⟨y0, r0, hy0⟩ : ∃ d p, xs[0] = (d, p) := ⟨_, _, rfl⟩
  obtain ⟨y1, r1, hy1⟩ : ∃ d p, xs[1] = (d, p) := ⟨_, _, rfl⟩
  rw [hy0] at z0
  rw [hy1] at z1
  obtain ⟨d0, d1, d2, d3, d4, d5, s0, s1, s2, s3, s4, s5, ty, A, n, c, l, rfl, q1, q2, _⟩ := frame_cells (p := r0) (d := y0) l1 k1 ⟨m0, by simpa [Value.cells] using z0⟩
  obtain ⟨e0, e1, e2, e3, e4, e5, t0, t1, t2, t3, t4, t5, tz, B, m, k, lb, rfl, q3, q4, _⟩ := frame_cells (p := r1) (d := y1) l2 k2 ⟨m0, by simpa [Value.cells] using z1⟩
  exact ⟨d0, d1, d2, d3, d4, d5, s0, s1, s2, s3, s4, s5, ty, A, n, c, e0, e1, e2, e3, e4, e5, t0, t1, t2, t3, t4, t5, tz, B, m, k, l, lb, rfl, q1, q3, q2, q4⟩
end
end Go.Proofs.Ytdibmeapflhhaaa
