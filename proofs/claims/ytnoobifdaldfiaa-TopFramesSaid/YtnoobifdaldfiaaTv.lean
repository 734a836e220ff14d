/-
  TopFrames: the pieces, their packets and frames, and frag.Add of each, in the walk's own words.
-/
import Derived.Test.YtnoobifdaldfiaaTu
import Derived.Test.YtnoobifdaldfiaaTi
import Derived.Test.YtnoobifdaldfiaaFI6t
import Derived.Test.YtnoobifdaldfiaaFI6b
import Derived.Test.YtnoobifdaldfiaaFBuild5
import Derived.Test.YtnoobifdaldfiaaFParsed5
namespace Go.Proofs.Ytnoobifdaldfiaa.Fr
open Go.RowKit
set_option maxRecDepth 100000

theorem split_any (w : World) (s0 s1 s2 s3 d0 d1 d2 d3 : UInt8) (b o n c : Nat) (bs : List UInt8) (hA : Rd w 0 (some ⟨b, o, none⟩) n bs) (hok : SlOk (some ⟨b, o, none⟩) n c) (hn : 0 < n) (hn2 : n ≤ 352) :
    Calls Try.prog 11 #[.agg #[.int .u16 7, .bool false, .int .i64 0, .int .u8 64, .int .u8 6, .int .u8 (s0.toNat : Int), .int .u8 (s1.toNat : Int), .int .u8 (s2.toNat : Int), .int .u8 (s3.toNat : Int), .int .u8 (d0.toNat : Int), .int .u8 (d1.toNat : Int), .int .u8 (d2.toNat : Int), .int .u8 (d3.toNat : Int), .slice (some ⟨b, o, none⟩) n c]] w fun e w' => Kp w w' ∧ ∃ v xs, e = .returned (.tuple #[v, .int .i64 0]) ∧ Cks n xs ∧ OutV n bs s0 s1 s2 s3 d0 d1 d2 d3 w.heap.size v xs w' :=
  callsIn_wide.1 (split_in w s0 s1 s2 s3 d0 d1 d2 d3 b o n c bs hA hok hn hn2)

section
variable {P : Program} {w : World} {g off : Nat}
theorem lld_at {ops : Array Oper} {rest : List Oper} {o : Oper} {a : Act} {Q : Exit → Act → World → Prop} (vs : List Value) (hw : Region.wanted o (yielded ops a.tmps) = true) (p : Operand) (ty : TypeId) (d : TypeDesc) (ho : o.op = .load ty p)
    (hp : a.eval p = .pointer (some ⟨g, off, none⟩)) (hc : ∀ j v, vs[j]? = some v → w.cell? ⟨g, off + j, none⟩ = some v) (hu : P.underlying ty = some d) (hd : (match d with | .struct _ | .array _ _ => true | _ => false) = true) (hi : (P.info? ty).map (·.size) = some vs.length)
    (h : wpList P ops Q rest (a.put o.dst (.agg vs.toArray)) w) : wpList P ops Q (o :: rest) a w := by
  have hr := run_loadVar_part (P := P) (w := w) (g := g) (off := off) ty vs d hc hu hd hi
  unfold wpList
  rw [if_pos hw]
  refine .inl ?_
  unfold Oper.wp execOp
  simp only [ho, hp, Instr.loadAt, Instr.sureAddr, Sem.run_bind, Sem.run_pure, Result.andThen_ok, hr]
  exact h
end

section
variable (s0 s1 s2 s3 d0 d1 d2 d3 : UInt8)
/-- a piece in its place -/
def PieceAt (W : World) (g idx : Nat) (mo : Bool) (pl m : Nat) (l : List UInt8) : Prop :=
  ∃ A c, (∀ j v, ([.int .u16 7, .bool mo, .int .i64 (8 * (pl : Int)), .int .u8 64, .int .u8 6, .int .u8 (s0.toNat : Int), .int .u8 (s1.toNat : Int), .int .u8 (s2.toNat : Int), .int .u8 (s3.toNat : Int), .int .u8 (d0.toNat : Int), .int .u8 (d1.toNat : Int), .int .u8 (d2.toNat : Int), .int .u8 (d3.toNat : Int), .slice (some ⟨A, 0, none⟩) m c] : List Value)[j]? = some v → W.cell? ⟨g, 14 * idx + j, none⟩ = some v) ∧ Rd W 0 (some ⟨A, 0, none⟩) m l ∧ SlOk (some ⟨A, 0, none⟩) m c
theorem PieceAt.keep {W W' : World} {g idx : Nat} {mo : Bool} {pl m : Nat} {l : List UInt8} (h : PieceAt s0 s1 s2 s3 d0 d1 d2 d3 W g idx mo pl m l) (k : Kp W W') : PieceAt s0 s1 s2 s3 d0 d1 d2 d3 W' g idx mo pl m l := by
  obtain ⟨A, c, h1, h2, h3⟩ := h
  exact ⟨A, c, fun j v hv => k.cell (h1 j v hv), h2.keep k, h3⟩
/-- the pieces of n bytes in a row -/
def Pieces (W : World) (g n : Nat) (bs : List UInt8) (K : Nat) : Prop :=
  (n ≤ 176 ∧ K = 1 ∧ PieceAt s0 s1 s2 s3 d0 d1 d2 d3 W g 0 false 0 n bs) ∨ (176 < n ∧ n ≤ 180 ∧ K = 2 ∧ PieceAt s0 s1 s2 s3 d0 d1 d2 d3 W g 0 true 0 176 (bs.take 176) ∧ PieceAt s0 s1 s2 s3 d0 d1 d2 d3 W g 1 false 22 (n - 176) (bs.drop 176))
theorem Pieces.keep {W W' : World} {g n K : Nat} {bs : List UInt8} (h : Pieces s0 s1 s2 s3 d0 d1 d2 d3 W g n bs K) (k : Kp W W') : Pieces s0 s1 s2 s3 d0 d1 d2 d3 W' g n bs K := by
  rcases h with ⟨h1, h2, h3⟩ | ⟨h1, h2, h3, h4, h5⟩
  · exact .inl ⟨h1, h2, h3.keep _ _ _ _ _ _ _ _ k⟩
  · exact .inr ⟨h1, h2, h3, h4.keep _ _ _ _ _ _ _ _ k, h5.keep _ _ _ _ _ _ _ _ k⟩
theorem outv_pieces (n : Nat) (bs : List UInt8) (lo : Nat) (v : Value) (xs : List (Ck n)) (W : World) (hx : Cks n xs) (h : OutV n bs s0 s1 s2 s3 d0 d1 d2 d3 lo v xs W) (hl : bs.length = n) (hn : n ≤ 180) :
    ∃ g K cap, v = .slice (some ⟨g, 0, none⟩) K cap ∧ 0 < K ∧ K ≤ 2 ∧ Pieces s0 s1 s2 s3 d0 d1 d2 d3 W g n bs K := by
  rcases hx with ⟨h0, h1, rfl⟩ | ⟨h0, h1, h2, rfl⟩
  · obtain ⟨g, cap, A, c, rfl, hrow, hrd, hok⟩ := h
    have e : (ck0 n h0).1.2 = n := by show min n 176 = n; omega
    have e2 : ckBytes n bs (ck0 n h0) = bs := by
      show (bs.drop 0).take (ck0 n h0).1.2 = bs
      rw [e, List.drop_zero, ← hl, List.take_length]
    rw [e] at hrd hok
    rw [e2] at hrd
    refine ⟨g, 1, cap, rfl, by omega, by omega, .inl ⟨h1, rfl, A, c, fun j v hv => ?_, hrd.lo0, hok⟩⟩
    have hj : j < 14 := by have := (List.getElem?_eq_some_iff.1 hv).1; simpa using this
    have hc := hrow.cellAt j (by omega)
    rw [Nat.mul_zero, Nat.zero_add, hc]
    unfold pkc
    rw [e, show decide (176 * ((0 : Nat) : Int) + (n : Int) < (n : Int)) = false by simp]
    exact hv
  · obtain ⟨g, cap, A, c, B, k, rfl, hrow, hrd, hok, hrd2, hok2⟩ := h
    have e : (ck0 n h0).1.2 = 176 := by show min n 176 = 176; omega
    have e1 : (ck1 n h1 h2).1.2 = n - 176 := rfl
    have e2 : ckBytes n bs (ck0 n h0) = bs.take 176 := by
      show (bs.drop 0).take (ck0 n h0).1.2 = _
      rw [e, List.drop_zero]
    have e3 : ckBytes n bs (ck1 n h1 h2) = bs.drop 176 := by
      show (bs.drop 176).take (n - 176) = _
      rw [List.take_of_length_le (by simp; omega)]
    rw [e] at hrd hok
    rw [e2] at hrd
    rw [e1] at hrd2 hok2
    rw [e3] at hrd2
    unfold pkc at hrow
    rw [e, e1, show decide (176 * ((0 : Nat) : Int) + ((176 : Nat) : Int) < (n : Int)) = true by simp; omega, show decide (176 * ((1 : Nat) : Int) + ((n - 176 : Nat) : Int) < (n : Int)) = false by simp; omega] at hrow
    refine ⟨g, 2, cap, rfl, by omega, by omega, .inr ⟨h1, hn, rfl, ⟨A, c, fun j v hv => ?_, hrd.lo0, hok⟩, ⟨B, k, fun j v hv => ?_, hrd2.lo0, hok2⟩⟩⟩
    · have hj : j < 14 := by have := (List.getElem?_eq_some_iff.1 hv).1; simpa using this
      rw [Nat.mul_zero, Nat.zero_add, hrow.cellAt j (by omega), List.getElem?_append_left (by simp; omega)]
      exact hv
    · have hj : j < 14 := by have := (List.getElem?_eq_some_iff.1 hv).1; simpa using this
      rw [hrow.cellAt (14 * 1 + j) (by omega), List.getElem?_append_right (by simp)]
      simp only [List.length_cons, List.length_nil]
      rw [show 14 * 1 + j - (0 + 1 + 1 + 1 + 1 + 1 + 1 + 1 + 1 + 1 + 1 + 1 + 1 + 1 + 1) = j by omega]
      exact hv

/-- what is known of the holes and the whole when k of K pieces have come -/
def StH (N : Nat) (bs : List UInt8) (K k : Nat) (hv : Value) (pk : Array Value) (W : World) : Prop :=
  (k = 0 ∧ hv = .slice none 0 0) ∨ (k = 1 ∧ K = 2 ∧ HoleV W 0 s0 s1 s2 s3 d0 d1 d2 d3 (N : Int) 176 (bs.drop 176) hv) ∨ (k = K ∧ 0 < k ∧ ∃ Z cap B kk, hv = .slice Z 0 cap ∧ pk = #[.int .u16 7, .bool false, .int .i64 0, .int .u8 64, .int .u8 6, .int .u8 (s0.toNat : Int), .int .u8 (s1.toNat : Int), .int .u8 (s2.toNat : Int), .int .u8 (s3.toNat : Int), .int .u8 (d0.toNat : Int), .int .u8 (d1.toNat : Int), .int .u8 (d2.toNat : Int), .int .u8 (d3.toNat : Int), .slice B N kk] ∧ Rd W 0 B N bs ∧ SlOk B N kk)
theorem StH.keep {N : Nat} {bs : List UInt8} {K k : Nat} {hv : Value} {pk : Array Value} {W W' : World} (h : StH s0 s1 s2 s3 d0 d1 d2 d3 N bs K k hv pk W) (hk : Kp W W') : StH s0 s1 s2 s3 d0 d1 d2 d3 N bs K k hv pk W' := by
  rcases h with h | ⟨h1, h2, h3⟩ | ⟨h1, h2, Z, cap, B, kk, h3, h4, h5, h6⟩
  · exact .inl h
  · exact .inr (.inl ⟨h1, h2, h3.keep hk⟩)
  · exact .inr (.inr ⟨h1, h2, Z, cap, B, kk, h3, h4, h5.keep hk, h6⟩)
theorem HoleV.setRow {w : World} {lo b : Nat} {tot off : Int} {l : List UInt8} {v : Value} {cs : Array Value} (h : HoleV w lo s0 s1 s2 s3 d0 d1 d2 d3 tot off l v) (hb : b < lo) : HoleV (w.setRow b cs) lo s0 s1 s2 s3 d0 d1 d2 d3 tot off l v := by
  obtain ⟨g, cap, got, h1, h2, h3⟩ := h
  exact ⟨g, cap, got, h1, orow_setRow h2 hb, h3.setRow hb⟩

/-- frag.Add of the piece that comes next -/
def AddsTo (wr : World) (bw N : Nat) (bs : List UInt8) (K k : Nat) (hv : Value) (mo : Bool) (pl m : Nat) (l : List UInt8) : Prop :=
  ∀ W, Kp wr W → ∀ (A : Option Addr) (c : Nat), Rd W 0 A m l → Calls Try.prog 16 #[hv, .agg #[.int .u16 7, .bool mo, .int .i64 (8 * (pl : Int)), .int .u8 64, .int .u8 6, .int .u8 (s0.toNat : Int), .int .u8 (s1.toNat : Int), .int .u8 (s2.toNat : Int), .int .u8 (s3.toNat : Int), .int .u8 (d0.toNat : Int), .int .u8 (d1.toNat : Int), .int .u8 (d2.toNat : Int), .int .u8 (d3.toNat : Int), .slice A m c], .int .u64 0] W fun e w' => Kp W w' ∧ ∃ hv' pk', e = .returned (.tuple #[hv', .agg pk', .bool (decide (k + 1 = K)), .int .i64 0]) ∧ pk'.size = 14 ∧ pk'.toList.all (·.oneCell') = true ∧
    StH s0 s1 s2 s3 d0 d1 d2 d3 N bs K (k + 1) hv' pk' (w'.setRow bw pk')
theorem adds_all (wr : World) (bw g N : Nat) (bs : List UInt8) (K k : Nat) (hv : Value) (pk : Array Value) (hl : bs.length = N) (h0 : 0 < N) (hk : k < K) (hbw : bw < wr.heap.size) (hp : Pieces s0 s1 s2 s3 d0 d1 d2 d3 wr g N bs K) (hs : StH s0 s1 s2 s3 d0 d1 d2 d3 N bs K k hv pk wr) :
    ∃ mo pl m l, PieceAt s0 s1 s2 s3 d0 d1 d2 d3 wr g (K - 1 - k) mo pl m l ∧ 0 < m ∧ m ≤ 176 ∧ l.length = m ∧ pl < 8192 ∧ (mo = true → m % 8 = 0) ∧ AddsTo s0 s1 s2 s3 d0 d1 d2 d3 wr bw N bs K k hv mo pl m l := by
  rcases hp with ⟨h1, rfl, h3⟩ | ⟨h1, h2, rfl, h4, h5⟩
  · obtain rfl : k = 0 := by omega
    have hv0 : hv = .slice none 0 0 := by
      rcases hs with ⟨_, h⟩ | ⟨h, _⟩ | ⟨h, _⟩
      · exact h
      · omega
      · omega
    subst hv0
    refine ⟨false, 0, N, bs, h3, h0, h1, hl, by omega, fun h => (by cases h), fun W hW A c hA => ?_⟩
    refine (add_a W s0 s1 s2 s3 d0 d1 d2 d3 A N c bs hA h0 (by omega)).mono ?_
    rintro e w' ⟨hk, gd, kk, rfl, hrd, hok⟩
    refine ⟨hk, _, _, rfl, rfl, by simp [Value.oneCell'], .inr (.inr ⟨rfl, by omega, none, 0, _, kk, rfl, rfl, ?_, hok⟩)⟩
    exact (RdV.setRow hrd (Nat.lt_of_lt_of_le hbw hW.size)).lo0
  · have hk2 : k = 0 ∨ k = 1 := by omega
    rcases hk2 with rfl | rfl
    · have hv0 : hv = .slice none 0 0 := by
        rcases hs with ⟨_, h⟩ | ⟨h, _⟩ | ⟨h, _⟩
        · exact h
        · omega
        · omega
      subst hv0
      refine ⟨false, 22, N - 176, bs.drop 176, h5, by omega, by omega, by simp; omega, by omega, fun h => (by cases h), fun W hW A c hA => ?_⟩
      refine (add_b W s0 s1 s2 s3 d0 d1 d2 d3 A (N - 176) c (bs.drop 176) hA (by omega) (by omega)).mono ?_
      rintro e w' ⟨hk, v, rfl, hh⟩
      refine ⟨hk, _, _, rfl, rfl, by simp [Value.oneCell'], .inr (.inl ⟨rfl, rfl, ?_⟩)⟩
      have := (HoleV.setRow s0 s1 s2 s3 d0 d1 d2 d3 (cs := #[.int .u16 0, .bool false, .int .i64 0, .int .u8 0, .int .u8 0, .int .u8 0, .int .u8 0, .int .u8 0, .int .u8 0, .int .u8 0, .int .u8 0, .int .u8 0, .int .u8 0, .slice none 0 0]) hh (Nat.lt_of_lt_of_le hbw hW.size)).low (Nat.zero_le _)
      rw [show (176 : Int) + ((N - 176 : Nat) : Int) = (N : Int) by omega] at this
      exact this
    · have hvh : HoleV wr 0 s0 s1 s2 s3 d0 d1 d2 d3 (N : Int) 176 (bs.drop 176) hv := by
        rcases hs with ⟨h, _⟩ | ⟨_, _, h⟩ | ⟨h, _⟩
        · omega
        · exact h
        · omega
      refine ⟨true, 0, 176, bs.take 176, h4, by omega, by omega, by simp; omega, by omega, fun h => rfl, fun W hW A c hA => ?_⟩
      refine (add_c W hv s0 s1 s2 s3 d0 d1 d2 d3 N (bs.drop 176) (hvh.keep hW) (by simp; omega) (by simp; omega) A c (bs.take 176) hA).mono ?_
      rintro e w' ⟨hk, gh, cap, B, kk, rfl, hrd, hok⟩
      rw [List.take_append_drop] at hrd
      refine ⟨hk, _, _, rfl, rfl, by simp [Value.oneCell'], .inr (.inr ⟨rfl, by omega, _, cap, B, kk, rfl, rfl, ?_, hok⟩)⟩
      exact (RdV.setRow hrd (Nat.lt_of_lt_of_le hbw hW.size)).lo0
end

section
variable (pl : Nat) (mo : Bool) (s0 s1 s2 s3 d0 d1 d2 d3 : UInt8) (l : List UInt8)
/-- the bytes of a piece's packet, of its frame -/
def pkB : List UInt8 := pbytes 7 (placeOf pl mo) 64 6 [s0, s1, s2, s3] [d0, d1, d2, d3] l
def frB : List UInt8 := frameBytes [0, 0, 0, 0, 0, 0] [0, 0, 0, 0, 0, 0] 2048 (pkB pl mo s0 s1 s2 s3 d0 d1 d2 d3 l)
theorem pkB_len : (pkB pl mo s0 s1 s2 s3 d0 d1 d2 d3 l).length = 20 + l.length := by
  simp [pkB, pbytes, pfront, wd2]; omega
theorem turn_law (hl : l.length ≤ 180) (i : Nat) (hi : i < 20) (x a : UInt8) (hx : (pkB pl mo s0 s1 s2 s3 d0 d1 d2 d3 l)[i]? = some x) (ha : a ≠ x) (P : Pkt) (hP : out6 ((pkB pl mo s0 s1 s2 s3 d0 d1 d2 d3 l).set i a) = .inr P) : P.data.length ≠ l.length := by
  have hs := sum_right (pfront (20 + l.length) 7 (placeOf pl mo) 64 6) ([s0, s1, s2, s3] ++ [d0, d1, d2, d3]) (by simp [pfront, wd2])
  refine out6_turn 69 0 (UInt8.ofNat ((20 + l.length) / 256)) (UInt8.ofNat (20 + l.length)) (UInt8.ofNat (7 / 256)) (UInt8.ofNat 7) (UInt8.ofNat (placeOf pl mo / 256)) (UInt8.ofNat (placeOf pl mo)) 64 6 (UInt8.ofNat (psum (20 + l.length) 7 (placeOf pl mo) 64 6 [s0, s1, s2, s3] [d0, d1, d2, d3] / 256)) (UInt8.ofNat (psum (20 + l.length) 7 (placeOf pl mo) 64 6 [s0, s1, s2, s3] [d0, d1, d2, d3])) s0 s1 s2 s3 d0 d1 d2 d3 l rfl ?_ hs i hi x a hx ha P hP
  rw [UInt8.toNat_ofNat', UInt8.toNat_ofNat']
  omega
theorem out6_pkB (hpl : pl < 8192) (hl : l.length ≤ 180) : out6 (pkB pl mo s0 s1 s2 s3 d0 d1 d2 d3 l) = .inr ⟨7, mo, pl, 64, 6, [s0, s1, s2, s3], [d0, d1, d2, d3], l⟩ := by
  have := out6_pbytes 7 pl mo 64 6 s0 s1 s2 s3 d0 d1 d2 d3 l [] (by omega) hpl hl
  rw [List.append_nil] at this
  exact this
theorem parsed_frB (hl : l.length ≤ 180) : parsed (frB pl mo s0 s1 s2 s3 d0 d1 d2 d3 l) = ([0, 0, 0, 0, 0, 0], [0, 0, 0, 0, 0, 0], 2048, pkB pl mo s0 s1 s2 s3 d0 d1 d2 d3 l, 0) :=
  parsed_ok 0 0 0 0 0 0 0 0 0 0 0 0 8 0 (pkB pl mo s0 s1 s2 s3 d0 d1 d2 d3 l) (by rw [pkB_len]; omega)
theorem frB_get (i : Nat) : (frB pl mo s0 s1 s2 s3 d0 d1 d2 d3 l)[14 + i]? = (pkB pl mo s0 s1 s2 s3 d0 d1 d2 d3 l)[i]? := by
  rw [Nat.add_comm]
  rfl
theorem parsed_bent (hl : l.length ≤ 180) (i : Nat) (a : UInt8) : parsed ((frB pl mo s0 s1 s2 s3 d0 d1 d2 d3 l).set (14 + i) a) = ([0, 0, 0, 0, 0, 0], [0, 0, 0, 0, 0, 0], 2048, (pkB pl mo s0 s1 s2 s3 d0 d1 d2 d3 l).set i a, 0) := by
  rw [Nat.add_comm]
  exact parsed_ok 0 0 0 0 0 0 0 0 0 0 0 0 8 0 ((pkB pl mo s0 s1 s2 s3 d0 d1 d2 d3 l).set i a) (by rw [List.length_set, pkB_len]; omega)
end

theorem szFrm : (Try.prog.info? 45).map (·.size) = some 14 := by kernel_rfl
section
variable (w : World) (s0 s1 s2 s3 d0 d1 d2 d3 : UInt8) (mo : Bool) (pl : Nat) (A : Option Addr) (m c : Nat) (l : List UInt8)
theorem pk_build (hl : l.length = m) (hpl : pl < 8192) (hm : mo = true → m % 8 = 0) (hn : m ≤ 176) (hA : Rd w 0 A m l) :
    Calls Try.prog 12 #[.agg #[.int .u16 7, .bool mo, .int .i64 (8 * (pl : Int)), .int .u8 64, .int .u8 6, .int .u8 (s0.toNat : Int), .int .u8 (s1.toNat : Int), .int .u8 (s2.toNat : Int), .int .u8 (s3.toNat : Int), .int .u8 (d0.toNat : Int), .int .u8 (d1.toNat : Int), .int .u8 (d2.toNat : Int), .int .u8 (d3.toNat : Int), .slice A m c]] w fun e w' => Kp w w' ∧ ∃ g cap, e = .returned (.tuple #[.slice (some ⟨g, 0, none⟩) (20 + m) cap, .int .i64 0]) ∧ Rd w' 0 (some ⟨g, 0, none⟩) (20 + m) (pkB pl mo s0 s1 s2 s3 d0 d1 d2 d3 l) ∧ SlOk (some ⟨g, 0, none⟩) (20 + m) cap := by
  have _ := hl
  refine (i6build_ok w 7 mo pl 64 6 s0 s1 s2 s3 d0 d1 d2 d3 A m c l (by omega) hpl hm (by omega) hA).mono ?_
  rintro e w' ⟨hk, g, cap, rfl, ho⟩
  exact ⟨hk, g, cap, rfl, ho.rd0, ho.slOk⟩
theorem fr_build (hl : l.length = m) (hn : m ≤ 176) (hA : Rd w 0 A (20 + m) (pkB pl mo s0 s1 s2 s3 d0 d1 d2 d3 l)) :
    Calls Try.prog 13 #[.agg #[.int .u8 0, .int .u8 0, .int .u8 0, .int .u8 0, .int .u8 0, .int .u8 0, .int .u8 0, .int .u8 0, .int .u8 0, .int .u8 0, .int .u8 0, .int .u8 0, .int .u16 2048, .slice A (20 + m) c]] w fun e w' => Kp w w' ∧ ∃ g cap, e = .returned (.tuple #[.slice (some ⟨g, 0, none⟩) (34 + m) cap, .int .i64 0]) ∧ Rd w' 0 (some ⟨g, 0, none⟩) (34 + m) (frB pl mo s0 s1 s2 s3 d0 d1 d2 d3 l) ∧ SlOk (some ⟨g, 0, none⟩) (34 + m) cap := by
  have hlen : (pkB pl mo s0 s1 s2 s3 d0 d1 d2 d3 l).length = 20 + m := by rw [pkB_len, hl]
  refine (build_any w 0 0 0 0 0 0 0 0 0 0 0 0 2048 (by omega) A (20 + m) c _ hA).mono ?_
  rintro e w' ⟨hk, ⟨h, _⟩ | ⟨_, g, cap, rfl, ho⟩⟩
  · omega
  · rw [hlen, show 14 + (20 + m) = 34 + m by omega] at ho ⊢
    exact ⟨hk, g, cap, rfl, ho.rd0, ho.slOk⟩
theorem fr_parse (hl : l.length = m) (hn : m ≤ 176) (hA : Rd w 0 A (34 + m) (frB pl mo s0 s1 s2 s3 d0 d1 d2 d3 l)) (hok : SlOk A (34 + m) c) :
    Calls Try.prog 14 #[.slice A (34 + m) c] w fun e w' => Kp w w' ∧ ∃ B k, e = .returned (.tuple #[.agg #[.int .u8 0, .int .u8 0, .int .u8 0, .int .u8 0, .int .u8 0, .int .u8 0, .int .u8 0, .int .u8 0, .int .u8 0, .int .u8 0, .int .u8 0, .int .u8 0, .int .u16 2048, .slice B (20 + m) k], .int .i64 0]) ∧ Rd w' 0 B (20 + m) (pkB pl mo s0 s1 s2 s3 d0 d1 d2 d3 l) ∧ SlOk B (20 + m) k := by
  have hlen : (pkB pl mo s0 s1 s2 s3 d0 d1 d2 d3 l).length = 20 + m := by rw [pkB_len, hl]
  refine (parse_any w A (34 + m) c _ hA hok (by omega)).mono ?_
  rintro e w' ⟨hk, a0, a1, a2, a3, a4, a5, b0, b1, b2, b3, b4, b5, ty, b, k, B, kk, hp, hty, rfl, hrd, hok2⟩
  rw [parsed_frB _ _ _ _ _ _ _ _ _ _ _ (by omega)] at hp
  simp only [Prod.mk.injEq, List.cons.injEq, and_true] at hp
  obtain ⟨⟨rfl, rfl, rfl, rfl, rfl, rfl⟩, ⟨rfl, rfl, rfl, rfl, rfl, rfl⟩, rfl, rfl, rfl⟩ := hp
  rw [hlen] at hrd hok2 ⊢
  exact ⟨hk, B, kk, rfl, hrd.lo0, hok2⟩
theorem pk_parse (hl : l.length = m) (hpl : pl < 8192) (hn : m ≤ 176) (hA : Rd w 0 A (20 + m) (pkB pl mo s0 s1 s2 s3 d0 d1 d2 d3 l)) (hok : SlOk A (20 + m) c) :
    Calls Try.prog 15 #[.slice A (20 + m) c] w fun e w' => Kp w w' ∧ ∃ B k, e = .returned (.tuple #[.agg #[.int .u16 7, .bool mo, .int .i64 (8 * (pl : Int)), .int .u8 64, .int .u8 6, .int .u8 (s0.toNat : Int), .int .u8 (s1.toNat : Int), .int .u8 (s2.toNat : Int), .int .u8 (s3.toNat : Int), .int .u8 (d0.toNat : Int), .int .u8 (d1.toNat : Int), .int .u8 (d2.toNat : Int), .int .u8 (d3.toNat : Int), .slice B m k], .int .i64 0]) ∧ Rd w' 0 B m l ∧ SlOk B m k := by
  refine (p6_any w A (20 + m) c _ hA hok (by omega)).mono ?_
  rintro e w' (⟨k, _, hk, _⟩ | ⟨idn, mo', pm, t, p, e0, e1, e2, e3, x0, x1, x2, x3, data, hP, _, _, _, hk, B, kk, rfl, hrd, hok2⟩)
  · rw [out6_pkB _ _ _ _ _ _ _ _ _ _ _ hpl (by omega)] at hk; cases hk
  · rw [out6_pkB _ _ _ _ _ _ _ _ _ _ _ hpl (by omega)] at hP
    simp only [Sum.inr.injEq, Pkt.mk.injEq, List.cons.injEq, and_true] at hP
    obtain ⟨rfl, rfl, rfl, rfl, rfl, ⟨rfl, rfl, rfl, rfl⟩, ⟨rfl, rfl, rfl, rfl⟩, rfl⟩ := hP
    rw [hl] at hrd hok2 ⊢
    exact ⟨hk, B, kk, rfl, hrd.lo0, hok2⟩
theorem bent_parse (i : Nat) (a : UInt8) (hl : l.length = m) (hn : m ≤ 176) (hA : Rd w 0 A (34 + m) ((frB pl mo s0 s1 s2 s3 d0 d1 d2 d3 l).set (14 + i) a)) (hok : SlOk A (34 + m) c) :
    Calls Try.prog 14 #[.slice A (34 + m) c] w fun e w' => Kp w w' ∧ ∃ B k, e = .returned (.tuple #[.agg #[.int .u8 0, .int .u8 0, .int .u8 0, .int .u8 0, .int .u8 0, .int .u8 0, .int .u8 0, .int .u8 0, .int .u8 0, .int .u8 0, .int .u8 0, .int .u8 0, .int .u16 2048, .slice B (20 + m) k], .int .i64 0]) ∧ Rd w' 0 B (20 + m) ((pkB pl mo s0 s1 s2 s3 d0 d1 d2 d3 l).set i a) ∧ SlOk B (20 + m) k := by
  have hlen : ((pkB pl mo s0 s1 s2 s3 d0 d1 d2 d3 l).set i a).length = 20 + m := by rw [List.length_set, pkB_len, hl]
  refine (parse_any w A (34 + m) c _ hA hok (by omega)).mono ?_
  rintro e w' ⟨hk, a0, a1, a2, a3, a4, a5, b0, b1, b2, b3, b4, b5, ty, b, k, B, kk, hp, hty, rfl, hrd, hok2⟩
  rw [parsed_bent _ _ _ _ _ _ _ _ _ _ _ (by omega)] at hp
  simp only [Prod.mk.injEq, List.cons.injEq, and_true] at hp
  obtain ⟨⟨rfl, rfl, rfl, rfl, rfl, rfl⟩, ⟨rfl, rfl, rfl, rfl, rfl, rfl⟩, rfl, rfl, rfl⟩ := hp
  rw [hlen] at hrd hok2 ⊢
  exact ⟨hk, B, kk, rfl, hrd.lo0, hok2⟩
theorem bent6 (i : Nat) (a x : UInt8) (hi : i < 20) (hx : (pkB pl mo s0 s1 s2 s3 d0 d1 d2 d3 l)[i]? = some x) (ha : a ≠ x) (hl : l.length = m) (hn : m ≤ 176) (hA : Rd w 0 A (20 + m) ((pkB pl mo s0 s1 s2 s3 d0 d1 d2 d3 l).set i a)) (hok : SlOk A (20 + m) c) :
    Calls Try.prog 15 #[.slice A (20 + m) c] w fun e w' => Kp w w' ∧ ∃ (q : Array Value) (k : Int), e = .returned (.tuple #[.agg q, .int .i64 k]) ∧ q.size = 14 ∧ q.toList.all (·.oneCell') = true ∧
      (k ≠ 0 ∨ (k = 0 ∧ ∃ (idn : Nat) (mo' : Bool) (pm : Nat) (t p e0 e1 e2 e3 x0 x1 x2 x3 : UInt8) (B : Option Addr) (kk m' : Nat) (data : List UInt8), q = #[.int .u16 (idn : Int), .bool mo', .int .i64 (8 * (pm : Int)), .int .u8 (t.toNat : Int), .int .u8 (p.toNat : Int), .int .u8 (e0.toNat : Int), .int .u8 (e1.toNat : Int), .int .u8 (e2.toNat : Int), .int .u8 (e3.toNat : Int), .int .u8 (x0.toNat : Int), .int .u8 (x1.toNat : Int), .int .u8 (x2.toNat : Int), .int .u8 (x3.toNat : Int), .slice B m' kk] ∧ Rd w' 0 B m' data ∧ (data == l) = false)) := by
  refine (p6_any w A (20 + m) c _ hA hok (by omega)).mono ?_
  rintro e w' (⟨k, hk0, _, hk, rfl⟩ | ⟨idn, mo', pm, t, p, e0, e1, e2, e3, x0, x1, x2, x3, data, hP, _, _, _, hk, B, kk, rfl, hrd, hok2⟩)
  · exact ⟨hk, _, k, rfl, rfl, rfl, .inl hk0⟩
  · have hd := turn_law pl mo s0 s1 s2 s3 d0 d1 d2 d3 l (by omega) i hi x a hx ha _ hP
    refine ⟨hk, _, 0, rfl, rfl, by simp [Value.oneCell'], .inr ⟨rfl, idn, mo', pm, t, p, e0, e1, e2, e3, x0, x1, x2, x3, B, kk, _, data, rfl, hrd.lo0, ?_⟩⟩
    rw [beq_eq_false_iff_ne]
    intro h
    exact hd (by rw [h])
end
end Go.Proofs.Ytnoobifdaldfiaa.Fr
