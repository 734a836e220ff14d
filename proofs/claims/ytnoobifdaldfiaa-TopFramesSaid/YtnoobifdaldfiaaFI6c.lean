/-
  The contract of ip4.Parse: too few bytes, a wrong form; the laws on bits that it needs.
-/
import Derived.Test.YtnoobifdaldfiaaFI6b0
import Derived.Test.YtnoobifdaldfiaaFParse5
namespace Go.Proofs.Ytnoobifdaldfiaa.Fr
open Go.RowKit
set_option maxRecDepth 100000


theorem and_15 (x : UInt8) : bits BinOp.and IntKind.u8 (x.toNat : Int) 15 = ((x.toNat % 16 : Nat) : Int) := by
  have hx := x.toNat_lt
  show IntKind.u8.wrap ((BitVec.ofInt 8 (x.toNat : Int) &&& BitVec.ofInt 8 15).toNat : Int) = _
  rw [BitVec.ofInt_natCast, show (15 : Int) = ((15 : Nat) : Int) from rfl, BitVec.ofInt_natCast, BitVec.toNat_and, BitVec.toNat_ofNat, BitVec.toNat_ofNat, Nat.mod_eq_of_lt (by omega), Nat.mod_eq_of_lt (by omega)]
  have e : x.toNat &&& 15 = x.toNat % 16 := Nat.and_two_pow_sub_one_eq_mod x.toNat 4
  rw [e, wrap_u8 (by omega) (by omega)]
theorem and_8191 (n : Nat) (h : n ≤ 65535) : bits BinOp.and IntKind.u16 (n : Int) 8191 = ((n % 8192 : Nat) : Int) := by
  show IntKind.u16.wrap ((BitVec.ofInt 16 (n : Int) &&& BitVec.ofInt 16 8191).toNat : Int) = _
  rw [BitVec.ofInt_natCast, show (8191 : Int) = ((8191 : Nat) : Int) from rfl, BitVec.ofInt_natCast, BitVec.toNat_and, BitVec.toNat_ofNat, BitVec.toNat_ofNat, Nat.mod_eq_of_lt (by omega), Nat.mod_eq_of_lt (by omega)]
  have e : n &&& 8191 = n % 8192 := Nat.and_two_pow_sub_one_eq_mod n 13
  rw [e, wrap_u16 (by omega) (by omega)]
theorem and_8192n (n : Nat) : n &&& 8192 = (n.testBit 13).toNat * 8192 := by
  have h2 : ∀ i, Nat.testBit 8192 i = decide (13 = i) := fun i => by
    show Nat.testBit (2 ^ 13) i = _
    rw [Nat.testBit_two_pow]
  apply Nat.eq_of_testBit_eq
  intro i
  rw [Nat.testBit_and, h2]
  cases h : n.testBit 13
  · by_cases hi : 13 = i
    · subst hi; simp [h]
    · simp [hi]
  · by_cases hi : 13 = i
    · subst hi; simp [h, h2]
    · simp [hi, h2]
theorem and_8192 (n : Nat) (h : n ≤ 65535) : (bits BinOp.and IntKind.u16 (n : Int) 8192 != 0) = decide (n / 8192 % 2 = 1) := by
  have e0 : bits BinOp.and IntKind.u16 (n : Int) 8192 = (((n.testBit 13).toNat * 8192 : Nat) : Int) := by
    show IntKind.u16.wrap ((BitVec.ofInt 16 (n : Int) &&& BitVec.ofInt 16 8192).toNat : Int) = _
    rw [BitVec.ofInt_natCast, show (8192 : Int) = ((8192 : Nat) : Int) from rfl, BitVec.ofInt_natCast, BitVec.toNat_and, BitVec.toNat_ofNat, BitVec.toNat_ofNat, Nat.mod_eq_of_lt (by omega), Nat.mod_eq_of_lt (by omega)]
    have e : n &&& 8192 = (n.testBit 13).toNat * 8192 := and_8192n n
    rw [e, wrap_u16 (by omega) (by cases n.testBit 13 <;> simp)]
  rw [e0, Nat.testBit_eq_decide_div_mod_eq]
  by_cases h1 : n / 8192 % 2 = 1
  · simp [h1]
  · simp [h1]
theorem or_i64 (x y : UInt8) : bits BinOp.or IntKind.i64 ((x.toNat : Int) * 256) (y.toNat : Int) = ((256 * x.toNat + y.toNat : Nat) : Int) := by
  have hx := x.toNat_lt
  have hy := y.toNat_lt
  show IntKind.i64.wrap ((BitVec.ofInt 64 ((x.toNat : Int) * 256) ||| BitVec.ofInt 64 (y.toNat : Int)).toNat : Int) = _
  have e1 : ((x.toNat : Int) * 256) = ((x.toNat * 256 : Nat) : Int) := by omega
  rw [e1, BitVec.ofInt_natCast, BitVec.ofInt_natCast, BitVec.toNat_or, BitVec.toNat_ofNat, BitVec.toNat_ofNat, Nat.mod_eq_of_lt (by omega), Nat.mod_eq_of_lt (by omega)]
  have e2 : x.toNat * 256 ||| y.toNat = x.toNat * 256 + y.toNat := by
    have := Nat.shiftLeft_add_eq_or_of_lt (a := x.toNat) (b := y.toNat) (i := 8) (by omega)
    rw [Nat.shiftLeft_eq] at this
    exact this.symm
  rw [e2, IntKind.wrap_i64]
  omega

theorem szPkt : (Try.prog.info? 38).map (·.size) = some 14 := by kernel_rfl
theorem uPkt : ∃ fs, Try.prog.underlying 38 = some (.struct fs) := ⟨_, Try.underlying38⟩

/-- no packet -/
def PktNo (w : World) (k : Int) (e : Ending) (w' : World) : Prop := Kp w w' ∧ e = .returned (.tuple #[.agg #[.int .u16 0, .bool false, .int .i64 0, .int .u8 0, .int .u8 0, .int .u8 0, .int .u8 0, .int .u8 0, .int .u8 0, .int .u8 0, .int .u8 0, .int .u8 0, .int .u8 0, .slice none 0 0], .int .i64 k])

set_option maxHeartbeats 1000000 in
theorem p6_short (w : World) (A : Option Addr) (n c : Nat) (h : n < 20) : Calls Try.prog 15 #[.slice A n c] w (PktNo w 6) := by
  have hbk := heap_alloc_new w (.cells #[.int .u16 0, .bool false, .int .i64 0, .int .u8 0, .int .u8 0, .int .u8 0, .int .u8 0, .int .u8 0, .int .u8 0, .int .u8 0, .int .u8 0, .int .u8 0, .int .u8 0, .slice none 0 0] 38)
  have hrow := setRow_heap (w.alloc (.cells #[.int .u16 0, .bool false, .int .i64 0, .int .u8 0, .int .u8 0, .int .u8 0, .int .u8 0, .int .u8 0, .int .u8 0, .int .u8 0, .int .u8 0, .int .u8 0, .int .u8 0, .slice none 0 0] 38)) w.heap.size _ #[.int .u16 0, .bool false, .int .i64 0, .int .u8 0, .int .u8 0, .int .u8 0, .int .u8 0, .int .u8 0, .int .u8 0, .int .u8 0, .int .u8 0, .int .u8 0, .int .u8 0, .slice none 0 0] _ _ hbk
  have HX := Lib.hid hbk
  clear hbk
  go_enter Try.func15, Try.ntmps15
  go_wp2_with (refine lst_row (by rfl) (.tmp 2) (.tmp 11) _ rfl rfl rfl HX.out szPkt rfl rfl rfl ?_)
  refine bodyPost_ret (v := .tuple #[.agg #[.int .u16 0, .bool false, .int .i64 0, .int .u8 0, .int .u8 0, .int .u8 0, .int .u8 0, .int .u8 0, .int .u8 0, .int .u8 0, .int .u8 0, .int .u8 0, .int .u8 0, .slice none 0 0], .int .i64 6]) (results_cell2 (fn := Try.f15) szPkt uPkt hrow rfl Try.results15 rfl rfl) rfl ⟨((Kp.refl _).alloc _).setRow (Nat.le_refl _), rfl⟩

/-- a packet's head: its first byte tells the form -/
def form6 (p0 : UInt8) (all : Nat) : Bool := p0.toNat / 16 != 4 || decide (4 * (p0.toNat % 16) < 20) || decide (all < 4 * (p0.toNat % 16))

set_option maxRecDepth 100000 in
set_option maxHeartbeats 2000000 in
theorem p6_form (w : World) (A : Option Addr) (n c : Nat) (p0 p1 p2 p3 : UInt8) (r : List UInt8) (hA : Rd w 0 A n (p0 :: p1 :: p2 :: p3 :: r)) (hn : 20 ≤ n) (hn2 : n ≤ 140737488351232) (hf : form6 p0 (256 * p2.toNat + p3.toNat) = true) :
    Calls Try.prog 15 #[.slice A n c] w (PktNo w 7) := by
  obtain ⟨g, off, rfl, _⟩ := hA.at_ (by omega)
  have kb : Kp w (w.alloc (.cells #[.int .u16 0, .bool false, .int .i64 0, .int .u8 0, .int .u8 0, .int .u8 0, .int .u8 0, .int .u8 0, .int .u8 0, .int .u8 0, .int .u8 0, .int .u8 0, .int .u8 0, .slice none 0 0] 38)) := (Kp.refl w).alloc _
  obtain ⟨x0, hx0, z0⟩ := (hA.keep kb).cell (k := 0) (by omega)
  obtain ⟨x2, hx2, z2⟩ := (hA.keep kb).cell (k := 2) (by omega)
  obtain ⟨x3, hx3, z3⟩ := (hA.keep kb).cell (k := 3) (by omega)
  rw [Nat.add_zero] at z0
  injection hx0 with hx0
  injection hx2 with hx2
  injection hx3 with hx3
  subst hx0
  subst hx2
  subst hx3
  clear hA
  have b0 := p0.toNat_lt
  have b2 := p2.toNat_lt
  have b3 := p3.toNat_lt
  have a1 := and_15 p0
  have a2 := or_i64 p2 p3
  have a3 : IntKind.i64.wrap ((p2.toNat : Int) * 256) = (p2.toNat : Int) * 256 := by rw [IntKind.wrap_i64]; omega
  have hbk := heap_alloc_new w (.cells #[.int .u16 0, .bool false, .int .i64 0, .int .u8 0, .int .u8 0, .int .u8 0, .int .u8 0, .int .u8 0, .int .u8 0, .int .u8 0, .int .u8 0, .int .u8 0, .int .u8 0, .slice none 0 0] 38)
  have HX := Lib.hid hbk
  clear hbk
  obtain ⟨al, hal⟩ : ∃ al, 256 * p2.toNat + p3.toNat = al := ⟨_, rfl⟩
  have hal2 : al ≤ 65535 := by omega
  rw [hal] at a2 hf
  clear hal
  have hrow := setRow_heap (w.alloc (.cells #[.int .u16 0, .bool false, .int .i64 0, .int .u8 0, .int .u8 0, .int .u8 0, .int .u8 0, .int .u8 0, .int .u8 0, .int .u8 0, .int .u8 0, .int .u8 0, .int .u8 0, .slice none 0 0] 38)) w.heap.size _ #[.int .u16 0, .bool false, .int .i64 0, .int .u8 0, .int .u8 0, .int .u8 0, .int .u8 0, .int .u8 0, .int .u8 0, .int .u8 0, .int .u8 0, .int .u8 0, .int .u8 0, .slice none 0 0] _ _ HX.out
  obtain ⟨hd, hhd⟩ : ∃ hd, p0.toNat % 16 = hd := ⟨_, rfl⟩
  obtain ⟨ve, hve⟩ : ∃ ve, p0.toNat / 16 = ve := ⟨_, rfl⟩
  have hve2 : (p0.toNat : Int) / 16 = (ve : Int) := by omega
  have hhd2 : hd < 16 := by omega
  unfold form6 at hf
  rw [hhd] at a1 hf
  rw [hve] at hf
  clear hhd hve
  have hc : ve ≠ 4 ∨ (ve = 4 ∧ 4 * hd < 20) ∨ (ve = 4 ∧ 20 ≤ 4 * hd ∧ al < 4 * hd) := by
    simp only [Bool.or_eq_true, bne_iff_ne, ne_eq, decide_eq_true_eq] at hf
    omega
  clear hf
  rcases hc with h1 | ⟨h1, h2⟩ | ⟨h1, h2, h3⟩
  · have e1 : ((ve : Int) != 4) = true := by simp only [bne_iff_ne, ne_eq]; omega
    go_enter Try.func15, Try.ntmps15
    go_wp2
    go_quiet (fail)
    go_wp2_with (refine lst_row (by rfl) (.tmp 2) (.tmp 43) _ rfl rfl rfl HX.out szPkt rfl rfl rfl ?_)
    refine bodyPost_ret (v := .tuple #[.agg #[.int .u16 0, .bool false, .int .i64 0, .int .u8 0, .int .u8 0, .int .u8 0, .int .u8 0, .int .u8 0, .int .u8 0, .int .u8 0, .int .u8 0, .int .u8 0, .int .u8 0, .slice none 0 0], .int .i64 7]) (results_cell2 (fn := Try.f15) szPkt uPkt hrow rfl Try.results15 rfl rfl) rfl ⟨(((Kp.refl _).alloc _).of_drawn _).setRow (Nat.le_refl _), rfl⟩
  · subst h1
    have e2 : 4 * (hd : Int) < 20 := by omega
    go_enter Try.func15, Try.ntmps15
    go_wp2
    go_quiet (fail)
    go_wp2_with (refine lst_row (by rfl) (.tmp 2) (.tmp 43) _ rfl rfl rfl HX.out szPkt rfl rfl rfl ?_)
    refine bodyPost_ret (v := .tuple #[.agg #[.int .u16 0, .bool false, .int .i64 0, .int .u8 0, .int .u8 0, .int .u8 0, .int .u8 0, .int .u8 0, .int .u8 0, .int .u8 0, .int .u8 0, .int .u8 0, .int .u8 0, .slice none 0 0], .int .i64 7]) (results_cell2 (fn := Try.f15) szPkt uPkt hrow rfl Try.results15 rfl rfl) rfl ⟨(((Kp.refl _).alloc _).of_drawn _).setRow (Nat.le_refl _), rfl⟩
  · subst h1
    have e2 : ¬ 4 * (hd : Int) < 20 := by omega
    have e3 : (al : Int) < 4 * (hd : Int) := by omega
    go_enter Try.func15, Try.ntmps15
    go_wp2
    go_quiet (fail)
    go_wp2_with (refine lst_row (by rfl) (.tmp 2) (.tmp 43) _ rfl rfl rfl HX.out szPkt rfl rfl rfl ?_)
    refine bodyPost_ret (v := .tuple #[.agg #[.int .u16 0, .bool false, .int .i64 0, .int .u8 0, .int .u8 0, .int .u8 0, .int .u8 0, .int .u8 0, .int .u8 0, .int .u8 0, .int .u8 0, .int .u8 0, .int .u8 0, .slice none 0 0], .int .i64 7]) (results_cell2 (fn := Try.f15) szPkt uPkt hrow rfl Try.results15 rfl rfl) rfl ⟨(((Kp.refl _).alloc _).of_drawn _).setRow (Nat.le_refl _), rfl⟩

set_option maxRecDepth 100000 in
set_option maxHeartbeats 2000000 in
theorem p6_cut (w : World) (A : Option Addr) (n c : Nat) (p0 p1 p2 p3 : UInt8) (r : List UInt8) (hA : Rd w 0 A n (p0 :: p1 :: p2 :: p3 :: r)) (hok : SlOk A n c) (hn : 20 ≤ n) (hn2 : n ≤ 140737488351232) (hf : form6 p0 (256 * p2.toNat + p3.toNat) = false) (hcut : n < 256 * p2.toNat + p3.toNat) :
    Calls Try.prog 15 #[.slice A n c] w (PktNo w 6) := by
  obtain ⟨g, off, rfl, _⟩ := hA.at_ (by omega)
  have kb : Kp w (w.alloc (.cells #[.int .u16 0, .bool false, .int .i64 0, .int .u8 0, .int .u8 0, .int .u8 0, .int .u8 0, .int .u8 0, .int .u8 0, .int .u8 0, .int .u8 0, .int .u8 0, .int .u8 0, .slice none 0 0] 38)) := (Kp.refl w).alloc _
  obtain ⟨x0, hx0, z0⟩ := (hA.keep kb).cell (k := 0) (by omega)
  obtain ⟨x2, hx2, z2⟩ := (hA.keep kb).cell (k := 2) (by omega)
  obtain ⟨x3, hx3, z3⟩ := (hA.keep kb).cell (k := 3) (by omega)
  rw [Nat.add_zero] at z0
  injection hx0 with hx0
  injection hx2 with hx2
  injection hx3 with hx3
  subst hx0
  subst hx2
  subst hx3
  have b0 := p0.toNat_lt
  have b2 := p2.toNat_lt
  have b3 := p3.toNat_lt
  have a1 := and_15 p0
  have a2 := or_i64 p2 p3
  have a3 : IntKind.i64.wrap ((p2.toNat : Int) * 256) = (p2.toNat : Int) * 256 := by rw [IntKind.wrap_i64]; omega
  have hbk := heap_alloc_new w (.cells #[.int .u16 0, .bool false, .int .i64 0, .int .u8 0, .int .u8 0, .int .u8 0, .int .u8 0, .int .u8 0, .int .u8 0, .int .u8 0, .int .u8 0, .int .u8 0, .int .u8 0, .slice none 0 0] 38)
  have HX := Lib.hid hbk
  clear hbk
  obtain ⟨al, hal⟩ : ∃ al, 256 * p2.toNat + p3.toNat = al := ⟨_, rfl⟩
  have hal2 : al ≤ 65535 := by omega
  rw [hal] at a2 hf hcut
  clear hal
  have hrow := setRow_heap (w.alloc (.cells #[.int .u16 0, .bool false, .int .i64 0, .int .u8 0, .int .u8 0, .int .u8 0, .int .u8 0, .int .u8 0, .int .u8 0, .int .u8 0, .int .u8 0, .int .u8 0, .int .u8 0, .slice none 0 0] 38)) w.heap.size _ #[.int .u16 0, .bool false, .int .i64 0, .int .u8 0, .int .u8 0, .int .u8 0, .int .u8 0, .int .u8 0, .int .u8 0, .int .u8 0, .int .u8 0, .int .u8 0, .int .u8 0, .slice none 0 0] _ _ HX.out
  obtain ⟨hd, hhd⟩ : ∃ hd, p0.toNat % 16 = hd := ⟨_, rfl⟩
  obtain ⟨ve, hve⟩ : ∃ ve, p0.toNat / 16 = ve := ⟨_, rfl⟩
  have hve2 : (p0.toNat : Int) / 16 = (ve : Int) := by omega
  have hhd2 : hd < 16 := by omega
  unfold form6 at hf
  rw [hhd] at a1 hf
  rw [hve] at hf
  clear hhd hve
  obtain ⟨h1, h2, h3⟩ : ve = 4 ∧ 20 ≤ 4 * hd ∧ 4 * hd ≤ al := by
    simp only [Bool.or_eq_false_iff, bne_eq_false_iff_eq, decide_eq_false_iff_not] at hf
    omega
  clear hf
  subst h1
  have e2 : ¬ 4 * (hd : Int) < 20 := by omega
  have e3 : ¬ (al : Int) < 4 * (hd : Int) := by omega
  have e4 : (n : Int) < (al : Int) := by omega
  clear hA hok
  go_enter Try.func15, Try.ntmps15
  go_wp2
  go_quiet (fail)
  go_wp2_with (refine lst_row (by rfl) (.tmp 2) (.tmp 49) _ rfl rfl rfl HX.out szPkt rfl rfl rfl ?_)
  refine bodyPost_ret (v := .tuple #[.agg #[.int .u16 0, .bool false, .int .i64 0, .int .u8 0, .int .u8 0, .int .u8 0, .int .u8 0, .int .u8 0, .int .u8 0, .int .u8 0, .int .u8 0, .int .u8 0, .int .u8 0, .slice none 0 0], .int .i64 6]) (results_cell2 (fn := Try.f15) szPkt uPkt hrow rfl Try.results15 rfl rfl) rfl ⟨(((Kp.refl _).alloc _).of_drawn _).setRow (Nat.le_refl _), rfl⟩

set_option maxRecDepth 100000 in
set_option maxHeartbeats 2000000 in
theorem p6_sum (w : World) (A : Option Addr) (n c : Nat) (p0 p1 p2 p3 : UInt8) (r : List UInt8) (hA : Rd w 0 A n (p0 :: p1 :: p2 :: p3 :: r)) (hok : SlOk A n c) (hn : 20 ≤ n) (hn2 : n ≤ 140737488351232) (hf : form6 p0 (256 * p2.toNat + p3.toNat) = false) (hcut : 256 * p2.toNat + p3.toNat ≤ n) (hs : Ck.ck ((p0 :: p1 :: p2 :: p3 :: r).take (4 * (p0.toNat % 16))) ≠ 65535) :
    Calls Try.prog 15 #[.slice A n c] w (PktNo w 8) := by
  obtain ⟨g, off, rfl, _⟩ := hA.at_ (by omega)
  have kb : Kp w (w.alloc (.cells #[.int .u16 0, .bool false, .int .i64 0, .int .u8 0, .int .u8 0, .int .u8 0, .int .u8 0, .int .u8 0, .int .u8 0, .int .u8 0, .int .u8 0, .int .u8 0, .int .u8 0, .slice none 0 0] 38)) := (Kp.refl w).alloc _
  obtain ⟨x0, hx0, z0⟩ := (hA.keep kb).cell (k := 0) (by omega)
  obtain ⟨x2, hx2, z2⟩ := (hA.keep kb).cell (k := 2) (by omega)
  obtain ⟨x3, hx3, z3⟩ := (hA.keep kb).cell (k := 3) (by omega)
  rw [Nat.add_zero] at z0
  injection hx0 with hx0
  injection hx2 with hx2
  injection hx3 with hx3
  subst hx0
  subst hx2
  subst hx3
  have b0 := p0.toNat_lt
  have b2 := p2.toNat_lt
  have b3 := p3.toNat_lt
  have a1 := and_15 p0
  have a2 := or_i64 p2 p3
  have a3 : IntKind.i64.wrap ((p2.toNat : Int) * 256) = (p2.toNat : Int) * 256 := by rw [IntKind.wrap_i64]; omega
  have hbk := heap_alloc_new w (.cells #[.int .u16 0, .bool false, .int .i64 0, .int .u8 0, .int .u8 0, .int .u8 0, .int .u8 0, .int .u8 0, .int .u8 0, .int .u8 0, .int .u8 0, .int .u8 0, .int .u8 0, .slice none 0 0] 38)
  have HX := Lib.hid hbk
  clear hbk
  obtain ⟨al, hal⟩ : ∃ al, 256 * p2.toNat + p3.toNat = al := ⟨_, rfl⟩
  have hal2 : al ≤ 65535 := by omega
  rw [hal] at a2 hf hcut
  clear hal
  have hrow := setRow_heap (w.alloc (.cells #[.int .u16 0, .bool false, .int .i64 0, .int .u8 0, .int .u8 0, .int .u8 0, .int .u8 0, .int .u8 0, .int .u8 0, .int .u8 0, .int .u8 0, .int .u8 0, .int .u8 0, .slice none 0 0] 38)) w.heap.size _ #[.int .u16 0, .bool false, .int .i64 0, .int .u8 0, .int .u8 0, .int .u8 0, .int .u8 0, .int .u8 0, .int .u8 0, .int .u8 0, .int .u8 0, .int .u8 0, .int .u8 0, .slice none 0 0] _ _ HX.out
  obtain ⟨hd, hhd⟩ : ∃ hd, p0.toNat % 16 = hd := ⟨_, rfl⟩
  obtain ⟨ve, hve⟩ : ∃ ve, p0.toNat / 16 = ve := ⟨_, rfl⟩
  have hve2 : (p0.toNat : Int) / 16 = (ve : Int) := by omega
  have hhd2 : hd < 16 := by omega
  unfold form6 at hf
  rw [hhd] at a1 hf hs
  rw [hve] at hf
  clear hhd hve
  obtain ⟨h1, h2, h3⟩ : ve = 4 ∧ 20 ≤ 4 * hd ∧ 4 * hd ≤ al := by
    simp only [Bool.or_eq_false_iff, bne_eq_false_iff_eq, decide_eq_false_iff_not] at hf
    omega
  clear hf
  subst h1
  have e2 : ¬ 4 * (hd : Int) < 20 := by omega
  have e3 : ¬ (al : Int) < 4 * (hd : Int) := by omega
  have e4 : ¬ (n : Int) < (al : Int) := by omega
  have hsb : (Ck.ck ((p0 :: p1 :: p2 :: p3 :: r).take (4 * hd)) == 65535) = false := by simpa using hs
  obtain ⟨i8, hi8, hs8⟩ : ∃ i, Try.prog.info? (Try.prog.elem 24) = some i ∧ i.size = 1 := by
    obtain ⟨i0, hi0, _, hz1, _⟩ := info_parts info5
    exact ⟨i0, hi0, hz1⟩
  obtain ⟨s1, rd1, _⟩ := cut_hi (P := Try.prog) (kd := .i64) (m := 4 * hd) Try.underlying24 hi8 hs8 hA hok (by omega)
  have s2 : ∀ wx : World, (Instr.slice 24 (.slice (some ⟨g, off, none⟩) n c) none (some (.int .i64 (4 * (hd : Int)))) none).run Try.prog wx = .ok (.slice (some ⟨g, off, none⟩) (4 * hd) c) wx := by
    intro wx
    have := s1 wx
    rwa [show ((4 * hd : Nat) : Int) = 4 * (hd : Int) by omega] at this
  have HRD := Lib.hid rd1
  have HSB := Lib.hid hsb
  clear hA hok s1 rd1 hs hsb
  go_enter Try.func15, Try.ntmps15
  go_wp2
  go_quiet (fail)
  go_wp2_with fail
  refine (right_any _ _ 1 _ [(p0 :: p1 :: p2 :: p3 :: r).take (4 * hd)] (rdAll_mk (vs := [.slice (some ⟨g, off, none⟩) (4 * hd) c]) (by simp) rfl (by decide) ⟨⟨_, _, _, rfl, HRD.out.keep (kb.of_drawn _), by unfold maxLen; omega⟩, trivial⟩)).mono ?_
  rintro e W3 ⟨rfl, rfl⟩
  rw [show [(p0 :: p1 :: p2 :: p3 :: r).take (4 * hd)].flatten = (p0 :: p1 :: p2 :: p3 :: r).take (4 * hd) by simp, HSB.out]
  have kw3 : Kp w (((w.alloc (.cells #[.int .u16 0, .bool false, .int .i64 0, .int .u8 0, .int .u8 0, .int .u8 0, .int .u8 0, .int .u8 0, .int .u8 0, .int .u8 0, .int .u8 0, .int .u8 0, .int .u8 0, .slice none 0 0] 38)).drewN nq).alloc (.cells #[.slice (some ⟨g, off, none⟩) (4 * hd) c] 24)) := (kb.of_drawn _).alloc _
  have row3 : (((w.alloc (.cells #[.int .u16 0, .bool false, .int .i64 0, .int .u8 0, .int .u8 0, .int .u8 0, .int .u8 0, .int .u8 0, .int .u8 0, .int .u8 0, .int .u8 0, .int .u8 0, .int .u8 0, .slice none 0 0] 38)).drewN nq).alloc (.cells #[.slice (some ⟨g, off, none⟩) (4 * hd) c] 24)).heap[w.heap.size]? = some (.cells #[.int .u16 0, .bool false, .int .i64 0, .int .u8 0, .int .u8 0, .int .u8 0, .int .u8 0, .int .u8 0, .int .u8 0, .int .u8 0, .int .u8 0, .int .u8 0, .int .u8 0, .slice none 0 0] 38 (0, 0)) := (Below.heap_alloc _ _ _ (by simp)).trans HX.out
  generalize ((w.alloc (.cells #[.int .u16 0, .bool false, .int .i64 0, .int .u8 0, .int .u8 0, .int .u8 0, .int .u8 0, .int .u8 0, .int .u8 0, .int .u8 0, .int .u8 0, .int .u8 0, .int .u8 0, .slice none 0 0] 38)).drewN nq).alloc (.cells #[.slice (some ⟨g, off, none⟩) (4 * hd) c] 24) = W3 at kw3 row3 ⊢
  have hrow4 := setRow_heap W3 w.heap.size _ #[.int .u16 0, .bool false, .int .i64 0, .int .u8 0, .int .u8 0, .int .u8 0, .int .u8 0, .int .u8 0, .int .u8 0, .int .u8 0, .int .u8 0, .int .u8 0, .int .u8 0, .slice none 0 0] _ _ row3
  have HX3 := Lib.hid row3
  clear row3
  go_wp2_with (refine lst_row (by rfl) (.tmp 2) (.tmp 57) _ rfl rfl rfl HX3.out szPkt rfl rfl rfl ?_)
  refine bodyPost_ret (v := .tuple #[.agg #[.int .u16 0, .bool false, .int .i64 0, .int .u8 0, .int .u8 0, .int .u8 0, .int .u8 0, .int .u8 0, .int .u8 0, .int .u8 0, .int .u8 0, .int .u8 0, .int .u8 0, .slice none 0 0], .int .i64 8]) (results_cell2 (fn := Try.f15) szPkt uPkt hrow4 rfl Try.results15 rfl rfl) rfl ⟨kw3.setRow (Nat.le_refl _), rfl⟩
end Go.Proofs.Ytnoobifdaldfiaa.Fr
