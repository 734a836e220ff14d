/-
  The walk of DgramTurned: it returns true and leaves what was there as it was.
-/
import Derived.Test.YtpjjanbcjkdciaaLives8
namespace Go.Proofs.Ytpjjanbcjkdciaa
open Go.RowKit

theorem row_setCell {w : World} {b : Nat} {cs : Array Value} {T : TypeId} {m : Nat × Nat} (h : w.heap[b]? = some (.cells cs T m)) (i : Nat) (v : Value) : (w.setCell ⟨b, i, none⟩ v).heap[b]? = some (.cells (cs.setIfInBounds i v) T m) := by
  simp [World.setCell, Array.getElem?_modify, h]
theorem szIP : (Try.prog.info? 27).map (·.size) = some 4 := by kernel_rfl
theorem mod_u64 (z : Int) : ∃ u : Nat, IntKind.u64.wrap z = (u : Int) := ⟨(IntKind.u64.wrap z).toNat, by
  have : 0 ≤ IntKind.u64.wrap z := by simp only [IntKind.wrap, IntKind.bits, IntKind.signed]; simp; omega
  omega⟩
theorem wrap_u64n (n : Nat) (h : n ≤ 1000000) : IntKind.u64.wrap (n : Int) = (n : Int) := by
  simp only [IntKind.wrap, IntKind.bits, IntKind.signed]
  simp
  omega
theorem set_ips (j : Nat) (hj : j < 4) (y : UInt8) : ∃ (x : UInt8) (e0 e1 e2 e3 : UInt8), ([10, 0, 0, 1] : List UInt8)[j]? = some x ∧ (([10, 0, 0, 1] : List UInt8).set j (x ^^^ y)) = [e0, e1, e2, e3] ∧ ((#[.int .u8 10, .int .u8 0, .int .u8 0, .int .u8 1] : Array Value).setIfInBounds j (.int .u8 ((x ^^^ y).toNat : Int))) = #[.int .u8 (e0.toNat : Int), .int .u8 (e1.toNat : Int), .int .u8 (e2.toNat : Int), .int .u8 (e3.toNat : Int)] ∧ (#[.int .u8 10, .int .u8 0, .int .u8 0, .int .u8 1] : Array Value)[j]? = some (.int .u8 (x.toNat : Int)) := by
  match j, hj with
  | 0, _ => exact ⟨10, 10 ^^^ y, 0, 0, 1, rfl, rfl, rfl, rfl⟩
  | 1, _ => exact ⟨0, 10, 0 ^^^ y, 0, 1, rfl, rfl, rfl, rfl⟩
  | 2, _ => exact ⟨0, 10, 0, 0 ^^^ y, 1, rfl, rfl, rfl, rfl⟩
  | 3, _ => exact ⟨1, 10, 0, 0, 1 ^^^ y, rfl, rfl, rfl, rfl⟩


set_option maxRecDepth 100000 in
set_option maxHeartbeats 4000000 in
theorem turned8_main (w : World) (sp dp : Nat) (A : Option Addr) (n c : Nat) (l : List UInt8) (at_ : Int) (by_ : UInt8) (hb : sp ≤ 65535 ∧ dp ≤ 65535) (hA : Rd w 0 A n l) (h4 : ¬ 900 < n) (h0 : by_ ≠ 0) :
    Calls Try.prog 6 #[.agg #[.int .u16 (sp : Int), .int .u16 (dp : Int), .slice A n c], .int .i64 at_, .int .u8 (by_.toNat : Int)] w fun e w' => e = .returned (.bool true) ∧ Kp w w' := by
  obtain ⟨f1, f2⟩ := hb
  have HL := Lib.hid hA.len
  have hK0 : Kp w (w.alloc (.cells #[.int .u16 (sp : Int), .int .u16 (dp : Int), .slice A n c] 43)) := (Kp.refl w).alloc _
  have HK0 := Lib.hid hK0
  have HA := Lib.hid (hA.keep hK0)
  have HRP : Hid (∀ W, Kp (w.alloc (.cells #[.int .u16 (sp : Int), .int .u16 (dp : Int), .slice A n c] 43)) W → W.heap[w.heap.size]? = some (.cells #[.int .u16 (sp : Int), .int .u16 (dp : Int), .slice A n c] 43 (0, 0))) := Lib.hid fun W hk => (hk.block _ (by simp)).trans (heap_alloc_new w _)
  have i1 : ¬ (900 : Int) < (n : Int) := by omega
  have hb0 : ((by_.toNat : Int) == 0) = false := by
    rw [beq_eq_false_iff_ne]
    intro e
    exact h0 (UInt8.toNat_inj.1 (by simpa using (by omega : by_.toNat = 0)))
  clear hA hK0
  go_enter Try.func6, Try.ntmps6
  go_wp2_with fail
  refine (lives8_any _).mono ?_
  rintro e w1 ⟨rfl, hk1⟩
  have HK1 := Lib.hid hk1
  have hsz1 := hk1.size
  have z7 : w1.cell? ⟨w.heap.size, 2, none⟩ = some (.slice A n c) := (cell_of_row w1 _ 2 _ _ _ (HRP.out _ hk1)).trans rfl
  have HK2 := Lib.hid ((hk1.alloc (.cells #[.int .u8 10, .int .u8 0, .int .u8 0, .int .u8 1] 27)).alloc (.cells #[.int .u8 10, .int .u8 0, .int .u8 0, .int .u8 2] 27))
  have ra := (Below.heap_alloc (w1.alloc (.cells #[.int .u8 10, .int .u8 0, .int .u8 0, .int .u8 1] 27)) (.cells #[.int .u8 10, .int .u8 0, .int .u8 0, .int .u8 2] 27) w1.heap.size (by simp)).trans (heap_alloc_new w1 (.cells #[.int .u8 10, .int .u8 0, .int .u8 0, .int .u8 1] 27))
  have rb := heap_alloc_new (w1.alloc (.cells #[.int .u8 10, .int .u8 0, .int .u8 0, .int .u8 1] 27)) (.cells #[.int .u8 10, .int .u8 0, .int .u8 0, .int .u8 2] 27)
  rw [show (w1.alloc (.cells #[.int .u8 10, .int .u8 0, .int .u8 0, .int .u8 1] 27)).heap.size = w1.heap.size + 1 by simp] at rb
  have KR : Hid (∀ W, Kp ((w1.alloc (.cells #[.int .u8 10, .int .u8 0, .int .u8 0, .int .u8 1] 27)).alloc (.cells #[.int .u8 10, .int .u8 0, .int .u8 0, .int .u8 2] 27)) W → W.heap[w1.heap.size]? = some (.cells #[.int .u8 10, .int .u8 0, .int .u8 0, .int .u8 1] 27 (0, 0)) ∧ W.heap[w1.heap.size + 1]? = some (.cells #[.int .u8 10, .int .u8 0, .int .u8 0, .int .u8 2] 27 (0, 0))) := Lib.hid fun W hk => ⟨(hk.block _ (Array.getElem?_eq_some_iff.1 ra).1).trans ra, (hk.block _ (Array.getElem?_eq_some_iff.1 rb).1).trans rb⟩
  have hs2 : ((w1.alloc (.cells #[.int .u8 10, .int .u8 0, .int .u8 0, .int .u8 1] 27)).alloc (.cells #[.int .u8 10, .int .u8 0, .int .u8 0, .int .u8 2] 27)).heap.size = w1.heap.size + 2 := by simp
  clear hk1 ra rb
  go_wp2_with (refine lld_row (by rfl) (.tmp 3) _ _ rfl rfl (HRP.out _ HK2.out) Try.underlying43 rfl szGram ?_)
  generalize ((w1.alloc (.cells #[.int .u8 10, .int .u8 0, .int .u8 0, .int .u8 1] 27)).alloc (.cells #[.int .u8 10, .int .u8 0, .int .u8 0, .int .u8 2] 27)) = w2 at HK2 KR hs2 ⊢
  generalize hq7 : w1.heap.size = b7 at KR hs2 hsz1 ⊢
  clear hq7 z7
  have HB0 := Lib.hid (gbytes_right [10, 0, 0, 1] [10, 0, 0, 2] rfl rfl sp dp l f1 f2 (by rw [HL.out]; omega))
  have hgl := gbytes_len [10, 0, 0, 1] [10, 0, 0, 2] sp dp l
  rw [HL.out] at hgl
  refine (b8g_ok _ sp dp A n c l 10 0 0 1 10 0 0 2 f1 f2 (by omega) (HA.out.keep HK2.out)).mono ?_
  rintro e w3 ⟨hk3, g, cap, rfl, hown⟩
  obtain ⟨N, hN⟩ : ∃ N, 8 + n = N := ⟨_, rfl⟩
  rw [hN] at hown hgl ⊢
  have hN2 : N ≤ 908 := by omega
  have hN3 : 8 ≤ N := by omega
  obtain ⟨pb, hpb⟩ : ∃ pb, gbytes [10, 0, 0, 1] [10, 0, 0, 2] sp dp l = pb := ⟨_, rfl⟩
  have hown' : OwnV 5 w3 w2.heap.size g N cap (bvs pb) := by rw [← hpb]; exact hown
  have HB : Hid (GRight [10, 0, 0, 1] [10, 0, 0, 2] sp dp l pb) := Lib.hid (by rw [← hpb]; exact HB0.out)
  rw [hpb] at hgl
  have HK3 := Lib.hid hk3
  have HO : Hid (Rd w3 w2.heap.size (some ⟨g, 0, none⟩) N pb) := Lib.hid hown'.rd
  have HOS := Lib.hid hown'.slOk
  have HGL := Lib.hid hgl
  clear hk3 hown hown' hN hpb f1 f2 HA HL HB0 hgl
  obtain ⟨u, hu⟩ := mod_u64 at_
  obtain ⟨i, hi⟩ : ∃ i, u % N = i := ⟨_, rfl⟩
  have hiN : i < N := by rw [← hi]; exact Nat.mod_lt _ (by omega)
  have hu2 : (u : Int).tmod (N : Int) = (i : Int) := by rw [Int.tmod_eq_emod_of_nonneg (by omega), ← Int.natCast_emod, hi]
  obtain ⟨j, hj⟩ : ∃ j, u % 4 = j := ⟨_, rfl⟩
  have hj4 : j < 4 := by omega
  have hu3 : (u : Int).tmod 4 = (j : Int) := by rw [Int.tmod_eq_emod_of_nonneg (by omega)]; omega
  have hj4' : (j : Int) < 4 := by omega
  have hN64 := wrap_u64n N (by omega)
  have hN0 : ((N : Int) == 0) = false := by rw [beq_eq_false_iff_ne]; omega
  have hN0' : ¬ (N : Int) = 0 := by omega
  have hi3 : (i : Int) < (N : Int) := by omega
  clear hi hj
  have own0 : OwnV 5 (w3.alloc (.cells #[] 5)) w3.heap.size w3.heap.size 0 0 (bvs []) := OwnV.lit (vs := []) rfl (Nat.le_refl _) rfl (by decide)
  have hk30 : Kp w3 (w3.alloc (.cells #[] 5)) := (Kp.refl _).alloc _
  have HO0 := Lib.hid (HO.out.lo0.keep hk30)
  by_cases hi45 : i = 4 ∨ i = 5
  · have hc : ((i : Int) == 4) = true ∨ (((i : Int) == 4) = false ∧ ((i : Int) == 5) = true) := by
      rcases hi45 with h | h
      · left; rw [h]; rfl
      · right; rw [h]; exact ⟨rfl, rfl⟩
    clear hi45
    rcases hc with c4 | ⟨c4, c5⟩
    all_goals
      go_wp2_with (at_builtin; refine app8 (by rfl) (.tmp 42) (.tmp 43) rfl rfl rfl own0 HO0.out N pb (by omega) rfl (by omega) hk30.size ?_; intro g1 cap1 w4 own1 gr1 at1; have hk34 := hk30.grown gr1 own0.lo_le; have HK34 := Lib.hid hk34; clear gr1 at1 hk34 own1)
      go_ret
      exact ⟨rfl, HK0.out.trans (HK2.out.trans (HK3.out.trans HK34.out))⟩
  have c4 : ((i : Int) == 4) = false := by rw [beq_eq_false_iff_ne]; omega
  have c5 : ((i : Int) == 5) = false := by rw [beq_eq_false_iff_ne]; omega
  have HI45 := Lib.hid hi45
  clear hi45
  go_wp2_with (first
    | (at_builtin; refine app8 (by rfl) (.tmp 42) (.tmp 43) rfl rfl rfl own0 HO0.out N pb (by omega) rfl (by omega) hk30.size ?_; intro g1 cap1 w4 own1 gr1 at1; have hk34 := hk30.grown gr1 own0.lo_le; obtain ⟨x, hx, cx⟩ := own1.cell8 (k := i) hiN; have fz := own1.frozen i; have hxor := xor_u8 x by_; have HX := Lib.hid hx; have HK34 := Lib.hid hk34; have HOW := Lib.hid own1; clear gr1 at1 hx hk34 own1)
    | (refine lld_row (by rfl) (.tmp 7) _ _ rfl rfl (KR.out _ (HK3.out.trans (HK34.out.setCell (p := ⟨g1, i, none⟩) HOW.out.lo_le _))).1 Try.underlying27 rfl szIP ?_)
    | (refine lld_row (by rfl) (.tmp 8) _ _ rfl rfl (KR.out _ (HK3.out.trans (HK34.out.setCell (p := ⟨g1, i, none⟩) HOW.out.lo_le _))).2 Try.underlying27 rfl szIP ?_))
  have own2 := HOW.out.setb i (x ^^^ by_)
  have hk35 : Kp w3 (w4.setCell ⟨g1, i, none⟩ (.int .u8 ((x ^^^ by_).toNat : Int))) := HK34.out.setCell (p := ⟨g1, i, none⟩) HOW.out.lo_le _
  have hturn := outG_turn rfl rfl HB.out i x (x ^^^ by_) HX.out (xor_ne x by_ h0) (fun h => HI45.out (.inl h)) (fun h => HI45.out (.inr h))
  obtain ⟨z6, hz6, cz6⟩ := own2.cell8 (k := 6) (by omega)
  obtain ⟨z7, hz7, cz7⟩ := own2.cell8 (k := 7) (by omega)
  have HTN : Hid (outG [10, 0, 0, 1] [10, 0, 0, 2] (pb.set i (x ^^^ by_)) = .inl 8 ∨ (z6 = 0 ∧ z7 = 0)) := Lib.hid (by
    rcases hturn with h | ⟨h6, h7⟩
    · exact .inl h
    · rw [hz6] at h6
      rw [hz7] at h7
      injection h6 with h6
      injection h7 with h7
      exact .inr ⟨h6, h7⟩)
  have HC6 := Lib.hid cz6
  have HC7 := Lib.hid cz7
  have HK5 := Lib.hid (HK3.out.trans hk35)
  have HO5 := Lib.hid (HO.out.keep hk35)
  have hg1 : w3.heap.size ≤ g1 := HOW.out.lo_le
  have hs3 := HK3.out.size
  clear cx fz hxor own0 hk30 hk35 hturn hz6 hz7 cz6 cz7
  refine (o8_g _ 10 0 0 1 10 0 0 2 _ N cap1 _ own2.rd0 own2.slOk (by omega)).mono ?_
  clear own2 HOW HK34
  intro e w6 hpost
  have hq : ∃ m k', e = .returned (.tuple #[m, .int .i64 k']) ∧ Kp (w4.setCell ⟨g1, i, none⟩ (.int .u8 ((x ^^^ by_).toNat : Int))) w6 ∧ (k' ≠ 0 ∨ (z6 = 0 ∧ z7 = 0)) := by
    rcases hpost with ⟨k', hk0', hk', hk6, rfl⟩ | ⟨sp', dp', data', hs', _, _, _, hk6, A4, c4', rfl, _, _⟩
    · exact ⟨_, k', rfl, hk6, .inl hk0'⟩
    · rcases HTN.out with h | h
      · rw [h] at hs'; cases hs'
      · exact ⟨_, 0, rfl, hk6, .inr h⟩
  clear hpost
  obtain ⟨m6, k', rfl, hk6, hkz⟩ := hq
  have HKZ := Lib.hid hkz
  have HK6 := Lib.hid (HK5.out.trans hk6)
  have HO6 := Lib.hid (HO5.out.keep hk6)
  have HC6' := Lib.hid (hk6.cell HC6.out)
  have HC7' := Lib.hid (hk6.cell HC7.out)
  have hs6 := HK6.out.size
  obtain ⟨r7, r8⟩ := KR.out _ HK6.out
  obtain ⟨y, e0, e1, e2, e3, hy, hset, hcs, hcell⟩ := set_ips j hj4 by_
  have cj : w6.cell? ⟨b7, j, none⟩ = some (.int .u8 (y.toNat : Int)) := (cell_of_row _ _ j _ _ _ r7).trans hcell
  have fj : w6.frozen? ⟨b7, j, none⟩ = false := by simp only [World.frozen?, r7]; rfl
  have hxj := xor_u8 y by_
  have r7' := row_setCell r7 j (.int .u8 ((y ^^^ by_).toNat : Int))
  rw [hcs] at r7'
  have r8' := (Below.heap_setCell w6 ⟨b7, j, none⟩ (.int .u8 ((y ^^^ by_).toNat : Int)) (b7 + 1) (by show b7 + 1 ≠ b7; omega)).trans r8
  have HO8 := Lib.hid (HO6.out.setCell (a := ⟨b7, j, none⟩) (by show b7 < w2.heap.size; omega) (.int .u8 ((y ^^^ by_).toNat : Int)))
  have HK8 : Hid (Kp (w.alloc (.cells #[.int .u16 (sp : Int), .int .u16 (dp : Int), .slice A n c] 43)) (w6.setCell ⟨b7, j, none⟩ (.int .u8 ((y ^^^ by_).toNat : Int)))) := Lib.hid ((HK2.out.trans HK6.out).setCell (p := ⟨b7, j, none⟩) hsz1 _)
  have D6 : (w6.setCell ⟨b7, j, none⟩ (.int .u8 ((y ^^^ by_).toNat : Int))).cell? ⟨g1, 6, none⟩ = some (.int .u8 (z6.toNat : Int)) := by
    rw [World.cell?_setCell_other _ _ _ _ (fun h => by injection h; omega)]; exact HC6'.out
  have D7 : (w6.setCell ⟨b7, j, none⟩ (.int .u8 ((y ^^^ by_).toNat : Int))).cell? ⟨g1, 7, none⟩ = some (.int .u8 (z7.toNat : Int)) := by
    rw [World.cell?_setCell_other _ _ _ _ (fun h => by injection h; omega)]; exact HC7'.out
  have HD6 := Lib.hid D6
  have HD7 := Lib.hid D7
  have hko8 := outG_host HB.out j y (y ^^^ by_) hy (xor_ne y by_ h0)
  rw [hset] at hko8
  have HKO8 := Lib.hid hko8
  have R7 := Lib.hid r7'
  have R8 := Lib.hid r8'
  clear r7 r8 r7' r8' hko8 hcell hcs hset hy hk6 HO6 HO5 D6 D7 hkz HC6 HC7 HC6' HC7' HTN
  go_wp2_with (first | (refine lld_row (by rfl) (.tmp 7) _ _ rfl rfl R7.out Try.underlying27 rfl szIP ?_) | (refine lld_row (by rfl) (.tmp 8) _ _ rfl rfl R8.out Try.underlying27 rfl szIP ?_))
  simp only [← UInt8.toNat_xor]
  generalize w6.setCell ⟨b7, j, none⟩ (.int .u8 ((y ^^^ by_).toNat : Int)) = w8 at R7 R8 HO8 HK8 HD6 HD7 ⊢
  refine (o8_g _ e0 e1 e2 e3 10 0 0 2 _ N cap pb HO8.out.lo0 HOS.out (by omega)).mono ?_
  have hko8 := HKO8.out
  rintro e w9 (⟨k8, _, hk8, hk9, rfl⟩ | ⟨_, _, _, hs', _⟩)
  · rw [hko8] at hk8
    cases hk8
    have HK9 := Lib.hid (HK8.out.trans hk9)
    have d6 := hk9.cell HD6.out
    have d7 := hk9.cell HD7.out
    clear hk9 cj fj hxj
    rcases HKZ.out with hz | ⟨rfl, rfl⟩
    · have hz' : (k' != 0) = true := by simpa using hz
      clear hz
      go_wp2
      go_ret
      exact ⟨rfl, HK0.out.trans HK9.out⟩
    · by_cases hz : k' = 0
      · subst hz
        go_wp2
        go_ret
        exact ⟨rfl, HK0.out.trans HK9.out⟩
      · have hz' : (k' != 0) = true := by simpa using hz
        clear hz
        go_wp2
        go_ret
        exact ⟨rfl, HK0.out.trans HK9.out⟩
  · rw [hko8] at hs'; cases hs'

set_option maxRecDepth 100000 in
set_option maxHeartbeats 4000000 in
theorem turned8_walk (w : World) (sp dp : Nat) (A : Option Addr) (n c : Nat) (l : List UInt8) (at_ : Int) (by_ : UInt8) (hb : sp ≤ 65535 ∧ dp ≤ 65535) (hA : Rd w 0 A n l) (_hok : SlOk A n c) :
    Calls Try.prog 6 #[.agg #[.int .u16 (sp : Int), .int .u16 (dp : Int), .slice A n c], .int .i64 at_, .int .u8 (by_.toNat : Int)] w fun e w' => e = .returned (.bool true) ∧ Kp w w' := by
  by_cases hA' : ¬ 900 < n ∧ by_ ≠ 0
  · exact turned8_main w sp dp A n c l at_ by_ hb hA hA'.1 hA'.2
  have hK0 : Kp w (w.alloc (.cells #[.int .u16 (sp : Int), .int .u16 (dp : Int), .slice A n c] 43)) := (Kp.refl w).alloc _
  have HK0 := Lib.hid hK0
  have HRP : Hid (∀ W, Kp (w.alloc (.cells #[.int .u16 (sp : Int), .int .u16 (dp : Int), .slice A n c] 43)) W → W.heap[w.heap.size]? = some (.cells #[.int .u16 (sp : Int), .int .u16 (dp : Int), .slice A n c] 43 (0, 0))) := Lib.hid fun W hk => (hk.block _ (by simp)).trans (heap_alloc_new w _)
  clear hK0 hA
  by_cases h : 900 < n
  · go_enter Try.func6, Try.ntmps6
    go_wp2_with (first | (go_at_call 10; refine (lives8_any _).mono ?_; rintro e w1 ⟨rfl, hk⟩; try have hcell : w1.cell? ⟨w.heap.size, 2, none⟩ = some (.slice A n c) := (cell_of_row w1 _ 2 _ _ _ (HRP.out _ hk)).trans rfl))
    all_goals go_ret
    all_goals exact ⟨rfl, (HK0.out.trans (by assumption)).trans hk⟩
  obtain rfl : by_ = 0 := Decidable.byContradiction fun h0 => hA' ⟨h, h0⟩
  clear hA'
  go_enter Try.func6, Try.ntmps6
  go_wp2_with (first | (go_at_call 10; refine (lives8_any _).mono ?_; rintro e w1 ⟨rfl, hk⟩; try have hcell : w1.cell? ⟨w.heap.size, 2, none⟩ = some (.slice A n c) := (cell_of_row w1 _ 2 _ _ _ (HRP.out _ hk)).trans rfl))
  all_goals go_ret
  all_goals exact ⟨rfl, (HK0.out.trans (by assumption)).trans hk⟩
end Go.Proofs.Ytpjjanbcjkdciaa
