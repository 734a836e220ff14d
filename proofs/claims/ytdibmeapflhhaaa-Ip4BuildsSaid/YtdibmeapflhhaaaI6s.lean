/-
  The contract of the document's Build for packets.
-/
import Derived.Test.YtdibmeapflhhaaaI6b0
import Derived.Test.YtdibmeapflhhaaaI6c
namespace Go.Proofs.Ytdibmeapflhhaaa
open Go.RowKit

set_option maxRecDepth 100000 in
set_option maxHeartbeats 1000000 in
theorem r6build_bad (w : World) (id : Nat) (more : Bool) (off : Int) (ttl proto s0 s1 s2 s3 d0 d1 d2 d3 : UInt8) (A : Option Addr) (n c : Nat) (hbad : pktBad off more n) (ho : -9223372036854775808 ≤ off ∧ off ≤ 9223372036854775807) :
    Calls Try.prog 24 #[.agg #[.int .u16 (id : Int), .bool more, .int .i64 off, .int .u8 (ttl.toNat : Int), .int .u8 (proto.toNat : Int), .int .u8 (s0.toNat : Int), .int .u8 (s1.toNat : Int), .int .u8 (s2.toNat : Int), .int .u8 (s3.toNat : Int), .int .u8 (d0.toNat : Int), .int .u8 (d1.toNat : Int), .int .u8 (d2.toNat : Int), .int .u8 (d3.toNat : Int), .slice A n c]] w
      fun e w' => e = .returned (.tuple #[.string ByteArray.empty, .int .i64 1]) ∧ Kp w w' := by
  have cases4 : off < 0 ∨ (0 ≤ off ∧ 65528 < off) ∨ (0 ≤ off ∧ off ≤ 65528 ∧ off % 8 ≠ 0) ∨ (0 ≤ off ∧ off % 8 = 0 ∧ off ≤ 65528 ∧ more = true ∧ n % 8 ≠ 0) := by
    by_cases g1 : off < 0
    · exact .inl g1
    by_cases g3 : 65528 < off
    · exact .inr (.inl ⟨by omega, g3⟩)
    by_cases g2 : off % 8 = 0
    · rcases hbad with h | h | h | ⟨h, h'⟩
      · exact absurd h g1
      · exact absurd h g3
      · exact absurd g2 h
      · exact .inr (.inr (.inr ⟨by omega, g2, by omega, h, h'⟩))
    · exact .inr (.inr (.inl ⟨by omega, by omega, g2⟩))
  clear hbad
  rcases cases4 with h | ⟨h, h2⟩ | ⟨h, h2, h3⟩ | ⟨h, h2, h3, rfl, h4⟩
  · go_enter Try.func24, Try.ntmps24
    go_wp2
    go_ret2
    exact ⟨rfl, (Kp.refl _).alloc _⟩
  · go_enter Try.func24, Try.ntmps24
    go_wp2
    go_ret2
    exact ⟨rfl, (Kp.refl _).alloc _⟩
  · have e : (off.tmod 8 != 0) = true := by rw [Int.tmod_eq_emod_of_nonneg h]; simpa using h3
    go_enter Try.func24, Try.ntmps24
    go_wp2
    go_ret2
    exact ⟨rfl, (Kp.refl _).alloc _⟩
  · have e : (off.tmod 8 != 0) = false := by rw [Int.tmod_eq_emod_of_nonneg h]; simpa using h2
    have e2 : ((n : Int) % 8 != 0) = true := by simp; omega
    go_enter Try.func24, Try.ntmps24
    go_wp2
    go_ret2
    exact ⟨rfl, (Kp.refl _).alloc _⟩

set_option maxRecDepth 100000 in
set_option maxHeartbeats 1000000 in
theorem r6build_long (w : World) (id : Nat) (more : Bool) (pl : Nat) (ttl proto s0 s1 s2 s3 d0 d1 d2 d3 : UInt8) (A : Option Addr) (n c : Nat) (hpl : pl < 8192) (hm : more = true → n % 8 = 0) (hn : 180 < n) :
    Calls Try.prog 24 #[.agg #[.int .u16 (id : Int), .bool more, .int .i64 (8 * (pl : Int)), .int .u8 (ttl.toNat : Int), .int .u8 (proto.toNat : Int), .int .u8 (s0.toNat : Int), .int .u8 (s1.toNat : Int), .int .u8 (s2.toNat : Int), .int .u8 (s3.toNat : Int), .int .u8 (d0.toNat : Int), .int .u8 (d1.toNat : Int), .int .u8 (d2.toNat : Int), .int .u8 (d3.toNat : Int), .slice A n c]] w
      fun e w' => e = .returned (.tuple #[.string ByteArray.empty, .int .i64 4]) ∧ Kp w w' := by
  have e : ((8 * (pl : Int)).tmod 8 != 0) = false := by rw [Int.tmod_eq_emod_of_nonneg (by omega)]; simp
  have e1 : ¬ 8 * (pl : Int) < 0 := by omega
  have e3 : ¬ 65528 < 8 * (pl : Int) := by omega
  cases more
  · go_enter Try.func24, Try.ntmps24
    go_wp2
    go_ret2
    exact ⟨rfl, (Kp.refl _).alloc _⟩
  · have e2 : ((n : Int) % 8 != 0) = false := by have := hm rfl; simp; omega
    go_enter Try.func24, Try.ntmps24
    go_wp2
    go_ret2
    exact ⟨rfl, (Kp.refl _).alloc _⟩

noncomputable def r6cphi (w : World) (ttl proto : UInt8) (id n c N P : Nat) (A : Option Addr) (F : List UInt8) : Nat → St := fun i => ([St.val (.pointer (some ⟨w.heap.size, 13, none⟩)),
  St.val (.slice A n c),
  St.val (.int .i64 (n : Int)),
  St.val (.int .i64 (N : Int)),
  St.val (.string (str (wd2 N))),
  St.val (.string (str (69 :: 0 :: wd2 N))),
  St.val (.pointer (some ⟨w.heap.size, 0, none⟩)),
  St.val (.int .u16 (id : Int)),
  St.val (.int .i64 (id : Int)),
  St.val (.string (str (wd2 id))),
  St.val (.string (str (69 :: 0 :: (wd2 N ++ wd2 id)))),
  St.val (.int .i64 (P : Int)),
  St.val (.string (str (wd2 P))),
  St.val (.string (str (69 :: 0 :: (wd2 N ++ (wd2 id ++ wd2 P))))),
  St.val (.pointer (some ⟨w.heap.size, 3, none⟩)),
  St.val (.int .u8 (ttl.toNat : Int)),
  St.val (.pointer (some ⟨w.heap.size, 4, none⟩)),
  St.val (.int .u8 (proto.toNat : Int)),
  St.rd 2 [ttl, proto],
  St.val (.string (str [ttl, proto])),
  St.val (.string (str F)),
  St.val (.string (str F))] : List St).getD i St.any

noncomputable def r6dphi (w : World) (s0 s1 s2 s3 d0 d1 d2 d3 : UInt8) : Nat → St := fun i => ([St.val (.pointer (some ⟨w.heap.size, 5, none⟩)),
  St.val (.agg #[.int .u8 (s0.toNat : Int), .int .u8 (s1.toNat : Int), .int .u8 (s2.toNat : Int), .int .u8 (s3.toNat : Int)]),
  St.val (.string (str [s0, s1, s2, s3])),
  St.val (.pointer (some ⟨w.heap.size, 9, none⟩)),
  St.val (.agg #[.int .u8 (d0.toNat : Int), .int .u8 (d1.toNat : Int), .int .u8 (d2.toNat : Int), .int .u8 (d3.toNat : Int)]),
  St.val (.string (str [d0, d1, d2, d3])),
  St.val (.string (str [s0, s1, s2, s3, d0, d1, d2, d3])),
  St.val (.string (str [s0, s1, s2, s3, d0, d1, d2, d3]))] : List St).getD i St.any

noncomputable def r6ephi (w : World) (s0 s1 s2 s3 d0 d1 d2 d3 : UInt8) (n c S : Nat) (A : Option Addr) (F l : List UInt8) : Nat → St := fun i => ([St.val (.string (str F)),
  St.val (.string (str F)),
  St.val (.string (str (F ++ [0, 0]))),
  St.val (.string (str [s0, s1, s2, s3, d0, d1, d2, d3])),
  St.val (.string (str (F ++ [0, 0, s0, s1, s2, s3, d0, d1, d2, d3]))),
  St.val (.int .u16 (S : Int)),
  St.val (.int .i64 (S : Int)),
  St.val (.string (str (wd2 S))),
  St.val (.string (str (F ++ wd2 S))),
  St.val (.string (str [s0, s1, s2, s3, d0, d1, d2, d3])),
  St.val (.string (str (F ++ (wd2 S ++ [s0, s1, s2, s3, d0, d1, d2, d3])))),
  St.val (.pointer (some ⟨w.heap.size, 13, none⟩)),
  St.val (.slice A n c),
  St.val (.string (str l)),
  St.val (.string (str (F ++ (wd2 S ++ s0 :: s1 :: s2 :: s3 :: d0 :: d1 :: d2 :: d3 :: l)))),
  St.val (.string (str (F ++ (wd2 S ++ s0 :: s1 :: s2 :: s3 :: d0 :: d1 :: d2 :: d3 :: l)))),
  St.val (.int .i64 0)] : List St).getD i St.any

set_option maxRecDepth 100000 in
set_option maxHeartbeats 4000000 in
theorem r6build_ok (w : World) (id : Nat) (more : Bool) (pl : Nat) (ttl proto s0 s1 s2 s3 d0 d1 d2 d3 : UInt8) (A : Option Addr) (n c : Nat) (l : List UInt8) (hid : id ≤ 65535) (hpl : pl < 8192) (hm : more = true → n % 8 = 0) (hn : n ≤ 180) (hA : Rd w 0 A n l) :
    Calls Try.prog 24 #[.agg #[.int .u16 (id : Int), .bool more, .int .i64 (8 * (pl : Int)), .int .u8 (ttl.toNat : Int), .int .u8 (proto.toNat : Int), .int .u8 (s0.toNat : Int), .int .u8 (s1.toNat : Int), .int .u8 (s2.toNat : Int), .int .u8 (s3.toNat : Int), .int .u8 (d0.toNat : Int), .int .u8 (d1.toNat : Int), .int .u8 (d2.toNat : Int), .int .u8 (d3.toNat : Int), .slice A n c]] w
      fun e w' => e = .returned (.tuple #[.string (str (pbytes id (placeOf pl more) ttl proto [s0, s1, s2, s3] [d0, d1, d2, d3] l)), .int .i64 0]) ∧ Kp w w' := by
  have e : ((8 * (pl : Int)).tmod 8 != 0) = false := by rw [Int.tmod_eq_emod_of_nonneg (by omega)]; simp
  have e1 : ¬ 8 * (pl : Int) < 0 := by omega
  have e3 : ¬ 65528 < 8 * (pl : Int) := by omega
  have e4 : (8 * (pl : Int)).tdiv 8 = (pl : Int) := by rw [Int.tdiv_eq_ediv_of_nonneg (by omega)]; omega
  have e2 : more = true → ((n : Int) % 8 != 0) = false := fun h => by have := hm h; simp; omega
  have hl := hA.len
  have HA := Lib.hid hA
  clear hA
  have hKB : Kp w (w.alloc (.cells #[.int .u16 (id : Int), .bool more, .int .i64 (8 * (pl : Int)), .int .u8 (ttl.toNat : Int), .int .u8 (proto.toNat : Int), .int .u8 (s0.toNat : Int), .int .u8 (s1.toNat : Int), .int .u8 (s2.toNat : Int), .int .u8 (s3.toNat : Int), .int .u8 (d0.toNat : Int), .int .u8 (d1.toNat : Int), .int .u8 (d2.toNat : Int), .int .u8 (d3.toNat : Int), .slice A n c] 50)) := (Kp.refl _).alloc _
  have HKB := Lib.hid hKB
  have hKX : Kp (w.alloc (.cells #[.int .u16 (id : Int), .bool more, .int .i64 (8 * (pl : Int)), .int .u8 (ttl.toNat : Int), .int .u8 (proto.toNat : Int), .int .u8 (s0.toNat : Int), .int .u8 (s1.toNat : Int), .int .u8 (s2.toNat : Int), .int .u8 (s3.toNat : Int), .int .u8 (d0.toNat : Int), .int .u8 (d1.toNat : Int), .int .u8 (d2.toNat : Int), .int .u8 (d3.toNat : Int), .slice A n c] 50)) (w.alloc (.cells #[.int .u16 (id : Int), .bool more, .int .i64 (8 * (pl : Int)), .int .u8 (ttl.toNat : Int), .int .u8 (proto.toNat : Int), .int .u8 (s0.toNat : Int), .int .u8 (s1.toNat : Int), .int .u8 (s2.toNat : Int), .int .u8 (s3.toNat : Int), .int .u8 (d0.toNat : Int), .int .u8 (d1.toNat : Int), .int .u8 (d2.toNat : Int), .int .u8 (d3.toNat : Int), .slice A n c] 50)) := Kp.refl _
  have HKX := Lib.hid hKX
  clear hKB hKX
  have KS : ∀ w' : World, Kp (w.alloc (.cells #[.int .u16 (id : Int), .bool more, .int .i64 (8 * (pl : Int)), .int .u8 (ttl.toNat : Int), .int .u8 (proto.toNat : Int), .int .u8 (s0.toNat : Int), .int .u8 (s1.toNat : Int), .int .u8 (s2.toNat : Int), .int .u8 (s3.toNat : Int), .int .u8 (d0.toNat : Int), .int .u8 (d1.toNat : Int), .int .u8 (d2.toNat : Int), .int .u8 (d3.toNat : Int), .slice A n c] 50)) w' → (w'.cell? ⟨w.heap.size, 0, none⟩ = some (.int .u16 (id : Int)) ∧ w'.cell? ⟨w.heap.size, 1, none⟩ = some (.bool more) ∧ w'.cell? ⟨w.heap.size, 2, none⟩ = some (.int .i64 (8 * (pl : Int))) ∧ w'.cell? ⟨w.heap.size, 3, none⟩ = some (.int .u8 (ttl.toNat : Int)) ∧ w'.cell? ⟨w.heap.size, 4, none⟩ = some (.int .u8 (proto.toNat : Int)) ∧ w'.cell? ⟨w.heap.size, 5, none⟩ = some (.int .u8 (s0.toNat : Int)) ∧ w'.cell? ⟨w.heap.size, 6, none⟩ = some (.int .u8 (s1.toNat : Int)) ∧ w'.cell? ⟨w.heap.size, 7, none⟩ = some (.int .u8 (s2.toNat : Int)) ∧ w'.cell? ⟨w.heap.size, 8, none⟩ = some (.int .u8 (s3.toNat : Int)) ∧ w'.cell? ⟨w.heap.size, 9, none⟩ = some (.int .u8 (d0.toNat : Int)) ∧ w'.cell? ⟨w.heap.size, 10, none⟩ = some (.int .u8 (d1.toNat : Int)) ∧ w'.cell? ⟨w.heap.size, 11, none⟩ = some (.int .u8 (d2.toNat : Int)) ∧ w'.cell? ⟨w.heap.size, 12, none⟩ = some (.int .u8 (d3.toNat : Int)) ∧ w'.cell? ⟨w.heap.size, 13, none⟩ = some (.slice A n c)) := by
    intro w' hk
    refine ⟨?_, ?_, ?_, ?_, ?_, ?_, ?_, ?_, ?_, ?_, ?_, ?_, ?_, ?_⟩
    all_goals
      refine hk.cell ?_
      rw [cell_new]
      rfl
  have hwl : ∀ x, (wd2 x).length = 2 := fun _ => rfl
  have hap := str_append
  have hsz := str_size
  have c69 : ({ data := #[69, 0] } : ByteArray) = str [69, 0] := rfl
  have c00 : ({ data := #[0, 0] } : ByteArray) = str [0, 0] := rfl
  obtain ⟨P, hP⟩ : ∃ P, placeOf pl more = P := ⟨_, rfl⟩
  have hP1 : more = false → P = pl := by intro h; subst h; rw [← hP]; rfl
  have hP2 : more = true → P = pl + 8192 := by intro h; subst h; rw [← hP]; rfl
  have hP3 : P ≤ 65535 := by cases more <;> simp at hP1 hP2 <;> omega
  obtain ⟨N, hN⟩ : ∃ N, 20 + n = N := ⟨_, rfl⟩
  obtain ⟨F, hF⟩ : ∃ F, pfront N id P ttl proto = F := ⟨_, rfl⟩
  have hFL : F.length = 10 := by rw [← hF]; rfl
  obtain ⟨S, hS⟩ : ∃ S, psum N id P ttl proto [s0, s1, s2, s3] [d0, d1, d2, d3] = S := ⟨_, rfl⟩
  have hpb : pbytes id P ttl proto [s0, s1, s2, s3] [d0, d1, d2, d3] l = F ++ (wd2 S ++ s0 :: s1 :: s2 :: s3 :: d0 :: d1 :: d2 :: d3 :: l) := by unfold pbytes; rw [hl, hN, hF, hS]; simp
  have hS2 : 65535 - Ck.ck (F ++ [0, 0, s0, s1, s2, s3, d0, d1, d2, d3]) = S := by rw [← hF, ← hS]; rfl
  have hS3 : S ≤ 65535 := by omega
  have RS : Hid (∀ W, Calls Try.prog 39 #[.string (str (F ++ [0, 0, s0, s1, s2, s3, d0, d1, d2, d3]))] W fun e w' => e = .returned (.int .u16 (S : Int)) ∧ W = w') := Lib.hid fun W => by
    have := rsum_any W (str (F ++ [0, 0, s0, s1, s2, s3, d0, d1, d2, d3])) (by rw [str_size]; simp [hFL])
    rw [str_list, hS2] at this; exact this
  rw [hP, hpb]
  have hF' : 69 :: 0 :: (wd2 N ++ (wd2 id ++ (wd2 P ++ [ttl, proto]))) = F := by rw [← hF]; simp [pfront]
  have hov : ¬ 9223372036854775807 < 20 + n := by omega
  have n20 : (20 : Int) + (n : Int) = (N : Int) := by omega
  have hN2 : N ≤ 200 := by omega
  have hn180 : ¬ (180 : Int) < (n : Int) := by omega
  have u1 : IntKind.i64.wrap (N : Int) = (N : Int) := by rw [IntKind.wrap_i64]; omega
  have u2 : IntKind.i64.wrap (P : Int) = (P : Int) := by rw [IntKind.wrap_i64]; omega
  have u3 : IntKind.i64.wrap (pl : Int) = (pl : Int) := by rw [IntKind.wrap_i64]; omega
  have u4 : IntKind.i64.wrap (id : Int) = (id : Int) := by rw [IntKind.wrap_i64]; omega
  have u5 : IntKind.i64.wrap (S : Int) = (S : Int) := by rw [IntKind.wrap_i64]; omega
  clear hF hS hS2 hpb hP hN
  cases more
  · obtain rfl := hP1 rfl
    clear hP1 hP2 e2 hm
    go_enter Try.func24, Try.ntmps24
    go_wp2_with fail
    refine wp_region_steps (by kernel_rfl) 22 (r6cphi w ttl proto id n c N P A F) [43, 44, 45, 46, 47, 48, 49, 50, 51, 52, 53, 54, 55, 56, 57, 58, 59, 60, 61, 62, 63, 5] (by kernel_rfl) (by kernel_rfl) ⟨?_, ?_, ?_, ?_, ?_, ?_, ?_, ?_, ?_, ?_, ?_, ?_, ?_, ?_, ?_, ?_, ?_, ?_, ?_, ?_, ?_, ?_, trivial⟩ ?_
    · intro a W hW hO hφ K hK
      have q1 : a.tmps.getD 1 undef = (.pointer (some ⟨w.heap.size, 0, none⟩)) := hO 1 (by kernel_rfl)
      have r1 := q1
      rw [Array.getD_eq_getD_getElem?] at r1
      clear hO hφ
      clear KS
      go_simp
      exact hK _ _ (Kp.refl _) rfl
    · intro a W hW hO hφ K hK
      have q43 : a.tmps.getD 43 undef = (.pointer (some ⟨w.heap.size, 13, none⟩)) := hφ ⟨0, .data⟩ (by simp) rfl
      have r43 := q43
      rw [Array.getD_eq_getD_getElem?] at r43
      clear hO hφ
      obtain ⟨k0, k1, k2, k3, k4, m0, m1, m2, m3, j0, j1, j2, j3, k13⟩ := KS W (HKX.out.trans (Kp.trans ((Kp.refl _).drew) hW))
      clear KS
      go_simp
      exact hK _ _ (Kp.refl _) rfl
    · intro a W hW hO hφ K hK
      have q44 : a.tmps.getD 44 undef = (.slice A n c) := hφ ⟨1, .data⟩ (by simp) rfl
      have r44 := q44
      rw [Array.getD_eq_getD_getElem?] at r44
      clear hO hφ
      clear KS
      go_simp
      exact hK _ _ (Kp.refl _) rfl
    · intro a W hW hO hφ K hK
      have q45 : a.tmps.getD 45 undef = (.int .i64 (n : Int)) := hφ ⟨2, .data⟩ (by simp) rfl
      have r45 := q45
      rw [Array.getD_eq_getD_getElem?] at r45
      clear hO hφ
      clear KS
      go_simp
      exact hK _ _ (Kp.refl _) rfl
    · intro a W hW hO hφ K hK
      have q46 : a.tmps.getD 46 undef = (.int .i64 (N : Int)) := hφ ⟨3, .data⟩ (by simp) rfl
      have r46 := q46
      rw [Array.getD_eq_getD_getElem?] at r46
      clear hO hφ
      clear KS
      go_simp
      go_at_call 37
      refine (word_any _ N (by omega)).mono ?_
      rintro e w' ⟨rfl, hk⟩
      exact hK _ _ hk rfl
    · intro a W hW hO hφ K hK
      have q47 : a.tmps.getD 47 undef = (.string (str (wd2 N))) := hφ ⟨4, .data⟩ (by simp) rfl
      have r47 := q47
      rw [Array.getD_eq_getD_getElem?] at r47
      clear hO hφ
      clear KS
      go_simp
      exact hK _ _ (Kp.refl _) rfl
    · intro a W hW hO hφ K hK
      have q1 : a.tmps.getD 1 undef = (.pointer (some ⟨w.heap.size, 0, none⟩)) := hO 1 (by kernel_rfl)
      have r1 := q1
      rw [Array.getD_eq_getD_getElem?] at r1
      clear hO hφ
      clear KS
      go_simp
      exact hK _ _ (Kp.refl _) rfl
    · intro a W hW hO hφ K hK
      have q49 : a.tmps.getD 49 undef = (.pointer (some ⟨w.heap.size, 0, none⟩)) := hφ ⟨6, .data⟩ (by simp) rfl
      have r49 := q49
      rw [Array.getD_eq_getD_getElem?] at r49
      clear hO hφ
      obtain ⟨k0, k1, k2, k3, k4, m0, m1, m2, m3, j0, j1, j2, j3, k13⟩ := KS W (HKX.out.trans (Kp.trans ((Kp.refl _).drew) hW))
      clear KS
      go_simp
      exact hK _ _ (Kp.refl _) rfl
    · intro a W hW hO hφ K hK
      have q50 : a.tmps.getD 50 undef = (.int .u16 (id : Int)) := hφ ⟨7, .data⟩ (by simp) rfl
      have r50 := q50
      rw [Array.getD_eq_getD_getElem?] at r50
      clear hO hφ
      clear KS
      go_simp
      exact hK _ _ (Kp.refl _) rfl
    · intro a W hW hO hφ K hK
      have q51 : a.tmps.getD 51 undef = (.int .i64 (id : Int)) := hφ ⟨8, .data⟩ (by simp) rfl
      have r51 := q51
      rw [Array.getD_eq_getD_getElem?] at r51
      clear hO hφ
      clear KS
      go_simp
      go_at_call 37
      refine (word_any _ id (by omega)).mono ?_
      rintro e w' ⟨rfl, hk⟩
      exact hK _ _ hk rfl
    · intro a W hW hO hφ K hK
      have q48 : a.tmps.getD 48 undef = (.string (str (69 :: 0 :: wd2 N))) := hφ ⟨5, .data⟩ (by simp) rfl
      have q52 : a.tmps.getD 52 undef = (.string (str (wd2 id))) := hφ ⟨9, .data⟩ (by simp) rfl
      have r48 := q48
      rw [Array.getD_eq_getD_getElem?] at r48
      have r52 := q52
      rw [Array.getD_eq_getD_getElem?] at r52
      clear hO hφ
      clear KS
      go_simp
      exact hK _ _ (Kp.refl _) rfl
    · intro a W hW hO hφ K hK
      have q4 : a.tmps.getD 4 undef = (.int .i64 (P : Int)) := hO 4 (by kernel_rfl)
      have r4 := q4
      rw [Array.getD_eq_getD_getElem?] at r4
      clear hO hφ
      clear KS
      go_simp
      exact hK _ _ (Kp.refl _) rfl
    · intro a W hW hO hφ K hK
      have q54 : a.tmps.getD 54 undef = (.int .i64 (P : Int)) := hφ ⟨11, .data⟩ (by simp) rfl
      have r54 := q54
      rw [Array.getD_eq_getD_getElem?] at r54
      clear hO hφ
      clear KS
      go_simp
      go_at_call 37
      refine (word_any _ P (by omega)).mono ?_
      rintro e w' ⟨rfl, hk⟩
      exact hK _ _ hk rfl
    · intro a W hW hO hφ K hK
      have q53 : a.tmps.getD 53 undef = (.string (str (69 :: 0 :: (wd2 N ++ wd2 id)))) := hφ ⟨10, .data⟩ (by simp) rfl
      have q55 : a.tmps.getD 55 undef = (.string (str (wd2 P))) := hφ ⟨12, .data⟩ (by simp) rfl
      have r53 := q53
      rw [Array.getD_eq_getD_getElem?] at r53
      have r55 := q55
      rw [Array.getD_eq_getD_getElem?] at r55
      clear hO hφ
      clear KS
      go_simp
      exact hK _ _ (Kp.refl _) rfl
    · intro a W hW hO hφ K hK
      have q1 : a.tmps.getD 1 undef = (.pointer (some ⟨w.heap.size, 0, none⟩)) := hO 1 (by kernel_rfl)
      have r1 := q1
      rw [Array.getD_eq_getD_getElem?] at r1
      clear hO hφ
      clear KS
      go_simp
      exact hK _ _ (Kp.refl _) rfl
    · intro a W hW hO hφ K hK
      have q57 : a.tmps.getD 57 undef = (.pointer (some ⟨w.heap.size, 3, none⟩)) := hφ ⟨14, .data⟩ (by simp) rfl
      have r57 := q57
      rw [Array.getD_eq_getD_getElem?] at r57
      clear hO hφ
      obtain ⟨k0, k1, k2, k3, k4, m0, m1, m2, m3, j0, j1, j2, j3, k13⟩ := KS W (HKX.out.trans (Kp.trans ((Kp.refl _).drew) hW))
      clear KS
      go_simp
      exact hK _ _ (Kp.refl _) rfl
    · intro a W hW hO hφ K hK
      have q1 : a.tmps.getD 1 undef = (.pointer (some ⟨w.heap.size, 0, none⟩)) := hO 1 (by kernel_rfl)
      have r1 := q1
      rw [Array.getD_eq_getD_getElem?] at r1
      clear hO hφ
      clear KS
      go_simp
      exact hK _ _ (Kp.refl _) rfl
    · intro a W hW hO hφ K hK
      have q59 : a.tmps.getD 59 undef = (.pointer (some ⟨w.heap.size, 4, none⟩)) := hφ ⟨16, .data⟩ (by simp) rfl
      have r59 := q59
      rw [Array.getD_eq_getD_getElem?] at r59
      clear hO hφ
      obtain ⟨k0, k1, k2, k3, k4, m0, m1, m2, m3, j0, j1, j2, j3, k13⟩ := KS W (HKX.out.trans (Kp.trans ((Kp.refl _).drew) hW))
      clear KS
      go_simp
      exact hK _ _ (Kp.refl _) rfl
    · intro a W hW hO hφ K hK
      have q58 : a.tmps.getD 58 undef = (.int .u8 (ttl.toNat : Int)) := hφ ⟨15, .data⟩ (by simp) rfl
      have q60 : a.tmps.getD 60 undef = (.int .u8 (proto.toNat : Int)) := hφ ⟨17, .data⟩ (by simp) rfl
      have r58 := q58
      rw [Array.getD_eq_getD_getElem?] at r58
      have r60 := q60
      rw [Array.getD_eq_getD_getElem?] at r60
      clear hO hφ
      clear KS
      go_simp
      exact hK _ _ ((Kp.refl _).alloc _) ⟨_, _, rfl, rd_lit rfl (Nat.zero_le _) rfl rfl⟩
    · intro a W hW hO hφ K hK
      have q61 : (St.rd 2 [ttl, proto]).p (a.tmps.getD 61 undef) W := hφ ⟨18, .data⟩ (by simp) rfl
      clear hO hφ
      clear KS
      obtain ⟨A1, c1, q61', hr⟩ := q61
      have cv := conv_str (P := Try.prog) (c := c1) Try.underlying25 Try.underlying5 Try.underlying9 hr
      go_simp
      exact hK _ _ (Kp.refl _) rfl
    · intro a W hW hO hφ K hK
      have q56 : a.tmps.getD 56 undef = (.string (str (69 :: 0 :: (wd2 N ++ (wd2 id ++ wd2 P))))) := hφ ⟨13, .data⟩ (by simp) rfl
      have q62 : a.tmps.getD 62 undef = (.string (str [ttl, proto])) := hφ ⟨19, .data⟩ (by simp) rfl
      have r56 := q56
      rw [Array.getD_eq_getD_getElem?] at r56
      have r62 := q62
      rw [Array.getD_eq_getD_getElem?] at r62
      clear hO hφ
      clear KS
      go_simp
      exact hK _ _ (Kp.refl _) rfl
    · intro a W hW hO hφ K hK
      have q63 : a.tmps.getD 63 undef = (.string (str F)) := hφ ⟨20, .data⟩ (by simp) rfl
      have r63 := q63
      rw [Array.getD_eq_getD_getElem?] at r63
      clear hO hφ
      clear KS
      go_simp
      exact hK _ _ (Kp.refl _) rfl
    intro f W hW hφ
    have v0 : f 0 = (.pointer (some ⟨w.heap.size, 13, none⟩)) := hφ 0 (by omega)
    have v1 : f 1 = (.slice A n c) := hφ 1 (by omega)
    have v2 : f 2 = (.int .i64 (n : Int)) := hφ 2 (by omega)
    have v3 : f 3 = (.int .i64 (N : Int)) := hφ 3 (by omega)
    have v4 : f 4 = (.string (str (wd2 N))) := hφ 4 (by omega)
    have v5 : f 5 = (.string (str (69 :: 0 :: wd2 N))) := hφ 5 (by omega)
    have v6 : f 6 = (.pointer (some ⟨w.heap.size, 0, none⟩)) := hφ 6 (by omega)
    have v7 : f 7 = (.int .u16 (id : Int)) := hφ 7 (by omega)
    have v8 : f 8 = (.int .i64 (id : Int)) := hφ 8 (by omega)
    have v9 : f 9 = (.string (str (wd2 id))) := hφ 9 (by omega)
    have v10 : f 10 = (.string (str (69 :: 0 :: (wd2 N ++ wd2 id)))) := hφ 10 (by omega)
    have v11 : f 11 = (.int .i64 (P : Int)) := hφ 11 (by omega)
    have v12 : f 12 = (.string (str (wd2 P))) := hφ 12 (by omega)
    have v13 : f 13 = (.string (str (69 :: 0 :: (wd2 N ++ (wd2 id ++ wd2 P))))) := hφ 13 (by omega)
    have v14 : f 14 = (.pointer (some ⟨w.heap.size, 3, none⟩)) := hφ 14 (by omega)
    have v15 : f 15 = (.int .u8 (ttl.toNat : Int)) := hφ 15 (by omega)
    have v16 : f 16 = (.pointer (some ⟨w.heap.size, 4, none⟩)) := hφ 16 (by omega)
    have v17 : f 17 = (.int .u8 (proto.toNat : Int)) := hφ 17 (by omega)
    have v18 : (St.rd 2 [ttl, proto]).p (f 18) W := hφ 18 (by omega)
    have v19 : f 19 = (.string (str [ttl, proto])) := hφ 19 (by omega)
    have v20 : f 20 = (.string (str F)) := hφ 20 (by omega)
    have v21 : f 21 = (.string (str F)) := hφ 21 (by omega)
    clear hφ
    simp only [putAll, List.setIfInBounds_toArray, List.set_cons_succ, List.set_cons_zero, v0, v1, v2, v3, v4, v5, v6, v7, v8, v9, v10, v11, v12, v13, v14, v15, v16, v17, v19, v20, v21]
    clear v0 v1 v2 v3 v4 v5 v6 v7 v8 v9 v10 v11 v12 v13 v14 v15 v16 v17 v19 v20 v21
    refine wpAny_done (by kernel_rfl) ?_ _
    have HK8 := Lib.hid (HKX.out.trans (Kp.trans ((Kp.refl _).drew) hW))
    clear hW HKX
    have HKX := HK8
    clear HK8
    go_wp2_with fail
    refine wp_region_steps (by kernel_rfl) 8 (r6dphi w s0 s1 s2 s3 d0 d1 d2 d3) [64, 65, 66, 67, 68, 69, 70, 6] (by kernel_rfl) (by kernel_rfl) ⟨?_, ?_, ?_, ?_, ?_, ?_, ?_, ?_, trivial⟩ ?_
    · intro a W hW hO hφ K hK
      have q1 : a.tmps.getD 1 undef = (.pointer (some ⟨w.heap.size, 0, none⟩)) := hO 1 (by kernel_rfl)
      have r1 := q1
      rw [Array.getD_eq_getD_getElem?] at r1
      clear hO hφ
      clear KS
      go_simp
      exact hK _ _ (Kp.refl _) rfl
    · intro a W hW hO hφ K hK
      have q64 : a.tmps.getD 64 undef = (.pointer (some ⟨w.heap.size, 5, none⟩)) := hφ ⟨0, .data⟩ (by simp) rfl
      have r64 := q64
      rw [Array.getD_eq_getD_getElem?] at r64
      clear hO hφ
      obtain ⟨k0, k1, k2, k3, k4, m0, m1, m2, m3, j0, j1, j2, j3, k13⟩ := KS W (HKX.out.trans (Kp.trans ((Kp.refl _).drew) hW))
      clear KS
      go_simp
      exact hK _ _ (Kp.refl _) rfl
    · intro a W hW hO hφ K hK
      have q65 : a.tmps.getD 65 undef = (.agg #[.int .u8 (s0.toNat : Int), .int .u8 (s1.toNat : Int), .int .u8 (s2.toNat : Int), .int .u8 (s3.toNat : Int)]) := hφ ⟨1, .data⟩ (by simp) rfl
      have r65 := q65
      rw [Array.getD_eq_getD_getElem?] at r65
      clear hO hφ
      clear KS
      go_simp
      go_at_call 38
      refine (host6_any _ _ _ _ _).mono ?_
      rintro e w' ⟨rfl, hk⟩
      exact hK _ _ hk rfl
    · intro a W hW hO hφ K hK
      have q1 : a.tmps.getD 1 undef = (.pointer (some ⟨w.heap.size, 0, none⟩)) := hO 1 (by kernel_rfl)
      have r1 := q1
      rw [Array.getD_eq_getD_getElem?] at r1
      clear hO hφ
      clear KS
      go_simp
      exact hK _ _ (Kp.refl _) rfl
    · intro a W hW hO hφ K hK
      have q67 : a.tmps.getD 67 undef = (.pointer (some ⟨w.heap.size, 9, none⟩)) := hφ ⟨3, .data⟩ (by simp) rfl
      have r67 := q67
      rw [Array.getD_eq_getD_getElem?] at r67
      clear hO hφ
      obtain ⟨k0, k1, k2, k3, k4, m0, m1, m2, m3, j0, j1, j2, j3, k13⟩ := KS W (HKX.out.trans (Kp.trans ((Kp.refl _).drew) hW))
      clear KS
      go_simp
      exact hK _ _ (Kp.refl _) rfl
    · intro a W hW hO hφ K hK
      have q68 : a.tmps.getD 68 undef = (.agg #[.int .u8 (d0.toNat : Int), .int .u8 (d1.toNat : Int), .int .u8 (d2.toNat : Int), .int .u8 (d3.toNat : Int)]) := hφ ⟨4, .data⟩ (by simp) rfl
      have r68 := q68
      rw [Array.getD_eq_getD_getElem?] at r68
      clear hO hφ
      clear KS
      go_simp
      go_at_call 38
      refine (host6_any _ _ _ _ _).mono ?_
      rintro e w' ⟨rfl, hk⟩
      exact hK _ _ hk rfl
    · intro a W hW hO hφ K hK
      have q66 : a.tmps.getD 66 undef = (.string (str [s0, s1, s2, s3])) := hφ ⟨2, .data⟩ (by simp) rfl
      have q69 : a.tmps.getD 69 undef = (.string (str [d0, d1, d2, d3])) := hφ ⟨5, .data⟩ (by simp) rfl
      have r66 := q66
      rw [Array.getD_eq_getD_getElem?] at r66
      have r69 := q69
      rw [Array.getD_eq_getD_getElem?] at r69
      clear hO hφ
      clear KS
      go_simp
      exact hK _ _ (Kp.refl _) rfl
    · intro a W hW hO hφ K hK
      have q70 : a.tmps.getD 70 undef = (.string (str [s0, s1, s2, s3, d0, d1, d2, d3])) := hφ ⟨6, .data⟩ (by simp) rfl
      have r70 := q70
      rw [Array.getD_eq_getD_getElem?] at r70
      clear hO hφ
      clear KS
      go_simp
      exact hK _ _ (Kp.refl _) rfl
    intro f W hW hφ
    have v0 : f 0 = (.pointer (some ⟨w.heap.size, 5, none⟩)) := hφ 0 (by omega)
    have v1 : f 1 = (.agg #[.int .u8 (s0.toNat : Int), .int .u8 (s1.toNat : Int), .int .u8 (s2.toNat : Int), .int .u8 (s3.toNat : Int)]) := hφ 1 (by omega)
    have v2 : f 2 = (.string (str [s0, s1, s2, s3])) := hφ 2 (by omega)
    have v3 : f 3 = (.pointer (some ⟨w.heap.size, 9, none⟩)) := hφ 3 (by omega)
    have v4 : f 4 = (.agg #[.int .u8 (d0.toNat : Int), .int .u8 (d1.toNat : Int), .int .u8 (d2.toNat : Int), .int .u8 (d3.toNat : Int)]) := hφ 4 (by omega)
    have v5 : f 5 = (.string (str [d0, d1, d2, d3])) := hφ 5 (by omega)
    have v6 : f 6 = (.string (str [s0, s1, s2, s3, d0, d1, d2, d3])) := hφ 6 (by omega)
    have v7 : f 7 = (.string (str [s0, s1, s2, s3, d0, d1, d2, d3])) := hφ 7 (by omega)
    clear hφ
    simp only [putAll, List.setIfInBounds_toArray, List.set_cons_succ, List.set_cons_zero, v0, v1, v2, v3, v4, v5, v6, v7]
    clear v0 v1 v2 v3 v4 v5 v6 v7
    refine wpAny_done (by kernel_rfl) ?_ _
    have HK8 := Lib.hid (HKX.out.trans (Kp.trans ((Kp.refl _).drew) hW))
    have HKW := Lib.hid (HKB.out.trans HK8.out)
    clear hW HKX
    have HKX := HK8
    clear HK8
    go_wp2_with fail
    refine wp_region_steps (by kernel_rfl) 17 (r6ephi w s0 s1 s2 s3 d0 d1 d2 d3 n c S A F l) [71, 72, 73, 74, 75, 76, 77, 78, 79, 80, 81, 82, 83, 84, 85, 2, 3] (by kernel_rfl) (by kernel_rfl) ⟨?_, ?_, ?_, ?_, ?_, ?_, ?_, ?_, ?_, ?_, ?_, ?_, ?_, ?_, ?_, ?_, ?_, trivial⟩ ?_
    · intro a W hW hO hφ K hK
      have q5 : a.tmps.getD 5 undef = (.string (str F)) := hO 5 (by kernel_rfl)
      have r5 := q5
      rw [Array.getD_eq_getD_getElem?] at r5
      clear hO hφ
      clear KS
      go_simp
      exact hK _ _ (Kp.refl _) rfl
    · intro a W hW hO hφ K hK
      have q5 : a.tmps.getD 5 undef = (.string (str F)) := hO 5 (by kernel_rfl)
      have r5 := q5
      rw [Array.getD_eq_getD_getElem?] at r5
      clear hO hφ
      clear KS
      go_simp
      exact hK _ _ (Kp.refl _) rfl
    · intro a W hW hO hφ K hK
      have q72 : a.tmps.getD 72 undef = (.string (str F)) := hφ ⟨1, .data⟩ (by simp) rfl
      have r72 := q72
      rw [Array.getD_eq_getD_getElem?] at r72
      clear hO hφ
      clear KS
      go_simp
      exact hK _ _ (Kp.refl _) rfl
    · intro a W hW hO hφ K hK
      have q6 : a.tmps.getD 6 undef = (.string (str [s0, s1, s2, s3, d0, d1, d2, d3])) := hO 6 (by kernel_rfl)
      have r6 := q6
      rw [Array.getD_eq_getD_getElem?] at r6
      clear hO hφ
      clear KS
      go_simp
      exact hK _ _ (Kp.refl _) rfl
    · intro a W hW hO hφ K hK
      have q73 : a.tmps.getD 73 undef = (.string (str (F ++ [0, 0]))) := hφ ⟨2, .data⟩ (by simp) rfl
      have q74 : a.tmps.getD 74 undef = (.string (str [s0, s1, s2, s3, d0, d1, d2, d3])) := hφ ⟨3, .data⟩ (by simp) rfl
      have r73 := q73
      rw [Array.getD_eq_getD_getElem?] at r73
      have r74 := q74
      rw [Array.getD_eq_getD_getElem?] at r74
      clear hO hφ
      clear KS
      go_simp
      exact hK _ _ (Kp.refl _) rfl
    · intro a W hW hO hφ K hK
      have q75 : a.tmps.getD 75 undef = (.string (str (F ++ [0, 0, s0, s1, s2, s3, d0, d1, d2, d3]))) := hφ ⟨4, .data⟩ (by simp) rfl
      have r75 := q75
      rw [Array.getD_eq_getD_getElem?] at r75
      clear hO hφ
      clear KS
      go_simp
      go_at_call 39
      refine (RS.out _).mono ?_
      rintro e w' ⟨rfl, rfl⟩
      exact hK _ _ (Kp.refl _) rfl
    · intro a W hW hO hφ K hK
      have q76 : a.tmps.getD 76 undef = (.int .u16 (S : Int)) := hφ ⟨5, .data⟩ (by simp) rfl
      have r76 := q76
      rw [Array.getD_eq_getD_getElem?] at r76
      clear hO hφ
      clear KS
      go_simp
      exact hK _ _ (Kp.refl _) rfl
    · intro a W hW hO hφ K hK
      have q77 : a.tmps.getD 77 undef = (.int .i64 (S : Int)) := hφ ⟨6, .data⟩ (by simp) rfl
      have r77 := q77
      rw [Array.getD_eq_getD_getElem?] at r77
      clear hO hφ
      clear KS
      go_simp
      go_at_call 37
      refine (word_any _ S (by omega)).mono ?_
      rintro e w' ⟨rfl, hk⟩
      exact hK _ _ hk rfl
    · intro a W hW hO hφ K hK
      have q71 : a.tmps.getD 71 undef = (.string (str F)) := hφ ⟨0, .data⟩ (by simp) rfl
      have q78 : a.tmps.getD 78 undef = (.string (str (wd2 S))) := hφ ⟨7, .data⟩ (by simp) rfl
      have r71 := q71
      rw [Array.getD_eq_getD_getElem?] at r71
      have r78 := q78
      rw [Array.getD_eq_getD_getElem?] at r78
      clear hO hφ
      clear KS
      go_simp
      exact hK _ _ (Kp.refl _) rfl
    · intro a W hW hO hφ K hK
      have q6 : a.tmps.getD 6 undef = (.string (str [s0, s1, s2, s3, d0, d1, d2, d3])) := hO 6 (by kernel_rfl)
      have r6 := q6
      rw [Array.getD_eq_getD_getElem?] at r6
      clear hO hφ
      clear KS
      go_simp
      exact hK _ _ (Kp.refl _) rfl
    · intro a W hW hO hφ K hK
      have q79 : a.tmps.getD 79 undef = (.string (str (F ++ wd2 S))) := hφ ⟨8, .data⟩ (by simp) rfl
      have q80 : a.tmps.getD 80 undef = (.string (str [s0, s1, s2, s3, d0, d1, d2, d3])) := hφ ⟨9, .data⟩ (by simp) rfl
      have r79 := q79
      rw [Array.getD_eq_getD_getElem?] at r79
      have r80 := q80
      rw [Array.getD_eq_getD_getElem?] at r80
      clear hO hφ
      clear KS
      go_simp
      exact hK _ _ (Kp.refl _) rfl
    · intro a W hW hO hφ K hK
      have q1 : a.tmps.getD 1 undef = (.pointer (some ⟨w.heap.size, 0, none⟩)) := hO 1 (by kernel_rfl)
      have r1 := q1
      rw [Array.getD_eq_getD_getElem?] at r1
      clear hO hφ
      clear KS
      go_simp
      exact hK _ _ (Kp.refl _) rfl
    · intro a W hW hO hφ K hK
      have q82 : a.tmps.getD 82 undef = (.pointer (some ⟨w.heap.size, 13, none⟩)) := hφ ⟨11, .data⟩ (by simp) rfl
      have r82 := q82
      rw [Array.getD_eq_getD_getElem?] at r82
      clear hO hφ
      obtain ⟨k0, k1, k2, k3, k4, m0, m1, m2, m3, j0, j1, j2, j3, k13⟩ := KS W (HKX.out.trans (Kp.trans ((Kp.refl _).drew) hW))
      clear KS
      go_simp
      exact hK _ _ (Kp.refl _) rfl
    · intro a W hW hO hφ K hK
      have q83 : a.tmps.getD 83 undef = (.slice A n c) := hφ ⟨12, .data⟩ (by simp) rfl
      have r83 := q83
      rw [Array.getD_eq_getD_getElem?] at r83
      clear hO hφ
      clear KS
      have cv := conv_str (P := Try.prog) (c := c) Try.underlying25 Try.underlying5 Try.underlying9 (HA.out.keep (HKW.out.trans (Kp.trans ((Kp.refl _).drew) hW)))
      go_simp
      exact hK _ _ (Kp.refl _) rfl
    · intro a W hW hO hφ K hK
      have q81 : a.tmps.getD 81 undef = (.string (str (F ++ (wd2 S ++ [s0, s1, s2, s3, d0, d1, d2, d3])))) := hφ ⟨10, .data⟩ (by simp) rfl
      have q84 : a.tmps.getD 84 undef = (.string (str l)) := hφ ⟨13, .data⟩ (by simp) rfl
      have r81 := q81
      rw [Array.getD_eq_getD_getElem?] at r81
      have r84 := q84
      rw [Array.getD_eq_getD_getElem?] at r84
      clear hO hφ
      clear KS
      go_simp
      exact hK _ _ (Kp.refl _) rfl
    · intro a W hW hO hφ K hK
      have q85 : a.tmps.getD 85 undef = (.string (str (F ++ (wd2 S ++ s0 :: s1 :: s2 :: s3 :: d0 :: d1 :: d2 :: d3 :: l)))) := hφ ⟨14, .data⟩ (by simp) rfl
      have r85 := q85
      rw [Array.getD_eq_getD_getElem?] at r85
      clear hO hφ
      clear KS
      go_simp
      exact hK _ _ (Kp.refl _) rfl
    · intro a W hW hO hφ K hK
      clear hO hφ
      clear KS
      go_simp
      exact hK _ _ (Kp.refl _) rfl
    intro f W hW hφ
    have v0 : f 0 = (.string (str F)) := hφ 0 (by omega)
    have v1 : f 1 = (.string (str F)) := hφ 1 (by omega)
    have v2 : f 2 = (.string (str (F ++ [0, 0]))) := hφ 2 (by omega)
    have v3 : f 3 = (.string (str [s0, s1, s2, s3, d0, d1, d2, d3])) := hφ 3 (by omega)
    have v4 : f 4 = (.string (str (F ++ [0, 0, s0, s1, s2, s3, d0, d1, d2, d3]))) := hφ 4 (by omega)
    have v5 : f 5 = (.int .u16 (S : Int)) := hφ 5 (by omega)
    have v6 : f 6 = (.int .i64 (S : Int)) := hφ 6 (by omega)
    have v7 : f 7 = (.string (str (wd2 S))) := hφ 7 (by omega)
    have v8 : f 8 = (.string (str (F ++ wd2 S))) := hφ 8 (by omega)
    have v9 : f 9 = (.string (str [s0, s1, s2, s3, d0, d1, d2, d3])) := hφ 9 (by omega)
    have v10 : f 10 = (.string (str (F ++ (wd2 S ++ [s0, s1, s2, s3, d0, d1, d2, d3])))) := hφ 10 (by omega)
    have v11 : f 11 = (.pointer (some ⟨w.heap.size, 13, none⟩)) := hφ 11 (by omega)
    have v12 : f 12 = (.slice A n c) := hφ 12 (by omega)
    have v13 : f 13 = (.string (str l)) := hφ 13 (by omega)
    have v14 : f 14 = (.string (str (F ++ (wd2 S ++ s0 :: s1 :: s2 :: s3 :: d0 :: d1 :: d2 :: d3 :: l)))) := hφ 14 (by omega)
    have v15 : f 15 = (.string (str (F ++ (wd2 S ++ s0 :: s1 :: s2 :: s3 :: d0 :: d1 :: d2 :: d3 :: l)))) := hφ 15 (by omega)
    have v16 : f 16 = (.int .i64 0) := hφ 16 (by omega)
    clear hφ
    simp only [putAll, List.setIfInBounds_toArray, List.set_cons_succ, List.set_cons_zero, v0, v1, v2, v3, v4, v5, v6, v7, v8, v9, v10, v11, v12, v13, v14, v15, v16]
    clear v0 v1 v2 v3 v4 v5 v6 v7 v8 v9 v10 v11 v12 v13 v14 v15 v16
    refine wpAny_done (by kernel_rfl) ?_ _
    go_wp2
    go_ret2
    exact ⟨rfl, HKW.out.trans (Kp.trans ((Kp.refl _).drew) hW)⟩

  · have p8 : (pl : Int) + 8192 = (P : Int) := by have := hP2 rfl; omega
    have e2' := e2 rfl
    clear hP1 hP2 e2 hm
    go_enter Try.func24, Try.ntmps24
    go_wp2_with fail
    refine wp_region_steps (by kernel_rfl) 22 (r6cphi w ttl proto id n c N P A F) [43, 44, 45, 46, 47, 48, 49, 50, 51, 52, 53, 54, 55, 56, 57, 58, 59, 60, 61, 62, 63, 5] (by kernel_rfl) (by kernel_rfl) ⟨?_, ?_, ?_, ?_, ?_, ?_, ?_, ?_, ?_, ?_, ?_, ?_, ?_, ?_, ?_, ?_, ?_, ?_, ?_, ?_, ?_, ?_, trivial⟩ ?_
    · intro a W hW hO hφ K hK
      have q1 : a.tmps.getD 1 undef = (.pointer (some ⟨w.heap.size, 0, none⟩)) := hO 1 (by kernel_rfl)
      have r1 := q1
      rw [Array.getD_eq_getD_getElem?] at r1
      clear hO hφ
      clear KS
      go_simp
      exact hK _ _ (Kp.refl _) rfl
    · intro a W hW hO hφ K hK
      have q43 : a.tmps.getD 43 undef = (.pointer (some ⟨w.heap.size, 13, none⟩)) := hφ ⟨0, .data⟩ (by simp) rfl
      have r43 := q43
      rw [Array.getD_eq_getD_getElem?] at r43
      clear hO hφ
      obtain ⟨k0, k1, k2, k3, k4, m0, m1, m2, m3, j0, j1, j2, j3, k13⟩ := KS W (HKX.out.trans (Kp.trans ((Kp.refl _).drew) hW))
      clear KS
      go_simp
      exact hK _ _ (Kp.refl _) rfl
    · intro a W hW hO hφ K hK
      have q44 : a.tmps.getD 44 undef = (.slice A n c) := hφ ⟨1, .data⟩ (by simp) rfl
      have r44 := q44
      rw [Array.getD_eq_getD_getElem?] at r44
      clear hO hφ
      clear KS
      go_simp
      exact hK _ _ (Kp.refl _) rfl
    · intro a W hW hO hφ K hK
      have q45 : a.tmps.getD 45 undef = (.int .i64 (n : Int)) := hφ ⟨2, .data⟩ (by simp) rfl
      have r45 := q45
      rw [Array.getD_eq_getD_getElem?] at r45
      clear hO hφ
      clear KS
      go_simp
      exact hK _ _ (Kp.refl _) rfl
    · intro a W hW hO hφ K hK
      have q46 : a.tmps.getD 46 undef = (.int .i64 (N : Int)) := hφ ⟨3, .data⟩ (by simp) rfl
      have r46 := q46
      rw [Array.getD_eq_getD_getElem?] at r46
      clear hO hφ
      clear KS
      go_simp
      go_at_call 37
      refine (word_any _ N (by omega)).mono ?_
      rintro e w' ⟨rfl, hk⟩
      exact hK _ _ hk rfl
    · intro a W hW hO hφ K hK
      have q47 : a.tmps.getD 47 undef = (.string (str (wd2 N))) := hφ ⟨4, .data⟩ (by simp) rfl
      have r47 := q47
      rw [Array.getD_eq_getD_getElem?] at r47
      clear hO hφ
      clear KS
      go_simp
      exact hK _ _ (Kp.refl _) rfl
    · intro a W hW hO hφ K hK
      have q1 : a.tmps.getD 1 undef = (.pointer (some ⟨w.heap.size, 0, none⟩)) := hO 1 (by kernel_rfl)
      have r1 := q1
      rw [Array.getD_eq_getD_getElem?] at r1
      clear hO hφ
      clear KS
      go_simp
      exact hK _ _ (Kp.refl _) rfl
    · intro a W hW hO hφ K hK
      have q49 : a.tmps.getD 49 undef = (.pointer (some ⟨w.heap.size, 0, none⟩)) := hφ ⟨6, .data⟩ (by simp) rfl
      have r49 := q49
      rw [Array.getD_eq_getD_getElem?] at r49
      clear hO hφ
      obtain ⟨k0, k1, k2, k3, k4, m0, m1, m2, m3, j0, j1, j2, j3, k13⟩ := KS W (HKX.out.trans (Kp.trans ((Kp.refl _).drew) hW))
      clear KS
      go_simp
      exact hK _ _ (Kp.refl _) rfl
    · intro a W hW hO hφ K hK
      have q50 : a.tmps.getD 50 undef = (.int .u16 (id : Int)) := hφ ⟨7, .data⟩ (by simp) rfl
      have r50 := q50
      rw [Array.getD_eq_getD_getElem?] at r50
      clear hO hφ
      clear KS
      go_simp
      exact hK _ _ (Kp.refl _) rfl
    · intro a W hW hO hφ K hK
      have q51 : a.tmps.getD 51 undef = (.int .i64 (id : Int)) := hφ ⟨8, .data⟩ (by simp) rfl
      have r51 := q51
      rw [Array.getD_eq_getD_getElem?] at r51
      clear hO hφ
      clear KS
      go_simp
      go_at_call 37
      refine (word_any _ id (by omega)).mono ?_
      rintro e w' ⟨rfl, hk⟩
      exact hK _ _ hk rfl
    · intro a W hW hO hφ K hK
      have q48 : a.tmps.getD 48 undef = (.string (str (69 :: 0 :: wd2 N))) := hφ ⟨5, .data⟩ (by simp) rfl
      have q52 : a.tmps.getD 52 undef = (.string (str (wd2 id))) := hφ ⟨9, .data⟩ (by simp) rfl
      have r48 := q48
      rw [Array.getD_eq_getD_getElem?] at r48
      have r52 := q52
      rw [Array.getD_eq_getD_getElem?] at r52
      clear hO hφ
      clear KS
      go_simp
      exact hK _ _ (Kp.refl _) rfl
    · intro a W hW hO hφ K hK
      have q4 : a.tmps.getD 4 undef = (.int .i64 (P : Int)) := hO 4 (by kernel_rfl)
      have r4 := q4
      rw [Array.getD_eq_getD_getElem?] at r4
      clear hO hφ
      clear KS
      go_simp
      exact hK _ _ (Kp.refl _) rfl
    · intro a W hW hO hφ K hK
      have q54 : a.tmps.getD 54 undef = (.int .i64 (P : Int)) := hφ ⟨11, .data⟩ (by simp) rfl
      have r54 := q54
      rw [Array.getD_eq_getD_getElem?] at r54
      clear hO hφ
      clear KS
      go_simp
      go_at_call 37
      refine (word_any _ P (by omega)).mono ?_
      rintro e w' ⟨rfl, hk⟩
      exact hK _ _ hk rfl
    · intro a W hW hO hφ K hK
      have q53 : a.tmps.getD 53 undef = (.string (str (69 :: 0 :: (wd2 N ++ wd2 id)))) := hφ ⟨10, .data⟩ (by simp) rfl
      have q55 : a.tmps.getD 55 undef = (.string (str (wd2 P))) := hφ ⟨12, .data⟩ (by simp) rfl
      have r53 := q53
      rw [Array.getD_eq_getD_getElem?] at r53
      have r55 := q55
      rw [Array.getD_eq_getD_getElem?] at r55
      clear hO hφ
      clear KS
      go_simp
      exact hK _ _ (Kp.refl _) rfl
    · intro a W hW hO hφ K hK
      have q1 : a.tmps.getD 1 undef = (.pointer (some ⟨w.heap.size, 0, none⟩)) := hO 1 (by kernel_rfl)
      have r1 := q1
      rw [Array.getD_eq_getD_getElem?] at r1
      clear hO hφ
      clear KS
      go_simp
      exact hK _ _ (Kp.refl _) rfl
    · intro a W hW hO hφ K hK
      have q57 : a.tmps.getD 57 undef = (.pointer (some ⟨w.heap.size, 3, none⟩)) := hφ ⟨14, .data⟩ (by simp) rfl
      have r57 := q57
      rw [Array.getD_eq_getD_getElem?] at r57
      clear hO hφ
      obtain ⟨k0, k1, k2, k3, k4, m0, m1, m2, m3, j0, j1, j2, j3, k13⟩ := KS W (HKX.out.trans (Kp.trans ((Kp.refl _).drew) hW))
      clear KS
      go_simp
      exact hK _ _ (Kp.refl _) rfl
    · intro a W hW hO hφ K hK
      have q1 : a.tmps.getD 1 undef = (.pointer (some ⟨w.heap.size, 0, none⟩)) := hO 1 (by kernel_rfl)
      have r1 := q1
      rw [Array.getD_eq_getD_getElem?] at r1
      clear hO hφ
      clear KS
      go_simp
      exact hK _ _ (Kp.refl _) rfl
    · intro a W hW hO hφ K hK
      have q59 : a.tmps.getD 59 undef = (.pointer (some ⟨w.heap.size, 4, none⟩)) := hφ ⟨16, .data⟩ (by simp) rfl
      have r59 := q59
      rw [Array.getD_eq_getD_getElem?] at r59
      clear hO hφ
      obtain ⟨k0, k1, k2, k3, k4, m0, m1, m2, m3, j0, j1, j2, j3, k13⟩ := KS W (HKX.out.trans (Kp.trans ((Kp.refl _).drew) hW))
      clear KS
      go_simp
      exact hK _ _ (Kp.refl _) rfl
    · intro a W hW hO hφ K hK
      have q58 : a.tmps.getD 58 undef = (.int .u8 (ttl.toNat : Int)) := hφ ⟨15, .data⟩ (by simp) rfl
      have q60 : a.tmps.getD 60 undef = (.int .u8 (proto.toNat : Int)) := hφ ⟨17, .data⟩ (by simp) rfl
      have r58 := q58
      rw [Array.getD_eq_getD_getElem?] at r58
      have r60 := q60
      rw [Array.getD_eq_getD_getElem?] at r60
      clear hO hφ
      clear KS
      go_simp
      exact hK _ _ ((Kp.refl _).alloc _) ⟨_, _, rfl, rd_lit rfl (Nat.zero_le _) rfl rfl⟩
    · intro a W hW hO hφ K hK
      have q61 : (St.rd 2 [ttl, proto]).p (a.tmps.getD 61 undef) W := hφ ⟨18, .data⟩ (by simp) rfl
      clear hO hφ
      clear KS
      obtain ⟨A1, c1, q61', hr⟩ := q61
      have cv := conv_str (P := Try.prog) (c := c1) Try.underlying25 Try.underlying5 Try.underlying9 hr
      go_simp
      exact hK _ _ (Kp.refl _) rfl
    · intro a W hW hO hφ K hK
      have q56 : a.tmps.getD 56 undef = (.string (str (69 :: 0 :: (wd2 N ++ (wd2 id ++ wd2 P))))) := hφ ⟨13, .data⟩ (by simp) rfl
      have q62 : a.tmps.getD 62 undef = (.string (str [ttl, proto])) := hφ ⟨19, .data⟩ (by simp) rfl
      have r56 := q56
      rw [Array.getD_eq_getD_getElem?] at r56
      have r62 := q62
      rw [Array.getD_eq_getD_getElem?] at r62
      clear hO hφ
      clear KS
      go_simp
      exact hK _ _ (Kp.refl _) rfl
    · intro a W hW hO hφ K hK
      have q63 : a.tmps.getD 63 undef = (.string (str F)) := hφ ⟨20, .data⟩ (by simp) rfl
      have r63 := q63
      rw [Array.getD_eq_getD_getElem?] at r63
      clear hO hφ
      clear KS
      go_simp
      exact hK _ _ (Kp.refl _) rfl
    intro f W hW hφ
    have v0 : f 0 = (.pointer (some ⟨w.heap.size, 13, none⟩)) := hφ 0 (by omega)
    have v1 : f 1 = (.slice A n c) := hφ 1 (by omega)
    have v2 : f 2 = (.int .i64 (n : Int)) := hφ 2 (by omega)
    have v3 : f 3 = (.int .i64 (N : Int)) := hφ 3 (by omega)
    have v4 : f 4 = (.string (str (wd2 N))) := hφ 4 (by omega)
    have v5 : f 5 = (.string (str (69 :: 0 :: wd2 N))) := hφ 5 (by omega)
    have v6 : f 6 = (.pointer (some ⟨w.heap.size, 0, none⟩)) := hφ 6 (by omega)
    have v7 : f 7 = (.int .u16 (id : Int)) := hφ 7 (by omega)
    have v8 : f 8 = (.int .i64 (id : Int)) := hφ 8 (by omega)
    have v9 : f 9 = (.string (str (wd2 id))) := hφ 9 (by omega)
    have v10 : f 10 = (.string (str (69 :: 0 :: (wd2 N ++ wd2 id)))) := hφ 10 (by omega)
    have v11 : f 11 = (.int .i64 (P : Int)) := hφ 11 (by omega)
    have v12 : f 12 = (.string (str (wd2 P))) := hφ 12 (by omega)
    have v13 : f 13 = (.string (str (69 :: 0 :: (wd2 N ++ (wd2 id ++ wd2 P))))) := hφ 13 (by omega)
    have v14 : f 14 = (.pointer (some ⟨w.heap.size, 3, none⟩)) := hφ 14 (by omega)
    have v15 : f 15 = (.int .u8 (ttl.toNat : Int)) := hφ 15 (by omega)
    have v16 : f 16 = (.pointer (some ⟨w.heap.size, 4, none⟩)) := hφ 16 (by omega)
    have v17 : f 17 = (.int .u8 (proto.toNat : Int)) := hφ 17 (by omega)
    have v18 : (St.rd 2 [ttl, proto]).p (f 18) W := hφ 18 (by omega)
    have v19 : f 19 = (.string (str [ttl, proto])) := hφ 19 (by omega)
    have v20 : f 20 = (.string (str F)) := hφ 20 (by omega)
    have v21 : f 21 = (.string (str F)) := hφ 21 (by omega)
    clear hφ
    simp only [putAll, List.setIfInBounds_toArray, List.set_cons_succ, List.set_cons_zero, v0, v1, v2, v3, v4, v5, v6, v7, v8, v9, v10, v11, v12, v13, v14, v15, v16, v17, v19, v20, v21]
    clear v0 v1 v2 v3 v4 v5 v6 v7 v8 v9 v10 v11 v12 v13 v14 v15 v16 v17 v19 v20 v21
    refine wpAny_done (by kernel_rfl) ?_ _
    have HK8 := Lib.hid (HKX.out.trans (Kp.trans ((Kp.refl _).drew) hW))
    clear hW HKX
    have HKX := HK8
    clear HK8
    go_wp2_with fail
    refine wp_region_steps (by kernel_rfl) 8 (r6dphi w s0 s1 s2 s3 d0 d1 d2 d3) [64, 65, 66, 67, 68, 69, 70, 6] (by kernel_rfl) (by kernel_rfl) ⟨?_, ?_, ?_, ?_, ?_, ?_, ?_, ?_, trivial⟩ ?_
    · intro a W hW hO hφ K hK
      have q1 : a.tmps.getD 1 undef = (.pointer (some ⟨w.heap.size, 0, none⟩)) := hO 1 (by kernel_rfl)
      have r1 := q1
      rw [Array.getD_eq_getD_getElem?] at r1
      clear hO hφ
      clear KS
      go_simp
      exact hK _ _ (Kp.refl _) rfl
    · intro a W hW hO hφ K hK
      have q64 : a.tmps.getD 64 undef = (.pointer (some ⟨w.heap.size, 5, none⟩)) := hφ ⟨0, .data⟩ (by simp) rfl
      have r64 := q64
      rw [Array.getD_eq_getD_getElem?] at r64
      clear hO hφ
      obtain ⟨k0, k1, k2, k3, k4, m0, m1, m2, m3, j0, j1, j2, j3, k13⟩ := KS W (HKX.out.trans (Kp.trans ((Kp.refl _).drew) hW))
      clear KS
      go_simp
      exact hK _ _ (Kp.refl _) rfl
    · intro a W hW hO hφ K hK
      have q65 : a.tmps.getD 65 undef = (.agg #[.int .u8 (s0.toNat : Int), .int .u8 (s1.toNat : Int), .int .u8 (s2.toNat : Int), .int .u8 (s3.toNat : Int)]) := hφ ⟨1, .data⟩ (by simp) rfl
      have r65 := q65
      rw [Array.getD_eq_getD_getElem?] at r65
      clear hO hφ
      clear KS
      go_simp
      go_at_call 38
      refine (host6_any _ _ _ _ _).mono ?_
      rintro e w' ⟨rfl, hk⟩
      exact hK _ _ hk rfl
    · intro a W hW hO hφ K hK
      have q1 : a.tmps.getD 1 undef = (.pointer (some ⟨w.heap.size, 0, none⟩)) := hO 1 (by kernel_rfl)
      have r1 := q1
      rw [Array.getD_eq_getD_getElem?] at r1
      clear hO hφ
      clear KS
      go_simp
      exact hK _ _ (Kp.refl _) rfl
    · intro a W hW hO hφ K hK
      have q67 : a.tmps.getD 67 undef = (.pointer (some ⟨w.heap.size, 9, none⟩)) := hφ ⟨3, .data⟩ (by simp) rfl
      have r67 := q67
      rw [Array.getD_eq_getD_getElem?] at r67
      clear hO hφ
      obtain ⟨k0, k1, k2, k3, k4, m0, m1, m2, m3, j0, j1, j2, j3, k13⟩ := KS W (HKX.out.trans (Kp.trans ((Kp.refl _).drew) hW))
      clear KS
      go_simp
      exact hK _ _ (Kp.refl _) rfl
    · intro a W hW hO hφ K hK
      have q68 : a.tmps.getD 68 undef = (.agg #[.int .u8 (d0.toNat : Int), .int .u8 (d1.toNat : Int), .int .u8 (d2.toNat : Int), .int .u8 (d3.toNat : Int)]) := hφ ⟨4, .data⟩ (by simp) rfl
      have r68 := q68
      rw [Array.getD_eq_getD_getElem?] at r68
      clear hO hφ
      clear KS
      go_simp
      go_at_call 38
      refine (host6_any _ _ _ _ _).mono ?_
      rintro e w' ⟨rfl, hk⟩
      exact hK _ _ hk rfl
    · intro a W hW hO hφ K hK
      have q66 : a.tmps.getD 66 undef = (.string (str [s0, s1, s2, s3])) := hφ ⟨2, .data⟩ (by simp) rfl
      have q69 : a.tmps.getD 69 undef = (.string (str [d0, d1, d2, d3])) := hφ ⟨5, .data⟩ (by simp) rfl
      have r66 := q66
      rw [Array.getD_eq_getD_getElem?] at r66
      have r69 := q69
      rw [Array.getD_eq_getD_getElem?] at r69
      clear hO hφ
      clear KS
      go_simp
      exact hK _ _ (Kp.refl _) rfl
    · intro a W hW hO hφ K hK
      have q70 : a.tmps.getD 70 undef = (.string (str [s0, s1, s2, s3, d0, d1, d2, d3])) := hφ ⟨6, .data⟩ (by simp) rfl
      have r70 := q70
      rw [Array.getD_eq_getD_getElem?] at r70
      clear hO hφ
      clear KS
      go_simp
      exact hK _ _ (Kp.refl _) rfl
    intro f W hW hφ
    have v0 : f 0 = (.pointer (some ⟨w.heap.size, 5, none⟩)) := hφ 0 (by omega)
    have v1 : f 1 = (.agg #[.int .u8 (s0.toNat : Int), .int .u8 (s1.toNat : Int), .int .u8 (s2.toNat : Int), .int .u8 (s3.toNat : Int)]) := hφ 1 (by omega)
    have v2 : f 2 = (.string (str [s0, s1, s2, s3])) := hφ 2 (by omega)
    have v3 : f 3 = (.pointer (some ⟨w.heap.size, 9, none⟩)) := hφ 3 (by omega)
    have v4 : f 4 = (.agg #[.int .u8 (d0.toNat : Int), .int .u8 (d1.toNat : Int), .int .u8 (d2.toNat : Int), .int .u8 (d3.toNat : Int)]) := hφ 4 (by omega)
    have v5 : f 5 = (.string (str [d0, d1, d2, d3])) := hφ 5 (by omega)
    have v6 : f 6 = (.string (str [s0, s1, s2, s3, d0, d1, d2, d3])) := hφ 6 (by omega)
    have v7 : f 7 = (.string (str [s0, s1, s2, s3, d0, d1, d2, d3])) := hφ 7 (by omega)
    clear hφ
    simp only [putAll, List.setIfInBounds_toArray, List.set_cons_succ, List.set_cons_zero, v0, v1, v2, v3, v4, v5, v6, v7]
    clear v0 v1 v2 v3 v4 v5 v6 v7
    refine wpAny_done (by kernel_rfl) ?_ _
    have HK8 := Lib.hid (HKX.out.trans (Kp.trans ((Kp.refl _).drew) hW))
    have HKW := Lib.hid (HKB.out.trans HK8.out)
    clear hW HKX
    have HKX := HK8
    clear HK8
    go_wp2_with fail
    refine wp_region_steps (by kernel_rfl) 17 (r6ephi w s0 s1 s2 s3 d0 d1 d2 d3 n c S A F l) [71, 72, 73, 74, 75, 76, 77, 78, 79, 80, 81, 82, 83, 84, 85, 2, 3] (by kernel_rfl) (by kernel_rfl) ⟨?_, ?_, ?_, ?_, ?_, ?_, ?_, ?_, ?_, ?_, ?_, ?_, ?_, ?_, ?_, ?_, ?_, trivial⟩ ?_
    · intro a W hW hO hφ K hK
      have q5 : a.tmps.getD 5 undef = (.string (str F)) := hO 5 (by kernel_rfl)
      have r5 := q5
      rw [Array.getD_eq_getD_getElem?] at r5
      clear hO hφ
      clear KS
      go_simp
      exact hK _ _ (Kp.refl _) rfl
    · intro a W hW hO hφ K hK
      have q5 : a.tmps.getD 5 undef = (.string (str F)) := hO 5 (by kernel_rfl)
      have r5 := q5
      rw [Array.getD_eq_getD_getElem?] at r5
      clear hO hφ
      clear KS
      go_simp
      exact hK _ _ (Kp.refl _) rfl
    · intro a W hW hO hφ K hK
      have q72 : a.tmps.getD 72 undef = (.string (str F)) := hφ ⟨1, .data⟩ (by simp) rfl
      have r72 := q72
      rw [Array.getD_eq_getD_getElem?] at r72
      clear hO hφ
      clear KS
      go_simp
      exact hK _ _ (Kp.refl _) rfl
    · intro a W hW hO hφ K hK
      have q6 : a.tmps.getD 6 undef = (.string (str [s0, s1, s2, s3, d0, d1, d2, d3])) := hO 6 (by kernel_rfl)
      have r6 := q6
      rw [Array.getD_eq_getD_getElem?] at r6
      clear hO hφ
      clear KS
      go_simp
      exact hK _ _ (Kp.refl _) rfl
    · intro a W hW hO hφ K hK
      have q73 : a.tmps.getD 73 undef = (.string (str (F ++ [0, 0]))) := hφ ⟨2, .data⟩ (by simp) rfl
      have q74 : a.tmps.getD 74 undef = (.string (str [s0, s1, s2, s3, d0, d1, d2, d3])) := hφ ⟨3, .data⟩ (by simp) rfl
      have r73 := q73
      rw [Array.getD_eq_getD_getElem?] at r73
      have r74 := q74
      rw [Array.getD_eq_getD_getElem?] at r74
      clear hO hφ
      clear KS
      go_simp
      exact hK _ _ (Kp.refl _) rfl
    · intro a W hW hO hφ K hK
      have q75 : a.tmps.getD 75 undef = (.string (str (F ++ [0, 0, s0, s1, s2, s3, d0, d1, d2, d3]))) := hφ ⟨4, .data⟩ (by simp) rfl
      have r75 := q75
      rw [Array.getD_eq_getD_getElem?] at r75
      clear hO hφ
      clear KS
      go_simp
      go_at_call 39
      refine (RS.out _).mono ?_
      rintro e w' ⟨rfl, rfl⟩
      exact hK _ _ (Kp.refl _) rfl
    · intro a W hW hO hφ K hK
      have q76 : a.tmps.getD 76 undef = (.int .u16 (S : Int)) := hφ ⟨5, .data⟩ (by simp) rfl
      have r76 := q76
      rw [Array.getD_eq_getD_getElem?] at r76
      clear hO hφ
      clear KS
      go_simp
      exact hK _ _ (Kp.refl _) rfl
    · intro a W hW hO hφ K hK
      have q77 : a.tmps.getD 77 undef = (.int .i64 (S : Int)) := hφ ⟨6, .data⟩ (by simp) rfl
      have r77 := q77
      rw [Array.getD_eq_getD_getElem?] at r77
      clear hO hφ
      clear KS
      go_simp
      go_at_call 37
      refine (word_any _ S (by omega)).mono ?_
      rintro e w' ⟨rfl, hk⟩
      exact hK _ _ hk rfl
    · intro a W hW hO hφ K hK
      have q71 : a.tmps.getD 71 undef = (.string (str F)) := hφ ⟨0, .data⟩ (by simp) rfl
      have q78 : a.tmps.getD 78 undef = (.string (str (wd2 S))) := hφ ⟨7, .data⟩ (by simp) rfl
      have r71 := q71
      rw [Array.getD_eq_getD_getElem?] at r71
      have r78 := q78
      rw [Array.getD_eq_getD_getElem?] at r78
      clear hO hφ
      clear KS
      go_simp
      exact hK _ _ (Kp.refl _) rfl
    · intro a W hW hO hφ K hK
      have q6 : a.tmps.getD 6 undef = (.string (str [s0, s1, s2, s3, d0, d1, d2, d3])) := hO 6 (by kernel_rfl)
      have r6 := q6
      rw [Array.getD_eq_getD_getElem?] at r6
      clear hO hφ
      clear KS
      go_simp
      exact hK _ _ (Kp.refl _) rfl
    · intro a W hW hO hφ K hK
      have q79 : a.tmps.getD 79 undef = (.string (str (F ++ wd2 S))) := hφ ⟨8, .data⟩ (by simp) rfl
      have q80 : a.tmps.getD 80 undef = (.string (str [s0, s1, s2, s3, d0, d1, d2, d3])) := hφ ⟨9, .data⟩ (by simp) rfl
      have r79 := q79
      rw [Array.getD_eq_getD_getElem?] at r79
      have r80 := q80
      rw [Array.getD_eq_getD_getElem?] at r80
      clear hO hφ
      clear KS
      go_simp
      exact hK _ _ (Kp.refl _) rfl
    · intro a W hW hO hφ K hK
      have q1 : a.tmps.getD 1 undef = (.pointer (some ⟨w.heap.size, 0, none⟩)) := hO 1 (by kernel_rfl)
      have r1 := q1
      rw [Array.getD_eq_getD_getElem?] at r1
      clear hO hφ
      clear KS
      go_simp
      exact hK _ _ (Kp.refl _) rfl
    · intro a W hW hO hφ K hK
      have q82 : a.tmps.getD 82 undef = (.pointer (some ⟨w.heap.size, 13, none⟩)) := hφ ⟨11, .data⟩ (by simp) rfl
      have r82 := q82
      rw [Array.getD_eq_getD_getElem?] at r82
      clear hO hφ
      obtain ⟨k0, k1, k2, k3, k4, m0, m1, m2, m3, j0, j1, j2, j3, k13⟩ := KS W (HKX.out.trans (Kp.trans ((Kp.refl _).drew) hW))
      clear KS
      go_simp
      exact hK _ _ (Kp.refl _) rfl
    · intro a W hW hO hφ K hK
      have q83 : a.tmps.getD 83 undef = (.slice A n c) := hφ ⟨12, .data⟩ (by simp) rfl
      have r83 := q83
      rw [Array.getD_eq_getD_getElem?] at r83
      clear hO hφ
      clear KS
      have cv := conv_str (P := Try.prog) (c := c) Try.underlying25 Try.underlying5 Try.underlying9 (HA.out.keep (HKW.out.trans (Kp.trans ((Kp.refl _).drew) hW)))
      go_simp
      exact hK _ _ (Kp.refl _) rfl
    · intro a W hW hO hφ K hK
      have q81 : a.tmps.getD 81 undef = (.string (str (F ++ (wd2 S ++ [s0, s1, s2, s3, d0, d1, d2, d3])))) := hφ ⟨10, .data⟩ (by simp) rfl
      have q84 : a.tmps.getD 84 undef = (.string (str l)) := hφ ⟨13, .data⟩ (by simp) rfl
      have r81 := q81
      rw [Array.getD_eq_getD_getElem?] at r81
      have r84 := q84
      rw [Array.getD_eq_getD_getElem?] at r84
      clear hO hφ
      clear KS
      go_simp
      exact hK _ _ (Kp.refl _) rfl
    · intro a W hW hO hφ K hK
      have q85 : a.tmps.getD 85 undef = (.string (str (F ++ (wd2 S ++ s0 :: s1 :: s2 :: s3 :: d0 :: d1 :: d2 :: d3 :: l)))) := hφ ⟨14, .data⟩ (by simp) rfl
      have r85 := q85
      rw [Array.getD_eq_getD_getElem?] at r85
      clear hO hφ
      clear KS
      go_simp
      exact hK _ _ (Kp.refl _) rfl
    · intro a W hW hO hφ K hK
      clear hO hφ
      clear KS
      go_simp
      exact hK _ _ (Kp.refl _) rfl
    intro f W hW hφ
    have v0 : f 0 = (.string (str F)) := hφ 0 (by omega)
    have v1 : f 1 = (.string (str F)) := hφ 1 (by omega)
    have v2 : f 2 = (.string (str (F ++ [0, 0]))) := hφ 2 (by omega)
    have v3 : f 3 = (.string (str [s0, s1, s2, s3, d0, d1, d2, d3])) := hφ 3 (by omega)
    have v4 : f 4 = (.string (str (F ++ [0, 0, s0, s1, s2, s3, d0, d1, d2, d3]))) := hφ 4 (by omega)
    have v5 : f 5 = (.int .u16 (S : Int)) := hφ 5 (by omega)
    have v6 : f 6 = (.int .i64 (S : Int)) := hφ 6 (by omega)
    have v7 : f 7 = (.string (str (wd2 S))) := hφ 7 (by omega)
    have v8 : f 8 = (.string (str (F ++ wd2 S))) := hφ 8 (by omega)
    have v9 : f 9 = (.string (str [s0, s1, s2, s3, d0, d1, d2, d3])) := hφ 9 (by omega)
    have v10 : f 10 = (.string (str (F ++ (wd2 S ++ [s0, s1, s2, s3, d0, d1, d2, d3])))) := hφ 10 (by omega)
    have v11 : f 11 = (.pointer (some ⟨w.heap.size, 13, none⟩)) := hφ 11 (by omega)
    have v12 : f 12 = (.slice A n c) := hφ 12 (by omega)
    have v13 : f 13 = (.string (str l)) := hφ 13 (by omega)
    have v14 : f 14 = (.string (str (F ++ (wd2 S ++ s0 :: s1 :: s2 :: s3 :: d0 :: d1 :: d2 :: d3 :: l)))) := hφ 14 (by omega)
    have v15 : f 15 = (.string (str (F ++ (wd2 S ++ s0 :: s1 :: s2 :: s3 :: d0 :: d1 :: d2 :: d3 :: l)))) := hφ 15 (by omega)
    have v16 : f 16 = (.int .i64 0) := hφ 16 (by omega)
    clear hφ
    simp only [putAll, List.setIfInBounds_toArray, List.set_cons_succ, List.set_cons_zero, v0, v1, v2, v3, v4, v5, v6, v7, v8, v9, v10, v11, v12, v13, v14, v15, v16]
    clear v0 v1 v2 v3 v4 v5 v6 v7 v8 v9 v10 v11 v12 v13 v14 v15 v16
    refine wpAny_done (by kernel_rfl) ?_ _
    go_wp2
    go_ret2
    exact ⟨rfl, HKW.out.trans (Kp.trans ((Kp.refl _).drew) hW)⟩

end Go.Proofs.Ytdibmeapflhhaaa
