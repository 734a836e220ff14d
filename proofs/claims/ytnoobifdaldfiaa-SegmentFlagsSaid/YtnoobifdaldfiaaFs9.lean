/-
  The contract of segment.ReadFlags: which texts are flags.
-/
import Derived.Test.YtnoobifdaldfiaaFr9
import Derived.WalkMore
import Derived.Deep.LoopGhost
namespace Go.Proofs.Ytnoobifdaldfiaa
open Go.RowKit

/-- an iterator over a string in whatever world -/
def itAt (w : World) (b : Nat) (s : ByteArray) (pos : Nat) : World := { w with heap := w.heap.setIfInBounds b (.stringIter s pos) }
theorem itAt_heap {w : World} {b : Nat} {s : ByteArray} {pos : Nat} (h : b < w.heap.size) : (itAt w b s pos).heap[b]? = some (.stringIter s pos) := by
  simp [itAt, h]
theorem itAt_other {w : World} {b k : Nat} {s : ByteArray} {pos : Nat} (h : k ≠ b) : (itAt w b s pos).heap[k]? = w.heap[k]? := by
  simp [itAt, Ne.symm h]
theorem Kp.itAt {w0 w : World} {b : Nat} {s : ByteArray} {pos : Nat} (h : Kp w0 w) (hb : w0.heap.size ≤ b) : Kp w0 (itAt w b s pos) :=
  ⟨h.os, h.tape, h.output, by simpa [Go.Proofs.Ytnoobifdaldfiaa.itAt] using h.size, fun k hk => (itAt_other (by omega)).trans (h.block k hk)⟩
theorem run_next_in {P : Program} {w : World} {b : Nat} {s : ByteArray} {pos : Nat} (hb : w.heap[b]? = some (.stringIter s pos)) (h : pos < s.size) (ty : TypeId) :
    (Instr.next (.pointer (some ⟨b, 0, none⟩)) true ty).run P w = .ok (.tuple #[.bool true, .int .i64 pos, .int .i32 (Utf8.decode s pos).1]) (itAt w b s (pos + (Utf8.decode s pos).2)) := by
  simp only [Instr.next, getObj, setObj, Sem.run_bind, Sem.run, hb, Result.andThen, h, if_true]
  simp [goInt, itAt]
theorem run_next_out {P : Program} {w : World} {b : Nat} {s : ByteArray} {pos : Nat} (hb : w.heap[b]? = some (.stringIter s pos)) (h : ¬ pos < s.size) (ty : TypeId) :
    (Instr.next (.pointer (some ⟨b, 0, none⟩)) true ty).run P w = .ok (.tuple #[.bool false]) w := by
  simp [Instr.next, getObj, Sem.run, hb, h]


theorem or_bits : ∀ f : Fin 32, bits BinOp.or IntKind.u8 ((f.val : Nat) : Int) 1 = ((f.val ||| 1 : Nat) : Int) ∧ bits BinOp.or IntKind.u8 ((f.val : Nat) : Int) 2 = ((f.val ||| 2 : Nat) : Int) ∧ bits BinOp.or IntKind.u8 ((f.val : Nat) : Int) 4 = ((f.val ||| 4 : Nat) : Int) ∧
    bits BinOp.or IntKind.u8 ((f.val : Nat) : Int) 8 = ((f.val ||| 8 : Nat) : Int) ∧ bits BinOp.or IntKind.u8 ((f.val : Nat) : Int) 16 = ((f.val ||| 16 : Nat) : Int) := by decide +kernel
theorem not_flags (l : List UInt8) (h : acc9 0 l = none) : ∀ g, g < 32 → flagsOf g ≠ l := by
  rintro g hg rfl
  have := acc_flags ⟨g, hg⟩
  simp only at this
  rw [h] at this
  cases this

set_option maxRecDepth 100000 in
set_option maxHeartbeats 4000000 in
theorem sread9_any (w : World) (l : List UInt8) (hn : l.length ≤ 65536) :
    Calls Try.prog 23 #[.string (str l)] w fun e w' => RFPost l e ∧ Kp w w' := by
  have hsz : (str l).size = l.length := str_size l
  obtain ⟨n, hln⟩ : ∃ n, l.length = n := ⟨_, rfl⟩
  have HLN := Lib.hid hln
  have HTL := Lib.hid (str_toList l)
  rw [hln] at hn hsz
  clear hln
  go_enter Try.func23, Try.ntmps23
  go_wp2
  go_step3
  go_wp2
  go_step3
  go_wp2
  go_loopg [4] n (fun g f wr => ∃ (k a : Nat), k + g = n ∧ f = .int .u8 a ∧ a < 32 ∧ acc9 a (l.drop k) = acc9 0 l ∧ Kp w wr ∧ wr.heap[w.heap.size]? = some (.stringIter (str l) k))
  case atStart => exact ⟨0, 0, by omega, rfl, by omega, by simp, (Kp.refl _).alloc _, World.iter_heap _ _ _⟩
  case round =>
    obtain ⟨k, a, hkg, rfl, ha, hacc, hkp, hit⟩ := hrel
    have HACC := Lib.hid hacc
    have HKP := Lib.hid hkp
    cases gk with
    | zero =>
      obtain rfl : k = n := by omega
      have hnx := run_next_out (P := Try.prog) hit (by rw [hsz]; omega)
      have hres : acc9 0 l = some a := by rw [← HACC.out, List.drop_eq_nil_of_le (by rw [HLN.out]; exact Nat.le_refl _)]; rfl
      have HRES := Lib.hid hres
      have FL : Hid (∀ W, Calls Try.prog 25 #[.int .u8 (a : Int)] W fun e w' => e = .returned (.string (str (flagsOf a))) ∧ Kp W w') := Lib.hid fun W => by
        have h := flags9_any W (UInt8.ofNat a)
        rw [UInt8.toNat_ofNat', Nat.mod_eq_of_lt (by omega)] at h
        exact h
      have hq := str_beq (flagsOf a) l
      clear hacc hkp hit hres
      go_wp2_with fail
      refine (FL.out _).mono ?_
      rintro e w1 ⟨rfl, hk1⟩
      have HK1 := Lib.hid (HKP.out.trans hk1)
      clear hk1
      by_cases h : flagsOf a = l
      · have HH := Lib.hid h
        rw [h] at hq ⊢
        have hq' : ((str l).toList != (str l).toList) = false := by rw [bne, hq]; simp
        clear h hq
        go_wp2
        first | go_ret2 | (rw [Exit.noGoto_ret]; go_ret2)
        exact ⟨.inl ⟨a, ha, HH.out, rfl⟩, HK1.out⟩
      · have HH := Lib.hid h
        have hq' : ((str (flagsOf a)).toList == (str l).toList) = false := by rw [hq]; simpa using h
        clear h hq
        go_wp2
        first | go_ret2 | (rw [Exit.noGoto_ret]; go_ret2)
        refine ⟨.inr ⟨?_, rfl⟩, HK1.out⟩
        rintro g hg rfl
        have h1 := acc_flags ⟨g, hg⟩
        simp only at h1
        rw [HRES.out] at h1
        injection h1 with h1
        exact HH.out (by rw [h1])
    | succ g =>
      have hkn : k < l.length := by rw [HLN.out]; omega
      obtain ⟨c, hc⟩ : ∃ c, l[k] = c := ⟨_, rfl⟩
      have hks : k < (str l).size := by rw [hsz]; omega
      have hgc : (str l)[k]'hks = c := hc
      have hnx := run_next_in (P := Try.prog) hit (by rw [hsz]; omega)
      have hdrop : l.drop k = c :: l.drop (k + 1) := by rw [List.drop_eq_getElem_cons hkn, hc]
      have hdec : (c.toNat < 128 ∧ Utf8.decode (str l) k = (c.toNat, 1)) ∨ (128 ≤ c.toNat ∧ 128 ≤ (Utf8.decode (str l) k).1) := by
        rcases Nat.lt_or_ge c.toNat 128 with h | h
        · left
          refine ⟨h, ?_⟩
          have := decode_ascii (str l) k hks (by rw [hgc]; exact h)
          rw [this, hgc]
        · exact .inr ⟨h, (decode_high (str l) k hks (by rw [hgc]; exact h)).1⟩
      have hblt : w.heap.size < wr.heap.size := (Array.getElem?_eq_some_iff.1 hit).1
      have hkn5 : Kp w (itAt wr w.heap.size (str l) (k + (Utf8.decode (str l) k).2)) := hkp.itAt (Nat.le_refl _)
      have hin5 := itAt_heap (w := wr) (s := str l) (pos := k + (Utf8.decode (str l) k).2) hblt
      have hrl := decode_le (str l) k
      obtain ⟨r, hr⟩ : ∃ r, (Utf8.decode (str l) k).1 = r := ⟨_, rfl⟩
      obtain ⟨wd, hwd⟩ : ∃ wd, (Utf8.decode (str l) k).2 = wd := ⟨_, rfl⟩
      have hcr : (c.toNat < 128 ∧ r = c.toNat ∧ wd = 1) ∨ (128 ≤ c.toNat ∧ 128 ≤ r) := by
        rcases hdec with ⟨h1, h2⟩ | ⟨h1, h2⟩
        · rw [h2] at hr hwd; exact .inl ⟨h1, hr.symm, hwd.symm⟩
        · rw [hr] at h2; exact .inr ⟨h1, h2⟩
      rw [hr, hwd] at hnx
      rw [hr] at hrl
      rw [hwd] at hkn5 hin5
      rw [hdrop] at hacc
      have HA2 := Lib.hid hacc
      have HCR := Lib.hid hcr
      clear hdec hr hwd hc hgc hdrop hacc hkp hit hblt hcr hks hkn HACC HKP
      go_wp2
      generalize itAt wr w.heap.size (str l) (k + wd) = w5 at hnx hkn5 hin5 ⊢
      have HK5 := Lib.hid hkn5
      have HI5 := Lib.hid hin5
      clear hnx hkn5 hin5
      have hlt5 := (Array.getElem?_eq_some_iff.1 HI5.out).1
      go_loopg [4] 5 (fun g' f wx => ∃ q : Nat, q + g' = 5 ∧ f = .int .u8 a ∧ wx = w5.iter lets5 q ∧ (0 < q → r ≠ 70) ∧ (1 < q → r ≠ 83) ∧ (2 < q → r ≠ 82) ∧ (3 < q → r ≠ 80) ∧ (4 < q → r ≠ 65))
      case atStart => exact ⟨0, rfl, rfl, rfl, by omega, by omega, by omega, by omega, by omega⟩
      case round =>
        obtain ⟨q, hq5, rfl, rfl, n0, n1, n2, n3, n4⟩ := hrel
        rcases (by omega : q = 0 ∨ q = 1 ∨ q = 2 ∨ q = 3 ∨ q = 4 ∨ q = 5) with rfl | rfl | rfl | rfl | rfl | rfl
        · obtain rfl : gk = 4 + 1 := by omega
          have hnx : ∀ ty, (Instr.next (.pointer (some ⟨w5.heap.size, 0, none⟩)) true ty).run Try.prog (w5.iter lets5 0) = .ok (.tuple #[.bool true, .int .i64 0, .int .i32 70]) (w5.iter lets5 1) := fun ty => run_next_ascii (P := Try.prog) w5 lets5 0 ty (by decide) (by decide)
          by_cases hr : r = 70
          · have hr' : ((70 : Int) == (r : Int)) = true := by rw [hr]; rfl
            have ob := (or_bits ⟨a, ha⟩).1
            have hst : stp a c.toNat = some (a ||| 1) := by
              rcases HCR.out with ⟨_, h, _⟩ | ⟨_, h⟩
              · rw [← h, hr]; unfold stp; simp
              · omega
            have hwd : wd = 1 := by
              rcases HCR.out with ⟨_, _, h⟩ | ⟨_, h⟩
              · exact h
              · omega
            have hlt := stp_lt a _ _ ha hst
            have HST := Lib.hid hst
            have HW := Lib.hid hwd
            obtain ⟨a', ha'⟩ : ∃ a', a ||| 1 = a' := ⟨_, rfl⟩
            simp only [ha'] at ob
            rw [ha'] at hlt HST
            clear hst hwd hr n0 n1 n2 n3 n4 ha'
            go_wp2
            go_roundg g
            case rel =>
              refine ⟨k + 1, a', by omega, rfl, hlt, ?_, HK5.out.alloc _, ?_⟩
              · have h := HA2.out
                simp only [acc9, HST.out] at h
                exact h
              · have h := HI5.out
                rw [HW.out] at h
                exact (Below.heap_alloc w5 (.stringIter lets5 1) _ hlt5).trans h
            case measure => omega
          · have hr' : ((70 : Int) == (r : Int)) = false := by rw [beq_eq_false_iff_ne]; omega
            go_wp2
            go_roundg 4
            case rel => exact ⟨1, rfl, rfl, rfl, by omega, by omega, by omega, by omega, by omega⟩
            case measure => decide
        · obtain rfl : gk = 3 + 1 := by omega
          have hnx : ∀ ty, (Instr.next (.pointer (some ⟨w5.heap.size, 0, none⟩)) true ty).run Try.prog (w5.iter lets5 1) = .ok (.tuple #[.bool true, .int .i64 1, .int .i32 83]) (w5.iter lets5 2) := fun ty => run_next_ascii (P := Try.prog) w5 lets5 1 ty (by decide) (by decide)
          by_cases hr : r = 83
          · have hr' : ((83 : Int) == (r : Int)) = true := by rw [hr]; rfl
            have ob := (or_bits ⟨a, ha⟩).2.1
            have hst : stp a c.toNat = some (a ||| 2) := by
              rcases HCR.out with ⟨_, h, _⟩ | ⟨_, h⟩
              · rw [← h, hr]; unfold stp; simp
              · omega
            have hwd : wd = 1 := by
              rcases HCR.out with ⟨_, _, h⟩ | ⟨_, h⟩
              · exact h
              · omega
            have hlt := stp_lt a _ _ ha hst
            have HST := Lib.hid hst
            have HW := Lib.hid hwd
            obtain ⟨a', ha'⟩ : ∃ a', a ||| 2 = a' := ⟨_, rfl⟩
            simp only [ha'] at ob
            rw [ha'] at hlt HST
            clear hst hwd hr n0 n1 n2 n3 n4 ha'
            go_wp2
            go_roundg g
            case rel =>
              refine ⟨k + 1, a', by omega, rfl, hlt, ?_, HK5.out.alloc _, ?_⟩
              · have h := HA2.out
                simp only [acc9, HST.out] at h
                exact h
              · have h := HI5.out
                rw [HW.out] at h
                exact (Below.heap_alloc w5 (.stringIter lets5 2) _ hlt5).trans h
            case measure => omega
          · have hr' : ((83 : Int) == (r : Int)) = false := by rw [beq_eq_false_iff_ne]; omega
            go_wp2
            go_roundg 3
            case rel => exact ⟨2, rfl, rfl, rfl, by omega, by omega, by omega, by omega, by omega⟩
            case measure => decide
        · obtain rfl : gk = 2 + 1 := by omega
          have hnx : ∀ ty, (Instr.next (.pointer (some ⟨w5.heap.size, 0, none⟩)) true ty).run Try.prog (w5.iter lets5 2) = .ok (.tuple #[.bool true, .int .i64 2, .int .i32 82]) (w5.iter lets5 3) := fun ty => run_next_ascii (P := Try.prog) w5 lets5 2 ty (by decide) (by decide)
          by_cases hr : r = 82
          · have hr' : ((82 : Int) == (r : Int)) = true := by rw [hr]; rfl
            have ob := (or_bits ⟨a, ha⟩).2.2.1
            have hst : stp a c.toNat = some (a ||| 4) := by
              rcases HCR.out with ⟨_, h, _⟩ | ⟨_, h⟩
              · rw [← h, hr]; unfold stp; simp
              · omega
            have hwd : wd = 1 := by
              rcases HCR.out with ⟨_, _, h⟩ | ⟨_, h⟩
              · exact h
              · omega
            have hlt := stp_lt a _ _ ha hst
            have HST := Lib.hid hst
            have HW := Lib.hid hwd
            obtain ⟨a', ha'⟩ : ∃ a', a ||| 4 = a' := ⟨_, rfl⟩
            simp only [ha'] at ob
            rw [ha'] at hlt HST
            clear hst hwd hr n0 n1 n2 n3 n4 ha'
            go_wp2
            go_roundg g
            case rel =>
              refine ⟨k + 1, a', by omega, rfl, hlt, ?_, HK5.out.alloc _, ?_⟩
              · have h := HA2.out
                simp only [acc9, HST.out] at h
                exact h
              · have h := HI5.out
                rw [HW.out] at h
                exact (Below.heap_alloc w5 (.stringIter lets5 3) _ hlt5).trans h
            case measure => omega
          · have hr' : ((82 : Int) == (r : Int)) = false := by rw [beq_eq_false_iff_ne]; omega
            go_wp2
            go_roundg 2
            case rel => exact ⟨3, rfl, rfl, rfl, by omega, by omega, by omega, by omega, by omega⟩
            case measure => decide
        · obtain rfl : gk = 1 + 1 := by omega
          have hnx : ∀ ty, (Instr.next (.pointer (some ⟨w5.heap.size, 0, none⟩)) true ty).run Try.prog (w5.iter lets5 3) = .ok (.tuple #[.bool true, .int .i64 3, .int .i32 80]) (w5.iter lets5 4) := fun ty => run_next_ascii (P := Try.prog) w5 lets5 3 ty (by decide) (by decide)
          by_cases hr : r = 80
          · have hr' : ((80 : Int) == (r : Int)) = true := by rw [hr]; rfl
            have ob := (or_bits ⟨a, ha⟩).2.2.2.1
            have hst : stp a c.toNat = some (a ||| 8) := by
              rcases HCR.out with ⟨_, h, _⟩ | ⟨_, h⟩
              · rw [← h, hr]; unfold stp; simp
              · omega
            have hwd : wd = 1 := by
              rcases HCR.out with ⟨_, _, h⟩ | ⟨_, h⟩
              · exact h
              · omega
            have hlt := stp_lt a _ _ ha hst
            have HST := Lib.hid hst
            have HW := Lib.hid hwd
            obtain ⟨a', ha'⟩ : ∃ a', a ||| 8 = a' := ⟨_, rfl⟩
            simp only [ha'] at ob
            rw [ha'] at hlt HST
            clear hst hwd hr n0 n1 n2 n3 n4 ha'
            go_wp2
            go_roundg g
            case rel =>
              refine ⟨k + 1, a', by omega, rfl, hlt, ?_, HK5.out.alloc _, ?_⟩
              · have h := HA2.out
                simp only [acc9, HST.out] at h
                exact h
              · have h := HI5.out
                rw [HW.out] at h
                exact (Below.heap_alloc w5 (.stringIter lets5 4) _ hlt5).trans h
            case measure => omega
          · have hr' : ((80 : Int) == (r : Int)) = false := by rw [beq_eq_false_iff_ne]; omega
            go_wp2
            go_roundg 1
            case rel => exact ⟨4, rfl, rfl, rfl, by omega, by omega, by omega, by omega, by omega⟩
            case measure => decide
        · obtain rfl : gk = 0 + 1 := by omega
          have hnx : ∀ ty, (Instr.next (.pointer (some ⟨w5.heap.size, 0, none⟩)) true ty).run Try.prog (w5.iter lets5 4) = .ok (.tuple #[.bool true, .int .i64 4, .int .i32 65]) (w5.iter lets5 5) := fun ty => run_next_ascii (P := Try.prog) w5 lets5 4 ty (by decide) (by decide)
          by_cases hr : r = 65
          · have hr' : ((65 : Int) == (r : Int)) = true := by rw [hr]; rfl
            have ob := (or_bits ⟨a, ha⟩).2.2.2.2
            have hst : stp a c.toNat = some (a ||| 16) := by
              rcases HCR.out with ⟨_, h, _⟩ | ⟨_, h⟩
              · rw [← h, hr]; unfold stp; simp
              · omega
            have hwd : wd = 1 := by
              rcases HCR.out with ⟨_, _, h⟩ | ⟨_, h⟩
              · exact h
              · omega
            have hlt := stp_lt a _ _ ha hst
            have HST := Lib.hid hst
            have HW := Lib.hid hwd
            obtain ⟨a', ha'⟩ : ∃ a', a ||| 16 = a' := ⟨_, rfl⟩
            simp only [ha'] at ob
            rw [ha'] at hlt HST
            clear hst hwd hr n0 n1 n2 n3 n4 ha'
            go_wp2
            go_roundg g
            case rel =>
              refine ⟨k + 1, a', by omega, rfl, hlt, ?_, HK5.out.alloc _, ?_⟩
              · have h := HA2.out
                simp only [acc9, HST.out] at h
                exact h
              · have h := HI5.out
                rw [HW.out] at h
                exact (Below.heap_alloc w5 (.stringIter lets5 5) _ hlt5).trans h
            case measure => omega
          · have hr' : ((65 : Int) == (r : Int)) = false := by rw [beq_eq_false_iff_ne]; omega
            go_wp2
            go_roundg 0
            case rel => exact ⟨5, rfl, rfl, rfl, by omega, by omega, by omega, by omega, by omega⟩
            case measure => decide
        · obtain rfl : gk = 0 := by omega
          have hnx := fun ty => run_next_end (P := Try.prog) w5 lets5 5 ty (by decide)
          by_cases hr : r = 45
          · have hr' : ((r : Int) != 45) = false := by rw [hr]; rfl
            have hst : stp a c.toNat = some a := by
              rcases HCR.out with ⟨_, h, _⟩ | ⟨_, h⟩
              · rw [← h, hr]; unfold stp; simp
              · omega
            have hwd : wd = 1 := by
              rcases HCR.out with ⟨_, _, h⟩ | ⟨_, h⟩
              · exact h
              · omega
            have HST := Lib.hid hst
            have HW := Lib.hid hwd
            clear hst hwd hr n0 n1 n2 n3 n4
            go_wp2
            go_roundg g
            case rel =>
              refine ⟨k + 1, a, by omega, rfl, ha, ?_, HK5.out.alloc _, ?_⟩
              · have h := HA2.out
                simp only [acc9, HST.out] at h
                exact h
              · have h := HI5.out
                rw [HW.out] at h
                exact (Below.heap_alloc w5 (.stringIter lets5 5) _ hlt5).trans h
            case measure => omega
          · have hr' : ((r : Int) != 45) = true := by simp; omega
            have hst : stp a c.toNat = none := by
              have h0 := n0 (by omega)
              have h1 := n1 (by omega)
              have h2 := n2 (by omega)
              have h3 := n3 (by omega)
              have h4 := n4 (by omega)
              unfold stp
              rcases HCR.out with ⟨_, h, _⟩ | ⟨h, _⟩
              · rw [if_neg (by omega), if_neg (by omega), if_neg (by omega), if_neg (by omega), if_neg (by omega), if_neg (by omega)]
              · rw [if_neg (by omega), if_neg (by omega), if_neg (by omega), if_neg (by omega), if_neg (by omega), if_neg (by omega)]
            have hno : acc9 0 l = none := by
              have h := HA2.out
              simp only [acc9, hst] at h
              exact h.symm
            have HNO := Lib.hid hno
            clear hst hno hr n0 n1 n2 n3 n4
            go_wp2
            first | go_ret2 | (rw [Exit.noGoto_ret]; go_ret2)
            exact ⟨.inr ⟨not_flags l HNO.out, rfl⟩, HK5.out.alloc _⟩
end Go.Proofs.Ytnoobifdaldfiaa
