/-
  The contracts of octets.Put and of the document's Put: a number in so many bytes.
-/
import Derived.Test.YtibbpineaekfoaaOct1
import Derived.Test.YtibbpineaekfoaaApp8
import Derived.Deep.QuietTactic
import Derived.BigQuiet
namespace Go.Proofs.Ytibbpineaekfoaa
open Go.RowKit

def putL (n : Nat) (size : Int) : List UInt8 × Int := if size < 1 ∨ 8 < size then ([], 1) else if n / 256 ^ size.toNat ≠ 0 then ([], 4) else (Oc.be n size.toNat, 0)

/-- bytes in new memory, and an error's number -/
def BytesPost (w : World) (x : List UInt8 × Int) (e : Ending) (w' : World) : Prop :=
  Kp w w' ∧ ∃ A c, e = .returned (.tuple #[.slice A x.1.length c, .int .i64 x.2]) ∧ Rd w' w.heap.size A x.1.length x.1 ∧ SlOk A x.1.length c

theorem BytesPost.mk' {w w' : World} {l : List UInt8} {k : Int} {A : Option Addr} {n c : Nat} (hk : Kp w w') (hl : l.length = n) (hr : Rd w' w.heap.size A n l) (hs : SlOk A n c) :
    BytesPost w (l, k) (.returned (.tuple #[.slice A n c, .int .i64 k])) w' := by
  subst hl; exact ⟨hk, A, c, rfl, hr, hs⟩
theorem slNil : SlOk none 0 0 := ⟨Nat.le_refl _, Nat.zero_le _, fun _ => rfl⟩

/-- make([]byte, k) -/
theorem make8 (w : World) (k : Nat) (hk : k ≤ 1048576) :
    ∃ w', (Instr.makeSlice 22 (.int .i64 (k : Int)) (.int .i64 (k : Int))).run Try.prog w = .ok (.slice (some ⟨w.heap.size, 0, none⟩) k k) w' ∧
      OwnV 5 w' w.heap.size w.heap.size k k (bvs (List.replicate k 0)) ∧ Kp w w' := by
  obtain ⟨i0, hi0, hz0, hz1, hz2⟩ := info_parts info5
  have hr := run_make (P := Try.prog) w 22 5 i0 _ Try.underlying22 hi0 hz0 .i64 .i64 (k : Int) (k : Int) (by omega) (Int.le_refl _) (by rw [hz2]; omega) (by omega)
  simp only [Int.toNat_natCast] at hr
  refine ⟨_, hr, ?_, (Kp.refl w).alloc _⟩
  have e : madeCells (Value.int .u8 0).cells (k * i0.size) = (bvs (List.replicate k 0)).toArray := by
    rw [hz1, Nat.mul_one]
    apply Array.toList_inj.1
    apply List.ext_getElem?
    intro j
    simp only [madeCells, bvs]
    by_cases hj : j < k
    · simp [hj, Value.cells, Nat.mod_one]
    · simp [hj]
  rw [e]
  exact OwnV.lit rfl (Nat.le_refl _) (by simp [bvs]) (by unfold maxLen; omega)

set_option maxHeartbeats 1000000 in
theorem put_any (w : World) (n : Nat) (hn : n < 18446744073709551616) (size : Int) (h0 : -9223372036854775808 ≤ size) (h1 : size ≤ 9223372036854775807) :
    Calls Try.prog 25 #[.int .u64 (n : Int), .int .i64 size] w (BytesPost w (putL n size)) := by
  by_cases h : size < 1
  · have e : putL n size = ([], 1) := by unfold putL; rw [if_pos (.inl h)]
    rw [e]
    go_enter Try.func25, Try.ntmps25
    go_wp2
    go_ret2
    exact ⟨Kp.refl _, none, 0, rfl, Rd.none_ _ _, slNil⟩
  · by_cases h8 : 8 < size
    · have e : putL n size = ([], 1) := by unfold putL; rw [if_pos (.inr h8)]
      rw [e]
      go_enter Try.func25, Try.ntmps25
      go_wp2
      go_ret2
      exact ⟨Kp.refl _, none, 0, rfl, Rd.none_ _ _, slNil⟩
    · obtain ⟨k, rfl⟩ := Int.eq_ofNat_of_zero_le (show 0 ≤ size by omega)
      have e : putL n (k : Int) = if n / 256 ^ k ≠ 0 then ([], 4) else (Oc.be n k, 0) := by unfold putL; rw [if_neg (by omega)]; rfl
      rw [e]
      clear e
      have e2 : (n : Int) / 2 ^ (8 * k) = ((n / 256 ^ k : Nat) : Int) := by
        rw [show (256 : Nat) = 2 ^ 8 from rfl, ← Nat.pow_mul]; simp
      by_cases h3 : n / 256 ^ k ≠ 0
      · rw [if_pos h3]
        have hk : k < 8 := by
          rcases Nat.lt_or_ge k 8 with h | h
          · exact h
          · exfalso; apply h3; obtain rfl : k = 8 := by omega
            exact Nat.div_eq_of_lt (by simpa using hn)
        have e3 : ((n : Int) / 2 ^ (8 * k) != 0) = true := by
          rw [e2]; simp only [bne_iff_ne, ne_eq]; omega
        clear e2 h3
        go_enter Try.func25, Try.ntmps25
        go_wp2
        go_ret2
        exact ⟨Kp.refl _, none, 0, rfl, Rd.none_ _ _, slNil⟩
      · have h3' : n / 256 ^ k = 0 := by omega
        rw [if_neg h3]
        have e3 : ((n : Int) / 2 ^ (8 * k) != 0) = false := by
          rw [e2]; simp only [bne_eq_false_iff_eq]; omega
        clear e2 h3 h3'
        obtain ⟨w1, mk, own1, hk1⟩ := make8 w k (by omega)
        go_enter Try.func25, Try.ntmps25
        go_wp2
        all_goals
          go_loopw [27] (fun i wr => ∃ (j : Nat) (l : List UInt8), j ≤ k ∧ i = .int .i64 j ∧ l.length = k ∧ (∀ m, m < j → l[m]? = (Oc.be n k)[m]?) ∧ OwnV 5 wr w.heap.size w.heap.size k k (bvs l) ∧ Kp w wr)
            (fun i _ => k - (intOf i).toNat)
          case atStart => exact ⟨0, _, Nat.zero_le _, rfl, by simp, fun m hm => absurd hm (by omega), own1, hk1⟩
          case round =>
            obtain ⟨j, l, hj, rfl, hl, hpre, hown, hkp⟩ := hrel
            have HL := Lib.hid hl
            have HP := Lib.hid hpre
            clear hl hpre
            by_cases hlt : j < k
            · obtain ⟨c0, _, hc0⟩ := hown.cell8 hlt
              have hfz := hown.frozen j
              have e4 : (n : Int) / 2 ^ (8 * ((k : Int) - 1 - (j : Int))).toNat = ((n / 256 ^ (k - 1 - j) : Nat) : Int) := by
                rw [show (256 : Nat) = 2 ^ 8 from rfl, ← Nat.pow_mul, show (8 * ((k : Int) - 1 - (j : Int))).toNat = 8 * (k - 1 - j) by omega]; simp
              go_wp2
              go_round
              case rel =>
                refine ⟨j + 1, l.set j (UInt8.ofNat (n / 256 ^ (k - 1 - j) % 256)), by omega, by go_num, by rw [List.length_set, HL.out], fun m hm => ?_, ?_, hkp.setCell (Nat.le_refl _) _⟩
                · by_cases hmj : j = m
                  · subst hmj
                    rw [List.getElem?_set_self (by rw [HL.out]; exact hlt), Oc.be_get _ _ _ hlt]
                  · rw [List.getElem?_set_ne hmj]; exact HP.out m (by omega)
                · have := hown.set8 j ((n / 256 ^ (k - 1 - j) % 256 : Nat) : Int) (by omega) (by omega)
                  rw [Int.toNat_natCast] at this
                  simpa using this
              case measure => simp [intOf]; omega
            · obtain rfl : j = k := by omega
              go_wp2
              go_ret2
              have e : l = Oc.be n j := by
                apply List.ext_getElem?
                intro m
                rcases Nat.lt_or_ge m j with h | h
                · exact HP.out m h
                · rw [List.getElem?_eq_none (by rw [HL.out]; exact h), List.getElem?_eq_none (by rw [Oc.be_len]; exact h)]
              subst e
              exact BytesPost.mk' hkp (Oc.be_len _ _) hown.rd (SlOk.some_ (Nat.le_refl _) hown.out.2.2.2.1)

theorem conv_one (c : Nat) (W : World) (hc : c < 256) : (convert 22 9 (.slice (some ⟨W.heap.size, 0, none⟩) 1 1)).run Try.prog (W.alloc (.cells #[.int .u8 (c : Int)] 5)) = .ok (.string (str [UInt8.ofNat c])) (W.alloc (.cells #[.int .u8 (c : Int)] 5)) :=
  conv_str (P := Try.prog) (lo := 0) Try.underlying22 Try.underlying5 Try.underlying9 (rd_lit rfl (Nat.zero_le _) rfl (by
    have : (((UInt8.ofNat c).toNat : Nat) : Int) = (c : Int) := by rw [UInt8.toNat_ofNat']; omega
    simp only [bvs, List.map_cons, List.map_nil, this]))

set_option maxHeartbeats 1000000 in
theorem rput_any (w : World) (n : Nat) (hn : n < 18446744073709551616) (size : Int) (h0 : -9223372036854775808 ≤ size) (h1 : size ≤ 9223372036854775807) :
    Calls Try.prog 26 #[.int .u64 (n : Int), .int .i64 size] w fun e w' => e = .returned (.tuple #[.string (str (putL n size).1), .int .i64 (putL n size).2]) ∧ Kp w w' := by
  by_cases h : size < 1
  · have e : putL n size = ([], 1) := by unfold putL; rw [if_pos (.inl h)]
    rw [e]
    go_enter Try.func26, Try.ntmps26
    go_wp2
    go_ret2
    exact ⟨rfl, Kp.refl _⟩
  · by_cases h8 : 8 < size
    · have e : putL n size = ([], 1) := by unfold putL; rw [if_pos (.inr h8)]
      rw [e]
      go_enter Try.func26, Try.ntmps26
      go_wp2
      go_ret2
      exact ⟨rfl, Kp.refl _⟩
    · obtain ⟨k, rfl⟩ := Int.eq_ofNat_of_zero_le (show 0 ≤ size by omega)
      have e : putL n (k : Int) = if n / 256 ^ k ≠ 0 then ([], 4) else (Oc.be n k, 0) := by unfold putL; rw [if_neg (by omega)]; rfl
      have hap := str_append
      have hsz := str_size
      go_enter Try.func26, Try.ntmps26
      go_wp2
      go_loopw [0, 6, 7] (fun m s i wr => ∃ j : Nat, j ≤ k ∧ i = .int .i64 j ∧ m = .int .u64 (n / 256 ^ j : Nat) ∧ s = .string (str (Oc.be n j)) ∧ Kp w wr)
        (fun _ _ i _ => k - (intOf i).toNat)
      case atStart => exact ⟨0, Nat.zero_le _, rfl, by simp, rfl, Kp.refl _⟩
      case round =>
        obtain ⟨j, hj, rfl, rfl, rfl, hkp⟩ := hrel
        by_cases hlt : j < k
        · have hm : n / 256 ^ j < 18446744073709551616 := Nat.lt_of_le_of_lt (Nat.div_le_self _ _) hn
          have HB : Hid (Oc.be n (j + 1) = [UInt8.ofNat (n / 256 ^ j % 256)] ++ Oc.be n j) := Lib.hid rfl
          have HM : Hid (n / 256 ^ (j + 1) = n / 256 ^ j / 256) := Lib.hid (by rw [Nat.pow_succ, Nat.div_div_eq_div_mul])
          have hlen : (Oc.be n j).length ≤ 8 := by rw [Oc.be_len]; omega
          obtain ⟨q, hq⟩ : ∃ q, n / 256 ^ j = q := ⟨_, rfl⟩
          obtain ⟨t, ht⟩ : ∃ t, Oc.be n j = t := ⟨_, rfl⟩
          have HQ := Lib.hid hq
          have HT := Lib.hid ht
          rw [hq] at hm ⊢
          rw [ht] at hlen ⊢
          clear hq ht e
          have cv := conv_one (q % 256) wr (by omega)
          rw [show ((q % 256 : Nat) : Int) = (q : Int) % 256 by omega] at cv
          go_wp2
          go_roundw
          case rel => exact ⟨j + 1, by omega, by go_num, by rw [HM.out, HQ.out]; go_num, by rw [HB.out, HQ.out, HT.out]; rfl, hkp.alloc _⟩
          case measure => simp [intOf]; omega
        · obtain rfl : j = k := by omega
          by_cases hz : n / 256 ^ j = 0
          · have E : Hid (putL n (j : Int) = (Oc.be n j, 0)) := Lib.hid (by rw [e, if_neg (by omega)])
            clear e
            rw [hz]
            go_wp2
            go_ret2
            rw [E.out]
            exact ⟨rfl, hkp⟩
          · have E : Hid (putL n (j : Int) = ([], 4)) := Lib.hid (by rw [e, if_pos hz])
            clear e
            obtain ⟨q, hq⟩ : ∃ q, n / 256 ^ j = q := ⟨_, rfl⟩
            rw [hq] at hz ⊢
            clear hq
            have hz' : ((q : Int) != 0) = true := by simp only [bne_iff_ne, ne_eq]; omega
            go_wp2
            go_ret2
            rw [E.out]
            exact ⟨rfl, hkp⟩
end Go.Proofs.Ytibbpineaekfoaa
