/-
  The contract of segment.Flags: flags as they are written.
-/
import Derived.Test.YtnoobifdaldfiaaB9
import Derived.Laws.RangeAny
import Derived.Laws.Runes
import Derived.Stop.BytesEq
namespace Go.Proofs.Ytnoobifdaldfiaa
open Go.RowKit
set_option maxRecDepth 100000

def fl5 : List UInt8 := [70, 83, 82, 80, 65]
def flg (f : Nat) : Nat → List UInt8
  | 0 => []
  | p + 1 => flg f p ++ (if f / 2 ^ p % 2 = 1 then [fl5.getD p 0] else [])
def flagsOf (f : Nat) : List UInt8 := if flg f 5 = [] then [45] else flg f 5
def lets5 : ByteArray := { data := #[70, 83, 82, 80, 65] }

theorem and_1 (n : Nat) (h : n < 256) : bits BinOp.and IntKind.u8 (n : Int) 1 = ((n % 2 : Nat) : Int) := by
  have h' : ∀ n : Fin 256, bits BinOp.and IntKind.u8 ((n.val : Nat) : Int) 1 = ((n.val % 2 : Nat) : Int) := by decide +kernel
  exact h' ⟨n, h⟩
theorem str_toList (l : List UInt8) : (str l).toList = l := by rw [ByteArray.toList_eq, str_list]
theorem flg_len (f p : Nat) : (flg f p).length ≤ p := by
  induction p with
  | zero => simp [flg]
  | succ p ih => simp only [flg, List.length_append]; split <;> simp <;> omega

set_option maxRecDepth 10000 in
set_option maxHeartbeats 1000000 in
theorem flags9_any (w : World) (f : UInt8) :
    Calls Try.prog 25 #[.int .u8 (f.toNat : Int)] w fun e w' => e = .returned (.string (str (flagsOf f.toNat))) ∧ Kp w w' := by
  have hf : f.toNat < 256 := f.toNat_lt
  have hsz := str_size
  have hap := str_append
  go_enter Try.func25, Try.ntmps25
  go_wp2
  go_loopw [3] (fun o wr => ∃ p : Nat, p ≤ 5 ∧ wr = w.iter lets5 p ∧ o = .string (str (flg f.toNat p))) (fun _ wr => 5 - wr.iterPos w.heap.size)
  case atStart => exact ⟨0, Nat.zero_le _, rfl, rfl⟩
  case round =>
    obtain ⟨p, hp, rfl, rfl⟩ := hrel
    have hfl := flg_len f.toNat p
    rcases (by omega : p = 0 ∨ p = 1 ∨ p = 2 ∨ p = 3 ∨ p = 4 ∨ p = 5) with rfl | rfl | rfl | rfl | rfl | rfl
    · have hnx : ∀ ty, (Instr.next (.pointer (some ⟨w.heap.size, 0, none⟩)) true ty).run Try.prog (w.iter lets5 0) = .ok (.tuple #[.bool true, .int .i64 0, .int .i32 70]) (w.iter lets5 1) := fun ty => run_next_ascii (P := Try.prog) w lets5 0 ty (by decide) (by decide)
      have he : Utf8.encode 70 = str [70] := by decide +kernel
      have a1 := and_1 f.toNat (by omega)
      by_cases hb : f.toNat / 2 ^ 0 % 2 = 1
      · have a2 : bits BinOp.and IntKind.u8 (f.toNat : Int) 1 = 1 := by
          have e : ((f.toNat : Nat) : Int) = (f.toNat : Int) := by omega
          rw [e] at a1
          rw [a1]; omega
        have hfg : flg f.toNat 0 ++ [70] = flg f.toNat 1 := by
          show _ = flg f.toNat 0 ++ (if f.toNat / 2 ^ 0 % 2 = 1 then [fl5.getD 0 0] else [])
          rw [if_pos hb]; rfl
        have HFG := Lib.hid hfg
        obtain ⟨G, hG⟩ : ∃ G, flg f.toNat 0 = G := ⟨_, rfl⟩
        rw [hG] at hfl HFG ⊢
        clear a1 hb hfg hG
        go_wp2
        go_roundw
        case rel => exact ⟨1, by omega, rfl, by rw [HFG.out]⟩
        case measure => simp
      · have a2 : bits BinOp.and IntKind.u8 (f.toNat : Int) 1 = 0 := by
          have e : ((f.toNat : Nat) : Int) = (f.toNat : Int) := by omega
          rw [e] at a1
          rw [a1]; omega
        have hfg : flg f.toNat 0 = flg f.toNat 1 := by
          show _ = flg f.toNat 0 ++ (if f.toNat / 2 ^ 0 % 2 = 1 then [fl5.getD 0 0] else [])
          rw [if_neg hb]; simp
        have HFG := Lib.hid hfg
        obtain ⟨G, hG⟩ : ∃ G, flg f.toNat 0 = G := ⟨_, rfl⟩
        rw [hG] at hfl HFG ⊢
        clear a1 hb hfg hG
        go_wp2
        go_roundw
        case rel => exact ⟨1, by omega, rfl, by rw [HFG.out]⟩
        case measure => simp
    · have hnx : ∀ ty, (Instr.next (.pointer (some ⟨w.heap.size, 0, none⟩)) true ty).run Try.prog (w.iter lets5 1) = .ok (.tuple #[.bool true, .int .i64 1, .int .i32 83]) (w.iter lets5 2) := fun ty => run_next_ascii (P := Try.prog) w lets5 1 ty (by decide) (by decide)
      have he : Utf8.encode 83 = str [83] := by decide +kernel
      have a1 := and_1 (f.toNat / 2) (by omega)
      by_cases hb : f.toNat / 2 ^ 1 % 2 = 1
      · have a2 : bits BinOp.and IntKind.u8 ((f.toNat : Int) / 2) 1 = 1 := by
          have e : (((f.toNat / 2) : Nat) : Int) = ((f.toNat : Int) / 2) := by omega
          rw [e] at a1
          rw [a1]; omega
        have hfg : flg f.toNat 1 ++ [83] = flg f.toNat 2 := by
          show _ = flg f.toNat 1 ++ (if f.toNat / 2 ^ 1 % 2 = 1 then [fl5.getD 1 0] else [])
          rw [if_pos hb]; rfl
        have HFG := Lib.hid hfg
        obtain ⟨G, hG⟩ : ∃ G, flg f.toNat 1 = G := ⟨_, rfl⟩
        rw [hG] at hfl HFG ⊢
        clear a1 hb hfg hG
        go_wp2
        go_roundw
        case rel => exact ⟨2, by omega, rfl, by rw [HFG.out]⟩
        case measure => simp
      · have a2 : bits BinOp.and IntKind.u8 ((f.toNat : Int) / 2) 1 = 0 := by
          have e : (((f.toNat / 2) : Nat) : Int) = ((f.toNat : Int) / 2) := by omega
          rw [e] at a1
          rw [a1]; omega
        have hfg : flg f.toNat 1 = flg f.toNat 2 := by
          show _ = flg f.toNat 1 ++ (if f.toNat / 2 ^ 1 % 2 = 1 then [fl5.getD 1 0] else [])
          rw [if_neg hb]; simp
        have HFG := Lib.hid hfg
        obtain ⟨G, hG⟩ : ∃ G, flg f.toNat 1 = G := ⟨_, rfl⟩
        rw [hG] at hfl HFG ⊢
        clear a1 hb hfg hG
        go_wp2
        go_roundw
        case rel => exact ⟨2, by omega, rfl, by rw [HFG.out]⟩
        case measure => simp
    · have hnx : ∀ ty, (Instr.next (.pointer (some ⟨w.heap.size, 0, none⟩)) true ty).run Try.prog (w.iter lets5 2) = .ok (.tuple #[.bool true, .int .i64 2, .int .i32 82]) (w.iter lets5 3) := fun ty => run_next_ascii (P := Try.prog) w lets5 2 ty (by decide) (by decide)
      have he : Utf8.encode 82 = str [82] := by decide +kernel
      have a1 := and_1 (f.toNat / 4) (by omega)
      by_cases hb : f.toNat / 2 ^ 2 % 2 = 1
      · have a2 : bits BinOp.and IntKind.u8 ((f.toNat : Int) / 4) 1 = 1 := by
          have e : (((f.toNat / 4) : Nat) : Int) = ((f.toNat : Int) / 4) := by omega
          rw [e] at a1
          rw [a1]; omega
        have hfg : flg f.toNat 2 ++ [82] = flg f.toNat 3 := by
          show _ = flg f.toNat 2 ++ (if f.toNat / 2 ^ 2 % 2 = 1 then [fl5.getD 2 0] else [])
          rw [if_pos hb]; rfl
        have HFG := Lib.hid hfg
        obtain ⟨G, hG⟩ : ∃ G, flg f.toNat 2 = G := ⟨_, rfl⟩
        rw [hG] at hfl HFG ⊢
        clear a1 hb hfg hG
        go_wp2
        go_roundw
        case rel => exact ⟨3, by omega, rfl, by rw [HFG.out]⟩
        case measure => simp
      · have a2 : bits BinOp.and IntKind.u8 ((f.toNat : Int) / 4) 1 = 0 := by
          have e : (((f.toNat / 4) : Nat) : Int) = ((f.toNat : Int) / 4) := by omega
          rw [e] at a1
          rw [a1]; omega
        have hfg : flg f.toNat 2 = flg f.toNat 3 := by
          show _ = flg f.toNat 2 ++ (if f.toNat / 2 ^ 2 % 2 = 1 then [fl5.getD 2 0] else [])
          rw [if_neg hb]; simp
        have HFG := Lib.hid hfg
        obtain ⟨G, hG⟩ : ∃ G, flg f.toNat 2 = G := ⟨_, rfl⟩
        rw [hG] at hfl HFG ⊢
        clear a1 hb hfg hG
        go_wp2
        go_roundw
        case rel => exact ⟨3, by omega, rfl, by rw [HFG.out]⟩
        case measure => simp
    · have hnx : ∀ ty, (Instr.next (.pointer (some ⟨w.heap.size, 0, none⟩)) true ty).run Try.prog (w.iter lets5 3) = .ok (.tuple #[.bool true, .int .i64 3, .int .i32 80]) (w.iter lets5 4) := fun ty => run_next_ascii (P := Try.prog) w lets5 3 ty (by decide) (by decide)
      have he : Utf8.encode 80 = str [80] := by decide +kernel
      have a1 := and_1 (f.toNat / 8) (by omega)
      by_cases hb : f.toNat / 2 ^ 3 % 2 = 1
      · have a2 : bits BinOp.and IntKind.u8 ((f.toNat : Int) / 8) 1 = 1 := by
          have e : (((f.toNat / 8) : Nat) : Int) = ((f.toNat : Int) / 8) := by omega
          rw [e] at a1
          rw [a1]; omega
        have hfg : flg f.toNat 3 ++ [80] = flg f.toNat 4 := by
          show _ = flg f.toNat 3 ++ (if f.toNat / 2 ^ 3 % 2 = 1 then [fl5.getD 3 0] else [])
          rw [if_pos hb]; rfl
        have HFG := Lib.hid hfg
        obtain ⟨G, hG⟩ : ∃ G, flg f.toNat 3 = G := ⟨_, rfl⟩
        rw [hG] at hfl HFG ⊢
        clear a1 hb hfg hG
        go_wp2
        go_roundw
        case rel => exact ⟨4, by omega, rfl, by rw [HFG.out]⟩
        case measure => simp
      · have a2 : bits BinOp.and IntKind.u8 ((f.toNat : Int) / 8) 1 = 0 := by
          have e : (((f.toNat / 8) : Nat) : Int) = ((f.toNat : Int) / 8) := by omega
          rw [e] at a1
          rw [a1]; omega
        have hfg : flg f.toNat 3 = flg f.toNat 4 := by
          show _ = flg f.toNat 3 ++ (if f.toNat / 2 ^ 3 % 2 = 1 then [fl5.getD 3 0] else [])
          rw [if_neg hb]; simp
        have HFG := Lib.hid hfg
        obtain ⟨G, hG⟩ : ∃ G, flg f.toNat 3 = G := ⟨_, rfl⟩
        rw [hG] at hfl HFG ⊢
        clear a1 hb hfg hG
        go_wp2
        go_roundw
        case rel => exact ⟨4, by omega, rfl, by rw [HFG.out]⟩
        case measure => simp
    · have hnx : ∀ ty, (Instr.next (.pointer (some ⟨w.heap.size, 0, none⟩)) true ty).run Try.prog (w.iter lets5 4) = .ok (.tuple #[.bool true, .int .i64 4, .int .i32 65]) (w.iter lets5 5) := fun ty => run_next_ascii (P := Try.prog) w lets5 4 ty (by decide) (by decide)
      have he : Utf8.encode 65 = str [65] := by decide +kernel
      have a1 := and_1 (f.toNat / 16) (by omega)
      by_cases hb : f.toNat / 2 ^ 4 % 2 = 1
      · have a2 : bits BinOp.and IntKind.u8 ((f.toNat : Int) / 16) 1 = 1 := by
          have e : (((f.toNat / 16) : Nat) : Int) = ((f.toNat : Int) / 16) := by omega
          rw [e] at a1
          rw [a1]; omega
        have hfg : flg f.toNat 4 ++ [65] = flg f.toNat 5 := by
          show _ = flg f.toNat 4 ++ (if f.toNat / 2 ^ 4 % 2 = 1 then [fl5.getD 4 0] else [])
          rw [if_pos hb]; rfl
        have HFG := Lib.hid hfg
        obtain ⟨G, hG⟩ : ∃ G, flg f.toNat 4 = G := ⟨_, rfl⟩
        rw [hG] at hfl HFG ⊢
        clear a1 hb hfg hG
        go_wp2
        go_roundw
        case rel => exact ⟨5, by omega, rfl, by rw [HFG.out]⟩
        case measure => simp
      · have a2 : bits BinOp.and IntKind.u8 ((f.toNat : Int) / 16) 1 = 0 := by
          have e : (((f.toNat / 16) : Nat) : Int) = ((f.toNat : Int) / 16) := by omega
          rw [e] at a1
          rw [a1]; omega
        have hfg : flg f.toNat 4 = flg f.toNat 5 := by
          show _ = flg f.toNat 4 ++ (if f.toNat / 2 ^ 4 % 2 = 1 then [fl5.getD 4 0] else [])
          rw [if_neg hb]; simp
        have HFG := Lib.hid hfg
        obtain ⟨G, hG⟩ : ∃ G, flg f.toNat 4 = G := ⟨_, rfl⟩
        rw [hG] at hfl HFG ⊢
        clear a1 hb hfg hG
        go_wp2
        go_roundw
        case rel => exact ⟨5, by omega, rfl, by rw [HFG.out]⟩
        case measure => simp
    · have hnx := fun ty => run_next_end (P := Try.prog) w lets5 5 ty (by decide)
      have HFO : Hid (flagsOf f.toNat = if flg f.toNat 5 = [] then [45] else flg f.toNat 5) := Lib.hid rfl
      obtain ⟨G, hG⟩ : ∃ G, flg f.toNat 5 = G := ⟨_, rfl⟩
      rw [hG] at hfl HFO ⊢
      clear hG
      rcases G with _ | ⟨g0, G⟩
      · have HF2 : Hid (flagsOf f.toNat = [45]) := Lib.hid (by rw [HFO.out, if_pos rfl])
        have hie : (str []).toList.isEmpty = true := by rw [str_toList]; rfl
        go_wp2
        go_ret
        rw [HF2.out]
        exact ⟨rfl, (Kp.refl _).alloc _⟩
      · have HF2 : Hid (flagsOf f.toNat = g0 :: G) := Lib.hid (by rw [HFO.out, if_neg (by simp)])
        have hie : (str (g0 :: G)).toList.isEmpty = false := by rw [str_toList]; rfl
        go_wp2
        go_ret
        rw [HF2.out]
        exact ⟨rfl, (Kp.refl _).alloc _⟩
end Go.Proofs.Ytnoobifdaldfiaa
