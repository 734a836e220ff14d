/-
  The contracts of the law's 'same' and of the document's Split: texts of bytes.
-/
import Derived.Test.YtibbpineaekfoaaSplit
import Derived.Test.YtibbpineaekfoaaOct2
import Derived.Stop.BytesEq
namespace Go.Proofs.Ytibbpineaekfoaa
open Go.RowKit

theorem rdV_lit {w : World} {lo n : Nat} {xs : List Value} {cs : Array Value} {T : TypeId} {m : Nat × Nat} {g : Nat} (hg : w.heap.size = g) (hlo : lo ≤ g) (hn : xs.length = n) (hcs : cs = xs.toArray) :
    RdV (w.alloc (.cells cs T m)) lo (some ⟨g, 0, none⟩) n xs := by
  subst hg
  subst hcs
  refine ⟨hn, fun _ => ⟨_, _, rfl, hlo, fun j u hu => ?_⟩⟩
  rw [Nat.zero_add, cell_new]
  simpa using hu

/-- the values of strings -/
def svs (ls : List (List UInt8)) : List Value := ls.map fun l => .string (str l)

theorem str_inj {a b : List UInt8} (h : str a = str b) : a = b := by
  have := congrArg (fun s : ByteArray => s.data.toList) h
  simpa [str] using this

theorem strBeq (l l' : List UInt8) : ((str l).toList == (str l').toList) = (l == l') := by
  rw [ByteArray.toList_eq, ByteArray.toList_eq, str_list, str_list]

theorem RdV.cellS {w : World} {lo n g off k : Nat} {ls : List (List UInt8)} (h : RdV w lo (some ⟨g, off, none⟩) n (svs ls)) (hk : k < n) :
    ∃ l, ls[k]? = some l ∧ w.cell? ⟨g, off + k, none⟩ = some (.string (str l)) := by
  obtain ⟨g', off', e, _, hc⟩ := h.2 (by omega)
  simp only [Option.some.injEq, Addr.mk.injEq] at e
  obtain ⟨rfl, rfl, _⟩ := e
  have hlt : k < ls.length := by have := h.1; simp [svs] at this; omega
  exact ⟨ls[k], List.getElem?_eq_getElem hlt, hc k _ (by simp [svs, List.getElem?_eq_getElem hlt])⟩
theorem RdV.atS {w : World} {lo n : Nat} {A : Option Addr} {xs : List Value} (h : RdV w lo A n xs) (hn : 0 < n) : ∃ g off, A = some ⟨g, off, none⟩ ∧ lo ≤ g := by
  obtain ⟨g, off, e, hl, _⟩ := h.2 hn
  exact ⟨g, off, e, hl⟩

set_option maxHeartbeats 400000 in
theorem same_any (w : World) (A B : Option Addr) (n c m d : Nat) (ls ms : List (List UInt8)) (hA : Rd2 w 0 A n ls) (hB : RdV w 0 B m (svs ms)) (hn : n ≤ 140737488351232) (hm : m ≤ 140737488351232) :
    Calls Try.prog 24 #[.slice A n c, .slice B m d] w fun e w' => e = .returned (.bool (decide (ls = ms))) ∧ w = w' := by
  have hlB : ms.length = m := by simpa [svs] using hB.1
  have hlA := hA.len
  by_cases h : n = m
  · subst h
    have HLA := Lib.hid hlA
    have HLB := Lib.hid hlB
    clear hlA hlB
    go_enter Try.func24, Try.ntmps24
    go_wp2
    go_loop [14] (fun i => ∃ k : Nat, k ≤ n ∧ i = .int .i64 k ∧ ∀ j, j < k → ls[j]? = ms[j]?) (fun i => n - (intOf i).toNat)
    case atStart => exact ⟨0, Nat.zero_le _, rfl, fun j hj => absurd hj (by omega)⟩
    case round =>
      obtain ⟨k, hk, rfl, hpre⟩ := hrel
      by_cases hlt : k < n
      · obtain ⟨g1, o1, rfl, _⟩ := hA.at_ (by omega)
        obtain ⟨g2, o2, rfl, _⟩ := hB.atS (by omega)
        obtain ⟨l, A', n', c', hl, hcell, hr⟩ := hA.cell hlt
        obtain ⟨l2, hl2, hcell2⟩ := hB.cellS hlt
        have cv := conv_str (P := Try.prog) (c := c') Try.underlying22 Try.underlying5 Try.underlying9 hr
        have H1 := Lib.hid hpre
        have H2 := Lib.hid hl
        have H3 := Lib.hid hl2
        have H4 := Lib.hid hA
        have H5 := Lib.hid hB
        clear hpre hl hl2 hA hB hr
        have hb := strBeq l l2
        by_cases he : l = l2
        · have H6 := Lib.hid he
          have he' : (l == l2) = true := by simp [he]
          rw [he'] at hb
          clear he he'
          go_wp2
          go_round
          case rel =>
            refine ⟨k + 1, by omega, by go_num, fun j hj => ?_⟩
            by_cases hjk : j = k
            · subst hjk; rw [H2.out, H3.out, H6.out]
            · exact H1.out j (by omega)
          case measure => simp [intOf]; omega
        · have he' : (l == l2) = false := by simp [he]
          rw [he'] at hb
          have e : decide (ls = ms) = false := by
            simp only [decide_eq_false_iff_not]
            rintro rfl
            rw [H2.out] at H3
            have := H3.out
            injection this with this
            exact he this
          have E := Lib.hid e
          clear e
          go_wp2
          go_ret
          rw [E.out]
          exact ⟨rfl, rfl⟩
      · obtain rfl : k = n := by omega
        have e : decide (ls = ms) = true := by
          simp only [decide_eq_true_eq]
          apply List.ext_getElem?
          intro j
          rcases Nat.lt_or_ge j k with h | h
          · exact hpre j h
          · rw [List.getElem?_eq_none (by rw [HLA.out]; exact h), List.getElem?_eq_none (by rw [HLB.out]; exact h)]
        have E := Lib.hid e
        clear hpre e
        go_wp2
        go_ret
        rw [E.out]
        exact ⟨rfl, rfl⟩
  · have e : decide (ls = ms) = false := by
      simp only [decide_eq_false_iff_not]
      rintro rfl
      omega
    rw [e]
    clear hlA hlB
    go_enter Try.func24, Try.ntmps24
    go_wp2
    all_goals go_ret
    all_goals exact ⟨rfl, rfl⟩
end Go.Proofs.Ytibbpineaekfoaa
