/-
  The contract of the document's Split: a string in parts of these sizes.
-/
import Derived.Test.YtibbpineaekfoaaOct4
namespace Go.Proofs.Ytibbpineaekfoaa
open Go.RowKit

theorem infoS : (Try.prog.info? 9).map (fun i => (i.zero, i.size, i.bytes)) = some (some (.string ⟨#[]⟩), 1, 16) := by kernel_rfl

theorem app1S {w : World} {lo n : Nat} {xs : List Value} {ops : Array Oper} {rest : List Oper} {o : Oper} {a : Act} {Q : Exit → Act → World → Prop} (hw : Region.wanted o (yielded ops a.tmps) = true) (s x : Operand)
    (ho : o.op = .call { callee := .builtin .append, args := #[s, x], argTypes := #[40, 40] })
    {v : Value} {b off c : Nat} {u : ByteArray} (hs : a.eval s = v) (hx : a.eval x = .slice (some ⟨b, off, none⟩) 1 c)
    (hown : w.ownsRow lo 9 1 v n xs) (hr : w.cell? ⟨b, off, none⟩ = some (.string u)) (hb : n ≤ 1048576) (hlo : lo ≤ w.heap.size)
    (h : ∀ g' cap' w', OwnV 9 w' lo g' (n + 1) cap' (xs ++ [.string u]) → w.grownBy w' v.ownBlock → wpList Try.prog ops Q rest (a.put o.dst (.slice (some ⟨g', 0, none⟩) (n + 1) cap')) w') : wpList Try.prog ops Q (o :: rest) a w := by
  obtain ⟨i0, hi0, hz0, hz1, hz2⟩ := info_parts infoS
  exact wpList_append_one hw s x 40 ho i0 _ 16 Try.underlying40 hi0 hz0 hz1 hz2 rfl hs hx hown hr rfl (by unfold maxLen; omega) (by omega) hlo h

def RSplitPost (w : World) (x : List (List UInt8) × Int) (e : Ending) (w' : World) : Prop :=
  Kp w w' ∧ ∃ A n c, e = .returned (.tuple #[.slice A n c, .int .i64 x.2]) ∧ RdV w' w.heap.size A n (svs x.1) ∧ n ≤ 1048577

theorem svs_snoc (ps : List (List UInt8)) (p : List UInt8) : svs (ps ++ [p]) = svs ps ++ [.string (str p)] := by simp [svs]

set_option maxHeartbeats 1000000 in
theorem rsplit_any (w : World) (l : List UInt8) (_hl : l.length ≤ 1048576) (Z : Option Addr) (d f : Nat) (zs : List Int) (hZ : RdV w 0 Z d (zs.map (Value.int .i64))) (hd : d ≤ 65536) :
    Calls Try.prog 23 #[.string (str l), .slice Z d f] w (RSplitPost w (Sp.split l zs)) := by
  have hzl : zs.length = d := by simpa using hZ.1
  have HZL := Lib.hid hzl
  clear hzl
  have hsz := str_size
  have hex := str_extract
  go_enter Try.func23, Try.ntmps23
  go_wp2
  go_loopw [0, 6, 7] (fun s v i wr => ∃ (k : Nat) (ps : List (List UInt8)) (r : List UInt8), k ≤ d ∧ i = .int .i64 k ∧ s = .string (str r) ∧ r.length ≤ l.length ∧ wr.ownsRow w.heap.size 9 1 v k (svs ps) ∧ Kp w wr ∧
      Sp.split l zs = Sp.pre ps (Sp.split r (zs.drop k)))
    (fun _ _ i _ => d - (intOf i).toNat)
  case atStart =>
    exact ⟨0, [], l, Nat.zero_le _, rfl, rfl, Nat.le_refl _, World.ownsRow_nil _ _ _ _, Kp.refl _, by rw [List.drop_zero, Sp.pre_nil]⟩
  case round =>
    obtain ⟨k, ps, r, hk, rfl, rfl, hrl, hown, hkp, hsp⟩ := hrel
    have HOWN := Lib.hid hown
    have HSP := Lib.hid hsp
    clear hown hsp
    by_cases hlt : k < d
    · obtain ⟨g, off, rfl, _, hcz⟩ := hZ.2 (by omega)
      have hkz : k < zs.length := by rw [HZL.out]; exact hlt
      obtain ⟨z, hz⟩ : ∃ z, zs[k]? = some z := ⟨_, List.getElem?_eq_getElem hkz⟩
      have cz0 := hcz k (.int .i64 z) (by rw [List.getElem?_map, hz]; rfl)
      have cz := hkp.cell cz0
      have CZ0 := Lib.hid cz0
      clear cz0
      have HD := Lib.hid (split_go hz)
      have HZ := Lib.hid hZ
      clear hz hZ hcz hkz
      by_cases h1 : z < 0
      · go_wp2
        go_ret2
        have es : Sp.split l zs = ([], 1) := by
          rw [HSP.out, HD.out, Sp.split, if_pos h1]; rfl
        exact ⟨hkp, none, 0, 0, by rw [es]; rfl, by rw [es]; exact Rd.none_ _ _, by omega⟩
      · by_cases h2 : (r.length : Int) < z
        · go_wp2
          go_ret2
          have es : Sp.split l zs = ([], 6) := by
            rw [HSP.out, HD.out, Sp.split, if_neg (by omega), if_pos h2]; rfl
          exact ⟨hkp, none, 0, 0, by rw [es]; rfl, by rw [es]; exact Rd.none_ _ _, by omega⟩
        · obtain ⟨m, rfl⟩ := Int.eq_ofNat_of_zero_le (show 0 ≤ z by omega)
          have hm : m ≤ r.length := by omega
          have HP : Hid (Sp.pre ps (Sp.split r (zs.drop k)) = Sp.pre (ps ++ [r.take m]) (Sp.split (r.drop m) (zs.drop (k + 1)))) := Lib.hid (by
            rw [HD.out, Sp.pre_step ps (by omega) (by omega)]
            simp only [Int.toNat_natCast])
          clear h1 h2
          have c1 := cell_new wr #[.string (str (r.take m))] 9 (0, 0) 0
          have ho1 := HOWN.out.alloc (.cells #[.string (str (r.take m))] 9)
          have hk1 := hkp.alloc (.cells #[.string (str (r.take m))] 9)
          go_wp2_with (first
            | (at_builtin; refine app1S (by rfl) (.tmp 26) (.tmp 33) rfl rfl rfl ho1 c1 (by omega) hk1.size ?_; intro g2 cap2 w2 own2 gr2; have hk2 := hk1.grownR gr2 (ownBlock_le HOWN.out); have cz2 := hk2.cell CZ0.out))
          go_roundw
          case rel => exact ⟨k + 1, _, _, by omega, by go_num, rfl, by rw [List.length_drop]; omega, by rw [svs_snoc]; exact own2, hk2, by rw [HSP.out, HP.out]⟩
          case measure => simp [intOf]; omega
    · obtain rfl : k = d := by omega
      have es : Sp.split l zs = (ps ++ [r], 0) := by
        rw [HSP.out, List.drop_of_length_le (by rw [HZL.out]; omega)]; rfl
      have ES := Lib.hid es
      clear es
      have c1 := cell_new wr #[.string (str r)] 9 (0, 0) 0
      have ho1 := HOWN.out.alloc (.cells #[.string (str r)] 9)
      have hk1 := hkp.alloc (.cells #[.string (str r)] 9)
      go_wp2_with (first
        | (at_builtin; refine app1S (by rfl) (.tmp 41) (.tmp 43) rfl rfl rfl ho1 c1 (by omega) hk1.size ?_; intro g2 cap2 w2 own2 gr2; have hk2 := hk1.grownR gr2 (ownBlock_le HOWN.out)))
      go_ret2
      exact ⟨hk2, _, _, _, by rw [ES.out]; rfl, by rw [ES.out, svs_snoc]; exact own2.rd, by omega⟩
end Go.Proofs.Ytibbpineaekfoaa
