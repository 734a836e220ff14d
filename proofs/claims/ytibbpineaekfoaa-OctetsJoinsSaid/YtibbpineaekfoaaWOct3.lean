/-
  The walk of OctetsJoins: it returns true and leaves what was there as it was.
-/
import Derived.Test.YtibbpineaekfoaaWOct2
namespace Go.Proofs.Ytibbpineaekfoaa
open Go.RowKit

def ones (l : List UInt8) : List (List UInt8) := l.map fun c => [c]
theorem split_ones (l : List UInt8) : Sp.split l (List.replicate l.length 1) = (ones l ++ [[]], 0) := by
  induction l with
  | nil => rfl
  | cons c l ih =>
    rw [List.length_cons, List.replicate_succ, Sp.split, if_neg (by decide), if_neg (by simp only [List.length_cons]; omega)]
    rw [show (c :: l).drop (1 : Int).toNat = l from rfl, ih]
    rfl

theorem infoI : (Try.prog.info? 3).map (fun i => (i.zero, i.size, i.bytes)) = some (some (.int .i64 0), 1, 8) := by kernel_rfl

theorem app1I {w : World} {lo n : Nat} {xs : List Value} {ops : Array Oper} {rest : List Oper} {o : Oper} {a : Act} {Q : Exit → Act → World → Prop} (hw : Region.wanted o (yielded ops a.tmps) = true) (s x : Operand)
    (ho : o.op = .call { callee := .builtin .append, args := #[s, x], argTypes := #[35, 35] })
    {v : Value} {b off c : Nat} {u : Int} (hs : a.eval s = v) (hx : a.eval x = .slice (some ⟨b, off, none⟩) 1 c)
    (hown : w.ownsRow lo 3 1 v n xs) (hr : w.cell? ⟨b, off, none⟩ = some (.int .i64 u)) (hb : n ≤ 1048576) (hlo : lo ≤ w.heap.size)
    (h : ∀ g' cap' w', OwnV 3 w' lo g' (n + 1) cap' (xs ++ [.int .i64 u]) → w.grownBy w' v.ownBlock → wpList Try.prog ops Q rest (a.put o.dst (.slice (some ⟨g', 0, none⟩) (n + 1) cap')) w') : wpList Try.prog ops Q (o :: rest) a w := by
  obtain ⟨i0, hi0, hz0, hz1, hz2⟩ := info_parts infoI
  exact wpList_append_one hw s x 35 ho i0 _ 8 Try.underlying35 hi0 hz0 hz1 hz2 rfl hs hx hown hr rfl (by unfold maxLen; omega) (by omega) hlo h

theorem getL_one (c : UInt8) : getL [c] = (c.toNat, 0) := by simp [getL, Oc.num]

theorem rowRdV {w : World} {lo e n : Nat} {v : Value} {xs : List Value} (h : w.ownsRow lo e 1 v n xs) : ∃ A c, v = .slice A n c ∧ RdV w 0 A n xs := by
  rcases h.2 with ⟨rfl, h0⟩ | ⟨g, cap, cur, rfl, h1⟩
  · have hx : n = 0 := h0
    subst hx
    exact ⟨none, 0, rfl, h.1, fun h => absurd h (by omega)⟩
  · exact ⟨_, _, rfl, (OwnV.rd (lo := lo) h).lo0⟩

set_option maxHeartbeats 2000000 in
theorem joins_walk (w : World) (A : Option Addr) (n c : Nat) (l : List UInt8) (B : Option Addr) (k d : Nat) (m : List UInt8)
    (hA : Rd w 0 A n l) (hn : n ≤ 140737488351232) (hB : Rd w 0 B k m) (hk : k ≤ 140737488351232) :
    Calls Try.prog 11 #[.slice A n c, .slice B k d] w fun e w' => e = .returned (.bool true) ∧ Kp w w' := by
  have HA := Lib.hid hA
  have HB := Lib.hid hB
  have HLA := Lib.hid hA.len
  have HLB := Lib.hid hB.len
  clear hA hB
  by_cases h : 300 < n + k
  · have h' : (300 : Int) < (n : Int) + (k : Int) := by omega
    go_enter Try.func11, Try.ntmps11
    go_wp2_with (first | (go_at_call 21; refine (lives1_any _).mono ?_; rintro e w1 ⟨rfl, hk⟩))
    go_ret
    exact ⟨rfl, Kp.trans (by assumption) hk⟩
  have h' : ¬ (300 : Int) < (n : Int) + (k : Int) := by omega
  go_enter Try.func11, Try.ntmps11
  go_wp2_with fail
  refine (lives1_any _).mono ?_
  rintro e w1 ⟨rfl, hk1⟩
  have own0 : OwnV 5 (w1.alloc (.cells #[] 5)) w.heap.size w1.heap.size 0 0 (bvs []) := OwnV.lit (vs := []) rfl hk1.size rfl (by decide)
  have hka : Kp w (w1.alloc (.cells #[] 5)) := hk1.alloc _
  clear hk1
  go_wp2_with (first
    | (at_builtin; refine app8 (by rfl) (.tmp 24) (.tmp 25) rfl rfl rfl own0 (HA.out.keep hka) n l (by omega) rfl (by omega) hka.size ?_; intro g1 cap1 w2 own1 gr1 at1; have hk2 := hka.grown gr1 own0.lo_le)
    | (at_builtin; refine app8 (by rfl) (.tmp 26) (.tmp 27) rfl rfl rfl own1 (HB.out.keep hk2) (n + k) (l ++ m) rfl rfl (by omega) hk2.size ?_; intro g2 cap2 w3 own2 gr2 at2; have hk3 := hk2.grown gr2 own1.lo_le))
  have HO := Lib.hid own2
  have HK3 := Lib.hid hk3
  clear own0 hka gr1 at1 gr2 at2 own1 hk2 hk3 own2
  go_loopw [6, 31] (fun v i wr => ∃ j : Nat, j ≤ n + k ∧ i = .int .i64 j ∧ wr.ownsRow w3.heap.size 3 1 v j ((List.replicate j (1 : Int)).map (Value.int .i64)) ∧ Kp w3 wr)
    (fun _ i _ => n + k - (intOf i).toNat)
  case atStart => exact ⟨0, Nat.zero_le _, rfl, World.ownsRow_nil _ _ _ _, Kp.refl _⟩
  case round =>
    obtain ⟨j, hj, rfl, hown, hkp⟩ := hrel
    by_cases hlt : j < n + k
    · have c1 := cell_new wr #[.int .i64 1] 3 (0, 0) 0
      have ho1 := hown.alloc (.cells #[.int .i64 1] 3)
      have hk1 := hkp.alloc (.cells #[.int .i64 1] 3)
      have hlt' : (j : Int) < (n : Int) + (k : Int) := by omega
      have HOW := Lib.hid hown
      clear hown
      go_wp2_with (first
        | (at_builtin; refine app1I (by rfl) (.tmp 33) (.tmp 34) rfl rfl rfl ho1 c1 (by omega) hk1.size ?_; intro g5 cap5 w5 own5 gr5; have hk5 := hk1.grownR gr5 (ownBlock_le HOW.out)))
      go_roundw
      case rel =>
        refine ⟨j + 1, by omega, by go_num, ?_, hk5⟩
        rw [List.replicate_succ', List.map_append]
        exact own5
      case measure => simp [intOf]; omega
    · obtain rfl : j = n + k := by omega
      obtain ⟨Z, cz, rfl, hrz⟩ := rowRdV hown
      have HRZ := Lib.hid hrz
      clear hown hrz
      go_wp2_with fail
      refine (split_any _ _ (n + k) cap2 (l ++ m) Z (n + k) cz (List.replicate (n + k) 1) (HO.out.keep hkp).rd0 HO.out.slOk (by omega) HRZ.out (by omega)).mono ?_
      intro e w6 hpost
      have hso := split_ones (l ++ m)
      rw [show (l ++ m).length = n + k by rw [List.length_append, HLA.out, HLB.out]] at hso
      obtain ⟨hk6, v, rfl, hcase⟩ := hpost
      rw [hso] at hcase ⊢
      rcases hcase with ⟨h0, _⟩ | ⟨_, g7, cap7, vs, rfl, hown7, hps7⟩
      · exact absurd rfl h0
      have hl7 : (ones (l ++ m) ++ [[]]).length = n + k + 1 := by simp [ones, HLA.out, HLB.out]; omega
      simp only [hl7] at hown7 hps7 ⊢
      have hlast : (ones (l ++ m) ++ [[]])[n + k]? = some [] := by
        rw [List.getElem?_append_right (by simp [ones, HLA.out, HLB.out])]
        simp [ones, HLA.out, HLB.out]
      obtain ⟨g8, c8, p8, _⟩ := hps7.part hown7 hlast
      have p8' : w6.cell? ⟨g7, n + k, none⟩ = some (.slice (some ⟨g8, 0, none⟩) 0 c8) := p8
      have hpart : ∀ (j : Nat) (c0 : UInt8), (l ++ m)[j]? = some c0 → ∃ g' c', w6.cell? ⟨g7, j, none⟩ = some (.slice (some ⟨g', 0, none⟩) 1 c') ∧ Rd w6 0 (some ⟨g', 0, none⟩) 1 [c0] := by
        intro j c0 hj
        have hj' : (ones (l ++ m) ++ [[]])[j]? = some [c0] := by
          have hlt : j < (l ++ m).length := by
            rcases Nat.lt_or_ge j (l ++ m).length with h | h
            · exact h
            · rw [List.getElem?_eq_none h] at hj; cases hj
          rw [List.getElem?_append_left (by simpa [ones] using hlt)]
          unfold ones
          rw [List.getElem?_map, hj]
          rfl
        obtain ⟨g', c', h1, h2⟩ := hps7.part hown7 hj'
        exact ⟨g', c', h1, h2.rd0⟩
      have HPART := Lib.hid hpart
      have hall := HO.out.keep (hkp.trans hk6)
      have HALL := Lib.hid hall
      have HK6 := Lib.hid ((HK3.out.trans hkp).trans hk6)
      clear hpart hall hso hl7 hlast hps7 hown7 hkp hk6 HO HK3 HRZ
      have hlen : (((n : Int) + (k : Int) + 1) != ((n : Int) + (k : Int) + 1)) = false := by simp
      go_wp2
      go_loop [64] (fun i => ∃ j : Nat, j ≤ n + k ∧ i = .int .i64 j) (fun i => n + k - (intOf i).toNat)
      case atStart => exact ⟨0, Nat.zero_le _, rfl⟩
      case round =>
        obtain ⟨j, hj, rfl⟩ := hrel
        by_cases hlt : j < n + k
        · obtain ⟨c0, hc0, hcell⟩ := HALL.out.cell8 hlt
          obtain ⟨g', c', hp', hr'⟩ := HPART.out j c0 hc0
          have HR' := Lib.hid hr'
          have hlt' : (j : Int) < (n : Int) + (k : Int) := by omega
          have hb := c0.toNat_lt
          have u1 : IntKind.u64.wrap (c0.toNat : Int) = (c0.toNat : Int) := wrap_u64 (by omega) (by omega)
          clear hc0 hr'
          go_wp2_with (first | (go_at_call 27; refine (get_any _ _ 1 c' [c0] HR'.out (by decide)).mono ?_; rintro e w' ⟨rfl, rfl⟩; rw [getL_one]))
          go_round
          case rel => exact ⟨j + 1, by omega, by go_num⟩
          case measure => simp [intOf]; omega
        · obtain rfl : j = n + k := by omega
          have hlt' : ¬ ((n : Int) + (k : Int) < (n : Int) + (k : Int)) := by omega
          have hap := str_append
          have hsz := str_size
          have hxl : (Oc.hex l).length = 2 * n := by rw [Oc.hex_len, HLA.out]
          have hxm : (Oc.hex m).length = 2 * k := by rw [Oc.hex_len, HLB.out]
          have hxa := Oc.hex_append l m
          obtain ⟨xl, hxl'⟩ : ∃ x, Oc.hex l = x := ⟨_, rfl⟩
          obtain ⟨xm, hxm'⟩ : ∃ x, Oc.hex m = x := ⟨_, rfl⟩
          rw [hxl', hxm'] at hxa
          rw [hxl'] at hxl
          rw [hxm'] at hxm
          have HXA := Lib.hid hxa
          have HXL := Lib.hid hxl'
          have HXM := Lib.hid hxm'
          clear hxa hxl' hxm' p8' hlen p8
          go_wp2_with fail
          refine (hex_any _ _ _ _ (l ++ m) HALL.out.rd0 (by omega)).mono ?_
          rintro e w7 ⟨rfl, hk7⟩
          rw [HXA.out]
          have HK7 := Lib.hid (HK6.out.trans hk7)
          have HALL7 := Lib.hid (HALL.out.keep hk7)
          clear hk7
          go_wp2_with fail
          refine (hex_any _ _ _ _ l (HA.out.keep HK7.out) (by omega)).mono ?_
          rintro e w8 ⟨rfl, hk8⟩
          rw [HXL.out]
          have HK8 := Lib.hid (HK7.out.trans hk8)
          have HALL8 := Lib.hid (HALL7.out.keep hk8)
          clear hk8
          go_wp2_with fail
          refine (hex_any _ _ _ _ m (HB.out.keep HK8.out) (by omega)).mono ?_
          rintro e w9 ⟨rfl, hk9⟩
          rw [HXM.out]
          have HK9 := Lib.hid (HK8.out.trans hk9)
          have HALL9 := Lib.hid (HALL8.out.keep hk9)
          clear hk9
          go_wp2_with (first | (go_at_call 29; refine (hex_any _ _ _ _ (l ++ m) HALL9.out.rd0 (by omega)).mono ?_; rintro e w10 ⟨rfl, hk10⟩; rw [HXA.out]))
          go_ret
          exact ⟨ret_bool (beq_iff_eq.2 (by omega)), HK9.out.trans hk10⟩
end Go.Proofs.Ytibbpineaekfoaa
