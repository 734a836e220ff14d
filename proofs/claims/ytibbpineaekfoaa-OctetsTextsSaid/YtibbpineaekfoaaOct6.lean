/-
  The contracts of octets.digit, octets.Unhex and of the document's digit and Unhex: the bytes of a text.
-/
import Derived.Test.YtibbpineaekfoaaOct3
import Derived.Laws.RangeAny
namespace Go.Proofs.Ytibbpineaekfoaa
open Go.RowKit

theorem dg_none {r : Nat} (h : ∀ q, q < 16 → r ≠ (Oc.hd q).toNat) : Oc.dg r = -1 := by
  unfold Oc.dg
  by_cases h1 : 48 ≤ r ∧ r ≤ 57
  · exfalso
    refine h (r - 48) (by omega) ?_
    unfold Oc.hd
    rw [if_pos (by omega), UInt8.toNat_ofNat']; omega
  · rw [if_neg h1]
    by_cases h2 : 97 ≤ r ∧ r ≤ 102
    · exfalso
      refine h (r - 87) (by omega) ?_
      unfold Oc.hd
      rw [if_neg (by omega), UInt8.toNat_ofNat']; omega
    · rw [if_neg h2]

set_option maxHeartbeats 1000000 in
theorem digit_any (w : World) (r : Nat) :
    Calls Try.prog 35 #[.int .i32 (r : Int)] w fun e w' => e = .returned (.int .i64 (Oc.dg r)) ∧ Kp w w' := by
  go_enter Try.func35, Try.ntmps35
  go_wp2
  go_loopw [] (fun wr => ∃ p : Nat, p ≤ 16 ∧ wr = w.iter digs p ∧ ∀ q, q < p → r ≠ (Oc.hd q).toNat) (fun wr => 16 - wr.iterPos w.heap.size)
  case atStart => exact ⟨0, Nat.zero_le _, rfl, fun q hq => absurd hq (by omega)⟩
  case round =>
    obtain ⟨p, hp, rfl, hpre⟩ := hrel
    have HP := Lib.hid hpre
    clear hpre
    by_cases hlt : p < 16
    · have hd := digs_get p hlt hlt
      have hnx := fun ty => run_next_ascii (P := Try.prog) w digs p ty hlt (by rw [hd]; unfold Oc.hd; split <;> rw [UInt8.toNat_ofNat'] <;> omega)
      rw [hd] at hnx
      by_cases hr : r = (Oc.hd p).toNat
      · have e := Oc.dg_hd p hlt
        rw [← hr] at e hnx
        have E := Lib.hid e
        clear hr e hd
        go_wp2
        go_ret
        rw [E.out]
        exact ⟨rfl, (Kp.refl _).alloc _⟩
      · have hr' : (((Oc.hd p).toNat : Int) == (r : Int)) = false := by rw [beq_eq_false_iff_ne]; omega
        have HR := Lib.hid hr
        clear hr hd
        go_wp2
        go_roundw
        case rel =>
          refine ⟨p + 1, by omega, rfl, fun q hq => ?_⟩
          by_cases h : q = p
          · subst h; exact HR.out
          · exact HP.out q (by omega)
        case measure => simp; omega
    · obtain rfl : p = 16 := by omega
      have hnx := fun ty => run_next_end (P := Try.prog) w digs 16 ty (by decide)
      have e := dg_none HP.out
      have E := Lib.hid e
      clear e
      go_wp2
      go_ret
      rw [E.out]
      exact ⟨rfl, (Kp.refl _).alloc _⟩

/-- an iterator over a string in whatever world -/
def itAt (w : World) (b : Nat) (s : ByteArray) (pos : Nat) : World := { w with heap := w.heap.setIfInBounds b (.stringIter s pos) }
theorem itAt_heap {w : World} {b : Nat} {s : ByteArray} {pos : Nat} (h : b < w.heap.size) : (itAt w b s pos).heap[b]? = some (.stringIter s pos) := by
  simp [itAt, h]
theorem itAt_other {w : World} {b k : Nat} {s : ByteArray} {pos : Nat} (h : k ≠ b) : (itAt w b s pos).heap[k]? = w.heap[k]? := by
  simp [itAt, Ne.symm h]
theorem Kp.itAt {w0 w : World} {b : Nat} {s : ByteArray} {pos : Nat} (h : Kp w0 w) (hb : w0.heap.size ≤ b) : Kp w0 (itAt w b s pos) :=
  ⟨h.os, h.tape, h.output, by simpa [Go.Proofs.Ytibbpineaekfoaa.itAt] using h.size, fun k hk => (itAt_other (by omega)).trans (h.block k hk)⟩
theorem run_next_in {P : Program} {w : World} {b : Nat} {s : ByteArray} {pos : Nat} (hb : w.heap[b]? = some (.stringIter s pos)) (h : pos < s.size) (ty : TypeId) :
    (Instr.next (.pointer (some ⟨b, 0, none⟩)) true ty).run P w = .ok (.tuple #[.bool true, .int .i64 pos, .int .i32 (Utf8.decode s pos).1]) (itAt w b s (pos + (Utf8.decode s pos).2)) := by
  simp only [Instr.next, getObj, setObj, Sem.run_bind, Sem.run, hb, Result.andThen, h, if_true]
  simp [goInt, itAt]
theorem run_next_out {P : Program} {w : World} {b : Nat} {s : ByteArray} {pos : Nat} (hb : w.heap[b]? = some (.stringIter s pos)) (h : ¬ pos < s.size) (ty : TypeId) :
    (Instr.next (.pointer (some ⟨b, 0, none⟩)) true ty).run P w = .ok (.tuple #[.bool false]) w := by
  simp [Instr.next, getObj, Sem.run, hb, h]

theorem good_take {l : List UInt8} {k : Nat} {c : UInt8} (h : Oc.good (l.take k)) (hc : l[k]? = some c) (hd : 0 ≤ Oc.dg c.toNat) : Oc.good (l.take (k + 1)) := by
  rw [List.take_add_one, hc]
  exact Oc.good_snoc h hd

/-- what octets.Unhex has in hand behind k bytes: the half of a pair -/
def halfOf (l : List UInt8) (k : Nat) : Int := if k % 2 = 1 then Oc.dg ((l[k - 1]?).getD 0).toNat else -1
theorem pairs_even_step {l : List UInt8} {k : Nat} {c : UInt8} (hk : k % 2 = 0) (hc : l[k]? = some c) : Oc.pairs (l.take (k + 1)) = Oc.pairs (l.take k) := by
  have hl : k < l.length := by
    rcases Nat.lt_or_ge k l.length with h | h
    · exact h
    · rw [List.getElem?_eq_none h] at hc; cases hc
  rw [List.take_add_one, hc]
  exact Oc.pairs_half _ _ (by rw [List.length_take]; omega)
theorem pairs_odd_step {l : List UInt8} {k : Nat} {a c : UInt8} (hk : k % 2 = 1) (ha : l[k - 1]? = some a) (hc : l[k]? = some c) :
    Oc.pairs (l.take (k + 1)) = Oc.pairs (l.take k) ++ [UInt8.ofNat (16 * Oc.dg a.toNat + Oc.dg c.toNat).toNat] := by
  have hl : k < l.length := by
    rcases Nat.lt_or_ge k l.length with h | h
    · exact h
    · rw [List.getElem?_eq_none h] at hc; cases hc
  obtain ⟨j, rfl⟩ : ∃ j, k = j + 1 := ⟨k - 1, by omega⟩
  rw [show j + 1 - 1 = j by omega] at ha
  rw [List.take_add_one, hc, List.take_add_one (i := j), ha]
  exact Oc.pairs_whole _ _ _ (by rw [List.length_take]; omega)
theorem pairs_len (l : List UInt8) : (Oc.pairs l).length ≤ l.length := by
  have key : ∀ n, ∀ l : List UInt8, l.length ≤ n → (Oc.pairs l).length ≤ l.length := by
    intro n
    induction n with
    | zero =>
      intro l h
      have e : l = [] := List.eq_nil_of_length_eq_zero (by omega)
      subst e
      simp [Oc.pairs]
    | succ n ih =>
      intro l h
      match l, h with
      | [], _ => simp [Oc.pairs]
      | [a], _ => simp [Oc.pairs]
      | a :: b :: l, h =>
        have := ih l (by simp at h; omega)
        simp only [Oc.pairs, List.length_cons]; omega
  exact key _ l (Nat.le_refl _)

set_option maxHeartbeats 2000000 in
theorem unhex_any (w : World) (l : List UInt8) (hl : l.length ≤ 65536) :
    Calls Try.prog 30 #[.string (str l)] w (BytesPost w (Oc.unhex l)) := by
  have hsz := str_size l
  have own0 : OwnV 5 ((w.alloc (.cells #[] 5)).iter (str l) 0) w.heap.size w.heap.size 0 0 (bvs []) := (OwnV.lit (vs := []) rfl (Nat.le_refl _) rfl (by decide)).keep ((Kp.refl _).alloc _)
  have hk0 : Kp w ((w.alloc (.cells #[] 5)).iter (str l) 0) := ((Kp.refl w).alloc _).alloc _
  have hit : ((w.alloc (.cells #[] 5)).iter (str l) 0).heap[w.heap.size + 1]? = some (.stringIter (str l) 0) := by
    have := (w.alloc (.cells #[] 5)).iter_heap (str l) 0
    rwa [show (w.alloc (.cells #[] 5)).heap.size = w.heap.size + 1 by simp] at this
  go_enter Try.func30, Try.ntmps30
  go_wp2
  go_loopw [4, 5] (fun v hf wr => ∃ (k g cap : Nat), k ≤ l.length ∧ v = .slice (some ⟨g, 0, none⟩) (Oc.pairs (l.take k)).length cap ∧ hf = .int .i64 (halfOf l k) ∧ Oc.good (l.take k) ∧ wr.heap[w.heap.size + 1]? = some (.stringIter (str l) k) ∧
      g ≠ w.heap.size + 1 ∧ OwnV 5 wr w.heap.size g (Oc.pairs (l.take k)).length cap (bvs (Oc.pairs (l.take k))) ∧ Kp w wr)
    (fun _ _ wr => l.length - wr.iterPos (w.heap.size + 1))
  case atStart => exact ⟨0, _, _, Nat.zero_le _, rfl, rfl, fun c hc => by simp at hc, hit, by omega, own0, hk0⟩
  case round =>
    obtain ⟨k, g, cap, hk, rfl, rfl, hgood, hit, hg, hown, hkp⟩ := hrel
    by_cases hlt : k < l.length
    · have hnx := run_next_in (P := Try.prog) hit (by rw [hsz]; exact hlt)
      obtain ⟨c, hc⟩ : ∃ c, l[k]? = some c := ⟨_, List.getElem?_eq_getElem hlt⟩
      have hb := c.toNat_lt
      have hgc : ∀ h, (str l)[k]'h = c := fun h => by rw [str_get]; rw [List.getElem?_eq_getElem hlt] at hc; injection hc
      have hblt : w.heap.size + 1 < wr.heap.size := (Array.getElem?_eq_some_iff.1 hit).1
      have hdec : (c.toNat < 128 ∧ Utf8.decode (str l) k = (c.toNat, 1)) ∨ (128 ≤ c.toNat ∧ 128 ≤ (Utf8.decode (str l) k).1) := by
        have hks : k < (str l).size := by rw [hsz]; exact hlt
        rcases Nat.lt_or_ge c.toNat 128 with h | h
        · have := decode_ascii (str l) k hks (by rw [hgc]; exact h)
          rw [hgc] at this
          exact .inl ⟨h, this⟩
        · exact .inr ⟨h, (decode_high (str l) k hks (by rw [hgc]; exact h)).1⟩
      have HC := Lib.hid hc
      have HGD := Lib.hid hgood
      have HOW := Lib.hid hown
      have hkn : Kp w (itAt wr (w.heap.size + 1) (str l) (k + (Utf8.decode (str l) k).2)) := hkp.itAt (by omega)
      have hin := itAt_heap (w := wr) (s := str l) (pos := k + (Utf8.decode (str l) k).2) hblt
      have hon : OwnV 5 (itAt wr (w.heap.size + 1) (str l) (k + (Utf8.decode (str l) k).2)) w.heap.size g (Oc.pairs (l.take k)).length cap (bvs (Oc.pairs (l.take k))) := by
        obtain ⟨h1, h2, h3, h4, cur, h5, h6, h7⟩ := hown.out
        exact OwnV.mk' h1 ((itAt_other hg).trans h5) h3 h4 h6 h7
      clear hc hgood hown hgc hb own0 hk0
      generalize hrr : (Utf8.decode (str l) k).1 = r at hnx hdec
      generalize hww : (Utf8.decode (str l) k).2 = width at hnx hkn hin hon
      generalize hWN : itAt wr (w.heap.size + 1) (str l) (k + width) = wn at hnx hkn hin hon
      have hcase : (0 ≤ Oc.dg c.toNat ∧ r = c.toNat ∧ width = 1) ∨ (Oc.dg c.toNat < 0 ∧ Oc.dg r < 0) := by
        rcases hdec with ⟨h, he⟩ | ⟨h, h2⟩
        · rw [he] at hrr hww
          subst hrr
          subst hww
          rcases Int.lt_or_le (Oc.dg c.toNat) 0 with h3 | h3
          · exact .inr ⟨h3, h3⟩
          · exact .inl ⟨h3, rfl, rfl⟩
        · exact .inr ⟨by rw [Oc.dg_high _ h]; decide, by rw [Oc.dg_high _ h2]; decide⟩
      have HIT := Lib.hid hit
      clear hdec hrr hww hWN hit hkp
      have HKN := Lib.hid hkn
      have HIN := Lib.hid hin
      have HON := Lib.hid hon
      clear hkn hin hon
      rcases hcase with ⟨hd0, rfl, rfl⟩ | ⟨hd0, hd1⟩
      · have hd2 := Oc.dg_lt c.toNat
        obtain ⟨dv, hdv⟩ : ∃ dv, Oc.dg c.toNat = dv := ⟨_, rfl⟩
        have HDV := Lib.hid hdv
        rw [hdv] at hd0 hd2
        clear hdv
        rcases Nat.mod_two_eq_zero_or_one k with hpar | hpar
        · have hh : halfOf l k = -1 := by unfold halfOf; rw [if_neg (by omega)]
          rw [hh]
          go_wp2_with (first | (go_at_call 35; refine (digit_any _ c.toNat).mono ?_; rintro e w5 ⟨rfl, hk5⟩; rw [HDV.out]))
          have HPE := Lib.hid (pairs_even_step hpar HC.out)
          go_roundw
          case rel =>
            refine ⟨k + 1, g, cap, by omega, by rw [HPE.out], ?_, good_take HGD.out HC.out (by rw [HDV.out]; exact hd0), ?_, hg, ?_, HKN.out.trans hk5⟩
            · unfold halfOf
              rw [if_pos (by omega), show k + 1 - 1 = k by omega, HC.out, Option.getD_some, HDV.out]
            · exact (hk5.block _ (Array.getElem?_eq_some_iff.1 HIN.out).1).trans HIN.out
            · rw [HPE.out]; exact HON.out.keep hk5
          case measure =>
            have hi5 := (hk5.block _ (Array.getElem?_eq_some_iff.1 HIN.out).1).trans HIN.out
            have e1 : w5.iterPos (w.heap.size + 1) = k + 1 := by simp [World.iterPos, hi5]
            have e2 : wr.iterPos (w.heap.size + 1) = k := by simp [World.iterPos, HIT.out]
            rw [e1, e2]; omega
        · obtain ⟨a, ha⟩ : ∃ a, l[k - 1]? = some a := ⟨_, List.getElem?_eq_getElem (by omega)⟩
          have hh : halfOf l k = Oc.dg a.toNat := by unfold halfOf; rw [if_pos hpar, ha]; rfl
          have hx0 : 0 ≤ Oc.dg a.toNat := HGD.out a (List.mem_of_getElem? (i := k - 1) (by rw [List.getElem?_take, if_pos (by omega)]; exact ha))
          have hx1 := Oc.dg_lt a.toNat
          have HPO := Lib.hid (pairs_odd_step hpar ha HC.out)
          rw [hh]
          obtain ⟨xv, hxv⟩ : ∃ xv, Oc.dg a.toNat = xv := ⟨_, rfl⟩
          rw [hxv] at hx0 hx1 HPO ⊢
          rw [HDV.out] at HPO
          clear ha hh hxv
          have hu8 : IntKind.u8.wrap (16 * xv + dv) = 16 * xv + dv := wrap_u8 (by omega) (by omega)
          have hpl := pairs_len (l.take k)
          rw [List.length_take] at hpl
          have HPL := Lib.hid (show (Oc.pairs (l.take k)).length + 1 ≤ 140737488355328 by omega)
          clear hpl
          go_wp2_with (first
            | (go_at_call 35; refine (digit_any _ c.toNat).mono ?_; rintro e w5 ⟨rfl, hk5⟩; rw [HDV.out]; have HK5 := Lib.hid hk5; have own5 := (HON.out.keep hk5).keep ((Kp.refl w5).alloc (.cells #[.int .u8 (16 * xv + dv)] 5)); have hk6 := (HKN.out.trans hk5).alloc (.cells #[.int .u8 (16 * xv + dv)] 5))
            | (at_builtin; refine app8 (by rfl) (.tmp 17) (.tmp 23) rfl rfl rfl own5 (rd_lit (lo := 0) (l := [UInt8.ofNat (16 * xv + dv).toNat]) rfl (Nat.zero_le _) rfl (by
                have e8 : (((UInt8.ofNat (16 * xv + dv).toNat).toNat : Nat) : Int) = 16 * xv + dv := by rw [UInt8.toNat_ofNat']; omega
                simp only [bvs, List.map_cons, List.map_nil, e8])) ((Oc.pairs (l.take k)).length + 1) (Oc.pairs (l.take (k + 1))) rfl HPO.out.symm HPL.out hk6.size ?_; intro g7 cap7 w7 own7 gr7 at7; have hk7 := hk6.grown gr7 HON.out.lo_le))
          have hi5 := (HK5.out.block _ (Array.getElem?_eq_some_iff.1 HIN.out).1).trans HIN.out
          have hlt5 := (Array.getElem?_eq_some_iff.1 hi5).1
          have hi6 := (Below.heap_alloc w5 (.cells #[.int .u8 (16 * xv + dv)] 5) _ hlt5).trans hi5
          have hi7 := (gr7.block _ (Array.getElem?_eq_some_iff.1 hi6).1 (fun e => hg (by injection e with e; exact e.symm))).trans hi6
          go_roundw
          case rel =>
            have hlen : (Oc.pairs (l.take (k + 1))).length = (Oc.pairs (l.take k)).length + 1 := by rw [HPO.out]; simp
            refine ⟨k + 1, g7, cap7, by omega, by rw [hlen], ?_, good_take HGD.out HC.out (by rw [HDV.out]; exact hd0), hi7, ?_, ?_, hk7⟩
            · unfold halfOf
              rw [if_neg (by omega)]
            · rcases at7 with h | h
              · rw [h]; exact hg
              · rw [h]; simp; omega
            · rw [hlen]; exact own7
          case measure =>
            have e1 : w7.iterPos (w.heap.size + 1) = k + 1 := by simp [World.iterPos, hi7]
            have e2 : wr.iterPos (w.heap.size + 1) = k := by simp [World.iterPos, HIT.out]
            rw [e1, e2]; omega
      · obtain ⟨dv, hdv⟩ : ∃ dv, Oc.dg r = dv := ⟨_, rfl⟩
        have HDV := Lib.hid hdv
        rw [hdv] at hd1
        clear hdv
        have HU := Lib.hid (Oc.unhex_bad HC.out hd0)
        clear hd0
        go_wp2_with (first | (go_at_call 35; refine (digit_any _ r).mono ?_; rintro e w5 ⟨rfl, hk5⟩; rw [HDV.out]))
        go_ret2
        rw [HU.out]
        exact ⟨HKN.out.trans hk5, none, 0, rfl, Rd.none_ _ _, slNil⟩
    · obtain rfl : k = l.length := by omega
      have hnx := run_next_out (P := Try.prog) hit (by rw [hsz]; omega)
      rw [List.take_length] at hown hgood ⊢
      have HGD := Lib.hid hgood
      have HOW := Lib.hid hown
      clear hgood hown hit own0 hk0
      rcases Nat.mod_two_eq_zero_or_one l.length with hpar | hpar
      · have hh : halfOf l l.length = -1 := by unfold halfOf; rw [if_neg (by omega)]
        rw [hh]
        have HU := Lib.hid (Oc.unhex_ok HGD.out hpar)
        go_wp2
        go_ret2
        rw [HU.out]
        exact BytesPost.mk' hkp rfl (OwnV.rd HOW.out) (SlOk.some_ (OwnV.out HOW.out).2.2.1 (OwnV.out HOW.out).2.2.2.1)
      · have hh : 0 ≤ halfOf l l.length := by
          unfold halfOf
          rw [if_pos hpar]
          exact HGD.out _ (by
            obtain ⟨a, ha⟩ : ∃ a, l[l.length - 1]? = some a := ⟨_, List.getElem?_eq_getElem (by omega)⟩
            rw [ha]
            exact List.mem_of_getElem? ha)
        obtain ⟨hv, hhv⟩ : ∃ hv, halfOf l l.length = hv := ⟨_, rfl⟩
        rw [hhv] at hh ⊢
        clear hhv
        have HU := Lib.hid (Oc.unhex_cut HGD.out hpar)
        go_wp2
        go_ret2
        rw [HU.out]
        exact ⟨hkp, none, 0, rfl, Rd.none_ _ _, slNil⟩
end Go.Proofs.Ytibbpineaekfoaa
