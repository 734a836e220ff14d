/-
  The walk of OctetsSplits: it returns true and leaves what was there as it was.
-/
import Derived.Test.YtibbpineaekfoaaLives1
namespace Go.Proofs.Ytibbpineaekfoaa
open Go.RowKit

theorem Rd2.setCell {w : World} {lo n : Nat} {A : Option Addr} {ls : List (List UInt8)} (h : Rd2 w lo A n ls) {a : Addr} (ha : a.block < lo) (u : Value) : Rd2 (w.setCell a u) lo A n ls :=
  ⟨h.1, fun hn => by
    obtain ⟨g, off, e, hl, hc⟩ := h.2 hn
    refine ⟨g, off, e, hl, fun j l hj => ?_⟩
    obtain ⟨A', n', c', h1, h2⟩ := hc j l hj
    refine ⟨A', n', c', ?_, h2.setCell ha u⟩
    rw [World.cell?_setCell_other w a _ u (fun e => by have := congrArg Addr.block e; simp at this; omega)]
    exact h1⟩
theorem Rd2.mono_lo {w : World} {lo lo' n : Nat} {A : Option Addr} {ls : List (List UInt8)} (h : Rd2 w lo A n ls) (hl : lo' ≤ lo) : Rd2 w lo' A n ls :=
  ⟨h.1, fun hn => by
    obtain ⟨g, off, e, h2, hc⟩ := h.2 hn
    refine ⟨g, off, e, by omega, fun j l hj => ?_⟩
    obtain ⟨A', n', c', h1, h3⟩ := hc j l hj
    exact ⟨A', n', c', h1, RdV.mono_lo h3 hl⟩⟩

theorem flat_le (ls : List (List UInt8)) (k : Nat) : (ls.take k).flatten.length ≤ ls.flatten.length := by
  have h := congrArg (fun l : List (List UInt8) => l.flatten.length) (List.take_append_drop k ls)
  simp only [List.flatten_append, List.length_append] at h
  omega
theorem split_none {l : List UInt8} {zs : List Int} (h : (Sp.split l zs).2 ≠ 0) : (Sp.split l zs).1 = [] := by
  have := Sp.pre_nil l zs
  unfold Sp.pre at this
  rw [if_neg h] at this
  exact (congrArg Prod.fst this).symm

theorem SplitPost.out {w : World} {l : List UInt8} {zs : List Int} {e : Ending} {w' : World} (h : SplitPost w l zs e w') :
    Kp w w' ∧ ∃ A n c, e = .returned (.tuple #[.slice A n c, .int .i64 (Sp.split l zs).2]) ∧ Rd2 w' w.heap.size A n (Sp.split l zs).1 ∧ n ≤ zs.length + 1 := by
  obtain ⟨hk, v, he, hc⟩ := h
  refine ⟨hk, ?_⟩
  rcases hc with ⟨h0, rfl⟩ | ⟨h0, g, cap, vs, rfl, hown, hps⟩
  · exact ⟨none, 0, 0, he, by rw [split_none h0]; exact ⟨rfl, fun h => absurd h (by omega)⟩, by omega⟩
  · exact ⟨_, _, _, he, hps.rd2 hown, Sp.len_le zs l⟩

set_option maxHeartbeats 2000000 in
theorem splits_walk (w : World) (A : Option Addr) (n c : Nat) (l : List UInt8) (B : Option Addr) (k d : Nat) (zs : List Int)
    (hA : Rd w 0 A n l) (hn : n ≤ 140737488351232) (hB : RdV w 0 B k (zs.map (Value.int .i64))) (hk : k ≤ 140737488351232) :
    Calls Try.prog 8 #[.slice A n c, .slice B k d] w fun e w' => e = .returned (.bool true) ∧ Kp w w' := by
  have HA := Lib.hid hA
  have HB := Lib.hid hB
  have HL := Lib.hid hA.len
  have HZ : Hid (zs.length = k) := Lib.hid (by simpa using hB.1)
  clear hA hB
  by_cases h : 500 < n
  · go_enter Try.func8, Try.ntmps8
    go_wp2_with (first | (go_at_call 21; refine (lives1_any _).mono ?_; rintro e w1 ⟨rfl, hk⟩))
    go_ret
    exact ⟨rfl, Kp.trans (by assumption) hk⟩
  by_cases h2 : 50 < k
  · go_enter Try.func8, Try.ntmps8
    go_wp2_with (first | (go_at_call 21; refine (lives1_any _).mono ?_; rintro e w1 ⟨rfl, hk⟩))
    go_ret
    exact ⟨rfl, Kp.trans (by assumption) hk⟩
  go_enter Try.func8, Try.ntmps8
  go_wp2_with fail
  refine (lives1_any _).mono ?_
  rintro e w1 ⟨rfl, hk1⟩
  have own0 : OwnV 5 (w1.alloc (.cells #[] 5)) w.heap.size w1.heap.size 0 0 (bvs []) := OwnV.lit (vs := []) rfl hk1.size rfl (by decide)
  have hka : Kp w (w1.alloc (.cells #[] 5)) := hk1.alloc _
  clear hk1
  go_wp2_with (first | (at_builtin; refine app8 (by rfl) (.tmp 27) (.tmp 28) rfl rfl rfl own0 (HA.out.keep hka) n l (by omega) rfl (by omega) hka.size ?_; intro g1 cap1 w2 own1 gr1 at1; have hk2 := hka.grown gr1 own0.lo_le))
  have hg1 := own1.lt
  have hlo1 := own1.lo_le
  have HK2 := Lib.hid hk2
  have HO := Lib.hid own1
  clear own0 hka gr1 at1 hk2 own1
  refine (split_any _ _ n cap1 l B k d zs HO.out.rd0 HO.out.slOk (by omega) (HB.out.keep HK2.out) (by omega)).mono ?_
  intro e w3 hpost
  obtain ⟨hk3, A3, n3, c3, rfl, hr3, hn3⟩ := hpost.out
  clear hpost
  have hn3' : n3 ≤ 51 := by have := HZ.out; omega
  have cv := conv_str (P := Try.prog) (c := c) Try.underlying22 Try.underlying5 Try.underlying9 (HA.out.keep (HK2.out.trans hk3))
  have HK3 := Lib.hid hk3
  have HR3 := Lib.hid hr3
  clear hk3 hr3 hn3
  go_wp2_with fail
  refine (rsplit_any _ l (by have := HL.out; omega) B k d zs (HB.out.keep (HK2.out.trans HK3.out)) (by omega)).mono ?_
  rintro e w4 ⟨hk4, A4, n4, c4, rfl, hr4, hn4⟩
  have hr4' := hr4.mono_lo HK3.out.size
  have HK4 := Lib.hid hk4
  have HR4 := Lib.hid hr4'
  have HR3' := Lib.hid (HR3.out.keep hk4)
  have HJ := Lib.hid (Sp.join_ok zs l)
  have HFL : Hid ((Sp.split l zs).1.flatten.length ≤ 1048576) := Lib.hid (by
    by_cases h0 : (Sp.split l zs).2 = 0
    · rw [Sp.join_ok zs l h0, HL.out]; omega
    · rw [split_none h0]; simp)
  clear cv hk4 hr4 hr4' HR3
  obtain ⟨ls, hls⟩ : ∃ ls, (Sp.split l zs).1 = ls := ⟨_, rfl⟩
  obtain ⟨er, her⟩ : ∃ er, (Sp.split l zs).2 = er := ⟨_, rfl⟩
  rw [hls] at HR4 HR3' HJ HFL
  rw [her] at HJ ⊢
  clear hls her
  go_wp2_with (first | (go_at_call 24; refine (same_any _ A3 A4 n3 c3 n4 c4 ls ls (HR3'.out.mono_lo (Nat.zero_le _)) (RdV.lo0 HR4.out) (by omega) (by omega)).mono ?_; rintro e w' ⟨rfl, rfl⟩; rw [decide_eq_true rfl]))
  have hkw4 := (HK2.out.trans HK3.out).trans HK4.out
  have HK := Lib.hid hkw4
  have own4 := HO.out.keep (HK3.out.trans HK4.out)
  clear HO
  go_loopw [54] (fun i wr => ∃ (j : Nat) (q : List UInt8), j ≤ n ∧ i = .int .i64 j ∧ OwnV 5 wr w.heap.size g1 n cap1 (bvs q) ∧ Kp w wr ∧ Rd2 wr w2.heap.size A3 n3 ls ∧ RdV wr w2.heap.size A4 n4 (svs ls))
    (fun i _ => n - (intOf i).toNat)
  case atStart => exact ⟨0, l, Nat.zero_le _, rfl, own4, HK.out, HR3'.out, HR4.out⟩
  case round =>
    obtain ⟨j, q, hj, rfl, hown, hkp, hq3, hq4⟩ := hrel
    by_cases hlt : j < n
    · obtain ⟨c0, _, hc0⟩ := hown.cell8 hlt
      have hfz := hown.frozen j
      have HOW := Lib.hid hown
      have HKP := Lib.hid hkp
      have H3 := Lib.hid hq3
      have H4 := Lib.hid hq4
      clear hown hkp hq3 hq4 own4
      go_wp2
      go_round
      case rel =>
        refine ⟨j + 1, q.set j (UInt8.ofNat (((c0.toNat : Int) + 1) % 256).toNat), by omega, by go_num, ?_, HKP.out.setCell hlo1 _, H3.out.setCell hg1 _, RdV.setCell H4.out hg1 _⟩
        exact HOW.out.set8 j _ (by omega) (by omega)
      case measure => simp [intOf]; omega
    · obtain rfl : j = n := by omega
      have HKP := Lib.hid hkp
      have H3 := Lib.hid hq3
      have H4 := Lib.hid hq4
      clear hown hkp hq3 hq4 own4
      go_wp2_with (first | (go_at_call 24; refine (same_any _ A3 A4 n3 c3 n4 c4 ls ls (H3.out.mono_lo (Nat.zero_le _)) (RdV.lo0 H4.out) (by omega) (by omega)).mono ?_; rintro e w' ⟨rfl, rfl⟩; rw [decide_eq_true rfl]))
      go_loop [11, 70] (fun t i => ∃ m : Nat, m ≤ n3 ∧ i = .int .i64 m ∧ t = .string (str (ls.take m).flatten)) (fun _ i => n3 - (intOf i).toNat)
      case atStart => exact ⟨0, Nat.zero_le _, rfl, rfl⟩
      case round =>
        obtain ⟨m, hm, rfl, rfl⟩ := hrel
        have hap := str_append
        by_cases hlt : m < n3
        · obtain ⟨g5, o5, rfl, _⟩ := H3.out.at_ (by omega)
          obtain ⟨p, A', n', c', hp, hcell, hr⟩ := H3.out.cell hlt
          have cv := conv_str (P := Try.prog) (c := c') Try.underlying22 Try.underlying5 Try.underlying9 hr
          have HF : Hid ((ls.take (m + 1)).flatten = (ls.take m).flatten ++ p) := Lib.hid (by rw [List.take_add_one, hp]; simp)
          have hle : ((ls.take m).flatten ++ p).length ≤ 1048576 := by rw [← HF.out]; exact Nat.le_trans (flat_le ls (m + 1)) HFL.out
          rw [List.length_append] at hle
          have hsz := str_size
          obtain ⟨t, ht⟩ : ∃ t, (ls.take m).flatten = t := ⟨_, rfl⟩
          rw [ht] at hle HF ⊢
          clear hp hr ht
          go_wp2
          go_round
          case rel => exact ⟨m + 1, by omega, by go_num, by rw [HF.out]⟩
          case measure => simp [intOf]; omega
        · obtain rfl : m = n3 := by omega
          rw [List.take_of_length_le (by rw [H3.out.len]; omega)]
          have cv := conv_str (P := Try.prog) (c := c) Try.underlying22 Try.underlying5 Try.underlying9 (HA.out.keep HKP.out)
          by_cases h0 : er = 0
          · rw [HJ.out h0]
            have h0' : (er != 0) = false := by simp [h0]
            go_wp2
            go_ret
            exact ⟨rfl, HKP.out⟩
          · have h0' : (er != 0) = true := by simpa using h0
            go_wp2
            go_ret
            exact ⟨rfl, HKP.out⟩
end Go.Proofs.Ytibbpineaekfoaa
