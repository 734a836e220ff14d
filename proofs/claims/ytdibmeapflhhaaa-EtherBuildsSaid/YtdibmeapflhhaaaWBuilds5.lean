/-
  The walk of EtherBuilds: it returns true and leaves what was there as it was.
-/
import Derived.Test.YtdibmeapflhhaaaWBack5
import Derived.Test.YtdibmeapflhhaaaWParses5
namespace Go.Proofs.Ytdibmeapflhhaaa
open Go.RowKit

theorem frame_split (ty : Nat) (h : ty ≤ 65535) : 256 * (UInt8.ofNat (ty / 256)).toNat + (UInt8.ofNat (ty % 256)).toNat = ty := by
  rw [UInt8.toNat_ofNat', UInt8.toNat_ofNat']; omega

theorem row_of (w : World) {b k : Nat} {u : Value} {o : Obj} (h : w.heap[k]? = some o) (hk : k ≠ b) (j : Nat) : (w.setCell ⟨b, j, none⟩ u).heap[k]? = some o := (Below.heap_setCell w ⟨b, j, none⟩ u k hk).trans h

set_option maxRecDepth 100000 in
set_option maxHeartbeats 4000000 in
theorem builds_walk (w : World) (d0 d1 d2 d3 d4 d5 s0 s1 s2 s3 s4 s5 : UInt8) (ty : Nat) (A : Option Addr) (n c : Nat) (l : List UInt8) (hty : ty ≤ 65535) (hA : Rd w 0 A n l) (_hok : SlOk A n c) :
    Calls Try.prog 3 #[.agg #[.int .u8 (d0.toNat : Int), .int .u8 (d1.toNat : Int), .int .u8 (d2.toNat : Int), .int .u8 (d3.toNat : Int), .int .u8 (d4.toNat : Int), .int .u8 (d5.toNat : Int), .int .u8 (s0.toNat : Int), .int .u8 (s1.toNat : Int), .int .u8 (s2.toNat : Int), .int .u8 (s3.toNat : Int), .int .u8 (s4.toNat : Int), .int .u8 (s5.toNat : Int), .int .u16 (ty : Int), .slice A n c]] w fun e w' => e = .returned (.bool true) ∧ Kp w w' := by
  have HA := Lib.hid hA
  have HL := Lib.hid hA.len
  clear hA
  have hk0 : Kp w (w.alloc (.cells #[.int .u8 (d0.toNat : Int), .int .u8 (d1.toNat : Int), .int .u8 (d2.toNat : Int), .int .u8 (d3.toNat : Int), .int .u8 (d4.toNat : Int), .int .u8 (d5.toNat : Int), .int .u8 (s0.toNat : Int), .int .u8 (s1.toNat : Int), .int .u8 (s2.toNat : Int), .int .u8 (s3.toNat : Int), .int .u8 (s4.toNat : Int), .int .u8 (s5.toNat : Int), .int .u16 (ty : Int), .slice A n c] 27)) := (Kp.refl w).alloc _
  have hr0 := heap_alloc_new w (.cells #[.int .u8 (d0.toNat : Int), .int .u8 (d1.toNat : Int), .int .u8 (d2.toNat : Int), .int .u8 (d3.toNat : Int), .int .u8 (d4.toNat : Int), .int .u8 (d5.toNat : Int), .int .u8 (s0.toNat : Int), .int .u8 (s1.toNat : Int), .int .u8 (s2.toNat : Int), .int .u8 (s3.toNat : Int), .int .u8 (s4.toNat : Int), .int .u8 (s5.toNat : Int), .int .u16 (ty : Int), .slice A n c] 27)
  have HK0 := Lib.hid hk0
  have HR0 := Lib.hid hr0
  clear hk0 hr0
  by_cases h : 400 < n
  · go_enter Try.func3, Try.ntmps3
    go_wp2_with (first | (go_at_call 14; refine (lives_any _).mono ?_; rintro e w1 ⟨rfl, hk⟩; try have hcell : w1.cell? ⟨w.heap.size, 13, none⟩ = some (.slice A n c) := hk.cell ((cell_of_row _ _ 13 _ _ _ HR0.out).trans rfl)))
    all_goals go_ret
    all_goals exact ⟨rfl, (HK0.out.trans (by assumption)).trans hk⟩
  go_enter Try.func3, Try.ntmps3
  go_wp2_with fail
  refine (lives_any _).mono ?_
  rintro e w1 ⟨rfl, hk1⟩
  have hr1 := (hk1.block _ (Array.getElem?_eq_some_iff.1 HR0.out).1).trans HR0.out
  have HK1 := Lib.hid (HK0.out.trans hk1)
  have HR1 := Lib.hid hr1
  have hc1 : w1.cell? ⟨w.heap.size, 13, none⟩ = some (.slice A n c) := (cell_of_row w1 _ 13 _ _ _ hr1).trans rfl
  clear hk1 hr1
  have hlt1 : w.heap.size < w1.heap.size := (Array.getElem?_eq_some_iff.1 HR1.out).1
  have ka : Kp w1 ((w1.alloc (.cells #[.int .u8 (d0.toNat : Int), .int .u8 (d1.toNat : Int), .int .u8 (d2.toNat : Int), .int .u8 (d3.toNat : Int), .int .u8 (d4.toNat : Int), .int .u8 (d5.toNat : Int), .int .u8 (s0.toNat : Int), .int .u8 (s1.toNat : Int), .int .u8 (s2.toNat : Int), .int .u8 (s3.toNat : Int), .int .u8 (s4.toNat : Int), .int .u8 (s5.toNat : Int), .int .u16 (ty : Int), .slice A n c] 27)).alloc (.cells #[] 5)) := ((Kp.refl w1).alloc _).alloc _
  have hc2 := ka.cell hc1
  have own0 : OwnV 5 ((w1.alloc (.cells #[.int .u8 (d0.toNat : Int), .int .u8 (d1.toNat : Int), .int .u8 (d2.toNat : Int), .int .u8 (d3.toNat : Int), .int .u8 (d4.toNat : Int), .int .u8 (d5.toNat : Int), .int .u8 (s0.toNat : Int), .int .u8 (s1.toNat : Int), .int .u8 (s2.toNat : Int), .int .u8 (s3.toNat : Int), .int .u8 (s4.toNat : Int), .int .u8 (s5.toNat : Int), .int .u16 (ty : Int), .slice A n c] 27)).alloc (.cells #[] 5)) (w1.heap.size + 1) (w1.heap.size + 1) 0 0 (bvs []) := OwnV.lit (vs := []) (by simp) (Nat.le_refl _) rfl (by decide)
  have rowa := (Below.heap_alloc (w1.alloc (.cells #[.int .u8 (d0.toNat : Int), .int .u8 (d1.toNat : Int), .int .u8 (d2.toNat : Int), .int .u8 (d3.toNat : Int), .int .u8 (d4.toNat : Int), .int .u8 (d5.toNat : Int), .int .u8 (s0.toNat : Int), .int .u8 (s1.toNat : Int), .int .u8 (s2.toNat : Int), .int .u8 (s3.toNat : Int), .int .u8 (s4.toNat : Int), .int .u8 (s5.toNat : Int), .int .u16 (ty : Int), .slice A n c] 27)) (.cells #[] 5) w1.heap.size (by simp)).trans (heap_alloc_new w1 (.cells #[.int .u8 (d0.toNat : Int), .int .u8 (d1.toNat : Int), .int .u8 (d2.toNat : Int), .int .u8 (d3.toNat : Int), .int .u8 (d4.toNat : Int), .int .u8 (d5.toNat : Int), .int .u8 (s0.toNat : Int), .int .u8 (s1.toNat : Int), .int .u8 (s2.toNat : Int), .int .u8 (s3.toNat : Int), .int .u8 (s4.toNat : Int), .int .u8 (s5.toNat : Int), .int .u16 (ty : Int), .slice A n c] 27))
  have ROWA := Lib.hid rowa
  have rda := HA.out.keep (HK1.out.trans ka)
  have RDA := Lib.hid rda
  clear rowa rda
  go_wp2_with (first
    | (refine lld_row (by rfl) (.tmp 1) _ _ rfl rfl HR1.out Try.underlying27 rfl szFrame ?_)
    | (refine lst_new (by rfl) (.tmp 3) (.tmp 20) _ rfl rfl rfl szFrame rfl rfl rfl ?_)
    | (at_builtin; refine app8 (by rfl) (.tmp 21) (.tmp 23) rfl rfl rfl own0 RDA.out n l (by omega) rfl (by omega) (by simp) ?_; intro g1 cap1 w3 own1 gr1 at1; have row3 := (gr1.block w1.heap.size (by simp; omega) (fun e => by injection e with e; omega)).trans ROWA.out; have z3 : w3.cell? ⟨w1.heap.size, 13, none⟩ = some (.slice A n c) := (cell_of_row w3 _ 13 _ _ _ row3).trans rfl; have fz3 : w3.frozen? ⟨w1.heap.size, 13, none⟩ = false := by simp [World.frozen?, row3])
    | (refine lld_row (cs := #[.int .u8 (d0.toNat : Int), .int .u8 (d1.toNat : Int), .int .u8 (d2.toNat : Int), .int .u8 (d3.toNat : Int), .int .u8 (d4.toNat : Int), .int .u8 (d5.toNat : Int), .int .u8 (s0.toNat : Int), .int .u8 (s1.toNat : Int), .int .u8 (s2.toNat : Int), .int .u8 (s3.toNat : Int), .int .u8 (s4.toNat : Int), .int .u8 (s5.toNat : Int), .int .u16 (ty : Int), .slice (some ⟨g1, 0, none⟩) n cap1]) (by rfl) (.tmp 3) _ _ rfl rfl (row_setCell row3 13 _) Try.underlying27 rfl szFrame ?_))
  have hg1 : w1.heap.size + 1 ≤ g1 := own1.lo_le
  have hk3 : Kp w1 w3 := ka.grownR gr1 (fun k hk => by injection hk with hk; omega)
  have row4 : (w3.setCell ⟨w1.heap.size, 13, none⟩ (.slice (some ⟨g1, 0, none⟩) n cap1)).heap[w1.heap.size]? = some (.cells #[.int .u8 (d0.toNat : Int), .int .u8 (d1.toNat : Int), .int .u8 (d2.toNat : Int), .int .u8 (d3.toNat : Int), .int .u8 (d4.toNat : Int), .int .u8 (d5.toNat : Int), .int .u8 (s0.toNat : Int), .int .u8 (s1.toNat : Int), .int .u8 (s2.toNat : Int), .int .u8 (s3.toNat : Int), .int .u8 (s4.toNat : Int), .int .u8 (s5.toNat : Int), .int .u16 (ty : Int), .slice (some ⟨g1, 0, none⟩) n cap1] 27 (0, 0)) := row_setCell row3 13 _
  have own4 := own1.other (a := ⟨w1.heap.size, 13, none⟩) (by simp; omega) (.slice (some ⟨g1, 0, none⟩) n cap1)
  have hk4 : Kp w1 (w3.setCell ⟨w1.heap.size, 13, none⟩ (.slice (some ⟨g1, 0, none⟩) n cap1)) := hk3.setCell (Nat.le_refl _) _
  clear own0 own1 row3 z3 fz3 gr1 at1 hk3 ka hc1 hc2
  obtain ⟨w4, hw4⟩ : ∃ w4, w4 = w3.setCell ⟨w1.heap.size, 13, none⟩ (.slice (some ⟨g1, 0, none⟩) n cap1) := ⟨_, rfl⟩
  rw [← hw4] at row4 own4 hk4 ⊢
  clear hw4
  have HK4 := Lib.hid (HK1.out.trans hk4)
  have HR4 := Lib.hid ((hk4.block _ hlt1).trans HR1.out)
  have ROW4 := Lib.hid row4
  have OWN4 := Lib.hid own4
  have hlt3 : w1.heap.size < w4.heap.size := (Array.getElem?_eq_some_iff.1 row4).1
  have hltg1 : g1 < w4.heap.size := own4.lt
  clear hk4 row4 own4
  refine (build_any w4 d0 d1 d2 d3 d4 d5 s0 s1 s2 s3 s4 s5 ty hty _ n cap1 l OWN4.out.rd0).mono ?_
  rintro e w5 ⟨hk5, hcase⟩
  have HK5 := Lib.hid (HK4.out.trans hk5)
  have HR5 := Lib.hid ((hk5.block _ (Array.getElem?_eq_some_iff.1 HR4.out).1).trans HR4.out)
  have ROW5 := Lib.hid ((hk5.block _ (Array.getElem?_eq_some_iff.1 ROW4.out).1).trans ROW4.out)
  have OWN5 := Lib.hid (OWN4.out.keep hk5)
  have hs45 := hk5.size
  clear hk5 HR4 ROW4 OWN4
  rcases hcase with ⟨hlen, rfl⟩ | ⟨hlen, g, cap, rfl, hown⟩
  · have HLEN := Lib.hid hlen
    clear hlen
    go_wp2_with (refine lld_row (by rfl) (.tmp 1) _ _ rfl rfl HR5.out Try.underlying27 rfl szFrame ?_)
    refine (rbuild_any w5 d0 d1 d2 d3 d4 d5 s0 s1 s2 s3 s4 s5 ty hty A n c l (HA.out.keep HK5.out)).mono ?_
    rintro e w6 ⟨hk6, hcase⟩
    rcases hcase with ⟨_, rfl⟩ | ⟨h6, _⟩
    · have cv := conv_str (P := Try.prog) (c := 0) Try.underlying25 Try.underlying5 Try.underlying9 (Rd.none_ w6 0)
      go_wp2
      go_ret
      exact ⟨rfl, HK5.out.trans hk6⟩
    · exact absurd HLEN.out (by omega)
  · have HLEN := Lib.hid hlen
    have HO5 := Lib.hid hown
    clear hlen hown
    go_wp2_with (refine lld_row (by rfl) (.tmp 1) _ _ rfl rfl HR5.out Try.underlying27 rfl szFrame ?_)
    refine (rbuild_any w5 d0 d1 d2 d3 d4 d5 s0 s1 s2 s3 s4 s5 ty hty A n c l (HA.out.keep HK5.out)).mono ?_
    rintro e w6 ⟨hk6, hcase⟩
    rcases hcase with ⟨h6, _⟩ | ⟨_, rfl⟩
    · exact absurd HLEN.out (by omega)
    have HK6 := Lib.hid (HK5.out.trans hk6)
    have HR6 := Lib.hid ((hk6.block _ (Array.getElem?_eq_some_iff.1 HR5.out).1).trans HR5.out)
    have ROW6 := Lib.hid ((hk6.block _ (Array.getElem?_eq_some_iff.1 ROW5.out).1).trans ROW5.out)
    have OWN6 := Lib.hid (OWN5.out.keep hk6)
    have HO6 := Lib.hid (HO5.out.keep hk6)
    have hs56 := hk6.size
    have hgl := HO5.out.lt
    have hglo := HO5.out.lo_le
    clear hk6 HR5 ROW5 OWN5 HO5
    have hfb : frameBytes [d0, d1, d2, d3, d4, d5] [s0, s1, s2, s3, s4, s5] ty l = d0 :: d1 :: d2 :: d3 :: d4 :: d5 :: s0 :: s1 :: s2 :: s3 :: s4 :: s5 :: UInt8.ofNat (ty / 256) :: UInt8.ofNat (ty % 256) :: l := rfl
    have HFB := Lib.hid hfb
    have cv := conv_str (P := Try.prog) (c := cap) Try.underlying25 Try.underlying5 Try.underlying9 HO6.out.rd0
    generalize hsb : str (frameBytes [d0, d1, d2, d3, d4, d5] [s0, s1, s2, s3, s4, s5] ty l) = sb at cv ⊢
    clear hsb hfb
    go_wp2_with fail
    refine (parse_ok w6 _ (14 + l.length) cap d0 d1 d2 d3 d4 d5 s0 s1 s2 s3 s4 s5 _ _ l HLEN.out (by rw [← HFB.out]; exact HO6.out.rd0) HO6.out.slOk).mono ?_
    rintro e w7 ⟨hk7, A7, c7, rfl, hr7, _⟩
    rw [frame_split ty hty]
    have HK7 := Lib.hid (HK6.out.trans hk7)
    have hr8 := (Below.heap_alloc w7 (.cells #[.int .u8 (d0.toNat : Int), .int .u8 (d1.toNat : Int), .int .u8 (d2.toNat : Int), .int .u8 (d3.toNat : Int), .int .u8 (d4.toNat : Int), .int .u8 (d5.toNat : Int), .int .u8 (s0.toNat : Int), .int .u8 (s1.toNat : Int), .int .u8 (s2.toNat : Int), .int .u8 (s3.toNat : Int), .int .u8 (s4.toNat : Int), .int .u8 (s5.toNat : Int), .int .u16 (ty : Int), .slice A7 l.length c7] 27) _ (Array.getElem?_eq_some_iff.1 ((hk7.block _ (Array.getElem?_eq_some_iff.1 HR6.out).1).trans HR6.out)).1).trans ((hk7.block _ (Array.getElem?_eq_some_iff.1 HR6.out).1).trans HR6.out)
    have row8 := (Below.heap_alloc w7 (.cells #[.int .u8 (d0.toNat : Int), .int .u8 (d1.toNat : Int), .int .u8 (d2.toNat : Int), .int .u8 (d3.toNat : Int), .int .u8 (d4.toNat : Int), .int .u8 (d5.toNat : Int), .int .u8 (s0.toNat : Int), .int .u8 (s1.toNat : Int), .int .u8 (s2.toNat : Int), .int .u8 (s3.toNat : Int), .int .u8 (s4.toNat : Int), .int .u8 (s5.toNat : Int), .int .u16 (ty : Int), .slice A7 l.length c7] 27) _ (Array.getElem?_eq_some_iff.1 ((hk7.block _ (Array.getElem?_eq_some_iff.1 ROW6.out).1).trans ROW6.out)).1).trans ((hk7.block _ (Array.getElem?_eq_some_iff.1 ROW6.out).1).trans ROW6.out)
    have own8 := (OWN6.out.keep hk7).keep ((Kp.refl w7).alloc (.cells #[.int .u8 (d0.toNat : Int), .int .u8 (d1.toNat : Int), .int .u8 (d2.toNat : Int), .int .u8 (d3.toNat : Int), .int .u8 (d4.toNat : Int), .int .u8 (d5.toNat : Int), .int .u8 (s0.toNat : Int), .int .u8 (s1.toNat : Int), .int .u8 (s2.toNat : Int), .int .u8 (s3.toNat : Int), .int .u8 (s4.toNat : Int), .int .u8 (s5.toNat : Int), .int .u16 (ty : Int), .slice A7 l.length c7] 27))
    have ho8 := (HO6.out.keep hk7).keep ((Kp.refl w7).alloc (.cells #[.int .u8 (d0.toNat : Int), .int .u8 (d1.toNat : Int), .int .u8 (d2.toNat : Int), .int .u8 (d3.toNat : Int), .int .u8 (d4.toNat : Int), .int .u8 (d5.toNat : Int), .int .u8 (s0.toNat : Int), .int .u8 (s1.toNat : Int), .int .u8 (s2.toNat : Int), .int .u8 (s3.toNat : Int), .int .u8 (s4.toNat : Int), .int .u8 (s5.toNat : Int), .int .u16 (ty : Int), .slice A7 l.length c7] 27))
    have rd8 : Rd (w7.alloc (.cells #[.int .u8 (d0.toNat : Int), .int .u8 (d1.toNat : Int), .int .u8 (d2.toNat : Int), .int .u8 (d3.toNat : Int), .int .u8 (d4.toNat : Int), .int .u8 (d5.toNat : Int), .int .u8 (s0.toNat : Int), .int .u8 (s1.toNat : Int), .int .u8 (s2.toNat : Int), .int .u8 (s3.toNat : Int), .int .u8 (s4.toNat : Int), .int .u8 (s5.toNat : Int), .int .u16 (ty : Int), .slice A7 l.length c7] 27)) w6.heap.size A7 l.length l := Rd.keep hr7 ((Kp.refl w7).alloc _)
    have x8 := heap_alloc_new w7 (.cells #[.int .u8 (d0.toNat : Int), .int .u8 (d1.toNat : Int), .int .u8 (d2.toNat : Int), .int .u8 (d3.toNat : Int), .int .u8 (d4.toNat : Int), .int .u8 (d5.toNat : Int), .int .u8 (s0.toNat : Int), .int .u8 (s1.toNat : Int), .int .u8 (s2.toNat : Int), .int .u8 (s3.toNat : Int), .int .u8 (s4.toNat : Int), .int .u8 (s5.toNat : Int), .int .u16 (ty : Int), .slice A7 l.length c7] 27)
    have hk8 : Kp w (w7.alloc (.cells #[.int .u8 (d0.toNat : Int), .int .u8 (d1.toNat : Int), .int .u8 (d2.toNat : Int), .int .u8 (d3.toNat : Int), .int .u8 (d4.toNat : Int), .int .u8 (d5.toNat : Int), .int .u8 (s0.toNat : Int), .int .u8 (s1.toNat : Int), .int .u8 (s2.toNat : Int), .int .u8 (s3.toNat : Int), .int .u8 (s4.toNat : Int), .int .u8 (s5.toNat : Int), .int .u16 (ty : Int), .slice A7 l.length c7] 27)) := HK7.out.alloc _
    have hs67 := hk7.size
    have HR8 := Lib.hid hr8
    have ROW8 := Lib.hid row8
    have OWN8 := Lib.hid own8
    have HO8 := Lib.hid ho8
    have RD8 := Lib.hid rd8
    have X8 := Lib.hid x8
    have HK8 := Lib.hid hk8
    clear hk7 hr7 hr8 row8 own8 ho8 rd8 x8 hk8 cv
    go_wp2_with (refine lst_new (by rfl) (.tmp 8) (.tmp 50) _ rfl rfl rfl szFrame rfl rfl rfl ?_)
    go_loopw [54] (fun i wr => ∃ (j : Nat) (q : List UInt8), j ≤ 14 + l.length ∧ i = .int .i64 j ∧ OwnV 5 wr w4.heap.size g (14 + l.length) cap (bvs q) ∧ Kp w wr ∧ wr.heap[w7.heap.size]? = some (.cells #[.int .u8 (d0.toNat : Int), .int .u8 (d1.toNat : Int), .int .u8 (d2.toNat : Int), .int .u8 (d3.toNat : Int), .int .u8 (d4.toNat : Int), .int .u8 (d5.toNat : Int), .int .u8 (s0.toNat : Int), .int .u8 (s1.toNat : Int), .int .u8 (s2.toNat : Int), .int .u8 (s3.toNat : Int), .int .u8 (s4.toNat : Int), .int .u8 (s5.toNat : Int), .int .u16 (ty : Int), .slice A7 l.length c7] 27 (0, 0)) ∧
        wr.heap[w1.heap.size]? = some (.cells #[.int .u8 (d0.toNat : Int), .int .u8 (d1.toNat : Int), .int .u8 (d2.toNat : Int), .int .u8 (d3.toNat : Int), .int .u8 (d4.toNat : Int), .int .u8 (d5.toNat : Int), .int .u8 (s0.toNat : Int), .int .u8 (s1.toNat : Int), .int .u8 (s2.toNat : Int), .int .u8 (s3.toNat : Int), .int .u8 (s4.toNat : Int), .int .u8 (s5.toNat : Int), .int .u16 (ty : Int), .slice (some ⟨g1, 0, none⟩) n cap1] 27 (0, 0)) ∧ wr.heap[w.heap.size]? = some (.cells #[.int .u8 (d0.toNat : Int), .int .u8 (d1.toNat : Int), .int .u8 (d2.toNat : Int), .int .u8 (d3.toNat : Int), .int .u8 (d4.toNat : Int), .int .u8 (d5.toNat : Int), .int .u8 (s0.toNat : Int), .int .u8 (s1.toNat : Int), .int .u8 (s2.toNat : Int), .int .u8 (s3.toNat : Int), .int .u8 (s4.toNat : Int), .int .u8 (s5.toNat : Int), .int .u16 (ty : Int), .slice A n c] 27 (0, 0)) ∧ OwnV 5 wr (w1.heap.size + 1) g1 n cap1 (bvs l) ∧ Rd wr w6.heap.size A7 l.length l)
      (fun i _ => 14 + l.length - (intOf i).toNat)
    case atStart => exact ⟨0, _, Nat.zero_le _, rfl, HO8.out, HK8.out, X8.out, ROW8.out, HR8.out, OWN8.out, RD8.out⟩
    case round =>
      obtain ⟨j, q, hj, rfl, hown, hkp, hx, hrow, hf, hown1, hrd⟩ := hrel
      have HX := Lib.hid hx
      have HROW := Lib.hid hrow
      have HF := Lib.hid hf
      have HOW1 := Lib.hid hown1
      have HRD := Lib.hid hrd
      clear hx hrow hf hown1 hrd
      by_cases hlt : j < 14 + l.length
      · obtain ⟨c0, _, hc0⟩ := hown.cell8 hlt
        have hfz := hown.frozen j
        have HOW := Lib.hid hown
        have HKP := Lib.hid hkp
        clear hown hkp
        have hlt' : (j : Int) < 14 + (l.length : Int) := by omega
        go_wp2
        go_round
        case rel =>
          exact ⟨j + 1, q.set j (UInt8.ofNat (((c0.toNat : Int) + 1) % 256).toNat), by omega, by go_num, HOW.out.set8 j _ (by omega) (by omega), HKP.out.setCell (p := ⟨g, j, none⟩) (by show w.heap.size ≤ g; omega) _,
            row_of wr HX.out (by omega) j, row_of wr HROW.out (by omega) j, row_of wr HF.out (by omega) j, HOW1.out.other (a := ⟨g, j, none⟩) (by show g1 ≠ g; omega) _, HRD.out.setCell (a := ⟨g, j, none⟩) (by show g < w6.heap.size; omega) _⟩
        case measure => simp [intOf]; omega
      · obtain rfl : j = 14 + l.length := by omega
        have HKP := Lib.hid hkp
        clear hkp hown
        have hlt' : ¬ (14 + (l.length : Int) < 14 + (l.length : Int)) := by omega
        go_wp2_with (first | (refine lld_row (by rfl) (.tmp 8) _ _ rfl rfl HX.out Try.underlying27 rfl szFrame ?_) | (refine lld_row (by rfl) (.tmp 1) _ _ rfl rfl HF.out Try.underlying27 rfl szFrame ?_))
        refine (same_any wr d0 d1 d2 d3 d4 d5 s0 s1 s2 s3 s4 s5 ty A7 _ c7 l d0 d1 d2 d3 d4 d5 s0 s1 s2 s3 s4 s5 ty A n c l HRD.out.lo0 (HA.out.keep HKP.out)).mono ?_
        rintro e w9 ⟨rfl, hk9⟩
        rw [sameF_self]
        have HK9 := Lib.hid (HKP.out.trans hk9)
        have HF9 := Lib.hid ((hk9.block _ (Array.getElem?_eq_some_iff.1 HF.out).1).trans HF.out)
        have HROW9 := Lib.hid ((hk9.block _ (Array.getElem?_eq_some_iff.1 HROW.out).1).trans HROW.out)
        have HOW19 := Lib.hid (HOW1.out.keep hk9)
        clear hk9
        go_wp2_with (first | (refine lld_row (by rfl) (.tmp 3) _ _ rfl rfl HROW9.out Try.underlying27 rfl szFrame ?_) | (refine lld_row (by rfl) (.tmp 1) _ _ rfl rfl HF9.out Try.underlying27 rfl szFrame ?_))
        refine (same_any w9 d0 d1 d2 d3 d4 d5 s0 s1 s2 s3 s4 s5 ty _ n cap1 l d0 d1 d2 d3 d4 d5 s0 s1 s2 s3 s4 s5 ty A n c l HOW19.out.rd0 (HA.out.keep HK9.out)).mono ?_
        rintro e w10 ⟨rfl, hk10⟩
        rw [sameF_self]
        go_wp2
        go_ret
        exact ⟨rfl, HK9.out.trans hk10⟩
end Go.Proofs.Ytdibmeapflhhaaa
