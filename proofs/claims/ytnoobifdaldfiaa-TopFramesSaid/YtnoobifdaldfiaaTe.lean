/-
  Holes that share nothing: frag.clone, frag.Age, at no hole or at one.
-/
import Derived.Test.YtnoobifdaldfiaaTc
namespace Go.Proofs.Ytnoobifdaldfiaa.Fr
open Go.RowKit
set_option maxRecDepth 100000

/-- one struct onto no struct, as one step of a region that draws its order -/
theorem oapp_part {W : World} {o : Oper} {a : Act} {K : Act → World → Prop} {Q : Exit → Act → World → Prop} {B c : Nat} (s x : Operand) (off : Int) (A : Option Addr) (n k : Nat)
    (ho : o.op = .call { callee := .builtin .append, args := #[s, x], argTypes := #[88, 88] }) (hs : a.eval s = .slice none 0 0) (hx : a.eval x = .slice (some ⟨B, 0, none⟩) 1 c)
    (hc : ∀ j u, ([.int .i64 off, .slice A n k] : List Value)[j]? = some u → W.cell? ((⟨B, 0, none⟩ : Addr).add j) = some u)
    (h : ∀ g cap w', w'.ownsRow W.heap.size 98 2 (.slice (some ⟨g, 0, none⟩) 1 cap) 1 [.int .i64 off, .slice A n k] → Kp W w' → K (a.put o.dst (.slice (some ⟨g, 0, none⟩) 1 cap)) w') : Oper.wp Try.prog o a W K Q := by
  obtain ⟨i0, hi0, hz0, hz1, hz2⟩ := info_parts infoPart
  refine wp_append_own W s x 88 ho W.heap.size 98 i0 _ 2 32 Try.underlying88 hi0 hz0 hz1 hz2 rfl (by decide) (.slice none 0 0) 0 [] hs (World.ownsRow_nil _ _ _ _) ⟨B, 0, none⟩ 1 c [.int .i64 off, .slice A n k] hx rfl hc (by simp [Value.oneCell']) (by simp [maxLen]) (by decide) (Nat.le_refl _) ?_
  intro v' w' hown hgr _
  obtain ⟨g, cap, rfl, hg, _⟩ := orow_succ hown
  exact h g cap w' (by simpa using hown) (kp_new hgr)

theorem PartV.setCell {w : World} {lo : Nat} {off : Int} {l : List UInt8} {v : Value} (h : PartV w lo off l v) {a : Addr} (ha : a.block < lo) (u : Value) : PartV (w.setCell a u) lo off l v := by
  obtain ⟨gp, capp, A, c, h1, h2, h3, h4⟩ := h
  exact ⟨gp, capp, A, c, h1, ownsRow_setCell_below h2 ha u, RdV.setCell h3 ha u, h4⟩

def St.cl (lo n : Nat) (l : List UInt8) : St := ⟨fun v W => ∃ A c, v = .slice A n c ∧ Rd W lo A n l ∧ SlOk A n c, fun _ _ _ ⟨A, c, h1, h2, h3⟩ k => ⟨A, c, h1, h2.keep k, h3⟩⟩
def St.pt (lo n : Nat) (l : List UInt8) : St := ⟨fun v W => ∃ A c, v = .agg #[.int .i64 176, .slice A n c] ∧ Rd W lo A n l ∧ SlOk A n c, fun _ _ _ ⟨A, c, h1, h2, h3⟩ k => ⟨A, c, h1, h2.keep k, h3⟩⟩
def St.lit1 (lo n : Nat) (l : List UInt8) : St := ⟨fun v W => ∃ A c g, v = .slice (some ⟨g, 0, none⟩) 1 1 ∧ (∃ T m, W.heap[g]? = some (.cells #[.int .i64 176, .slice A n c] T m)) ∧ Rd W lo A n l ∧ SlOk A n c,
  fun _ _ _ ⟨A, c, g, h1, ⟨T, m, h2⟩, h3, h4⟩ k => ⟨A, c, g, h1, ⟨T, m, (k.block _ (Array.getElem?_eq_some_iff.1 h2).1).trans h2⟩, h3.keep k, h4⟩⟩
def St.pv (lo : Nat) (l : List UInt8) : St := ⟨fun v W => PartV W lo 176 l v, fun _ _ _ h k => h.keep k⟩

noncomputable def clphi (lo b8 : Nat) (A : Option Addr) (n k : Nat) (l : List UInt8) : Nat → St := fun i => ([St.val (.slice none 0 0),
  St.val (.pointer (some ⟨b8, 0, none⟩)),
  St.val (.int .i64 176),
  St.val (.pointer (some ⟨b8, 1, none⟩)),
  St.val (.slice A n k),
  St.cl lo n l,
  St.pt lo n l,
  St.lit1 lo n l,
  St.pv lo l] : List St).getD i St.any

set_option maxHeartbeats 1000000 in
theorem clone_nil (w : World) : Calls Try.prog 53 #[.slice none 0 0] w fun e w' => e = .returned (.slice none 0 0) ∧ w' = w := by
  go_enter Try.func53, Try.ntmps53
  go_wp2
  go_loopw [11, 3] (fun i o3 wr => o3 = .slice none 0 0 ∧ i = .int .i64 0 ∧ wr = w) (fun _ _ _ => 0)
  case atStart => exact ⟨rfl, rfl, rfl⟩
  case round =>
    obtain ⟨rfl, rfl, rfl⟩ := hrel
    go_wp2
    go_ret
    exact ⟨rfl, rfl⟩

set_option maxHeartbeats 1000000 in
theorem clone_one (w : World) (v : Value) (s0 s1 s2 s3 d0 d1 d2 d3 : UInt8) (tot : Int) (l : List UInt8) (h : HoleV w 0 s0 s1 s2 s3 d0 d1 d2 d3 tot 176 l v) (hn0 : 0 < l.length) (hn1 : l.length ≤ 1048576) :
    Calls Try.prog 53 #[v] w fun e w' => Kp w w' ∧ ∃ v', e = .returned v' ∧ HoleV w' w.heap.size s0 s1 s2 s3 d0 d1 d2 d3 tot 176 l v' := by
  obtain ⟨g, cap, got, rfl, hrow, gp, capp, A, k, rfl, hprow, hrd, hok⟩ := h
  obtain ⟨n, hn⟩ : ∃ n, l.length = n := ⟨_, rfl⟩
  rw [hn] at hprow hrd hok hn0 hn1
  have HLN := Lib.hid hn
  clear hn
  have HROW := Lib.hid hrow
  have HPROW := Lib.hid hprow
  have HRD := Lib.hid hrd
  clear hrow hprow hrd
  go_enter Try.func53, Try.ntmps53
  go_wp2
  go_loopw [11, 3] (fun i o3 wr => ∃ j : Nat, j ≤ 1 ∧ i = .int .i64 j ∧ Kp w wr ∧ (j = 0 → o3 = .slice none 0 0) ∧ (j = 1 → HoleV wr w.heap.size s0 s1 s2 s3 d0 d1 d2 d3 tot 176 l o3)) (fun i _ _ => 1 - (intOf i).toNat)
  case atStart => exact ⟨0, by omega, rfl, Kp.refl w, fun _ => rfl, fun h => (by cases h)⟩
  case round =>
    obtain ⟨j, hj, rfl, hk, hj0, hj1⟩ := hrel
    by_cases h0 : j = 0
    · subst h0
      obtain rfl := hj0 rfl
      have HK := Lib.hid hk
      have HROW' := Lib.hid (orow_keep HROW.out hk)
      have hsz := hk.size
      clear hj0 hj1 hk
      have hn9 := heap_alloc_new wr (.cells #[.int .u8 (s0.toNat : Int), .int .u8 (s1.toNat : Int), .int .u8 (s2.toNat : Int), .int .u8 (s3.toNat : Int), .int .u8 (d0.toNat : Int), .int .u8 (d1.toNat : Int), .int .u8 (d2.toNat : Int), .int .u8 (d3.toNat : Int), .int .u8 6, .int .u16 7, .int .u8 64, .int .u64 0, .int .i64 tot, .slice (some ⟨gp, 0, none⟩) 1 capp] 90)
      have HN9 := Lib.hid hn9
      clear hn9
      go_wp2_with (first
        | (refine lld_own [.int .u8 (s0.toNat : Int), .int .u8 (s1.toNat : Int), .int .u8 (s2.toNat : Int), .int .u8 (s3.toNat : Int), .int .u8 (d0.toNat : Int), .int .u8 (d1.toNat : Int), .int .u8 (d2.toNat : Int), .int .u8 (d3.toNat : Int), .int .u8 6, .int .u16 7, .int .u8 64, .int .u64 0, .int .i64 tot, .slice (some ⟨gp, 0, none⟩) 1 capp] (by rfl) (.tmp 13) _ _ rfl rfl HROW'.out rfl rfl Try.underlying90 rfl szHole ?_)
        | (refine lst_new (by rfl) (.tmp 5) (.tmp 14) _ rfl rfl rfl szHole rfl rfl rfl ?_))
      obtain ⟨b5, hb5⟩ : ∃ b, wr.heap.size = b := ⟨_, rfl⟩
      have HB5 := Lib.hid hb5
      have hkW : Kp wr (wr.alloc (.cells #[.int .u8 (s0.toNat : Int), .int .u8 (s1.toNat : Int), .int .u8 (s2.toNat : Int), .int .u8 (s3.toNat : Int), .int .u8 (d0.toNat : Int), .int .u8 (d1.toNat : Int), .int .u8 (d2.toNat : Int), .int .u8 (d3.toNat : Int), .int .u8 6, .int .u16 7, .int .u8 64, .int .u64 0, .int .i64 tot, .slice (some ⟨gp, 0, none⟩) 1 capp] 90)) := (Kp.refl wr).alloc _
      have HKW := Lib.hid hkW
      have hb6 := HN9.out
      obtain ⟨wb, hwb⟩ : ∃ wb, wr.alloc (.cells #[.int .u8 (s0.toNat : Int), .int .u8 (s1.toNat : Int), .int .u8 (s2.toNat : Int), .int .u8 (s3.toNat : Int), .int .u8 (d0.toNat : Int), .int .u8 (d1.toNat : Int), .int .u8 (d2.toNat : Int), .int .u8 (d3.toNat : Int), .int .u8 6, .int .u16 7, .int .u8 64, .int .u64 0, .int .i64 tot, .slice (some ⟨gp, 0, none⟩) 1 capp] 90) = wb := ⟨_, rfl⟩
      rw [hwb] at hkW hb6 ⊢
      have hbs : b5 < wb.heap.size := by rw [← hwb, ← hb5]; simp
      have hb0 : w.heap.size ≤ b5 := by rw [← hb5]; exact hsz
      rw [hb5] at hb6 ⊢
      have HKB := Lib.hid (HK.out.trans hkW)
      have HB6 := Lib.hid hb6
      obtain ⟨lo, hlo⟩ : ∃ lo, wb.heap.size = lo := ⟨_, rfl⟩
      have HLO := Lib.hid hlo
      rw [hlo] at hbs
      clear hwb hkW hb6 hb5 HN9 HKW HB5 hlo
      go_loopw [18, 6] (fun i o6 wx => ∃ j : Nat, j ≤ 1 ∧ i = .int .i64 j ∧ Kp wb wx ∧ (j = 0 → o6 = .slice none 0 0) ∧ (j = 1 → PartV wx lo 176 l o6)) (fun i _ _ => 1 - (intOf i).toNat)
      case atStart => exact ⟨0, by omega, rfl, Kp.refl wb, fun _ => rfl, fun h => (by cases h)⟩
      case round =>
        obtain ⟨j, hj, rfl, hk, hj0, hj1⟩ := hrel
        by_cases h0 : j = 0
        · subst h0
          obtain rfl := hj0 rfl
          have HKX := Lib.hid hk
          have HPR := Lib.hid (orow_keep HPROW.out (HKB.out.trans hk))
          clear hj0 hj1 hk
          go_wp2_with (first
            | (refine lld_own [.int .i64 176, .slice A n k] (by rfl) (.tmp 20) _ _ rfl rfl HPR.out rfl rfl Try.underlying98 rfl szPart ?_)
            | (refine lst_new (by rfl) (.tmp 8) (.tmp 21) _ rfl rfl rfl szPart rfl rfl rfl ?_))
          have hn8 := heap_alloc_new wr (.cells #[.int .i64 176, .slice A n k] 98)
          have hkY : Kp wb (wr.alloc (.cells #[.int .i64 176, .slice A n k] 98)) := HKX.out.alloc _
          obtain ⟨wy, hwy⟩ : ∃ wy, wr.alloc (.cells #[.int .i64 176, .slice A n k] 98) = wy := ⟨_, rfl⟩
          obtain ⟨b8, hb8⟩ : ∃ b, wr.heap.size = b := ⟨_, rfl⟩
          rw [hwy] at hn8 hkY ⊢
          rw [hb8] at hn8 ⊢
          clear hwy hb8
          have KC : ∀ W, Kp wy.drew W → W.cell? ⟨b8, 0, none⟩ = some (.int .i64 176) ∧ W.cell? ⟨b8, 1, none⟩ = some (.slice A n k) ∧ Rd W 0 A n l ∧ lo ≤ W.heap.size := fun W hW => by
            have hk2 : Kp wy W := ((Kp.refl wy).drew).trans hW
            have q := (hk2.block _ (Array.getElem?_eq_some_iff.1 hn8).1).trans hn8
            exact ⟨(cell_of_row W _ 0 _ _ _ q).trans rfl, (cell_of_row W _ 1 _ _ _ q).trans rfl, HRD.out.keep ((HKB.out.trans hkY).trans hk2), by rw [← HLO.out]; exact (hkY.trans hk2).size⟩
          refine wp_region_steps (by kernel_rfl) 9 (clphi lo b8 A n k l) [22, 23, 24, 25, 26, 27, 28, 29, 30] (by kernel_rfl) (by kernel_rfl) ⟨?_, ?_, ?_, ?_, ?_, ?_, ?_, ?_, ?_, trivial⟩ ?_
          · intro a W hW hO hφ K hK
            have q6 : a.tmps.getD 6 undef = (.slice none 0 0) := hO 6 (by kernel_rfl)
            have r6 := q6
            rw [Array.getD_eq_getD_getElem?] at r6
            clear hO hφ
            clear KC
            go_simp
            exact hK _ _ (Kp.refl _) rfl
          · intro a W hW hO hφ K hK
            have q8 : a.tmps.getD 8 undef = (.pointer (some ⟨b8, 0, none⟩)) := hO 8 (by kernel_rfl)
            have r8 := q8
            rw [Array.getD_eq_getD_getElem?] at r8
            clear hO hφ
            clear KC
            go_simp
            exact hK _ _ (Kp.refl _) rfl
          · intro a W hW hO hφ K hK
            have q23 : a.tmps.getD 23 undef = (.pointer (some ⟨b8, 0, none⟩)) := hφ ⟨1, .data⟩ (by simp) rfl
            have r23 := q23
            rw [Array.getD_eq_getD_getElem?] at r23
            clear hO hφ
            obtain ⟨z0, z1, z2, z3⟩ := KC W hW
            clear KC
            go_simp
            exact hK _ _ (Kp.refl _) rfl
          · intro a W hW hO hφ K hK
            have q8 : a.tmps.getD 8 undef = (.pointer (some ⟨b8, 0, none⟩)) := hO 8 (by kernel_rfl)
            have r8 := q8
            rw [Array.getD_eq_getD_getElem?] at r8
            clear hO hφ
            clear KC
            go_simp
            exact hK _ _ (Kp.refl _) rfl
          · intro a W hW hO hφ K hK
            have q25 : a.tmps.getD 25 undef = (.pointer (some ⟨b8, 1, none⟩)) := hφ ⟨3, .data⟩ (by simp) rfl
            have r25 := q25
            rw [Array.getD_eq_getD_getElem?] at r25
            clear hO hφ
            obtain ⟨z0, z1, z2, z3⟩ := KC W hW
            clear KC
            go_simp
            exact hK _ _ (Kp.refl _) rfl
          · intro a W hW hO hφ K hK
            have q26 : a.tmps.getD 26 undef = (.slice A n k) := hφ ⟨4, .data⟩ (by simp) rfl
            have r26 := q26
            rw [Array.getD_eq_getD_getElem?] at r26
            clear hO hφ
            obtain ⟨z0, z1, z2, z3⟩ := KC W hW
            clear KC
            go_simp
            go_at_call 30
            refine (clone8_any _ _ _ _ _ _ z2 hn0 hn1).mono ?_
            rintro e w' ⟨hk, gd, cap', rfl, hrd, hok⟩
            exact hK _ _ hk ⟨_, _, rfl, rd_lo hrd z3, hok⟩
          · intro a W hW hO hφ K hK
            have q24 : a.tmps.getD 24 undef = (.int .i64 176) := hφ ⟨2, .data⟩ (by simp) rfl
            have q27 : (St.cl lo n l).p (a.tmps.getD 27 undef) W := hφ ⟨5, .data⟩ (by simp) rfl
            have r24 := q24
            rw [Array.getD_eq_getD_getElem?] at r24
            clear hO hφ
            obtain ⟨A2, c2, q27', hrd, hok⟩ := q27
            have r27 := q27'
            rw [Array.getD_eq_getD_getElem?] at r27
            clear KC
            go_simp
            exact hK _ _ (Kp.refl _) ⟨A2, c2, rfl, hrd, hok⟩
          · intro a W hW hO hφ K hK
            have q28 : (St.pt lo n l).p (a.tmps.getD 28 undef) W := hφ ⟨6, .data⟩ (by simp) rfl
            clear hO hφ
            obtain ⟨A2, c2, q28', hrd, hok⟩ := q28
            have r28 := q28'
            rw [Array.getD_eq_getD_getElem?] at r28
            clear KC
            go_simp
            exact hK _ _ ((Kp.refl _).alloc _) ⟨A2, c2, _, rfl, ⟨_, _, heap_alloc_new W _⟩, hrd.keep ((Kp.refl _).alloc _), hok⟩
          · intro a W hW hO hφ K hK
            have q22 : a.tmps.getD 22 undef = (.slice none 0 0) := hφ ⟨0, .data⟩ (by simp) rfl
            have q29 : (St.lit1 lo n l).p (a.tmps.getD 29 undef) W := hφ ⟨7, .data⟩ (by simp) rfl
            have r22 := q22
            rw [Array.getD_eq_getD_getElem?] at r22
            clear hO hφ
            obtain ⟨A2, c2, gl, q29', ⟨T9, m9, hrow9⟩, hrd, hok⟩ := q29
            obtain ⟨z0, z1, z2, z3⟩ := KC W hW
            clear KC
            refine oapp_part (.tmp 22) (.tmp 29) 176 A2 n c2 rfl q22 q29' (fun j u hj => by rw [show (⟨gl, 0, none⟩ : Addr).add j = ⟨gl, j, none⟩ by (unfold Addr.add; split <;> simp_all), cell_of_row W gl j _ _ _ hrow9]; simpa using hj) ?_
            intro gq capq wq ownq kq
            exact hK _ _ kq ⟨gq, capq, A2, c2, rfl, by rw [HLN.out]; exact orow_lo ownq z3, by rw [HLN.out]; exact hrd.keep kq, by rw [HLN.out]; exact hok⟩
          intro f W hW hφ
          have v0 : f 0 = (.slice none 0 0) := hφ 0 (by omega)
          have v1 : f 1 = (.pointer (some ⟨b8, 0, none⟩)) := hφ 1 (by omega)
          have v2 : f 2 = (.int .i64 176) := hφ 2 (by omega)
          have v3 : f 3 = (.pointer (some ⟨b8, 1, none⟩)) := hφ 3 (by omega)
          have v4 : f 4 = (.slice A n k) := hφ 4 (by omega)
          have v5 : (St.cl lo n l).p (f 5) W := hφ 5 (by omega)
          have v6 : (St.pt lo n l).p (f 6) W := hφ 6 (by omega)
          have v7 : (St.lit1 lo n l).p (f 7) W := hφ 7 (by omega)
          have v8 : (St.pv lo l).p (f 8) W := hφ 8 (by omega)
          clear hφ
          simp only [putAll, List.setIfInBounds_toArray, List.set_cons_succ, List.set_cons_zero, v0, v1, v2, v3, v4]
          clear v0 v1 v2 v3 v4
          have hkW : Kp wb W := hkY.trans (((Kp.refl wy).drew).trans hW)
          clear KC
          refine wpAny_take (i := 9) (v := f 8) rfl (by kernel_rfl) (by kernel_rfl) (by kernel_rfl) (fun _ _ _ h => h) (Or.inl ⟨by rfl, ?_⟩) ?_
          · intro w; go_simp
          refine wpAny_done (by kernel_rfl) ?_ _
          go_wp2
          go_round
          case rel => exact ⟨1, by omega, rfl, hkW, fun h => (by cases h), fun _ => v8⟩
          case measure => simp [intOf]
        · obtain rfl : j = 1 := by omega
          have hpv := hj1 rfl
          obtain ⟨gp2, capp2, A2, c2, rfl, hpr, hrd2, hok2⟩ := hpv
          have HPV : Hid (PartV wr lo 176 l (.slice (some ⟨gp2, 0, none⟩) 1 capp2)) := Lib.hid ⟨gp2, capp2, A2, c2, rfl, hpr, hrd2, hok2⟩
          have hrow5 := (hk.block _ (by rw [HLO.out]; exact hbs)).trans HB6.out
          have z13 : wr.cell? ⟨b5, 13, none⟩ = some (.slice (some ⟨gp, 0, none⟩) 1 capp) := (cell_of_row wr _ 13 _ _ _ hrow5).trans rfl
          have fz13 : wr.frozen? ⟨b5, 13, none⟩ = false := by simp [World.frozen?, hrow5]
          have hrow6 : (wr.setCell ⟨b5, 13, none⟩ (.slice (some ⟨gp2, 0, none⟩) 1 capp2)).heap[b5]? = some (.cells #[.int .u8 (s0.toNat : Int), .int .u8 (s1.toNat : Int), .int .u8 (s2.toNat : Int), .int .u8 (s3.toNat : Int), .int .u8 (d0.toNat : Int), .int .u8 (d1.toNat : Int), .int .u8 (d2.toNat : Int), .int .u8 (d3.toNat : Int), .int .u8 6, .int .u16 7, .int .u8 64, .int .u64 0, .int .i64 tot, .slice (some ⟨gp2, 0, none⟩) 1 capp2] 90 (0, 0)) := row_setCell hrow5 13 _
          have HKX := Lib.hid hk
          have hsx := (HKB.out.trans hk).size
          clear hj0 hj1 hk hpr hrd2 hok2 hrow5
          go_wp2_with (first
            | (refine lld_row (by rfl) (.tmp 5) _ _ rfl rfl hrow6 Try.underlying90 rfl szHole ?_)
            | (at_builtin; go_loud (refine lapp_hole rfl (.tmp 34) (.tmp 36) s0 s1 s2 s3 d0 d1 d2 d3 tot (some ⟨gp2, 0, none⟩) 1 capp2 w.heap.size rfl rfl rfl (cells_lit _ _ _ _ _ (by first | rfl | simp)) (by simp <;> omega) ?_; intro gq capq wq ownq kq hgq)))
          have hkz : Kp w (wr.setCell ⟨b5, 13, none⟩ (.slice (some ⟨gp2, 0, none⟩) 1 capp2)) := (HKB.out.trans HKX.out).setCell (by show w.heap.size ≤ b5; exact hb0) _
          have hkk := ((Kp.refl (wr.setCell ⟨b5, 13, none⟩ (.slice (some ⟨gp2, 0, none⟩) 1 capp2))).alloc (.cells #[.int .u8 (s0.toNat : Int), .int .u8 (s1.toNat : Int), .int .u8 (s2.toNat : Int), .int .u8 (s3.toNat : Int), .int .u8 (d0.toNat : Int), .int .u8 (d1.toNat : Int), .int .u8 (d2.toNat : Int), .int .u8 (d3.toNat : Int), .int .u8 6, .int .u16 7, .int .u8 64, .int .u64 0, .int .i64 tot, .slice (some ⟨gp2, 0, none⟩) 1 capp2] 90)).trans kq
          go_round
          case rel => exact ⟨1, by omega, rfl, hkz.trans hkk, fun h => (by cases h), fun _ => ⟨gq, capq, _, rfl, ownq, ((HPV.out.setCell (a := ⟨b5, 13, none⟩) hbs _).keep hkk).low (by have := HKB.out.size; rw [HLO.out] at this; exact this)⟩⟩
          case measure => simp [intOf]
    · obtain rfl : j = 1 := by omega
      have hh := hj1 rfl
      go_wp2
      go_ret
      exact ⟨hk, _, rfl, hh⟩

set_option maxHeartbeats 1000000 in
theorem age_nil (w : World) : Calls Try.prog 33 #[.slice none 0 0, .int .u64 0] w fun e w' => e = .returned (.slice none 0 0) ∧ Kp w w' := by
  have hmf : ∀ (fn : Fn) (first cap : Array Value) (w : World), (Instr.makeFunc fn first cap).run Try.prog w = .ok (.func fn first cap) w := fun _ _ _ _ => rfl
  go_enter Try.func33, Try.ntmps33
  go_wp2_with (first
    | (go_at_call 53; refine (clone_nil _).mono ?_; rintro e w1 ⟨rfl, rfl⟩)
    | (go_at_call 52; refine (delF_nil _ _).mono ?_; rintro e w2 ⟨rfl, rfl⟩))
  go_ret
  exact ⟨rfl, (Kp.refl _).alloc _⟩

set_option maxHeartbeats 1000000 in
theorem age_one (w : World) (v : Value) (s0 s1 s2 s3 d0 d1 d2 d3 : UInt8) (tot : Int) (l : List UInt8) (h : HoleV w 0 s0 s1 s2 s3 d0 d1 d2 d3 tot 176 l v) (hn0 : 0 < l.length) (hn1 : l.length ≤ 1048576) :
    Calls Try.prog 33 #[v, .int .u64 0] w fun e w' => Kp w w' ∧ ∃ v', e = .returned v' ∧ HoleV w' w.heap.size s0 s1 s2 s3 d0 d1 d2 d3 tot 176 l v' := by
  have hmf : ∀ (fn : Fn) (first cap : Array Value) (w : World), (Instr.makeFunc fn first cap).run Try.prog w = .ok (.func fn first cap) w := fun _ _ _ _ => rfl
  have kp : Kp w (w.alloc (.cells #[.int .u64 0] 53)) := (Kp.refl w).alloc _
  have hh := h.keep kp
  have hb0 := heap_alloc_new w (.cells #[.int .u64 0] 53)
  have HB := Lib.hid hb0
  clear hb0
  go_enter Try.func33, Try.ntmps33
  go_wp2_with fail
  refine (clone_one _ v s0 s1 s2 s3 d0 d1 d2 d3 tot l hh hn0 hn1).mono ?_
  rintro e w2 ⟨hk2, v2, rfl, hv2⟩
  have hrow := (hk2.block _ (Array.getElem?_eq_some_iff.1 HB.out).1).trans HB.out
  have hc : w2.cell? ⟨w.heap.size, 0, none⟩ = some (.int .u64 0) := (cell_of_row w2 _ 0 _ _ _ hrow).trans rfl
  obtain ⟨g, cap, got, rfl, hgr, hpt⟩ := hv2
  have hv3 : HoleV w2 (w.alloc (.cells #[.int .u64 0] 53)).heap.size s0 s1 s2 s3 d0 d1 d2 d3 tot 176 l (.slice (some ⟨g, 0, none⟩) 1 cap) := ⟨g, cap, got, rfl, hgr, hpt⟩
  have HV := Lib.hid hv3
  have HG := Lib.hid hgr
  have HC := Lib.hid hc
  have hkk := kp.trans hk2
  clear hgr hpt hv3 hrow hk2 hh hc
  go_wp2_with (go_at_call 52; refine (delF_age _ _ g cap s0 s1 s2 s3 d0 d1 d2 d3 tot got _ HC.out HG.out).mono ?_; rintro e w3 ⟨rfl, hk3⟩)
  go_ret
  exact ⟨hkk.trans hk3, _, rfl, (HV.out.keep hk3).low (by simp)⟩
end Go.Proofs.Ytnoobifdaldfiaa.Fr
