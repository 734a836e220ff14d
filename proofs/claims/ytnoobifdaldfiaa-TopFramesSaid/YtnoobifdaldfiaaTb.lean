/-
  The small functions on holes: of, fits, their closures, IndexFunc, ContainsFunc, DeleteFunc, at no hole or at one.
-/
import Derived.Test.YtnoobifdaldfiaaTa
import Derived.Test.YtnoobifdaldfiaaS9
import Derived.Test.YtnoobifdaldfiaaFI6c
import Derived.Stop.BytesEq
namespace Go.Proofs.Ytnoobifdaldfiaa.Fr
open Go.RowKit
set_option maxRecDepth 100000

theorem sizeU8 : ∀ w : World, (sizeOf 5).run Try.prog w = .ok 1 w := by
  intro w
  have h : Try.prog.info? 5 = some Try.t5 := by kernel_rfl
  simp [sizeOf, typeInfo, h]
  rfl
theorem eq_ip (W : World) (s0 s1 s2 s3 : UInt8) : (binOp .eql 28 (.agg #[.int .u8 (s0.toNat : Int), .int .u8 (s1.toNat : Int), .int .u8 (s2.toNat : Int), .int .u8 (s3.toNat : Int)]) (.agg #[.int .u8 (s0.toNat : Int), .int .u8 (s1.toNat : Int), .int .u8 (s2.toNat : Int), .int .u8 (s3.toNat : Int)])).run Try.prog W = .ok (.bool true) W := by
  have := run_eql_bytes W 28 5 4 Try.underlying28 Try.underlying5 sizeU8 [s0, s1, s2, s3] [s0, s1, s2, s3] rfl rfl
  exact this.trans (by rw [show ([s0, s1, s2, s3] == [s0, s1, s2, s3]) = true from beq_self_eq_true _])

set_option maxHeartbeats 1000000 in
theorem of_any (w : World) (s0 s1 s2 s3 d0 d1 d2 d3 : UInt8) (tot : Int) (got : Value) (mo : Bool) (off : Int) (dat : Value) (hg : got.oneCell' = true) (hd : dat.oneCell' = true) :
    Calls Try.prog 36 #[.agg #[.int .u8 (s0.toNat : Int), .int .u8 (s1.toNat : Int), .int .u8 (s2.toNat : Int), .int .u8 (s3.toNat : Int), .int .u8 (d0.toNat : Int), .int .u8 (d1.toNat : Int), .int .u8 (d2.toNat : Int), .int .u8 (d3.toNat : Int), .int .u8 6, .int .u16 7, .int .u8 64, .int .u64 0, .int .i64 tot, got], .agg #[.int .u16 7, .bool mo, .int .i64 off, .int .u8 64, .int .u8 6, .int .u8 (s0.toNat : Int), .int .u8 (s1.toNat : Int), .int .u8 (s2.toNat : Int), .int .u8 (s3.toNat : Int), .int .u8 (d0.toNat : Int), .int .u8 (d1.toNat : Int), .int .u8 (d2.toNat : Int), .int .u8 (d3.toNat : Int), dat]] w fun e w' => e = .returned (.bool true) ∧ Kp w w' := by
  have q1 := fun W => eq_ip W s0 s1 s2 s3
  have q2 := fun W => eq_ip W d0 d1 d2 d3
  have kp : Kp w ((w.alloc (.cells #[.int .u8 (s0.toNat : Int), .int .u8 (s1.toNat : Int), .int .u8 (s2.toNat : Int), .int .u8 (s3.toNat : Int), .int .u8 (d0.toNat : Int), .int .u8 (d1.toNat : Int), .int .u8 (d2.toNat : Int), .int .u8 (d3.toNat : Int), .int .u8 6, .int .u16 7, .int .u8 64, .int .u64 0, .int .i64 tot, got] 90)).alloc (.cells #[.int .u16 7, .bool mo, .int .i64 off, .int .u8 64, .int .u8 6, .int .u8 (s0.toNat : Int), .int .u8 (s1.toNat : Int), .int .u8 (s2.toNat : Int), .int .u8 (s3.toNat : Int), .int .u8 (d0.toNat : Int), .int .u8 (d1.toNat : Int), .int .u8 (d2.toNat : Int), .int .u8 (d3.toNat : Int), dat] 38)) := ((Kp.refl _).alloc _).alloc _
  go_enter Try.func36, Try.ntmps36
  go_wp2
  go_ret
  exact ⟨rfl, kp⟩

set_option maxHeartbeats 1000000 in
theorem age1_any (w : World) (s0 s1 s2 s3 d0 d1 d2 d3 : UInt8) (tot : Int) (got : Value) (b : Nat) (hb : w.cell? ⟨b, 0, none⟩ = some (.int .u64 0)) :
    Calls Try.prog 54 #[.agg #[.int .u8 (s0.toNat : Int), .int .u8 (s1.toNat : Int), .int .u8 (s2.toNat : Int), .int .u8 (s3.toNat : Int), .int .u8 (d0.toNat : Int), .int .u8 (d1.toNat : Int), .int .u8 (d2.toNat : Int), .int .u8 (d3.toNat : Int), .int .u8 6, .int .u16 7, .int .u8 64, .int .u64 0, .int .i64 tot, got], .pointer (some ⟨b, 0, none⟩)] w fun e w' => e = .returned (.bool false) ∧ Kp w w' := by
  have kp : Kp w (w.alloc (.cells #[.int .u8 (s0.toNat : Int), .int .u8 (s1.toNat : Int), .int .u8 (s2.toNat : Int), .int .u8 (s3.toNat : Int), .int .u8 (d0.toNat : Int), .int .u8 (d1.toNat : Int), .int .u8 (d2.toNat : Int), .int .u8 (d3.toNat : Int), .int .u8 6, .int .u16 7, .int .u8 64, .int .u64 0, .int .i64 tot, got] 90)) := (Kp.refl _).alloc _
  have c1 := kp.cell hb
  go_enter Try.func54, Try.ntmps54
  go_wp2
  go_ret
  exact ⟨rfl, kp⟩

set_option maxHeartbeats 1000000 in
theorem add1_any (w : World) (s0 s1 s2 s3 d0 d1 d2 d3 : UInt8) (tot : Int) (got : Value) (mo : Bool) (off : Int) (dat : Value) (hg : got.oneCell' = true) (hd : dat.oneCell' = true) (b : Nat) (T : TypeId) (m : Nat × Nat) (hb : w.heap[b]? = some (.cells #[.int .u16 7, .bool mo, .int .i64 off, .int .u8 64, .int .u8 6, .int .u8 (s0.toNat : Int), .int .u8 (s1.toNat : Int), .int .u8 (s2.toNat : Int), .int .u8 (s3.toNat : Int), .int .u8 (d0.toNat : Int), .int .u8 (d1.toNat : Int), .int .u8 (d2.toNat : Int), .int .u8 (d3.toNat : Int), dat] T m)) :
    Calls Try.prog 35 #[.agg #[.int .u8 (s0.toNat : Int), .int .u8 (s1.toNat : Int), .int .u8 (s2.toNat : Int), .int .u8 (s3.toNat : Int), .int .u8 (d0.toNat : Int), .int .u8 (d1.toNat : Int), .int .u8 (d2.toNat : Int), .int .u8 (d3.toNat : Int), .int .u8 6, .int .u16 7, .int .u8 64, .int .u64 0, .int .i64 tot, got], .pointer (some ⟨b, 0, none⟩)] w fun e w' => e = .returned (.bool true) ∧ Kp w w' := by
  have kp : Kp w (w.alloc (.cells #[.int .u8 (s0.toNat : Int), .int .u8 (s1.toNat : Int), .int .u8 (s2.toNat : Int), .int .u8 (s3.toNat : Int), .int .u8 (d0.toNat : Int), .int .u8 (d1.toNat : Int), .int .u8 (d2.toNat : Int), .int .u8 (d3.toNat : Int), .int .u8 6, .int .u16 7, .int .u8 64, .int .u64 0, .int .i64 tot, got] 90)) := (Kp.refl _).alloc _
  have hb' := (kp.block _ (Array.getElem?_eq_some_iff.1 hb).1).trans hb
  have hn := heap_alloc_new w (.cells #[.int .u8 (s0.toNat : Int), .int .u8 (s1.toNat : Int), .int .u8 (s2.toNat : Int), .int .u8 (s3.toNat : Int), .int .u8 (d0.toNat : Int), .int .u8 (d1.toNat : Int), .int .u8 (d2.toNat : Int), .int .u8 (d3.toNat : Int), .int .u8 6, .int .u16 7, .int .u8 64, .int .u64 0, .int .i64 tot, got] 90)
  go_enter Try.func35, Try.ntmps35
  go_wp2_with (first
    | (refine lld_row (by rfl) (.tmp 2) _ _ rfl rfl hn Try.underlying90 rfl szHole ?_)
    | (refine lld_row (by rfl) (.tmp 1) _ _ rfl rfl hb' Try.underlying38 rfl szPkt ?_)
    | (go_at_call 36; refine (of_any _ s0 s1 s2 s3 d0 d1 d2 d3 tot got mo off dat hg hd).mono ?_; rintro e w2 ⟨rfl, hk2⟩))
  go_ret
  exact ⟨rfl, kp.trans hk2⟩

set_option maxHeartbeats 1000000 in
theorem idxH_nil (w : World) (fv : Value) : Calls Try.prog 34 #[.slice none 0 0, fv] w fun e w' => e = .returned (.int .i64 (-1)) ∧ w' = w := by
  go_enter Try.func34, Try.ntmps34
  go_wp2
  go_loopw [8] (fun i wr => i = .int .i64 0 ∧ wr = w) (fun _ _ => 0)
  case atStart => exact ⟨rfl, rfl⟩
  case round =>
    obtain ⟨rfl, rfl⟩ := hrel
    go_wp2
    go_ret
    exact ⟨rfl, rfl⟩
set_option maxHeartbeats 1000000 in
theorem idxP_nil (w : World) (fv : Value) : Calls Try.prog 60 #[.slice none 0 0, fv] w fun e w' => e = .returned (.int .i64 (-1)) ∧ w' = w := by
  go_enter Try.func60, Try.ntmps60
  go_wp2
  go_loopw [8] (fun i wr => i = .int .i64 0 ∧ wr = w) (fun _ _ => 0)
  case atStart => exact ⟨rfl, rfl⟩
  case round =>
    obtain ⟨rfl, rfl⟩ := hrel
    go_wp2
    go_ret
    exact ⟨rfl, rfl⟩
theorem conP_nil (w : World) (fv : Value) : Calls Try.prog 55 #[.slice none 0 0, fv] w fun e w' => e = .returned (.bool false) ∧ w' = w := by
  go_enter Try.func55, Try.ntmps55
  go_wp2_with (go_at_call 60; refine (idxP_nil _ _).mono ?_; rintro e w1 ⟨rfl, rfl⟩)
  go_ret
  exact ⟨rfl, rfl⟩

/-- a list of one hole: a packet's, of which the bytes l came, at 176 -/
def PartV (w : World) (lo : Nat) (off : Int) (l : List UInt8) (v : Value) : Prop :=
  ∃ gp capp A c, v = .slice (some ⟨gp, 0, none⟩) 1 capp ∧ w.ownsRow lo 98 2 v 1 [.int .i64 off, .slice A l.length c] ∧ Rd w lo A l.length l ∧ SlOk A l.length c
theorem PartV.keep {w w' : World} {lo : Nat} {off : Int} {l : List UInt8} {v : Value} (h : PartV w lo off l v) (hk : Kp w w') : PartV w' lo off l v := by
  obtain ⟨gp, capp, A, c, h1, h2, h3, h4⟩ := h
  exact ⟨gp, capp, A, c, h1, orow_keep h2 hk, h3.keep hk, h4⟩
theorem rd_lo {w : World} {lo lo' n : Nat} {A : Option Addr} {l : List UInt8} (h : Rd w lo A n l) (hl : lo' ≤ lo) : Rd w lo' A n l :=
  ⟨h.1, fun hn => by obtain ⟨g, off, e, h1, h2⟩ := h.2 hn; exact ⟨g, off, e, Nat.le_trans hl h1, h2⟩⟩
theorem PartV.low {w : World} {lo lo' : Nat} {off : Int} {l : List UInt8} {v : Value} (h : PartV w lo off l v) (hl : lo' ≤ lo) : PartV w lo' off l v := by
  obtain ⟨gp, capp, A, c, h1, h2, h3, h4⟩ := h
  exact ⟨gp, capp, A, c, h1, orow_lo h2 hl, rd_lo h3 hl, h4⟩
/-- .. the hole -/
def HoleV (w : World) (lo : Nat) (s0 s1 s2 s3 d0 d1 d2 d3 : UInt8) (tot off : Int) (l : List UInt8) (v : Value) : Prop :=
  ∃ g cap got, v = .slice (some ⟨g, 0, none⟩) 1 cap ∧ w.ownsRow lo 90 14 v 1 [.int .u8 (s0.toNat : Int), .int .u8 (s1.toNat : Int), .int .u8 (s2.toNat : Int), .int .u8 (s3.toNat : Int), .int .u8 (d0.toNat : Int), .int .u8 (d1.toNat : Int), .int .u8 (d2.toNat : Int), .int .u8 (d3.toNat : Int), .int .u8 6, .int .u16 7, .int .u8 64, .int .u64 0, .int .i64 tot, got] ∧ PartV w lo off l got
theorem HoleV.keep {w w' : World} {lo : Nat} {s0 s1 s2 s3 d0 d1 d2 d3 : UInt8} {tot off : Int} {l : List UInt8} {v : Value} (h : HoleV w lo s0 s1 s2 s3 d0 d1 d2 d3 tot off l v) (hk : Kp w w') : HoleV w' lo s0 s1 s2 s3 d0 d1 d2 d3 tot off l v := by
  obtain ⟨g, cap, got, h1, h2, h3⟩ := h
  exact ⟨g, cap, got, h1, orow_keep h2 hk, h3.keep hk⟩
theorem HoleV.low {w : World} {lo lo' : Nat} {s0 s1 s2 s3 d0 d1 d2 d3 : UInt8} {tot off : Int} {l : List UInt8} {v : Value} (h : HoleV w lo s0 s1 s2 s3 d0 d1 d2 d3 tot off l v) (hl : lo' ≤ lo) : HoleV w lo' s0 s1 s2 s3 d0 d1 d2 d3 tot off l v := by
  obtain ⟨g, cap, got, h1, h2, h3⟩ := h
  exact ⟨g, cap, got, h1, orow_lo h2 hl, h3.low hl⟩
/-- the first struct of a row is loaded -/
theorem lld_own {P : Program} {w : World} {ops : Array Oper} {rest : List Oper} {o : Oper} {a : Act} {Q : Exit → Act → World → Prop} {lo g n cap k : Nat} {e : TypeId} {xs : List Value} (vs : List Value) (hw : Region.wanted o (yielded ops a.tmps) = true) (p : Operand) (ty : TypeId) (d : TypeDesc) (ho : o.op = .load ty p)
    (hp : a.eval p = .pointer (some ⟨g, 0, none⟩)) (hrow : w.ownsRow lo e k (.slice (some ⟨g, 0, none⟩) n cap) n xs) (hxs : xs = vs) (hn : xs.length = n * k) (hu : P.underlying ty = some d) (hd : (match d with | .struct _ | .array _ _ => true | _ => false) = true) (hi : (P.info? ty).map (·.size) = some vs.length)
    (h : wpList P ops Q rest (a.put o.dst (.agg vs.toArray)) w) : wpList P ops Q (o :: rest) a w := by
  subst hxs
  have hc : ∀ j v, xs[j]? = some v → w.cell? ⟨g, 0 + j, none⟩ = some v := fun j v hv => by
    rw [Nat.zero_add, hrow.cellAt j (by have := (List.getElem?_eq_some_iff.1 hv).1; omega)]
    exact hv
  have hl : (loadCells ⟨g, 0, none⟩ xs.length).run P w = .ok xs.toArray w :=
    run_loadCells_list (P := P) w ⟨g, 0, none⟩ xs (fun j v hv => by
      have hadd : (⟨g, 0, none⟩ : Addr).add j = ⟨g, 0 + j, none⟩ := by unfold Addr.add; split <;> simp_all
      rw [hadd]
      exact hc j v hv)
  have hr : (loadVar ty ⟨g, 0, none⟩).run P w = .ok (.agg xs.toArray) w := by
    cases hq : P.info? ty with
    | none => simp [hq] at hi
    | some i =>
      have hs : i.size = xs.length := by simpa [hq] using hi
      have hagg : (isAgg ty).run P w = .ok true w := by
        unfold isAgg
        rw [Sem.run_bind, run_underlying hu w]
        cases d <;> simp_all
      simp [loadVar, Sem.run_bind, hagg, sizeOf, typeInfo, hq, hs, hl]
  unfold wpList
  rw [if_pos hw]
  refine .inl ?_
  unfold Oper.wp execOp
  simp only [ho, hp, Instr.loadAt, Instr.sureAddr, Sem.run_bind, Sem.run_pure, Result.andThen_ok, hr]
  exact h

set_option maxHeartbeats 1000000 in
theorem idxH_age (w : World) (lo g cap : Nat) (s0 s1 s2 s3 d0 d1 d2 d3 : UInt8) (tot : Int) (got : Value) (b : Nat) (hb : w.cell? ⟨b, 0, none⟩ = some (.int .u64 0)) (hr : w.ownsRow lo 90 14 (.slice (some ⟨g, 0, none⟩) 1 cap) 1 [.int .u8 (s0.toNat : Int), .int .u8 (s1.toNat : Int), .int .u8 (s2.toNat : Int), .int .u8 (s3.toNat : Int), .int .u8 (d0.toNat : Int), .int .u8 (d1.toNat : Int), .int .u8 (d2.toNat : Int), .int .u8 (d3.toNat : Int), .int .u8 6, .int .u16 7, .int .u8 64, .int .u64 0, .int .i64 tot, got]) :
    Calls Try.prog 34 #[.slice (some ⟨g, 0, none⟩) 1 cap, .func (.func 54) #[] #[.pointer (some ⟨b, 0, none⟩)]] w fun e w' => e = .returned (.int .i64 (-1)) ∧ Kp w w' := by
  have HR := Lib.hid hr
  clear hr
  go_enter Try.func34, Try.ntmps34
  go_wp2
  go_loopw [8] (fun i wr => ∃ j : Nat, j ≤ 1 ∧ i = .int .i64 j ∧ Kp w wr) (fun i _ => 1 - (intOf i).toNat)
  case atStart => exact ⟨0, by omega, rfl, Kp.refl w⟩
  case round =>
    obtain ⟨j, hj, rfl, hk⟩ := hrel
    by_cases h0 : j = 0
    · subst h0
      have hr' := orow_keep HR.out hk
      have hb' := hk.cell hb
      go_wp2_with (first
        | (refine lld_own [.int .u8 (s0.toNat : Int), .int .u8 (s1.toNat : Int), .int .u8 (s2.toNat : Int), .int .u8 (s3.toNat : Int), .int .u8 (d0.toNat : Int), .int .u8 (d1.toNat : Int), .int .u8 (d2.toNat : Int), .int .u8 (d3.toNat : Int), .int .u8 6, .int .u16 7, .int .u8 64, .int .u64 0, .int .i64 tot, got] (by rfl) (.tmp 14) _ _ rfl rfl hr' rfl rfl Try.underlying90 rfl szHole ?_)
        | (go_at_call 54; refine (age1_any _ s0 s1 s2 s3 d0 d1 d2 d3 tot got b hb').mono ?_; rintro e w2 ⟨rfl, hk2⟩))
      go_round
      case rel => exact ⟨1, by omega, rfl, hk.trans hk2⟩
      case measure => simp [intOf]
    · obtain rfl : j = 1 := by omega
      go_wp2
      go_ret
      exact ⟨rfl, hk⟩
set_option maxHeartbeats 1000000 in
theorem idxH_add (w : World) (lo g cap : Nat) (s0 s1 s2 s3 d0 d1 d2 d3 : UInt8) (tot : Int) (got : Value) (hg : got.oneCell' = true) (mo : Bool) (off : Int) (dat : Value) (hd : dat.oneCell' = true) (b : Nat) (T : TypeId) (m : Nat × Nat) (hb : w.heap[b]? = some (.cells #[.int .u16 7, .bool mo, .int .i64 off, .int .u8 64, .int .u8 6, .int .u8 (s0.toNat : Int), .int .u8 (s1.toNat : Int), .int .u8 (s2.toNat : Int), .int .u8 (s3.toNat : Int), .int .u8 (d0.toNat : Int), .int .u8 (d1.toNat : Int), .int .u8 (d2.toNat : Int), .int .u8 (d3.toNat : Int), dat] T m)) (hr : w.ownsRow lo 90 14 (.slice (some ⟨g, 0, none⟩) 1 cap) 1 [.int .u8 (s0.toNat : Int), .int .u8 (s1.toNat : Int), .int .u8 (s2.toNat : Int), .int .u8 (s3.toNat : Int), .int .u8 (d0.toNat : Int), .int .u8 (d1.toNat : Int), .int .u8 (d2.toNat : Int), .int .u8 (d3.toNat : Int), .int .u8 6, .int .u16 7, .int .u8 64, .int .u64 0, .int .i64 tot, got]) :
    Calls Try.prog 34 #[.slice (some ⟨g, 0, none⟩) 1 cap, .func (.func 35) #[] #[.pointer (some ⟨b, 0, none⟩)]] w fun e w' => e = .returned (.int .i64 0) ∧ Kp w w' := by
  have HR := Lib.hid hr
  clear hr
  go_enter Try.func34, Try.ntmps34
  go_wp2
  go_loopw [8] (fun i wr => i = .int .i64 0 ∧ Kp w wr) (fun _ _ => 0)
  case atStart => exact ⟨rfl, Kp.refl w⟩
  case round =>
    obtain ⟨rfl, hk⟩ := hrel
    have hr' := orow_keep HR.out hk
    have hb' := (hk.block _ (Array.getElem?_eq_some_iff.1 hb).1).trans hb
    go_wp2_with (first
      | (refine lld_own [.int .u8 (s0.toNat : Int), .int .u8 (s1.toNat : Int), .int .u8 (s2.toNat : Int), .int .u8 (s3.toNat : Int), .int .u8 (d0.toNat : Int), .int .u8 (d1.toNat : Int), .int .u8 (d2.toNat : Int), .int .u8 (d3.toNat : Int), .int .u8 6, .int .u16 7, .int .u8 64, .int .u64 0, .int .i64 tot, got] (by rfl) (.tmp 14) _ _ rfl rfl hr' rfl rfl Try.underlying90 rfl szHole ?_)
      | (go_at_call 35; refine (add1_any _ s0 s1 s2 s3 d0 d1 d2 d3 tot got mo off dat hg hd b T m hb').mono ?_; rintro e w2 ⟨rfl, hk2⟩))
    go_ret
    exact ⟨rfl, hk.trans hk2⟩

set_option maxHeartbeats 1000000 in
theorem delF_nil (w : World) (fv : Value) : Calls Try.prog 52 #[.slice none 0 0, fv] w fun e w' => e = .returned (.slice none 0 0) ∧ w' = w := by
  go_enter Try.func52, Try.ntmps52
  go_wp2_with (go_at_call 34; refine (idxH_nil _ _).mono ?_; rintro e w1 ⟨rfl, rfl⟩)
  go_ret
  exact ⟨rfl, rfl⟩
set_option maxHeartbeats 1000000 in
theorem delF_age (w : World) (lo g cap : Nat) (s0 s1 s2 s3 d0 d1 d2 d3 : UInt8) (tot : Int) (got : Value) (b : Nat) (hb : w.cell? ⟨b, 0, none⟩ = some (.int .u64 0)) (hr : w.ownsRow lo 90 14 (.slice (some ⟨g, 0, none⟩) 1 cap) 1 [.int .u8 (s0.toNat : Int), .int .u8 (s1.toNat : Int), .int .u8 (s2.toNat : Int), .int .u8 (s3.toNat : Int), .int .u8 (d0.toNat : Int), .int .u8 (d1.toNat : Int), .int .u8 (d2.toNat : Int), .int .u8 (d3.toNat : Int), .int .u8 6, .int .u16 7, .int .u8 64, .int .u64 0, .int .i64 tot, got]) :
    Calls Try.prog 52 #[.slice (some ⟨g, 0, none⟩) 1 cap, .func (.func 54) #[] #[.pointer (some ⟨b, 0, none⟩)]] w fun e w' => e = .returned (.slice (some ⟨g, 0, none⟩) 1 cap) ∧ Kp w w' := by
  have HR := Lib.hid hr
  clear hr
  go_enter Try.func52, Try.ntmps52
  go_wp2_with (go_at_call 34; refine (idxH_age _ lo g cap s0 s1 s2 s3 d0 d1 d2 d3 tot got b hb HR.out).mono ?_; rintro e w1 ⟨rfl, hk1⟩)
  go_ret
  exact ⟨rfl, hk1⟩

set_option maxHeartbeats 1000000 in
theorem fits_new (w : World) (s0 s1 s2 s3 d0 d1 d2 d3 : UInt8) (off en : Int) (dat : Value) :
    Calls Try.prog 37 #[.agg #[.int .u8 (s0.toNat : Int), .int .u8 (s1.toNat : Int), .int .u8 (s2.toNat : Int), .int .u8 (s3.toNat : Int), .int .u8 (d0.toNat : Int), .int .u8 (d1.toNat : Int), .int .u8 (d2.toNat : Int), .int .u8 (d3.toNat : Int), .int .u8 6, .int .u16 7, .int .u8 64, .int .u64 0, .int .i64 (-1), .slice none 0 0], .agg #[.int .u16 7, .bool false, .int .i64 off, .int .u8 64, .int .u8 6, .int .u8 (s0.toNat : Int), .int .u8 (s1.toNat : Int), .int .u8 (s2.toNat : Int), .int .u8 (s3.toNat : Int), .int .u8 (d0.toNat : Int), .int .u8 (d1.toNat : Int), .int .u8 (d2.toNat : Int), .int .u8 (d3.toNat : Int), dat], .int .i64 en] w fun e w' => e = .returned (.bool true) ∧ Kp w w' := by
  have kp : Kp w (((w.alloc (.cells #[.int .u8 (s0.toNat : Int), .int .u8 (s1.toNat : Int), .int .u8 (s2.toNat : Int), .int .u8 (s3.toNat : Int), .int .u8 (d0.toNat : Int), .int .u8 (d1.toNat : Int), .int .u8 (d2.toNat : Int), .int .u8 (d3.toNat : Int), .int .u8 6, .int .u16 7, .int .u8 64, .int .u64 0, .int .i64 (-1), .slice none 0 0] 90)).alloc (.cells #[.int .u16 7, .bool false, .int .i64 off, .int .u8 64, .int .u8 6, .int .u8 (s0.toNat : Int), .int .u8 (s1.toNat : Int), .int .u8 (s2.toNat : Int), .int .u8 (s3.toNat : Int), .int .u8 (d0.toNat : Int), .int .u8 (d1.toNat : Int), .int .u8 (d2.toNat : Int), .int .u8 (d3.toNat : Int), dat] 38)).alloc (.cells #[.int .i64 en] 3)) := (((Kp.refl _).alloc _).alloc _).alloc _
  have hmf : ∀ (fn : Fn) (first cap : Array Value) (w : World), (Instr.makeFunc fn first cap).run Try.prog w = .ok (.func fn first cap) w := fun _ _ _ _ => rfl
  go_enter Try.func37, Try.ntmps37
  go_wp2_with (go_at_call 55; refine (conP_nil _ _).mono ?_; rintro e w1 ⟨rfl, rfl⟩)
  go_ret
  exact ⟨rfl, kp⟩
set_option maxHeartbeats 1000000 in
theorem fits_old (w : World) (s0 s1 s2 s3 d0 d1 d2 d3 : UInt8) (tot off en : Int) (got dat : Value) (h0 : 0 ≤ tot) (h1 : en ≤ tot) :
    Calls Try.prog 37 #[.agg #[.int .u8 (s0.toNat : Int), .int .u8 (s1.toNat : Int), .int .u8 (s2.toNat : Int), .int .u8 (s3.toNat : Int), .int .u8 (d0.toNat : Int), .int .u8 (d1.toNat : Int), .int .u8 (d2.toNat : Int), .int .u8 (d3.toNat : Int), .int .u8 6, .int .u16 7, .int .u8 64, .int .u64 0, .int .i64 tot, got], .agg #[.int .u16 7, .bool true, .int .i64 off, .int .u8 64, .int .u8 6, .int .u8 (s0.toNat : Int), .int .u8 (s1.toNat : Int), .int .u8 (s2.toNat : Int), .int .u8 (s3.toNat : Int), .int .u8 (d0.toNat : Int), .int .u8 (d1.toNat : Int), .int .u8 (d2.toNat : Int), .int .u8 (d3.toNat : Int), dat], .int .i64 en] w fun e w' => e = .returned (.bool true) ∧ Kp w w' := by
  have kp : Kp w (((w.alloc (.cells #[.int .u8 (s0.toNat : Int), .int .u8 (s1.toNat : Int), .int .u8 (s2.toNat : Int), .int .u8 (s3.toNat : Int), .int .u8 (d0.toNat : Int), .int .u8 (d1.toNat : Int), .int .u8 (d2.toNat : Int), .int .u8 (d3.toNat : Int), .int .u8 6, .int .u16 7, .int .u8 64, .int .u64 0, .int .i64 tot, got] 90)).alloc (.cells #[.int .u16 7, .bool true, .int .i64 off, .int .u8 64, .int .u8 6, .int .u8 (s0.toNat : Int), .int .u8 (s1.toNat : Int), .int .u8 (s2.toNat : Int), .int .u8 (s3.toNat : Int), .int .u8 (d0.toNat : Int), .int .u8 (d1.toNat : Int), .int .u8 (d2.toNat : Int), .int .u8 (d3.toNat : Int), dat] 38)).alloc (.cells #[.int .i64 en] 3)) := (((Kp.refl _).alloc _).alloc _).alloc _
  go_enter Try.func37, Try.ntmps37
  go_wp2
  go_ret
  exact ⟨rfl, kp⟩
end Go.Proofs.Ytnoobifdaldfiaa.Fr
