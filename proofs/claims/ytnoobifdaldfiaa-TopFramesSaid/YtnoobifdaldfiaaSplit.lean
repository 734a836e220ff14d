/-
  The contract of octets.Split: bytes in parts of these sizes, the rest as the last one; the parts lie in new memory.
-/
import Derived.Test.YtnoobifdaldfiaaRows
import Derived.Test.YtnoobifdaldfiaaSplitL
import Derived.Test.YtnoobifdaldfiaaApp8
import Derived.Test.YtnoobifdaldfiaaCut
import Derived.WalkLawsBesides
import Derived.Lib.Hide
import Derived.Deep.QuietTactic
import Derived.BigQuiet
namespace Go.Proofs.Ytnoobifdaldfiaa
open Go.RowKit
set_option maxRecDepth 100000

theorem infoB : (Try.prog.info? 24).map (fun i => (i.zero, i.size, i.bytes)) = some (some (.slice none 0 0), 1, 24) := by kernel_rfl

/-- append of one part -/
theorem app1B {w : World} {lo n : Nat} {xs : List Value} {ops : Array Oper} {rest : List Oper} {o : Oper} {a : Act} {Q : Exit → Act → World → Prop} (hw : Region.wanted o (yielded ops a.tmps) = true) (s x : Operand)
    (ho : o.op = .call { callee := .builtin .append, args := #[s, x], argTypes := #[82, 82] })
    {v : Value} {A : Option Addr} {m c' b off c : Nat} (hs : a.eval s = v) (hx : a.eval x = .slice (some ⟨b, off, none⟩) 1 c)
    (hown : w.ownsRow lo 24 1 v n xs) (hr : w.cell? ⟨b, off, none⟩ = some (.slice A m c')) (hb : n ≤ 1048576) (hlo : lo ≤ w.heap.size)
    (h : ∀ g' cap' w', OwnV 24 w' lo g' (n + 1) cap' (xs ++ [.slice A m c']) → w.grownBy w' v.ownBlock → wpList Try.prog ops Q rest (a.put o.dst (.slice (some ⟨g', 0, none⟩) (n + 1) cap')) w') : wpList Try.prog ops Q (o :: rest) a w := by
  obtain ⟨i0, hi0, hz0, hz1, hz2⟩ := info_parts infoB
  exact wpList_append_one hw s x 82 ho i0 _ 24 Try.underlying82 hi0 hz0 hz1 hz2 rfl hs hx hown hr rfl (by unfold maxLen; omega) (by omega) hlo h

/-- rows of bytes, each the call's own -/
def Owns (w : World) (lo : Nat) (vs : List Value) (ps : List (List UInt8)) : Prop :=
  ps.length = vs.length ∧ ∀ (j : Nat) (v : Value), vs[j]? = some v → ∃ g n c p, v = .slice (some ⟨g, 0, none⟩) n c ∧ ps[j]? = some p ∧ OwnV 5 w lo g n c (bvs p)

theorem Owns.snoc {w : World} {lo g n c : Nat} {vs : List Value} {ps : List (List UInt8)} {p : List UInt8} (h : Owns w lo vs ps) (ho : OwnV 5 w lo g n c (bvs p)) : Owns w lo (vs ++ [.slice (some ⟨g, 0, none⟩) n c]) (ps ++ [p]) := by
  refine ⟨by simp [h.1], fun j v hv => ?_⟩
  rcases Nat.lt_trichotomy j vs.length with hj | hj | hj
  · rw [List.getElem?_append_left hj] at hv
    obtain ⟨g', n', c', p', h1, h2, h3⟩ := h.2 j v hv
    exact ⟨g', n', c', p', h1, by rw [List.getElem?_append_left (by rw [h.1]; exact hj)]; exact h2, h3⟩
  · subst hj
    simp at hv
    exact ⟨g, n, c, p, hv.symm, by rw [← h.1]; simp, ho⟩
  · rw [List.getElem?_eq_none (by simp; omega)] at hv; cases hv
theorem Owns.keep {w w' : World} {lo : Nat} {vs : List Value} {ps : List (List UInt8)} (h : Owns w lo vs ps) (k : Kp w w') : Owns w' lo vs ps :=
  ⟨h.1, fun j v hv => by obtain ⟨g, n, c, p, h1, h2, h3⟩ := h.2 j v hv; exact ⟨g, n, c, p, h1, h2, h3.keep k⟩⟩
theorem Owns.far {w w' : World} {lo lo2 n2 : Nat} {v2 : Value} {xs2 : List Value} {vs : List Value} {ps : List (List UInt8)} (h : Owns w lo vs ps) (ho : w.ownsRow lo2 24 1 v2 n2 xs2) (hg : w.grownBy w' v2.ownBlock) : Owns w' lo vs ps :=
  ⟨h.1, fun j v hv => by
    obtain ⟨g, n, c, p, h1, h2, h3⟩ := h.2 j v hv
    refine ⟨g, n, c, p, h1, h2, h3.far hg fun e => ?_⟩
    rcases ho.2 with ⟨rfl, _⟩ | ⟨g', cap, cur, rfl, hlo, hh, hn, hc, hs, hx⟩
    · cases e
    · injection e with e
      exact OwnV.ne (e1 := 24) (OwnV.mk' hlo hh hn hc (by omega) rfl) h3 (by decide) e⟩
theorem Owns.rd2 {w : World} {lo g n c : Nat} {vs : List Value} {ps : List (List UInt8)} (h : Owns w lo vs ps) (ho : OwnV 24 w lo g n c vs) : Rd2 w lo (some ⟨g, 0, none⟩) n ps := by
  refine ⟨by rw [h.1, ho.len], fun hn => ⟨g, 0, rfl, ho.lo_le, fun j l hl => ?_⟩⟩
  have hj : j < vs.length := by
    rcases Nat.lt_or_ge j vs.length with h' | h'
    · exact h'
    · rw [List.getElem?_eq_none (by rw [h.1]; exact h')] at hl; cases hl
  obtain ⟨g', n', c', p, h1, h2, h3⟩ := h.2 j _ (List.getElem?_eq_getElem hj)
  rw [hl] at h2
  injection h2 with h2
  subst h2
  obtain ⟨g0, off0, e, _, hc⟩ := ho.rd.2 hn
  injection e with e
  injection e with e1 e2
  subst e1
  subst e2
  exact ⟨some ⟨g', 0, none⟩, n', c', by rw [hc j _ (List.getElem?_eq_getElem hj), h1], h3.rd⟩

theorem split_go {zs : List Int} {k : Nat} {z : Int} (h : zs[k]? = some z) : zs.drop k = z :: zs.drop (k + 1) := by
  have hk : k < zs.length := by
    rcases Nat.lt_or_ge k zs.length with h' | h'
    · exact h'
    · rw [List.getElem?_eq_none h'] at h; cases h
  rw [List.drop_eq_getElem_cons hk]
  rw [List.getElem?_eq_getElem hk] at h
  injection h with h
  rw [h]

theorem infoU : ∃ i, Try.prog.info? (Try.prog.elem 24) = some i ∧ i.size = 1 := by
  obtain ⟨i0, hi0, _, hz1, _⟩ := info_parts info5
  exact ⟨i0, hi0, hz1⟩
set_option maxRecDepth 100000 in
theorem elemB : Try.prog.underlying 24 = some (.slice (Try.prog.elem 24)) := Try.underlying24

/-- what Split hands back: the parts in new memory, or an error -/
def SplitPost (w : World) (l : List UInt8) (zs : List Int) (e : Ending) (w' : World) : Prop :=
  Kp w w' ∧ ∃ v, e = .returned (.tuple #[v, .int .i64 (Sp.split l zs).2]) ∧
    (((Sp.split l zs).2 ≠ 0 ∧ v = .slice none 0 0) ∨
     ((Sp.split l zs).2 = 0 ∧ ∃ g cap vs, v = .slice (some ⟨g, 0, none⟩) (Sp.split l zs).1.length cap ∧ OwnV 24 w' w.heap.size g (Sp.split l zs).1.length cap vs ∧ Owns w' w.heap.size vs (Sp.split l zs).1))

def SplitRel (w : World) (l : List UInt8) (zs : List Int) (n : Nat) (k : Nat) (v : Value) (A' : Option Addr) (n' c' : Nat) (wr : World) : Prop :=
  ∃ (vs : List Value) (ps : List (List UInt8)) (r : List UInt8), n' ≤ n ∧ SlOk A' n' c' ∧ Rd w 0 A' n' r ∧ wr.ownsRow w.heap.size 24 1 v k vs ∧ Owns wr w.heap.size vs ps ∧ Kp w wr ∧
    Sp.split l zs = Sp.pre ps (Sp.split r (zs.drop k))

theorem ownBlock_fresh {w : World} {lo e size n : Nat} {v : Value} {xs : List Value} (h : w.ownsRow lo e size v n xs) : v.ownBlock = none ∨ v.ownBlock ≠ some w.heap.size := by
  right
  intro hv
  have := (World.ownsRow.lt h _ hv).2
  omega
theorem ownBlock_le {w : World} {lo e size n : Nat} {v : Value} {xs : List Value} (h : w.ownsRow lo e size v n xs) : ∀ k, v.ownBlock = some k → lo ≤ k := fun k hk => (World.ownsRow.lt h k hk).1

set_option maxHeartbeats 1000000 in
theorem split_any (w : World) (A : Option Addr) (n c : Nat) (l : List UInt8) (Z : Option Addr) (d f : Nat) (zs : List Int)
    (hA : Rd w 0 A n l) (hok : SlOk A n c) (hn : n ≤ 140737488351232) (hZ : RdV w 0 Z d (zs.map (Value.int .i64))) (hd : d ≤ 65536) :
    Calls Try.prog 31 #[.slice A n c, .slice Z d f] w (SplitPost w l zs) := by
  have hzl : zs.length = d := by simpa using hZ.1
  have HZL := Lib.hid hzl
  clear hzl
  obtain ⟨i0, hi0, hs0⟩ := infoU
  go_enter Try.func31, Try.ntmps31
  go_wp2
  go_loopw [6, 7, 13] (fun v rest i wr => ∃ (k : Nat) (A' : Option Addr) (n' c' : Nat), k ≤ d ∧ i = .int .i64 k ∧ rest = .slice A' n' c' ∧ SplitRel w l zs n k v A' n' c' wr)
    (fun _ _ i _ => d - (intOf i).toNat)
  case atStart =>
    exact ⟨0, A, n, c, Nat.zero_le _, rfl, rfl, [], [], l, Nat.le_refl _, hok, hA, World.ownsRow_nil _ _ _ _, ⟨rfl, fun j v hv => by simp at hv⟩, Kp.refl _, by rw [List.drop_zero, Sp.pre_nil]⟩
  case round =>
    obtain ⟨k, A', n', c', hk, rfl, rfl, hrel⟩ := hrel
    obtain ⟨vs, ps, r, hn', hok', hr, hown, hps, hkp, hsp⟩ := hrel
    have HOK := Lib.hid hok'
    have HR := Lib.hid hr
    have HOWN := Lib.hid hown
    have HPS := Lib.hid hps
    have HSP := Lib.hid hsp
    have HLEN := Lib.hid hr.len
    have hb1 := hok'.1
    have hb2 := hok'.2.1
    unfold maxLen at hb2
    clear hok' hr hown hps hsp hok hA
    by_cases hlt : k < d
    · obtain ⟨g, off, rfl, _, hcz⟩ := hZ.2 (by omega)
      have hkz : k < zs.length := by rw [HZL.out]; exact hlt
      obtain ⟨z, hz⟩ : ∃ z, zs[k]? = some z := ⟨_, List.getElem?_eq_getElem hkz⟩
      have cz := hkp.cell (hcz k (.int .i64 z) (by rw [List.getElem?_map, hz]; rfl))
      have HD := Lib.hid (split_go hz)
      have HZ := Lib.hid hZ
      clear hz hZ hcz hkz
      by_cases h1 : z < 0
      · go_wp2
        go_ret2
        have es : Sp.split l zs = ([], 1) := by
          rw [HSP.out, HD.out, Sp.split, if_pos h1]; rfl
        exact ⟨hkp, .slice none 0 0, by rw [es]; rfl, .inl ⟨by rw [es]; decide, rfl⟩⟩
      · by_cases h2 : (n' : Int) < z
        · go_wp2
          go_ret2
          have es : Sp.split l zs = ([], 6) := by
            rw [HSP.out, HD.out, Sp.split, if_neg (by omega), if_pos (by rw [HLEN.out]; exact h2)]; rfl
          exact ⟨hkp, .slice none 0 0, by rw [es]; rfl, .inl ⟨by rw [es]; decide, rfl⟩⟩
        · obtain ⟨m, rfl⟩ := Int.eq_ofNat_of_zero_le (show 0 ≤ z by omega)
          have hm : m ≤ n' := by omega
          obtain ⟨s1, rd1, ok1⟩ := cut_hi (P := Try.prog) (kd := .i64) elemB hi0 hs0 HR.out HOK.out hm
          obtain ⟨A2, s2, rd2, ok2⟩ := cut_lo (P := Try.prog) (kd := .i64) elemB hi0 hs0 HR.out HOK.out hm
          have HP : Hid (Sp.pre ps (Sp.split r (zs.drop k)) = Sp.pre (ps ++ [r.take m]) (Sp.split (r.drop m) (zs.drop (k + 1)))) := Lib.hid (by
            rw [HD.out, Sp.pre_step ps (by omega) (by rw [HLEN.out]; omega)]
            simp only [Int.toNat_natCast])
          have RD1 := Lib.hid rd1
          have RD2 := Lib.hid rd2
          have OK2 := Lib.hid ok2
          clear rd1 rd2 ok1 ok2 h1 h2
          have fresh := ownBlock_fresh HOWN.out
          have own0 : OwnV 5 (wr.alloc (.cells #[] 5)) w.heap.size wr.heap.size 0 0 (bvs []) := OwnV.lit (vs := []) rfl hkp.size rfl (by decide)
          have hk1 : Kp w (wr.alloc (.cells #[] 5)) := hkp.alloc _
          have kw : Kp wr (wr.alloc (.cells #[] 5)) := (Kp.refl wr).alloc _
          go_wp2_with (first
            | (at_builtin; refine app8 (by rfl) (.tmp 24) (.tmp 27) rfl rfl rfl own0 (RD1.out.keep hk1) m (r.take m) (by omega) rfl (by omega) hk1.size ?_; intro g1 cap1 w1 own1 gr1 at1; have hk2 := hk1.grown gr1 own0.lo_le; have kw1 := kw.grown gr1 (Nat.le_refl _); have c1 := cell_new w1 #[.slice (some ⟨g1, 0, none⟩) m cap1] 24 (0, 0) 0; have ho1 := ((HOWN.out.alloc (.cells #[] 5)).kept gr1 fresh).alloc (.cells #[.slice (some ⟨g1, 0, none⟩) m cap1] 24))
            | (at_builtin; refine app1B (by rfl) (.tmp 23) (.tmp 29) rfl rfl rfl ho1 c1 (by omega) (hk2.alloc _).size ?_; intro g2 cap2 w2 own2 gr2))
          have ow2 := (((HPS.out.keep kw1).snoc own1).keep ((Kp.refl w1).alloc (.cells #[.slice (some ⟨g1, 0, none⟩) m cap1] 24))).far ho1 gr2
          have hk3 := (hk2.alloc (.cells #[.slice (some ⟨g1, 0, none⟩) m cap1] 24)).grownR gr2 (ownBlock_le HOWN.out)
          go_roundw
          case rel => exact ⟨k + 1, A2, n' - m, c' - m, by omega, by go_num, rfl, _, _, _, by omega, OK2.out, RD2.out, own2, ow2, hk3, by rw [HSP.out, HP.out]⟩
          case measure => simp [intOf]; omega
    · obtain rfl : k = d := by omega
      have es : Sp.split l zs = (ps ++ [r], 0) := by
        rw [HSP.out, List.drop_of_length_le (by rw [HZL.out]; omega)]; rfl
      have ES := Lib.hid es
      clear es
      have fresh := ownBlock_fresh HOWN.out
      have own0 : OwnV 5 (wr.alloc (.cells #[] 5)) w.heap.size wr.heap.size 0 0 (bvs []) := OwnV.lit (vs := []) rfl hkp.size rfl (by decide)
      have hk1 : Kp w (wr.alloc (.cells #[] 5)) := hkp.alloc _
      have kw : Kp wr (wr.alloc (.cells #[] 5)) := (Kp.refl wr).alloc _
      go_wp2_with (first
        | (at_builtin; refine app8 (by rfl) (.tmp 36) (.tmp 37) rfl rfl rfl own0 (HR.out.keep hk1) n' r (by omega) rfl (by omega) hk1.size ?_; intro g1 cap1 w1 own1 gr1 at1; have hk2 := hk1.grown gr1 own0.lo_le; have kw1 := kw.grown gr1 (Nat.le_refl _); have c1 := cell_new w1 #[.slice (some ⟨g1, 0, none⟩) n' cap1] 24 (0, 0) 0; have ho1 := ((HOWN.out.alloc (.cells #[] 5)).kept gr1 fresh).alloc (.cells #[.slice (some ⟨g1, 0, none⟩) n' cap1] 24))
        | (at_builtin; refine app1B (by rfl) (.tmp 35) (.tmp 39) rfl rfl rfl ho1 c1 (by omega) (hk2.alloc _).size ?_; intro g2 cap2 w2 own2 gr2))
      have ow2 := (((HPS.out.keep kw1).snoc own1).keep ((Kp.refl w1).alloc (.cells #[.slice (some ⟨g1, 0, none⟩) n' cap1] 24))).far ho1 gr2
      have hk3 := (hk2.alloc (.cells #[.slice (some ⟨g1, 0, none⟩) n' cap1] 24)).grownR gr2 (ownBlock_le HOWN.out)
      go_ret2
      have e1 := ES.out
      have hl : (ps ++ [r]).length = k + 1 := by rw [ow2.1, own2.len]
      refine ⟨hk3, .slice (some ⟨g2, 0, none⟩) (k + 1) cap2, by rw [e1]; rfl, .inr ⟨by rw [e1], g2, cap2, vs ++ [.slice (some ⟨g1, 0, none⟩) n' cap1], ?_, ?_, ?_⟩⟩
      · rw [e1]
        simp only [hl]
      · rw [e1]
        simp only [hl]
        exact own2
      · rw [e1]
        exact ow2

theorem Owns.part {w : World} {lo g n c j : Nat} {vs : List Value} {ps : List (List UInt8)} {p : List UInt8} (h : Owns w lo vs ps) (ho : OwnV 24 w lo g n c vs) (hp : ps[j]? = some p) :
    ∃ g' c', w.cell? ⟨g, j, none⟩ = some (.slice (some ⟨g', 0, none⟩) p.length c') ∧ OwnV 5 w lo g' p.length c' (bvs p) := by
  have hj : j < vs.length := by
    rcases Nat.lt_or_ge j vs.length with h' | h'
    · exact h'
    · rw [List.getElem?_eq_none (by rw [h.1]; exact h')] at hp; cases hp
  obtain ⟨g', n', c', p', h1, h2, h3⟩ := h.2 j _ (List.getElem?_eq_getElem hj)
  rw [hp] at h2
  injection h2 with h2
  subst h2
  have hn : p.length = n' := by simpa [bvs] using h3.len
  subst hn
  obtain ⟨g0, off0, e, _, hc⟩ := ho.rd.2 (by have := ho.len; omega)
  injection e with e
  injection e with e1 e2
  subst e1
  subst e2
  refine ⟨g', c', ?_, h3⟩
  have := hc j _ (List.getElem?_eq_getElem hj)
  rw [h1, Nat.zero_add] at this
  exact this
theorem OwnV.slOk {w : World} {e : TypeId} {lo g n c : Nat} {xs : List Value} (h : OwnV e w lo g n c xs) : SlOk (some ⟨g, 0, none⟩) n c := ⟨h.out.2.2.1, h.out.2.2.2.1, fun e => by cases e⟩
end Go.Proofs.Ytnoobifdaldfiaa
