/-
  The packet of any bytes, by one plain word ('out6'); a packet's own bytes are that packet's.
-/
import Derived.Test.YtnoobifdaldfiaaFI6f
namespace Go.Proofs.Ytnoobifdaldfiaa.Fr
open Go.RowKit
set_option maxRecDepth 100000


structure Pkt where
  id : Nat
  mo : Bool
  pm : Nat
  ttl : UInt8
  proto : UInt8
  src : List UInt8
  dst : List UInt8
  data : List UInt8

/-- a packet, or an error's number -/
def out6 : List UInt8 → Int ⊕ Pkt
  | p0 :: p1 :: p2 :: p3 :: p4 :: p5 :: p6 :: p7 :: q0 :: q1 :: q2 :: q3 :: s0 :: s1 :: s2 :: s3 :: d0 :: d1 :: d2 :: d3 :: r =>
    if form6 p0 (256 * p2.toNat + p3.toNat) = true then .inl 7 else if (p0 :: p1 :: p2 :: p3 :: p4 :: p5 :: p6 :: p7 :: q0 :: q1 :: q2 :: q3 :: s0 :: s1 :: s2 :: s3 :: d0 :: d1 :: d2 :: d3 :: r).length < 256 * p2.toNat + p3.toNat then .inl 6
    else if Ck.ck ((p0 :: p1 :: p2 :: p3 :: p4 :: p5 :: p6 :: p7 :: q0 :: q1 :: q2 :: q3 :: s0 :: s1 :: s2 :: s3 :: d0 :: d1 :: d2 :: d3 :: r).take (4 * (p0.toNat % 16))) ≠ 65535 then .inl 8
    else .inr ⟨256 * p4.toNat + p5.toNat, decide ((256 * p6.toNat + p7.toNat) / 8192 % 2 = 1), (256 * p6.toNat + p7.toNat) % 8192, q0, q1, [s0, s1, s2, s3], [d0, d1, d2, d3],
      ((p0 :: p1 :: p2 :: p3 :: p4 :: p5 :: p6 :: p7 :: q0 :: q1 :: q2 :: q3 :: s0 :: s1 :: s2 :: s3 :: d0 :: d1 :: d2 :: d3 :: r).take (256 * p2.toNat + p3.toNat)).drop (4 * (p0.toNat % 16))⟩
  | _ => .inl 6

theorem len20 (l : List UInt8) (h : 20 ≤ l.length) : ∃ (p0 p1 p2 p3 p4 p5 p6 p7 q0 q1 q2 q3 s0 s1 s2 s3 d0 d1 d2 d3 : UInt8) (r : List UInt8), l = p0 :: p1 :: p2 :: p3 :: p4 :: p5 :: p6 :: p7 :: q0 :: q1 :: q2 :: q3 :: s0 :: s1 :: s2 :: s3 :: d0 :: d1 :: d2 :: d3 :: r := by
  obtain ⟨x1, r1, rfl, h1, hr1⟩ := partOf 4 (by omega : 4 ≤ l.length)
  rw [List.length_append] at hr1 h
  obtain ⟨x2, r2, rfl, h2, hr2⟩ := partOf 4 (by omega : 4 ≤ r1.length)
  rw [List.length_append] at hr1 hr2 h
  obtain ⟨x3, r3, rfl, h3, hr3⟩ := partOf 4 (by omega : 4 ≤ r2.length)
  rw [List.length_append] at hr1 hr2 hr3 h
  obtain ⟨x4, r4, rfl, h4, hr4⟩ := partOf 4 (by omega : 4 ≤ r3.length)
  rw [List.length_append] at hr1 hr2 hr3 hr4 h
  obtain ⟨x5, r5, rfl, h5, hr5⟩ := partOf 4 (by omega : 4 ≤ r4.length)
  obtain ⟨p0, p1, p2, p3, rfl⟩ := len4 h1
  obtain ⟨p4, p5, p6, p7, rfl⟩ := len4 h2
  obtain ⟨q0, q1, q2, q3, rfl⟩ := len4 h3
  obtain ⟨s0, s1, s2, s3, rfl⟩ := len4 h4
  obtain ⟨d0, d1, d2, d3, rfl⟩ := len4 h5
  exact ⟨p0, p1, p2, p3, p4, p5, p6, p7, q0, q1, q2, q3, s0, s1, s2, s3, d0, d1, d2, d3, r5, rfl⟩

theorem out6_short {l : List UInt8} (h : l.length < 20) : out6 l = .inl 6 := by
  unfold out6
  split
  · simp only [List.length_cons] at h; omega
  · rfl

/-- what a call hands back, as 'out6' says -/
def P6Post (w : World) (l : List UInt8) (e : Ending) (w' : World) : Prop :=
  (∃ k, k ≠ 0 ∧ out6 l = .inl k ∧ PktNo w k e w') ∨
  ∃ (id : Nat) (mo : Bool) (pm : Nat) (t p s0 s1 s2 s3 d0 d1 d2 d3 : UInt8) (data : List UInt8), out6 l = .inr ⟨id, mo, pm, t, p, [s0, s1, s2, s3], [d0, d1, d2, d3], data⟩ ∧ id ≤ 65535 ∧ pm < 8192 ∧ data.length ≤ l.length ∧ PktOk w id mo pm t p s0 s1 s2 s3 d0 d1 d2 d3 data e w'

theorem p6_any (w : World) (A : Option Addr) (n c : Nat) (l : List UInt8) (hA : Rd w 0 A n l) (hok : SlOk A n c) (hn : n ≤ 1048576) : Calls Try.prog 15 #[.slice A n c] w (P6Post w l) := by
  have hl := hA.len
  by_cases h : n < 20
  · exact (p6_short w A n c h).mono fun e w' hp => .inl ⟨6, by decide, out6_short (by omega), hp⟩
  · obtain ⟨p0, p1, p2, p3, p4, p5, p6, p7, q0, q1, q2, q3, s0, s1, s2, s3, d0, d1, d2, d3, r, rfl⟩ := len20 l (by omega)
    by_cases hf : form6 p0 (256 * p2.toNat + p3.toNat) = true
    · refine (p6_form w A n c p0 p1 p2 p3 _ hA (by omega) (by omega) hf).mono fun e w' hp => .inl ⟨7, by decide, ?_, hp⟩
      simp only [out6]; rw [if_pos hf]
    · have hf' : form6 p0 (256 * p2.toNat + p3.toNat) = false := by simpa using hf
      by_cases hc : n < 256 * p2.toNat + p3.toNat
      · refine (p6_cut w A n c p0 p1 p2 p3 _ hA hok (by omega) (by omega) hf' hc).mono fun e w' hp => .inl ⟨6, by decide, ?_, hp⟩
        simp only [out6]; rw [if_neg hf, if_pos (by rw [hl]; exact hc)]
      · by_cases hs : Ck.ck ((p0 :: p1 :: p2 :: p3 :: p4 :: p5 :: p6 :: p7 :: q0 :: q1 :: q2 :: q3 :: s0 :: s1 :: s2 :: s3 :: d0 :: d1 :: d2 :: d3 :: r).take (4 * (p0.toNat % 16))) = 65535
        · refine (p6_ok w A n c p0 p1 p2 p3 p4 p5 p6 p7 q0 q1 q2 q3 s0 s1 s2 s3 d0 d1 d2 d3 r hA hok (by omega) hn hf' (by omega) hs).mono fun e w' hp => .inr ⟨_, _, _, _, _, s0, s1, s2, s3, d0, d1, d2, d3, _, ?_, ?_, ?_, ?_, hp⟩
          · simp only [out6]; rw [if_neg hf, if_neg (by rw [hl]; exact hc), if_neg (by simpa using hs)]
          · have := p4.toNat_lt; have := p5.toNat_lt; omega
          · omega
          · rw [List.length_drop, List.length_take]; omega
        · refine (p6_sum w A n c p0 p1 p2 p3 _ hA hok (by omega) (by omega) hf' (by omega) hs).mono fun e w' hp => .inl ⟨8, by decide, ?_, hp⟩
          simp only [out6]; rw [if_neg hf, if_neg (by rw [hl]; exact hc), if_pos hs]

theorem wd2_sum (S : Nat) (h : S ≤ 65535) : Ck.wsum true (wd2 S) = S := by
  simp only [wd2, Ck.wsum]
  rw [UInt8.toNat_ofNat', UInt8.toNat_ofNat']
  omega
theorem sum_right (X B : List UInt8) (hX : X.length % 2 = 0) : Ck.ck (X ++ wd2 (65535 - Ck.ck (X ++ [0, 0] ++ B)) ++ B) = 65535 := by
  have h0 := Ck.ck_le (X ++ [0, 0] ++ B)
  obtain ⟨S, hS⟩ : ∃ S, Ck.ck (X ++ [0, 0] ++ B) = S := ⟨_, rfl⟩
  have e1 : Ck.wsum true (X ++ [0, 0] ++ B) = Ck.wsum true X + Ck.wsum true B := by
    rw [List.append_assoc, Ck.wsum_even _ _ _ hX, Ck.wsum_even _ _ _ (by rfl)]; simp [Ck.wsum]
  have e2 : Ck.wsum true (X ++ wd2 (65535 - S) ++ B) = Ck.wsum true X + ((65535 - S) + Ck.wsum true B) := by
    rw [List.append_assoc, Ck.wsum_even _ _ _ hX, Ck.wsum_even _ _ _ (by simp [wd2]), wd2_sum _ (by omega)]
  rw [hS] at h0 ⊢
  unfold Ck.ck at hS ⊢
  rw [e1] at hS
  rw [e2]
  unfold Ck.norm at hS ⊢
  split at hS
  · split <;> omega
  · split <;> omega

theorem out6_pbytes (id pl : Nat) (more : Bool) (ttl proto s0 s1 s2 s3 d0 d1 d2 d3 : UInt8) (data more2 : List UInt8) (hid : id ≤ 65535) (hpl : pl < 8192) (hd : data.length ≤ 180) :
    out6 (pbytes id (placeOf pl more) ttl proto [s0, s1, s2, s3] [d0, d1, d2, d3] data ++ more2) = .inr ⟨id, more, pl, ttl, proto, [s0, s1, s2, s3], [d0, d1, d2, d3], data⟩ := by
  have hck := sum_right (pfront (20 + data.length) id (placeOf pl more) ttl proto) ([s0, s1, s2, s3] ++ [d0, d1, d2, d3]) (by simp [pfront, wd2])
  obtain ⟨P, hP⟩ : ∃ P, placeOf pl more = P := ⟨_, rfl⟩
  have hP2 : P / 8192 % 2 = (if more = true then 1 else 0) ∧ P % 8192 = pl ∧ P ≤ 65535 := by
    rw [← hP]; unfold placeOf
    cases more
    · simp; omega
    · simp; omega
  unfold pbytes psum
  rw [hP] at hck ⊢
  obtain ⟨S, hS⟩ : ∃ S, 65535 - Ck.ck (pfront (20 + data.length) id P ttl proto ++ [0, 0] ++ ([s0, s1, s2, s3] ++ [d0, d1, d2, d3])) = S := ⟨_, rfl⟩
  rw [hS] at hck ⊢
  have e1 : (UInt8.ofNat ((20 + data.length) / 256)).toNat = 0 := by rw [UInt8.toNat_ofNat']; omega
  have e2 : (UInt8.ofNat (20 + data.length)).toNat = 20 + data.length := by rw [UInt8.toNat_ofNat']; omega
  have e3 : 256 * (UInt8.ofNat (id / 256)).toNat + (UInt8.ofNat id).toNat = id := by rw [UInt8.toNat_ofNat', UInt8.toNat_ofNat']; omega
  have e4 : 256 * (UInt8.ofNat (P / 256)).toNat + (UInt8.ofNat P).toNat = P := by rw [UInt8.toNat_ofNat', UInt8.toNat_ofNat']; omega
  show out6 (69 :: 0 :: UInt8.ofNat ((20 + data.length) / 256) :: UInt8.ofNat (20 + data.length) :: UInt8.ofNat (id / 256) :: UInt8.ofNat id :: UInt8.ofNat (P / 256) :: UInt8.ofNat P :: ttl :: proto :: UInt8.ofNat (S / 256) :: UInt8.ofNat S :: s0 :: s1 :: s2 :: s3 :: d0 :: d1 :: d2 :: d3 :: (data ++ more2)) = _
  simp only [out6]
  have h69 : (69 : UInt8).toNat % 16 = 5 := by decide
  have h69' : (69 : UInt8).toNat / 16 = 4 := by decide
  rw [e1, e2, e3, e4, h69]
  have hf : form6 69 (256 * 0 + (20 + data.length)) = false := by
    unfold form6
    rw [h69, h69']
    simp
  have e7 : List.take (4 * 5) (69 :: 0 :: UInt8.ofNat ((20 + data.length) / 256) :: UInt8.ofNat (20 + data.length) :: UInt8.ofNat (id / 256) :: UInt8.ofNat id :: UInt8.ofNat (P / 256) :: UInt8.ofNat P :: ttl :: proto :: UInt8.ofNat (S / 256) :: UInt8.ofNat S :: s0 :: s1 :: s2 :: s3 :: d0 :: d1 :: d2 :: d3 :: (data ++ more2)) = pfront (20 + data.length) id P ttl proto ++ wd2 S ++ ([s0, s1, s2, s3] ++ [d0, d1, d2, d3]) := rfl
  have c1 : ¬ form6 69 (256 * 0 + (20 + data.length)) = true := by rw [hf]; simp
  have c2 : ¬ (69 :: 0 :: UInt8.ofNat ((20 + data.length) / 256) :: UInt8.ofNat (20 + data.length) :: UInt8.ofNat (id / 256) :: UInt8.ofNat id :: UInt8.ofNat (P / 256) :: UInt8.ofNat P :: ttl :: proto :: UInt8.ofNat (S / 256) :: UInt8.ofNat S :: s0 :: s1 :: s2 :: s3 :: d0 :: d1 :: d2 :: d3 :: (data ++ more2)).length < 256 * 0 + (20 + data.length) := by simp only [List.length_cons, List.length_append]; omega
  have c3 : ¬ Ck.ck (List.take (4 * 5) (69 :: 0 :: UInt8.ofNat ((20 + data.length) / 256) :: UInt8.ofNat (20 + data.length) :: UInt8.ofNat (id / 256) :: UInt8.ofNat id :: UInt8.ofNat (P / 256) :: UInt8.ofNat P :: ttl :: proto :: UInt8.ofNat (S / 256) :: UInt8.ofNat S :: s0 :: s1 :: s2 :: s3 :: d0 :: d1 :: d2 :: d3 :: (data ++ more2))) ≠ 65535 := by rw [e7, hck]; simp
  rw [if_neg c1, if_neg c2, if_neg c3]
  have e5 : decide (P / 8192 % 2 = 1) = more := by
    rw [hP2.1]; cases more <;> simp
  have e6 : (List.take (256 * 0 + (20 + data.length)) (69 :: 0 :: UInt8.ofNat ((20 + data.length) / 256) :: UInt8.ofNat (20 + data.length) :: UInt8.ofNat (id / 256) :: UInt8.ofNat id :: UInt8.ofNat (P / 256) :: UInt8.ofNat P :: ttl :: proto :: UInt8.ofNat (S / 256) :: UInt8.ofNat S :: s0 :: s1 :: s2 :: s3 :: d0 :: d1 :: d2 :: d3 :: (data ++ more2))).drop (4 * 5) = data := by
    rw [List.drop_take, show 256 * 0 + (20 + data.length) - 4 * 5 = data.length by omega]
    show List.take data.length (data ++ more2) = data
    simp
  rw [e5, hP2.2.1, e6]
end Go.Proofs.Ytnoobifdaldfiaa.Fr
