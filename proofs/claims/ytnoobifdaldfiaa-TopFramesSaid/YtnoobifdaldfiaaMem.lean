/-
  Words for memory: a slice of bytes that reads as a list; a slice of such slices. No program in sight.
-/
import Derived.WalkKit
import Derived.WalkSpells
import Derived.Deep.Draws
namespace Go.Proofs.Ytnoobifdaldfiaa
open Go.RowKit
set_option maxRecDepth 100000

theorem ret_int {k : IntKind} {a b : Int} (h : a = b) : Ending.returned (.int k a) = .returned (.int k b) := by rw [h]

theorem ret_bool {a b : Bool} (h : a = b) : Ending.returned (.bool a) = .returned (.bool b) := by rw [h]

def bvs (l : List UInt8) : List Value := l.map fun c => .int .u8 (c.toNat : Int)

/-- the slice's n cells at A hold the values xs; its block is not below lo -/
def RdV (w : World) (lo : Nat) (A : Option Addr) (n : Nat) (xs : List Value) : Prop :=
  xs.length = n ∧ (0 < n → ∃ g off, A = some ⟨g, off, none⟩ ∧ lo ≤ g ∧ ∀ j u, xs[j]? = some u → w.cell? ⟨g, off + j, none⟩ = some u)

def Rd (w : World) (lo : Nat) (A : Option Addr) (n : Nat) (l : List UInt8) : Prop := RdV w lo A n (bvs l)

/-- a slice of slices of bytes -/
def Rd2 (w : World) (lo : Nat) (A : Option Addr) (n : Nat) (ls : List (List UInt8)) : Prop :=
  ls.length = n ∧ (0 < n → ∃ g off, A = some ⟨g, off, none⟩ ∧ lo ≤ g ∧
    ∀ j l, ls[j]? = some l → ∃ A' n' c', w.cell? ⟨g, off + j, none⟩ = some (.slice A' n' c') ∧ Rd w lo A' n' l)

/-- whatever was there is there -/
def Kp (w w' : World) : Prop := Below w.heap.size w w'

section
variable {w w' : World} {lo n : Nat} {A : Option Addr} {xs : List Value} {l : List UInt8} {ls : List (List UInt8)}

theorem Kp.refl (w : World) : Kp w w := Below.refl _ _
theorem Kp.trans {a b c : World} (h : Kp a b) (k : Kp b c) : Kp a c := Below.trans h (Below.mono k h.size)
theorem Kp.cell {a : Addr} {u : Value} (h : Kp w w') (hc : w.cell? a = some u) : w'.cell? a = some u :=
  (Below.cell h (World.block_lt_of_cell? w a hc)).trans hc
theorem Kp.alloc (h : Kp w w') (o : Obj) : Kp w (w'.alloc o) := Below.alloc h h.size o
theorem Kp.drew (h : Kp w w') : Kp w w'.drew := Below.drew h
theorem Kp.of_drawn (h : Kp w w') (k : Nat) : Kp w (w'.drewN k) := ⟨h.os, h.tape, h.output, h.size, h.block⟩
theorem Kp.setCell (h : Kp w w') {p : Addr} (hp : w.heap.size ≤ p.block) (u : Value) : Kp w (w'.setCell p u) := Below.setCell h hp u

theorem RdV.keep (h : RdV w lo A n xs) (k : Kp w w') : RdV w' lo A n xs :=
  ⟨h.1, fun hn => by
    obtain ⟨g, off, e, hl, hc⟩ := h.2 hn
    exact ⟨g, off, e, hl, fun j u hu => k.cell (hc j u hu)⟩⟩
theorem Rd.keep (h : Rd w lo A n l) (k : Kp w w') : Rd w' lo A n l := RdV.keep h k
theorem Rd2.keep (h : Rd2 w lo A n ls) (k : Kp w w') : Rd2 w' lo A n ls :=
  ⟨h.1, fun hn => by
    obtain ⟨g, off, e, hl, hc⟩ := h.2 hn
    refine ⟨g, off, e, hl, fun j l hu => ?_⟩
    obtain ⟨A', n', c', h1, h2⟩ := hc j l hu
    exact ⟨A', n', c', k.cell h1, h2.keep k⟩⟩

theorem RdV.mono_lo {lo' : Nat} (h : RdV w lo A n xs) (hl : lo' ≤ lo) : RdV w lo' A n xs :=
  ⟨h.1, fun hn => by obtain ⟨g, off, e, h2, hc⟩ := h.2 hn; exact ⟨g, off, e, by omega, hc⟩⟩
theorem RdV.setCell (h : RdV w lo A n xs) {a : Addr} (ha : a.block < lo) (u : Value) : RdV (w.setCell a u) lo A n xs :=
  ⟨h.1, fun hn => by
    obtain ⟨g, off, e, h2, hc⟩ := h.2 hn
    refine ⟨g, off, e, h2, fun j y hy => ?_⟩
    rw [World.cell?_setCell_other w a _ u (fun e => by have := congrArg Addr.block e; simp at this; omega)]
    exact hc j y hy⟩
theorem Rd.setCell (h : Rd w lo A n l) {a : Addr} (ha : a.block < lo) (u : Value) : Rd (w.setCell a u) lo A n l := RdV.setCell h ha u
theorem Rd.len (h : Rd w lo A n l) : l.length = n := by simpa [bvs] using h.1
theorem Rd.cell {g off k : Nat} (h : Rd w lo (some ⟨g, off, none⟩) n l) (hk : k < n) : ∃ c : UInt8, l[k]? = some c ∧ w.cell? ⟨g, off + k, none⟩ = some (.int .u8 (c.toNat : Int)) := by
  obtain ⟨g', off', e, _, hc⟩ := h.2 (by omega)
  simp only [Option.some.injEq, Addr.mk.injEq] at e
  obtain ⟨rfl, rfl, _⟩ := e
  have hlt : k < l.length := by rw [h.len]; exact hk
  exact ⟨l[k], List.getElem?_eq_getElem hlt, hc k _ (by simp [bvs, List.getElem?_eq_getElem hlt])⟩
theorem Rd.at_ (h : Rd w lo A n l) (hn : 0 < n) : ∃ g off, A = some ⟨g, off, none⟩ ∧ lo ≤ g := by
  obtain ⟨g, off, e, hl, _⟩ := h.2 hn
  exact ⟨g, off, e, hl⟩
theorem Rd.none_ (w : World) (lo : Nat) : Rd w lo none 0 [] := ⟨rfl, fun h => absurd h (by omega)⟩
theorem Rd2.len (h : Rd2 w lo A n ls) : ls.length = n := h.1
theorem Rd2.at_ (h : Rd2 w lo A n ls) (hn : 0 < n) : ∃ g off, A = some ⟨g, off, none⟩ ∧ lo ≤ g := by
  obtain ⟨g, off, e, hl, _⟩ := h.2 hn
  exact ⟨g, off, e, hl⟩
theorem Rd2.cell {g off k : Nat} (h : Rd2 w lo (some ⟨g, off, none⟩) n ls) (hk : k < n) :
    ∃ l A' n' c', ls[k]? = some l ∧ w.cell? ⟨g, off + k, none⟩ = some (.slice A' n' c') ∧ Rd w lo A' n' l := by
  obtain ⟨g', off', e, _, hc⟩ := h.2 (by omega)
  simp only [Option.some.injEq, Addr.mk.injEq] at e
  obtain ⟨rfl, rfl, _⟩ := e
  have hlt : k < ls.length := by rw [h.len]; exact hk
  obtain ⟨A', n', c', h1, h2⟩ := hc k _ (List.getElem?_eq_getElem hlt)
  exact ⟨ls[k], A', n', c', List.getElem?_eq_getElem hlt, h1, h2⟩

def RdAll (w : World) (A : Option Addr) (n : Nat) (ls : List (List UInt8)) : Prop := Rd2 w 0 A n ls ∧ n ≤ maxLen ∧ ∀ l ∈ ls, l.length ≤ maxLen

/-- the slices that stand in a literal -/
def Pcs (w : World) : List Value → List (List UInt8) → Prop
  | [], [] => True
  | v :: vs, l :: ls => (∃ A n c, v = .slice A n c ∧ Rd w 0 A n l ∧ n ≤ maxLen) ∧ Pcs w vs ls
  | _, _ => False

theorem Pcs.len {vs : List Value} {ls : List (List UInt8)} (h : Pcs w vs ls) : ls.length = vs.length := by
  induction vs generalizing ls with
  | nil => cases ls <;> simp_all [Pcs]
  | cons v vs ih => cases ls <;> simp_all [Pcs]
theorem Pcs.get {vs : List Value} {ls : List (List UInt8)} (h : Pcs w vs ls) : ∀ (j : Nat) (l : List UInt8), ls[j]? = some l → ∃ (A : Option Addr) (n c : Nat), vs[j]? = some (Value.slice A n c) ∧ Rd w 0 A n l ∧ n ≤ maxLen := by
  induction vs generalizing ls with
  | nil => cases ls <;> simp_all [Pcs]
  | cons v vs ih =>
    cases ls with
    | nil => simp [Pcs] at h
    | cons l ls =>
      obtain ⟨⟨A, n, c, rfl, h1, h2⟩, h3⟩ := h
      intro j l' hj
      cases j with
      | zero => simp at hj; subst hj; exact ⟨A, n, c, rfl, h1, h2⟩
      | succ j => simpa using ih h3 j l' (by simpa using hj)

theorem wrap_u8 {a : Int} (h0 : 0 ≤ a) (h1 : a < 256) : IntKind.u8.wrap a = a := by
  simp only [IntKind.wrap, IntKind.bits, IntKind.signed]; simp; omega
theorem wrap_u16 {a : Int} (h0 : 0 ≤ a) (h1 : a < 65536) : IntKind.u16.wrap a = a := by
  simp only [IntKind.wrap, IntKind.bits, IntKind.signed]; simp; omega
theorem or_u16 (x y : UInt8) : bits BinOp.or IntKind.u16 ((x.toNat : Int) * 256) (y.toNat : Int) = ((256 * x.toNat + y.toNat : Nat) : Int) := by
  have hx := x.toNat_lt
  have hy := y.toNat_lt
  show IntKind.u16.wrap ((BitVec.ofInt 16 ((x.toNat : Int) * 256) ||| BitVec.ofInt 16 (y.toNat : Int)).toNat : Int) = _
  have e1 : ((x.toNat : Int) * 256) = ((x.toNat * 256 : Nat) : Int) := by omega
  rw [e1, BitVec.ofInt_natCast, BitVec.ofInt_natCast, BitVec.toNat_or, BitVec.toNat_ofNat, BitVec.toNat_ofNat, Nat.mod_eq_of_lt (by omega), Nat.mod_eq_of_lt (by omega)]
  have e2 : x.toNat * 256 ||| y.toNat = x.toNat * 256 + y.toNat := by
    have := Nat.shiftLeft_add_eq_or_of_lt (a := x.toNat) (b := y.toNat) (i := 8) (by omega)
    rw [Nat.shiftLeft_eq] at this
    exact this.symm
  rw [e2]
  simp only [IntKind.wrap, IntKind.bits, IntKind.signed]
  simp
  omega

/-- the string of bytes -/
def str (l : List UInt8) : ByteArray := ⟨l.toArray⟩
theorem str_list (l : List UInt8) : (str l).data.toList = l := rfl
theorem str_size (l : List UInt8) : (str l).size = l.length := by simp [str, ByteArray.size]
theorem str_append (a b : List UInt8) : str a ++ str b = str (a ++ b) := by
  apply ByteArray.ext; simp [str]

theorem str_extract (l : List UInt8) (a b : Nat) : (str l).extract a b = str ((l.take b).drop a) := by
  apply ByteArray.ext
  simp [str, ByteArray.data_extract, List.drop_take]
theorem str_get (l : List UInt8) (i : Nat) (h : i < (str l).size) : (str l)[i] = l[i]'(by rw [str_size] at h; exact h) := rfl
theorem str_of (s : ByteArray) : str s.data.toList = s := by apply ByteArray.ext; simp [str]

theorem conv_str {P : Program} {T S E : TypeId} {c : Nat} (hT : P.underlying T = some (.slice E)) (hE : P.underlying E = some (.int .u8)) (hS : P.underlying S = some .string) (h : Rd w lo A n l) :
    (convert T S (.slice A n c)).run P w = .ok (.string (str l)) w := by
  rcases Nat.eq_zero_or_pos n with h0 | h0
  · subst h0
    obtain rfl : l = [] := List.eq_nil_of_length_eq_zero h.len
    cases A with
    | none => rw [run_convert_bytes_nil w T E hT hE _ _ S hS]; rfl
    | some a =>
      rw [run_convert_bytes_string w T S E _ 0 c hT hE hS, run_bytesToString w a 0 c [] (by simp [loadCells, loadCellsFrom])]
      rfl
  · obtain ⟨g, off, rfl, _, hc⟩ := h.2 h0
    have hl := h.len
    rw [run_convert_bytes_arg w T E hT hE g off n c (l.map fun c => (c.toNat : Int)) (by simpa using hl) (fun i hi => ?_) S hS]
    · congr 2
      apply ByteArray.ext
      simp [strOfNums, str, Function.comp_def]
    · have hi' : i < l.length := by omega
      rw [hc i (.int .u8 (l[i].toNat : Int)) (by simp [bvs, List.getElem?_eq_getElem hi'])]
      simp [List.getD, List.getElem?_eq_getElem hi']

theorem cell_new (w : World) (cs : Array Value) (T : TypeId) (m : Nat × Nat) (j : Nat) : (w.alloc (.cells cs T m)).cell? ⟨w.heap.size, j, none⟩ = cs[j]? := by
  show (World.cell? { w with heap := w.heap.push _ } _) = _
  simp [World.cell?]

theorem bytes2 (S : Nat) (h : S ≤ 65535) : (#[.int .u8 ((S : Int) / 256), .int .u8 ((S : Int) % 256)] : Array Value) = (bvs [UInt8.ofNat (S / 256), UInt8.ofNat (S % 256)]).toArray := by
  have e1 : (((UInt8.ofNat (S / 256)).toNat : Nat) : Int) = (S : Int) / 256 := by rw [UInt8.toNat_ofNat']; omega
  have e2 : (((UInt8.ofNat (S % 256)).toNat : Nat) : Int) = (S : Int) % 256 := by rw [UInt8.toNat_ofNat']; omega
  simp only [bvs, List.map_cons, List.map_nil, e1, e2]
theorem len2 {α : Type} {l : List α} (h : l.length = 2) : ∃ a b, l = [a, b] := by
  match l, h with
  | [a, b], _ => exact ⟨a, b, rfl⟩
theorem len4 {α : Type} {l : List α} (h : l.length = 4) : ∃ a b c d, l = [a, b, c, d] := by
  match l, h with
  | [a, b, c, d], _ => exact ⟨a, b, c, d, rfl⟩
theorem len6 {α : Type} {l : List α} (h : l.length = 6) : ∃ a b c d e f, l = [a, b, c, d, e, f] := by
  match l, h with
  | [a, b, c, d, e, f], _ => exact ⟨a, b, c, d, e, f, rfl⟩

/-- a part of a literal block reads as bytes -/
theorem cell_new_rd (w : World) (cs : Array Value) (T : TypeId) (m : Nat × Nat) (off : Nat) (l : List UInt8) (hl : l.length = n) (hc : ∀ j u, (bvs l)[j]? = some u → cs[off + j]? = some u) :
    Rd (w.alloc (.cells cs T m)) w.heap.size (some ⟨w.heap.size, off, none⟩) n l :=
  ⟨by simpa [bvs] using hl, fun _ => ⟨_, _, rfl, Nat.le_refl _, fun j u hu => by rw [cell_new]; exact hc j u hu⟩⟩

theorem rdAll_mk {vs : List Value} {T : TypeId} {m : Nat × Nat} {g : Nat} (hg : w.heap.size = g) (hn : vs.length = n) (hm : n ≤ maxLen) (h : Pcs w vs ls) :
    RdAll (w.alloc (.cells vs.toArray T m)) (some ⟨g, 0, none⟩) n ls := by
  subst hg
  have kp : Kp w (w.alloc (.cells vs.toArray T m)) := (Kp.refl w).alloc _
  refine ⟨⟨h.len.trans hn, fun _ => ⟨_, _, rfl, Nat.zero_le _, fun j l hl => ?_⟩⟩, hm, fun l hl => ?_⟩
  · obtain ⟨A', n', c', h1, h2, _⟩ := h.get j l hl
    refine ⟨A', n', c', ?_, h2.keep kp⟩
    rw [Nat.zero_add, cell_new]
    simpa using h1
  · obtain ⟨j, hj⟩ := List.getElem?_of_mem hl
    obtain ⟨A', n', c', _, h2, h3⟩ := h.get j l hj
    rw [h2.len]; exact h3

theorem rd_lit {cs : Array Value} {T : TypeId} {m : Nat × Nat} {g : Nat} (hg : w.heap.size = g) (hlo : lo ≤ g) (hn : l.length = n) (hcs : cs = (bvs l).toArray) :
    Rd (w.alloc (.cells cs T m)) lo (some ⟨g, 0, none⟩) n l := by
  subst hg
  subst hcs
  refine ⟨by simpa [bvs] using hn, fun _ => ⟨_, _, rfl, hlo, fun j u hu => ?_⟩⟩
  rw [Nat.zero_add, cell_new]
  simpa using hu
end
end Go.Proofs.Ytnoobifdaldfiaa
