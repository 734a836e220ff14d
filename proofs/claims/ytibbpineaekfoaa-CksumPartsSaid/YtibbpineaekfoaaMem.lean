/-
  Words for memory: a slice of bytes that reads as a list; a slice of such slices. No program in sight.
-/
import Derived.WalkKit
import Derived.WalkSpells
import Derived.Deep.Draws
namespace Go.Proofs.Ytibbpineaekfoaa
open Go.RowKit

theorem ret_int {k : IntKind} {a b : Int} (h : a = b) : Ending.returned (.int k a) = .returned (.int k b) := by rw [h]

theorem ret_bool {a b : Bool} (h : a = b) : Ending.returned (.bool a) = .returned (.bool b) := by rw [h]

def bvs (l : List UInt8) : List Value := l.map fun c => .int .u8 (c.toNat : Int)

/-- the slice's n cells at A hold the values xs; its block is not below lo -/
def RdV (w : World) (lo : Nat) (A : Option Addr) (n : Nat) (xs : List Value) : Prop :=
  xs.length = n ∧ (0 < n → ∃ g off, A = some ⟨g, off, none⟩ ∧ lo ≤ g ∧ ∀ j u, xs[j]? = some u → w.cell? ⟨g, off + j, none⟩ = some u)

def Rd (w : World) (lo : Nat) (A : Option Addr) (n : Nat) (l : List UInt8) : Prop := RdV w lo A n (bvs l)

/-- a slice of slices of bytes -/
def Rd2 (w : World) (lo : Nat) (A : Option Addr) (n : Nat) (ls : List (List UInt8)) : Prop :=
  ls.length = n ∧ (0 < n → ∃ g off, A = some ⟨g, off, none⟩ ∧ lo ≤ g ∧
    ∀ j l, ls[j]? = some l → ∃ A' n' c', w.cell? ⟨g, off + j, none⟩ = some (.slice A' n' c') ∧ Rd w lo A' n' l)

/-- whatever was there is there -/
def Kp (w w' : World) : Prop := Below w.heap.size w w'

section
variable {w w' : World} {lo n : Nat} {A : Option Addr} {xs : List Value} {l : List UInt8} {ls : List (List UInt8)}

theorem Kp.refl (w : World) : Kp w w := Below.refl _ _
theorem Kp.trans {a b c : World} (h : Kp a b) (k : Kp b c) : Kp a c := Below.trans h (Below.mono k h.size)
theorem Kp.cell {a : Addr} {u : Value} (h : Kp w w') (hc : w.cell? a = some u) : w'.cell? a = some u :=
  (Below.cell h (World.block_lt_of_cell? w a hc)).trans hc
theorem Kp.alloc (h : Kp w w') (o : Obj) : Kp w (w'.alloc o) := Below.alloc h h.size o
theorem Kp.drew (h : Kp w w') : Kp w w'.drew := Below.drew h
theorem Kp.of_drawn (h : Kp w w') (k : Nat) : Kp w (w'.drewN k) := ⟨h.os, h.tape, h.output, h.size, h.block⟩
theorem Kp.setCell (h : Kp w w') {p : Addr} (hp : w.heap.size ≤ p.block) (u : Value) : Kp w (w'.setCell p u) := Below.setCell h hp u

theorem RdV.keep (h : RdV w lo A n xs) (k : Kp w w') : RdV w' lo A n xs :=
  ⟨h.1, fun hn => by
    obtain ⟨g, off, e, hl, hc⟩ := h.2 hn
    exact ⟨g, off, e, hl, fun j u hu => k.cell (hc j u hu)⟩⟩
theorem Rd.keep (h : Rd w lo A n l) (k : Kp w w') : Rd w' lo A n l := RdV.keep h k
theorem Rd2.keep (h : Rd2 w lo A n ls) (k : Kp w w') : Rd2 w' lo A n ls :=
  ⟨h.1, fun hn => by
    obtain ⟨g, off, e, hl, hc⟩ := h.2 hn
    refine ⟨g, off, e, hl, fun j l hu => ?_⟩
    obtain ⟨A', n', c', h1, h2⟩ := hc j l hu
    exact ⟨A', n', c', k.cell h1, h2.keep k⟩⟩

theorem Rd.len (h : Rd w lo A n l) : l.length = n := by simpa [bvs] using h.1
theorem Rd.cell {g off k : Nat} (h : Rd w lo (some ⟨g, off, none⟩) n l) (hk : k < n) : ∃ c : UInt8, l[k]? = some c ∧ w.cell? ⟨g, off + k, none⟩ = some (.int .u8 (c.toNat : Int)) := by
  obtain ⟨g', off', e, _, hc⟩ := h.2 (by omega)
  simp only [Option.some.injEq, Addr.mk.injEq] at e
  obtain ⟨rfl, rfl, _⟩ := e
  have hlt : k < l.length := by rw [h.len]; exact hk
  exact ⟨l[k], List.getElem?_eq_getElem hlt, hc k _ (by simp [bvs, List.getElem?_eq_getElem hlt])⟩
theorem Rd.at_ (h : Rd w lo A n l) (hn : 0 < n) : ∃ g off, A = some ⟨g, off, none⟩ ∧ lo ≤ g := by
  obtain ⟨g, off, e, hl, _⟩ := h.2 hn
  exact ⟨g, off, e, hl⟩
theorem Rd.none_ (w : World) (lo : Nat) : Rd w lo none 0 [] := ⟨rfl, fun h => absurd h (by omega)⟩
theorem Rd2.len (h : Rd2 w lo A n ls) : ls.length = n := h.1
theorem Rd2.at_ (h : Rd2 w lo A n ls) (hn : 0 < n) : ∃ g off, A = some ⟨g, off, none⟩ ∧ lo ≤ g := by
  obtain ⟨g, off, e, hl, _⟩ := h.2 hn
  exact ⟨g, off, e, hl⟩
theorem Rd2.cell {g off k : Nat} (h : Rd2 w lo (some ⟨g, off, none⟩) n ls) (hk : k < n) :
    ∃ l A' n' c', ls[k]? = some l ∧ w.cell? ⟨g, off + k, none⟩ = some (.slice A' n' c') ∧ Rd w lo A' n' l := by
  obtain ⟨g', off', e, _, hc⟩ := h.2 (by omega)
  simp only [Option.some.injEq, Addr.mk.injEq] at e
  obtain ⟨rfl, rfl, _⟩ := e
  have hlt : k < ls.length := by rw [h.len]; exact hk
  obtain ⟨A', n', c', h1, h2⟩ := hc k _ (List.getElem?_eq_getElem hlt)
  exact ⟨ls[k], A', n', c', List.getElem?_eq_getElem hlt, h1, h2⟩

def RdAll (w : World) (A : Option Addr) (n : Nat) (ls : List (List UInt8)) : Prop := Rd2 w 0 A n ls ∧ n ≤ maxLen ∧ ∀ l ∈ ls, l.length ≤ maxLen

/-- the slices that stand in a literal -/
def Pcs (w : World) : List Value → List (List UInt8) → Prop
  | [], [] => True
  | v :: vs, l :: ls => (∃ A n c, v = .slice A n c ∧ Rd w 0 A n l ∧ n ≤ maxLen) ∧ Pcs w vs ls
  | _, _ => False

theorem Pcs.len {vs : List Value} {ls : List (List UInt8)} (h : Pcs w vs ls) : ls.length = vs.length := by
  induction vs generalizing ls with
  | nil => cases ls <;> simp_all [Pcs]
  | cons v vs ih => cases ls <;> simp_all [Pcs]
theorem Pcs.get {vs : List Value} {ls : List (List UInt8)} (h : Pcs w vs ls) : ∀ (j : Nat) (l : List UInt8), ls[j]? = some l → ∃ (A : Option Addr) (n c : Nat), vs[j]? = some (Value.slice A n c) ∧ Rd w 0 A n l ∧ n ≤ maxLen := by
  induction vs generalizing ls with
  | nil => cases ls <;> simp_all [Pcs]
  | cons v vs ih =>
    cases ls with
    | nil => simp [Pcs] at h
    | cons l ls =>
      obtain ⟨⟨A, n, c, rfl, h1, h2⟩, h3⟩ := h
      intro j l' hj
      cases j with
      | zero => simp at hj; subst hj; exact ⟨A, n, c, rfl, h1, h2⟩
      | succ j => simpa using ih h3 j l' (by simpa using hj)

theorem cell_new (w : World) (cs : Array Value) (T : TypeId) (m : Nat × Nat) (j : Nat) : (w.alloc (.cells cs T m)).cell? ⟨w.heap.size, j, none⟩ = cs[j]? := by
  show (World.cell? { w with heap := w.heap.push _ } _) = _
  simp [World.cell?]

theorem rdAll_mk {vs : List Value} {T : TypeId} {m : Nat × Nat} {g : Nat} (hg : w.heap.size = g) (hn : vs.length = n) (hm : n ≤ maxLen) (h : Pcs w vs ls) :
    RdAll (w.alloc (.cells vs.toArray T m)) (some ⟨g, 0, none⟩) n ls := by
  subst hg
  have kp : Kp w (w.alloc (.cells vs.toArray T m)) := (Kp.refl w).alloc _
  refine ⟨⟨h.len.trans hn, fun _ => ⟨_, _, rfl, Nat.zero_le _, fun j l hl => ?_⟩⟩, hm, fun l hl => ?_⟩
  · obtain ⟨A', n', c', h1, h2, _⟩ := h.get j l hl
    refine ⟨A', n', c', ?_, h2.keep kp⟩
    rw [Nat.zero_add, cell_new]
    simpa using h1
  · obtain ⟨j, hj⟩ := List.getElem?_of_mem hl
    obtain ⟨A', n', c', _, h2, h3⟩ := h.get j l hj
    rw [h2.len]; exact h3

theorem rd_lit {cs : Array Value} {T : TypeId} {m : Nat × Nat} {g : Nat} (hg : w.heap.size = g) (hlo : lo ≤ g) (hn : l.length = n) (hcs : cs = (bvs l).toArray) :
    Rd (w.alloc (.cells cs T m)) lo (some ⟨g, 0, none⟩) n l := by
  subst hg
  subst hcs
  refine ⟨by simpa [bvs] using hn, fun _ => ⟨_, _, rfl, hlo, fun j u hu => ?_⟩⟩
  rw [Nat.zero_add, cell_new]
  simpa using hu
end
end Go.Proofs.Ytibbpineaekfoaa
