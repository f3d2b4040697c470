/- A ring as a history of entries: Put, Get, Next over it. -/
import Derived.Test.YtiajdfipkojodaaR3
namespace Go.Proofs.Ytiajdfipkojodaa
open Go.RowKit
set_option linter.unusedSimpArgs false
set_option linter.unusedVariables false

structure Ent where
  v0 : Int
  v1 : Int
  v2 : Int
  v3 : Int
  v4 : Int
  v5 : Int
  v6 : Int
  v7 : Int
  v8 : Int
  v9 : Bool

def Ent.cells (e : Ent) : List Value := [.int .i64 e.v0, .int .i64 e.v1, .int .i64 e.v2, .int .i64 e.v3, .int .i64 e.v4, .int .i64 e.v5, .int .i64 e.v6, .int .i64 e.v7, .int .i64 e.v8, .bool e.v9]
def Ent.val (e : Ent) : Value := .agg #[.int .i64 e.v0, .int .i64 e.v1, .int .i64 e.v2, .int .i64 e.v3, .int .i64 e.v4, .int .i64 e.v5, .int .i64 e.v6, .int .i64 e.v7, .int .i64 e.v8, .bool e.v9]
/-- The entry's piece. -/
def Ent.piece (e : Ent) : Value := .agg #[.int .i64 e.v2, .int .i64 e.v3, .int .i64 e.v4, .int .i64 e.v5, .int .i64 e.v6, .int .i64 e.v7, .int .i64 e.v8, .bool e.v9]

theorem writes_heap (vs : List Value) : ∀ (w : World) (a o j : Nat), j ≠ a → (writes w a o vs).heap[j]? = w.heap[j]? := by
  induction vs with
  | nil => intro w a o j _; rfl
  | cons v vs ih => intro w a o j h; rw [writes, ih _ _ _ _ h]; exact Below.heap_setCell _ _ _ _ h

theorem writes_size (vs : List Value) : ∀ (w : World) (a o : Nat), (writes w a o vs).heap.size = w.heap.size := by
  induction vs with
  | nil => intro w a o; rfl
  | cons v vs ih => intro w a o; rw [writes, ih]; simp [World.setCell]

theorem writes_os (vs : List Value) : ∀ (w : World) (a o : Nat), (writes w a o vs).os = w.os ∧ (writes w a o vs).tape = w.tape ∧ (writes w a o vs).output = w.output := by
  induction vs with
  | nil => intro w a o; exact ⟨rfl, rfl, rfl⟩
  | cons v vs ih => intro w a o; rw [writes]; exact ih _ _ _

theorem setCell_same {w : World} {a o : Nat} {u : Value} (v : Value) (h : w.cell? ⟨a, o, none⟩ = some u) : (w.setCell ⟨a, o, none⟩ v).cell? ⟨a, o, none⟩ = some v := by
  have hc' := h
  unfold World.cell? at hc'
  simp only [World.cell?, World.setCell, Array.getElem?_modify]
  split at hc' <;> simp_all
  obtain ⟨hlt, _⟩ := Array.getElem?_eq_some_iff.1 hc'
  simp [hlt]

theorem setCell_ne {w : World} {a o b p : Nat} (v : Value) (h : b ≠ a ∨ p ≠ o) : (w.setCell ⟨a, o, none⟩ v).cell? ⟨b, p, none⟩ = w.cell? ⟨b, p, none⟩ := by
  simp only [World.cell?, World.setCell, Array.getElem?_modify]
  by_cases e : a = b
  · subst e
    have hp : p ≠ o := by rcases h with h | h
                          · exact absurd rfl h
                          · exact h
    rw [if_pos rfl]
    cases hb : w.heap[a]? with
    | none => rfl
    | some ob => cases ob <;> simp [Array.getElem?_setIfInBounds, hp.symm]
  · rw [if_neg e]

theorem setCell_frozen {w : World} {a : Addr} {v : Value} {p : Addr} : (w.setCell a v).frozen? p = w.frozen? p := by simp

theorem writes_frozen (vs : List Value) : ∀ (w : World) (a o : Nat) (p : Addr), (writes w a o vs).frozen? p = w.frozen? p := by
  induction vs with
  | nil => intro w a o p; rfl
  | cons v vs ih => intro w a o p; rw [writes, ih]; simp

theorem writes_out (vs : List Value) : ∀ (w : World) (a o p : Nat), p < o ∨ o + vs.length ≤ p → (writes w a o vs).cell? ⟨a, p, none⟩ = w.cell? ⟨a, p, none⟩ := by
  induction vs with
  | nil => intro w a o p _; rfl
  | cons v vs ih =>
    intro w a o p h
    rw [List.length_cons] at h
    rw [writes, ih _ _ _ _ (by omega), setCell_ne _ (by omega)]

theorem writes_in (vs : List Value) : ∀ (w : World) (a o q : Nat), q < vs.length → (∀ j, j < vs.length → ∃ u, w.cell? ⟨a, o + j, none⟩ = some u) → (writes w a o vs).cell? ⟨a, o + q, none⟩ = vs[q]? := by
  induction vs with
  | nil => intro w a o q h _; simp at h
  | cons v vs ih =>
    intro w a o q h hc
    rw [List.length_cons] at h hc
    obtain ⟨u, hu⟩ := hc 0 (by omega)
    cases q with
    | zero =>
      rw [writes, writes_out _ _ _ _ _ (by omega)]
      simpa using setCell_same v hu
    | succ q =>
      rw [writes, show o + (q + 1) = o + 1 + q by omega, ih _ _ _ _ (by omega) (fun j hj => ?_)]
      · simp
      · obtain ⟨u', hu'⟩ := hc (j + 1) (by omega)
        refine ⟨u', ?_⟩
        rw [setCell_ne _ (by omega), show o + 1 + j = o + (j + 1) by omega]
        exact hu'

/-- The last store of a Put, and the draw. -/
def fin (w1 : World) (r a o : Nat) (v : Value) (vs : List Value) : World := ((writes w1 a o vs).setCell ⟨r, 1, none⟩ v).drew
theorem fin_size (w1 : World) (r a o : Nat) (v : Value) (vs : List Value) : (fin w1 r a o v vs).heap.size = w1.heap.size := by
  unfold fin
  simp [World.setCell, writes_size]
theorem fin_os (w1 : World) (r a o : Nat) (v : Value) (vs : List Value) : (fin w1 r a o v vs).os = w1.os ∧ (fin w1 r a o v vs).tape = w1.tape ∧ (fin w1 r a o v vs).output = w1.output := writes_os vs w1 a o
theorem fin_heap (w1 : World) (r a o : Nat) (v : Value) (vs : List Value) (k : Nat) (h1 : k ≠ r) (h2 : k ≠ a) : (fin w1 r a o v vs).heap[k]? = w1.heap[k]? := by
  show ((writes w1 a o vs).setCell ⟨r, 1, none⟩ v).heap[k]? = _
  rw [Below.heap_setCell _ _ _ _ h1, writes_heap _ _ _ _ _ h2]
theorem fin_cell (w1 : World) (r a o : Nat) (v : Value) (vs : List Value) (b p : Nat) (h : b ≠ r ∨ p ≠ 1) : (fin w1 r a o v vs).cell? ⟨b, p, none⟩ = (writes w1 a o vs).cell? ⟨b, p, none⟩ := by
  show ((writes w1 a o vs).setCell ⟨r, 1, none⟩ v).cell? _ = _
  rw [setCell_ne _ h]
theorem fin_next {w1 : World} {r a o : Nat} {v u : Value} {vs : List Value} (h : w1.cell? ⟨r, 1, none⟩ = some u) (hne : r ≠ a) : (fin w1 r a o v vs).cell? ⟨r, 1, none⟩ = some v := by
  show ((writes w1 a o vs).setCell ⟨r, 1, none⟩ v).cell? _ = _
  exact setCell_same _ (by rw [World.cell?_of_block (w := w1) (a := ⟨r, 1, none⟩) (writes_heap _ _ _ _ _ hne)]; exact h)
theorem fin_frozen (w1 : World) (r a o : Nat) (v : Value) (vs : List Value) (p : Addr) : (fin w1 r a o v vs).frozen? p = w1.frozen? p := by
  show ((writes w1 a o vs).setCell ⟨r, 1, none⟩ v).frozen? p = _
  rw [setCell_frozen, writes_frozen]

/-- Of what was there nothing but the blocks r and a has turned. -/
structure Only2 (r a : Nat) (w w' : World) : Prop where
  os : w'.os = w.os
  tape : w'.tape = w.tape
  output : w'.output = w.output
  size : w.heap.size ≤ w'.heap.size
  block : ∀ k, k < w.heap.size → k ≠ r → k ≠ a → w'.heap[k]? = w.heap[k]?

theorem Only2.below {r a B : Nat} {w w' : World} (h : Only2 r a w w') (hr : B ≤ r) (ha : B ≤ a) (hs : B ≤ w.heap.size) : Below B w w' :=
  ⟨h.os, h.tape, h.output, h.size, fun k hk => h.block k (by omega) (by omega) (by omega)⟩

/-- Blocks r and a are a ring of n places, into which c entries were put: P. -/
structure isR (w : World) (r a n c : Nat) (P : Nat → Ent) : Prop where
  ne : a ≠ r
  many : n ≤ 4096
  slc : w.cell? ⟨r, 0, none⟩ = some (.slice (some ⟨a, 0, none⟩) n n)
  nxt : w.cell? ⟨r, 1, none⟩ = some (.int .i64 c)
  frz : w.frozen? ⟨r, 1, none⟩ = false
  room : ∀ j, j < n * 10 → (∃ v, w.cell? ⟨a, j, none⟩ = some v) ∧ w.frozen? ⟨a, j, none⟩ = false
  ent : ∀ i, i < c → c ≤ i + n → ∀ q, q < 10 → w.cell? ⟨a, i % n * 10 + q, none⟩ = (P i).cells[q]?
  alt : a < w.heap.size

theorem isR.rlt {w : World} {r a n c : Nat} {P : Nat → Ent} (h : isR w r a n c P) : r < w.heap.size := lt_cell h.nxt

theorem isR.kept {w w' : World} {r a n c : Nat} {P : Nat → Ent} (h : isR w r a n c P) (hr : w'.heap[r]? = w.heap[r]?) (ha : w'.heap[a]? = w.heap[a]?) (hs : w.heap.size ≤ w'.heap.size) : isR w' r a n c P := by
  have er : ∀ o, w'.cell? ⟨r, o, none⟩ = w.cell? ⟨r, o, none⟩ := fun o => World.cell?_of_block (w := w) (a := ⟨r, o, none⟩) hr
  have ea : ∀ o, w'.cell? ⟨a, o, none⟩ = w.cell? ⟨a, o, none⟩ := fun o => World.cell?_of_block (w := w) (a := ⟨a, o, none⟩) ha
  have fr : ∀ o, w'.frozen? ⟨r, o, none⟩ = w.frozen? ⟨r, o, none⟩ := fun o => World.frozen?_of_block (w := w) (a := ⟨r, o, none⟩) hr
  have fa : ∀ o, w'.frozen? ⟨a, o, none⟩ = w.frozen? ⟨a, o, none⟩ := fun o => World.frozen?_of_block (w := w) (a := ⟨a, o, none⟩) ha
  exact ⟨h.ne, h.many, by rw [er]; exact h.slc, by rw [er]; exact h.nxt, by rw [fr]; exact h.frz, fun j hj => by rw [ea, fa]; exact h.room j hj, fun i h1 h2 q hq => by rw [ea]; exact h.ent i h1 h2 q hq, Nat.lt_of_lt_of_le h.alt hs⟩

theorem isR.below {w w' : World} {r a n c : Nat} {P : Nat → Ent} (h : isR w r a n c P) (hb : Below w.heap.size w w') : isR w' r a n c P :=
  h.kept (hb.block r h.rlt) (hb.block a h.alt) hb.size

def putAt (P : Nat → Ent) (c : Nat) (e : Ent) : Nat → Ent := fun i => if i = c then e else P i

theorem mod_apart {i c n : Nat} (h1 : i < c) (h2 : c < i + n) : i % n ≠ c % n := by
  intro e
  have h := Nat.sub_mod_eq_zero_of_mod_eq e.symm
  have h3 : (c - i) % n = c - i := Nat.mod_eq_of_lt (by omega)
  omega

set_option maxHeartbeats 400000 in
theorem put_m (r a n c : Nat) (P : Nat → Ent) (e : Ent) (w : World) (hcb : c ≤ 1000000000000) (h : isR w r a n c P) (he : e.v0 = c) :
    Calls Try.prog 8 #[.pointer (some ⟨r, 0, none⟩), .int .i64 e.v1, e.piece] w fun en w' => en = .returned (.int .i64 c) ∧ isR w' r a n (c + 1) (putAt P c e) ∧ Only2 r a w w' := by
  by_cases hn : n = 0
  · subst hn
    refine (put_none r a c e.v1 e.v2 e.v3 e.v4 e.v5 e.v6 e.v7 e.v8 e.v9 w hcb h.slc h.nxt h.frz).mono ?_
    rintro en w' ⟨rfl, rfl⟩
    have hr := h.rlt
    refine ⟨rfl, ⟨h.ne, h.many, ?_, ?_, ?_, fun j hj => by omega, fun i h1 h2 => by omega, by simp [World.setCell]; have := h.alt; omega⟩, rfl, rfl, rfl, by simp [World.setCell], fun k hk h1 h2 => ?_⟩
    · rw [World.cell?_alloc_past _ _ _ (by simpa [World.setCell] using hr), setCell_ne _ (by omega)]; exact h.slc
    · rw [World.cell?_alloc_past _ _ _ (by simpa [World.setCell] using hr), setCell_same _ h.nxt]; rfl
    · rw [frozen?_alloc_cells]; simpa using h.frz
    · rw [Below.heap_alloc _ _ _ (by simpa [World.setCell] using hk), Below.heap_setCell _ _ _ _ h1]
  · have hmod : c % n < n := Nat.mod_lt _ (by omega)
    have hr : ∀ q, q < 10 → (∃ v, w.cell? ⟨a, c % n * 10 + q, none⟩ = some v) ∧ w.frozen? ⟨a, c % n * 10 + q, none⟩ = false := fun q hq => h.room _ (by omega)
    obtain ⟨⟨u0, h0⟩, f0⟩ := hr 0 (by omega)
    obtain ⟨⟨u1, h1⟩, f1⟩ := hr 1 (by omega)
    obtain ⟨⟨u2, h2⟩, f2⟩ := hr 2 (by omega)
    obtain ⟨⟨u3, h3⟩, f3⟩ := hr 3 (by omega)
    obtain ⟨⟨u4, h4⟩, f4⟩ := hr 4 (by omega)
    obtain ⟨⟨u5, h5⟩, f5⟩ := hr 5 (by omega)
    obtain ⟨⟨u6, h6⟩, f6⟩ := hr 6 (by omega)
    obtain ⟨⟨u7, h7⟩, f7⟩ := hr 7 (by omega)
    obtain ⟨⟨u8, h8⟩, f8⟩ := hr 8 (by omega)
    obtain ⟨⟨u9, h9⟩, f9⟩ := hr 9 (by omega)
    refine (put_some r a n c (c % n) e.v1 e.v2 e.v3 e.v4 e.v5 e.v6 e.v7 e.v8 e.v9 w hcb (by omega) h.many h.ne hmod (Int.ofNat_tmod c n).symm h.slc h.nxt h.frz
      u0 u1 u2 u3 u4 u5 u6 u7 u8 u9 h0 f0 h1 f1 h2 f2 h3 f3 h4 f4 h5 f5 h6 f6 h7 f7 h8 f8 h9 f9).mono ?_
    rintro en w' ⟨w1, hb, rfl, rfl⟩
    have h' := h.below hb
    rw [show [Value.int .i64 (c : Int), .int .i64 e.v1, .int .i64 e.v2, .int .i64 e.v3, .int .i64 e.v4, .int .i64 e.v5, .int .i64 e.v6, .int .i64 e.v7, .int .i64 e.v8, .bool e.v9] = e.cells by rw [Ent.cells, he]]
    have hne := h.ne
    have hl : e.cells.length = 10 := rfl
    show _ ∧ isR (fin w1 r a (c % n * 10) (.int .i64 ((c : Int) + 1)) e.cells) r a n (c + 1) _ ∧ Only2 r a w (fin w1 r a (c % n * 10) (.int .i64 ((c : Int) + 1)) e.cells)
    have hsz := fin_size w1 r a (c % n * 10) (.int .i64 ((c : Int) + 1)) e.cells
    have hos := fin_os w1 r a (c % n * 10) (.int .i64 ((c : Int) + 1)) e.cells
    refine ⟨rfl, ⟨h.ne, h.many, ?_, ?_, ?_, fun j hj => ?_, fun i hi1 hi2 q hq => ?_, ?_⟩, ?_, ?_, ?_, ?_, fun k hk hk1 hk2 => ?_⟩
    · rw [fin_cell _ _ _ _ _ _ _ _ (by omega), World.cell?_of_block (w := w1) (a := ⟨r, 0, none⟩) (writes_heap _ _ _ _ _ h.ne.symm)]; exact h'.slc
    · exact fin_next h'.nxt h.ne.symm
    · rw [fin_frozen]; exact h'.frz
    · rw [fin_frozen, fin_cell _ _ _ _ _ _ _ _ (by omega)]
      refine ⟨?_, (h'.room j hj).2⟩
      by_cases hin : c % n * 10 ≤ j ∧ j < c % n * 10 + 10
      · have := writes_in e.cells w1 a (c % n * 10) (j - c % n * 10) (by omega) (fun q hq => (h'.room _ (by omega)).1)
        rw [show c % n * 10 + (j - c % n * 10) = j by omega] at this
        rw [this, List.getElem?_eq_getElem (by omega)]
        exact ⟨_, rfl⟩
      · rw [writes_out _ _ _ _ _ (by omega)]; exact (h'.room j hj).1
    · rw [fin_cell _ _ _ _ _ _ _ _ (by omega)]
      by_cases e1 : i = c
      · subst e1
        rw [writes_in _ _ _ _ _ (by omega) (fun q hq => (h'.room _ (by omega)).1)]
        simp [putAt]
      · have hm := mod_apart (n := n) (show i < c by omega) (by omega)
        have hmi : i % n < n := Nat.mod_lt _ (by omega)
        rw [writes_out _ _ _ _ _ (by omega), putAt, if_neg e1]
        exact h'.ent i (by omega) (by omega) q hq
    · rw [hsz]; exact h'.alt
    · rw [hos.1]; exact hb.os
    · rw [hos.2.1]; exact hb.tape
    · rw [hos.2.2]; exact hb.output
    · rw [hsz]; exact hb.size
    · rw [fin_heap _ _ _ _ _ _ _ hk1 hk2]; exact hb.block k hk

def zeroEnt : Ent := ⟨0, 0, 0, 0, 0, 0, 0, 0, 0, false⟩

theorem get_none_m (r a n c : Nat) (P : Nat → Ent) (k : Int) (w : World) (hcb : c ≤ 1000000000000) (h : isR w r a n c P) (hout : k < ((c - n : Nat) : Int) ∨ (c : Int) ≤ k) :
    Calls Try.prog 10 #[.pointer (some ⟨r, 0, none⟩), .int .i64 k] w (GetPost (.agg #[.int .i64 0, .int .i64 0, .int .i64 0, .int .i64 0, .int .i64 0, .int .i64 0, .int .i64 0, .int .i64 0, .int .i64 0, .bool false]) false w) :=
  get_out r a n c k w hcb h.many hout h.slc h.nxt

theorem get_some_m (r a n c : Nat) (P : Nat → Ent) (k : Nat) (w : World) (hcb : c ≤ 1000000000000) (h : isR w r a n c P) (h1 : c ≤ k + n) (h2 : k < c) :
    Calls Try.prog 10 #[.pointer (some ⟨r, 0, none⟩), .int .i64 k] w (GetPost (.agg #[.int .i64 (P k).v0, .int .i64 (P k).v1, .int .i64 (P k).v2, .int .i64 (P k).v3, .int .i64 (P k).v4, .int .i64 (P k).v5, .int .i64 (P k).v6, .int .i64 (P k).v7, .int .i64 (P k).v8, .bool (P k).v9]) true w) := by
  have hm : k % n < n := Nat.mod_lt _ (by omega)
  have hq := h.ent k h2 h1
  exact get_in r a n c (k % n) k w hcb (by omega) h.many h1 h2 hm (Int.ofNat_tmod k n).symm h.slc h.nxt (P k).v0 (P k).v1 (P k).v2 (P k).v3 (P k).v4 (P k).v5 (P k).v6 (P k).v7 (P k).v8 (P k).v9
    (hq 0 (by omega)) (hq 1 (by omega)) (hq 2 (by omega)) (hq 3 (by omega)) (hq 4 (by omega)) (hq 5 (by omega)) (hq 6 (by omega)) (hq 7 (by omega)) (hq 8 (by omega)) (hq 9 (by omega))
end Go.Proofs.Ytiajdfipkojodaa
