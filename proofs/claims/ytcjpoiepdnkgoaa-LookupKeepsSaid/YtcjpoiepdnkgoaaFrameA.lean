/- WHAT IS PROVED: part of the proof that posthouselaw11.LookupKeeps returns true at every input and leaves its arguments alone. CONDITIONS: none beyond the row. -/
import Derived.Deep.Quiet
import Derived.TacticsIn
import Derived.OrdersIn
import Derived.LoopIn
import Derived.RangeFuncLeaves
import Derived.RangeFuncCalls
import Derived.Below
import Derived.LoopN
import Derived.Laws.CopyRow
import Derived.Laws.Cells
import Derived.Laws.Entries
import Derived.Laws.AppendOwn
import Derived.KernelRfl
import Derived.ChangeKeysEq
import Derived.Laws.StructEq
namespace Go.Ph
universe u
open Go.RowKit (Below)
/-- What is known of memory that nobody writes any more: cells by block and place. -/
abbrev Snap := Nat → Nat → Option Value
def Snap.le (m m' : Snap) : Prop := ∀ b i v, m b i = some v → m' b i = some v
theorem Snap.le_refl (m : Snap) : m.le m := fun _ _ _ h => h
theorem Snap.le_trans {a b c : Snap} (h : Snap.le a b) (k : Snap.le b c) : Snap.le a c := fun x i v hv => k x i v (h x i v hv)
def isAggV : Value → Bool
  | .agg _ => true
  | _ => false
/-- How a Lean type stands for Go values: how many cells, and which cells, over what is known of memory, stand for which datum. -/
class Rp (P : Program) (α : Type) where
  sz : Nat
  agg : Bool
  rel : Snap → List Value → α → Prop
  len : ∀ {m cs x}, rel m cs x → cs.length = sz
  ok : ∀ {m cs x}, rel m cs x → ∀ c ∈ cs, c.oneCell' = true
  one : agg = false → sz = 1
  mono : ∀ {m m' cs x}, Snap.le m m' → rel m cs x → rel m' cs x
variable {P : Program}
def vrel {α : Type} [Rp P α] (m : Snap) (v : Value) (x : α) : Prop := Rp.rel P m v.cells.toList x ∧ isAggV v = Rp.agg P α
theorem vrel.mono {α : Type} [Rp P α] {m m' : Snap} {v : Value} {x : α} (hle : Snap.le m m') (h : vrel (P := P) m v x) : vrel (P := P) m' v x := ⟨Rp.mono hle h.1, h.2⟩
/-- The finding of a number's entry. -/
def lk {α : Type u} : List (Nat × α) → Nat → Option α
  | [], _ => none
  | (k, x) :: r, t => bif Nat.beq k t then some x else lk r t
inductive AV (P : Program) : Type 1 where
  | d {α : Type} [i : Rp P α] (x : α)
  | x (v : Value)
  | p (box off : Nat)
  | g (nm : Nat)
  | ge (nm off : Nat)
  | any
  | cl (f : FuncId) (bs : List Nat)
  | t2 (a b : AV P)
  | t3 (a b c : AV P)
def AV.holds (β : Nat → Nat) (γ : Nat → Value) (m : Snap) : AV P → Value → Prop
  | @AV.d _ _ i y, v => @vrel P _ i m v y
  | .x u, v => v = u
  | .p b o, v => v = .pointer (some ⟨β b, o, none⟩)
  | .g nm, v => v = γ nm
  | .ge nm o, v => ∃ b, (γ nm).ownBlock = some b ∧ v = .pointer (some ⟨b, o, none⟩)
  | .any, _ => True
  | .cl f bs, v => v = .func (.func f) #[] (bs.map fun b => Value.pointer (some ⟨β b, 0, none⟩)).toArray
  | .t2 a b, v => ∃ va vb, v = .tuple #[va, vb] ∧ a.holds β γ m va ∧ b.holds β γ m vb
  | .t3 a b c, v => ∃ va vb vc, v = .tuple #[va, vb, vc] ∧ a.holds β γ m va ∧ b.holds β γ m vb ∧ c.holds β γ m vc
theorem AV.holds_mono {β : Nat → Nat} {γ : Nat → Value} {m m' : Snap} (hle : Snap.le m m') : ∀ {x : AV P} {v : Value}, x.holds β γ m v → x.holds β γ m' v
  | @AV.d _ _ _ _, _, h => vrel.mono hle h
  | .x _, _, h => h
  | .p _ _, _, h => h
  | .g _, _, h => h
  | .ge _ _, _, h => h
  | .any, _, h => h
  | .cl _ _, _, h => h
  | .t2 _ _, _, ⟨va, vb, e, ha, hb⟩ => ⟨va, vb, e, holds_mono hle ha, holds_mono hle hb⟩
  | .t3 _ _ _, _, ⟨va, vb, vc, e, ha, hb, hc⟩ => ⟨va, vb, vc, e, holds_mono hle ha, holds_mono hle hb, holds_mono hle hc⟩
/-- What a box holds: a datum. -/
structure BV (P : Program) : Type 1 where
  {α : Type}
  [i : Rp P α]
  x : α
/-- What a growing slice holds: a row of data ('e': its elements' type in the program's table). -/
structure GV (P : Program) : Type 1 where
  {α : Type}
  [i : Rp P α]
  e : TypeId
  xs : List α
structure Bs (P : Program) : Type 1 where
  bx : List (Nat × BV P)
  gr : List (Nat × GV P)
  ti : List ((Nat × Nat) × Nat)
structure St (P : Program) : Type 1 where
  sl : List (Nat × AV P)
  B : Bs P
/-- A slice's cells in memory: what it reads as. -/
structure SliceR {α : Type} [Rp P α] (m : Snap) (v : Value) (xs : List α) : Prop where
  ex : ∃ a cap, v = .slice a xs.length cap ∧ xs.length ≤ cap ∧ (xs ≠ [] → ∃ b off, a = some ⟨b, off, none⟩ ∧
    ∀ i x, xs[i]? = some x → ∃ cs, Rp.rel P m cs x ∧ ∀ j c, cs[j]? = some c → m b (off + i * Rp.sz P α + j) = some c)
  big : xs.length ≤ 9223372036854775807
theorem SliceR.mono {α : Type} [Rp P α] {m m' : Snap} {v : Value} {xs : List α} (hle : Snap.le m m') (h : SliceR (P := P) m v xs) : SliceR (P := P) m' v xs := by
  obtain ⟨⟨a, cap, e, hc, hx⟩, hb⟩ := h
  refine ⟨⟨a, cap, e, hc, fun hne => ?_⟩, hb⟩
  obtain ⟨b, off, ea, hi⟩ := hx hne
  refine ⟨b, off, ea, fun i x hx => ?_⟩
  obtain ⟨cs, hr, hm⟩ := hi i x hx
  exact ⟨cs, Rp.mono hle hr, fun j c hj => hle _ _ _ (hm j c hj)⟩
instance rpList (α : Type) [Rp P α] : Rp P (List α) where
  sz := 1
  agg := false
  rel := fun m cs xs => ∃ v, cs = [v] ∧ SliceR (P := P) m v xs
  len := by rintro m cs x ⟨v, rfl, _⟩; rfl
  ok := by
    rintro m cs x ⟨v, rfl, ⟨⟨a, cap, rfl, _⟩, _⟩⟩ c hc
    simp only [List.mem_singleton] at hc; subst hc; rfl
  one := fun _ => rfl
  mono := by rintro m m' cs x hle ⟨v, rfl, h⟩; exact ⟨v, rfl, h.mono hle⟩
instance rpInt : Rp P Int where
  sz := 1
  agg := false
  rel := fun _ cs x => cs = [.int .i64 x] ∧ -9223372036854775808 ≤ x ∧ x ≤ 9223372036854775807
  len := by rintro m cs x ⟨rfl, _⟩; rfl
  ok := by rintro m cs x ⟨rfl, _⟩ c hc; simp only [List.mem_singleton] at hc; subst hc; rfl
  one := fun _ => rfl
  mono := by rintro m m' cs x _ h; exact h
instance rpBool : Rp P Bool where
  sz := 1
  agg := false
  rel := fun _ cs x => cs = [.bool x]
  len := by rintro m cs x rfl; rfl
  ok := by rintro m cs x rfl c hc; simp only [List.mem_singleton] at hc; subst hc; rfl
  one := fun _ => rfl
  mono := by rintro m m' cs x _ h; exact h
instance rpU8 : Rp P UInt8 where
  sz := 1
  agg := false
  rel := fun _ cs x => cs = [.int .u8 x.toNat]
  len := by rintro m cs x rfl; rfl
  ok := by rintro m cs x rfl c hc; simp only [List.mem_singleton] at hc; subst hc; rfl
  one := fun _ => rfl
  mono := by rintro m m' cs x _ h; exact h
/-- A pointer into memory that nobody writes any more. -/
structure Ptr (α : Type) where
  x : α
instance rpPtr (α : Type) [Rp P α] : Rp P (Ptr α) where
  sz := 1
  agg := false
  rel := fun m cs p => ∃ b off ds, cs = [.pointer (some ⟨b, off, none⟩)] ∧ Rp.rel P m ds p.x ∧ ∀ j c, ds[j]? = some c → m b (off + j) = some c
  len := by rintro m cs x ⟨b, off, ds, rfl, _⟩; rfl
  ok := by rintro m cs x ⟨b, off, ds, rfl, _⟩ c hc; simp only [List.mem_singleton] at hc; subst hc; rfl
  one := fun _ => rfl
  mono := by rintro m m' cs x hle ⟨b, off, ds, rfl, h, hm⟩; exact ⟨b, off, ds, rfl, Rp.mono hle h, fun j c hj => hle _ _ _ (hm j c hj)⟩
/-- An array: its elements' cells, one behind the other. -/
def flatRel {α : Type} [Rp P α] (m : Snap) : List Value → List α → Prop
  | cs, [] => cs = []
  | cs, x :: xs => ∃ a b, cs = a ++ b ∧ Rp.rel P m a x ∧ flatRel m b xs
theorem flatRel.mono {α : Type} [Rp P α] {m m' : Snap} (hle : Snap.le m m') : ∀ {xs : List α} {cs : List Value}, flatRel (P := P) m cs xs → flatRel (P := P) m' cs xs
  | [], _, h => h
  | _ :: _, _, ⟨a, b, e, h, r⟩ => ⟨a, b, e, Rp.mono hle h, flatRel.mono hle r⟩
theorem flatRel.length {α : Type} [Rp P α] {m : Snap} : ∀ {xs : List α} {cs : List Value}, flatRel (P := P) m cs xs → cs.length = xs.length * Rp.sz P α
  | [], _, h => by simp only [flatRel] at h; subst h; simp
  | x :: xs, _, ⟨a, b, e, h, r⟩ => by
    have h1 := Rp.len h
    have h2 := flatRel.length r
    subst e
    simp only [List.length_append, List.length_cons, h1, h2, Nat.add_mul, Nat.one_mul]
    omega
theorem flatRel.ok {α : Type} [Rp P α] {m : Snap} : ∀ {xs : List α} {cs : List Value}, flatRel (P := P) m cs xs → ∀ c ∈ cs, c.oneCell' = true
  | [], _, h, c, hc => by simp only [flatRel] at h; subst h; simp at hc
  | x :: xs, _, ⟨a, b, e, h, r⟩, c, hc => by
    subst e
    rcases List.mem_append.1 hc with hc | hc
    · exact Rp.ok h c hc
    · exact flatRel.ok r c hc
instance rpVec (α : Type) [Rp P α] (n : Nat) : Rp P (Vector α n) where
  sz := n * Rp.sz P α
  agg := true
  rel := fun m cs v => flatRel (P := P) m cs v.toList
  len := by intro m cs x h; have := h.length; simpa using this
  ok := by intro m cs x h; exact h.ok
  one := by intro h; cases h
  mono := by intro m m' cs x hle h; exact h.mono hle
/-- A condition on the world beside the walk's own blocks: it abides what a walk does: own blocks turn, new ones are laid, the snapshot grows by both. -/
def JL (J : Snap → (Nat → Prop) → World → Prop) : Prop := ∀ {m m' : Snap} {S S' : Nat → Prop} {w w' : World}, J m S w → w'.os = w.os → w'.tape = w.tape → w'.output = w.output → w.heap.size ≤ w'.heap.size →
  (∀ k, k < w.heap.size → ¬ S k → w'.heap[k]? = w.heap[k]?) → Snap.le m m' → (∀ b i v, m' b i = some v → m b i = some v ∨ S b ∨ w.heap.size ≤ b) → (∀ b i v, m' b i = some v → w'.cell? ⟨b, i, none⟩ = some v) →
  (∀ b, S' b → S b ∨ w.heap.size ≤ b) → J m' S' w'
/-- A call's: what lay ahead of it lies as it lay. -/
def ordJ (w0 : World) : Snap → (Nat → Prop) → World → Prop := fun _ S w => Below w0.heap.size w0 w ∧ ∀ b, S b → w0.heap.size ≤ b
theorem ordJ_law (w0 : World) : JL (ordJ w0) := by
  intro m m' S S' w w' h ho ht hu hsz hk _ _ _ hS
  have hsz0 := h.1.size
  refine ⟨⟨ho.trans h.1.os, ht.trans h.1.tape, hu.trans h.1.output, Nat.le_trans hsz0 hsz, fun k hk' => ?_⟩, fun b hb => ?_⟩
  · rw [hk k (by omega) (fun hs => by have := h.2 k hs; omega)]; exact h.1.block k hk'
  · rcases hS b hb with h1 | h1
    · exact h.2 b h1
    · omega
/-- A function's frame of reference: how many slots; its first own block; the world and the knowledge that it began with. -/
structure Cx where
  n : Nat
  w0 : World
  m0 : Snap
  D : List Deferred
  /-- the loop's record, in a round of a range over a function -/
  rd : Option Nat
  J : Snap → (Nat → Prop) → World → Prop
  jl : JL J
  /-- boxes whose block is named -/
  pin : Nat → Option Nat
  /-- rows whose header is named -/
  ping : Nat → Option Value
def Cx.B0 (K : Cx) : Nat := K.w0.heap.size
structure AH (K : Cx) (m : Snap) (β : Nat → Nat) (γ : Nat → Value) (sl : List (Nat × AV P)) (a : Act) : Prop where
  defers : a.defers = K.D
  size : a.tmps.size = K.n
  slot : ∀ t x, lk sl t = some x → ∃ v, a.tmps[t]? = some v ∧ x.holds β γ m v
/-- Rows that nobody else knows: their cells lie in no snapshot. -/
def priv (nm : Nat) : Bool := Nat.ble 5000 nm
/-- A slice of the call's own that may grow: behind its elements nobody reads; 'p': no element is known to anybody else. -/
structure GrowOk (K : Cx) (p : Bool) (m : Snap) (w : World) (v : Value) (gv : GV P) : Prop where
  ex : ∃ cs, w.ownsRow K.B0 gv.e gv.i.sz v gv.xs.length cs ∧ @flatRel P gv.α gv.i m cs gv.xs ∧
    ∀ b, v.ownBlock = some b → (p = false → (∀ i c, cs[i]? = some c → m b i = some c) ∧ ∀ i, gv.xs.length * gv.i.sz ≤ i → m b i = none) ∧ (p = true → ∀ i, m b i = none)
  big : gv.xs.length ≤ 1048576
theorem ownsRow_keep {w w' : World} {base : Nat} {e : TypeId} {size : Nat} {v : Value} {n : Nat} {xs : List Value} (h : w.ownsRow base e size v n xs) (hb : ∀ b, v.ownBlock = some b → w'.heap[b]? = w.heap[b]?) : w'.ownsRow base e size v n xs := by
  obtain ⟨h1, h2⟩ := h
  refine ⟨h1, h2.imp id ?_⟩
  rintro ⟨g, cap, cur, rfl, hg, hh, r⟩
  exact ⟨g, cap, cur, rfl, hg, by rw [hb g rfl]; exact hh, r⟩
theorem GrowOk.keep {K : Cx} {p : Bool} {m m' : Snap} {w w' : World} {v : Value} {gv : GV P} (h : GrowOk K p m w v gv) (hb : ∀ b, v.ownBlock = some b → w'.heap[b]? = w.heap[b]?) (hle : Snap.le m m')
    (hn : ∀ b i, v.ownBlock = some b → m b i = none → m' b i = none) : GrowOk K p m' w' v gv := by
  obtain ⟨⟨cs, h1, h2, h3⟩, hbig⟩ := h
  exact ⟨⟨cs, ownsRow_keep h1 hb, @flatRel.mono P gv.α gv.i _ _ hle _ _ h2, fun b hv => ⟨fun hp => ⟨fun i c hc => hle _ _ _ (((h3 b hv).1 hp).1 i c hc), fun i hi => hn b i hv (((h3 b hv).1 hp).2 i hi)⟩, fun hp i => hn b i hv ((h3 b hv).2 hp i)⟩⟩, hbig⟩
theorem GrowOk.lt {K : Cx} {p : Bool} {m : Snap} {w : World} {v : Value} {gv : GV P} (h : GrowOk K p m w v gv) {b : Nat} (hb : v.ownBlock = some b) : b < w.heap.size := by
  obtain ⟨⟨cs, h1, _⟩, _⟩ := h
  exact (h1.lt b hb).2
theorem flat_get {α : Type} [Rp P α] {m : Snap} : ∀ {xs : List α} {cs : List Value} {i : Nat} {x : α}, flatRel (P := P) m cs xs → xs[i]? = some x → Rp.rel P m ((cs.drop (i * Rp.sz P α)).take (Rp.sz P α)) x
  | [], _, _, _, _, h => by simp at h
  | y :: ys, cs, 0, x, ⟨a, b, e, h, r⟩, hx => by
    simp only [List.getElem?_cons_zero, Option.some.injEq] at hx; subst hx
    rw [e, Nat.zero_mul, List.drop_zero, ← Rp.len h, List.take_left]; exact h
  | y :: ys, cs, i + 1, x, ⟨a, b, e, h, r⟩, hx => by
    simp only [List.getElem?_cons_succ] at hx
    have := flat_get r hx
    rw [e, Nat.add_mul, Nat.one_mul, Nat.add_comm, ← List.drop_drop]
    have e2 : (a ++ b).drop (Rp.sz P α) = b := by rw [← Rp.len h, List.drop_left]
    rw [e2]; exact this
theorem slice_of_own {α : Type} [Rp P α] {m : Snap} {w : World} {base : Nat} {e : TypeId} {v : Value} {cs : List Value} {xs : List α} (h : w.ownsRow base e (Rp.sz P α) v xs.length cs) (hf : flatRel (P := P) m cs xs)
    (hm : ∀ b, v.ownBlock = some b → ∀ i c, cs[i]? = some c → m b i = some c) (hbig : xs.length ≤ 1048576) : SliceR (P := P) m v xs := by
  obtain ⟨h1, h2⟩ := h
  rcases h2 with ⟨rfl, hn⟩ | ⟨g, cap, cur, rfl, _, _, hcap, _, _, _⟩
  · have : xs = [] := List.eq_nil_of_length_eq_zero hn
    exact ⟨⟨none, 0, by rw [hn], by omega, fun hne => absurd this hne⟩, by omega⟩
  · refine ⟨⟨some ⟨g, 0, none⟩, cap, rfl, hcap, fun _ => ⟨g, 0, rfl, fun i x hx => ⟨_, flat_get hf hx, fun j c hj => ?_⟩⟩⟩, by omega⟩
    simp only [List.getElem?_take, List.getElem?_drop] at hj
    split at hj
    · have := hm g rfl _ _ hj
      simpa [Nat.zero_add] using this
    · cases hj
/-- What a growing slice reads as. -/
theorem GrowOk.slice {K : Cx} {p : Bool} {m : Snap} {w : World} {v : Value} {gv : GV P} (h : GrowOk K p m w v gv) (hp : p = false) : @SliceR P gv.α gv.i m v gv.xs := by
  obtain ⟨⟨cs, h1, h3, h4⟩, hbig⟩ := h
  exact @slice_of_own P gv.α gv.i _ _ _ _ _ _ _ h1 h3 (fun b hb => ((h4 b hb).1 hp).1) hbig
/-- The walk's own blocks. -/
def own (β : Nat → Nat) (γ : Nat → Value) (B : Bs P) (b : Nat) : Prop := (∃ x bv, lk B.bx x = some bv ∧ β x = b) ∨ ∃ x gv, lk B.gr x = some gv ∧ (γ x).ownBlock = some b
structure WH (K : Cx) (m : Snap) (β : Nat → Nat) (γ : Nat → Value) (κ : Nat → List Value) (B : Bs P) (w : World) : Prop where
  sees : ∀ b i v, m b i = some v → w.cell? ⟨b, i, none⟩ = some v
  le : Snap.le K.m0 m
  new : ∀ b i v, m b i = some v → K.m0 b i = some v ∨ K.B0 ≤ b
  box : ∀ x bv, lk B.bx x = some bv → (∃ T, w.heap[β x]? = some (.cells (κ x).toArray T (0, 0))) ∧ bv.i.rel m (κ x) bv.x ∧ K.B0 ≤ β x ∧ ∀ i, m (β x) i = none
  inj : ∀ x y bx bY, lk B.bx x = some bx → lk B.bx y = some bY → x ≠ y → β x ≠ β y
  grow : ∀ x gv, lk B.gr x = some gv → GrowOk K (priv x) m w (γ x) gv
  gbox : ∀ x y gv bv, lk B.gr x = some gv → lk B.bx y = some bv → (γ x).ownBlock ≠ some (β y)
  ginj : ∀ x y gx gy b, lk B.gr x = some gx → lk B.gr y = some gy → x ≠ y → (γ x).ownBlock = some b → (γ y).ownBlock ≠ some b
  tie : ∀ e ∈ B.ti, (κ e.1.1)[e.1.2]? = some (γ e.2)
  jj : K.J m (own β γ B) w ∧ K.B0 ≤ w.heap.size ∧ (∀ b c, K.pin b = some c → β b = c) ∧ ∀ n v, K.ping n = some v → γ n = v
/-- From every act and world in which this holds the code comes to its end. -/
def fc (rd : Option Nat) : Fence := { Fence.wide with round := rd }
theorem rows_in {rd : Option Nat} {row : String} {args : Array Value} {w : World} {R : Value → World → Prop} (h : Rows P row args w R) : RowsIn (fc rd) (0 - 1) P row args w R :=
  fun c cs _ => let ⟨v, w', r, s⟩ := h c cs; ⟨v, w', r, (stepsIn_wide (P := P)).2 s⟩
/-- An operation that is no 'defer', in a round or not. -/
theorem wp_in {rd : Option Nat} {o : Oper} {a : Act} {w : World} {Kk : Act → World → Prop} {Q : Exit → Act → World → Prop} (h : o.wp P a w Kk Q) (hd : ∀ c, o.op ≠ .defer c) : o.wpIn (fc rd) 0 P a w Kk Q := by
  refine ⟨fun _ _ => trivial, ?_⟩
  show o.uponIn (fc rd) 0 P a Kk Q ((o.semAt rd a.eval).run P w)
  rw [Oper.semAt_eq _ _ _ hd]
  unfold Oper.wp at h
  generalize (execOp a.eval o).run P w = r at *
  cases r with
  | ok n w' =>
    cases n <;> simp only [Oper.upon] at h <;> simp only [Oper.uponIn] <;>
      first
        | exact h
        | exact ⟨fun e => by simp [fc, Fence.wide] at e, (callsIn_wide (n := 0)).2 h⟩
        | exact ⟨fun e => by simp [fc, Fence.wide] at e, rows_in h⟩
  | halt x w' => cases x <;> simp only [Oper.upon] at h <;> simp only [Oper.uponIn] <;> exact h
def T (K : Cx) (s : St P) (c : Code) (Q : Exit → Act → World → Prop) : Prop :=
  ∀ m β γ κ a w, AH K m β γ s.sl a → WH K m β γ κ s.B w → c.wpIn (fc K.rd) 0 P Q a w
def TL (K : Cx) (s : St P) (ops : Array Oper) (Q : Exit → Act → World → Prop) (rest : List Oper) : Prop :=
  ∀ m β γ κ a w, AH K m β γ s.sl a → WH K m β γ κ s.B w → wpListIn (fc K.rd) 0 P ops Q rest a w
/-- It holds at an end. -/
def Z (K : Cx) (s : St P) (e : Exit) (Q : Exit → Act → World → Prop) : Prop :=
  ∀ m β γ κ a w, AH K m β γ s.sl a → WH K m β γ κ s.B w → Q e a w
/-- A region that draws its order, walked in the order of its text, in one class of worlds. -/
def TQ (K : Cx) (B : Bs P) (ops : Array Oper) (Q : Exit → Act → World → Prop) (rest : List Oper) (sl : List (Nat × AV P)) : Prop :=
  ∀ m β γ κ a, AH K m β γ sl a → (∃ w, WH K m β γ κ B w) → wpQuiet P ops (WH K m β γ κ B) (fun a' => ∀ w', WH K m β γ κ B w' → Q .normal a' w') rest a
/-- An operation that yields just this, and leaves the world's class as it is. -/
def Y (K : Cx) (s : St P) (o : Oper) (x : AV P) : Prop :=
  ∀ m β γ κ a, AH K m β γ s.sl a → (∃ w, WH K m β γ κ s.B w) → ∃ v, x.holds β γ m v ∧ ∀ w, WH K m β γ κ s.B w → Oper.quietAt P o a (WH K m β γ κ s.B) w v
def St.put (s : St P) (d : Nat) (x : AV P) : St P := ⟨(d, x) :: s.sl, s.B⟩
theorem lk_cons_eq {α : Type u} {k : Nat} {x : α} {r : List (Nat × α)} {t : Nat} (h : k = t) : lk ((k, x) :: r) t = some x := by
  subst h; simp [lk]
theorem lk_cons_ne {α : Type u} {k : Nat} {x : α} {r : List (Nat × α)} {t : Nat} (h : k ≠ t) : lk ((k, x) :: r) t = lk r t := by
  have : Nat.beq k t = false := by
    cases hb : Nat.beq k t with
    | false => rfl
    | true => exact absurd (Nat.eq_of_beq_eq_true hb) h
  simp [lk, this]
section
variable {K : Cx} {m : Snap} {β : Nat → Nat} {γ : Nat → Value} {κ : Nat → List Value} {B : Bs P} {w : World} {a : Act} {s : St P} {sl : List (Nat × AV P)}
  {ops : Array Oper} {Q : Exit → Act → World → Prop} {rest : List Oper} {x : AV P} {d : Nat} {op : Op} {ty : TypeId} {pos : String} {aft : Array Edge}
theorem AH.put {v : Value} (h : AH K m β γ sl a) (hd : d < K.n) (hx : x.holds β γ m v) : AH K m β γ ((d, x) :: sl) (a.put (some d) v) := by
  refine ⟨h.defers, by simp [Act.put, h.size], fun t y hy => ?_⟩
  by_cases ht : d = t
  · subst ht
    rw [lk_cons_eq rfl] at hy
    cases hy
    refine ⟨v, ?_, hx⟩
    have : d < a.tmps.size := by rw [h.size]; exact hd
    simp [Act.put, this]
  · rw [lk_cons_ne ht] at hy
    obtain ⟨u, hu, hh⟩ := h.slot t y hy
    refine ⟨u, ?_, hh⟩
    simp only [Act.put, Array.getElem?_setIfInBounds]
    rw [if_neg ht]
    exact hu
theorem AH.mono_sl {sl' : List (Nat × AV P)} (h : AH K m β γ sl a) (hs : ∀ t x, lk sl' t = some x → lk sl t = some x) : AH K m β γ sl' a :=
  ⟨h.defers, h.size, fun t x hx => h.slot t x (hs t x hx)⟩
theorem WH.go {m' : Snap} {β' : Nat → Nat} {γ' : Nat → Value} {B' : Bs P} {w' : World} (h : WH K m β γ κ B w) (ho : w'.os = w.os) (ht : w'.tape = w.tape) (hu : w'.output = w.output) (hsz : w.heap.size ≤ w'.heap.size)
    (hk : ∀ k, k < w.heap.size → ¬ own β γ B k → w'.heap[k]? = w.heap[k]?) (hle : Snap.le m m') (hn : ∀ b i v, m' b i = some v → m b i = some v ∨ own β γ B b ∨ w.heap.size ≤ b)
    (hs : ∀ b i v, m' b i = some v → w'.cell? ⟨b, i, none⟩ = some v) (hS : ∀ b, own β' γ' B' b → own β γ B b ∨ w.heap.size ≤ b) (hp : ∀ b c, K.pin b = some c → β b = c → β' b = c := by exact fun _ _ _ h => h) (hg : ∀ n v, K.ping n = some v → γ n = v → γ' n = v := by exact fun _ _ _ h => h) :
    K.J m' (own β' γ' B') w' ∧ K.B0 ≤ w'.heap.size ∧ (∀ b c, K.pin b = some c → β' b = c) ∧ ∀ n v, K.ping n = some v → γ' n = v :=
  ⟨K.jl h.jj.1 ho ht hu hsz hk hle hn hs hS, Nat.le_trans h.jj.2.1 hsz, fun b c hb => hp b c hb (h.jj.2.2.1 b c hb), fun n v hn => hg n v hn (h.jj.2.2.2 n v hn)⟩
theorem WH.heap {w' : World} (h : WH K m β γ κ B w) (he : w'.heap = w.heap) (ho : w'.os = w.os) (ht : w'.tape = w.tape) (hu : w'.output = w.output) : WH K m β γ κ B w' := by
  have hc : ∀ b i, w'.cell? ⟨b, i, none⟩ = w.cell? ⟨b, i, none⟩ := fun b i => by simp [World.cell?, he]
  refine ⟨fun b i v hv => by rw [hc]; exact h.sees b i v hv, h.le, h.new, fun x bv hx => by rw [he]; exact h.box x bv hx, h.inj, fun x gv hx => ?_, h.gbox, h.ginj, h.tie, ?_⟩
  · exact (h.grow x gv hx).keep (fun b _ => by rw [he]) (Snap.le_refl _) fun _ _ _ h => h
  · exact h.go ho ht hu (by rw [he]; exact Nat.le_refl _) (fun k _ _ => by rw [he]) (Snap.le_refl _) (fun _ _ _ h => .inl h) (fun b i v hv => by rw [hc]; exact h.sees b i v hv) (fun _ h => .inl h)
theorem WH.drew (h : WH K m β γ κ B w) : WH K m β γ κ B { w with drawn := w.drawn + 1 } := h.heap rfl rfl rfl rfl
/-- Behind a call that leaves what lay as it lay. -/
theorem WH.below_call {w' : World} (h : WH K m β γ κ B w) (hb : Below w.heap.size w w') : WH K m β γ κ B w' := by
  have hh : ∀ b o, w.heap[b]? = some o → w'.heap[b]? = some o := fun b o ho => by
    have hlt : b < w.heap.size := by
      rcases Nat.lt_or_ge b w.heap.size with hl | hl
      · exact hl
      · rw [Array.getElem?_eq_none hl] at ho; cases ho
    rw [hb.block b hlt]; exact ho
  have hcell : ∀ b i v, w.cell? ⟨b, i, none⟩ = some v → w'.cell? ⟨b, i, none⟩ = some v := fun b i v hv => by
    unfold World.cell? at hv ⊢
    cases hq : w.heap[b]? with
    | none => simp [hq] at hv
    | some o => rw [hh b o hq]; simpa [hq] using hv
  refine ⟨fun b i v hv => hcell b i v (h.sees b i v hv), h.le, h.new, fun x bv hx => ?_, h.inj, fun x gv hx => ?_, h.gbox, h.ginj, h.tie, ?_⟩
  · obtain ⟨⟨T, hT⟩, r⟩ := h.box x bv hx
    exact ⟨⟨T, hh _ _ hT⟩, r⟩
  · exact (h.grow x gv hx).keep (fun b hv => hb.block b ((h.grow x gv hx).lt hv)) (Snap.le_refl _) fun _ _ _ h => h
  · exact h.go hb.os hb.tape hb.output hb.size (fun k hk _ => hb.block k hk) (Snap.le_refl _) (fun _ _ _ h => .inl h) (fun b i v hv => hcell b i v (h.sees b i v hv)) (fun _ h => .inl h)
end
end Go.Ph
namespace Go.Ph
universe u
open Go.RowKit (Below)
variable {P : Program}
/-- A loop, as it stands ahead of a round. -/
def LW (rd : Option Nat) (P : Program) (c : Code) (Q : Exit → Act → World → Prop) (a : Act) (w : World) : Prop :=
  ∀ (b : Frame) (k : List Item) (cs : List Frame), b.roundOf = (fc rd).round → (fc rd).fn b.fn → (fc rd).room (cs.length + 1 + 0) →
    ∃ e a' w', Q e a' w' ∧ ArrivesIn (Machine.fenced P (fc rd)) P (lone (b.atR a (.code c :: .inLoop c :: k)) cs w) b k cs e a' w'
theorem LW.of_wp {rd : Option Nat} {c : Code} {Q : Exit → Act → World → Prop} {a : Act} {w : World} (h : c.wpIn (fc rd) 0 P (Exit.then (LW rd P c Q) Q) a w) : LW rd P c Q a w := by
  intro b k cs hro hb hr
  obtain ⟨e, a₁, w₁, hq, harr⟩ := h b (.inLoop c :: k) cs hro hb hr
  cases e with
  | normal =>
    obtain ⟨e₂, a₂, w₂, hq₂, harr₂⟩ := hq b k cs hro hb hr
    exact ⟨e₂, a₂, w₂, hq₂, .of_steps (StepsIn.trans harr (.one (fenced_calm hb hr rfl) stepR_inLoop)) harr₂⟩
  | exit id => exact ⟨_, a₁, w₁, hq, .pass (x := .inLoop c) rfl (fun _ _ => .inl (by simp)) harr⟩
  | goto l => exact ⟨_, a₁, w₁, hq, .pass (x := .inLoop c) rfl (fun _ _ => .inl (by simp)) harr⟩
  | ret => exact ⟨_, a₁, w₁, hq, .pass (x := .inLoop c) rfl (fun _ _ => .inl (by simp)) harr⟩
  | panic ch => exact ⟨_, a₁, w₁, hq, .pass (x := .inLoop c) rfl (fun _ _ => .inl (by simp)) harr⟩
  | outgrown => exact ⟨_, a₁, w₁, hq, .pass (x := .inLoop c) rfl (fun _ _ => .inl (by simp)) harr⟩
theorem LW.loop {rd : Option Nat} {c : Code} {Q : Exit → Act → World → Prop} {a : Act} {w : World} (h : LW rd P c Q a w) : (Code.loop c).wpIn (fc rd) 0 P Q a w :=
  fun b k cs hro hb hr => let ⟨e, a', w', hq, harr⟩ := h b k cs hro hb hr; ⟨e, a', w', hq, .of_steps (.one (fenced_calm hb hr rfl) stepR_loop) harr⟩
/-- A guarded or plain operation, out of its plain law. -/
theorem wpL_of {rd : Option Nat} {o : Oper} {ops : Array Oper} {rest : List Oper} {Q : Exit → Act → World → Prop} {a : Act} {w : World} (hw : Region.wanted o (yielded ops a.tmps) = true) (hd : ∀ c, o.op ≠ .defer c)
    (h : o.wp P a w (wpListIn (fc rd) 0 P ops Q rest) Q) : wpListIn (fc rd) 0 P ops Q (o :: rest) a w := by
  unfold wpListIn
  rw [if_pos hw]
  exact wp_in h hd
theorem wpL_skip {rd : Option Nat} {o : Oper} {ops : Array Oper} {rest : List Oper} {Q : Exit → Act → World → Prop} {a : Act} {w : World} (hw : ¬ Region.wanted o (yielded ops a.tmps) = true)
    (h : wpListIn (fc rd) 0 P ops Q rest (a.put o.dst undef) w) : wpListIn (fc rd) 0 P ops Q (o :: rest) a w := by
  unfold wpListIn
  rw [if_neg hw]
  exact ⟨fun _ _ => trivial, h⟩
/-- Quiet operations are no 'defer'. -/
theorem quiet_nodefer {o : Oper} {a : Act} {C : World → Prop} {w : World} {v : Value} (h : o.quietAt P a C w v) : ∀ c, o.op ≠ .defer c := by
  intro c e
  unfold Oper.quietAt execOp at h
  rw [e] at h
  simp only [Sem.run_bind] at h
  generalize (resolve a.eval c o.type).run P w = r at h
  cases r with
  | ok d w' => simp [Result.andThen, Oper.quietUpon] at h
  | halt x w' => simp [Result.andThen, Oper.quietUpon] at h
theorem wpAnyIn_of_quiet {rd : Option Nat} {ops : Array Oper} {md : Region.Mode} {C : World → Prop} {Q : Act → Prop} {Q' : Exit → Act → World → Prop} (hQ : ∀ a w, C w → Q a → Q' .normal a w) : ∀ (fuel : Nat) (listed : Array Bool) (a : Act) (w : World), C w →
    wpAnyQ P md ops C Q fuel listed a → wpAnyIn (fc rd) 0 P md ops Q' fuel listed a w
  | 0, _, _, _, hw, h => ⟨h.1, hQ _ _ hw h.2⟩
  | fuel + 1, listed, a, w, hw, h => ⟨fun h0 => hQ _ _ hw (h.1 h0), fun i hi => by
    have h2 := h.2 i hi
    unfold qOp at h2
    unfold wpOpIn
    split
    · rename_i ho; simp only [ho] at h2; exact wpAnyIn_of_quiet hQ fuel _ a w hw h2
    · rename_i o ho
      simp only [ho] at h2
      split
      · rename_i hwa
        simp only [hwa, if_true] at h2
        have hd : ∀ c, o.op ≠ .defer c := by
          obtain ⟨v, h1, _⟩ := h2
          exact quiet_nodefer (h1 w hw)
        exact wp_in (Oper.wp_of_quiet hw (fun a' w' hw' hk => wpAnyIn_of_quiet hQ fuel _ a' w' hw' hk) h2) hd
      · rename_i hwa
        simp only [hwa] at h2
        exact ⟨fun _ _ => trivial, wpAnyIn_of_quiet hQ fuel _ _ w hw h2⟩⟩
theorem wpIn_region_quiet {rd : Option Nat} {ops : Array Oper} {C : World → Prop} {id : Nat} {Q : Exit → Act → World → Prop} {a : Act} {w : World} (hm : P.follows .mixedOrders = true) (hB : Region.lexB .any ops = true) (hC : C { w with drawn := w.drawn + 1 })
    (h : wpQuiet P ops C (fun a' => ∀ w', C w' → Q .normal a' w') ops.toList a) : (Code.region id ops true).wpIn (fc rd) 0 P Q a w := by
  simp only [Region.lexB, Bool.and_eq_true] at hB
  refine wpIn_region_any hm (wpAnyIn_of_quiet (Q := fun a' => ∀ w', C w' → Q .normal a' w') (fun _ w' hw' h => h w' hw') _ _ _ _ hC ?_)
  have := wpAnyQ_lex (C := C) (md := .any) hB.1 ops.toList 0 (Array.replicate ops.size false) a (by simp) (by simpa using hB.2) h
  simpa using this
/-- A loop ahead of a round, from every act and world in which this holds. -/
def TW (K : Cx) (s : St P) (c : Code) (Q : Exit → Act → World → Prop) : Prop :=
  ∀ m β γ κ a w, AH K m β γ s.sl a → WH K m β γ κ s.B w → LW K.rd P c Q a w
section control
variable {K : Cx} {s s' : St P} {sl sl' : List (Nat × AV P)} {B : Bs P} {ops : Array Oper} {Q : Exit → Act → World → Prop} {rest : List Oper} {x y : AV P} {d : Nat} {op : Op} {ty : TypeId} {pos : String} {aft : Array Edge}
theorem T_seq {c e : Code} (h : T K s c (Exit.then (e.wpIn (fc K.rd) 0 P Q) Q)) : T K s (.seq c e) Q :=
  fun m β γ κ a w ha hw => wpIn_seq (h m β γ κ a w ha hw)
theorem T_region {id : Nat} {l : List Oper} (h : TL K s l.toArray Q l) : T K s (.region id l.toArray false) Q :=
  fun m β γ κ a w ha hw => wpIn_region_lit (h m β γ κ a w ha hw)
theorem T_block {id : Nat} {c : Code} (h : T K s c (Exit.inBlock id Q)) : T K s (.block id c) Q :=
  fun m β γ κ a w ha hw => wpIn_block (h m β γ κ a w ha hw)
theorem T_skip (h : Z K s .normal Q) : T K s .skip Q := fun m β γ κ a w ha hw => wpIn_skip (h m β γ κ a w ha hw)
theorem T_exit {id : Nat} (h : Z K s (.exit id) Q) : T K s (.exit id) Q := fun m β γ κ a w ha hw => wpIn_exit (h m β γ κ a w ha hw)
theorem T_ret (h : Z K s .ret Q) : T K s .ret Q := fun m β γ κ a w ha hw => wpIn_ret (h m β γ κ a w ha hw)
theorem TL_nil (h : Z K s .normal Q) : TL K s ops Q [] := h
theorem T_loop {c : Code} (h : TW K s c Q) : T K s (.loop c) Q := fun m β γ κ a w ha hw => (h m β γ κ a w ha hw).loop
theorem TW_round {c : Code} (h : T K s c (Exit.then (LW K.rd P c Q) Q)) : TW K s c Q := fun m β γ κ a w ha hw => .of_wp (h m β γ κ a w ha hw)
/-- A region that draws its order. -/
theorem T_draw {id : Nat} {l : List Oper} (hm : P.follows .mixedOrders = true) (hB : Region.lexB .any l.toArray = true)
    (h : TQ K s.B l.toArray Q l s.sl) : T K s (.region id l.toArray true) Q :=
  fun m β γ κ a w ha hw => wpIn_region_quiet (C := WH K m β γ κ s.B) hm hB hw.drew (by simpa using h m β γ κ a ha ⟨w, hw⟩)
theorem TQ_nil (h : Z K ⟨sl, B⟩ .normal Q) : TQ K B ops Q [] sl := fun m β γ κ a ha _ => fun w' hw' => h m β γ κ a w' ha hw'
/-! Which slots and boxes are kept. -/
inductive Keep {α : Type u} : List Nat → List (Nat × α) → List (Nat × α) → Prop where
  | nil {sl : List (Nat × α)} : Keep [] sl []
  | cons {k : Nat} {ks : List Nat} {sl : List (Nat × α)} {x : α} {r : List (Nat × α)} (h : lk sl k = some x) (t : Keep ks sl r) : Keep (k :: ks) sl ((k, x) :: r)
theorem Keep.le {α : Type u} {ks : List Nat} {sl sl' : List (Nat × α)} (h : Keep ks sl sl') : ∀ t x, lk sl' t = some x → lk sl t = some x := by
  induction h with
  | nil => intro t x h; simp [lk] at h
  | @cons k ks sl x r hk _ ih =>
    intro t y hy
    by_cases e : k = t
    · subst e; rw [lk_cons_eq rfl] at hy; cases hy; exact hk
    · rw [lk_cons_ne e] at hy; exact ih t y hy
/-- The one state says no more than the other. -/
structure Le (s' s : St P) : Prop where
  sl : ∀ t x, lk s'.sl t = some x → lk s.sl t = some x
  bx : ∀ t x, lk s'.B.bx t = some x → lk s.B.bx t = some x
  gr : ∀ t x, lk s'.B.gr t = some x → lk s.B.gr t = some x
  ti : ∀ e ∈ s'.B.ti, e ∈ s.B.ti
theorem Le.refl (s : St P) : Le s s := ⟨fun _ _ h => h, fun _ _ h => h, fun _ _ h => h, fun _ h => h⟩
theorem Le.fresh {v : AV P} (h : Le s' s) (hf : lk s'.sl d = none) : Le s' (s.put d v) := by
  refine ⟨fun t x hx => ?_, h.bx, h.gr, h.ti⟩
  by_cases e : d = t
  · subst e; rw [hf] at hx; cases hx
  · show lk ((d, v) :: s.sl) t = _
    rw [lk_cons_ne e]; exact h.sl t x hx
theorem Le.put {v : AV P} (h : Le s' s) : Le (s'.put d v) (s.put d v) := by
  refine ⟨fun t x hx => ?_, h.bx, h.gr, h.ti⟩
  change lk ((d, v) :: s'.sl) t = _ at hx
  show lk ((d, v) :: s.sl) t = _
  by_cases e : d = t
  · subst e; rw [lk_cons_eq rfl] at hx ⊢; exact hx
  · rw [lk_cons_ne e] at hx ⊢; exact h.sl t x hx
theorem WH.le' {K : Cx} {m : Snap} {β : Nat → Nat} {γ : Nat → Value} {κ : Nat → List Value} {w : World} (h : WH K m β γ κ s.B w) (hl : Le s' s) : WH K m β γ κ s'.B w :=
  ⟨h.sees, h.le, h.new, fun x bv hx => h.box x bv (hl.bx _ _ hx), fun x y _ _ hx hy hne => h.inj x y _ _ (hl.bx _ _ hx) (hl.bx _ _ hy) hne, fun x gv hx => h.grow x gv (hl.gr _ _ hx),
    fun x y _ _ hx hy => h.gbox x y _ _ (hl.gr _ _ hx) (hl.bx _ _ hy), fun x y _ _ b hx hy hne hb => h.ginj x y _ _ b (hl.gr _ _ hx) (hl.gr _ _ hy) hne hb, fun e he => h.tie e (hl.ti e he), h.go rfl rfl rfl (Nat.le_refl _) (fun _ _ _ => rfl) (Snap.le_refl _) (fun _ _ _ h => .inl h) h.sees (fun b hb => .inl (hb.imp (fun ⟨x, bv, h1, h2⟩ => ⟨x, bv, hl.bx _ _ h1, h2⟩) (fun ⟨x, gv, h1, h2⟩ => ⟨x, gv, hl.gr _ _ h1, h2⟩)))⟩
theorem T_le {c : Code} (hl : Le s' s) (h : T K s' c Q) : T K s c Q := fun m β γ κ a w ha hw => h m β γ κ a w (ha.mono_sl hl.sl) (hw.le' hl)
theorem TW_le {c : Code} (hl : Le s' s) (h : TW K s' c Q) : TW K s c Q := fun m β γ κ a w ha hw => h m β γ κ a w (ha.mono_sl hl.sl) (hw.le' hl)
theorem TL_le (hl : Le s' s) (h : TL K s' ops Q rest) : TL K s ops Q rest := fun m β γ κ a w ha hw => h m β γ κ a w (ha.mono_sl hl.sl) (hw.le' hl)
theorem Z_le {e : Exit} (hl : Le s' s) (h : Z K s' e Q) : Z K s e Q := fun m β γ κ a w ha hw => h m β γ κ a w (ha.mono_sl hl.sl) (hw.le' hl)
theorem TQ_le (hs : ∀ t x, lk sl' t = some x → lk sl t = some x) (h : TQ K B ops Q rest sl') : TQ K B ops Q rest sl := fun m β γ κ a ha hw => h m β γ κ a (ha.mono_sl hs) hw
/-! One operation. -/
theorem TL_y (h : Y K s ⟨some d, op, ty, pos, aft, none⟩ x) (k : TL K (s.put d x) ops Q rest) (hd : Nat.ble (d + 1) K.n = true := by rfl) :
    TL K s ops Q (⟨some d, op, ty, pos, aft, none⟩ :: rest) := by
  intro m β γ κ a w ha hw
  have hd' : d < K.n := Nat.le_of_ble_eq_true hd
  obtain ⟨v, hv, hq⟩ := h m β γ κ a ha ⟨w, hw⟩
  refine wpL_of (show Region.wanted _ _ = true from rfl) (quiet_nodefer (hq w hw)) ?_
  refine Oper.wp_of_quiet (C := WH K m β γ κ s.B) (K := fun a' => a' = a.put (some d) v) hw ?_ ⟨v, hq, rfl⟩
  rintro a' w' hw' rfl
  exact k m β γ κ _ w' (ha.put hd' hv) hw'
theorem TQ_y (h : Y K ⟨sl, B⟩ ⟨some d, op, ty, pos, aft, none⟩ x) (k : TQ K B ops Q rest ((d, x) :: sl)) (hd : Nat.ble (d + 1) K.n = true := by rfl) :
    TQ K B ops Q (⟨some d, op, ty, pos, aft, none⟩ :: rest) sl := by
  intro m β γ κ a ha hw
  have hd' : d < K.n := Nat.le_of_ble_eq_true hd
  obtain ⟨v, hv, hq⟩ := h m β γ κ a ha hw
  unfold wpQuiet
  rw [if_pos (show Region.wanted _ _ = true from rfl)]
  exact ⟨v, hq, k m β γ κ _ (ha.put hd' hv) hw⟩
end control
end Go.Ph
namespace Go.Ph
universe u
open Go.RowKit (Below)
variable {P : Program}
/-! ## Values of data -/
def mkV (agg : Bool) (cs : List Value) : Value := if agg then .agg cs.toArray else cs.headD undef
theorem cells_one {c : Value} (h : c.oneCell' = true) : c.cells = #[c] := by cases c <;> first | rfl | simp [Value.oneCell'] at h
theorem isAgg_one {c : Value} (h : c.oneCell' = true) : isAggV c = false := by cases c <;> first | rfl | simp [Value.oneCell'] at h
section
variable {α : Type} [Rp P α] {m : Snap} {cs : List Value} {x : α}
theorem rel_single (ha : Rp.agg P α = false) (h : Rp.rel P m cs x) : ∃ c, cs = [c] ∧ c.oneCell' = true := by
  have hl := Rp.len h
  rw [Rp.one (P := P) ha] at hl
  match cs, hl with
  | [c], _ => exact ⟨c, rfl, Rp.ok h c (by simp)⟩
theorem cells_mkV (h : Rp.rel P m cs x) : (mkV (Rp.agg P α) cs).cells.toList = cs := by
  cases ha : Rp.agg P α with
  | true => rfl
  | false =>
    obtain ⟨c, rfl, hc⟩ := rel_single ha h
    show c.cells.toList = [c]
    rw [cells_one hc]
theorem vrel_mkV (h : Rp.rel P m cs x) : vrel (P := P) m (mkV (Rp.agg P α) cs) x := by
  refine ⟨by rw [cells_mkV h]; exact h, ?_⟩
  cases ha : Rp.agg P α with
  | true => rfl
  | false =>
    obtain ⟨c, rfl, hc⟩ := rel_single ha h
    exact isAgg_one hc
theorem vrel.eq_mkV {v : Value} (h : vrel (P := P) m v x) : v = mkV (Rp.agg P α) v.cells.toList := by
  obtain ⟨h1, h2⟩ := h
  cases ha : Rp.agg P α with
  | true => rw [ha] at h2; cases v <;> first | rfl | simp [isAggV] at h2
  | false =>
    obtain ⟨c, hc, hc1⟩ := rel_single ha h1
    rw [ha] at h2
    have hv : v.cells = #[v] := by cases v <;> first | rfl | simp [isAggV] at h2
    rw [hv]; rfl
end
/-- What the program's table says of a type, held against a Lean type. -/
structure Ty (P : Program) (t : TypeId) (α : Type) [Rp P α] : Prop where
  agg : ∀ w, (isAgg t).run P w = .ok (Rp.agg P α) w
  size : ∀ w, (sizeOf t).run P w = .ok (Rp.sz P α) w
/-- A part of a datum. -/
structure Sub (P : Program) {α δ : Type} [Rp P α] [Rp P δ] (off : Nat) (get : α → δ) : Prop where
  sub : ∀ {m cs x}, Rp.rel P m cs x → Rp.rel P m ((cs.drop off).take (Rp.sz P δ)) (get x)
/-- A part of a datum put anew. -/
structure Put (P : Program) {α δ : Type} [Rp P α] [Rp P δ] (off : Nat) (set : α → δ → α) : Prop where
  put : ∀ {m cs x ds y}, Rp.rel P m cs x → Rp.rel P m ds y → Rp.rel P m (cs.take off ++ ds ++ cs.drop (off + ds.length)) (set x y)
theorem Sub.self {α : Type} [Rp P α] : Sub P 0 (fun x : α => x) :=
  ⟨fun {m cs x} h => by rw [List.drop_zero, ← Rp.len h, List.take_length]; exact h⟩
theorem Put.self {α : Type} [Rp P α] : Put P 0 (fun (_ y : α) => y) :=
  ⟨fun {m cs x ds y} h k => by
    have h1 := Rp.len h; have h2 := Rp.len k
    rw [List.take_zero, List.nil_append, List.drop_eq_nil_of_le (by omega), List.append_nil]; exact k⟩
theorem Sub.len {α δ : Type} [Rp P α] [Rp P δ] {off : Nat} {get : α → δ} (h : Sub P off get) {m : Snap} {cs : List Value} {x : α} (hr : Rp.rel P m cs x) (hp : 0 < Rp.sz P δ) :
    off + Rp.sz P δ ≤ cs.length := by
  have := Rp.len (h.sub hr)
  simp only [List.length_take, List.length_drop] at this
  omega
theorem Sub.comp {α δ ε : Type} [Rp P α] [Rp P δ] [Rp P ε] {o1 o2 : Nat} {g1 : α → δ} {g2 : δ → ε} (h1 : Sub P o1 g1) (h2 : Sub P o2 g2) (hp : Nat.ble 1 (Rp.sz P ε) = true := by rfl) : Sub P (o1 + o2) (fun x => g2 (g1 x)) := by
  refine ⟨fun {m cs x} h => ?_⟩
  have a := h1.sub h
  have l := h2.len a (Nat.le_of_ble_eq_true hp)
  have := h2.sub a
  rw [List.drop_take, List.take_take, List.drop_drop] at this
  rw [show min (Rp.sz P ε) (Rp.sz P δ - o2) = Rp.sz P ε from by simp only [List.length_take] at l; omega] at this
  exact this
/-! ## Operands -/
def Ev (K : Cx) (s : St P) (o : Operand) (x : AV P) : Prop := ∀ m β γ a, AH K m β γ s.sl a → x.holds β γ m (a.eval o)
section ops
variable {K : Cx} {s : St P} {ops : Array Oper} {Q : Exit → Act → World → Prop} {rest : List Oper} {d : Nat} {t t' ty : TypeId} {pos : String} {aft : Array Edge} {g : Option (Nat × Bool)} {dst : Option Tmp} {o o' o'' : Operand}
theorem e_t {i : Nat} {x : AV P} (h : lk s.sl i = some x) : Ev K s (.tmp i) x := by
  intro m β γ a ha
  obtain ⟨v, hv, hx⟩ := ha.slot i x h
  show x.holds β γ m (a.tmps.getD i undef)
  have : a.tmps.getD i undef = v := by simp [Array.getD_eq_getD_getElem?, hv]
  rw [this]; exact hx
theorem e_i (n : Int) (h : -9223372036854775808 ≤ n ∧ n ≤ 9223372036854775807 := by decide) : Ev K s (.const (.int .i64 n)) (.d (P := P) n) :=
  fun _ _ _ _ _ => ⟨⟨rfl, h⟩, rfl⟩
theorem e_b (b : Bool) : Ev K s (.const (.bool b)) (.d (P := P) b) := fun _ _ _ _ _ => ⟨rfl, rfl⟩
theorem e_u8 (n : Nat) (h : n < 256 := by decide) : Ev K s (.const (.int .u8 n)) (.d (P := P) (UInt8.ofNat n)) := by
  intro _ _ _ _ _
  refine ⟨?_, rfl⟩
  show [Value.int .u8 n] = [Value.int .u8 ((UInt8.ofNat n).toNat : Nat)]
  have : (UInt8.ofNat n).toNat = n := by simp; omega
  rw [this]
theorem e_x (v : Value) : Ev K s (.const v) (.x (P := P) v) := fun _ _ _ _ _ => rfl
theorem e_nil {α : Type} [Rp P α] : Ev K s (.const (.slice none 0 0)) (.d (P := P) ([] : List α)) := by
  intro _ _ _ _ _
  exact ⟨⟨_, rfl, ⟨none, 0, rfl, Nat.le_refl _, fun h => (h rfl).elim⟩, by simp⟩, rfl⟩
theorem Y.of_run {x : AV P} {op : Oper} (h : ∀ m β γ κ a, AH K m β γ s.sl a → (∃ w, WH K m β γ κ s.B w) → ∃ v, x.holds β γ m v ∧ ∀ w, WH K m β γ κ s.B w → (execOp a.eval op).run P w = .ok (.value v) w) : Y K s op x := by
  intro m β γ κ a ha hw
  obtain ⟨v, hv, hr⟩ := h m β γ κ a ha hw
  refine ⟨v, hv, fun w hw => ?_⟩
  unfold Oper.quietAt
  rw [hr w hw]
  exact ⟨rfl, rfl⟩
theorem y_move {x : AV P} (h : Ev K s o x) : Y K s ⟨dst, .move o, ty, pos, aft, g⟩ x :=
  Y.of_run fun m β γ _ a ha _ => ⟨a.eval o, h m β γ a ha, fun _ _ => rfl⟩
theorem y_assign {x : AV P} (h : Ev K s o x) : Y K s ⟨dst, .assign o, ty, pos, aft, g⟩ x :=
  Y.of_run fun m β γ _ a ha _ => ⟨a.eval o, h m β γ a ha, fun _ _ => rfl⟩
theorem int_of {m : Snap} {v : Value} {x : Int} (h : vrel (P := P) m v x) : v = .int .i64 x ∧ -9223372036854775808 ≤ x ∧ x ≤ 9223372036854775807 := by
  have this := vrel.eq_mkV h
  obtain ⟨⟨h1, h3⟩, _⟩ := h
  rw [h1] at this
  exact ⟨this, h3⟩
theorem bool_of {m : Snap} {v : Value} {x : Bool} (h : vrel (P := P) m v x) : v = .bool x := by
  have := vrel.eq_mkV h
  obtain ⟨h1, _⟩ := h
  rw [h1] at this; exact this
theorem u8_of {m : Snap} {v : Value} {x : UInt8} (h : vrel (P := P) m v x) : v = .int .u8 x.toNat := by
  have := vrel.eq_mkV h
  obtain ⟨h1, _⟩ := h
  rw [h1] at this; exact this
theorem list_of {α : Type} [Rp P α] {m : Snap} {v : Value} {x : List α} (h : vrel (P := P) m v x) : SliceR (P := P) m v x := by
  have := vrel.eq_mkV h
  obtain ⟨⟨u, h1, h3⟩, h2⟩ := h
  rw [h1] at this
  have e : v = u := this
  rw [e]; exact h3
theorem vbool (m : Snap) (b : Bool) : vrel (P := P) m (.bool b) b := ⟨rfl, rfl⟩
theorem vint (m : Snap) {n : Int} (h : -9223372036854775808 ≤ n ∧ n ≤ 9223372036854775807) : vrel (P := P) m (.int .i64 n) n := ⟨⟨rfl, h⟩, rfl⟩
theorem vlist {α : Type} [Rp P α] {m : Snap} {v : Value} {x : List α} (h : SliceR (P := P) m v x) : vrel (P := P) m v x := by
  obtain ⟨⟨a, cap, rfl, h1, h2⟩, hb⟩ := h
  exact ⟨⟨_, rfl, ⟨a, cap, rfl, h1, h2⟩, hb⟩, rfl⟩
def w64 (n : Int) : Int := IntKind.i64.wrap n
theorem w64_range (n : Int) : -9223372036854775808 ≤ w64 n ∧ w64 n ≤ 9223372036854775807 := by
  have e : w64 n = if n % 18446744073709551616 ≥ 9223372036854775808 then n % 18446744073709551616 - 18446744073709551616 else n % 18446744073709551616 := by
    simp [w64, IntKind.wrap, IntKind.bits, IntKind.signed]
  rw [e]; split <;> omega
theorem w64_eq {n : Int} (h : -9223372036854775808 ≤ n ∧ n ≤ 9223372036854775807) : w64 n = n := by
  have e : w64 n = if n % 18446744073709551616 ≥ 9223372036854775808 then n % 18446744073709551616 - 18446744073709551616 else n % 18446744073709551616 := by
    simp [w64, IntKind.wrap, IntKind.bits, IntKind.signed]
  rw [e]; split <;> omega
theorem y_int2 {op : BinOp} {x y : Int} {z : AV P} (hx : Ev K s o (.d x)) (hy : Ev K s o' (.d y))
    (h : ∀ m β γ w, ∃ v, z.holds β γ m v ∧ (do eqGuard op t o o' (.int .i64 x) (.int .i64 y); binOp op t (.int .i64 x) (.int .i64 y) : Sem Value).run P w = .ok v w ∧ ∀ w', (do eqGuard op t o o' (.int .i64 x) (.int .i64 y); binOp op t (.int .i64 x) (.int .i64 y) : Sem Value).run P w' = .ok v w') :
    Y K s ⟨dst, .binOp op t o o' t', ty, pos, aft, g⟩ z := by
  refine Y.of_run fun m β γ κ a ha hw => ?_
  obtain ⟨w0, _⟩ := hw
  obtain ⟨v, hv, _, hr⟩ := h m β γ w0
  refine ⟨v, hv, fun w _ => ?_⟩
  have e1 := (int_of (P := P) (hx m β γ a ha)).1
  have e2 := (int_of (P := P) (hy m β γ a ha)).1
  simp only [execOp, e1, e2]
  have := hr w
  simp only [Sem.run_bind] at this ⊢
  rw [this]
  rfl
theorem y_lss {x y : Int} (hx : Ev K s o (.d x)) (hy : Ev K s o' (.d y)) : Y K s ⟨dst, .binOp .lss t o o' t', ty, pos, aft, g⟩ (.d (P := P) (decide (x < y))) :=
  y_int2 hx hy fun m β γ w => ⟨.bool (decide (x < y)), vbool m _, by simp [eqGuard_lss, binOp_lss], fun w' => by simp [eqGuard_lss, binOp_lss]⟩
theorem y_leq {x y : Int} (hx : Ev K s o (.d x)) (hy : Ev K s o' (.d y)) : Y K s ⟨dst, .binOp .leq t o o' t', ty, pos, aft, g⟩ (.d (P := P) (decide (x ≤ y))) :=
  y_int2 hx hy fun m β γ w => ⟨.bool (decide (x ≤ y)), vbool m _, by simp [eqGuard_leq, binOp_leq], fun w' => by simp [eqGuard_leq, binOp_leq]⟩
theorem y_gtr {x y : Int} (hx : Ev K s o (.d x)) (hy : Ev K s o' (.d y)) : Y K s ⟨dst, .binOp .gtr t o o' t', ty, pos, aft, g⟩ (.d (P := P) (decide (y < x))) :=
  y_int2 hx hy fun m β γ w => ⟨.bool (decide (y < x)), vbool m _, by simp [eqGuard_gtr, binOp_gtr], fun w' => by simp [eqGuard_gtr, binOp_gtr]⟩
theorem y_geq {x y : Int} (hx : Ev K s o (.d x)) (hy : Ev K s o' (.d y)) : Y K s ⟨dst, .binOp .geq t o o' t', ty, pos, aft, g⟩ (.d (P := P) (decide (y ≤ x))) :=
  y_int2 hx hy fun m β γ w => ⟨.bool (decide (y ≤ x)), vbool m _, by simp [eqGuard_geq, binOp_geq], fun w' => by simp [eqGuard_geq, binOp_geq]⟩
theorem y_eql {x y : Int} (hx : Ev K s o (.d x)) (hy : Ev K s o' (.d y)) : Y K s ⟨dst, .binOp .eql t o o' t', ty, pos, aft, g⟩ (.d (P := P) (decide (x = y))) :=
  y_int2 hx hy fun m β γ w => ⟨.bool (decide (x = y)), vbool m _, by simp [eqGuard_at_int, binOp_eql]; rfl, fun w' => by simp [eqGuard_at_int, binOp_eql]; rfl⟩
theorem y_neq {x y : Int} (hx : Ev K s o (.d x)) (hy : Ev K s o' (.d y)) : Y K s ⟨dst, .binOp .neq t o o' t', ty, pos, aft, g⟩ (.d (P := P) (!decide (x = y))) :=
  y_int2 hx hy fun m β γ w => ⟨.bool (!decide (x = y)), vbool m _, by simp [eqGuard_at_int, binOp_neq]; rfl, fun w' => by simp [eqGuard_at_int, binOp_neq]; rfl⟩
theorem y_add {x y : Int} (hx : Ev K s o (.d x)) (hy : Ev K s o' (.d y)) : Y K s ⟨dst, .binOp .add t o o' t', ty, pos, aft, g⟩ (.d (P := P) (w64 (x + y))) :=
  y_int2 hx hy fun m β γ w => ⟨.int .i64 (w64 (x + y)), vint m (w64_range _), by simp [eqGuard_add, binOp_add, Op.intArith, w64], fun w' => by simp [eqGuard_add, binOp_add, Op.intArith, w64]⟩
theorem y_sub {x y : Int} (hx : Ev K s o (.d x)) (hy : Ev K s o' (.d y)) : Y K s ⟨dst, .binOp .sub t o o' t', ty, pos, aft, g⟩ (.d (P := P) (w64 (x - y))) :=
  y_int2 hx hy fun m β γ w => ⟨.int .i64 (w64 (x - y)), vint m (w64_range _), by simp [eqGuard_sub, binOp_sub, Op.intArith, w64], fun w' => by simp [eqGuard_sub, binOp_sub, Op.intArith, w64]⟩
theorem y_mul {x y : Int} (hx : Ev K s o (.d x)) (hy : Ev K s o' (.d y)) : Y K s ⟨dst, .binOp .mul t o o' t', ty, pos, aft, g⟩ (.d (P := P) (w64 (x * y))) :=
  y_int2 hx hy fun m β γ w => ⟨.int .i64 (w64 (x * y)), vint m (w64_range _), by simp [eqGuard_mul, binOp_mul, Op.intArith, w64], fun w' => by simp [eqGuard_mul, binOp_mul, Op.intArith, w64]⟩
end ops
end Go.Ph
namespace Go.Ph
universe u
open Go.RowKit (Below)
variable {P : Program}
section ops
variable {K : Cx} {s : St P} {ops : Array Oper} {Q : Exit → Act → World → Prop} {rest : List Oper} {d : Nat} {t t' ty : TypeId} {pos : String} {aft : Array Edge} {g : Option (Nat × Bool)} {dst : Option Tmp} {o o' o'' : Operand}
theorem y_not {x : Bool} (hx : Ev K s o (.d x)) : Y K s ⟨dst, .unOp .not t o, ty, pos, aft, g⟩ (.d (P := P) (!x)) := by
  refine Y.of_run fun m β γ κ a ha _ => ⟨.bool (!x), vbool m _, fun w _ => ?_⟩
  have e := bool_of (P := P) (hx m β γ a ha)
  simp only [execOp, e]
  rfl
/-- a pick whose way is known -/
theorem y_pick_t {x : AV P} {b : Bool} (hb : Ev K s o (.d b)) (h : b = true) (hx : Ev K s o' x) : Y K s ⟨dst, .pick o o' o'', ty, pos, aft, g⟩ x := by
  refine Y.of_run fun m β γ κ a ha _ => ⟨a.eval o', hx m β γ a ha, fun w _ => ?_⟩
  have e := bool_of (P := P) (hb m β γ a ha)
  rw [h] at e
  simp only [execOp, e]
  rfl
theorem y_pick_f {x : AV P} {b : Bool} (hb : Ev K s o (.d b)) (h : b = false) (hx : Ev K s o'' x) : Y K s ⟨dst, .pick o o' o'', ty, pos, aft, g⟩ x := by
  refine Y.of_run fun m β γ κ a ha _ => ⟨a.eval o'', hx m β γ a ha, fun w _ => ?_⟩
  have e := bool_of (P := P) (hb m β γ a ha)
  rw [h] at e
  simp only [execOp, e]
  rfl
theorem y_len {α : Type} [Rp P α] {xs : List α} (hx : Ev K s o (.d xs)) (ht : P.underlying t = some (.slice (P.elem t))) :
    Y K s ⟨dst, .call ⟨.builtin .len, #[o], #[t]⟩, ty, pos, aft, g⟩ (.d (P := P) (xs.length : Int)) := by
  refine Y.of_run fun m β γ κ a ha _ => ?_
  obtain ⟨⟨ad, cap, e, _, _⟩, hb⟩ := list_of (P := P) (hx m β γ a ha)
  refine ⟨.int .i64 xs.length, vint m (by omega), fun w _ => ?_⟩
  simp only [execOp, resolve]
  have := run_len_slice (P := P) w t ty ad xs.length cap ht
  simp [e, invoke, builtin, this, goInt]
theorem y_extract2_0 {x y : AV P} (h : Ev K s o (.t2 x y)) : Y K s ⟨dst, .extract o 0, ty, pos, aft, g⟩ x := by
  intro m β γ κ a ha _
  obtain ⟨va, vb, e, h1, h2⟩ := h m β γ a ha
  refine ⟨va, h1, fun w _ => ?_⟩
  simp only [Oper.quietAt, execOp, e, Instr.extract]
  exact ⟨rfl, rfl⟩
theorem y_extract2_1 {x y : AV P} (h : Ev K s o (.t2 x y)) : Y K s ⟨dst, .extract o 1, ty, pos, aft, g⟩ y := by
  intro m β γ κ a ha _
  obtain ⟨va, vb, e, h1, h2⟩ := h m β γ a ha
  refine ⟨vb, h2, fun w _ => ?_⟩
  simp only [Oper.quietAt, execOp, e, Instr.extract]
  exact ⟨rfl, rfl⟩
theorem y_extract3_0 {x y z : AV P} (h : Ev K s o (.t3 x y z)) : Y K s ⟨dst, .extract o 0, ty, pos, aft, g⟩ x := by
  intro m β γ κ a ha _
  obtain ⟨va, vb, vc, e, h1, h2, h3⟩ := h m β γ a ha
  refine ⟨va, h1, fun w _ => ?_⟩
  simp only [Oper.quietAt, execOp, e, Instr.extract]
  exact ⟨rfl, rfl⟩
theorem y_extract3_1 {x y z : AV P} (h : Ev K s o (.t3 x y z)) : Y K s ⟨dst, .extract o 1, ty, pos, aft, g⟩ y := by
  intro m β γ κ a ha _
  obtain ⟨va, vb, vc, e, h1, h2, h3⟩ := h m β γ a ha
  refine ⟨vb, h2, fun w _ => ?_⟩
  simp only [Oper.quietAt, execOp, e, Instr.extract]
  exact ⟨rfl, rfl⟩
theorem y_extract3_2 {x y z : AV P} (h : Ev K s o (.t3 x y z)) : Y K s ⟨dst, .extract o 2, ty, pos, aft, g⟩ z := by
  intro m β γ κ a ha _
  obtain ⟨va, vb, vc, e, h1, h2, h3⟩ := h m β γ a ha
  refine ⟨vc, h3, fun w _ => ?_⟩
  simp only [Oper.quietAt, execOp, e, Instr.extract]
  exact ⟨rfl, rfl⟩
/-! ### Loads -/
theorem addr_add (b off j : Nat) : (⟨b, off, none⟩ : Addr).add j = ⟨b, off + j, none⟩ := by unfold Addr.add; split <;> simp_all
theorem run_loadAt {α : Type} [Rp P α] {m : Snap} {cs : List Value} {x : α} {w : World} {b off : Nat} (ht : Ty P t α) (hr : Rp.rel P m cs x)
    (hc : ∀ j c, cs[j]? = some c → w.cell? ⟨b, off + j, none⟩ = some c) : (Instr.loadAt t (.pointer (some ⟨b, off, none⟩))).run P w = .ok (mkV (Rp.agg P α) cs) w := by
  have hl : (loadCells ⟨b, off, none⟩ (Rp.sz P α)).run P w = .ok cs.toArray w := by
    rw [← Rp.len hr]
    exact run_loadCells_list w _ cs fun j c hj => by rw [addr_add]; exact hc j c hj
  simp only [Instr.loadAt, Instr.sureAddr, loadVar, Sem.run_bind, Sem.run_pure, Result.andThen_ok, ht.agg]
  cases ha : Rp.agg P α with
  | true => simp [ht.size, hl, mkV]
  | false =>
    obtain ⟨c, rfl, _⟩ := rel_single ha hr
    have := hc 0 c (by simp)
    simp [mkV, run_load, Nat.add_zero] at this ⊢
    simp [this]
theorem y_load {α δ : Type} [Rp P α] [Rp P δ] {bx off : Nat} {x : α} {get : α → δ} (hp : Ev K s o (.p bx off)) (hb : lk s.B.bx bx = some ⟨x⟩) (hs : Sub P off get) (ht : Ty P t δ) :
    Y K s ⟨dst, .load t o, ty, pos, aft, g⟩ (.d (P := P) (get x)) := by
  refine Y.of_run fun m β γ κ a ha ⟨w0, hw0⟩ => ?_
  have hr := hs.sub (hw0.box bx _ hb).2.1
  refine ⟨_, vrel_mkV hr, fun w hw => ?_⟩
  have e : a.eval o = .pointer (some ⟨β bx, off, none⟩) := hp m β γ a ha
  obtain ⟨⟨T, hT⟩, hrel, _, _⟩ := hw.box bx _ hb
  simp only [execOp, e]
  have := run_loadAt (P := P) (w := w) (b := β bx) (off := off) ht hr fun j c hj => by
    simp only [World.cell?, hT]
    simp only [List.getElem?_take, List.getElem?_drop] at hj
    split at hj
    · simpa using hj
    · cases hj
  simp [this]
theorem y_load_ptr {δ : Type} [Rp P δ] {x : δ} (hp : Ev K s o (.d (⟨x⟩ : Ptr δ))) (ht : Ty P t δ) : Y K s ⟨dst, .load t o, ty, pos, aft, g⟩ (.d (P := P) x) := by
  refine Y.of_run fun m β γ κ a ha ⟨w0, hw0⟩ => ?_
  have hv := hp m β γ a ha
  have e := vrel.eq_mkV hv
  obtain ⟨⟨b, off, ds, hds, hr, hm⟩, h2⟩ := hv
  rw [hds] at e
  have e' : a.eval o = .pointer (some ⟨b, off, none⟩) := e
  refine ⟨_, vrel_mkV hr, fun w hw => ?_⟩
  simp only [execOp, e']
  have := run_loadAt (P := P) (w := w) (b := b) (off := off) ht hr fun j c hj => hw.sees _ _ _ (hm j c hj)
  simp [this]
/-! ### Addresses -/
/-- Where a field lies: its offset in cells. -/
structure FOff (P : Program) (t : TypeId) (i off : Nat) : Prop where
  run : ∀ b o w, (Instr.fieldAt t (.pointer (some ⟨b, o, none⟩)) i).run P w = .ok (.pointer (some ⟨b, o + off, none⟩)) w
theorem FOff.of {t i off : Nat} {fields : Array Field} {f : Field} (h : P.underlying t = some (.struct fields)) (hf : fields[i]? = some f) (ho : f.offset = off)
    (hs : ∀ w, ∃ n, (sizeOf f.type).run P w = .ok (n + 1) w) : FOff P t i off := by
  refine ⟨fun b o w => ?_⟩
  obtain ⟨n, hn⟩ := hs w
  have e : (⟨b, o, none⟩ : Addr).add f.offset = ⟨b, o + off, none⟩ := by rw [addr_add, ho]
  simp [Instr.fieldAt, run_underlying h, hf, Instr.sureAddr, fieldPlace, hn, e]
theorem y_fieldAddr {bx off i fo : Nat} (hp : Ev K s o (.p bx off)) (hf : FOff P t i fo) : Y K s ⟨dst, .fieldAddr t o i, ty, pos, aft, g⟩ (.p (P := P) bx (off + fo)) := by
  refine Y.of_run fun m β γ κ a ha _ => ⟨_, rfl, fun w _ => ?_⟩
  have e : a.eval o = .pointer (some ⟨β bx, off, none⟩) := hp m β γ a ha
  simp [execOp, e, hf.run]
theorem y_fieldAddr_ptr {α δ : Type} [Rp P α] [Rp P δ] {x : α} {i fo : Nat} {get : α → δ} (hp : Ev K s o (.d (⟨x⟩ : Ptr α))) (hf : FOff P t i fo) (hs : Sub P fo get) :
    Y K s ⟨dst, .fieldAddr t o i, ty, pos, aft, g⟩ (.d (P := P) (⟨get x⟩ : Ptr δ)) := by
  refine Y.of_run fun m β γ κ a ha _ => ?_
  have hv := hp m β γ a ha
  have e := vrel.eq_mkV hv
  obtain ⟨⟨b, off, ds, hds, hr, hm⟩, h2⟩ := hv
  rw [hds] at e
  have e' : a.eval o = .pointer (some ⟨b, off, none⟩) := e
  refine ⟨.pointer (some ⟨b, off + fo, none⟩), ⟨⟨b, off + fo, _, rfl, hs.sub hr, fun j c hj => ?_⟩, rfl⟩, fun w _ => ?_⟩
  · simp only [List.getElem?_take, List.getElem?_drop] at hj
    split at hj
    · rw [Nat.add_assoc]; exact hm _ _ hj
    · cases hj
  · simp [execOp, e', hf.run]
/-- A slice type, held against a Lean type of elements. -/
structure TySl (P : Program) (t : TypeId) (α : Type) [Rp P α] : Prop where
  un : P.underlying t = some (.slice (P.elem t))
  size : ∀ w, (sizeOf (P.elem t)).run P w = .ok (Rp.sz P α) w
theorem y_indexAddr {α : Type} [Rp P α] {xs : List α} {y : α} {i : Int} (hx : Ev K s o (.d xs)) (hi : Ev K s o' (.d i)) (h0 : 0 ≤ i) (hy : xs[i.toNat]? = some y) (ht : TySl P t α) :
    Y K s ⟨dst, .indexAddr t o o', ty, pos, aft, g⟩ (.d (P := P) (⟨y⟩ : Ptr α)) := by
  refine Y.of_run fun m β γ κ a ha _ => ?_
  obtain ⟨⟨ad, cap, e, _, hel⟩, hb⟩ := list_of (P := P) (hx m β γ a ha)
  have ei := (int_of (P := P) (hi m β γ a ha)).1
  have hlt : i.toNat < xs.length := by
    rcases Nat.lt_or_ge i.toNat xs.length with h | h
    · exact h
    · rw [List.getElem?_eq_none h] at hy; cases hy
  obtain ⟨b, off, rfl, hm⟩ := hel (by intro h; subst h; simp at hlt)
  obtain ⟨cs, hr, hc⟩ := hm _ _ hy
  refine ⟨.pointer (some ⟨b, off + i.toNat * Rp.sz P α, none⟩), ⟨⟨b, _, cs, rfl, hr, fun j c hj => hc j c hj⟩, rfl⟩, fun w _ => ?_⟩
  simp only [execOp, e, ei]
  have := run_indexAt_slice (P := P) w t ⟨b, off, none⟩ xs.length cap .i64 i ht.un
  rw [if_pos ⟨h0, by omega⟩, ht.size] at this
  simp only [Result.andThen_ok, addr_add] at this
  simp [this]
end ops
end Go.Ph
namespace Go.Ph
universe u
open Go.RowKit (Below)
variable {P : Program}
/-- Slots that name no part of a box. -/
def AV.off (d : Nat) : AV P → Bool
  | .p b _ => !Nat.beq b d
  | .cl _ bs => bs.all fun b => !Nat.beq b d
  | .t2 a b => a.off d && b.off d
  | .t3 a b c => a.off d && b.off d && c.off d
  | _ => true
def offAll (d : Nat) : List (Nat × AV P) → Bool
  | [] => true
  | (_, x) :: r => x.off d && offAll d r
/-- the ties of other boxes -/
def tiB (d : Nat) : List ((Nat × Nat) × Nat) → List ((Nat × Nat) × Nat)
  | [] => []
  | ((b, o), n) :: r => bif Nat.beq b d then tiB d r else ((b, o), n) :: tiB d r
/-- the ties of other boxes, and of other places in this one -/
def tiO (d off len : Nat) : List ((Nat × Nat) × Nat) → List ((Nat × Nat) × Nat)
  | [] => []
  | ((b, o), n) :: r => bif Nat.beq b d && (Nat.ble off o && Nat.ble (o + 1) (off + len)) then tiO d off len r else ((b, o), n) :: tiO d off len r
/-- the ties of other growing slices -/
def tiN (d : Nat) : List ((Nat × Nat) × Nat) → List ((Nat × Nat) × Nat)
  | [] => []
  | ((b, o), n) :: r => bif Nat.beq n d then tiN d r else ((b, o), n) :: tiN d r
def upd {α : Type u} (f : Nat → α) (d : Nat) (v : α) : Nat → α := fun t => if t = d then v else f t
theorem upd_eq {α : Type u} {f : Nat → α} {d : Nat} {v : α} : upd f d v d = v := by simp [upd]
theorem upd_ne {α : Type u} {f : Nat → α} {d t : Nat} {v : α} (h : t ≠ d) : upd f d v t = f t := by simp [upd, h]
theorem nbeq {b d : Nat} (h : (!Nat.beq b d) = true) : b ≠ d := fun e => by subst e; rw [Nat.beq_refl] at h; cases h
theorem AV.holds_off {β : Nat → Nat} {γ : Nat → Value} {m : Snap} {d b : Nat} : ∀ {x : AV P} {v : Value}, x.off d = true → x.holds β γ m v → x.holds (upd β d b) γ m v
  | @AV.d _ _ _ _, _, _, h => h
  | .x _, _, _, h => h
  | .p c o, v, hf, h => by
    have : c ≠ d := nbeq hf
    show v = _
    rw [upd_ne this]; exact h
  | .g _, _, _, h => h
  | .ge _ _, _, _, h => h
  | .any, _, _, h => h
  | .cl f bs, v, hf, h => by
    show v = _
    have h : v = _ := h
    rw [h]; congr 2
    refine List.map_congr_left fun b hb => ?_
    have : b ≠ d := nbeq (List.all_eq_true.1 hf b hb)
    rw [upd_ne this]
  | .t2 _ _, _, hf, ⟨va, vb, e, ha, hb⟩ => by
    simp only [AV.off, Bool.and_eq_true] at hf
    exact ⟨va, vb, e, holds_off hf.1 ha, holds_off hf.2 hb⟩
  | .t3 _ _ _, _, hf, ⟨va, vb, vc, e, ha, hb, hc⟩ => by
    simp only [AV.off, Bool.and_eq_true] at hf
    exact ⟨va, vb, vc, e, holds_off hf.1.1 ha, holds_off hf.1.2 hb, holds_off hf.2 hc⟩
theorem lk_off {d : Nat} : ∀ {sl : List (Nat × AV P)} {t : Nat} {x : AV P}, offAll d sl = true → lk sl t = some x → x.off d = true
  | [], _, _, _, h => by simp [lk] at h
  | (k, y) :: r, t, x, hf, h => by
    simp only [offAll, Bool.and_eq_true] at hf
    by_cases e : k = t
    · subst e; rw [lk_cons_eq rfl] at h; cases h; exact hf.1
    · rw [lk_cons_ne e] at h; exact lk_off hf.2 h
theorem tiB_mem {d : Nat} : ∀ {ti : List ((Nat × Nat) × Nat)}, ∀ e ∈ tiB d ti, e ∈ ti ∧ e.1.1 ≠ d
  | [], e, h => by simp [tiB] at h
  | ((b, p), n) :: r, e, h => by
    unfold tiB at h
    cases hb : Nat.beq b d with
    | true => rw [hb] at h; obtain ⟨h1, h2⟩ := tiB_mem e h; exact ⟨List.mem_cons_of_mem _ h1, h2⟩
    | false =>
      rw [hb] at h
      rcases List.mem_cons.1 h with h | h
      · subst h; exact ⟨by simp, fun e => by dsimp only at e; subst e; rw [Nat.beq_refl] at hb; cases hb⟩
      · obtain ⟨h1, h2⟩ := tiB_mem e h; exact ⟨List.mem_cons_of_mem _ h1, h2⟩
theorem tiO_mem {d off len : Nat} : ∀ {ti : List ((Nat × Nat) × Nat)}, ∀ e ∈ tiO d off len ti, e ∈ ti ∧ (e.1.1 ≠ d ∨ e.1.2 < off ∨ off + len ≤ e.1.2)
  | [], e, h => by simp [tiO] at h
  | ((b, p), n) :: r, e, h => by
    unfold tiO at h
    cases hb : (Nat.beq b d && (Nat.ble off p && Nat.ble (p + 1) (off + len))) with
    | true => rw [hb] at h; obtain ⟨h1, h2⟩ := tiO_mem e h; exact ⟨List.mem_cons_of_mem _ h1, h2⟩
    | false =>
      rw [hb] at h
      rcases List.mem_cons.1 h with h | h
      · subst h
        refine ⟨by simp, ?_⟩
        dsimp only
        simp only [Bool.and_eq_false_iff] at hb
        rcases hb with hb | hb | hb
        · left; intro e; subst e; rw [Nat.beq_refl] at hb; cases hb
        · right; left
          rcases Nat.lt_or_ge p off with hl | hl
          · exact hl
          · rw [Nat.ble_eq_true_of_le hl] at hb; cases hb
        · right; right
          rcases Nat.lt_or_ge p (off + len) with hl | hl
          · rw [Nat.ble_eq_true_of_le hl] at hb; cases hb
          · exact hl
      · obtain ⟨h1, h2⟩ := tiO_mem e h; exact ⟨List.mem_cons_of_mem _ h1, h2⟩
theorem tiN_mem {d : Nat} : ∀ {ti : List ((Nat × Nat) × Nat)}, ∀ e ∈ tiN d ti, e ∈ ti ∧ e.2 ≠ d
  | [], e, h => by simp [tiN] at h
  | ((b, p), n) :: r, e, h => by
    unfold tiN at h
    cases hb : Nat.beq n d with
    | true => rw [hb] at h; obtain ⟨h1, h2⟩ := tiN_mem e h; exact ⟨List.mem_cons_of_mem _ h1, h2⟩
    | false =>
      rw [hb] at h
      rcases List.mem_cons.1 h with h | h
      · subst h; exact ⟨by simp, fun e => by dsimp only at e; subst e; rw [Nat.beq_refl] at hb; cases hb⟩
      · obtain ⟨h1, h2⟩ := tiN_mem e h; exact ⟨List.mem_cons_of_mem _ h1, h2⟩
section ops
variable {K : Cx} {s : St P} {ops : Array Oper} {Q : Exit → Act → World → Prop} {rest : List Oper} {d : Nat} {t t' ty : TypeId} {pos : String} {aft : Array Edge} {g : Option (Nat × Bool)} {dst : Option Tmp} {o o' o'' : Operand}
  {m : Snap} {β : Nat → Nat} {γ : Nat → Value} {κ : Nat → List Value} {B : Bs P} {w : World} {a : Act} {sl : List (Nat × AV P)}
theorem cell_lt {b i : Nat} {v : Value} (h : w.cell? ⟨b, i, none⟩ = some v) : b < w.heap.size := by
  unfold World.cell? at h
  rcases Nat.lt_or_ge b w.heap.size with hl | hl
  · exact hl
  · simp [Array.getElem?_eq_none hl] at h
/-- A new box. -/
theorem WH.alloc {α : Type} [Rp P α] {cs : List Value} {x : α} {T : TypeId} (h : WH K m β γ κ B w) (hr : Rp.rel P m cs x) (hpin : K.pin d = none) :
    WH K m (upd β d w.heap.size) γ (upd κ d cs) ⟨(d, ⟨x⟩) :: B.bx, B.gr, tiB d B.ti⟩ { w with heap := w.heap.push (.cells cs.toArray T) } := by
  have hB : K.B0 ≤ w.heap.size := h.jj.2.1
  have hp : ∀ b o, w.heap[b]? = some o → (w.heap.push (Obj.cells cs.toArray T))[b]? = some o := fun b o ho => by
    have hlt : b < w.heap.size := by
      rcases Nat.lt_or_ge b w.heap.size with hl | hl
      · exact hl
      · rw [Array.getElem?_eq_none hl] at ho; cases ho
    rw [Array.getElem?_push, if_neg (by omega)]; exact ho
  have hcell : ∀ b i v, w.cell? ⟨b, i, none⟩ = some v → World.cell? { w with heap := w.heap.push (.cells cs.toArray T) } ⟨b, i, none⟩ = some v := fun b i v hv => by
    unfold World.cell? at hv ⊢
    cases hq : w.heap[b]? with
    | none => simp [hq] at hv
    | some o => simp only [hp b o hq]; simpa [hq] using hv
  have hm : ∀ i, m w.heap.size i = none := fun i => by
    cases hq : m w.heap.size i with
    | none => rfl
    | some v => exact absurd (cell_lt (h.sees _ _ _ hq)) (Nat.lt_irrefl _)
  have hlt : ∀ y bv, lk B.bx y = some bv → β y < w.heap.size := fun y bv hy => by
    obtain ⟨⟨T', hT⟩, _⟩ := h.box y bv hy
    rcases Nat.lt_or_ge (β y) w.heap.size with hl | hl
    · exact hl
    · rw [Array.getElem?_eq_none hl] at hT; cases hT
  have hglt : ∀ y gv b, lk B.gr y = some gv → (γ y).ownBlock = some b → b < w.heap.size := fun y gv b hy hb => (h.grow y gv hy).lt hb
  refine ⟨fun b i v hv => hcell b i v (h.sees b i v hv), h.le, h.new, fun y bv hy => ?_, fun y z by' bz hy hz hne => ?_, fun y gv hy => ?_, fun y z gv bv hy hz => ?_, h.ginj, fun e he => ?_, ?_⟩
  · by_cases e : y = d
    · subst e
      rw [lk_cons_eq rfl] at hy; cases hy
      rw [upd_eq, upd_eq]
      refine ⟨⟨T, by simp⟩, hr, hB, hm⟩
    · rw [lk_cons_ne (Ne.symm e)] at hy
      rw [upd_ne e, upd_ne e]
      obtain ⟨⟨T', hT⟩, r⟩ := h.box y bv hy
      exact ⟨⟨T', hp _ _ hT⟩, r⟩
  · by_cases e : y = d
    · subst e
      by_cases e' : z = y
      · exact absurd e'.symm hne
      · rw [lk_cons_ne (Ne.symm e')] at hz
        rw [upd_eq, upd_ne e']
        have := hlt _ _ hz; omega
    · rw [lk_cons_ne (Ne.symm e)] at hy
      by_cases e' : z = d
      · subst e'
        rw [upd_eq, upd_ne e]
        have := hlt _ _ hy; omega
      · rw [lk_cons_ne (Ne.symm e')] at hz
        rw [upd_ne e, upd_ne e']
        exact h.inj y z _ _ hy hz hne
  · exact (h.grow y gv hy).keep (fun b hv => by
      have := hglt y gv b hy hv
      show (w.heap.push _)[b]? = _
      rw [Array.getElem?_push, if_neg (by omega)]) (Snap.le_refl _) fun _ _ _ h => h
  · by_cases e : z = d
    · subst e
      rw [upd_eq]
      intro hb
      exact absurd (hglt y gv _ hy hb) (Nat.lt_irrefl _)
    · rw [lk_cons_ne (Ne.symm e)] at hz
      rw [upd_ne e]; exact h.gbox y z gv bv hy hz
  · obtain ⟨h1, h2⟩ := tiB_mem e he; rw [upd_ne h2]; exact h.tie e h1
  · refine h.go rfl rfl rfl (by simp) (fun k hk _ => by show (w.heap.push _)[k]? = _; rw [Array.getElem?_push, if_neg (by omega)]) (Snap.le_refl _) (fun _ _ _ h => .inl h) (fun b i v hv => hcell b i v (h.sees b i v hv)) ?_ (fun b c hb e => by rw [upd_ne (fun e2 => by subst e2; rw [hpin] at hb; cases hb)]; exact e)
    rintro b (⟨x', bv, h1, h2⟩ | hg)
    · by_cases e : x' = d
      · subst e; rw [upd_eq] at h2; exact .inr (by omega)
      · rw [lk_cons_ne (Ne.symm e)] at h1; rw [upd_ne e] at h2; exact .inl (.inl ⟨x', bv, h1, h2⟩)
    · exact .inl (.inr hg)
theorem AH.alloc {b : Nat} (h : AH K m β γ sl a) (ho : offAll d sl = true) (hd : d < K.n) :
    AH K m (upd β d b) γ ((d, .p d 0) :: sl) (a.put (some d) (.pointer (some ⟨b, 0, none⟩))) := by
  have h' : AH K m (upd β d b) γ sl a := ⟨h.defers, h.size, fun t x hx => by
    obtain ⟨v, hv, hh⟩ := h.slot t x hx
    exact ⟨v, hv, AV.holds_off (lk_off ho hx) hh⟩⟩
  exact h'.put hd (by show _ = _; rw [upd_eq])
theorem TL_box {α : Type} [Rp P α] {x : α} (h : Ev K s o (.d x))
    (k : TL K ⟨(d, .p d 0) :: s.sl, ⟨(d, ⟨x⟩) :: s.B.bx, s.B.gr, tiB d s.B.ti⟩⟩ ops Q rest)
    (ho : offAll d s.sl = true := by rfl) (hd : Nat.ble (d + 1) K.n = true := by rfl) (hpin : K.pin d = none := by rfl) :
    TL K s ops Q (⟨some d, .box t o, ty, pos, aft, none⟩ :: rest) := by
  intro m β γ κ a w ha hw
  have hd' : d < K.n := Nat.le_of_ble_eq_true hd
  obtain ⟨hr, _⟩ := h m β γ a ha
  refine wpL_of (show Region.wanted _ _ = true from rfl) (by intro _ e; cases e) ?_
  have hrun : (execOp a.eval ⟨some d, .box t o, ty, pos, aft, none⟩).run P w = .ok (.value (.pointer (some ⟨w.heap.size, 0, none⟩))) { w with heap := w.heap.push (.cells (a.eval o).cells t) } := rfl
  unfold Oper.wp
  rw [hrun]
  have hw' := hw.alloc (d := d) (T := t) hr hpin
  simp only [Array.toArray_toList] at hw'
  exact k m _ γ _ _ _ (ha.alloc ho hd') hw'
/-- A type's zero value. -/
structure Zero (P : Program) (t : TypeId) {α : Type} [Rp P α] (z : α) : Prop where
  run : ∃ v, (∀ w, (zeroValue t).run P w = .ok v w) ∧ ∀ m, vrel (P := P) m v z
theorem TL_alloc {α : Type} [Rp P α] {z : α} (hz : Zero P t z)
    (k : TL K ⟨(d, .p d 0) :: s.sl, ⟨(d, ⟨z⟩) :: s.B.bx, s.B.gr, tiB d s.B.ti⟩⟩ ops Q rest)
    (ho : offAll d s.sl = true := by rfl) (hd : Nat.ble (d + 1) K.n = true := by rfl) (hpin : K.pin d = none := by rfl) :
    TL K s ops Q (⟨some d, .alloc t, ty, pos, aft, none⟩ :: rest) := by
  intro m β γ κ a w ha hw
  have hd' : d < K.n := Nat.le_of_ble_eq_true hd
  obtain ⟨v, hv, hm⟩ := hz.run
  obtain ⟨hr, _⟩ := hm m
  refine wpL_of (show Region.wanted _ _ = true from rfl) (by intro _ e; cases e) ?_
  have hrun : (execOp a.eval ⟨some d, .alloc t, ty, pos, aft, none⟩).run P w = .ok (.value (.pointer (some ⟨w.heap.size, 0, none⟩))) { w with heap := w.heap.push (.cells v.cells t) } := by
    simp [execOp, Instr.alloc, hv, newVar, newRow]
  unfold Oper.wp
  rw [hrun]
  have hw' := hw.alloc (d := d) (T := t) hr hpin
  simp only [Array.toArray_toList] at hw'
  exact k m _ γ _ _ _ (ha.alloc ho hd') hw'
/-- A store into a box. -/
theorem WH.store {α δ : Type} [Rp P α] [Rp P δ] {bx off : Nat} {x : α} {y : δ} {set : α → δ → α} {ds : List Value} (h : WH K m β γ κ B w) (hb : lk B.bx bx = some ⟨x⟩)
    (hp : Put P off set) (hr : Rp.rel P m ds y) (hin : off + Rp.sz P δ ≤ Rp.sz P α) :
    WH K m β γ (upd κ bx ((κ bx).take off ++ ds ++ (κ bx).drop (off + ds.length))) ⟨(bx, ⟨set x y⟩) :: B.bx, B.gr, tiO bx off (Rp.sz P δ) B.ti⟩
      (w.setRow (β bx) ((κ bx).take off ++ ds ++ (κ bx).drop (off + ds.length)).toArray) := by
  obtain ⟨⟨T, hT⟩, hrel, hB0, hmn⟩ := h.box bx _ hb
  have hother : ∀ b, b ≠ β bx → (w.setRow (β bx) ((κ bx).take off ++ ds ++ (κ bx).drop (off + ds.length)).toArray).heap[b]? = w.heap[b]? := fun b hne => setRow_other w _ b _ hne
  have hcell : ∀ b i v, b ≠ β bx → w.cell? ⟨b, i, none⟩ = some v → (w.setRow (β bx) ((κ bx).take off ++ ds ++ (κ bx).drop (off + ds.length)).toArray).cell? ⟨b, i, none⟩ = some v := fun b i v hne hv => by
    unfold World.cell? at hv ⊢
    rw [hother b hne]; exact hv
  refine ⟨fun b i v hv => hcell b i v (fun e => by subst e; rw [hmn] at hv; cases hv) (h.sees b i v hv), h.le, h.new, fun y' bv hy => ?_, fun y' z by' bz hy hz hne => ?_, fun y' gv hy => ?_, fun y' z gv bv hy hz => ?_, h.ginj, fun e he => ?_, ?_⟩
  · by_cases e : y' = bx
    · subst e
      rw [lk_cons_eq rfl] at hy; cases hy
      rw [upd_eq]
      exact ⟨⟨T, setRow_heap w _ _ _ T _ hT⟩, hp.put hrel hr, hB0, hmn⟩
    · rw [lk_cons_ne (Ne.symm e)] at hy
      rw [upd_ne e]
      obtain ⟨⟨T', hT'⟩, r⟩ := h.box y' bv hy
      exact ⟨⟨T', by rw [hother _ (h.inj y' bx _ _ hy hb e)]; exact hT'⟩, r⟩
  · have f : ∀ q bq, lk ((bx, (⟨set x y⟩ : BV P)) :: B.bx) q = some bq → ∃ bq', lk B.bx q = some bq' := fun q bq hq => by
      by_cases e : q = bx
      · subst e; exact ⟨_, hb⟩
      · rw [lk_cons_ne (Ne.symm e)] at hq; exact ⟨_, hq⟩
    obtain ⟨_, h1⟩ := f _ _ hy
    obtain ⟨_, h2⟩ := f _ _ hz
    exact h.inj _ _ _ _ h1 h2 hne
  · exact (h.grow y' gv hy).keep (fun b hv => hother b (fun e' => h.gbox y' bx gv _ hy hb (by rw [hv, e']))) (Snap.le_refl _) fun _ _ _ h => h
  · by_cases e : z = bx
    · subst e; exact h.gbox y' z gv _ hy hb
    · rw [lk_cons_ne (Ne.symm e)] at hz; exact h.gbox y' z gv bv hy hz
  · obtain ⟨h1, h2⟩ := tiO_mem e he
    by_cases e1 : e.1.1 = bx
    · rw [e1, upd_eq]
      have ht := h.tie e h1
      rw [e1] at ht
      have hl := Rp.len hr
      have hl2 : (κ bx).length = Rp.sz P α := Rp.len (x := x) hrel
      rw [← ht]
      rcases h2 with h2 | h2 | h2
      · exact absurd e1 h2
      · rw [List.append_assoc, List.getElem?_append_left (by rw [List.length_take]; omega), List.getElem?_take_of_lt h2]
      · rw [List.getElem?_append_right (by rw [List.length_append, List.length_take, hl]; omega), List.getElem?_drop]
        congr 1
        rw [List.length_append, List.length_take, hl]; omega
    · rw [upd_ne e1]; exact h.tie e h1
  · refine h.go rfl rfl rfl (by simp [World.setRow]) (fun k _ hne => hother k (fun e => hne (.inl ⟨bx, _, hb, e.symm⟩))) (Snap.le_refl _) (fun _ _ _ h => .inl h) (fun b i v hv => hcell b i v (fun e => by subst e; rw [hmn] at hv; cases hv) (h.sees b i v hv)) ?_
    rintro b (⟨x', bv, h1, h2⟩ | hg)
    · by_cases e : x' = bx
      · subst e; exact .inl (.inl ⟨_, _, hb, h2⟩)
      · rw [lk_cons_ne (Ne.symm e)] at h1; exact .inl (.inl ⟨x', bv, h1, h2⟩)
    · exact .inl (.inr hg)
theorem TL_store {α δ : Type} [Rp P α] [Rp P δ] {bx off : Nat} {x : α} {y : δ} {set : α → δ → α} (hp : Ev K s o (.p bx off)) (hb : lk s.B.bx bx = some ⟨x⟩)
    (hy : Ev K s o' (.d y)) (hs : Put P off set) (ht : Ty P t δ) (hin : off + Rp.sz P δ ≤ Rp.sz P α)
    (k : TL K ⟨s.sl, ⟨(bx, ⟨set x y⟩) :: s.B.bx, s.B.gr, tiO bx off (Rp.sz P δ) s.B.ti⟩⟩ ops Q rest) :
    TL K s ops Q (⟨none, .store t o o', ty, pos, aft, none⟩ :: rest) := by
  intro m β γ κ a w ha hw
  have e : a.eval o = .pointer (some ⟨β bx, off, none⟩) := hp m β γ a ha
  obtain ⟨hr, _⟩ := hy m β γ a ha
  obtain ⟨⟨T, hT⟩, hrel, hB0, hmn⟩ := hw.box bx _ hb
  have hlen := Rp.len hr
  have hlen2 : (κ bx).length = Rp.sz P α := Rp.len (x := x) hrel
  refine wpL_of (show Region.wanted _ _ = true from rfl) (by intro _ e; cases e) ?_
  have hst := run_storeCells_at (P := P) (β bx) off T (a.eval o').cells.toList 0 (κ bx).toArray w hT (by simp only [List.size_toArray]; omega) (Rp.ok hr)
  have hrun : (execOp a.eval ⟨none, .store t o o', ty, pos, aft, none⟩).run P w = .ok .skip (w.setRow (β bx) ((κ bx).take off ++ (a.eval o').cells.toList ++ (κ bx).drop (off + (a.eval o').cells.toList.length)).toArray) := by
    have hsz : (a.eval o').cells.size = Rp.sz P δ := by rw [← hlen]; simp
    simp only [execOp, e, Instr.storeAt, Instr.sureAddr, storeVar, Sem.run_bind, Sem.run_pure, Result.andThen_ok, ht.size]
    rw [if_neg (by simp [hsz])]
    rw [hst]
    simp
  unfold Oper.wp
  rw [hrun]
  exact k m β γ _ _ _ ha (hw.store hb hs hr hin)
end ops
end Go.Ph
namespace Go.Ph
universe u
open Go.RowKit (Below)
variable {P : Program}
/-- A datum without a box or a growing slice in it: it says the same whatever the names stand for. -/
def AV.closed : AV P → Bool
  | @AV.d _ _ _ _ => true
  | .x _ => true
  | .p _ _ => false
  | .g _ => false
  | .ge _ _ => false
  | .any => false
  | .cl _ _ => false
  | .t2 a b => a.closed && b.closed
  | .t3 a b c => a.closed && b.closed && c.closed
theorem AV.closed_holds {β β' : Nat → Nat} {γ γ' : Nat → Value} {m : Snap} : ∀ {x : AV P} {v : Value}, x.closed = true → x.holds β γ m v → x.holds β' γ' m v
  | @AV.d _ _ _ _, _, _, h => h
  | .x _, _, _, h => h
  | .p _ _, _, hc, _ => by cases hc
  | .g _, _, hc, _ => by cases hc
  | .ge _ _, _, hc, _ => by cases hc
  | .any, _, hc, _ => by cases hc
  | .cl _ _, _, hc, _ => by cases hc
  | .t2 _ _, _, hc, ⟨va, vb, e, ha, hb⟩ => by
    simp only [AV.closed, Bool.and_eq_true] at hc
    exact ⟨va, vb, e, closed_holds hc.1 ha, closed_holds hc.2 hb⟩
  | .t3 _ _ _, _, hc, ⟨va, vb, vc, e, ha, hb, hd⟩ => by
    simp only [AV.closed, Bool.and_eq_true] at hc
    exact ⟨va, vb, vc, e, closed_holds hc.1.1 ha, closed_holds hc.1.2 hb, closed_holds hc.2 hd⟩
def β0 : Nat → Nat := fun _ => 0
def γ0 : Nat → Value := fun _ => undef
/-- What a call comes to: it hands back x; what was known is known; nothing that lay has turned. -/
def Post (m : Snap) (w : World) (x : AV P) (e : Ending) (w' : World) : Prop :=
  ∃ v m', e = .returned v ∧ x.holds β0 γ0 m' v ∧ Snap.le m m' ∧ (∀ b i v, m' b i = some v → m b i = some v ∨ w.heap.size ≤ b) ∧
    (∀ b i v, m' b i = some v → w'.cell? ⟨b, i, none⟩ = some v) ∧ Below w.heap.size w w'
def AllHold (m : Snap) : List Value → List (AV P) → Prop
  | [], [] => True
  | v :: vs, x :: xs => x.holds β0 γ0 m v ∧ AllHold m vs xs
  | _, _ => False
/-- A function's contract: called with data it hands back a datum. -/
def Fn (P : Program) (f : FuncId) (args : List (AV P)) (x : AV P) : Prop :=
  ∀ (m : Snap) (w : World) (vs : List Value), (∀ b i v, m b i = some v → w.cell? ⟨b, i, none⟩ = some v) → AllHold m vs args → Calls P f vs.toArray w (Post m w x)
def argSlots : Nat → List (AV P) → List (Nat × AV P)
  | _, [] => []
  | i, x :: xs => (i, x) :: argSlots (i + 1) xs
def allClosed : List (AV P) → Bool
  | [] => true
  | x :: r => x.closed && allClosed r
theorem argSlots_slot {m : Snap} {β : Nat → Nat} {γ : Nat → Value} : ∀ {args : List (AV P)} {vs : List Value} {i : Nat}, allClosed args = true → AllHold m vs args →
    ∀ t x, lk (argSlots i args) t = some x → ∃ v, vs[t - i]? = some v ∧ i ≤ t ∧ x.holds β γ m v
  | [], _, _, _, _, t, x, h => by simp [argSlots, lk] at h
  | y :: ys, [], _, _, hh, _, _, _ => by exact hh.elim
  | y :: ys, v :: vs, i, hc, hh, t, x, h => by
    simp only [allClosed, Bool.and_eq_true] at hc
    simp only [argSlots] at h
    by_cases e : i = t
    · subst e
      rw [lk_cons_eq rfl] at h; cases h
      exact ⟨v, by simp, Nat.le_refl _, AV.closed_holds hc.1 hh.1⟩
    · rw [lk_cons_ne e] at h
      obtain ⟨u, hu, hle, hx⟩ := argSlots_slot hc.2 hh.2 t x h
      refine ⟨u, ?_, by omega, hx⟩
      have : t - i = (t - (i + 1)) + 1 := by omega
      rw [this]; simpa using hu
theorem AllHold.length {m : Snap} : ∀ {vs : List Value} {args : List (AV P)}, AllHold m vs args → vs.length = args.length
  | [], [], _ => rfl
  | _ :: _, _ :: _, h => by simp [AllHold.length h.2]
  | [], _ :: _, h => h.elim
  | _ :: _, [], h => h.elim
theorem Fn.of {f : FuncId} {fn : Func} {c : Code} {args : List (AV P)} {x : AV P} (hf : P.funcs[f]? = some fn) (hb : fn.body = some c)
    (h : ∀ w m, T ⟨fn.ntmps, w, m, [], none, ordJ w, ordJ_law w, fun _ => none, fun _ => none⟩ ⟨argSlots 0 args, ⟨[], [], []⟩⟩ c (bodyPostM Fence.wide 0 P fn (Post m w x)))
    (hn : Nat.ble args.length fn.ntmps = true := by rfl) (hc : allClosed args = true := by rfl) : Fn P f args x := by
  intro m w vs hs hv
  refine callsIn_wide.1 (callsIn_of_wp_marks (F := Fence.wide) (n := 0) hf hb trivial (h w m m β0 γ0 (fun _ => []) _ w ⟨rfl, ?_, fun t y hy => ?_⟩ ⟨hs, Snap.le_refl _, fun _ _ _ h => .inl h, ?_, ?_, ?_, ?_, ?_, ?_, ⟨⟨Below.refl _ _, fun b hb => by rcases hb with ⟨_, _, h, _⟩ | ⟨_, _, h, _⟩ <;> simp [lk] at h⟩, Nat.le_refl _, (fun _ _ h => by cases h), (fun _ _ h => by cases h)⟩⟩))
  · have := Nat.le_of_ble_eq_true hn
    have hl := hv.length
    simp only [Array.size_append, List.size_toArray, Array.size_replicate]; omega
  · obtain ⟨v, hv', _, hx⟩ := argSlots_slot (β := β0) (γ := γ0) hc hv t y hy
    refine ⟨v, ?_, hx⟩
    rw [Nat.sub_zero] at hv'
    have hlt : t < vs.length := by
      rcases Nat.lt_or_ge t vs.length with h | h
      · exact h
      · rw [List.getElem?_eq_none h] at hv'; cases hv'
    rw [Array.getElem?_append_left (by simpa using hlt)]
    simpa using hv'
  all_goals (intros; simp_all [lk])
/-! ## Results -/
section ops
variable {K : Cx} {s : St P} {ops : Array Oper} {Q : Exit → Act → World → Prop} {rest : List Oper} {d : Nat} {t t' ty : TypeId} {pos : String} {aft : Array Edge} {g : Option (Nat × Bool)} {dst : Option Tmp} {o o' o'' : Operand}
  {fn : Func} {x y z : AV P}
def rdv (tmps : Array Value) : ResultVar → Sem Value
  | .tmp t => pure (tmps.getD t undef)
  | .cell a t => do loadVar t (← asAddr (tmps.getD a undef))
theorem results_rdv (tmps : Array Value) : results fn tmps = (do let vs ← fn.results.mapM (rdv tmps); pure (if h : vs.size = 1 then vs[0] else .tuple vs)) := by
  unfold results
  congr 1
/-- What a result's slot or cell reads as. -/
def Rv (K : Cx) (s : St P) (r : ResultVar) (x : AV P) : Prop :=
  ∀ m β γ κ a w, AH K m β γ s.sl a → WH K m β γ κ s.B w → ∃ v, x.holds β0 γ0 m v ∧ (rdv a.tmps r).run P w = .ok v w
theorem rv_t {t : Tmp} (h : lk s.sl t = some x) (hc : x.closed = true := by rfl) : Rv K s (.tmp t) x := by
  intro m β γ κ a w ha _
  exact ⟨a.tmps.getD t undef, AV.closed_holds hc (e_t h m β γ a ha), rfl⟩
theorem rv_c {t : Tmp} {ty : TypeId} {α : Type} [Rp P α] {b : Nat} {x : α} (h : lk s.sl t = some (.p b 0)) (hb : lk s.B.bx b = some ⟨x⟩) (ht : Ty P ty α) : Rv K s (.cell t ty) (.d x) := by
  intro m β γ κ a w ha hw
  have e : a.tmps.getD t undef = .pointer (some ⟨β b, 0, none⟩) := e_t h m β γ a ha
  obtain ⟨⟨T, hT⟩, hrel, _, _⟩ := hw.box b _ hb
  refine ⟨_, vrel_mkV hrel, ?_⟩
  show (do loadVar ty (← asAddr (a.tmps.getD t undef)) : Sem Value).run P w = _
  rw [e]
  exact run_loadAt ht hrel fun j c hj => by simpa [World.cell?, hT] using hj
theorem leavesM {fn : Func} {e : Exit} {a : Act} {w : World} {v : Value} {R : Ending → World → Prop} (hd : a.defers = []) (hr : (results fn a.tmps).run P w = .ok v w) (h : R (.returned v) w) (he : e = .ret ∨ e = .normal) :
    bodyPostM Fence.wide 0 P fn R e a w := by
  have : LeavesInM Fence.wide 0 P fn a.tmps R a.defers .returning w := by
    rw [hd]
    unfold LeavesInM LeavesIn
    exact ⟨v, hr, h⟩
  rcases he with rfl | rfl <;> exact this
theorem Z_ret1 {e : Exit} {r1 : ResultVar} (hr : fn.results = #[r1]) (h1 : Rv K s r1 x) (hD : K.D = [] := by rfl) (hJ : ∀ m S w, K.J m S w → Below K.B0 K.w0 w := by exact fun _ _ _ h => And.left h) (he : e = .ret ∨ e = .normal := by first | exact .inl rfl | exact .inr rfl) :
    Z K s e (bodyPostM Fence.wide 0 P fn (Post K.m0 K.w0 x)) := by
  intro m β γ κ a w ha hw
  obtain ⟨v, hv, hrun⟩ := h1 m β γ κ a w ha hw
  have hres : (results fn a.tmps).run P w = .ok v w := by
    rw [results_rdv, hr]; simp [hrun]
  exact leavesM (ha.defers.trans hD) hres ⟨v, m, rfl, hv, hw.le, hw.new, hw.sees, hJ _ _ _ hw.jj.1⟩ he
theorem Z_ret2 {e : Exit} {r1 r2 : ResultVar} (hr : fn.results = #[r1, r2]) (h1 : Rv K s r1 x) (h2 : Rv K s r2 y) (hD : K.D = [] := by rfl) (hJ : ∀ m S w, K.J m S w → Below K.B0 K.w0 w := by exact fun _ _ _ h => And.left h) (he : e = .ret ∨ e = .normal := by first | exact .inl rfl | exact .inr rfl) :
    Z K s e (bodyPostM Fence.wide 0 P fn (Post K.m0 K.w0 (.t2 x y))) := by
  intro m β γ κ a w ha hw
  obtain ⟨v, hv, hrun⟩ := h1 m β γ κ a w ha hw
  obtain ⟨v2, hv2, hrun2⟩ := h2 m β γ κ a w ha hw
  have hres : (results fn a.tmps).run P w = .ok (.tuple #[v, v2]) w := by
    rw [results_rdv, hr]; simp [hrun, hrun2]
  exact leavesM (ha.defers.trans hD) hres ⟨_, m, rfl, ⟨v, v2, rfl, hv, hv2⟩, hw.le, hw.new, hw.sees, hJ _ _ _ hw.jj.1⟩ he
theorem Z_ret3 {e : Exit} {r1 r2 r3 : ResultVar} (hr : fn.results = #[r1, r2, r3]) (h1 : Rv K s r1 x) (h2 : Rv K s r2 y) (h3 : Rv K s r3 z) (hD : K.D = [] := by rfl) (hJ : ∀ m S w, K.J m S w → Below K.B0 K.w0 w := by exact fun _ _ _ h => And.left h) (he : e = .ret ∨ e = .normal := by first | exact .inl rfl | exact .inr rfl) :
    Z K s e (bodyPostM Fence.wide 0 P fn (Post K.m0 K.w0 (.t3 x y z))) := by
  intro m β γ κ a w ha hw
  obtain ⟨v, hv, hrun⟩ := h1 m β γ κ a w ha hw
  obtain ⟨v2, hv2, hrun2⟩ := h2 m β γ κ a w ha hw
  obtain ⟨v3, hv3, hrun3⟩ := h3 m β γ κ a w ha hw
  have hres : (results fn a.tmps).run P w = .ok (.tuple #[v, v2, v3]) w := by
    rw [results_rdv, hr]; simp [hrun, hrun2, hrun3]
  exact leavesM (ha.defers.trans hD) hres ⟨_, m, rfl, ⟨v, v2, v3, rfl, hv, hv2, hv3⟩, hw.le, hw.new, hw.sees, hJ _ _ _ hw.jj.1⟩ he
/-! ## Branches -/
theorem T_cond {i : Nat} {b : Bool} {c e : Code} (h : lk s.sl i = some (.d b)) (ht : b = true → T K s c Q) (hf : b = false → T K s e Q) : T K s (.cond (.tmp i) c e) Q := by
  intro m β γ κ a w ha hw
  have ev := bool_of (P := P) (e_t h m β γ a ha)
  exact wpIn_cond_split ev (fun hb => ht hb m β γ κ a w ha hw) (fun hb => hf hb m β γ κ a w ha hw)
/-! ## Calls -/
def EvAll (K : Cx) (s : St P) : List Operand → List (AV P) → Prop
  | [], [] => True
  | o :: os, x :: xs => Ev K s o x ∧ EvAll K s os xs
  | _, _ => False
theorem EvAll.hold {m : Snap} {β : Nat → Nat} {γ : Nat → Value} {a : Act} (ha : AH K m β γ s.sl a) : ∀ {os : List Operand} {xs : List (AV P)}, allClosed xs = true → EvAll K s os xs → AllHold m (os.map a.eval) xs
  | [], [], _, _ => trivial
  | o :: os, x :: xs, hc, h => by
    simp only [allClosed, Bool.and_eq_true] at hc
    exact ⟨AV.closed_holds hc.1 (h.1 m β γ a ha), EvAll.hold ha hc.2 h.2⟩
  | [], _ :: _, _, h => h.elim
  | _ :: _, [], _, h => h.elim
theorem run_call {f : FuncId} {os : List Operand} {tys : Array TypeId} {fn : Func} {a : Act} {w : World} {dst : Option Tmp} (hf : P.funcs[f]? = some fn) (hb : fn.body.isNone = false) (hn : (fn.name == "runtime.NumGoroutine") = false) :
    (execOp a.eval ⟨dst, .call ⟨.value (.func f), os.toArray, tys⟩, ty, pos, aft, g⟩).run P w = .ok (.enter f (os.map a.eval).toArray) w := by
  have hn' : ¬ fn.name = "runtime.NumGoroutine" := by simpa using hn
  have hb' : ¬ fn.body = none := by intro h; rw [h] at hb; cases hb
  simp [execOp, resolve, Act.eval, hf, hb', hn', Deferred.ofValue, invoke, callFunc]
/-- What is written again at a call's end: the class of worlds, over more knowledge. -/
theorem WH.call {m m' : Snap} {β : Nat → Nat} {γ : Nat → Value} {κ : Nat → List Value} {B : Bs P} {w w' : World} (h : WH K m β γ κ B w) (hle : Snap.le m m') (hnew : ∀ b i v, m' b i = some v → m b i = some v ∨ w.heap.size ≤ b)
    (hs : ∀ b i v, m' b i = some v → w'.cell? ⟨b, i, none⟩ = some v) (hb : Below w.heap.size w w') : WH K m' β γ κ B w' := by
  have h' := h.below_call hb
  have hm : ∀ b i, b < w.heap.size → m b i = none → m' b i = none := fun b i hb' hi => by
    cases hq : m' b i with
    | none => rfl
    | some v => rcases hnew b i v hq with h1 | h1
                · rw [hi] at h1; cases h1
                · omega
  have hlt : ∀ b o, w.heap[b]? = some o → b < w.heap.size := fun b o ho => by
    rcases Nat.lt_or_ge b w.heap.size with hl | hl
    · exact hl
    · rw [Array.getElem?_eq_none hl] at ho; cases ho
  refine ⟨hs, Snap.le_trans h.le hle, fun b i v hv => ?_, fun y bv hy => ?_, h.inj, fun y gv hy => ?_, h.gbox, h.ginj, h.tie, h.go hb.os hb.tape hb.output hb.size (fun k hk _ => hb.block k hk) hle (fun b i v hv => (hnew b i v hv).imp id .inr) hs (fun _ h => .inl h)⟩
  · rcases hnew b i v hv with h1 | h1
    · exact h.new b i v h1
    · exact .inr (Nat.le_trans h.jj.2.1 h1)
  · obtain ⟨hT, hr, hB, hi⟩ := h'.box y bv hy
    obtain ⟨⟨T, hT0⟩, _⟩ := h.box y bv hy
    exact ⟨hT, bv.i.mono hle hr, hB, fun i => hm _ _ (hlt _ _ hT0) (hi i)⟩
  · exact (h.grow y gv hy).keep (fun b hv => hb.block b ((h.grow y gv hy).lt hv)) hle fun b i hv hi => hm b i ((h.grow y gv hy).lt hv) hi
theorem AH.mono {m m' : Snap} {β : Nat → Nat} {γ : Nat → Value} {sl : List (Nat × AV P)} {a : Act} (h : AH K m β γ sl a) (hle : Snap.le m m') : AH K m' β γ sl a :=
  ⟨h.defers, h.size, fun t x hx => let ⟨v, hv, hh⟩ := h.slot t x hx; ⟨v, hv, AV.holds_mono hle hh⟩⟩
theorem TL_call {f : FuncId} {os : List Operand} {tys : Array TypeId} {xs : List (AV P)} (hc : Fn P f xs x) (he : EvAll K s os xs) (hf : (P.funcs[f]?).any (fun fn => !fn.body.isNone && !(fn.name == "runtime.NumGoroutine")) = true)
    (k : TL K (s.put d x) ops Q rest) (hx : x.closed = true := by rfl) (hcl : allClosed xs = true := by rfl) (hd : Nat.ble (d + 1) K.n = true := by rfl) :
    TL K s ops Q (⟨some d, .call ⟨.value (.func f), os.toArray, tys⟩, ty, pos, aft, none⟩ :: rest) := by
  intro m β γ κ a w ha hw
  have hd' : d < K.n := Nat.le_of_ble_eq_true hd
  obtain ⟨fn, hfn, hq⟩ : ∃ fn, P.funcs[f]? = some fn ∧ (!fn.body.isNone && !(fn.name == "runtime.NumGoroutine")) = true := by
    cases hq : P.funcs[f]? with
    | none => rw [hq] at hf; cases hf
    | some fn => rw [hq] at hf; exact ⟨fn, rfl, hf⟩
  simp only [Bool.and_eq_true, Bool.not_eq_true'] at hq
  refine wpL_of (show Region.wanted _ _ = true from rfl) (by intro _ e; cases e) ?_
  unfold Oper.wp
  rw [run_call hfn hq.1 hq.2, Oper.upon_enter]
  refine (hc m w _ hw.sees (he.hold ha hcl)).mono ?_
  rintro e w' ⟨v, m', rfl, hv, hle, hnew, hs, hb⟩
  exact k m' β γ κ _ w' ((ha.mono hle).put hd' (AV.closed_holds hx hv)) (hw.call hle hnew hs hb)
/-- A datum that no memory bears: its value is one. -/
class Flat (P : Program) (α : Type) [Rp P α] : Prop where
  one : ∀ {m m' : Snap} {v v' : Value} {x : α}, vrel (P := P) m v x → vrel (P := P) m' v' x → v' = v
  ind : ∀ {m m' : Snap} {v : Value} {x : α}, vrel (P := P) m v x → vrel (P := P) m' v x
theorem Calls.flat {α : Type} [Rp P α] [Flat P α] {r : α} {f : FuncId} {args : Array Value} {m : Snap} {w : World} (h : Calls P f args w (Post (P := P) m w (.d r))) : ∃ v, ∀ m, vrel (P := P) m v r := by
  obtain ⟨e, w', fr, ⟨v, m', _, hv, _⟩, _⟩ := h []
  exact ⟨v, fun m => Flat.ind (P := P) hv⟩
/-- A call whose answer no memory bears, where an order is drawn. -/
theorem y_call {α : Type} [Rp P α] [Flat P α] {r : α} {f : FuncId} {os : List Operand} {tys : Array TypeId} {xs : List (AV P)} (hc : Fn P f xs (.d r)) (he : EvAll K s os xs)
    (hf : (P.funcs[f]?).any (fun fn => !fn.body.isNone && !(fn.name == "runtime.NumGoroutine")) = true) (hcl : allClosed xs = true := by rfl) :
    Y K s ⟨dst, .call ⟨.value (.func f), os.toArray, tys⟩, ty, pos, aft, g⟩ (.d r) := by
  intro m β γ κ a ha ⟨w0, hw0⟩
  obtain ⟨fn, hfn, hq⟩ : ∃ fn, P.funcs[f]? = some fn ∧ (!fn.body.isNone && !(fn.name == "runtime.NumGoroutine")) = true := by
    cases hq : P.funcs[f]? with
    | none => rw [hq] at hf; cases hf
    | some fn => rw [hq] at hf; exact ⟨fn, rfl, hf⟩
  simp only [Bool.and_eq_true, Bool.not_eq_true'] at hq
  obtain ⟨v, hv⟩ := Calls.flat (hc m w0 _ hw0.sees (he.hold ha hcl))
  refine ⟨v, hv m, fun w hw => ?_⟩
  unfold Oper.quietAt
  rw [run_call hfn hq.1 hq.2]
  refine ⟨rfl, (hc m w _ hw.sees (he.hold ha hcl)).mono ?_⟩
  rintro e w' ⟨v', m', rfl, hv', hle, hnew, hs, hb⟩
  exact ⟨by rw [Flat.one (hv m) hv'], hw.below_call hb⟩
end ops
end Go.Ph
namespace Go.Ph
universe u
open Go.RowKit (Below)
variable {P : Program}
/-! ## Structs: as rows of pairs -/
instance rpProd (α δ : Type) [Rp P α] [Rp P δ] : Rp P (α × δ) where
  sz := Rp.sz P α + Rp.sz P δ
  agg := true
  rel := fun m cs x => ∃ a b, cs = a ++ b ∧ Rp.rel P m a x.1 ∧ Rp.rel P m b x.2
  len := by rintro m cs x ⟨a, b, rfl, h1, h2⟩; simp [Rp.len h1, Rp.len h2]
  ok := by
    rintro m cs x ⟨a, b, rfl, h1, h2⟩ c hc
    rcases List.mem_append.1 hc with hc | hc
    · exact Rp.ok h1 c hc
    · exact Rp.ok h2 c hc
  one := by intro h; cases h
  mono := by rintro m m' cs x hle ⟨a, b, rfl, h1, h2⟩; exact ⟨a, b, rfl, Rp.mono hle h1, Rp.mono hle h2⟩
/-- A struct of one field, too, is an aggregate. -/
structure One (α : Type) where
  x : α
instance rpOne (α : Type) [Rp P α] : Rp P (One α) where
  sz := Rp.sz P α
  agg := true
  rel := fun m cs x => Rp.rel P m cs x.x
  len := Rp.len
  ok := Rp.ok
  one := by intro h; cases h
  mono := Rp.mono
/-- A struct of a name of its own stands as the row of its fields. -/
@[reducible] def Rp.via {σ τ : Type} [Rp P τ] (to : σ → τ) : Rp P σ where
  sz := Rp.sz P τ
  agg := true
  rel := fun m cs x => Rp.rel P m cs (to x)
  len := Rp.len
  ok := Rp.ok
  one := by intro h; cases h
  mono := Rp.mono
theorem sub_fst {α δ : Type} [Rp P α] [Rp P δ] : Sub P 0 (fun x : α × δ => x.1) :=
  ⟨by rintro m cs x ⟨a, b, rfl, h1, h2⟩; rw [List.drop_zero, ← Rp.len h1, List.take_left]; exact h1⟩
theorem sub_snd {α δ : Type} [Rp P α] [Rp P δ] : Sub P (Rp.sz P α) (fun x : α × δ => x.2) :=
  ⟨by rintro m cs x ⟨a, b, rfl, h1, h2⟩; rw [← Rp.len h1, List.drop_left, ← Rp.len h2, List.take_length]; exact h2⟩
theorem put_fst {α δ : Type} [Rp P α] [Rp P δ] : Put P 0 (fun (x : α × δ) y => (y, x.2)) :=
  ⟨by
    rintro m cs x ds y ⟨a, b, rfl, h1, h2⟩ hy
    refine ⟨ds, b, ?_, hy, h2⟩
    have : a.length = ds.length := by rw [Rp.len h1, Rp.len hy]
    rw [List.take_zero, List.nil_append, Nat.zero_add, ← this, List.drop_left]⟩
theorem put_snd {α δ : Type} [Rp P α] [Rp P δ] : Put P (Rp.sz P α) (fun (x : α × δ) y => (x.1, y)) :=
  ⟨by
    rintro m cs x ds y ⟨a, b, rfl, h1, h2⟩ hy
    refine ⟨a, ds, ?_, h1, hy⟩
    have : b.length = ds.length := by rw [Rp.len h2, Rp.len hy]
    rw [← Rp.len h1, List.take_left, ← this, ← List.length_append, List.drop_length, List.append_nil]⟩
theorem sub_snd' {α δ ε : Type} [Rp P α] [Rp P δ] [Rp P ε] {off : Nat} {g : δ → ε} (h : Sub P off g) : Sub P (Rp.sz P α + off) (fun x : α × δ => g x.2) := by
  refine ⟨?_⟩
  rintro m cs x ⟨a, b, rfl, h1, h2⟩
  have := h.sub h2
  rw [← Rp.len h1, ← List.drop_drop, List.drop_left]; exact this
theorem put_snd' {α δ ε : Type} [Rp P α] [Rp P δ] [Rp P ε] {off : Nat} {g : δ → ε → δ} (h : Put P off g) : Put P (Rp.sz P α + off) (fun (x : α × δ) y => (x.1, g x.2 y)) := by
  refine ⟨?_⟩
  rintro m cs x ds y ⟨a, b, rfl, h1, h2⟩ hy
  refine ⟨a, _, ?_, h1, h.put h2 hy⟩
  rw [← Rp.len h1]
  have e1 : (a ++ b).take (a.length + off) = a ++ b.take off := by rw [List.take_append, List.take_of_length_le (by omega), Nat.add_sub_cancel_left]
  have e2 : (a ++ b).drop (a.length + off + ds.length) = b.drop (off + ds.length) := by rw [Nat.add_assoc, ← List.drop_drop, List.drop_left]
  rw [e1, e2]; simp
theorem flatRel_rep {α : Type} [Rp P α] {m : Snap} {c : Value} {x : α} (h : Rp.rel P m [c] x) : ∀ n, flatRel (P := P) m (List.replicate n c) (List.replicate n x)
  | 0 => rfl
  | n + 1 => ⟨[c], List.replicate n c, rfl, h, flatRel_rep h n⟩
theorem rel_vec_rep {α : Type} [Rp P α] {m : Snap} {c : Value} {x : α} {n : Nat} (h : Rp.rel P m [c] x) : Rp.rel P m (List.replicate n c) (Vector.replicate n x) := by
  show flatRel (P := P) m _ (Vector.replicate n x).toList
  rw [Vector.toList_replicate]
  exact flatRel_rep h n
theorem sub_one {α : Type} [Rp P α] : Sub P 0 (fun x : One α => x.x) := ⟨fun {m cs x} h => (Sub.self (P := P) (α := α)).sub (x := x.x) h⟩
theorem put_one {α : Type} [Rp P α] : Put P 0 (fun (_ : One α) y => (⟨y⟩ : One α)) := ⟨fun {m cs x ds y} h k => (Put.self (P := P) (α := α)).put (x := x.x) h k⟩
theorem zslice {α : Type} [Rp P α] {m : Snap} : Rp.rel P m [.slice none 0 0] ([] : List α) := ⟨_, rfl, ⟨none, 0, rfl, Nat.le_refl _, fun h => absurd rfl h⟩, by simp⟩
theorem Zero.of {t : TypeId} {α : Type} [Rp P α] {z : α} {v : Value} (cs : List Value) (h : ∀ w, (zeroValue t).run P w = .ok v w) (hc : v.cells.toList = cs) (ha : isAggV v = Rp.agg P α) (hr : ∀ m, Rp.rel P m cs z) : Zero P t z :=
  ⟨v, h, fun m => ⟨by rw [hc]; exact hr m, ha⟩⟩
/-! ## Equality -/
structure EqT (P : Program) (n : Nat) (t : TypeId) (α : Type) [Rp P α] [DecidableEq α] : Prop where
  eq : ∀ {d : Nat} {m : Snap} {v v' : Value} {x y : α} {w : World}, n ≤ d → vrel (P := P) m v x → vrel (P := P) m v' y → (Op.equalIn d t v v').run P w = .ok (decide (x = y)) w
theorem eqT_int {t : TypeId} {k : IntKind} (h : P.underlying t = some (.int k)) : EqT P 1 t Int :=
  ⟨fun {d m v v' x y w} hd hv hv' => by
    obtain ⟨d, rfl⟩ : ∃ k, d = k + 1 := ⟨d - 1, by omega⟩
    rw [(int_of hv).1, (int_of hv').1, run_equalIn_int w d t _ k x y h]
    rfl⟩
theorem eqT_bool {t : TypeId} (h : P.underlying t = some .bool) : EqT P 1 t Bool :=
  ⟨fun {d m v v' x y w} hd hv hv' => by
    obtain ⟨d, rfl⟩ : ∃ k, d = k + 1 := ⟨d - 1, by omega⟩
    rw [bool_of hv, bool_of hv', run_equalIn_bool' w d t x y h]
    congr 1⟩
theorem eqT_u8 {t : TypeId} {k : IntKind} (h : P.underlying t = some (.int k)) : EqT P 1 t UInt8 :=
  ⟨fun {d m v v' x y w} hd hv hv' => by
    obtain ⟨d, rfl⟩ : ∃ k, d = k + 1 := ⟨d - 1, by omega⟩
    rw [u8_of hv, u8_of hv', run_equalIn_int w d t _ k _ _ h]
    congr 1
    rw [Bool.eq_iff_iff]
    simp only [beq_iff_eq, decide_eq_true_eq]
    constructor
    · intro e; exact UInt8.toNat_inj.1 (by omega)
    · rintro rfl; rfl⟩
/-- A part of an aggregate, as a value. -/
theorem run_part {α δ : Type} [Rp P α] [Rp P δ] {m : Snap} {off : Nat} {t : TypeId} {cs : List Value} {x : α} {get : α → δ} {w : World} (h : Sub P off get) (ht : Ty P t δ) (hr : Rp.rel P m cs x) :
    (part t cs.toArray off).run P w = .ok (mkV (Rp.agg P δ) ((cs.drop off).take (Rp.sz P δ))) w := by
  have hs := h.sub hr
  simp only [part, Sem.run_bind, ht.agg, Result.andThen_ok]
  cases ha : Rp.agg P δ with
  | true =>
    simp only [if_true, ht.size, Sem.run_bind, Result.andThen_ok, Sem.run_pure]
    congr 1
    simp only [mkV, if_true]
    congr 1
    simp
  | false =>
    obtain ⟨c, hc, _⟩ := rel_single ha hs
    have hone := Rp.one (P := P) ha
    rw [hc]
    have : cs[off]? = some c := by
      have h0 : ((cs.drop off).take (Rp.sz P δ))[0]? = some c := by rw [hc]; rfl
      rw [hone] at h0
      simpa [List.getElem?_take, List.getElem?_drop] using h0
    simp [this, mkV]
theorem run_eqItems {α : Type} [Rp P α] [DecidableEq α] {n d : Nat} {e : TypeId} (he : EqT P n e α) (ht : Ty P e α) (hd : n ≤ d) {m : Snap} {xs ys : List α} {cs ds : List Value} (hx : flatRel (P := P) m cs xs) (hy : flatRel (P := P) m ds ys) {w : World} :
    ∀ (k i : Nat), xs.length = i + k → ys.length = i + k → (Op.eqItems d e (Rp.sz P α) cs.toArray ds.toArray (List.range' i k)).run P w = .ok (decide (xs.drop i = ys.drop i)) w
  | 0, i, h1, h2 => by
    rw [List.drop_eq_nil_of_le (by omega), List.drop_eq_nil_of_le (by omega)]; rfl
  | k + 1, i, h1, h2 => by
    have hxi : xs[i]? = some xs[i] := List.getElem?_eq_getElem (by omega)
    have hyi : ys[i]? = some ys[i] := List.getElem?_eq_getElem (by omega)
    have rx := flat_get hx hxi
    have ry := flat_get hy hyi
    have px : (part e cs.toArray (i * Rp.sz P α)).run P w = .ok (mkV (Rp.agg P α) ((cs.drop (i * Rp.sz P α)).take (Rp.sz P α))) w := by
      simp only [part, Sem.run_bind, ht.agg, Result.andThen_ok]
      cases ha : Rp.agg P α with
      | true =>
        simp only [if_true, ht.size, Sem.run_bind, Result.andThen_ok, Sem.run_pure, mkV]
        congr 2
        simp
      | false =>
        obtain ⟨c, hc, _⟩ := rel_single ha rx
        have hone := Rp.one (P := P) ha
        rw [hc]
        have : cs[i * Rp.sz P α]? = some c := by
          have h0 : ((cs.drop (i * Rp.sz P α)).take (Rp.sz P α))[0]? = some c := by rw [hc]; rfl
          rw [hone] at h0 ⊢
          simpa [List.getElem?_take, List.getElem?_drop] using h0
        simp [this, mkV]
    have py : (part e ds.toArray (i * Rp.sz P α)).run P w = .ok (mkV (Rp.agg P α) ((ds.drop (i * Rp.sz P α)).take (Rp.sz P α))) w := by
      simp only [part, Sem.run_bind, ht.agg, Result.andThen_ok]
      cases ha : Rp.agg P α with
      | true =>
        simp only [if_true, ht.size, Sem.run_bind, Result.andThen_ok, Sem.run_pure, mkV]
        congr 2
        simp
      | false =>
        obtain ⟨c, hc, _⟩ := rel_single ha ry
        have hone := Rp.one (P := P) ha
        rw [hc]
        have : ds[i * Rp.sz P α]? = some c := by
          have h0 : ((ds.drop (i * Rp.sz P α)).take (Rp.sz P α))[0]? = some c := by rw [hc]; rfl
          rw [hone] at h0 ⊢
          simpa [List.getElem?_take, List.getElem?_drop] using h0
        simp [this, mkV]
    have hq := he.eq (w := w) hd (vrel_mkV rx) (vrel_mkV ry)
    have ih := run_eqItems he ht hd hx hy (w := w) k (i + 1) (by omega) (by omega)
    simp only [List.range'_succ, Op.eqItems, Sem.run_bind, px, py, Result.andThen_ok, hq]
    have hd2 : decide (xs.drop i = ys.drop i) = (decide (xs[i] = ys[i]) && decide (xs.drop (i + 1) = ys.drop (i + 1))) := by
      rw [Bool.eq_iff_iff, Bool.and_eq_true, decide_eq_true_eq, decide_eq_true_eq, decide_eq_true_eq, List.drop_eq_getElem_cons (i := i) (l := xs) (by omega), List.drop_eq_getElem_cons (i := i) (l := ys) (by omega), List.cons_eq_cons]
    rw [hd2]
    by_cases h : xs[i] = ys[i]
    · simp [h, ih]
    · simp [h]
theorem eqT_vec {t e : TypeId} {len n : Nat} {α : Type} [Rp P α] [DecidableEq α] (h : P.underlying t = some (.array len e)) (hi : (P.info? e).map (·.size) = some (Rp.sz P α)) (he : EqT P n e α) (ht : Ty P e α) : EqT P (n + 1) t (Vector α len) := by
  refine ⟨fun {d m v v' x y w} hd hv hv' => ?_⟩
  obtain ⟨d, rfl⟩ : ∃ k, d = k + 1 := ⟨d - 1, by omega⟩
  obtain ⟨i, hi1, hi2⟩ : ∃ i, P.info? e = some i ∧ i.size = Rp.sz P α := by
    cases hq : P.info? e with
    | none => rw [hq] at hi; cases hi
    | some i => rw [hq] at hi; exact ⟨i, rfl, by simpa using hi⟩
  have ex := vrel.eq_mkV hv
  have ey := vrel.eq_mkV hv'
  have hc : P.cellsOf e = Rp.sz P α := by simp [Program.cellsOf, hi1, hi2]
  rw [ex, ey]
  show (Op.equalIn (d + 1) t (.agg v.cells.toList.toArray) (.agg v'.cells.toList.toArray)).run P w = _
  rw [run_equalIn_array w d _ _ h hi1, hc, List.range_eq_range']
  have := run_eqItems he ht (d := d) (by omega) hv.1 hv'.1 (w := w) len 0 (by simp) (by simp)
  rw [this]
  congr 1
  rw [Bool.eq_iff_iff]
  simp only [List.drop_zero, decide_eq_true_eq]
  exact ⟨fun h => Vector.toList_inj.1 h, fun h => by rw [h]⟩
/-- One field's part of a struct's equality. -/
theorem run_eqField {α δ : Type} [Rp P α] [Rp P δ] [DecidableEq δ] {n d : Nat} {m : Snap} {cs ds : List Value} {x y : α} {get : α → δ} {f : Field} {fs : List Field} {w : World} {r : Bool} (hx : Rp.rel P m cs x) (hy : Rp.rel P m ds y) (hn : f.name ≠ "_")
    (hs : Sub P f.offset get) (ht : Ty P f.type δ) (he : EqT P n f.type δ) (hd : n ≤ d) (hr : (Op.eqFields d cs.toArray ds.toArray fs).run P w = .ok r w) :
    (Op.eqFields d cs.toArray ds.toArray (f :: fs)).run P w = .ok (decide (get x = get y) && r) w := by
  have px := run_part (w := w) hs ht hx
  have py := run_part (w := w) hs ht hy
  have hq := he.eq (w := w) hd (vrel_mkV (hs.sub hx)) (vrel_mkV (hs.sub hy))
  simp only [Op.eqFields, hn, ne_eq, not_false_eq_true, if_true, Sem.run_bind, px, py, Result.andThen_ok, hq]
  by_cases h : get x = get y
  · simp [h, hr]
  · simp [h]
theorem eqT_struct {α : Type} [Rp P α] [DecidableEq α] {t : TypeId} {n : Nat} {fs : Array Field} (h : P.underlying t = some (.struct fs)) (hp : P.stoodInHeld t = false) (hagg : Rp.agg P α = true)
    (hf : ∀ {d : Nat} {m : Snap} {cs ds : List Value} {x y : α} {w : World}, n ≤ d → Rp.rel P m cs x → Rp.rel P m ds y → (Op.eqFields d cs.toArray ds.toArray fs.toList).run P w = .ok (decide (x = y)) w) : EqT P (n + 1) t α := by
  refine ⟨fun {d m v v' x y w} hd hv hv' => ?_⟩
  obtain ⟨d, rfl⟩ : ∃ k, d = k + 1 := ⟨d - 1, by omega⟩
  have ex := vrel.eq_mkV hv
  have ey := vrel.eq_mkV hv'
  rw [ex, ey, hagg]
  show (Op.equalIn (d + 1) t (.agg v.cells.toList.toArray) (.agg v'.cells.toList.toArray)).run P w = _
  have hfs : P.fieldsOf t = fs := by simp [Program.fieldsOf, h]
  rw [run_equalIn_struct w d t _ _ (by rw [hfs]; exact h) hp, hfs]
  exact hf (by omega) hv.1 hv'.1
section ops
variable {K : Cx} {s : St P} {t t' ty : TypeId} {pos : String} {aft : Array Edge} {g : Option (Nat × Bool)} {dst : Option Tmp} {o o' o'' : Operand}
theorem y_eqlT {α : Type} [Rp P α] [DecidableEq α] {n : Nat} {x y : α} (hx : Ev K s o (.d x)) (hy : Ev K s o' (.d y)) (he : EqT P n t α) (hagg : Rp.agg P α = true) (hg : P.eqGuardType P.depth t = false) (hn : Nat.ble n 10000 = true := by rfl) :
    Y K s ⟨dst, .binOp .eql t o o' t', ty, pos, aft, g⟩ (.d (P := P) (decide (x = y))) := by
  refine Y.of_run fun m β γ κ a ha _ => ⟨.bool (decide (x = y)), vbool m _, fun w _ => ?_⟩
  have h1 := hx m β γ a ha
  have h2 := hy m β γ a ha
  have e1 := vrel.eq_mkV h1
  have e2 := vrel.eq_mkV h2
  have hq := he.eq (w := w) (d := 10000) (Nat.le_of_ble_eq_true hn) h1 h2
  rw [hagg] at e1 e2
  generalize (a.eval o).cells.toList = c1 at e1
  generalize (a.eval o').cells.toList = c2 at e2
  have e1' : a.eval o = .agg c1.toArray := e1
  have e2' : a.eval o' = .agg c2.toArray := e2
  rw [e1', e2'] at hq
  simp only [execOp, e1', e2', Sem.run_bind, run_eqGuard_agg w .eql t o o' _ _ hg, Result.andThen_ok, run_eql_struct, hq]
  rfl
theorem y_neqT {α : Type} [Rp P α] [DecidableEq α] {n : Nat} {x y : α} (hx : Ev K s o (.d x)) (hy : Ev K s o' (.d y)) (he : EqT P n t α) (hagg : Rp.agg P α = true) (hg : P.eqGuardType P.depth t = false) (hn : Nat.ble n 10000 = true := by rfl) :
    Y K s ⟨dst, .binOp .neq t o o' t', ty, pos, aft, g⟩ (.d (P := P) (!decide (x = y))) := by
  refine Y.of_run fun m β γ κ a ha _ => ⟨.bool (!decide (x = y)), vbool m _, fun w _ => ?_⟩
  have h1 := hx m β γ a ha
  have h2 := hy m β γ a ha
  have e1 := vrel.eq_mkV h1
  have e2 := vrel.eq_mkV h2
  have hq := he.eq (w := w) (d := 10000) (Nat.le_of_ble_eq_true hn) h1 h2
  rw [hagg] at e1 e2
  generalize (a.eval o).cells.toList = c1 at e1
  generalize (a.eval o').cells.toList = c2 at e2
  have e1' : a.eval o = .agg c1.toArray := e1
  have e2' : a.eval o' = .agg c2.toArray := e2
  rw [e1', e2'] at hq
  simp only [execOp, e1', e2', Sem.run_bind, run_eqGuard_agg w .neq t o o' _ _ hg, Result.andThen_ok, run_neq_struct, hq]
  rfl
end ops
end Go.Ph
namespace Go.Ph
universe u
open Go.RowKit (Below)
variable {P : Program}
/-! Guarded operations: 'j' names the operation whose answer decides. -/
section ops
variable {K : Cx} {s s' : St P} {sl sl' : List (Nat × AV P)} {B : Bs P} {ops : Array Oper} {Q : Exit → Act → World → Prop} {rest : List Oper} {x : AV P} {d dj j : Nat} {op : Op} {t t' ty : TypeId} {pos : String} {aft : Array Edge} {g : Option (Nat × Bool)} {dst : Option Tmp} {o o' o'' : Operand} {b want : Bool}
theorem yielded_of {m : Snap} {β : Nat → Nat} {γ : Nat → Value} {a : Act} (ha : AH K m β γ sl a) (hj : (ops[j]?).bind (·.dst) = some dj) (hb : lk sl dj = some (.d b)) : yielded ops a.tmps j = some b := by
  obtain ⟨v, hv, hx⟩ := ha.slot dj _ hb
  have e := bool_of (P := P) hx
  unfold yielded
  rw [hj, Option.bind_some, hv, e]
/-- A guarded operation that is carried out: the guard is struck. -/
theorem TL_want (hb : lk s.sl dj = some (.d b)) (hw : b = want) (k : TL K s ops Q (⟨dst, op, ty, pos, aft, none⟩ :: rest)) (hj : (ops[j]?).bind (·.dst) = some dj := by rfl) :
    TL K s ops Q (⟨dst, op, ty, pos, aft, some (j, want)⟩ :: rest) := by
  intro m β γ κ a w ha hw'
  have hy := yielded_of (ops := ops) (j := j) ha hj hb
  have := k m β γ κ a w ha hw'
  unfold wpListIn at this ⊢
  rw [if_pos (show Region.wanted _ _ = true from rfl)] at this
  rw [if_pos (by simp [Region.wanted, hy, hw])]
  exact this
/-- A guarded operation that is passed over. -/
theorem TL_skip (hb : lk s.sl dj = some (.d b)) (hw : b ≠ want) (k : TL K (s.put d (.x undef)) ops Q rest) (hj : (ops[j]?).bind (·.dst) = some dj := by rfl) (hd : Nat.ble (d + 1) K.n = true := by rfl) :
    TL K s ops Q (⟨some d, op, ty, pos, aft, some (j, want)⟩ :: rest) := by
  intro m β γ κ a w ha hw'
  have hd' : d < K.n := Nat.le_of_ble_eq_true hd
  have hy := yielded_of (ops := ops) (j := j) ha hj hb
  refine wpL_skip (by simp [Region.wanted, hy, hw]) ?_
  exact k m β γ κ _ w (ha.put hd' rfl) hw'
theorem TQ_want (hb : lk sl dj = some (.d b)) (hw : b = want) (k : TQ K B ops Q (⟨dst, op, ty, pos, aft, none⟩ :: rest) sl) (hj : (ops[j]?).bind (·.dst) = some dj := by rfl) :
    TQ K B ops Q (⟨dst, op, ty, pos, aft, some (j, want)⟩ :: rest) sl := by
  intro m β γ κ a ha hw'
  have hy := yielded_of (ops := ops) (j := j) ha hj hb
  have := k m β γ κ a ha hw'
  unfold wpQuiet at this ⊢
  rw [if_pos (show Region.wanted _ _ = true from rfl)] at this
  rw [if_pos (by simp [Region.wanted, hy, hw])]
  exact this
theorem TQ_skip (hb : lk sl dj = some (.d b)) (hw : b ≠ want) (k : TQ K B ops Q rest ((d, .x undef) :: sl)) (hj : (ops[j]?).bind (·.dst) = some dj := by rfl) (hd : Nat.ble (d + 1) K.n = true := by rfl) :
    TQ K B ops Q (⟨some d, op, ty, pos, aft, some (j, want)⟩ :: rest) sl := by
  intro m β γ κ a ha hw'
  have hd' : d < K.n := Nat.le_of_ble_eq_true hd
  have hy := yielded_of (ops := ops) (j := j) ha hj hb
  unfold wpQuiet
  rw [if_neg (by simp [Region.wanted, hy, hw])]
  exact k m β γ κ _ (ha.put hd' rfl) hw'
/-- Passed over, and nothing said of its slot. -/
theorem TL_skip0 (hb : lk s.sl dj = some (.d b)) (hw : b = !want) (k : TL K s ops Q rest) (hf : lk s.sl d = none := by rfl) (hj : (ops[j]?).bind (·.dst) = some dj := by rfl) (hd : Nat.ble (d + 1) K.n = true := by rfl) :
    TL K s ops Q (⟨some d, op, ty, pos, aft, some (j, want)⟩ :: rest) :=
  TL_skip hb (by rw [hw]; cases want <;> simp) (TL_le (Le.refl s |>.fresh hf) k) hj hd
theorem TQ_skip0 (hb : lk sl dj = some (.d b)) (hw : b = !want) (k : TQ K B ops Q rest sl) (hf : lk sl d = none := by rfl) (hj : (ops[j]?).bind (·.dst) = some dj := by rfl) (hd : Nat.ble (d + 1) K.n = true := by rfl) :
    TQ K B ops Q (⟨some d, op, ty, pos, aft, some (j, want)⟩ :: rest) sl :=
  TQ_skip hb (by rw [hw]; cases want <;> simp) (TQ_le ((Le.refl (⟨sl, B⟩ : St P)).fresh hf).sl k) hj hd
/-- Passed over, its guard never having been asked. -/
theorem yielded_undef {m : Snap} {β : Nat → Nat} {γ : Nat → Value} {a : Act} (ha : AH K m β γ sl a) (hj : (ops[j]?).bind (·.dst) = some dj) (hb : lk sl dj = some (.x undef)) : yielded ops a.tmps j = none := by
  obtain ⟨v, hv, hx⟩ := ha.slot dj _ hb
  have e : v = undef := hx
  unfold yielded
  rw [hj, Option.bind_some, hv, e]
  rfl
theorem TL_skipu (hb : lk s.sl dj = some (.x undef)) (k : TL K s ops Q rest) (hf : lk s.sl d = none := by rfl) (hj : (ops[j]?).bind (·.dst) = some dj := by rfl) (hd : Nat.ble (d + 1) K.n = true := by rfl) :
    TL K s ops Q (⟨some d, op, ty, pos, aft, some (j, want)⟩ :: rest) := by
  intro m β γ κ a w ha hw'
  have hd' : d < K.n := Nat.le_of_ble_eq_true hd
  have hy := yielded_undef (ops := ops) (j := j) ha hj hb
  refine wpL_skip (by simp [Region.wanted, hy]) ?_
  exact (TL_le (Le.refl s |>.fresh hf) k) m β γ κ _ w (ha.put (x := .x undef) hd' rfl) hw'
theorem TQ_skipu (hb : lk sl dj = some (.x undef)) (k : TQ K B ops Q rest sl) (hf : lk sl d = none := by rfl) (hj : (ops[j]?).bind (·.dst) = some dj := by rfl) (hd : Nat.ble (d + 1) K.n = true := by rfl) :
    TQ K B ops Q (⟨some d, op, ty, pos, aft, some (j, want)⟩ :: rest) sl := by
  intro m β γ κ a ha hw'
  have hd' : d < K.n := Nat.le_of_ble_eq_true hd
  have hy := yielded_undef (ops := ops) (j := j) ha hj hb
  unfold wpQuiet
  rw [if_neg (by simp [Region.wanted, hy])]
  exact (TQ_le ((Le.refl (⟨sl, B⟩ : St P)).fresh hf).sl k) m β γ κ _ (ha.put (x := .x undef) hd' rfl) hw'
/-- 'b || c': two ways that meet. 'n': how many operations up to the pick and with it; 'p': the pick's slot. -/
theorem TL_or {L : List Oper} (n p : Nat) {b c : Bool} (hk : TL K (s.put p (.d (b || c))) ops Q (L.drop n)) (ht : b = true → TL K (s.put p (.d true)) ops Q (L.drop n) → TL K s ops Q L)
    (hf : b = false → TL K (s.put p (.d c)) ops Q (L.drop n) → TL K s ops Q L) : TL K s ops Q L := by
  cases b with
  | true => exact ht rfl hk
  | false => exact hf rfl hk
theorem TL_and {L : List Oper} (n p : Nat) {b c : Bool} (hk : TL K (s.put p (.d (b && c))) ops Q (L.drop n)) (hf : b = false → TL K (s.put p (.d false)) ops Q (L.drop n) → TL K s ops Q L)
    (ht : b = true → TL K (s.put p (.d c)) ops Q (L.drop n) → TL K s ops Q L) : TL K s ops Q L := by
  cases b with
  | true => exact ht rfl hk
  | false => exact hf rfl hk
theorem TQ_and {L : List Oper} (n p : Nat) {b c : Bool} (hk : TQ K B ops Q (L.drop n) ((p, .d (b && c)) :: sl)) (hf : b = false → TQ K B ops Q (L.drop n) ((p, .d false) :: sl) → TQ K B ops Q L sl)
    (ht : b = true → TQ K B ops Q (L.drop n) ((p, .d c) :: sl) → TQ K B ops Q L sl) : TQ K B ops Q L sl := by
  cases b with
  | true => exact ht rfl hk
  | false => exact hf rfl hk
/-- Slots that are fresh may be forgotten. -/
inductive Fr : List (Nat × AV P) → List (Nat × AV P) → Prop where
  | refl (sl : List (Nat × AV P)) : Fr sl sl
  | cons {sl sl' : List (Nat × AV P)} {d : Nat} {v : AV P} (h : Fr sl sl') (hf : lk sl d = none) : Fr sl ((d, v) :: sl')
theorem Fr.le {sl sl' : List (Nat × AV P)} (h : Fr sl sl') : ∀ t x, lk sl t = some x → lk sl' t = some x := by
  induction h with
  | refl => exact fun _ _ h => h
  | @cons sl' d v _ hf ih =>
    intro t x hx
    by_cases e : d = t
    · subst e; rw [hf] at hx; cases hx
    · rw [lk_cons_ne e]; exact ih t x hx
theorem TL_fr {v : AV P} {sl sl' : List (Nat × AV P)} {B : Bs P} (h : TL K (St.put ⟨sl, B⟩ d v) ops Q rest) (hf : Fr sl sl') : TL K (St.put ⟨sl', B⟩ d v) ops Q rest :=
  TL_le (Le.put (s := ⟨sl', B⟩) (s' := ⟨sl, B⟩) ⟨hf.le, fun _ _ h => h, fun _ _ h => h, fun _ h => h⟩) h
theorem TQ_fr {v : AV P} {sl sl' : List (Nat × AV P)} {B : Bs P} (h : TQ K B ops Q rest ((d, v) :: sl)) (hf : Fr sl sl') : TQ K B ops Q rest ((d, v) :: sl') := by
  refine TQ_le (fun t x hx => ?_) h
  by_cases e : d = t
  · subst e; rw [lk_cons_eq rfl] at hx ⊢; exact hx
  · rw [lk_cons_ne e] at hx ⊢; exact hf.le t x hx
end ops
end Go.Ph
namespace Go.Ph
universe u
open Go.RowKit (Below)
variable {P : Program}
/-! Partial operations, as the printed functions have them. -/
def ix {α : Type} (xs : List α) (i : Int) : Option α := if 0 ≤ i then xs[i.toNat]? else none
def vix {α : Type} {n : Nat} (v : Vector α n) (i : Int) : Option α := if 0 ≤ i then v[i.toNat]? else none
def slh {α : Type} (xs : List α) (h : Int) : Option (List α) := if 0 ≤ h ∧ h ≤ xs.length then some (xs.take h.toNat) else none
def app {α : Type} (xs ys : List α) : Option (List α) := if xs.length + ys.length ≤ 1048576 then some (xs ++ ys) else none
def toU8 (n : Int) : UInt8 := UInt8.ofNat (n % 256).toNat
def imin (a b : Int) : Int := if a ≤ b then a else b
theorem ix_some {α : Type} {xs : List α} {i : Int} {y : α} (h : ix xs i = some y) : 0 ≤ i ∧ xs[i.toNat]? = some y := by
  unfold ix at h; split at h
  · exact ⟨‹_›, h⟩
  · cases h
theorem vix_some {α : Type} {n : Nat} {v : Vector α n} {i : Int} {y : α} (h : vix v i = some y) : 0 ≤ i ∧ v[i.toNat]? = some y := by
  unfold vix at h; split at h
  · exact ⟨‹_›, h⟩
  · cases h
theorem app_some {α : Type} {xs ys zs : List α} (h : app xs ys = some zs) : zs = xs ++ ys ∧ xs.length + ys.length ≤ 1048576 := by
  unfold app at h; split at h
  · cases h; exact ⟨rfl, ‹_›⟩
  · cases h
theorem slh_some {α : Type} {xs zs : List α} {i : Int} (h : slh xs i = some zs) : zs = xs.take i.toNat ∧ 0 ≤ i ∧ i ≤ xs.length := by
  unfold slh at h; split at h
  · rename_i hc; cases h; exact ⟨rfl, hc⟩
  · cases h
section ops
variable {K : Cx} {s : St P} {ops : Array Oper} {Q : Exit → Act → World → Prop} {rest : List Oper} {d : Nat} {t t' t'' ty : TypeId} {pos : String} {aft : Array Edge} {g : Option (Nat × Bool)} {dst : Option Tmp} {o o' o'' : Operand}
theorem y_min {x y : Int} (hx : Ev K s o (.d x)) (hy : Ev K s o' (.d y)) : Y K s ⟨dst, .call ⟨.builtin .min, #[o, o'], #[t, t']⟩, ty, pos, aft, g⟩ (.d (P := P) (imin x y)) := by
  refine Y.of_run fun m β γ κ a ha _ => ?_
  obtain ⟨e1, b1⟩ := int_of (P := P) (hx m β γ a ha)
  obtain ⟨e2, b2⟩ := int_of (P := P) (hy m β γ a ha)
  refine ⟨.int .i64 (imin x y), vint m (by unfold imin; split <;> assumption), fun w _ => ?_⟩
  have : ∀ w : World, (Builtin.min_ #[t, t'] ty #[.int .i64 x, .int .i64 y]).run P w = .ok (.int .i64 (imin x y)) w := fun w => by
    simp [Builtin.min_, Builtin.min2, imin]
    split <;> simp_all <;> omega
  simp [execOp, resolve, invoke, builtin, e1, e2, this]
/-- 'x[:h]' of a slice -/
theorem y_slh {α : Type} [Rp P α] {xs ys : List α} {h : Int} (hx : Ev K s o (.d xs)) (hh : Ev K s o' (.d h)) (e : slh xs h = some ys) (ht : TySl P t α) :
    Y K s ⟨dst, .slice t o none (some o') none, ty, pos, aft, g⟩ (.d (P := P) ys) := by
  obtain ⟨rfl, h0, hl⟩ := slh_some e
  refine Y.of_run fun m β γ κ a ha _ => ?_
  obtain ⟨⟨ad, cap, e1, hc, hel⟩, hb⟩ := list_of (P := P) (hx m β γ a ha)
  have e2 := (int_of (P := P) (hh m β γ a ha)).1
  have hlen : (xs.take h.toNat).length = h.toNat := by rw [List.length_take]; omega
  refine ⟨.slice ad h.toNat cap, vlist ⟨⟨ad, cap, by rw [hlen], by omega, fun hne => ?_⟩, by omega⟩, fun w _ => ?_⟩
  · obtain ⟨b, off, rfl, hm⟩ := hel (by intro hq; subst hq; simp at hne)
    refine ⟨b, off, rfl, fun i x hi => hm i x ?_⟩
    rw [List.getElem?_take] at hi
    split at hi
    · exact hi
    · cases hi
  · have : ∀ w : World, (Instr.sliceAt t (.slice ad xs.length cap) none (some (.int .i64 h)) none).run P w = .ok (.slice ad h.toNat cap) w := fun w => by
      simp only [Instr.sliceAt, Sem.run_bind, run_underlying ht.un, Result.andThen_ok, Instr.slice, Instr.sliceBounds, Instr.sliceBound, asIntOf, ht.size]
      have h1 : (0 ≤ h ∧ h ≤ (cap : Int)) := ⟨h0, by omega⟩
      simp [h1]
      intro hc0
      cases ad <;> simp [Addr.add]
    simp [execOp, e1, e2, this]
/-! ### Integers of other kinds -/
theorem y_conv_u8 {x : UInt8} (hx : Ev K s o (.d x)) (hs : (P.underlying t).isSome = true) (hd : P.underlying t' = some (.int .i64)) : Y K s ⟨dst, .convert t t' o, ty, pos, aft, g⟩ (.d (P := P) (x.toNat : Int)) := by
  refine Y.of_run fun m β γ κ a ha _ => ?_
  have e := u8_of (P := P) (hx m β γ a ha)
  have hlt : x.toNat < 256 := x.toNat_lt
  refine ⟨.int .i64 x.toNat, vint m (by omega), fun w _ => ?_⟩
  have hk : P.intKind t' = .i64 := by simp [Program.intKind, hd]
  have hw : IntKind.i64.wrap (x.toNat : Int) = x.toNat := w64_eq (by omega)
  have := run_convert_int (P := P) w t t' .u8 x.toNat hs (by rw [hk]; exact hd)
  rw [hk, hw] at this
  simp [execOp, e, this]
theorem toU8_wrap (n : Int) : ((toU8 n).toNat : Int) = IntKind.u8.wrap n := by
  have e : IntKind.u8.wrap n = n % 256 := by simp [IntKind.wrap, IntKind.bits, IntKind.signed]
  rw [e]
  unfold toU8
  have : (n % 256).toNat < 256 := by omega
  rw [UInt8.toNat_ofNat']
  omega
theorem y_conv_to_u8 {x : Int} (hx : Ev K s o (.d x)) (hs : (P.underlying t).isSome = true) (hd : P.underlying t' = some (.int .u8)) : Y K s ⟨dst, .convert t t' o, ty, pos, aft, g⟩ (.d (P := P) (toU8 x)) := by
  refine Y.of_run fun m β γ κ a ha _ => ?_
  have e := (int_of (P := P) (hx m β γ a ha)).1
  refine ⟨.int .u8 (toU8 x).toNat, ⟨rfl, rfl⟩, fun w _ => ?_⟩
  have hk : P.intKind t' = .u8 := by simp [Program.intKind, hd]
  have := run_convert_int (P := P) w t t' .i64 x hs (by rw [hk]; exact hd)
  rw [hk, ← toU8_wrap] at this
  simp [execOp, e, this]
/-- the index of a range over a slice goes on -/
theorem y_inc {α : Type} [Rp P α] {i : Nat} {xs : List α} {q : Nat} (hi : Ev K s o (.d (i : Int))) (hx : lk s.sl q = some (.d xs)) (hlt : i < xs.length) :
    Y K s ⟨dst, .binOp .add t o (.const (.int .i64 1)) t', ty, pos, aft, g⟩ (.d (P := P) ((i + 1 : Nat) : Int)) := by
  intro m β γ κ a ha hw
  obtain ⟨_, hb⟩ := list_of (P := P) (e_t hx m β γ a ha)
  have e : w64 ((i : Int) + 1) = ((i + 1 : Nat) : Int) := by rw [w64_eq (by omega)]; omega
  rw [← e]
  exact y_add hi (e_i 1) m β γ κ a ha hw
/-- the index of a range over a number goes on -/
theorem y_incn {i : Nat} {n : Int} {q : Nat} (hi : Ev K s o (.d (i : Int))) (hx : lk s.sl q = some (.d n)) (hlt : (i : Int) < n) :
    Y K s ⟨dst, .binOp .add t o (.const (.int .i64 1)) t', ty, pos, aft, g⟩ (.d (P := P) ((i + 1 : Nat) : Int)) := by
  intro m β γ κ a ha hw
  have hb := (int_of (P := P) (e_t hx m β γ a ha)).2
  have e : w64 ((i : Int) + 1) = ((i + 1 : Nat) : Int) := by rw [w64_eq (by omega)]; omega
  rw [← e]
  exact y_add hi (e_i 1) m β γ κ a ha hw
/-! ### Arrays -/
structure TyAr (P : Program) (t : TypeId) (n : Nat) (α : Type) [Rp P α] : Prop where
  un : P.underlying t = some (.array n (P.elem t))
  len : P.arrayLen t = n
  size : ∀ w, (sizeOf (P.elem t)).run P w = .ok (Rp.sz P α) w
theorem sub_vec {α : Type} [Rp P α] {n i : Nat} (h : i < n) : Sub P (i * Rp.sz P α) (fun v : Vector α n => v[i]) :=
  ⟨fun {m cs x} hr => flat_get (P := P) hr (by simp [h])⟩
theorem flat_set {α : Type} [Rp P α] {m : Snap} : ∀ {xs : List α} {cs ds : List Value} {i : Nat} {y : α}, flatRel (P := P) m cs xs → i < xs.length → Rp.rel P m ds y →
    flatRel (P := P) m (cs.take (i * Rp.sz P α) ++ ds ++ cs.drop (i * Rp.sz P α + ds.length)) (xs.set i y)
  | [], _, _, _, _, _, h, _ => by simp at h
  | x :: xs, cs, ds, 0, y, ⟨a, b, e, h, r⟩, _, hy => by
    have : a.length = ds.length := by rw [Rp.len h, Rp.len hy]
    refine ⟨ds, b, ?_, hy, r⟩
    rw [e, Nat.zero_mul, List.take_zero, List.nil_append, Nat.zero_add, ← this, List.drop_left]
  | x :: xs, cs, ds, i + 1, y, ⟨a, b, e, h, r⟩, hi, hy => by
    have ih := flat_set (i := i) r (by simpa using hi) hy
    refine ⟨a, _, ?_, h, ih⟩
    have hl := Rp.len h
    rw [e, Nat.add_mul, Nat.one_mul, Nat.add_comm (i * Rp.sz P α), ← hl]
    have e1 : (a ++ b).take (a.length + i * a.length) = a ++ b.take (i * a.length) := by rw [List.take_append, List.take_of_length_le (by omega), Nat.add_sub_cancel_left]
    have e2 : (a ++ b).drop (a.length + i * a.length + ds.length) = b.drop (i * a.length + ds.length) := by rw [Nat.add_assoc, ← List.drop_drop, List.drop_left]
    rw [e1, e2]; simp
theorem put_vec {α : Type} [Rp P α] {n i : Nat} (h : i < n) : Put P (i * Rp.sz P α) (fun (v : Vector α n) y => v.set i y h) := by
  refine ⟨fun {m cs x ds y} hr hy => ?_⟩
  have := flat_set (P := P) (i := i) hr (by simpa using h) hy
  show flatRel (P := P) m _ (x.set i y h).toList
  rw [Vector.toList_set]; exact this
theorem y_indexAddr_arr {α : Type} [Rp P α] {n bx off : Nat} {i : Int} (hp : Ev K s o (.p bx off)) (hi : Ev K s o' (.d i)) (h0 : 0 ≤ i) (h1 : i.toNat < n) (ht : TyAr P t n α) :
    Y K s ⟨dst, .indexAddr t o o', ty, pos, aft, g⟩ (.p (P := P) bx (off + i.toNat * Rp.sz P α)) := by
  refine Y.of_run fun m β γ κ a ha _ => ⟨_, rfl, fun w _ => ?_⟩
  have e : a.eval o = .pointer (some ⟨β bx, off, none⟩) := hp m β γ a ha
  have e2 := (int_of (P := P) (hi m β γ a ha)).1
  have := run_indexAt_array (P := P) w t ⟨β bx, off, none⟩ .i64 i (by rw [ht.len]; exact ht.un)
  rw [ht.len, if_pos ⟨h0, by omega⟩, ht.size] at this
  simp only [Result.andThen_ok, addr_add] at this
  simp [execOp, e, e2, this]
/-- 'v[:]' of an array that nobody writes any more -/
theorem y_slice_arr {α : Type} [Rp P α] {n : Nat} {v : Vector α n} (hp : Ev K s o (.d (⟨v⟩ : Ptr (Vector α n)))) (ht : TyAr P t n α) (hn : n ≤ 9223372036854775807) :
    Y K s ⟨dst, .slice t o none none none, ty, pos, aft, g⟩ (.d (P := P) v.toList) := by
  refine Y.of_run fun m β γ κ a ha _ => ?_
  have hv := hp m β γ a ha
  have e := vrel.eq_mkV hv
  obtain ⟨⟨b, off, ds, hds, hr, hm⟩, h2⟩ := hv
  rw [hds] at e
  have e' : a.eval o = .pointer (some ⟨b, off, none⟩) := e
  refine ⟨.slice (some ⟨b, off, none⟩) n n, vlist ⟨⟨some ⟨b, off, none⟩, n, by simp, by simp, fun _ => ⟨b, off, rfl, fun i x hi => ⟨_, flat_get (P := P) hr hi, fun j c hj => ?_⟩⟩⟩, by simpa using hn⟩, fun w _ => ?_⟩
  · simp only [List.getElem?_take, List.getElem?_drop] at hj
    split at hj
    · rw [Nat.add_assoc]; exact hm _ _ hj
    · cases hj
  · have : ∀ w : World, (Instr.sliceAt t (.pointer (some ⟨b, off, none⟩)) none none none).run P w = .ok (.slice (some ⟨b, off, none⟩) n n) w := fun w => by
      simp only [Instr.sliceAt, Sem.run_bind, run_underlying ht.un, Result.andThen_ok, Instr.sliceBounds, Instr.sureAddr, Sem.run_pure, ht.size]
      simp [Addr.add]
    simp [execOp, e', this]
end ops
end Go.Ph
namespace Go.Ph
universe u
open Go.RowKit (Below)
variable {P : Program}
def offBx (d : Nat) : List (Nat × BV P) → Bool
  | [] => true
  | (b, _) :: r => !Nat.beq b d && offBx d r
theorem bx_off {d : Nat} : ∀ {bx : List (Nat × BV P)} {t : Nat} {x : BV P}, offBx d bx = true → lk bx t = some x → t ≠ d
  | [], _, _, _, h => by simp [lk] at h
  | (k, y) :: r, t, x, hf, h => by
    simp only [offBx, Bool.and_eq_true] at hf
    by_cases e : k = t
    · subst e; exact nbeq hf.1
    · rw [lk_cons_ne e] at h; exact bx_off hf.2 h
section ops
variable {K : Cx} {s : St P} {ops : Array Oper} {Q : Exit → Act → World → Prop} {rest : List Oper} {d : Nat} {t t' t'' ty : TypeId} {pos : String} {aft : Array Edge} {g : Option (Nat × Bool)} {dst : Option Tmp} {o o' o'' : Operand}
  {m : Snap} {β : Nat → Nat} {γ : Nat → Value} {κ : Nat → List Value} {B : Bs P} {w : World} {a : Act} {sl : List (Nat × AV P)} {bx : List (Nat × BV P)} {gr : List (Nat × GV P)} {ti : List ((Nat × Nat) × Nat)}
/-! ### A box that nobody writes any more -/
theorem freeze {α : Type} [Rp P α] {b q : Nat} {x : α} (ha : AH K m β γ ((q, .p b 0) :: sl) a) (hw : WH K m β γ κ ⟨(b, ⟨x⟩) :: bx, gr, ti⟩ w) (h2 : offBx b bx = true) :
    ∃ m', AH K m' β γ ((q, .d (⟨x⟩ : Ptr α)) :: sl) a ∧ WH K m' β γ κ ⟨bx, gr, ti⟩ w := by
  obtain ⟨⟨T, hT⟩, hrel, hB, hn⟩ := hw.box b _ (lk_cons_eq rfl)
  have hbx : ∀ y bv, lk bx y = some bv → y ≠ b ∧ lk ((b, (⟨x⟩ : BV P)) :: bx) y = some bv := fun y bv hy => ⟨bx_off h2 hy, by rw [lk_cons_ne (Ne.symm (bx_off h2 hy))]; exact hy⟩
  let m' : Snap := fun c i => if c = β b then (κ b)[i]? else m c i
  have hle : Snap.le m m' := fun c i v hv => by
    show (if c = β b then (κ b)[i]? else m c i) = some v
    by_cases e : c = β b
    · rw [e, hn] at hv; cases hv
    · rw [if_neg e]; exact hv
  refine ⟨m', ?_, fun c i v hv => ?_, Snap.le_trans hw.le hle, fun c i v hv => ?_, fun y bv hy => ?_, fun y z by' bz hy hz hne => ?_, fun y gv hy => ?_, fun y z gv bv hy hz => ?_, hw.ginj, hw.tie, ?_⟩
  · refine ⟨ha.defers, ha.size, fun u z hz => ?_⟩
    by_cases e : q = u
    · subst e
      rw [lk_cons_eq rfl] at hz; cases hz
      obtain ⟨v, hv, hh⟩ := ha.slot q _ (lk_cons_eq rfl)
      refine ⟨v, hv, ?_⟩
      have e2 : v = .pointer (some ⟨β b, 0, none⟩) := hh
      rw [e2]
      refine ⟨⟨β b, 0, κ b, rfl, Rp.mono (x := x) hle hrel, fun j c hc => ?_⟩, rfl⟩
      show (if β b = β b then (κ b)[0 + j]? else m _ _) = some c
      rw [if_pos rfl, Nat.zero_add]; exact hc
    · rw [lk_cons_ne e] at hz
      obtain ⟨v, hv, hh⟩ := ha.slot u z (by rw [lk_cons_ne e]; exact hz)
      exact ⟨v, hv, AV.holds_mono hle hh⟩
  · have hv' : (if c = β b then (κ b)[i]? else m c i) = some v := hv
    by_cases e : c = β b
    · rw [if_pos e] at hv'
      simp only [World.cell?, e, hT]
      simpa using hv'
    · rw [if_neg e] at hv'; exact hw.sees c i v hv'
  · have hv' : (if c = β b then (κ b)[i]? else m c i) = some v := hv
    by_cases e : c = β b
    · exact .inr (by rw [e]; exact hB)
    · rw [if_neg e] at hv'; exact hw.new c i v hv'
  · obtain ⟨hne, hy'⟩ := hbx y bv hy
    obtain ⟨hT', hr, hB', hn'⟩ := hw.box y bv hy'
    refine ⟨hT', bv.i.mono hle hr, hB', fun i => ?_⟩
    show (if β y = β b then (κ b)[i]? else m (β y) i) = none
    rw [if_neg (hw.inj y b _ _ hy' (lk_cons_eq rfl) hne)]; exact hn' i
  · exact hw.inj y z _ _ (hbx _ _ hy).2 (hbx _ _ hz).2 hne
  · refine (hw.grow y gv hy).keep (fun _ _ => rfl) hle fun c i hc hi => ?_
    show (if c = β b then (κ b)[i]? else m c i) = none
    rw [if_neg (fun e => hw.gbox y b gv _ hy (lk_cons_eq rfl) (by rw [hc, e]))]; exact hi
  · exact hw.gbox y z gv bv hy (hbx _ _ hz).2
  · refine hw.go rfl rfl rfl (Nat.le_refl _) (fun _ _ _ => rfl) hle (fun c i v hv => ?_) (fun c i v hv => ?_) ?_
    · have hv' : (if c = β b then (κ b)[i]? else m c i) = some v := hv
      by_cases e : c = β b
      · exact .inr (.inl (.inl ⟨b, _, lk_cons_eq rfl, e.symm⟩))
      · rw [if_neg e] at hv'; exact .inl hv'
    · have hv' : (if c = β b then (κ b)[i]? else m c i) = some v := hv
      by_cases e : c = β b
      · rw [if_pos e] at hv'
        simp only [World.cell?, e, hT]
        simpa using hv'
      · rw [if_neg e] at hv'; exact hw.sees c i v hv'
    · rintro c (⟨y, bv, h1, h3⟩ | hg)
      · exact .inl (.inl ⟨y, bv, (hbx y bv h1).2, h3⟩)
      · exact .inl (.inr hg)
theorem TL_freeze {α : Type} [Rp P α] {b q : Nat} {x : α} (h : TL K ⟨(q, .d (⟨x⟩ : Ptr α)) :: sl, ⟨bx, gr, ti⟩⟩ ops Q rest) (h2 : offBx b bx = true := by rfl) :
    TL K ⟨(q, .p b 0) :: sl, ⟨(b, ⟨x⟩) :: bx, gr, ti⟩⟩ ops Q rest := by
  intro m β γ κ a w ha hw
  obtain ⟨m', ha', hw'⟩ := freeze ha hw h2
  exact h m' β γ κ a w ha' hw'
theorem T_freeze {α : Type} [Rp P α] {b q : Nat} {x : α} {c : Code} (h : T K ⟨(q, .d (⟨x⟩ : Ptr α)) :: sl, ⟨bx, gr, ti⟩⟩ c Q) (h2 : offBx b bx = true := by rfl) :
    T K ⟨(q, .p b 0) :: sl, ⟨(b, ⟨x⟩) :: bx, gr, ti⟩⟩ c Q := by
  intro m β γ κ a w ha hw
  obtain ⟨m', ha', hw'⟩ := freeze ha hw h2
  exact h m' β γ κ a w ha' hw'
/-! ### Struct and array literals -/
def Bld (K : Cx) (s : St P) (place : Nat → Option (Nat × Nat)) {α : Type} [Rp P α] : α → List (Nat × Operand) → α → Prop
  | x, [], y => x = y
  | x, (i, o) :: ps, z => ∃ (δ : Type) (_ : Rp P δ) (off : Nat) (set : α → δ → α) (y : δ), Put P off set ∧ Ev K s o (.d y) ∧ place i = some (off, Rp.sz P δ) ∧ Bld K s place (set x y) ps z
theorem b_nil {place : Nat → Option (Nat × Nat)} {α : Type} [Rp P α] {x : α} : Bld K s place x [] x := rfl
theorem b_cons {place : Nat → Option (Nat × Nat)} {α δ : Type} [Rp P α] [Rp P δ] {i off : Nat} {x z : α} {ps : List (Nat × Operand)} {set : α → δ → α} {y : δ} (hy : Ev K s o (.d y)) (hp : Put P off set) (h : Bld K s place (set x y) ps z) (hi : place i = some (off, Rp.sz P δ) := by rfl) :
    Bld K s place x ((i, o) :: ps) z := ⟨δ, inferInstance, off, set, y, hp, hy, hi, h⟩
theorem fill_fold : ∀ (ds : List Value) (cs : List Value) (off k : Nat), off + k + ds.length ≤ cs.length →
    ((ds.zipIdx k).foldl (fun (cs : Array Value) (x : Value × Nat) => cs.setIfInBounds (off + x.2) x.1) cs.toArray) = (cs.take (off + k) ++ ds ++ cs.drop (off + k + ds.length)).toArray
  | [], cs, off, k, _ => by simp
  | v :: ds, cs, off, k, h => by
    simp only [List.zipIdx_cons, List.foldl_cons, List.setIfInBounds_toArray]
    simp only [List.length_cons] at h
    rw [fill_fold ds (cs.set (off + k) v) off (k + 1) (by rw [List.length_set]; omega)]
    have := list_seg_step cs (off + k) v ds (by omega)
    rw [← Nat.add_assoc]
    exact congrArg List.toArray this
theorem run_fill {α : Type} [Rp P α] {place : Nat → Option (Nat × Nat)} (ha : AH K m β γ s.sl a) : ∀ {ps : List (Nat × Operand)} {x z : α} {cs : List Value}, Bld K s place x ps z → Rp.rel P m cs x →
    (∀ i off sz, place i = some (off, sz) → off + sz ≤ Rp.sz P α) → ∃ ds, Instr.fill place cs.toArray (ps.map fun p => (p.1, a.eval p.2)) = some ds.toArray ∧ Rp.rel P m ds z
  | [], x, z, cs, h, hr, _ => ⟨cs, rfl, by have e : x = z := h; rw [← e]; exact hr⟩
  | (i, o) :: ps, x, z, cs, ⟨δ, inst, off, set, y, hp, hy, hi, h⟩, hr, hin => by
    obtain ⟨hv, _⟩ := hy m β γ a ha
    have hl := Rp.len hv
    have hl2 := Rp.len hr
    have hb := hin i off _ hi
    have hsz : (a.eval o).cells.size = Rp.sz P δ := by rw [← hl]; simp
    obtain ⟨ds, e, hd⟩ := run_fill ha h (hp.put hr hv) hin
    refine ⟨ds, ?_, hd⟩
    simp only [List.map_cons, Instr.fill, hi]
    rw [if_neg (by simp only [List.size_toArray, hsz]; simp; omega)]
    have hf := fill_fold (a.eval o).cells.toList cs off 0 (by rw [hl]; omega)
    simp only [Nat.add_zero] at hf
    have hz : (a.eval o).cells.zipIdx.foldl (fun cs x => cs.setIfInBounds (off + x.2) x.1) cs.toArray = (List.zipIdx (a.eval o).cells.toList).foldl (fun (cs : Array Value) (x : Value × Nat) => cs.setIfInBounds (off + x.2) x.1) cs.toArray := by
      rw [← Array.foldl_toList]; simp
    have := hz.trans hf
    rw [← e]
    congr 1
structure TyPl (P : Program) (t : TypeId) (place : Nat → Option (Nat × Nat)) (n : Nat) : Prop where
  run : ∀ (ps : Array (Nat × Value)) (cs ds : Array Value) (v : Value) (w : World), (∀ w, (zeroValue t).run P w = .ok v w) → v.cells = cs → Instr.fill place cs ps.toList = some ds → (Instr.build t ps).run P w = .ok (.agg ds) w
  inn : ∀ i off sz, place i = some (off, sz) → off + sz ≤ n
theorem y_build {α : Type} [Rp P α] {place : Nat → Option (Nat × Nat)} {z y : α} {ps : List (Nat × Operand)} (hz : Zero P t z) (hp : TyPl P t place (Rp.sz P α)) (hb : Bld K s place z ps y) (hagg : Rp.agg P α = true) :
    Y K s ⟨dst, .build t ps.toArray, ty, pos, aft, g⟩ (.d y) := by
  refine Y.of_run fun m β γ κ a ha _ => ?_
  obtain ⟨v, hv, hm⟩ := hz.run
  obtain ⟨hr, _⟩ := hm m
  obtain ⟨ds, e, hd⟩ := run_fill ha hb hr hp.inn
  refine ⟨.agg ds.toArray, ⟨hd, hagg.symm⟩, fun w _ => ?_⟩
  have := hp.run (ps.toArray.map fun (i, x) => (i, a.eval x)) v.cells ds.toArray v w hv rfl (by
    rw [← e]; simp)
  simp only [execOp]
  simp only [Sem.run_bind]
  rw [this]
  rfl
theorem fill_mono {p1 p2 : Nat → Option (Nat × Nat)} (h : ∀ i q, p1 i = some q → p2 i = some q) : ∀ (l : List (Nat × Value)) (cs ds : Array Value), Instr.fill p1 cs l = some ds → Instr.fill p2 cs l = some ds
  | [], _, _, e => e
  | (i, v) :: r, cs, ds, e => by
    cases hp : p1 i with
    | none => simp [Instr.fill, hp] at e
    | some q =>
      obtain ⟨off, sz⟩ := q
      simp only [Instr.fill, hp] at e
      simp only [Instr.fill, h i _ hp]
      split at e
      · cases e
      · rename_i hc; rw [if_neg hc]; exact fill_mono h r _ _ e
theorem TyPl.struct {fields : Array Field} {pl : Array (Nat × Nat)} {n : Nat} (h : P.underlying t = some (.struct fields)) (hm : ∀ w, (fields.mapM fun f => do pure (f.offset, ← sizeOf f.type) : Sem (Array (Nat × Nat))).run P w = .ok pl w)
    (hi : pl.toList.all (fun q => Nat.ble (q.1 + q.2) n) = true) : TyPl P t (pl[·]?) n := by
  refine ⟨fun ps cs ds v w hv hc hf => ?_, fun i off sz hp => ?_⟩
  · simp only [Instr.build, Sem.run_bind, hv, Result.andThen_ok, run_underlying h, hc]
    rw [hm w]
    simp [hf]
  · have hmem : (off, sz) ∈ pl.toList := by simpa using Array.mem_of_getElem? hp
    have := List.all_eq_true.1 hi _ hmem
    exact Nat.le_of_ble_eq_true this
theorem TyPl.array {α : Type} [Rp P α] {n : Nat} (ht : TyAr P t n α) : TyPl P t (fun i => if i < n then some (i * Rp.sz P α, Rp.sz P α) else none) (n * Rp.sz P α) := by
  refine ⟨fun ps cs ds v w hv hc hf => ?_, fun i off sz hp => ?_⟩
  · have hf' := fill_mono (p2 := fun i => some (i * Rp.sz P α, Rp.sz P α)) (fun i q hq => by
      split at hq
      · exact hq
      · cases hq) _ _ _ hf
    simp only [Instr.build, Sem.run_bind, hv, Result.andThen_ok, run_underlying ht.un, hc, ht.size]
    simp [hf']
  · split at hp
    · rename_i hl
      simp only [Option.some.injEq, Prod.mk.injEq] at hp
      obtain ⟨rfl, rfl⟩ := hp
      rw [← Nat.succ_mul]
      exact Nat.mul_le_mul_right _ hl
    · cases hp
/-! ### New slices -/
/-- An element type's row in the program's table. -/
structure TyEl (P : Program) (t e : TypeId) (α : Type) [Rp P α] : Prop where
  un : P.underlying t = some (.slice e)
  info : ∃ i z, P.info? e = some i ∧ i.zero = some z ∧ i.size = Rp.sz P α ∧ z.cells.size = Rp.sz P α ∧ i.bytes ≤ 65536
  pos : 0 < Rp.sz P α
theorem TyEl.info_of {e : TypeId} {α : Type} [Rp P α] (h : (P.info? e).map (fun i => (i.size, (i.zero.map (·.cells.size)))) = some (Rp.sz P α, some (Rp.sz P α))) (hb : (P.info? e).any (fun i => Nat.ble i.bytes 65536) = true) :
    ∃ i z, P.info? e = some i ∧ i.zero = some z ∧ i.size = Rp.sz P α ∧ z.cells.size = Rp.sz P α ∧ i.bytes ≤ 65536 := by
  cases hq : P.info? e with
  | none => rw [hq] at h; cases h
  | some i =>
    rw [hq] at h hb
    simp only [Option.map_some, Option.some.injEq, Prod.mk.injEq] at h
    obtain ⟨h1, h2⟩ := h
    cases hz : i.zero with
    | none => rw [hz] at h2; cases h2
    | some z =>
      rw [hz] at h2
      simp only [Option.map_some, Option.some.injEq] at h2
      exact ⟨i, z, rfl, hz, h1, h2, Nat.le_of_ble_eq_true hb⟩
/-- All parts in a row: the elements of a slice's literal. -/
def Els (K : Cx) (s : St P) {α : Type} [Rp P α] : Nat → List (Nat × Operand) → List α → Prop
  | _, [], [] => True
  | i, (j, o) :: ps, x :: xs => i = j ∧ Ev K s o (.d x) ∧ Els K s (i + 1) ps xs
  | _, _, _ => False
theorem run_fill_els {α : Type} [Rp P α] (ha : AH K m β γ s.sl a) : ∀ {ps : List (Nat × Operand)} {xs : List α} {i : Nat} {pre tail : List Value}, Els K s i ps xs → pre.length = i * Rp.sz P α → tail.length = ps.length * Rp.sz P α →
    ∃ ds, flatRel (P := P) m ds xs ∧ Instr.fill (fun i => some (i * Rp.sz P α, Rp.sz P α)) (pre ++ tail).toArray (ps.map fun p => (p.1, a.eval p.2)) = some (pre ++ ds).toArray
  | [], [], i, pre, tail, _, _, ht => by
    have : tail = [] := List.eq_nil_of_length_eq_zero (by simpa using ht)
    subst this
    exact ⟨[], rfl, rfl⟩
  | (j, o) :: ps, x :: xs, i, pre, tail, ⟨hij, hy, h⟩, hp, ht => by
    subst hij
    obtain ⟨hv, _⟩ := hy m β γ a ha
    have hl := Rp.len hv
    have hsz : (a.eval o).cells.size = Rp.sz P α := by rw [← hl]; simp
    simp only [List.length_cons, Nat.add_mul, Nat.one_mul] at ht
    obtain ⟨ds, hd, e⟩ := run_fill_els ha (i := i + 1) (pre := pre ++ (a.eval o).cells.toList) (tail := tail.drop (Rp.sz P α)) h (by rw [List.length_append, hp, hl, Nat.add_mul, Nat.one_mul]) (by rw [List.length_drop]; omega)
    refine ⟨(a.eval o).cells.toList ++ ds, ⟨_, _, rfl, hv, hd⟩, ?_⟩
    simp only [List.map_cons, Instr.fill]
    rw [if_neg (by simp only [List.size_toArray, hsz, List.length_append]; simp; omega)]
    have hf := fill_fold (a.eval o).cells.toList (pre ++ tail) (i * Rp.sz P α) 0 (by rw [hl, List.length_append]; omega)
    simp only [Nat.add_zero] at hf
    have hz : (a.eval o).cells.zipIdx.foldl (fun cs x => cs.setIfInBounds (i * Rp.sz P α + x.2) x.1) (pre ++ tail).toArray = (List.zipIdx (a.eval o).cells.toList).foldl (fun (cs : Array Value) (x : Value × Nat) => cs.setIfInBounds (i * Rp.sz P α + x.2) x.1) (pre ++ tail).toArray := by
      rw [← Array.foldl_toList]; simp
    have h1 := hz.trans hf
    have e1 : (pre ++ tail).take (i * Rp.sz P α) = pre := by rw [← hp, List.take_left]
    have e2 : (pre ++ tail).drop (i * Rp.sz P α + (a.eval o).cells.toList.length) = tail.drop (Rp.sz P α) := by rw [hl, ← hp, ← List.drop_drop, List.drop_left]
    rw [e1, e2] at h1
    have e3 : pre ++ ((a.eval o).cells.toList ++ ds) = pre ++ (a.eval o).cells.toList ++ ds := by rw [List.append_assoc]
    rw [e3, ← e]
    congr 1
  | [], _ :: _, _, _, _, h, _, _ => h.elim
  | _ :: _, [], _, _, _, h, _, _ => h.elim
/-- A new block that is a slice of the call's own. -/
theorem WH.newOwn {α : Type} [Rp P α] {cs : List Value} {xs : List α} {e : TypeId} (h : WH K m β γ κ B w) (hf : flatRel (P := P) m cs xs) (hd : ∀ q gv, lk B.gr q = some gv → q ≠ d) (hti : ∀ e ∈ B.ti, e.2 ≠ d) (hbig : xs.length ≤ 1048576) (hpr : priv d = false) (hpg : K.ping d = none) :
    ∃ m', Snap.le m m' ∧ WH K m' β (upd γ d (.slice (some ⟨w.heap.size, 0, none⟩) xs.length xs.length)) κ ⟨B.bx, (d, ⟨e, xs⟩) :: B.gr, B.ti⟩ { w with heap := w.heap.push (.cells cs.toArray e) } := by
  have hB : K.B0 ≤ w.heap.size := h.jj.2.1
  have hp : ∀ b o, w.heap[b]? = some o → (w.heap.push (Obj.cells cs.toArray e))[b]? = some o := fun b o ho => by
    have hlt : b < w.heap.size := by
      rcases Nat.lt_or_ge b w.heap.size with hl | hl
      · exact hl
      · rw [Array.getElem?_eq_none hl] at ho; cases ho
    rw [Array.getElem?_push, if_neg (by omega)]; exact ho
  have hcell : ∀ b i v, w.cell? ⟨b, i, none⟩ = some v → World.cell? { w with heap := w.heap.push (.cells cs.toArray e) } ⟨b, i, none⟩ = some v := fun b i v hv => by
    unfold World.cell? at hv ⊢
    cases hq : w.heap[b]? with
    | none => simp [hq] at hv
    | some o => simp only [hp b o hq]; simpa [hq] using hv
  have hm : ∀ i, m w.heap.size i = none := fun i => by
    cases hq : m w.heap.size i with
    | none => rfl
    | some v => exact absurd (cell_lt (h.sees _ _ _ hq)) (Nat.lt_irrefl _)
  have hlt : ∀ y bv, lk B.bx y = some bv → β y < w.heap.size := fun y bv hy => by
    obtain ⟨⟨T', hT⟩, _⟩ := h.box y bv hy
    rcases Nat.lt_or_ge (β y) w.heap.size with hl | hl
    · exact hl
    · rw [Array.getElem?_eq_none hl] at hT; cases hT
  let m' : Snap := fun c i => if c = w.heap.size then cs[i]? else m c i
  have hle : Snap.le m m' := fun c i v hv => by
    show (if c = w.heap.size then cs[i]? else m c i) = some v
    by_cases e : c = w.heap.size
    · rw [e, hm] at hv; cases hv
    · rw [if_neg e]; exact hv
  have hold : ∀ c i, c ≠ w.heap.size → m' c i = m c i := fun c i hc => if_neg hc
  refine ⟨m', hle, fun c i v hv => ?_, Snap.le_trans h.le hle, fun c i v hv => ?_, fun y bv hy => ?_, h.inj, fun y gv hy => ?_, fun y z gv bv hy hz => ?_, fun y z gy gz b hy hz hne hb => ?_, fun q hq => ?_, ?_⟩
  · have hv' : (if c = w.heap.size then cs[i]? else m c i) = some v := hv
    by_cases e : c = w.heap.size
    · rw [if_pos e] at hv'
      subst e
      simp [World.cell?, hv']
    · rw [if_neg e] at hv'; exact hcell _ _ _ (h.sees c i v hv')
  · have hv' : (if c = w.heap.size then cs[i]? else m c i) = some v := hv
    by_cases e : c = w.heap.size
    · exact .inr (by rw [e]; exact hB)
    · rw [if_neg e] at hv'; exact h.new c i v hv'
  · obtain ⟨⟨T, hT⟩, hr, hB', hn'⟩ := h.box y bv hy
    exact ⟨⟨T, hp _ _ hT⟩, bv.i.mono hle hr, hB', fun i => by rw [hold _ _ (by have := hlt y bv hy; omega)]; exact hn' i⟩
  · by_cases e' : y = d
    · subst e'
      rw [lk_cons_eq rfl] at hy; cases hy
      rw [upd_eq]
      have hl := hf.length
      refine ⟨⟨cs, ⟨hl, .inr ⟨w.heap.size, xs.length, cs.toArray, rfl, hB, by simp, Nat.le_refl _, by simp only [maxLen]; omega, by simpa using hl, by rw [← hl]; simp⟩⟩, hf.mono hle, fun b hb => ?_⟩, hbig⟩
      simp only [Value.ownBlock, Option.some.injEq] at hb
      subst hb
      refine ⟨fun _ => ⟨fun i c hc => by show (if w.heap.size = w.heap.size then cs[i]? else _) = _; rw [if_pos rfl]; exact hc, fun i hi => ?_⟩, fun e => by rw [hpr] at e; cases e⟩
      show (if w.heap.size = w.heap.size then cs[i]? else _) = none
      rw [if_pos rfl]
      exact List.getElem?_eq_none (by rw [hl]; exact hi)
    · rw [lk_cons_ne (Ne.symm e')] at hy
      rw [upd_ne e']
      have hg := h.grow y gv hy
      refine hg.keep (fun b hb => ?_) hle fun b i hb hi => by rw [hold _ _ (by have := hg.lt hb; omega)]; exact hi
      have := hg.lt hb
      show (w.heap.push _)[b]? = _
      rw [Array.getElem?_push, if_neg (by omega)]
  · by_cases e' : y = d
    · subst e'
      rw [upd_eq]
      intro hb
      simp only [Value.ownBlock, Option.some.injEq] at hb
      have := hlt z bv hz; omega
    · rw [lk_cons_ne (Ne.symm e')] at hy
      rw [upd_ne e']; exact h.gbox y z gv bv hy hz
  · by_cases e1 : y = d
    · subst e1
      rw [upd_eq] at hb
      simp only [Value.ownBlock, Option.some.injEq] at hb
      have e2 : z ≠ y := Ne.symm hne
      rw [lk_cons_ne (Ne.symm e2)] at hz
      rw [upd_ne e2]
      intro hz'
      have := (h.grow z gz hz).lt hz'; omega
    · rw [lk_cons_ne (Ne.symm e1)] at hy
      rw [upd_ne e1] at hb
      by_cases e2 : z = d
      · subst e2
        rw [upd_eq]
        intro hz'
        simp only [Value.ownBlock, Option.some.injEq] at hz'
        have := (h.grow y gy hy).lt hb; omega
      · rw [lk_cons_ne (Ne.symm e2)] at hz
        rw [upd_ne e2]
        exact h.ginj y z gy gz b hy hz hne hb
  · rw [upd_ne (hti q hq)]; exact h.tie q hq
  · refine h.go rfl rfl rfl (by simp) (fun k hk _ => by show (w.heap.push _)[k]? = _; rw [Array.getElem?_push, if_neg (by omega)]) hle (fun c i v hv => ?_) (fun c i v hv => ?_) ?_ (hp := fun _ _ _ h => h) (hg := fun n v hn e => by rw [upd_ne (fun e2 => by subst e2; rw [hpg] at hn; cases hn)]; exact e)
    · by_cases e' : c = w.heap.size
      · exact .inr (.inr (by omega))
      · rw [hold _ _ e'] at hv; exact .inl hv
    · have hv' : (if c = w.heap.size then cs[i]? else m c i) = some v := hv
      by_cases e' : c = w.heap.size
      · rw [if_pos e'] at hv'
        subst e'
        simp [World.cell?, hv']
      · rw [if_neg e'] at hv'; exact hcell _ _ _ (h.sees c i v hv')
    · rintro b (hb | ⟨x, gv, h1, h2⟩)
      · exact .inl (.inl hb)
      · by_cases e' : x = d
        · subst e'
          rw [upd_eq] at h2
          simp only [Value.ownBlock, Option.some.injEq] at h2
          exact .inr (by omega)
        · rw [lk_cons_ne (Ne.symm e')] at h1; rw [upd_ne e'] at h2; exact .inl (.inr ⟨x, gv, h1, h2⟩)
end ops
end Go.Ph
namespace Go.Ph
universe u
open Go.RowKit (Below)
variable {P : Program}
/-- No slot names this growing slice. -/
def AV.goff (d : Nat) : AV P → Bool
  | .g n => !Nat.beq n d
  | .ge n _ => !Nat.beq n d
  | .t2 a b => a.goff d && b.goff d
  | .t3 a b c => a.goff d && b.goff d && c.goff d
  | _ => true
/-- What named the growing slice reads as what it held. -/
def AV.degr (d : Nat) : AV P → AV P → AV P
  | .g n, y => bif Nat.beq n d then y else .g n
  | z, _ => z
def degrAll (d : Nat) (y : AV P) : List (Nat × AV P) → List (Nat × AV P)
  | [] => []
  | (k, z) :: r => (k, z.degr d y) :: degrAll d y r
def flatG : List (Nat × AV P) → Bool
  | [] => true
  | (_, .t2 _ _) :: _ => false
  | (_, .t3 _ _ _) :: _ => false
  | (_, .ge _ _) :: _ => false
  | (_, _) :: r => flatG r
theorem flatG_t2 {x y : AV P} : ∀ {sl : List (Nat × AV P)} {t : Nat}, lk sl t = some (.t2 x y) → ¬ flatG sl = true
  | [], _, h => by simp [lk] at h
  | (k, z) :: r, t, h => by
    by_cases e : k = t
    · subst e; rw [lk_cons_eq rfl] at h; cases h; simp [flatG]
    · rw [lk_cons_ne e] at h
      have := flatG_t2 h
      cases z <;> simp_all [flatG]
theorem flatG_t3 {x y u : AV P} : ∀ {sl : List (Nat × AV P)} {t : Nat}, lk sl t = some (.t3 x y u) → ¬ flatG sl = true
  | [], _, h => by simp [lk] at h
  | (k, z) :: r, t, h => by
    by_cases e : k = t
    · subst e; rw [lk_cons_eq rfl] at h; cases h; simp [flatG]
    · rw [lk_cons_ne e] at h
      have := flatG_t3 h
      cases z <;> simp_all [flatG]
theorem flatG_ge {n o : Nat} : ∀ {sl : List (Nat × AV P)} {t : Nat}, lk sl t = some (.ge n o) → ¬ flatG sl = true
  | [], _, h => by simp [lk] at h
  | (k, z) :: r, t, h => by
    by_cases e : k = t
    · subst e; rw [lk_cons_eq rfl] at h; cases h; simp [flatG]
    · rw [lk_cons_ne e] at h
      have := flatG_ge h
      cases z <;> simp_all [flatG]
theorem flat_append {α : Type} [Rp P α] {m : Snap} : ∀ {xs ys : List α} {cs ds : List Value}, flatRel (P := P) m cs xs → flatRel (P := P) m ds ys → flatRel (P := P) m (cs ++ ds) (xs ++ ys)
  | [], _, _, _, h, k => by simp only [flatRel] at h; subst h; simpa using k
  | _ :: _, _, _, _, ⟨a, b, e, h, r⟩, k => ⟨a, b ++ _, by rw [e, List.append_assoc], h, flat_append r k⟩
theorem lk_degr {d : Nat} {y : AV P} : ∀ {sl : List (Nat × AV P)} {t : Nat} {x : AV P}, lk (degrAll d y sl) t = some x → ∃ z, lk sl t = some z ∧ x = z.degr d y
  | [], _, _, h => by simp [degrAll, lk] at h
  | (k, z) :: r, t, x, h => by
    simp only [degrAll] at h
    by_cases e : k = t
    · subst e
      rw [lk_cons_eq rfl] at h; cases h
      exact ⟨z, lk_cons_eq rfl, rfl⟩
    · rw [lk_cons_ne e] at h
      obtain ⟨z', h1, h2⟩ := lk_degr h
      exact ⟨z', by rw [lk_cons_ne e]; exact h1, h2⟩
def offGr (d : Nat) : List (Nat × GV P) → Bool
  | [] => true
  | (b, _) :: r => !Nat.beq b d && offGr d r
theorem gr_off {d : Nat} : ∀ {gr : List (Nat × GV P)} {t : Nat} {x : GV P}, offGr d gr = true → lk gr t = some x → t ≠ d
  | [], _, _, _, h => by simp [lk] at h
  | (k, y) :: r, t, x, hf, h => by
    simp only [offGr, Bool.and_eq_true] at hf
    by_cases e : k = t
    · subst e; exact nbeq hf.1
    · rw [lk_cons_ne e] at h; exact gr_off hf.2 h
def goffAll (d : Nat) : List (Nat × AV P) → Bool
  | [] => true
  | (_, x) :: r => x.goff d && goffAll d r
theorem lk_goff {d : Nat} : ∀ {sl : List (Nat × AV P)} {t : Nat} {x : AV P}, goffAll d sl = true → lk sl t = some x → x.goff d = true
  | [], _, _, _, h => by simp [lk] at h
  | (k, y) :: r, t, x, hf, h => by
    simp only [goffAll, Bool.and_eq_true] at hf
    by_cases e : k = t
    · subst e; rw [lk_cons_eq rfl] at h; cases h; exact hf.1
    · rw [lk_cons_ne e] at h; exact lk_goff hf.2 h
theorem AV.holds_goff {β : Nat → Nat} {γ : Nat → Value} {m : Snap} {d : Nat} {v0 : Value} : ∀ {x : AV P} {v : Value}, x.goff d = true → x.holds β γ m v → x.holds β (upd γ d v0) m v
  | @AV.d _ _ _ _, _, _, h => h
  | .x _, _, _, h => h
  | .p _ _, _, _, h => h
  | .g n, v, hf, h => by
    have : n ≠ d := nbeq hf
    show v = _
    rw [upd_ne this]; exact h
  | .ge n o, v, hf, ⟨b, h1, h2⟩ => by
    have : n ≠ d := nbeq hf
    exact ⟨b, by rw [upd_ne this]; exact h1, h2⟩
  | .any, _, _, h => h
  | .cl _ _, _, _, h => h
  | .t2 _ _, _, hf, ⟨va, vb, e, ha, hb⟩ => by
    simp only [AV.goff, Bool.and_eq_true] at hf
    exact ⟨va, vb, e, holds_goff hf.1 ha, holds_goff hf.2 hb⟩
  | .t3 _ _ _, _, hf, ⟨va, vb, vc, e, ha, hb, hc⟩ => by
    simp only [AV.goff, Bool.and_eq_true] at hf
    exact ⟨va, vb, vc, e, holds_goff hf.1.1 ha, holds_goff hf.1.2 hb, holds_goff hf.2 hc⟩
section ops
variable {K : Cx} {s : St P} {ops : Array Oper} {Q : Exit → Act → World → Prop} {rest : List Oper} {d nm : Nat} {t t' t'' ty : TypeId} {pos : String} {aft : Array Edge} {g : Option (Nat × Bool)} {dst : Option Tmp} {o o' o'' : Operand}
  {m : Snap} {β : Nat → Nat} {γ : Nat → Value} {κ : Nat → List Value} {B : Bs P} {w : World} {a : Act} {sl : List (Nat × AV P)} {bx : List (Nat × BV P)} {gr : List (Nat × GV P)} {ti : List ((Nat × Nat) × Nat)}
theorem AH.goff {v0 : Value} (h : AH K m β γ sl a) (hg : goffAll d sl = true) : AH K m β (upd γ d v0) sl a :=
  ⟨h.defers, h.size, fun t x hx => let ⟨v, hv, hh⟩ := h.slot t x hx; ⟨v, hv, AV.holds_goff (lk_goff hg hx) hh⟩⟩
theorem tiN_ne (ti : List ((Nat × Nat) × Nat)) : ∀ e ∈ tiN d ti, e.2 ≠ d := fun e h => (tiN_mem e h).2
theorem WH.tiN {B : Bs P} (h : WH K m β γ κ B w) : WH K m β γ κ ⟨B.bx, B.gr, tiN d B.ti⟩ w :=
  h.le' (s := ⟨[], B⟩) (s' := ⟨[], ⟨B.bx, B.gr, Ph.tiN d B.ti⟩⟩) ⟨fun _ _ h => h, fun _ _ h => h, fun _ _ h => h, fun e h => (tiN_mem e h).1⟩
/-- A slice's literal: it may grow. -/
theorem TL_buildSlice {α : Type} [Rp P α] {e : TypeId} {n : Nat} {ps : List (Nat × Operand)} {xs : List α} (he : Els K s 0 ps xs) (ht : TyEl P t e α) (hn : n = ps.length)
    (k : TL K ⟨(d, .g d) :: s.sl, ⟨s.B.bx, (d, ⟨e, xs⟩) :: s.B.gr, tiN d s.B.ti⟩⟩ ops Q rest) (hb : Nat.ble (n * Rp.sz P α) 65536 = true := by rfl) (hgo : goffAll d s.sl = true := by rfl) (hgr : offGr d s.B.gr = true := by rfl) (hd : Nat.ble (d + 1) K.n = true := by rfl) (hpr : priv d = false := by rfl) (hpg : K.ping d = none := by rfl) :
    TL K s ops Q (⟨some d, .buildSlice t n ps.toArray, ty, pos, aft, none⟩ :: rest) := by
  intro m β γ κ a w ha hw
  have hd' : d < K.n := Nat.le_of_ble_eq_true hd
  have hb' := Nat.le_of_ble_eq_true hb
  obtain ⟨i, z, hi, hz, hs, hzs, _⟩ := ht.info
  have hxl : ∀ {i : Nat} {ps : List (Nat × Operand)} {xs : List α}, Els K s i ps xs → xs.length = ps.length := by
    intro i ps
    induction ps generalizing i with
    | nil => intro xs h; cases xs with | nil => rfl | cons _ _ => exact h.elim
    | cons p ps ih => intro xs h; cases xs with | nil => obtain ⟨_, _⟩ := p; exact h.elim | cons x xs => obtain ⟨_, _⟩ := p; simp [ih h.2.2]
  have hl := hxl he
  obtain ⟨ds, hds, hfill⟩ := run_fill_els (P := P) ha (pre := []) (tail := ((Array.range (n * Rp.sz P α)).map fun (j : Nat) => ((if n * Rp.sz P α = 0 then #[] else z.cells) : Array Value)[j % ((if n * Rp.sz P α = 0 then #[] else z.cells) : Array Value).size]!).toList) he (by simp) (by simp [hn])
  have hrun : (execOp a.eval ⟨some d, .buildSlice t n ps.toArray, ty, pos, aft, none⟩).run P w = .ok (.value (.slice (some ⟨w.heap.size, 0, none⟩) n n)) { w with heap := w.heap.push (.cells ds.toArray e) } := by
    have hso : ∀ w : World, (sizeOf e).run P w = .ok (Rp.sz P α) w := fun w => by simp [sizeOf, typeInfo, hi, hs]
    have hzv : ∀ w : World, (zeroValue e).run P w = .ok z w := fun w => by simp [zeroValue, typeInfo, hi, hz]
    simp only [List.nil_append, Array.toArray_toList] at hfill
    have hps : (ps.toArray.map fun (i, x) => (i, a.eval x)).toList = ps.map fun p => (p.1, a.eval p.2) := by simp
    have h24 : ¬ n * Rp.sz P α > 2 ^ 24 := by omega
    simp only [execOp, Instr.buildSlice, Sem.run_bind, run_underlying ht.un, Result.andThen_ok, hso]
    rw [if_neg h24]
    by_cases hc : n * Rp.sz P α = 0
    · simp only [if_pos hc, Sem.run_bind, Sem.run_pure, Result.andThen_ok] at hfill ⊢
      rw [hps, hfill]
      simp [newRow]
    · simp only [if_neg hc, Sem.run_bind, Sem.run_pure, Result.andThen_ok, hzv] at hfill ⊢
      rw [hps, hfill]
      simp [newRow]
  have hbig : xs.length ≤ 1048576 := by
    have := ht.pos
    have h1 : ps.length ≤ n * Rp.sz P α := by rw [hn]; exact Nat.le_mul_of_pos_right _ this
    omega
  obtain ⟨m', hle, hw'⟩ := (WH.tiN (d := d) hw).newOwn (d := d) (e := e) hds (fun q gv hq => gr_off hgr hq) (tiN_ne _) hbig hpr hpg
  refine wpL_of (show Region.wanted _ _ = true from rfl) (by intro _ e; cases e) ?_
  unfold Oper.wp
  rw [hrun]
  rw [hl, ← hn] at hw'
  exact k m' β _ κ _ _ (((ha.mono hle).goff hgo).put hd' (by show _ = _; rw [upd_eq])) hw'
/-- A growing slice, read as what it holds. -/
theorem TL_g2d {q : Nat} {gv : GV P} (hq : lk s.sl q = some (.g nm)) (hg : lk s.B.gr nm = some gv) (k : TL K (s.put q (@AV.d P (List gv.α) (@rpList P gv.α gv.i) gv.xs)) ops Q rest) (hpr : priv nm = false := by rfl) : TL K s ops Q rest := by
  intro m β γ κ a w ha hw
  refine k m β γ κ a w ⟨ha.defers, ha.size, fun t x hx => ?_⟩ hw
  change lk ((q, _) :: s.sl) t = _ at hx
  by_cases e : q = t
  · subst e
    rw [lk_cons_eq rfl] at hx; cases hx
    obtain ⟨v, hv, hh⟩ := ha.slot q _ hq
    have e2 : v = γ nm := hh
    refine ⟨v, hv, ?_⟩
    rw [e2]
    exact @vlist P gv.α gv.i _ _ _ ((hw.grow nm gv hg).slice hpr)
  · rw [lk_cons_ne e] at hx; exact ha.slot t x hx
/-- A variable that begins as nil, and may grow. -/
theorem WH.nilOwn {α : Type} [Rp P α] (e : TypeId) (h : WH K m β γ κ B w) (hd : ∀ q gv, lk B.gr q = some gv → q ≠ d) (hti : ∀ e ∈ B.ti, e.2 ≠ d) (hpg : K.ping d = none) :
    WH K m β (upd γ d (.slice none 0 0)) κ ⟨B.bx, (d, (⟨e, ([] : List α)⟩ : GV P)) :: B.gr, B.ti⟩ w := by
  refine ⟨h.sees, h.le, h.new, h.box, h.inj, fun y gv hy => ?_, fun y z gv bv hy hz => ?_, fun y z gy gz b hy hz hne hb => ?_, fun q hq => by rw [upd_ne (hti q hq)]; exact h.tie q hq, h.go rfl rfl rfl (Nat.le_refl _) (fun _ _ _ => rfl) (Snap.le_refl _) (fun _ _ _ h => .inl h) h.sees (fun b hb => .inl (hb.imp id (fun ⟨x, gv, h1, h2⟩ => by
    by_cases e : x = d
    · subst e; rw [upd_eq] at h2; cases h2
    · rw [lk_cons_ne (Ne.symm e)] at h1; rw [upd_ne e] at h2; exact ⟨x, gv, h1, h2⟩))) (hp := fun _ _ _ h => h) (hg := fun n v hn e => by rw [upd_ne (fun e2 => by subst e2; rw [hpg] at hn; cases hn)]; exact e)⟩
  · by_cases e' : y = d
    · subst e'
      rw [lk_cons_eq rfl] at hy; cases hy
      rw [upd_eq]
      exact ⟨⟨[], World.ownsRow_nil w _ _ _, rfl, fun b hb => by cases hb⟩, by simp⟩
    · rw [lk_cons_ne (Ne.symm e')] at hy
      rw [upd_ne e']; exact h.grow y gv hy
  · by_cases e' : y = d
    · subst e'; rw [upd_eq]; intro hb; cases hb
    · rw [lk_cons_ne (Ne.symm e')] at hy
      rw [upd_ne e']; exact h.gbox y z gv bv hy hz
  · by_cases e1 : y = d
    · subst e1; rw [upd_eq] at hb; cases hb
    · rw [lk_cons_ne (Ne.symm e1)] at hy
      rw [upd_ne e1] at hb
      by_cases e2 : z = d
      · subst e2; rw [upd_eq]; intro hb'; cases hb'
      · rw [lk_cons_ne (Ne.symm e2)] at hz
        rw [upd_ne e2]; exact h.ginj y z gy gz b hy hz hne hb
theorem TL_nilg {α : Type} [Rp P α] (e : TypeId)
    (k : TL K ⟨(d, .g d) :: s.sl, ⟨s.B.bx, (d, (⟨e, ([] : List α)⟩ : GV P)) :: s.B.gr, tiN d s.B.ti⟩⟩ ops Q rest) (hgo : goffAll d s.sl = true := by rfl) (hgr : offGr d s.B.gr = true := by rfl) (hd : Nat.ble (d + 1) K.n = true := by rfl) (hpg : K.ping d = none := by rfl) :
    TL K s ops Q (⟨some d, .assign (.const (.slice none 0 0)), ty, pos, aft, none⟩ :: rest) := by
  intro m β γ κ a w ha hw
  have hd' : d < K.n := Nat.le_of_ble_eq_true hd
  refine wpL_of (show Region.wanted _ _ = true from rfl) (by intro _ e; cases e) ?_
  exact k m β _ κ _ _ ((ha.goff hgo).put hd' (by show _ = _; rw [upd_eq]; rfl)) ((WH.tiN (d := d) hw).nilOwn e (fun q gv hq => gr_off hgr hq) (tiN_ne _) hpg)
/-- The growing slice in a box's field is read. -/
theorem y_load_tied {bx off : Nat} (hp : Ev K s o (.p bx off)) (ht : ((bx, off), nm) ∈ s.B.ti) (hagg : ∀ w, (isAgg t).run P w = .ok false w) (hb : ∃ bv, lk s.B.bx bx = some bv) :
    Y K s ⟨dst, .load t o, ty, pos, aft, g⟩ (.g nm) := by
  refine Y.of_run fun m β γ κ a ha _ => ⟨γ nm, rfl, fun w hw => ?_⟩
  have e : a.eval o = .pointer (some ⟨β bx, off, none⟩) := hp m β γ a ha
  obtain ⟨bv, hb⟩ := hb
  obtain ⟨⟨T, hT⟩, _⟩ := hw.box bx _ hb
  have hc := hw.tie _ ht
  simp only [execOp, e, Instr.loadAt, Instr.sureAddr, loadVar, Sem.run_bind, Sem.run_pure, Result.andThen_ok, hagg]
  have : w.cell? ⟨β bx, off, none⟩ = some (γ nm) := by simpa [World.cell?, hT] using hc
  simp [run_load, this]
/-- A growing slice is laid into a box's field. -/
theorem TL_store_g {α δ : Type} [Rp P α] [Rp P δ] {e : TypeId} {bx off : Nat} {x : α} {xs : List δ} {set : α → List δ → α} (hp : Ev K s o (.p bx off)) (hb : lk s.B.bx bx = some ⟨x⟩)
    (hy : Ev K s o' (.g nm)) (hg : lk s.B.gr nm = some ⟨e, xs⟩) (hs : Put P off set) (ht : Ty P t (List δ)) (hin : off + 1 ≤ Rp.sz P α)
    (k : TL K ⟨s.sl, ⟨(bx, ⟨set x xs⟩) :: s.B.bx, s.B.gr, ((bx, off), nm) :: tiO bx off 1 s.B.ti⟩⟩ ops Q rest) (hpr : priv nm = false := by rfl) :
    TL K s ops Q (⟨none, .store t o o', ty, pos, aft, none⟩ :: rest) := by
  intro m β γ κ a w ha hw
  have e1 : a.eval o = .pointer (some ⟨β bx, off, none⟩) := hp m β γ a ha
  have e2 : a.eval o' = γ nm := hy m β γ a ha
  have hv := vlist (P := P) ((hw.grow nm _ hg).slice hpr)
  obtain ⟨hr, _⟩ := hv
  have hr : Rp.rel P m (γ nm).cells.toList xs := hr
  obtain ⟨⟨T, hT⟩, hrel, hB0, hmn⟩ := hw.box bx _ hb
  have hlen := Rp.len hr
  have hlen2 : (κ bx).length = Rp.sz P α := Rp.len (x := x) hrel
  have hsz1 : Rp.sz P (List δ) = 1 := rfl
  obtain ⟨c, hc1, hc2⟩ := rel_single (P := P) (α := List δ) rfl hr
  have hc : c = γ nm := by
    obtain ⟨v, h1, h2⟩ := hr
    have h3 := (vrel.eq_mkV (vlist (P := P) ((hw.grow nm _ hg).slice hpr)))
    rw [hc1] at h3
    exact h3.symm
  have hcells : (γ nm).cells.toList = [γ nm] := by rw [hc1, hc]
  refine wpL_of (show Region.wanted _ _ = true from rfl) (by intro _ e; cases e) ?_
  have hst := run_storeCells_at (P := P) (β bx) off T (a.eval o').cells.toList 0 (κ bx).toArray w hT (by simp only [List.size_toArray]; rw [e2]; omega) (by rw [e2]; exact Rp.ok hr)
  have hrun : (execOp a.eval ⟨none, .store t o o', ty, pos, aft, none⟩).run P w = .ok .skip (w.setRow (β bx) ((κ bx).take off ++ (a.eval o').cells.toList ++ (κ bx).drop (off + (a.eval o').cells.toList.length)).toArray) := by
    have hsz : (a.eval o').cells.size = Rp.sz P (List δ) := by rw [e2, ← hlen]; simp
    simp only [execOp, e1, Instr.storeAt, Instr.sureAddr, storeVar, Sem.run_bind, Sem.run_pure, Result.andThen_ok, ht.size]
    rw [if_neg (by simp [hsz])]
    rw [hst]
    simp
  unfold Oper.wp
  rw [hrun]
  have hw' := hw.store hb hs hr (by rw [hsz1]; omega)
  rw [← e2] at hw'
  refine k m β γ _ _ _ ha ⟨hw'.sees, hw'.le, hw'.new, hw'.box, hw'.inj, hw'.grow, hw'.gbox, hw'.ginj, fun q hq => ?_, hw'.jj⟩
  rcases List.mem_cons.1 hq with hq | hq
  · subst hq
    show (upd κ bx _ bx)[off]? = some (γ nm)
    rw [upd_eq, e2, hcells]
    rw [List.append_assoc, List.getElem?_append_right (by rw [List.length_take]; omega), List.length_take]
    rw [show off - min off (κ bx).length = 0 from by omega]
    rfl
  · exact hw'.tie q hq
/-! ### append -/
theorem run_append_empty {v : Value} {e : TypeId} {n size : Nat} {cs : List Value} {base : Nat} {ad : Option Addr} {cap : Nat} {i : TypeInfo} (ht : P.underlying t = some (.slice e)) (hi : P.info? e = some i) (hown : w.ownsRow base e size v n cs) :
    (Builtin.append_ #[t, t] ty #[v, .slice ad 0 cap]).run P w = .ok v w := by
  rcases hown.2 with ⟨rfl, rfl⟩ | ⟨g, c, cur, rfl, _, hg, hnc, _⟩
  · cases ad <;> simp [Builtin.append_, run_underlying ht, sizeOf, typeInfo, hi, Builtin.lenOf, Builtin.firstCells, loadCells, loadCellsFrom]
  · cases ad <;> simp [Builtin.append_, run_underlying ht, sizeOf, typeInfo, hi, Builtin.lenOf, Builtin.firstCells, loadCells, loadCellsFrom, hnc, storeCells]
theorem slice_cells {α : Type} [Rp P α] {b off : Nat} : ∀ {ys : List α} {k : Nat}, (∀ i x, ys[i]? = some x → ∃ cs, Rp.rel P m cs x ∧ ∀ j c, cs[j]? = some c → m b (off + (k + i) * Rp.sz P α + j) = some c) →
    ∃ cs, flatRel (P := P) m cs ys ∧ ∀ j c, cs[j]? = some c → m b (off + k * Rp.sz P α + j) = some c
  | [], _, _ => ⟨[], rfl, fun j c h => by simp at h⟩
  | y :: ys, k, h => by
    obtain ⟨c0, hr, hc⟩ := h 0 y rfl
    obtain ⟨cs, hf, hcs⟩ := slice_cells (ys := ys) (k := k + 1) fun i x hx => by
      obtain ⟨cs, h1, h2⟩ := h (i + 1) x (by simpa using hx)
      refine ⟨cs, h1, fun j c hj => ?_⟩
      have := h2 j c hj
      rwa [show k + (i + 1) = k + 1 + i from by omega] at this
    refine ⟨c0 ++ cs, ⟨c0, cs, rfl, hr, hf⟩, fun j c hj => ?_⟩
    have hl := Rp.len hr
    by_cases hlt : j < c0.length
    · rw [List.getElem?_append_left hlt] at hj
      have := hc j c hj
      simpa using this
    · rw [List.getElem?_append_right (by omega)] at hj
      have := hcs _ c hj
      rw [Nat.add_mul, Nat.one_mul] at this
      rw [← this]
      congr 1
      omega
/-- What append comes to: the row that it was, or a new one, the old one lying as it lay. -/
theorem run_append2 {base : Nat} {e : TypeId} {i : TypeInfo} {z : Value} {size bytes : Nat} (ht : P.underlying t = some (.slice e)) (hi : P.info? e = some i) (hz : i.zero = some z)
    (hsize : i.size = size) (hby : i.bytes = bytes) (hzs : z.cells.size = size) (hsz : 0 < size)
    {v : Value} {n : Nat} {xs : List Value} (hown : w.ownsRow base e size v n xs)
    {ad : Addr} {k c : Nat} {news : List Value} (hl : news.length = k * size) (hnews : ∀ j u, news[j]? = some u → w.cell? (ad.add j) = some u) (h1 : ∀ u ∈ news, u.oneCell' = true)
    (h63 : n + k ≤ 1048576) (hbytes : bytes ≤ 65536) (hbase : base ≤ w.heap.size) :
    ∃ v' w', (Builtin.append_ #[t, t] ty #[v, .slice (some ad) k c]).run P w = .ok v' w' ∧ w'.ownsRow base e size v' (n + k) (xs ++ news) ∧ w.grownBy w' v.ownBlock ∧
      (v'.ownBlock = v.ownBlock ∨ w.grownBy w' none ∧ ∀ b, v'.ownBlock = some b → w.heap.size ≤ b) := by
  have hb : (n + k) * bytes ≤ 1048576 * 65536 := Nat.mul_le_mul h63 hbytes
  obtain ⟨v', w', hr, h2, h3, h4⟩ := run_append_own (P := P) w base t ty e i z size bytes ht hi hz hsize hby hzs hsz v n xs hown ad k c news hl hnews h1 (by simp only [maxLen]; omega) (by omega) hbase
  refine ⟨v', w', hr, h2, h3, ?_⟩
  subst hsize
  subst hby
  rcases hown.2 with ⟨rfl, rfl⟩ | ⟨g, cap, cur, rfl, _, hg, hnc, _, hcs, _⟩
  · by_cases hk : k = 0
    · left; rw [h4.2 ⟨rfl, hk⟩]
    · have hb' : k * i.bytes ≤ 1048576 * 65536 := by simpa using hb
      have := run_append_nil (P := P) w t ty e i z ht hi hz ad k c news hl hnews (by omega) (by omega) (by omega)
      rw [hr] at this
      obtain ⟨rfl, rfl⟩ := Result.ok.inj this
      exact .inr ⟨⟨rfl, rfl, rfl, by simp, fun q hq _ => heap_alloc_old w.drew _ q hq⟩, fun b hb => by cases hb; exact Nat.le_refl _⟩
  · by_cases hroom : n + k ≤ cap
    · have hfit : n * i.size + news.length ≤ cur.size := by rw [hl, hcs, ← Nat.add_mul]; exact Nat.mul_le_mul_right _ hroom
      have := run_append_room (P := P) w t ty e i ht hi g n cap cur hg ad k c news hl hnews h1 hroom hfit
      rw [hr] at this
      obtain ⟨rfl, rfl⟩ := Result.ok.inj this
      exact .inl rfl
    · have holds : ∀ j u, xs[j]? = some u → w.cell? ((⟨g, 0, none⟩ : Addr).add j) = some u := hown.cells (g := g) rfl
      have := run_append_grow (P := P) w t ty e i z ht hi hz ⟨g, 0, none⟩ n cap xs hown.1 holds ad k c news hl hnews (by omega) (by omega) (growslice_fits (by omega) (by omega))
      rw [hr] at this
      obtain ⟨rfl, rfl⟩ := Result.ok.inj this
      exact .inr ⟨⟨rfl, rfl, rfl, by simp, fun q hq _ => heap_alloc_old w.drew _ q hq⟩, fun b hb => by cases hb; exact Nat.le_refl _⟩
/-- A growing slice grows. -/
theorem WH.append {α : Type} [Rp P α] {e : TypeId} {xs ys : List α} {cs0 news : List Value} {v' : Value} {w' : World} (h : WH K m β γ κ B w) (hg : lk B.gr nm = some ⟨e, xs⟩) (hown : w.ownsRow K.B0 e (Rp.sz P α) (γ nm) xs.length cs0)
    (hcs : flatRel (P := P) m cs0 xs) (hpre : ∀ b, (γ nm).ownBlock = some b → (∀ i c, cs0[i]? = some c → m b i = some c) ∧ ∀ i, xs.length * Rp.sz P α ≤ i → m b i = none) (hpr : priv nm = false) (hpg : K.ping nm = none)
    (hown' : w'.ownsRow K.B0 e (Rp.sz P α) v' (xs.length + ys.length) (cs0 ++ news)) (hnews : flatRel (P := P) m news ys) (hgr : w.grownBy w' (γ nm).ownBlock) (hbig : xs.length + ys.length ≤ 1048576)
    (hway : v'.ownBlock = (γ nm).ownBlock ∨ w.grownBy w' none ∧ ∀ b, v'.ownBlock = some b → w.heap.size ≤ b) :
    ∃ m', Snap.le m m' ∧ WH K m' β (upd γ nm v') κ ⟨B.bx, (nm, (⟨e, xs ++ ys⟩ : GV P)) :: B.gr, Ph.tiN nm B.ti⟩ w' := by
  have hl0 := hcs.length
  have hfresh : ∀ b, v'.ownBlock = some b → (γ nm).ownBlock = some b ∨ w.heap.size ≤ b := fun b hb => by
    rcases hway with h1 | ⟨_, h2⟩
    · exact .inl (h1 ▸ hb)
    · exact .inr (h2 b hb)
  have hsame : ∀ b, b < w.heap.size → v'.ownBlock ≠ some b → w'.heap[b]? = w.heap[b]? := fun b hb hne => by
    rcases hway with h1 | ⟨h2, _⟩
    · exact hgr.block b hb (by rw [← h1]; exact Ne.symm hne)
    · exact h2.block b hb (by simp)
  have hlt : ∀ b i v, m b i = some v → b < w.heap.size := fun b i v hv => cell_lt (h.sees b i v hv)
  let m' : Snap := fun c i => match m c i with | some v => some v | none => if v'.ownBlock = some c then (cs0 ++ news)[i]? else none
  have hm'_some : ∀ c i v, m c i = some v → m' c i = some v := fun c i v hv => by show (match m c i with | some v => some v | none => _) = some v; rw [hv]
  have hm'_none : ∀ c i, m c i = none → v'.ownBlock ≠ some c → m' c i = none := fun c i hv hne => by
    show (match m c i with | some v => some v | none => if v'.ownBlock = some c then (cs0 ++ news)[i]? else none) = none
    rw [hv]; exact if_neg hne
  have hm'_own : ∀ c i, v'.ownBlock = some c → m' c i = (cs0 ++ news)[i]? := fun c i hc => by
    show (match m c i with | some v => some v | none => if v'.ownBlock = some c then (cs0 ++ news)[i]? else none) = _
    cases hv : m c i with
    | none => exact if_pos hc
    | some v =>
      rcases hfresh c hc with h1 | h1
      · obtain ⟨h2, h3⟩ := hpre c h1
        have hi : i < cs0.length := by
          rcases Nat.lt_or_ge i cs0.length with hh | hh
          · exact hh
          · rw [h3 i (by omega)] at hv; cases hv
        rw [List.getElem?_append_left hi]
        have := h2 i cs0[i] (List.getElem?_eq_getElem hi)
        rw [hv] at this
        rw [List.getElem?_eq_getElem hi, this]
      · have := hlt c i v hv; omega
  have hle : Snap.le m m' := hm'_some
  have hcell : ∀ c i, v'.ownBlock = some c → ∀ u, (cs0 ++ news)[i]? = some u → w'.cell? ⟨c, i, none⟩ = some u := fun c i hc u hu => by
    have := hown'.cells (g := c) hc i u hu
    rwa [addr_add, Nat.zero_add] at this
  have hkeep : ∀ b, b < w.heap.size → (γ nm).ownBlock ≠ some b → w'.heap[b]? = w.heap[b]? := fun b hb hne => hgr.block b hb (Ne.symm hne)
  refine ⟨m', hle, fun c i v hv => ?_, Snap.le_trans h.le hle, fun c i v hv => ?_, fun y bv hy => ?_, h.inj, fun y gv hy => ?_, fun y z gv bv hy hz => ?_, fun y z gy gz b hy hz hne hb => ?_, fun q hq => ?_, ?_⟩
  · by_cases hc : v'.ownBlock = some c
    · rw [hm'_own c i hc] at hv; exact hcell c i hc v hv
    · cases hm : m c i with
      | none => rw [hm'_none c i hm hc] at hv; cases hv
      | some u =>
        rw [hm'_some c i u hm] at hv; cases hv
        rw [World.cell?_of_block (w := w) (hsame c (hlt c i v hm) hc)]; exact h.sees c i v hm
  · by_cases hc : v'.ownBlock = some c
    · exact .inr (hown'.lt c hc).1
    · cases hm : m c i with
      | none => rw [hm'_none c i hm hc] at hv; cases hv
      | some u => rw [hm'_some c i u hm] at hv; cases hv; exact h.new c i v hm
  · obtain ⟨⟨T, hT⟩, hr, hB', hn'⟩ := h.box y bv hy
    have hlty : β y < w.heap.size := by
      rcases Nat.lt_or_ge (β y) w.heap.size with hl | hl
      · exact hl
      · rw [Array.getElem?_eq_none hl] at hT; cases hT
    have hne : v'.ownBlock ≠ some (β y) := fun hb => by
      rcases hfresh _ hb with h1 | h1
      · exact h.gbox nm y _ bv hg hy h1
      · omega
    exact ⟨⟨T, by rw [hsame _ hlty hne]; exact hT⟩, bv.i.mono hle hr, hB', fun i => hm'_none _ _ (hn' i) hne⟩
  · by_cases e' : y = nm
    · subst e'
      rw [lk_cons_eq rfl] at hy; cases hy
      rw [upd_eq]
      have hf : flatRel (P := P) m' (cs0 ++ news) (xs ++ ys) := (flat_append hcs hnews).mono hle
      have hl := hf.length
      refine ⟨⟨cs0 ++ news, by simpa using hown', hf, fun b hb => ⟨fun _ => ⟨fun i c hc => by rw [hm'_own b i hb]; exact hc, fun i hi => ?_⟩, fun e => by rw [hpr] at e; cases e⟩⟩, by simpa using hbig⟩
      rw [hm'_own b i hb]
      exact List.getElem?_eq_none (by rw [hl]; exact hi)
    · rw [lk_cons_ne (Ne.symm e')] at hy
      rw [upd_ne e']
      have hgy := h.grow y gv hy
      have hne : ∀ b, (γ y).ownBlock = some b → v'.ownBlock ≠ some b := fun b hb hb' => by
        rcases hfresh _ hb' with h1 | h1
        · exact h.ginj y nm gv _ b hy hg e' hb h1
        · have := hgy.lt hb; omega
      exact hgy.keep (fun b hb => hsame b (hgy.lt hb) (hne b hb)) hle fun b i hb hi => hm'_none b i hi (hne b hb)
  · by_cases e' : y = nm
    · subst e'
      rw [upd_eq]
      intro hb
      obtain ⟨⟨T, hT⟩, _⟩ := h.box z bv hz
      rcases hfresh _ hb with h1 | h1
      · exact h.gbox y z _ bv hg hz h1
      · rw [Array.getElem?_eq_none h1] at hT; cases hT
    · rw [lk_cons_ne (Ne.symm e')] at hy
      rw [upd_ne e']; exact h.gbox y z gv bv hy hz
  · by_cases e1 : y = nm
    · subst e1
      rw [upd_eq] at hb
      have e2 : z ≠ y := Ne.symm hne
      rw [lk_cons_ne (Ne.symm e2)] at hz
      rw [upd_ne e2]
      intro hz'
      rcases hfresh _ hb with h1 | h1
      · exact h.ginj z y gz _ b hz hg e2 hz' h1
      · have := (h.grow z gz hz).lt hz'; omega
    · rw [lk_cons_ne (Ne.symm e1)] at hy
      rw [upd_ne e1] at hb
      by_cases e2 : z = nm
      · subst e2
        rw [upd_eq]
        intro hz'
        rcases hfresh _ hz' with h1 | h1
        · exact h.ginj y z gy _ b hy hg e1 hb h1
        · have := (h.grow y gy hy).lt hb; omega
      · rw [lk_cons_ne (Ne.symm e2)] at hz
        rw [upd_ne e2]
        exact h.ginj y z gy gz b hy hz hne hb
  · obtain ⟨h1, h2⟩ := tiN_mem q hq; rw [upd_ne h2]; exact h.tie q h1
  · refine h.go hgr.os hgr.tape hgr.output hgr.size (fun k hk hne => hgr.block k hk (fun e => hne (.inr ⟨nm, _, hg, e.symm⟩))) hle (fun c i v hv => ?_) (fun c i v hv => ?_) ?_ (hp := fun _ _ _ h => h) (hg := fun n v hn e => by rw [upd_ne (fun e2 => by subst e2; rw [hpg] at hn; cases hn)]; exact e)
    · by_cases hc : v'.ownBlock = some c
      · rcases hfresh c hc with h1 | h1
        · exact .inr (.inl (.inr ⟨nm, _, hg, h1⟩))
        · exact .inr (.inr h1)
      · cases hm : m c i with
        | none => rw [hm'_none c i hm hc] at hv; cases hv
        | some u => rw [hm'_some c i u hm] at hv; cases hv; exact .inl rfl
    · by_cases hc : v'.ownBlock = some c
      · rw [hm'_own c i hc] at hv; exact hcell c i hc v hv
      · cases hm : m c i with
        | none => rw [hm'_none c i hm hc] at hv; cases hv
        | some u =>
          rw [hm'_some c i u hm] at hv; cases hv
          rw [World.cell?_of_block (w := w) (hsame c (hlt c i v hm) hc)]; exact h.sees c i v hm
    · rintro b (hb | ⟨x, gv, h1, h2⟩)
      · exact .inl (.inl hb)
      · by_cases e : x = nm
        · subst e
          rw [upd_eq] at h2
          rcases hfresh b h2 with h3 | h3
          · exact .inl (.inr ⟨x, _, hg, h3⟩)
          · exact .inr h3
        · rw [lk_cons_ne (Ne.symm e)] at h1; rw [upd_ne e] at h2; exact .inl (.inr ⟨x, gv, h1, h2⟩)
theorem AH.append {α : Type} [Rp P α] {e : TypeId} {xs : List α} {m' : Snap} {v' : Value} (h : AH K m β γ sl a) (hw : WH K m β γ κ B w) (hg : lk B.gr nm = some ⟨e, xs⟩) (hle : Snap.le m m') (hfl : flatG sl = true) (hpr : priv nm = false) : AH K m' β (upd γ nm v') (degrAll nm (AV.d (P := P) xs) sl) a := by
  refine ⟨h.defers, h.size, fun t x hx => ?_⟩
  obtain ⟨z, hz, rfl⟩ := lk_degr hx
  obtain ⟨v, hv, hh⟩ := h.slot t z hz
  refine ⟨v, hv, ?_⟩
  have hh' := AV.holds_mono hle hh
  cases z with
  | g n =>
    show AV.holds _ _ _ (bif Nat.beq n nm then AV.d xs else AV.g n) v
    cases hb : Nat.beq n nm with
    | true =>
      have e : n = nm := Nat.eq_of_beq_eq_true hb
      subst e
      have e2 : v = γ n := hh
      rw [e2]
      exact (vlist (P := P) ((hw.grow n _ hg).slice hpr)).mono hle
    | false =>
      have e : n ≠ nm := fun e => by subst e; rw [Nat.beq_refl] at hb; cases hb
      show v = _
      rw [upd_ne e]; exact hh
  | d x => exact hh'
  | x v => exact hh'
  | p b o => exact hh'
  | ge n o => exact absurd hfl (flatG_ge hz)
  | any => exact hh'
  | cl f bs => exact hh'
  | t2 a b => exact absurd hfl (flatG_t2 hz)
  | t3 a b c => exact absurd hfl (flatG_t3 hz)
theorem TL_append {α : Type} [Rp P α] {e : TypeId} {xs ys zs : List α} (hx : Ev K s o (.g nm)) (hg : lk s.B.gr nm = some ⟨e, xs⟩) (hy : Ev K s o' (.d ys)) (hz : app xs ys = some zs) (ht : TyEl P t e α)
    (k : TL K ⟨(d, .g nm) :: degrAll nm (AV.d (P := P) xs) s.sl, ⟨s.B.bx, (nm, ⟨e, zs⟩) :: s.B.gr, tiN nm s.B.ti⟩⟩ ops Q rest) (hfl : flatG s.sl = true := by rfl) (hd : Nat.ble (d + 1) K.n = true := by rfl) (hpr : priv nm = false := by rfl) (hpg : K.ping nm = none := by rfl) :
    TL K s ops Q (⟨some d, .call ⟨.builtin .append, #[o, o'], #[t, t]⟩, ty, pos, aft, none⟩ :: rest) := by
  obtain ⟨rfl, hbig⟩ := app_some hz
  intro m β γ κ a w ha hw
  have hd' : d < K.n := Nat.le_of_ble_eq_true hd
  obtain ⟨i, z, hi, hz0, hs, hzs, hby⟩ := ht.info
  have e1 : a.eval o = γ nm := hx m β γ a ha
  obtain ⟨⟨ad, cap, e2, _, hel⟩, _⟩ := list_of (P := P) (hy m β γ a ha)
  obtain ⟨⟨cs0, hown, hcs, hpre0⟩, _⟩ := hw.grow nm _ hg
  have hpre := fun b hb => (hpre0 b hb).1 hpr
  have hB : K.B0 ≤ w.heap.size := hw.jj.2.1
  refine wpL_of (show Region.wanted _ _ = true from rfl) (by intro _ e; cases e) ?_
  by_cases hye : ys = []
  · subst hye
    have hr := run_append_empty (P := P) (ty := ty) (ad := ad) (cap := cap) ht.un hi hown
    have hrun : (execOp a.eval ⟨some d, .call ⟨.builtin .append, #[o, o'], #[t, t]⟩, ty, pos, aft, none⟩).run P w = .ok (.value (γ nm)) w := by
      simp [execOp, resolve, invoke, builtin, e1, e2]
      rw [List.length_nil] at e2
      simp [hr]
    unfold Oper.wp
    rw [hrun]
    obtain ⟨m', hle, hw'⟩ := hw.append (ys := ([] : List α)) (news := []) (v' := γ nm) (w' := w) hg hown hcs hpre hpr hpg (by simpa using hown) rfl ⟨rfl, rfl, rfl, Nat.le_refl _, fun _ _ _ => rfl⟩ hbig (.inl rfl)
    exact k m' β _ κ _ w ((ha.append hw hg hle hfl hpr).put hd' (by show _ = _; rw [upd_eq])) hw'
  · obtain ⟨b, off, rfl, hm⟩ := hel hye
    obtain ⟨news, hnf, hnc⟩ := slice_cells (P := P) (m := m) (b := b) (off := off) (ys := ys) (k := 0) (fun i x hx => by
      obtain ⟨cs, h1, h2⟩ := hm i x hx
      exact ⟨cs, h1, fun j c hj => by simpa using h2 j c hj⟩)
    have hnl := hnf.length
    obtain ⟨v', w', hr, ho', hgr, hway⟩ := run_append2 (P := P) (ty := ty) (w := w) (c := cap) (ad := ⟨b, off, none⟩) ht.un hi hz0 hs rfl hzs ht.pos hown hnl (fun j u hj => by
      rw [addr_add]
      have := hnc j u hj
      exact hw.sees _ _ _ (by simpa using this)) hnf.ok hbig hby hB
    have hrun : (execOp a.eval ⟨some d, .call ⟨.builtin .append, #[o, o'], #[t, t]⟩, ty, pos, aft, none⟩).run P w = .ok (.value v') w' := by
      simp [execOp, resolve, invoke, builtin, e1, e2, hr]
    unfold Oper.wp
    rw [hrun]
    obtain ⟨m', hle, hw'⟩ := hw.append hg hown hcs hpre hpr hpg ho' hnf hgr hbig hway
    exact k m' β _ κ _ w' ((ha.append hw hg hle hfl hpr).put hd' (by show _ = _; rw [upd_eq])) hw'
end ops
end Go.Ph
namespace Go.Ph
universe u
open Go.RowKit (Below)
variable {P : Program}
/-- A function that may be called. -/
def callable (P : Program) (f : FuncId) : Bool := (P.funcs[f]?).any (fun fn => !fn.body.isNone && !(fn.name == "runtime.NumGoroutine"))
/-- Function values of one and of two arguments: what they come to, where they come to something. -/
structure Fn1 (α δ : Type) where
  f : α → Option δ
structure Fn2 (α δ ε : Type) where
  f : α → δ → Option ε
instance rpFn1 (α δ : Type) [Rp P α] [Rp P δ] : Rp P (Fn1 α δ) where
  sz := 1
  agg := false
  rel := fun m cs F => ∃ fn cap, cs = [.func (.func fn) #[] cap] ∧ callable P fn = true ∧ ∀ x r, F.f x = some r → ∀ (m' : Snap) (w : World) (v : Value), Snap.le m m' → (∀ b i v, m' b i = some v → w.cell? ⟨b, i, none⟩ = some v) → vrel (P := P) m' v x →
    Calls P fn (#[v] ++ cap) w (Post (P := P) m' w (.d r))
  len := by rintro m cs x ⟨fn, cap, rfl, _⟩; rfl
  ok := by rintro m cs x ⟨fn, cap, rfl, _⟩ c hc; simp only [List.mem_singleton] at hc; subst hc; rfl
  one := fun _ => rfl
  mono := by
    rintro m m' cs F hle ⟨fn, cap, rfl, hc, h⟩
    exact ⟨fn, cap, rfl, hc, fun x r hr m'' w v hle' hs hv => h x r hr m'' w v (Snap.le_trans hle hle') hs hv⟩
instance rpFn2 (α δ ε : Type) [Rp P α] [Rp P δ] [Rp P ε] : Rp P (Fn2 α δ ε) where
  sz := 1
  agg := false
  rel := fun m cs F => ∃ fn cap, cs = [.func (.func fn) #[] cap] ∧ callable P fn = true ∧ ∀ x y r, F.f x y = some r → ∀ (m' : Snap) (w : World) (v u : Value), Snap.le m m' → (∀ b i v, m' b i = some v → w.cell? ⟨b, i, none⟩ = some v) → vrel (P := P) m' v x → vrel (P := P) m' u y →
    Calls P fn (#[v, u] ++ cap) w (Post (P := P) m' w (.d r))
  len := by rintro m cs x ⟨fn, cap, rfl, _⟩; rfl
  ok := by rintro m cs x ⟨fn, cap, rfl, _⟩ c hc; simp only [List.mem_singleton] at hc; subst hc; rfl
  one := fun _ => rfl
  mono := by
    rintro m m' cs F hle ⟨fn, cap, rfl, hc, h⟩
    exact ⟨fn, cap, rfl, hc, fun x y r hr m'' w v u hle' hs hv hu => h x y r hr m'' w v u (Snap.le_trans hle hle') hs hv hu⟩
section ops
variable {K : Cx} {s : St P} {ops : Array Oper} {Q : Exit → Act → World → Prop} {rest : List Oper} {d nm : Nat} {t t' t'' ty : TypeId} {pos : String} {aft : Array Edge} {g : Option (Nat × Bool)} {dst : Option Tmp} {o o' o'' : Operand}
  {m : Snap} {β : Nat → Nat} {γ : Nat → Value} {κ : Nat → List Value} {B : Bs P} {w : World} {a : Act} {sl : List (Nat × AV P)} {bx : List (Nat × BV P)} {gr : List (Nat × GV P)} {ti : List ((Nat × Nat) × Nat)}
theorem AllHold.mono {m m' : Snap} (hle : Snap.le m m') : ∀ {vs : List Value} {xs : List (AV P)}, AllHold m vs xs → AllHold m' vs xs
  | [], [], _ => trivial
  | _ :: _, _ :: _, h => ⟨AV.holds_mono hle h.1, AllHold.mono hle h.2⟩
  | [], _ :: _, h => h.elim
  | _ :: _, [], h => h.elim
/-- A closure: 'caps' is what it has captured. -/
theorem y_makeFunc1 {α δ : Type} [Rp P α] [Rp P δ] {f : FuncId} {os : List Operand} {caps : List (AV P)} {F : α → Option δ} (hc : ∀ x r, F x = some r → Fn P f (.d x :: caps) (.d r)) (he : EvAll K s os caps)
    (hf : callable P f = true) (hcl : allClosed caps = true := by rfl) :
    Y K s ⟨dst, .makeFunc (.func f) #[] os.toArray, ty, pos, aft, g⟩ (.d (P := P) (⟨F⟩ : Fn1 α δ)) := by
  refine Y.of_run fun m β γ κ a ha _ => ⟨.func (.func f) #[] (os.toArray.map a.eval), ⟨⟨f, _, rfl, hf, fun x r hr m' w v hle hs hv => ?_⟩, rfl⟩, fun w _ => by simp [execOp, Instr.makeFunc]⟩
  have hh : AllHold m' (os.map a.eval) caps := (he.hold ha hcl).mono hle
  have := hc x r hr m' w (v :: os.map a.eval) hs ⟨hv, hh⟩
  simpa using this
theorem y_makeFunc2 {α δ ε : Type} [Rp P α] [Rp P δ] [Rp P ε] {f : FuncId} {os : List Operand} {caps : List (AV P)} {F : α → δ → Option ε} (hc : ∀ x y r, F x y = some r → Fn P f (.d x :: .d y :: caps) (.d r)) (he : EvAll K s os caps)
    (hf : callable P f = true) (hcl : allClosed caps = true := by rfl) :
    Y K s ⟨dst, .makeFunc (.func f) #[] os.toArray, ty, pos, aft, g⟩ (.d (P := P) (⟨F⟩ : Fn2 α δ ε)) := by
  refine Y.of_run fun m β γ κ a ha _ => ⟨.func (.func f) #[] (os.toArray.map a.eval), ⟨⟨f, _, rfl, hf, fun x y r hr m' w v u hle hs hv hu => ?_⟩, rfl⟩, fun w _ => by simp [execOp, Instr.makeFunc]⟩
  have hh : AllHold m' (os.map a.eval) caps := (he.hold ha hcl).mono hle
  have := hc x y r hr m' w (v :: u :: os.map a.eval) hs ⟨hv, hu, hh⟩
  simpa using this
theorem callable_fn {f : FuncId} (h : callable P f = true) : ∃ fn, P.funcs[f]? = some fn ∧ fn.body ≠ none ∧ fn.name ≠ "runtime.NumGoroutine" := by
  unfold callable at h
  cases hq : P.funcs[f]? with
  | none => rw [hq] at h; cases h
  | some fn =>
    rw [hq] at h
    simp only [Option.any_some, Bool.and_eq_true, Bool.not_eq_true'] at h
    refine ⟨fn, rfl, fun e => by rw [e] at h; exact absurd h.1 (by simp), by simpa using h.2⟩
theorem run_callv {f : FuncId} {cap : Array Value} {os : List Operand} {tys : Array TypeId} (hf : callable P f = true) (e : a.eval o = .func (.func f) #[] cap) :
    (execOp a.eval ⟨dst, .call ⟨.value o, os.toArray, tys⟩, ty, pos, aft, g⟩).run P w = .ok (.enter f ((os.map a.eval).toArray ++ cap)) w := by
  obtain ⟨fn, h1, h2, h3⟩ := callable_fn hf
  simp [execOp, resolve, e, Deferred.ofValue, invoke, callFunc, h1, h2, h3]
theorem fn1_of {α δ : Type} [Rp P α] [Rp P δ] {v : Value} {F : Fn1 α δ} (h : vrel (P := P) m v F) : ∃ fn cap, v = .func (.func fn) #[] cap ∧ callable P fn = true ∧ ∀ x r, F.f x = some r → ∀ (m' : Snap) (w : World) (v : Value), Snap.le m m' → (∀ b i v, m' b i = some v → w.cell? ⟨b, i, none⟩ = some v) → vrel (P := P) m' v x →
    Calls P fn (#[v] ++ cap) w (Post (P := P) m' w (.d r)) := by
  have e := vrel.eq_mkV h
  obtain ⟨⟨fn, cap, h1, h2, h3⟩, _⟩ := h
  rw [h1] at e
  exact ⟨fn, cap, e, h2, h3⟩
theorem fn2_of {α δ ε : Type} [Rp P α] [Rp P δ] [Rp P ε] {v : Value} {F : Fn2 α δ ε} (h : vrel (P := P) m v F) : ∃ fn cap, v = .func (.func fn) #[] cap ∧ callable P fn = true ∧ ∀ x y r, F.f x y = some r → ∀ (m' : Snap) (w : World) (v u : Value), Snap.le m m' → (∀ b i v, m' b i = some v → w.cell? ⟨b, i, none⟩ = some v) → vrel (P := P) m' v x → vrel (P := P) m' u y →
    Calls P fn (#[v, u] ++ cap) w (Post (P := P) m' w (.d r)) := by
  have e := vrel.eq_mkV h
  obtain ⟨⟨fn, cap, h1, h2, h3⟩, _⟩ := h
  rw [h1] at e
  exact ⟨fn, cap, e, h2, h3⟩
theorem TL_callv1 {α δ : Type} [Rp P α] [Rp P δ] {F : Fn1 α δ} {x : α} {r : δ} {tys : Array TypeId} (hF : Ev K s o (.d F)) (hx : Ev K s o' (.d x)) (hr : F.f x = some r)
    (k : TL K (s.put d (.d r)) ops Q rest) (hd : Nat.ble (d + 1) K.n = true := by rfl) :
    TL K s ops Q (⟨some d, .call ⟨.value o, #[o'], tys⟩, ty, pos, aft, none⟩ :: rest) := by
  intro m β γ κ a w ha hw
  have hd' : d < K.n := Nat.le_of_ble_eq_true hd
  obtain ⟨fn, cap, e, hc, hcall⟩ := fn1_of (hF m β γ a ha)
  refine wpL_of (show Region.wanted _ _ = true from rfl) (by intro _ e; cases e) ?_
  unfold Oper.wp
  rw [show (#[o'] : Array Operand) = [o'].toArray from rfl, run_callv hc e, Oper.upon_enter]
  refine (hcall x r hr m w _ (Snap.le_refl _) hw.sees (hx m β γ a ha)).mono ?_
  rintro e w' ⟨v, m', rfl, hv, hle, hnew, hs, hb⟩
  exact k m' β γ κ _ w' ((ha.mono hle).put hd' hv) (hw.call hle hnew hs hb)
/-- The same where an order is drawn: what comes back lies in no memory. -/
theorem y_callv1 {α δ : Type} [Rp P α] [Rp P δ] [Flat P δ] {F : Fn1 α δ} {x : α} {r : δ} {tys : Array TypeId} (hF : Ev K s o (.d F)) (hx : Ev K s o' (.d x)) (hr : F.f x = some r) :
    Y K s ⟨dst, .call ⟨.value o, #[o'], tys⟩, ty, pos, aft, g⟩ (.d r) := by
  intro m β γ κ a ha ⟨w0, hw0⟩
  obtain ⟨fn, cap, e, hc, hcall⟩ := fn1_of (hF m β γ a ha)
  obtain ⟨v, hv⟩ := Calls.flat (hcall x r hr m w0 _ (Snap.le_refl _) hw0.sees (hx m β γ a ha))
  refine ⟨v, hv m, fun w hw => ?_⟩
  unfold Oper.quietAt
  rw [show (#[o'] : Array Operand) = [o'].toArray from rfl, run_callv hc e]
  refine ⟨rfl, (hcall x r hr m w _ (Snap.le_refl _) hw.sees (hx m β γ a ha)).mono ?_⟩
  rintro e w' ⟨v', m', rfl, hv', hle, hnew, hs, hb⟩
  exact ⟨by rw [Flat.one (hv m) hv'], hw.below_call hb⟩
theorem y_callv2 {α δ ε : Type} [Rp P α] [Rp P δ] [Rp P ε] [Flat P ε] {F : Fn2 α δ ε} {x : α} {y : δ} {r : ε} {tys : Array TypeId} (hF : Ev K s o (.d F)) (hx : Ev K s o' (.d x)) (hy : Ev K s o'' (.d y)) (hr : F.f x y = some r) :
    Y K s ⟨dst, .call ⟨.value o, #[o', o''], tys⟩, ty, pos, aft, g⟩ (.d r) := by
  intro m β γ κ a ha ⟨w0, hw0⟩
  obtain ⟨fn, cap, e, hc, hcall⟩ := fn2_of (hF m β γ a ha)
  obtain ⟨v, hv⟩ := Calls.flat (hcall x y r hr m w0 _ _ (Snap.le_refl _) hw0.sees (hx m β γ a ha) (hy m β γ a ha))
  refine ⟨v, hv m, fun w hw => ?_⟩
  unfold Oper.quietAt
  rw [show (#[o', o''] : Array Operand) = [o', o''].toArray from rfl, run_callv hc e]
  refine ⟨rfl, (hcall x y r hr m w _ _ (Snap.le_refl _) hw.sees (hx m β γ a ha) (hy m β γ a ha)).mono ?_⟩
  rintro e w' ⟨v', m', rfl, hv', hle, hnew, hs, hb⟩
  exact ⟨by rw [Flat.one (hv m) hv'], hw.below_call hb⟩
end ops
/-! Data that no memory bears. -/
/-- Every datum of the type has one row of cells. -/
class Enc (P : Program) (α : Type) [Rp P α] where
  enc : α → List Value
  iff : ∀ {m : Snap} {cs : List Value} {x : α}, Rp.rel P m cs x → cs = enc x
  ind : ∀ {m m' : Snap} {cs : List Value} {x : α}, Rp.rel P m cs x → Rp.rel P m' cs x
theorem flat_of_enc {α : Type} [Rp P α] [Enc P α] {m m' : Snap} {v v' : Value} {x : α} (h : vrel (P := P) m v x) (h' : vrel (P := P) m' v' x) : v' = v := by
  have e := vrel.eq_mkV h
  have e' := vrel.eq_mkV h'
  rw [Enc.iff h.1] at e
  rw [Enc.iff h'.1] at e'
  rw [e, e']
instance {α : Type} [Rp P α] [Enc P α] : Flat P α := ⟨flat_of_enc, fun h => ⟨Enc.ind h.1, h.2⟩⟩
instance : Enc P Int := ⟨fun x => [.int .i64 x], fun h => h.1, fun h => h⟩
instance : Enc P Bool := ⟨fun x => [.bool x], fun h => h, fun h => h⟩
instance : Enc P UInt8 := ⟨fun x => [.int .u8 x.toNat], fun h => h, fun h => h⟩
instance {α δ : Type} [Rp P α] [Rp P δ] [Enc P α] [Enc P δ] : Enc P (α × δ) := ⟨fun x => Enc.enc P x.1 ++ Enc.enc P x.2, by rintro m cs x ⟨a, b, rfl, h1, h2⟩; rw [Enc.iff h1, Enc.iff h2], by rintro m m' cs x ⟨a, b, rfl, h1, h2⟩; exact ⟨a, b, rfl, Enc.ind h1, Enc.ind h2⟩⟩
theorem flatRel.enc {α : Type} [Rp P α] [Enc P α] {m : Snap} : ∀ {xs : List α} {cs : List Value}, flatRel (P := P) m cs xs → cs = xs.flatMap (Enc.enc P)
  | [], _, h => h
  | _ :: _, _, ⟨a, b, e, h1, h2⟩ => by rw [List.flatMap_cons, e, Enc.iff h1, h2.enc]
theorem flatRel.ind {α : Type} [Rp P α] [Enc P α] {m m' : Snap} : ∀ {xs : List α} {cs : List Value}, flatRel (P := P) m cs xs → flatRel (P := P) m' cs xs
  | [], _, h => h
  | _ :: _, _, ⟨a, b, e, h1, h2⟩ => ⟨a, b, e, Enc.ind h1, h2.ind⟩
instance {α : Type} [Rp P α] [Enc P α] {n : Nat} : Enc P (Vector α n) := ⟨fun x => x.toList.flatMap (Enc.enc P), fun h => flatRel.enc h, fun h => flatRel.ind h⟩
/-- A struct of its own, over a flat row of fields. -/
@[reducible] def Enc.via {σ τ : Type} [Rp P τ] [Enc P τ] (to : σ → τ) : @Enc P σ (Rp.via to) :=
  @Enc.mk P σ (Rp.via to) (fun x => Enc.enc P (to x)) (fun h => Enc.iff (α := τ) h) (fun h => Enc.ind (α := τ) h)
end Go.Ph
namespace Go.Ph
universe u
variable {P : Program}
section
variable {K : Cx} {s s' : St P} {Q : Exit → Act → World → Prop} {ops : Array Oper} {rest : List Oper}
theorem z_rt {n : Act → World → Prop} (h : Z K s .ret Q) : Z K s .ret (Exit.then n Q) := h
theorem z_rb {i : Nat} (h : Z K s .ret Q) : Z K s .ret (Exit.inBlock i Q) := h
theorem z_et {n : Act → World → Prop} {i : Nat} (h : Z K s (.exit i) Q) : Z K s (.exit i) (Exit.then n Q) := h
theorem z_ei {i : Nat} (h : Z K s .normal Q) : Z K s (.exit i) (Exit.inBlock i Q) := fun m β γ κ a w ha hw => by
  show (if i = i then Q .normal a w else _); rw [if_pos rfl]; exact h m β γ κ a w ha hw
theorem z_eo {i j : Nat} (h : Z K s (.exit i) Q) (hn : Nat.beq i j = false := by rfl) : Z K s (.exit i) (Exit.inBlock j Q) := fun m β γ κ a w ha hw => by
  show (if i = j then _ else Q (.exit i) a w)
  rw [if_neg (fun e => by subst e; rw [Nat.beq_refl] at hn; cases hn)]; exact h m β γ κ a w ha hw
theorem z_nb {i : Nat} (h : Z K s .normal Q) : Z K s .normal (Exit.inBlock i Q) := h
theorem z_nt {c : Code} (h : T K s c Q) : Z K s .normal (Exit.then (c.wpIn (fc K.rd) 0 P Q) Q) := h
theorem z_nl {c : Code} (h : TW K s c Q) : Z K s .normal (Exit.then (LW K.rd P c Q) Q) := h
def tiSub : List ((Nat × Nat) × Nat) → List ((Nat × Nat) × Nat) → Bool
  | [], _ => true
  | ((b, o), n) :: r, l => (l.any fun e => Nat.beq e.1.1 b && (Nat.beq e.1.2 o && Nat.beq e.2 n)) && tiSub r l
theorem tiSub_mem : ∀ {l' l : List ((Nat × Nat) × Nat)}, tiSub l' l = true → ∀ e ∈ l', e ∈ l
  | [], _, _, e, h => by simp at h
  | ((b, o), n) :: r, l, hs, e, h => by
    simp only [tiSub, Bool.and_eq_true] at hs
    rcases List.mem_cons.1 h with h | h
    · subst h
      obtain ⟨⟨⟨x, y⟩, z⟩, hm, he⟩ := List.any_eq_true.1 hs.1
      simp only [Bool.and_eq_true] at he
      obtain ⟨h1, h2, h3⟩ := he
      have e1 := Nat.eq_of_beq_eq_true h1
      have e2 := Nat.eq_of_beq_eq_true h2
      have e3 := Nat.eq_of_beq_eq_true h3
      subst e1; subst e2; subst e3
      exact hm
    · exact tiSub_mem hs.2 e h
theorem le_k {sl : List (Nat × AV P)} {bx : List (Nat × BV P)} {gr : List (Nat × GV P)} {ti : List ((Nat × Nat) × Nat)} {ks bs gs : List Nat} (h1 : Keep ks s.sl sl) (h2 : Keep bs s.B.bx bx) (h3 : Keep gs s.B.gr gr) (h4 : tiSub ti s.B.ti = true := by rfl) : Le ⟨sl, ⟨bx, gr, ti⟩⟩ s :=
  ⟨h1.le, h2.le, h3.le, tiSub_mem h4⟩
theorem bind_some {α δ : Type} {a : Option α} {f : α → Option δ} {r : δ} (h : a.bind f = some r) : ∃ x, a = some x ∧ f x = some r := Option.bind_eq_some_iff.1 h
theorem cond_t {α : Type} {b : Bool} {x y r : α} (hb : b = true) (h : (bif b then x else y) = r) : x = r := by rw [hb] at h; exact h
theorem cond_f {α : Type} {b : Bool} {x y r : α} (hb : b = false) (h : (bif b then x else y) = r) : y = r := by rw [hb] at h; exact h
/-- What a loop comes to: the function hands back a result, or goes on. -/
inductive Lo (ρ σ : Type) where
  | ret (r : ρ)
  | fall (s : σ)
theorem drop_nil {α : Type} {xs : List α} {i : Nat} (h : xs.drop i = []) : xs.length ≤ i := List.drop_eq_nil_iff.1 h
theorem drop_cons {α : Type} {xs ys : List α} {i : Nat} {x : α} (h : xs.drop i = x :: ys) : i < xs.length ∧ xs[i]? = some x ∧ xs.drop (i + 1) = ys := by
  have hlt : i < xs.length := by
    rcases Nat.lt_or_ge i xs.length with h1 | h1
    · exact h1
    · rw [List.drop_eq_nil_of_le h1] at h; cases h
  rw [List.drop_eq_getElem_cons hlt] at h
  cases h
  exact ⟨hlt, List.getElem?_eq_getElem hlt, rfl⟩
theorem dec_lt {i n : Nat} (h : n ≤ i) (hb : decide ((i : Int) < (n : Int)) = true) : False := by have := of_decide_eq_true hb; omega
theorem dec_ge {i n : Nat} (h : i < n) (hb : decide ((i : Int) < (n : Int)) = false) : False := by have := of_decide_eq_false hb; omega
end
section ops
variable {K : Cx} {s : St P} {ops : Array Oper} {Q : Exit → Act → World → Prop} {rest : List Oper} {d : Nat} {t t' ty : TypeId} {pos : String} {aft : Array Edge} {g : Option (Nat × Bool)} {dst : Option Tmp} {o o' o'' : Operand}
theorem y_indexNat {α : Type} [Rp P α] {xs : List α} {y : α} {i : Nat} (hx : Ev K s o (.d xs)) (hi : Ev K s o' (.d (i : Int))) (hy : xs[i]? = some y) (ht : TySl P t α) :
    Y K s ⟨dst, .indexAddr t o o', ty, pos, aft, g⟩ (.d (P := P) (⟨y⟩ : Ptr α)) := y_indexAddr hx hi (by omega) (by simpa using hy) ht
theorem y_indexIx {α : Type} [Rp P α] {xs : List α} {y : α} {i : Int} (hx : Ev K s o (.d xs)) (hi : Ev K s o' (.d i)) (hy : ix xs i = some y) (ht : TySl P t α) :
    Y K s ⟨dst, .indexAddr t o o', ty, pos, aft, g⟩ (.d (P := P) (⟨y⟩ : Ptr α)) := y_indexAddr hx hi (ix_some hy).1 (ix_some hy).2 ht
/-- an element's place in an array of the call's own -/
theorem y_indexArr0 {α : Type} [Rp P α] {n bx : Nat} {i : Int} (hp : Ev K s o (.p bx 0)) (hi : Ev K s o' (.d i)) (h0 : 0 ≤ i) (h1 : i.toNat < n) (ht : TyAr P t n α) :
    Y K s ⟨dst, .indexAddr t o o', ty, pos, aft, g⟩ (.p (P := P) bx (i.toNat * Rp.sz P α)) := by
  have := y_indexAddr_arr (ty := ty) (pos := pos) (aft := aft) (g := g) (dst := dst) hp hi h0 h1 ht
  rwa [Nat.zero_add] at this
end ops
def vchk (n : Nat) (i : Int) : Option Unit := if 0 ≤ i ∧ i.toNat < n then some () else none
theorem vchk_some {n : Nat} {i : Int} {u : Unit} (h : vchk n i = some u) : 0 ≤ i ∧ i.toNat < n := by
  unfold vchk at h; split at h
  · assumption
  · cases h
def vput {α : Type} {n : Nat} (v : Vector α n) (i : Int) (x : α) : Vector α n := if h : i.toNat < n then v.set i.toNat x h else v
def drem (x y : Int) : Option Int := if y = 0 then none else some (Int.tmod x y)
@[irreducible] def FUEL : Nat := 4194304
theorem vix_get {α : Type} {n : Nat} {v : Vector α n} {i : Int} {y : α} (h : vix v i = some y) : ∃ (h1 : i.toNat < n), 0 ≤ i ∧ v[i.toNat] = y := by
  obtain ⟨h0, h2⟩ := vix_some h
  rcases Nat.lt_or_ge i.toNat n with h3 | h3
  · exact ⟨h3, h0, by rw [Vector.getElem?_eq_getElem h3] at h2; exact Option.some.inj h2⟩
  · rw [Vector.getElem?_eq_none h3] at h2; cases h2
section loops
variable {K : Cx} {s : St P} {Q : Exit → Act → World → Prop} {ops : Array Oper} {rest : List Oper} {d nm : Nat} {t ty : TypeId} {pos : String} {aft : Array Edge}
/-- Two ways that meet: what stands behind is walked once. -/
theorem T_join {σ : Type} {S : σ → St P} {c e : Code} (A : σ → Prop) (hrest : ∀ x, A x → T K (S x) e Q) (h : (∀ x, A x → Z K (S x) .normal (Exit.then (e.wpIn (fc K.rd) 0 P Q) Q)) → T K s c (Exit.then (e.wpIn (fc K.rd) 0 P Q) Q)) : T K s (.seq c e) Q :=
  T_seq (h hrest)
/-- A loop, and what stands behind it. -/
theorem T_loopin {σ : Type} {S : σ → St P} {id : Nat} {c : Code} (A : σ → Prop) (hrest : ∀ x, A x → Z K (S x) .normal Q) (h : (∀ x, A x → Z K (S x) .normal Q) → TW K s c (Exit.inBlock id Q)) : T K s (.block id (.loop c)) Q :=
  T_block (T_loop (h hrest))
theorem range_ind {α σ : Type} (X : List α) (S : Nat → σ → St P) {c : Code} (F : List α → Nat → σ → Prop) (hnil : ∀ i s, X.length ≤ i → F [] i s → TW K (S i s) c Q)
    (hcons : ∀ x xs i s, i < X.length → X[i]? = some x → (∀ s', F xs (i + 1) s' → TW K (S (i + 1) s') c Q) → F (x :: xs) i s → TW K (S i s) c Q) : ∀ (xs : List α) (i : Nat) (s : σ), X.drop i = xs → F xs i s → TW K (S i s) c Q
  | [], i, s, hx, hF => hnil i s (drop_nil hx) hF
  | x :: xs, i, s, hx, hF => by
    obtain ⟨h1, h2, h3⟩ := drop_cons hx
    exact hcons x xs i s h1 h2 (fun s' hF' => range_ind X S F hnil hcons xs (i + 1) s' h3 hF') hF
theorem nrange_ind {σ : Type} (n : Int) (S : Nat → σ → St P) {c : Code} (F : Nat → Nat → σ → Prop) (hnil : ∀ (i : Nat) (s : σ), n ≤ (i : Int) → F 0 i s → TW K (S i s) c Q)
    (hcons : ∀ (k i : Nat) (s : σ), (i : Int) < n → (∀ s', F k (i + 1) s' → TW K (S (i + 1) s') c Q) → F (k + 1) i s → TW K (S i s) c Q) : ∀ (k i : Nat) (s : σ), i + k = n.toNat → F k i s → TW K (S i s) c Q
  | 0, i, s, hx, hF => hnil i s (by omega) hF
  | k + 1, i, s, hx, hF => hcons k i s (by omega) (fun s' hF' => nrange_ind n S F hnil hcons k (i + 1) s' (by omega) hF') hF
theorem fuel_ind {σ : Type} (S : σ → St P) {c : Code} (F : Nat → σ → Prop) (h0 : ∀ s, F 0 s → TW K (S s) c Q) (hs : ∀ k s, (∀ s', F k s' → TW K (S s') c Q) → F (k + 1) s → TW K (S s) c Q) : ∀ (k : Nat) (s : σ), F k s → TW K (S s) c Q
  | 0, s, hF => h0 s hF
  | k + 1, s, hF => hs k s (fun s' hF' => fuel_ind S F h0 hs k s' hF') hF
/-- A cut ahead of guarded operations: 'r' is what the pick comes to. -/
theorem TL_cut {L : List Oper} (n p : Nat) {r : Bool} (b : Bool) (hk : TL K (s.put p (.d r)) ops Q (L.drop n)) (ht : b = true → TL K (s.put p (.d r)) ops Q (L.drop n) → TL K s ops Q L) (hf : b = false → TL K (s.put p (.d r)) ops Q (L.drop n) → TL K s ops Q L) : TL K s ops Q L := by
  cases b with
  | true => exact ht rfl hk
  | false => exact hf rfl hk
theorem TQ_cut {B : Bs P} {sl : List (Nat × AV P)} {L : List Oper} (n p : Nat) {r : Bool} (b : Bool) (hk : TQ K B ops Q (L.drop n) ((p, .d r) :: sl)) (ht : b = true → TQ K B ops Q (L.drop n) ((p, .d r) :: sl) → TQ K B ops Q L sl) (hf : b = false → TQ K B ops Q (L.drop n) ((p, .d r) :: sl) → TQ K B ops Q L sl) : TQ K B ops Q L sl := by
  cases b with
  | true => exact ht rfl hk
  | false => exact hf rfl hk
theorem TL_skips {op : Op} {b want : Bool} {j dj : Nat} (hb : lk s.sl dj = some (.d b)) (hw : b = !want) (k : TL K (s.put d (.x undef)) ops Q rest) (hj : (ops[j]?).bind (·.dst) = some dj := by rfl) (hd : Nat.ble (d + 1) K.n = true := by rfl) :
    TL K s ops Q (⟨some d, op, ty, pos, aft, some (j, want)⟩ :: rest) := TL_skip hb (by rw [hw]; cases want <;> simp) k hj hd
theorem TQ_skips {B : Bs P} {sl : List (Nat × AV P)} {op : Op} {b want : Bool} {j dj : Nat} (hb : lk sl dj = some (.d b)) (hw : b = !want) (k : TQ K B ops Q rest ((d, .x undef) :: sl)) (hj : (ops[j]?).bind (·.dst) = some dj := by rfl) (hd : Nat.ble (d + 1) K.n = true := by rfl) :
    TQ K B ops Q (⟨some d, op, ty, pos, aft, some (j, want)⟩ :: rest) sl := TQ_skip hb (by rw [hw]; cases want <;> simp) k hj hd
/-- A new box with a field that is nil, and may grow. -/
theorem TL_alloc_g {α δ : Type} [Rp P α] [Rp P δ] {z : α} {v : Value} (nm off : Nat) (e : TypeId) (hv : ∀ w, (zeroValue t).run P w = .ok v w) (hz : Zero P t z) (hc : (v.cells.toList)[off]? = some (.slice none 0 0))
    (k : TL K ⟨(d, .p d 0) :: s.sl, ⟨(d, ⟨z⟩) :: s.B.bx, (nm, (⟨e, ([] : List δ)⟩ : GV P)) :: s.B.gr, ((d, off), nm) :: tiN nm (tiB d s.B.ti)⟩⟩ ops Q rest)
    (ho : offAll d s.sl = true := by rfl) (hgo : goffAll nm s.sl = true := by rfl) (hgr : offGr nm s.B.gr = true := by rfl) (hd : Nat.ble (d + 1) K.n = true := by rfl) (hpin : K.pin d = none := by rfl) (hpg : K.ping nm = none := by rfl) :
    TL K s ops Q (⟨some d, .alloc t, ty, pos, aft, none⟩ :: rest) := by
  intro m β γ κ a w ha hw
  have hd' : d < K.n := Nat.le_of_ble_eq_true hd
  obtain ⟨v', hv', hm⟩ := hz.run
  have e' : v' = v := by have h1 := hv w; rw [hv' w] at h1; exact (Result.ok.inj h1).1
  subst e'
  obtain ⟨hr, _⟩ := hm m
  refine wpL_of (show Region.wanted _ _ = true from rfl) (by intro _ e; cases e) ?_
  have hrun : (execOp a.eval ⟨some d, .alloc t, ty, pos, aft, none⟩).run P w = .ok (.value (.pointer (some ⟨w.heap.size, 0, none⟩))) { w with heap := w.heap.push (.cells v'.cells t) } := by
    simp [execOp, Instr.alloc, hv, newVar, newRow]
  unfold Oper.wp
  rw [hrun]
  have hw' := hw.alloc (d := d) (T := t) hr hpin
  simp only [Array.toArray_toList] at hw'
  have hw2 := (WH.tiN (d := nm) hw').nilOwn (α := δ) e (fun q gv hq => gr_off hgr hq) (tiN_ne _) hpg
  have ha' := ((ha.goff (d := nm) (v0 := .slice none 0 0) hgo).alloc (b := w.heap.size) ho hd')
  refine k m _ _ _ _ _ ha' ⟨hw2.sees, hw2.le, hw2.new, hw2.box, hw2.inj, hw2.grow, hw2.gbox, hw2.ginj, fun q hq => ?_, hw2.jj⟩
  rcases List.mem_cons.1 hq with hq | hq
  · subst hq
    show (upd κ d _ d)[off]? = some (upd γ nm _ nm)
    rw [upd_eq, upd_eq]; exact hc
  · exact hw2.tie q hq
end loops
section ops
variable {K : Cx} {s : St P} {ops : Array Oper} {Q : Exit → Act → World → Prop} {rest : List Oper} {d nm : Nat} {t t' ty : TypeId} {pos : String} {aft : Array Edge} {g : Option (Nat × Bool)} {dst : Option Tmp} {o o' o'' : Operand}
theorem TL_store_vec {α : Type} [Rp P α] {n bx : Nat} {v : Vector α n} {i : Int} {y : α} (hp : Ev K s o (.p bx (i.toNat * Rp.sz P α))) (hb : lk s.B.bx bx = some ⟨v⟩) (hy : Ev K s o' (.d y)) (_h0 : 0 ≤ i) (h1 : i.toNat < n) (ht : Ty P t α)
    (k : TL K ⟨s.sl, ⟨(bx, ⟨vput v i y⟩) :: s.B.bx, s.B.gr, tiO bx (i.toNat * Rp.sz P α) (Rp.sz P α) s.B.ti⟩⟩ ops Q rest) :
    TL K s ops Q (⟨none, .store t o o', ty, pos, aft, none⟩ :: rest) := by
  refine TL_store hp hb hy (put_vec h1) ht ?_ ?_
  · rw [← Nat.succ_mul]; exact Nat.mul_le_mul_right _ h1
  · have e : v.set i.toNat y h1 = vput v i y := by unfold vput; rw [dif_pos h1]
    rw [e]; exact k
theorem y_load_vec {α : Type} [Rp P α] {n bx : Nat} {v : Vector α n} {i : Int} {y : α} (hp : Ev K s o (.p bx (i.toNat * Rp.sz P α))) (hb : lk s.B.bx bx = some ⟨v⟩) (h : vix v i = some y) (ht : Ty P t α) :
    Y K s ⟨dst, .load t o, ty, pos, aft, g⟩ (.d (P := P) y) := by
  obtain ⟨h1, h0, h2⟩ := vix_get h
  rw [← h2]
  exact y_load (get := fun v : Vector α n => v[i.toNat]) hp hb (sub_vec h1) ht
theorem ti_in {l : List ((Nat × Nat) × Nat)} {b off nm : Nat} (h : tiSub [((b, off), nm)] l = true) : ((b, off), nm) ∈ l := tiSub_mem h _ (by simp)
theorem Z_g2d {e : Exit} {q : Nat} {gv : GV P} (hq : lk s.sl q = some (.g nm)) (hg : lk s.B.gr nm = some gv) (k : Z K (s.put q (@AV.d P (List gv.α) (@rpList P gv.α gv.i) gv.xs)) e Q) (hpr : priv nm = false := by rfl) : Z K s e Q := by
  intro m β γ κ a w ha hw
  refine k m β γ κ a w ⟨ha.defers, ha.size, fun t x hx => ?_⟩ hw
  change lk ((q, _) :: s.sl) t = _ at hx
  by_cases e : q = t
  · subst e
    rw [lk_cons_eq rfl] at hx; cases hx
    obtain ⟨v, hv, hh⟩ := ha.slot q _ hq
    have e2 : v = γ nm := hh
    refine ⟨v, hv, ?_⟩
    rw [e2]
    exact @vlist P gv.α gv.i _ _ _ ((hw.grow nm gv hg).slice hpr)
  · rw [lk_cons_ne e] at hx; exact ha.slot t x hx
/-! integers: quotients -/
theorem y_quo {x y : Int} (hx : Ev K s o (.d x)) (hy : Ev K s o' (.d y)) (h : y ≠ 0) : Y K s ⟨dst, .binOp .quo t o o' t', ty, pos, aft, g⟩ (.d (P := P) (w64 (Int.tdiv x y))) :=
  y_int2 hx hy fun m β γ w => ⟨.int .i64 (w64 (Int.tdiv x y)), vint m (w64_range _), by simp [eqGuard_quo, binOp_quo, Op.intDiv, w64, h], fun w' => by simp [eqGuard_quo, binOp_quo, Op.intDiv, w64, h]⟩
theorem tmod_range {x y : Int} (h : -9223372036854775808 ≤ x ∧ x ≤ 9223372036854775807) : -9223372036854775808 ≤ Int.tmod x y ∧ Int.tmod x y ≤ 9223372036854775807 := by
  have h1 : (Int.tmod x y).natAbs ≤ x.natAbs := by rw [Int.natAbs_tmod]; exact Nat.mod_le _ _
  have h2 : x < 0 → Int.tmod x y ≤ 0 := fun hx => by
    have e : Int.tmod x y = - Int.tmod (-x) y := by rw [Int.neg_tmod]; omega
    have := Int.tmod_nonneg (a := -x) y (by omega)
    omega
  have h3 : 0 ≤ x → 0 ≤ Int.tmod x y := fun hx => Int.tmod_nonneg y hx
  omega
theorem y_rem {x y : Int} (hx : Ev K s o (.d x)) (hy : Ev K s o' (.d y)) (h : y ≠ 0) : Y K s ⟨dst, .binOp .rem t o o' t', ty, pos, aft, g⟩ (.d (P := P) (Int.tmod x y)) := by
  refine Y.of_run fun m β γ κ a ha _ => ?_
  obtain ⟨e1, b1⟩ := int_of (P := P) (hx m β γ a ha)
  obtain ⟨e2, _⟩ := int_of (P := P) (hy m β γ a ha)
  refine ⟨.int .i64 (Int.tmod x y), vint m (tmod_range b1), fun w _ => ?_⟩
  simp [execOp, e1, e2, eqGuard_rem, binOp_rem, Op.intDiv, h]
theorem y_rem_p {x y r : Int} (hx : Ev K s o (.d x)) (hy : Ev K s o' (.d y)) (h : drem x y = some r) : Y K s ⟨dst, .binOp .rem t o o' t', ty, pos, aft, g⟩ (.d (P := P) r) := by
  unfold drem at h; split at h
  · cases h
  · cases h; exact y_rem hx hy ‹_›
/-! bytes -/
theorem y_u82 {op : BinOp} {x y : UInt8} {z : AV P} (hx : Ev K s o (.d x)) (hy : Ev K s o' (.d y))
    (h : ∀ m β γ, ∃ v, z.holds β γ m v ∧ ∀ w', (do eqGuard op t o o' (.int .u8 x.toNat) (.int .u8 y.toNat); binOp op t (.int .u8 x.toNat) (.int .u8 y.toNat) : Sem Value).run P w' = .ok v w') :
    Y K s ⟨dst, .binOp op t o o' t', ty, pos, aft, g⟩ z := by
  refine Y.of_run fun m β γ κ a ha _ => ?_
  obtain ⟨v, hv, hr⟩ := h m β γ
  refine ⟨v, hv, fun w _ => ?_⟩
  have e1 := u8_of (P := P) (hx m β γ a ha)
  have e2 := u8_of (P := P) (hy m β γ a ha)
  simp only [execOp, e1, e2]
  have := hr w
  simp only [Sem.run_bind] at this ⊢
  rw [this]
  rfl
theorem vu8 (m : Snap) (x : UInt8) : vrel (P := P) m (.int .u8 x.toNat) x := ⟨rfl, rfl⟩
theorem u8_lt_iff (x y : UInt8) : decide ((x.toNat : Int) < (y.toNat : Int)) = decide (x < y) := by rw [decide_eq_decide, UInt8.lt_iff_toNat_lt]; omega
theorem y8_lss {x y : UInt8} (hx : Ev K s o (.d x)) (hy : Ev K s o' (.d y)) : Y K s ⟨dst, .binOp .lss t o o' t', ty, pos, aft, g⟩ (.d (P := P) (decide (x < y))) :=
  y_u82 hx hy fun m β γ => ⟨.bool (decide (x < y)), vbool m _, fun w' => by simp only [eqGuard_lss, binOp_lss, ← u8_lt_iff]; simp⟩
theorem y8_gtr {x y : UInt8} (hx : Ev K s o (.d x)) (hy : Ev K s o' (.d y)) : Y K s ⟨dst, .binOp .gtr t o o' t', ty, pos, aft, g⟩ (.d (P := P) (decide (y < x))) :=
  y_u82 hx hy fun m β γ => ⟨.bool (decide (y < x)), vbool m _, fun w' => by simp only [eqGuard_gtr, binOp_gtr, ← u8_lt_iff]; simp⟩
theorem u8_beq (x y : UInt8) : ((x.toNat : Int) == (y.toNat : Int)) = decide (x = y) := by
  rw [Bool.eq_iff_iff, beq_iff_eq, decide_eq_true_eq, ← UInt8.toNat_inj]; omega
theorem y8_neq {x y : UInt8} (hx : Ev K s o (.d x)) (hy : Ev K s o' (.d y)) : Y K s ⟨dst, .binOp .neq t o o' t', ty, pos, aft, g⟩ (.d (P := P) (!decide (x = y))) :=
  y_u82 hx hy fun m β γ => ⟨.bool (!decide (x = y)), vbool m _, fun w' => by simp only [eqGuard_at_int, binOp_neq, bne, u8_beq]; simp⟩
theorem wrapu8 (n : Int) : IntKind.u8.wrap n = n % 256 := by simp [IntKind.wrap, IntKind.bits, IntKind.signed]
theorem y8_sub {x y : UInt8} (hx : Ev K s o (.d x)) (hy : Ev K s o' (.d y)) : Y K s ⟨dst, .binOp .sub t o o' t', ty, pos, aft, g⟩ (.d (P := P) (x - y)) :=
  y_u82 hx hy fun m β γ => ⟨.int .u8 (x - y).toNat, vu8 m _, fun w' => by
    have e : IntKind.u8.wrap ((x.toNat : Int) - y.toNat) = ((x - y).toNat : Int) := by
      rw [wrapu8, UInt8.toNat_sub]; have := x.toNat_lt; have := y.toNat_lt; omega
    simp [eqGuard_sub, binOp_sub, Op.intArith, e]⟩
theorem y8_mul {x y : UInt8} (hx : Ev K s o (.d x)) (hy : Ev K s o' (.d y)) : Y K s ⟨dst, .binOp .mul t o o' t', ty, pos, aft, g⟩ (.d (P := P) (x * y)) :=
  y_u82 hx hy fun m β γ => ⟨.int .u8 (x * y).toNat, vu8 m _, fun w' => by
    have e : IntKind.u8.wrap ((x.toNat : Int) * y.toNat) = ((x * y).toNat : Int) := by
      rw [wrapu8, UInt8.toNat_mul]; have : ((x.toNat : Int) * y.toNat) = ((x.toNat * y.toNat : Nat) : Int) := by simp
      rw [this]; omega
    simp [eqGuard_mul, binOp_mul, Op.intArith, e]⟩
end ops
end Go.Ph
