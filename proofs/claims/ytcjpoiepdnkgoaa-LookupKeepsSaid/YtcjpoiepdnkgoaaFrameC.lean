/- WHAT IS PROVED: part of the proof that posthouselaw11.LookupKeeps returns true at every input and leaves its arguments alone. CONDITIONS: none beyond the row. -/
import Derived.Test.YtcjpoiepdnkgoaaFrameB
import Derived.Lib.AppendZeros
import Derived.ProofKit
import Derived.OpenShut
import Derived.Deep.Slices
import Derived.ChangeOld
/-! Whole numbers of 64 bits without a sign; pointers that are looked at; constant strings. -/
namespace Go.Ph
universe u
variable {P : Program}
instance rpU64 : Rp P UInt64 where
  sz := 1
  agg := false
  rel := fun _ cs x => cs = [.int .u64 x.toNat]
  len := by rintro m cs x rfl; rfl
  ok := by rintro m cs x rfl c hc; simp only [List.mem_singleton] at hc; subst hc; rfl
  one := fun _ => rfl
  mono := by rintro m m' cs x _ h; exact h
instance : Enc P UInt64 := ⟨fun x => [.int .u64 x.toNat], fun h => h, fun h => h⟩
def toU64 (n : Int) : UInt64 := UInt64.ofNat (n % 18446744073709551616).toNat
def ushl (x : UInt64) (n : Nat) : UInt64 := UInt64.ofNat (x.toNat * 2 ^ (min n 64))
def ushr (x : UInt64) (n : Nat) : UInt64 := UInt64.ofNat (x.toNat / 2 ^ (min n 64))
section ops
variable {K : Cx} {s : St P} {ops : Array Oper} {Q : Exit → Act → World → Prop} {rest : List Oper} {d nm : Nat} {t t' t'' ty : TypeId} {pos : String} {aft : Array Edge} {g : Option (Nat × Bool)} {dst : Option Tmp} {o o' o'' : Operand}
theorem u64_of {m : Snap} {v : Value} {x : UInt64} (h : vrel (P := P) m v x) : v = .int .u64 x.toNat := by
  have := vrel.eq_mkV h
  obtain ⟨h1, _⟩ := h
  rw [h1] at this; exact this
theorem vu64 (m : Snap) (x : UInt64) : vrel (P := P) m (.int .u64 x.toNat) x := ⟨rfl, rfl⟩
theorem e_u64 (n : Nat) (h : n < 18446744073709551616 := by decide) : Ev K s (.const (.int .u64 n)) (.d (P := P) (UInt64.ofNat n)) := by
  intro _ _ _ _ _
  refine ⟨?_, rfl⟩
  show [Value.int .u64 n] = [Value.int .u64 ((UInt64.ofNat n).toNat : Nat)]
  have : (UInt64.ofNat n).toNat = n := by simp; omega
  rw [this]
theorem y_nilCheck {bx off : Nat} (hp : Ev K s o (.p bx off)) : Y K s ⟨dst, .nilCheck o, ty, pos, aft, g⟩ (.p (P := P) bx off) := by
  refine Y.of_run fun m β γ κ a ha _ => ?_
  have e : a.eval o = .pointer (some ⟨β bx, off, none⟩) := hp m β γ a ha
  exact ⟨_, rfl, fun w _ => by simp [execOp, e]⟩
theorem wrapu64 (n : Int) : IntKind.u64.wrap n = n % 18446744073709551616 := by simp [IntKind.wrap, IntKind.bits, IntKind.signed]
theorem toU64_nat (n : Int) : ((toU64 n).toNat : Int) = n % 18446744073709551616 := by
  unfold toU64
  have h1 : 0 ≤ n % 18446744073709551616 := Int.emod_nonneg _ (by decide)
  have h2 : n % 18446744073709551616 < 18446744073709551616 := Int.emod_lt_of_pos _ (by decide)
  rw [UInt64.toNat_ofNat']
  omega
theorem y_conv_to_u64 {x : Int} (hx : Ev K s o (.d x)) (hs : (P.underlying t).isSome = true) (hd : P.underlying t' = some (.int .u64)) : Y K s ⟨dst, .convert t t' o, ty, pos, aft, g⟩ (.d (P := P) (toU64 x)) := by
  refine Y.of_run fun m β γ κ a ha _ => ⟨.int .u64 (toU64 x).toNat, vu64 m _, fun w _ => ?_⟩
  have e := (int_of (P := P) (hx m β γ a ha)).1
  have hk : P.intKind t' = .u64 := by simp [Program.intKind, hd]
  have := run_convert_int (P := P) w t t' .i64 x hs (by rw [hk]; exact hd)
  rw [hk, wrapu64, ← toU64_nat] at this
  simp [execOp, e, this]
theorem y_conv_u64_int {x : UInt64} (hx : Ev K s o (.d x)) (hs : (P.underlying t).isSome = true) (hd : P.underlying t' = some (.int .i64)) : Y K s ⟨dst, .convert t t' o, ty, pos, aft, g⟩ (.d (P := P) (w64 (x.toNat : Int))) := by
  refine Y.of_run fun m β γ κ a ha _ => ⟨.int .i64 (w64 (x.toNat : Int)), vint m (w64_range _), fun w _ => ?_⟩
  have e := u64_of (P := P) (hx m β γ a ha)
  have hk : P.intKind t' = .i64 := by simp [Program.intKind, hd]
  have := run_convert_int (P := P) w t t' .u64 x.toNat hs (by rw [hk]; exact hd)
  rw [hk] at this
  simp [execOp, e, this, w64]
theorem y_u642 {op : BinOp} {x y : UInt64} {z : AV P} (hx : Ev K s o (.d x)) (hy : Ev K s o' (.d y))
    (h : ∀ m β γ, ∃ v, z.holds β γ m v ∧ ∀ w', (do eqGuard op t o o' (.int .u64 x.toNat) (.int .u64 y.toNat); binOp op t (.int .u64 x.toNat) (.int .u64 y.toNat) : Sem Value).run P w' = .ok v w') :
    Y K s ⟨dst, .binOp op t o o' t', ty, pos, aft, g⟩ z := by
  refine Y.of_run fun m β γ κ a ha _ => ?_
  obtain ⟨v, hv, hr⟩ := h m β γ
  refine ⟨v, hv, fun w _ => ?_⟩
  have e1 := u64_of (P := P) (hx m β γ a ha)
  have e2 := u64_of (P := P) (hy m β γ a ha)
  simp only [execOp, e1, e2]
  have := hr w
  simp only [Sem.run_bind] at this ⊢
  rw [this]
  rfl
theorem y64_sub {x y : UInt64} (hx : Ev K s o (.d x)) (hy : Ev K s o' (.d y)) : Y K s ⟨dst, .binOp .sub t o o' t', ty, pos, aft, g⟩ (.d (P := P) (x - y)) :=
  y_u642 hx hy fun m β γ => ⟨.int .u64 (x - y).toNat, vu64 m _, fun w' => by
    have e : IntKind.u64.wrap ((x.toNat : Int) - y.toNat) = ((x - y).toNat : Int) := by
      rw [wrapu64, UInt64.toNat_sub]; have := x.toNat_lt; have := y.toNat_lt; omega
    simp [eqGuard_sub, binOp_sub, Op.intArith, e]⟩
theorem bits64 (x : UInt64) : BitVec.ofInt 64 (x.toNat : Int) = x.toBitVec := by
  apply BitVec.eq_of_toNat_eq
  rw [BitVec.toNat_ofInt]
  have := x.toNat_lt
  have e : x.toBitVec.toNat = x.toNat := rfl
  rw [e]
  omega
theorem y64_and {x y : UInt64} (hx : Ev K s o (.d x)) (hy : Ev K s o' (.d y)) : Y K s ⟨dst, .binOp .and t o o' t', ty, pos, aft, g⟩ (.d (P := P) (x &&& y)) :=
  y_u642 hx hy fun m β γ => ⟨.int .u64 (x &&& y).toNat, vu64 m _, fun w' => by
    have e : IntKind.u64.wrap (((BitVec.ofInt 64 (x.toNat : Int)) &&& (BitVec.ofInt 64 (y.toNat : Int))).toNat : Int) = ((x &&& y).toNat : Int) := by
      rw [bits64, bits64, wrapu64, show (x.toBitVec &&& y.toBitVec).toNat = (x &&& y).toNat from rfl]
      have := (x &&& y).toNat_lt; omega
    have e2 : Op.intBits .and .u64 (x.toNat : Int) (y.toNat : Int) = pure (.int .u64 (IntKind.u64.wrap (((BitVec.ofInt 64 (x.toNat : Int)) &&& (BitVec.ofInt 64 (y.toNat : Int))).toNat : Int))) := rfl
    rw [e] at e2
    simp only [eqGuard_and, binOp_and, e2, Sem.run_bind, Sem.run_pure, Result.andThen_ok]⟩
theorem y64_xor {x y : UInt64} (hx : Ev K s o (.d x)) (hy : Ev K s o' (.d y)) : Y K s ⟨dst, .binOp .xor t o o' t', ty, pos, aft, g⟩ (.d (P := P) (x ^^^ y)) :=
  y_u642 hx hy fun m β γ => ⟨.int .u64 (x ^^^ y).toNat, vu64 m _, fun w' => by
    have e : IntKind.u64.wrap (((BitVec.ofInt 64 (x.toNat : Int)) ^^^ (BitVec.ofInt 64 (y.toNat : Int))).toNat : Int) = ((x ^^^ y).toNat : Int) := by
      rw [bits64, bits64, wrapu64, show (x.toBitVec ^^^ y.toBitVec).toNat = (x ^^^ y).toNat from rfl]
      have := (x ^^^ y).toNat_lt; omega
    have e2 : Op.intBits .xor .u64 (x.toNat : Int) (y.toNat : Int) = pure (.int .u64 (IntKind.u64.wrap (((BitVec.ofInt 64 (x.toNat : Int)) ^^^ (BitVec.ofInt 64 (y.toNat : Int))).toNat : Int))) := rfl
    rw [e] at e2
    simp only [eqGuard_xor, binOp_xor, e2, Sem.run_bind, Sem.run_pure, Result.andThen_ok]⟩
theorem ushl_nat (x : UInt64) (n : Nat) : ((ushl x n).toNat : Int) = IntKind.u64.wrap ((x.toNat : Int) * 2 ^ (min n 64)) := by
  unfold ushl
  rw [wrapu64, UInt64.toNat_ofNat']
  generalize min n 64 = k
  rw [Int.natCast_emod, Int.natCast_mul, Int.natCast_pow]
  rfl
theorem ushr_nat (x : UInt64) (n : Nat) : ((ushr x n).toNat : Int) = (x.toNat : Int).fdiv (2 ^ (min n 64)) := by
  unfold ushr
  have h1 : x.toNat / 2 ^ (min n 64) ≤ x.toNat := Nat.div_le_self _ _
  have := x.toNat_lt
  rw [UInt64.toNat_ofNat', Nat.mod_eq_of_lt (by omega)]
  have hp : (0 : Int) ≤ 2 ^ (min n 64) := Int.le_of_lt (Int.pow_pos (by decide))
  rw [Int.fdiv_eq_ediv_of_nonneg _ hp]
  generalize min n 64 = k
  rw [Int.natCast_ediv, Int.natCast_pow]
  rfl
theorem y64_shl {x y : UInt64} (hx : Ev K s o (.d x)) (hy : Ev K s o' (.d y)) : Y K s ⟨dst, .binOp .shl t o o' t', ty, pos, aft, g⟩ (.d (P := P) (ushl x y.toNat)) :=
  y_u642 hx hy fun m β γ => ⟨.int .u64 (ushl x y.toNat).toNat, vu64 m _, fun w' => by
    have e2 : Op.shift .shl .u64 (x.toNat : Int) .u64 (y.toNat : Int) = pure (.int .u64 (IntKind.u64.wrap ((x.toNat : Int) * 2 ^ (min y.toNat 64)))) := by
      unfold Op.shift; rw [if_neg (by omega)]; rfl
    rw [← ushl_nat] at e2
    simp only [eqGuard_shl, binOp_shl, e2, Sem.run_bind, Sem.run_pure, Result.andThen_ok]⟩
theorem y64_shr {x y : UInt64} (hx : Ev K s o (.d x)) (hy : Ev K s o' (.d y)) : Y K s ⟨dst, .binOp .shr t o o' t', ty, pos, aft, g⟩ (.d (P := P) (ushr x y.toNat)) :=
  y_u642 hx hy fun m β γ => ⟨.int .u64 (ushr x y.toNat).toNat, vu64 m _, fun w' => by
    have e2 : Op.shift .shr .u64 (x.toNat : Int) .u64 (y.toNat : Int) = pure (.int .u64 ((x.toNat : Int).fdiv (2 ^ (min y.toNat 64)))) := by
      unfold Op.shift; rw [if_neg (by omega)]; rfl
    rw [← ushr_nat] at e2
    simp only [eqGuard_shr, binOp_shr, e2, Sem.run_bind, Sem.run_pure, Result.andThen_ok]⟩
/-- by a signed number -/
def ushlI (x : UInt64) (n : Int) : Option UInt64 := if n < 0 then none else some (ushl x n.toNat)
theorem y64_shlI {x r : UInt64} {n : Int} (hx : Ev K s o (.d x)) (hy : Ev K s o' (.d n)) (h : ushlI x n = some r) : Y K s ⟨dst, .binOp .shl t o o' t', ty, pos, aft, g⟩ (.d (P := P) r) := by
  unfold ushlI at h
  split at h
  · cases h
  rename_i hn
  cases h
  refine Y.of_run fun m β γ κ a ha _ => ⟨.int .u64 (ushl x n.toNat).toNat, vu64 m _, fun w _ => ?_⟩
  have e1 := u64_of (P := P) (hx m β γ a ha)
  have e2 := (int_of (P := P) (hy m β γ a ha)).1
  have e3 : Op.shift .shl .u64 (x.toNat : Int) .i64 n = pure (.int .u64 (IntKind.u64.wrap ((x.toNat : Int) * 2 ^ (min n.toNat 64)))) := by
    unfold Op.shift; rw [if_neg hn]; rfl
  rw [← ushl_nat] at e3
  simp only [execOp, e1, e2, eqGuard_shl, binOp_shl, e3, Sem.run_bind, Sem.run_pure, Result.andThen_ok]
end ops
end Go.Ph
/-! Functions that hand back a row of their own; rows cut short, cleared. -/
namespace Go.Ph
open Go.RowKit (Below)
universe u
variable {P : Program}
theorem Enc.flat_ind {α : Type} [Rp P α] [Enc P α] {m m' : Snap} {cs : List Value} {xs : List α} (h : flatRel (P := P) m cs xs) : flatRel (P := P) m' cs xs := h.ind
/-- It hands back a row that nobody else knows. -/
def PostO {α : Type} [Rp P α] (m : Snap) (w : World) (e : TypeId) (xs : List α) : Ending → World → Prop :=
  fun en w' => ∃ v cs, en = .returned v ∧ w'.ownsRow w.heap.size e (Rp.sz P α) v xs.length cs ∧ flatRel (P := P) m cs xs ∧ xs.length ≤ 1048576 ∧ Below w.heap.size w w'
theorem FnL.ofO {α : Type} [Rp P α] {f : FuncId} {fn : Func} {c : Code} {args : List (AV P)} {e : TypeId} {xs : List α} (hf : P.funcs[f]? = some fn) (hb : fn.body = some c)
    (h : ∀ w m (V : Lv), V.ok P (ordJ w) → T (Cx.lv fn.ntmps w m (fun _ => none) (fun _ => none) V) ⟨argSlots 0 args, ⟨[], [], []⟩⟩ c (bodyPostM Fence.wide 0 P fn (PostO (P := P) m w e xs)))
    (hn : Nat.ble args.length fn.ntmps = true := by rfl) : FnL P f args ⟨[], [], []⟩ (.g 5000) ⟨[], [(5000, ⟨e, xs⟩)], []⟩ [] [] := by
  intro m β γ κ w vs hw hv
  have hw' : WH (Cx.lv fn.ntmps w m (fun _ => none) (fun _ => none) (Lv.base (ordJ w) (ordJ_law w))) m β γ κ (⟨[], [], []⟩ : Bs P) w := by
    refine ⟨hw.sees, Snap.le_refl _, fun _ _ _ h => .inl h, ?_, ?_, ?_, ?_, ?_, ?_, ⟨⟨Below.refl _ _, fun b hb => by rcases hb with ⟨_, _, h, _⟩ | ⟨_, _, h, _⟩ <;> simp [lk] at h⟩, Nat.le_refl _, (fun _ _ h => by cases h), (fun _ _ h => by cases h)⟩⟩
    all_goals (intros; simp_all [lk])
  have hc : Calls P f vs.toArray w (PostO (P := P) m w e xs) := by
    refine callsIn_wide.1 (callsIn_of_wp_marks (F := Fence.wide) (n := 0) hf hb trivial (h w m (Lv.base (ordJ w) (ordJ_law w)) ok_base m β γ κ _ w ⟨rfl, ?_, fun t y hy => ?_⟩ hw'))
    · have := Nat.le_of_ble_eq_true hn
      have hl := hv.length
      simp only [Array.size_append, List.size_toArray, Array.size_replicate]; omega
    · obtain ⟨v, hv', _, hx⟩ := argSlots_slotL hv t y hy
      refine ⟨v, ?_, hx⟩
      rw [Nat.sub_zero] at hv'
      have hlt : t < vs.length := by
        rcases Nat.lt_or_ge t vs.length with h | h
        · exact h
        · rw [List.getElem?_eq_none h] at hv'; cases hv'
      rw [Array.getElem?_append_left (by simpa using hlt)]
      simpa using hv'
  refine hc.mono ?_
  rintro en w' ⟨v, cs, rfl, hown, hf', hbig, hbel⟩
  have hmlt : ∀ b i u, m b i = some u → b < w.heap.size := fun b i u hu => cell_lt (hw.sees b i u hu)
  have hnone : ∀ b, v.ownBlock = some b → ∀ i, m b i = none := fun b hb i => by
    cases hq : m b i with
    | none => rfl
    | some u => have := hmlt b i u hq; have := (hown.lt b hb).1; omega
  refine ⟨v, m, β, upd γ 5000 v, κ, rfl, by show v = _; rw [upd_eq], fun b i u hu => ?_, Snap.le_refl _, fun _ _ _ h => .inl h, ?_, ?_, ?_, ?_, ?_, ?_, ⟨⟨hbel.os, hbel.tape, hbel.output, hbel.size, fun k hk _ => hbel.block k hk, ?_, fun _ _ _ h => .inl h⟩, Nat.zero_le _, (fun _ _ h => by cases h), (fun _ _ h => by cases h)⟩⟩
  · rw [World.cell?_of_block (w := w) (hbel.block b (hmlt b i u hu))]; exact hw.sees b i u hu
  · intro x bv h; simp [lk] at h
  · intro x y bx bY h; simp [lk] at h
  · intro x gv hx
    by_cases e' : x = 5000
    · subst e'
      rw [lk_cons_eq rfl] at hx; cases hx
      rw [upd_eq]
      refine ⟨⟨cs, ⟨hown.1, hown.2.imp id ?_⟩, hf', fun b hb => ⟨(fun h => by cases h), fun _ => hnone b hb⟩⟩, hbig⟩
      rintro ⟨g, cap, cur, h1, _, h3⟩
      exact ⟨g, cap, cur, h1, Nat.zero_le _, h3⟩
    · rw [lk_cons_ne (Ne.symm e')] at hx; simp [lk] at hx
  · intro x y gv bv _ h; simp [lk] at h
  · intro x y gx gy b hx hy hne
    have h1 : x = 5000 := by
      by_cases e' : x = 5000
      · exact e'
      · rw [lk_cons_ne (Ne.symm e')] at hx; simp [lk] at hx
    have h2 : y = 5000 := by
      by_cases e' : y = 5000
      · exact e'
      · rw [lk_cons_ne (Ne.symm e')] at hy; simp [lk] at hy
    exact absurd (h1.trans h2.symm) hne
  · intro e' h; cases h
  · rintro b (⟨x, bv, h, _⟩ | ⟨x, gv, h1, h2⟩)
    · simp [lk] at h
    · by_cases e' : x = 5000
      · subst e'
        rw [upd_eq] at h2
        exact .inr (hown.lt b h2).1
      · rw [lk_cons_ne (Ne.symm e')] at h1; simp [lk] at h1
theorem zo_ret1 {α : Type} [Rp P α] [Enc P α] {n : Nat} {w : World} {m : Snap} {pb : Nat → Option Nat} {pg : Nat → Option Value} {V : Lv} {s : St P} {ex : Exit} {fn : Func} {t : Tmp} {nm : Nat} {e : TypeId} {xs : List α} (hl : V.ok P (ordJ w)) (hr : fn.results = #[.tmp t]) (ht : lk s.sl t = some (.g nm)) (hg : lk s.B.gr nm = some ⟨e, xs⟩)
    (he : ex = .ret ∨ ex = .normal := by first | exact .inl rfl | exact .inr rfl) : Z (Cx.lv n w m pb pg V) s ex (bodyPostM Fence.wide 0 P fn (PostO (P := P) m w e xs)) :=
  end_lv (jl0 := ordJ_law w) hl he fun m' β γ κ a w' ha hw => by
    obtain ⟨⟨cs, hown, hf, _⟩, hbig⟩ := hw.grow nm _ hg
    have e1 : a.tmps.getD t undef = γ nm := e_t ht m' β γ a ha
    exact ⟨γ nm, results1 hr (by rw [← e1]; rfl), γ nm, cs, rfl, hown, Enc.flat_ind hf, hbig, hw.jj.1.1⟩
section ops
variable {K : Cx} {s : St P} {ops : Array Oper} {Q : Exit → Act → World → Prop} {rest : List Oper} {d nm : Nat} {t t' t'' ty : TypeId} {pos : String} {aft : Array Edge} {g : Option (Nat × Bool)} {dst : Option Tmp} {o o' o'' : Operand}
  {m : Snap} {β : Nat → Nat} {γ : Nat → Value} {κ : Nat → List Value} {B : Bs P} {w : World} {a : Act}
/-- A box for a slice that is nil, and may grow. -/
theorem TL_box_nilg {δ : Type} [Rp P δ] (nm : Nat) (e : TypeId) (h : Ev K s o (.x (.slice none 0 0)))
    (k : TL K ⟨(d, .p d 0) :: s.sl, ⟨(d, ⟨([] : List δ)⟩) :: s.B.bx, (nm, (⟨e, ([] : List δ)⟩ : GV P)) :: s.B.gr, ((d, 0), nm) :: tiN nm (tiB d s.B.ti)⟩⟩ ops Q rest)
    (ho : offAll d s.sl = true := by rfl) (hgo : goffAll nm s.sl = true := by rfl) (hgr : offGr nm s.B.gr = true := by rfl) (hd : Nat.ble (d + 1) K.n = true := by rfl) (hpin : K.pin d = none := by rfl) (hpg : K.ping nm = none := by rfl) :
    TL K s ops Q (⟨some d, .box t o, ty, pos, aft, none⟩ :: rest) := by
  intro m β γ κ a w ha hw
  have hd' : d < K.n := Nat.le_of_ble_eq_true hd
  have e1 : a.eval o = .slice none 0 0 := h m β γ a ha
  refine wpL_of (show Region.wanted _ _ = true from rfl) (by intro _ e; cases e) ?_
  have hrun : (execOp a.eval ⟨some d, .box t o, ty, pos, aft, none⟩).run P w = .ok (.value (.pointer (some ⟨w.heap.size, 0, none⟩))) { w with heap := w.heap.push (.cells (a.eval o).cells t) } := rfl
  unfold Oper.wp
  rw [hrun, e1]
  have hw' := hw.alloc (d := d) (T := t) (cs := [.slice none 0 0]) (x := ([] : List δ)) zslice hpin
  have hw2 := (WH.tiN (d := nm) hw').nilOwn (α := δ) e (fun q gv hq => gr_off hgr hq) (tiN_ne _) hpg
  have ha' := ((ha.goff (d := nm) (v0 := .slice none 0 0) hgo).alloc (b := w.heap.size) ho hd')
  refine k m _ _ _ _ _ ha' ⟨hw2.sees, hw2.le, hw2.new, hw2.box, hw2.inj, hw2.grow, hw2.gbox, hw2.ginj, fun q hq => ?_, hw2.jj⟩
  rcases List.mem_cons.1 hq with hq | hq
  · subst hq
    show (upd κ d _ d)[0]? = some (upd γ nm _ nm)
    rw [upd_eq, upd_eq]; rfl
  · exact hw2.tie q hq
/-- A private row under another header. -/
theorem WH.reheader {α : Type} [Rp P α] {e : TypeId} {xs ys : List α} {v' : Value} {w' : World} {cs : List Value} (h : WH K m β γ κ B w) (hg : lk B.gr nm = some ⟨e, xs⟩) (hpr : priv nm = true) (hpg : K.ping nm = none)
    (hob : ∀ b, v'.ownBlock = some b → (γ nm).ownBlock = some b) (hown : w'.ownsRow K.B0 e (Rp.sz P α) v' ys.length cs) (hf : flatRel (P := P) m cs ys) (hbig : ys.length ≤ 1048576) (hgr : w.grownBy w' (γ nm).ownBlock) :
    WH K m β (upd γ nm v') κ ⟨B.bx, (nm, (⟨e, ys⟩ : GV P)) :: B.gr, Ph.tiN nm B.ti⟩ w' := by
  obtain ⟨⟨cs0, _, _, hno⟩, _⟩ := h.grow nm _ hg
  have hnone : ∀ b, (γ nm).ownBlock = some b → ∀ i, m b i = none := fun b hb => (hno b hb).2 hpr
  have hlt : ∀ b i v, m b i = some v → b < w.heap.size := fun b i v hv => cell_lt (h.sees b i v hv)
  have hs' : ∀ c i v, m c i = some v → w'.cell? ⟨c, i, none⟩ = some v := fun c i v hv => by
    rw [World.cell?_of_block (w := w) (hgr.block c (hlt c i v hv) (fun e => by rw [hnone c e.symm i] at hv; cases hv))]; exact h.sees c i v hv
  refine ⟨hs', h.le, h.new, fun y bv hy => ?_, h.inj, fun y gv hy => ?_, fun y z gv bv hy hz => ?_, fun y z gy gz b hy hz hne hb => ?_, fun q hq => ?_, ?_⟩
  · obtain ⟨⟨T, hT⟩, hr, hB', hn'⟩ := h.box y bv hy
    have hlty : β y < w.heap.size := by
      rcases Nat.lt_or_ge (β y) w.heap.size with hl | hl
      · exact hl
      · rw [Array.getElem?_eq_none hl] at hT; cases hT
    exact ⟨⟨T, by rw [hgr.block _ hlty (fun e => h.gbox nm y _ bv hg hy e.symm)]; exact hT⟩, hr, hB', hn'⟩
  · by_cases e' : y = nm
    · subst e'
      rw [lk_cons_eq rfl] at hy; cases hy
      rw [upd_eq]
      exact ⟨⟨cs, hown, hf, fun b hb => ⟨(fun e => by rw [hpr] at e; cases e), fun _ => hnone b (hob b hb)⟩⟩, hbig⟩
    · rw [lk_cons_ne (Ne.symm e')] at hy
      rw [upd_ne e']
      have hgy := h.grow y gv hy
      exact hgy.keep (fun b hb => hgr.block b (hgy.lt hb) (fun e => h.ginj y nm gv _ b hy hg e' hb e.symm)) (Snap.le_refl _) fun _ _ _ h => h
  · by_cases e' : y = nm
    · subst e'; rw [upd_eq]; intro hb; exact h.gbox y z _ bv hg hz (hob _ hb)
    · rw [lk_cons_ne (Ne.symm e')] at hy
      rw [upd_ne e']; exact h.gbox y z gv bv hy hz
  · by_cases e1 : y = nm
    · subst e1
      rw [upd_eq] at hb
      have e2 : z ≠ y := Ne.symm hne
      rw [lk_cons_ne (Ne.symm e2)] at hz
      rw [upd_ne e2]
      exact h.ginj y z _ gz b hg hz hne (hob b hb)
    · rw [lk_cons_ne (Ne.symm e1)] at hy
      rw [upd_ne e1] at hb
      by_cases e2 : z = nm
      · subst e2
        rw [upd_eq]
        intro hz'
        exact h.ginj y z gy _ b hy hg e1 hb (hob b hz')
      · rw [lk_cons_ne (Ne.symm e2)] at hz
        rw [upd_ne e2]; exact h.ginj y z gy gz b hy hz hne hb
  · obtain ⟨h1, h2⟩ := tiN_mem q hq; rw [upd_ne h2]; exact h.tie q h1
  · refine h.go hgr.os hgr.tape hgr.output hgr.size (fun k hk hne => hgr.block k hk (fun e => hne (.inr ⟨nm, _, hg, e.symm⟩))) (Snap.le_refl _) (fun _ _ _ h => .inl h) hs' ?_ (hp := fun _ _ _ h => h) (hg := fun n v hn e => by rw [upd_ne (fun e2 => by subst e2; rw [hpg] at hn; cases hn)]; exact e)
    rintro b (hb | ⟨x, gv, h1, h2⟩)
    · exact .inl (.inl hb)
    · by_cases e : x = nm
      · subst e; rw [upd_eq] at h2; exact .inl (.inr ⟨x, _, hg, hob b h2⟩)
      · rw [lk_cons_ne (Ne.symm e)] at h1; rw [upd_ne e] at h2; exact .inl (.inr ⟨x, gv, h1, h2⟩)
theorem flat_take {α : Type} [Rp P α] {m : Snap} : ∀ {xs : List α} {cs : List Value} (k : Nat), flatRel (P := P) m cs xs → flatRel (P := P) m (cs.take (k * Rp.sz P α)) (xs.take k)
  | xs, cs, 0, _ => by simp [flatRel]
  | [], cs, k + 1, h => by simp only [flatRel] at h; subst h; simp [flatRel]
  | x :: xs, cs, k + 1, ⟨a, b, e, h, r⟩ => by
    refine ⟨a, b.take (k * Rp.sz P α), ?_, h, flat_take k r⟩
    have h1 := Rp.len h
    rw [e, Nat.add_mul, Nat.one_mul, Nat.add_comm, ← h1, List.take_append, List.take_of_length_le (by omega), Nat.add_sub_cancel_left]
theorem grownBy_refl (w : World) (r : Option Nat) : w.grownBy w r := ⟨rfl, rfl, rfl, Nat.le_refl _, fun _ _ _ => rfl⟩
/-- A private row is cut short: 'x[:h]'. -/
theorem TL_rcut {α : Type} [Rp P α] {e : TypeId} {xs ys : List α} {h : Int} (hx : Ev K s o (.g nm)) (hh : Ev K s o' (.d h)) (hg : lk s.B.gr nm = some ⟨e, xs⟩) (hs : slh xs h = some ys) (ht : TySl P t α)
    (k : TL K ⟨(d, .g nm) :: dropAll nm s.sl, ⟨s.B.bx, (nm, ⟨e, ys⟩) :: s.B.gr, tiN nm s.B.ti⟩⟩ ops Q rest) (hd : Nat.ble (d + 1) K.n = true := by rfl) (hpr : priv nm = true := by rfl) (hpg : K.ping nm = none := by rfl) :
    TL K s ops Q (⟨some d, .slice t o none (some o') none, ty, pos, aft, none⟩ :: rest) := by
  obtain ⟨rfl, h0, hl⟩ := slh_some hs
  intro m β γ κ a w ha hw
  have hd' : d < K.n := Nat.le_of_ble_eq_true hd
  have e1 : a.eval o = γ nm := hx m β γ a ha
  have e2 := (int_of (P := P) (hh m β γ a ha)).1
  obtain ⟨⟨cs, hown, hf, hno⟩, hbig⟩ := hw.grow nm _ hg
  have hbig' : xs.length ≤ 1048576 := hbig
  have hlen : (xs.take h.toNat).length = h.toNat := by rw [List.length_take]; omega
  have hrun : ∀ ad cap, a.eval o = .slice ad xs.length cap → xs.length ≤ cap → (execOp a.eval ⟨some d, .slice t o none (some o') none, ty, pos, aft, none⟩).run P w = .ok (.value (.slice ad h.toNat cap)) w := fun ad cap he hc => by
    have : ∀ w : World, (Instr.sliceAt t (.slice ad xs.length cap) none (some (.int .i64 h)) none).run P w = .ok (.slice ad h.toNat cap) w := fun w => by
      simp only [Instr.sliceAt, Sem.run_bind, run_underlying ht.un, Result.andThen_ok, Instr.slice, Instr.sliceBounds, Instr.sliceBound, asIntOf, ht.size]
      have h1 : (0 ≤ h ∧ h ≤ (cap : Int)) := ⟨h0, by omega⟩
      simp [h1]
      intro hc0
      cases ad <;> simp [Addr.add]
    simp [execOp, he, e2, this]
  refine wpL_of (show Region.wanted _ _ = true from rfl) (by intro _ e; cases e) ?_
  unfold Oper.wp
  rcases hown.2 with ⟨h1, h2⟩ | ⟨b, cap, cur, h1, h2, h3, h4, h5, h6, h7⟩
  · have hxl : xs.length = 0 := h2
    have hx0 : xs = [] := List.eq_nil_of_length_eq_zero hxl
    subst hx0
    have hh0 : h.toNat = 0 := by simp at hl; omega
    rw [hrun none 0 (by rw [e1, h1]; rfl) (Nat.le_refl _), hh0]
    have hw' := hw.reheader (ys := ([] : List α)) (v' := .slice none 0 0) (w' := w) (cs := []) hg hpr hpg (fun b hb => by cases hb) (World.ownsRow_nil w _ _ _) rfl (by simp) (grownBy_refl _ _)
    refine k m β _ κ _ w ((ha.dropg).put hd' (by show _ = _; rw [upd_eq])) (by simpa using hw')
  · have hcap : xs.length ≤ cap := h4
    rw [hrun (some ⟨b, 0, none⟩) cap (by rw [e1, h1]) hcap]
    have hle : h.toNat * Rp.sz P α ≤ xs.length * Rp.sz P α := Nat.mul_le_mul_right _ (by omega)
    have hcs : cs = cur.toList.take (xs.length * Rp.sz P α) := h7.symm
    have hw' := hw.reheader (ys := xs.take h.toNat) (v' := .slice (some ⟨b, 0, none⟩) h.toNat cap) (w' := w) (cs := cs.take (h.toNat * Rp.sz P α)) hg hpr hpg (fun b' hb => by rw [h1]; exact hb)
      ⟨by rw [hlen, List.length_take, hf.length]; exact Nat.min_eq_left hle, .inr ⟨b, cap, cur, by rw [hlen], h2, h3, by rw [hlen]; omega, h5, h6, by rw [hlen, hcs, List.take_take, Nat.min_eq_left hle]⟩⟩ (flat_take _ hf) (by rw [hlen]; omega) (grownBy_refl _ _)
    exact k m β _ κ _ w ((ha.dropg).put hd' (by show _ = _; rw [upd_eq])) hw'
end ops
end Go.Ph
/-! Rows: cleared behind a place; a row of capacity and no elements; copies. -/
namespace Go.Ph
open Go.RowKit (Below)
universe u
variable {P : Program}
theorem toList_zeroCells (z : Array Value) (n : Nat) : (Builtin.zeroCells z (n + 1)).toList = z.toList ++ (Builtin.zeroCells z n).toList := by
  unfold Builtin.zeroCells
  rw [Array.toList_map, Array.toList_map, Array.toList_range, Array.toList_range, Nat.add_mul, Nat.one_mul, Nat.add_comm, List.range_add, List.map_append, List.map_map]
  congr 1
  · apply List.ext_getElem?
    intro i
    rw [List.getElem?_map]
    by_cases h : i < z.size
    · rw [List.getElem?_range h, Array.getElem?_toList]
      simp [Nat.mod_eq_of_lt h, h]
    · rw [List.getElem?_eq_none (by rw [List.length_range]; omega), List.getElem?_eq_none (by rw [Array.length_toList]; omega)]; rfl
  · apply List.map_congr_left
    intro i _
    simp
theorem flat_zeros {α : Type} [Rp P α] {m : Snap} {v : Value} {z : α} (h : Rp.rel P m v.cells.toList z) : ∀ n, flatRel (P := P) m (Builtin.zeroCells v.cells n).toList (List.replicate n z)
  | 0 => by simp [flatRel, Builtin.zeroCells]
  | n + 1 => by rw [toList_zeroCells, List.replicate_succ]; exact ⟨_, _, rfl, h, flat_zeros h n⟩
/-- 'clear(x[i:])', and 'x' behind it. -/
def clr {α : Type} (xs : List α) (i : Int) (z : α) : Option (List α) := if 0 ≤ i ∧ i ≤ (xs.length : Int) then some (xs.take i.toNat ++ List.replicate (xs.length - i.toNat) z) else none
theorem clr_some {α : Type} {xs ys : List α} {i : Int} {z : α} (h : clr xs i z = some ys) : ys = xs.take i.toNat ++ List.replicate (xs.length - i.toNat) z ∧ 0 ≤ i ∧ i.toNat ≤ xs.length := by
  unfold clr at h
  split at h
  · rename_i hh; cases h; exact ⟨rfl, hh.1, by omega⟩
  · cases h
theorem tiN_idem {d : Nat} : ∀ (l : List ((Nat × Nat) × Nat)), tiN d (tiN d l) = tiN d l
  | [] => rfl
  | ((b, p), n) :: r => by
    show tiN d (bif Nat.beq n d then tiN d r else ((b, p), n) :: tiN d r) = bif Nat.beq n d then tiN d r else ((b, p), n) :: tiN d r
    cases h : Nat.beq n d with
    | true => rw [cond_true]; exact tiN_idem r
    | false => rw [cond_false]; show (bif Nat.beq n d then _ else _) = _; rw [h, cond_false, tiN_idem r]
theorem upd_same {α : Type} (f : Nat → α) (n : Nat) : upd f n (f n) = f := by
  funext q
  by_cases e : q = n
  · subst e; rw [upd_eq]
  · rw [upd_ne e]
section ops
variable {K : Cx} {s : St P} {ops : Array Oper} {Q : Exit → Act → World → Prop} {rest : List Oper} {d nm : Nat} {t t' t'' ty ty' : TypeId} {pos pos' : String} {aft aft' : Array Edge} {g : Option (Nat × Bool)} {dst : Option Tmp} {o o' o'' : Operand}
  {m : Snap} {β : Nat → Nat} {γ : Nat → Value} {κ : Nat → List Value} {B : Bs P} {w : World} {a : Act}
theorem TL_clear {α : Type} [Rp P α] {e : TypeId} {xs ys : List α} {i : Int} {z : α} (hx : Ev K s o (.g nm)) (hi : Ev K s o' (.d i)) (hg : lk s.B.gr nm = some ⟨e, xs⟩) (hs : clr xs i z = some ys) (ht : TySl P t α) (hz : Zero P (P.elem t) z)
    (k : TL K ⟨s.sl, ⟨s.B.bx, (nm, ⟨e, ys⟩) :: s.B.gr, tiN nm s.B.ti⟩⟩ ops Q rest) (hoff : lk s.sl d = none := by rfl) (hd : Nat.ble (d + 1) K.n = true := by rfl) (hpr : priv nm = true := by rfl) (hpg : K.ping nm = none := by rfl) :
    TL K s ops Q (⟨some d, .slice t o (some o') none none, ty, pos, aft, none⟩ :: ⟨none, .call ⟨.builtin .clear, #[.tmp d], #[t]⟩, ty', pos', aft', none⟩ :: rest) := by
  obtain ⟨rfl, h0, hl⟩ := clr_some hs
  intro m β γ κ a w ha hw
  have hd' : d < K.n := Nat.le_of_ble_eq_true hd
  have e1 : a.eval o = γ nm := hx m β γ a ha
  have e2 := (int_of (P := P) (hi m β γ a ha)).1
  obtain ⟨⟨cs, hown, hf, hno⟩, hbig⟩ := hw.grow nm _ hg
  have hbig' : xs.length ≤ 1048576 := hbig
  obtain ⟨zv, hzr, hzv⟩ := hz
  have hrun : ∀ ad cap, a.eval o = .slice ad xs.length cap → xs.length ≤ cap → (execOp a.eval ⟨some d, .slice t o (some o') none none, ty, pos, aft, none⟩).run P w = .ok (.value (.slice (if cap = i.toNat then ad else ad.map (·.add (i.toNat * Rp.sz P α))) (xs.length - i.toNat) (cap - i.toNat))) w := fun ad cap he hc => by
    have : ∀ w : World, (Instr.sliceAt t (.slice ad xs.length cap) (some (.int .i64 i)) none none).run P w = .ok (.slice (if cap = i.toNat then ad else ad.map (·.add (i.toNat * Rp.sz P α))) (xs.length - i.toNat) (cap - i.toNat)) w := fun w => by
      simp only [Instr.sliceAt, Sem.run_bind, run_underlying ht.un, Result.andThen_ok, Instr.slice, Instr.sliceBounds, Instr.sliceBound, asIntOf, ht.size]
      have h1 : (0 ≤ i ∧ i ≤ (xs.length : Int)) := ⟨h0, by omega⟩
      simp [h1]
    simp [execOp, he, e2, this]
  refine wpL_of (show Region.wanted _ _ = true from rfl) (by intro _ e; cases e) ?_
  unfold Oper.wp
  have hput : ∀ v : Value, (a.put (some d) v).eval (.tmp d) = v := fun v => by
    show (a.tmps.setIfInBounds d v).getD d undef = v
    have : d < a.tmps.size := by rw [ha.size]; exact hd'
    simp [Array.getD, this]
  have ha' : ∀ v : Value, AH K m β γ s.sl (a.put (some d) v) := fun v => by
    refine ⟨ha.defers, by rw [← ha.size]; simp [Act.put], fun q x hx => ?_⟩
    obtain ⟨u, hu, hh⟩ := ha.slot q x hx
    refine ⟨u, ?_, hh⟩
    have hne : d ≠ q := fun e => by subst e; rw [hoff] at hx; cases hx
    show (a.tmps.setIfInBounds d v)[q]? = some u
    rw [Array.getElem?_setIfInBounds_ne hne]; exact hu
  have hnop : ∀ (v : Value), (a.eval o = γ nm) → (∃ ad cap, v = .slice ad 0 cap) → xs.length - i.toNat = 0 → wpListIn (fc K.rd) 0 P ops Q (⟨none, .call ⟨.builtin .clear, #[.tmp d], #[t]⟩, ty', pos', aft', none⟩ :: rest) (a.put (some d) v) w := fun v _ ⟨ad, cap, hv⟩ h00 => by
    refine wpL_of (show Region.wanted _ _ = true from rfl) (by intro _ e; cases e) ?_
    unfold Oper.wp
    have hc : (execOp (a.put (some d) v).eval ⟨none, .call ⟨.builtin .clear, #[.tmp d], #[t]⟩, ty', pos', aft', none⟩).run P w = .ok (.value (.tuple #[])) w := by
      simp only [execOp, resolve, invoke, builtin, Sem.run_bind, Sem.run_pure, Result.andThen_ok, List.map_toArray, List.map_cons, List.map_nil]
      rw [hput, hv]
      cases ad <;> simp [Builtin.clear_, run_underlying ht.un]
    rw [hc]
    have hy : xs.take i.toNat ++ List.replicate (xs.length - i.toNat) z = xs := by
      rw [h00, List.replicate_zero, List.append_nil, List.take_of_length_le (by omega)]
    refine k m β γ κ _ w (ha' v) ?_
    rw [hy]
    have := hw.tiN (d := nm)
    refine this.le' (s := ⟨[], ⟨s.B.bx, s.B.gr, tiN nm s.B.ti⟩⟩) (s' := ⟨[], ⟨s.B.bx, (nm, ⟨e, xs⟩) :: s.B.gr, tiN nm s.B.ti⟩⟩) ⟨fun _ _ h => h, fun _ _ h => h, fun q gv h => ?_, fun _ h => h⟩
    by_cases e' : q = nm
    · subst e'; rw [lk_cons_eq rfl] at h; cases h; exact hg
    · rwa [lk_cons_ne (Ne.symm e')] at h
  rcases hown.2 with ⟨h1, h2⟩ | ⟨b, cap, cur, h1, h2, h3, h4, h5, h6, h7⟩
  · have hxl : xs.length = 0 := h2
    rw [hrun none 0 (by rw [e1, h1, hxl]) (by omega)]
    refine hnop _ e1 ?_ (by omega)
    exact ⟨_, _, by rw [hxl, Nat.zero_sub]⟩
  · have hcap : xs.length ≤ cap := h4
    have h1' : γ nm = .slice (some ⟨b, 0, none⟩) xs.length cap := h1
    rw [hrun _ cap (by rw [e1, h1']) hcap]
    by_cases h00 : xs.length - i.toNat = 0
    · (refine hnop _ e1 ?_ h00; exact ⟨_, _, by rw [h00]⟩)
    have hne : cap ≠ i.toNat := by omega
    rw [if_neg hne]
    have hadd : Option.map (·.add (i.toNat * Rp.sz P α)) (some (⟨b, 0, none⟩ : Addr)) = some ⟨b, i.toNat * Rp.sz P α, none⟩ := by simp [addr_add]
    rw [hadd]
    have hzs : zv.cells.size = Rp.sz P α := by have := Rp.len (hzv m).1; simpa using this
    have hzl : (Builtin.zeroCells zv.cells (xs.length - i.toNat)).toList.length = (xs.length - i.toNat) * Rp.sz P α := by rw [Array.length_toList, size_zeroCells, hzs]
    have hmi : i.toNat * Rp.sz P α ≤ xs.length * Rp.sz P α := Nat.mul_le_mul_right _ hl
    have hmul : i.toNat * Rp.sz P α + (xs.length - i.toNat) * Rp.sz P α = xs.length * Rp.sz P α := by rw [← Nat.add_mul]; congr 1; omega
    have h6' : cur.size = cap * Rp.sz P α := h6
    have hle : xs.length * Rp.sz P α ≤ cur.size := by rw [h6']; exact Nat.mul_le_mul_right _ hcap
    have hok : ∀ c ∈ (Builtin.zeroCells zv.cells (xs.length - i.toNat)).toList, c.oneCell' = true := by
      have : ∀ n, ∀ c ∈ (Builtin.zeroCells zv.cells n).toList, c.oneCell' = true := fun n => by
        induction n with
        | zero => simp [Builtin.zeroCells]
        | succ n ih =>
          intro c hc
          rw [toList_zeroCells] at hc
          rcases List.mem_append.1 hc with hc | hc
          · exact Rp.ok (hzv m).1 c hc
          · exact ih c hc
      exact this _
    have hst := run_storeCells_at (P := P) b (i.toNat * Rp.sz P α) e _ 0 cur w h3 (by rw [hzl]; omega) hok
    refine wpL_of (show Region.wanted _ _ = true from rfl) (by intro _ e; cases e) ?_
    unfold Oper.wp
    obtain ⟨n', hn'⟩ : ∃ n', xs.length - i.toNat = n' + 1 := ⟨xs.length - i.toNat - 1, by omega⟩
    have hc : (execOp (a.put (some d) (.slice (some ⟨b, i.toNat * Rp.sz P α, none⟩) (xs.length - i.toNat) (cap - i.toNat))).eval ⟨none, .call ⟨.builtin .clear, #[.tmp d], #[t]⟩, ty', pos', aft', none⟩).run P w = .ok (.value (.tuple #[])) (w.setRow b (cur.toList.take (i.toNat * Rp.sz P α + 0) ++ (Builtin.zeroCells zv.cells (xs.length - i.toNat)).toList ++ cur.toList.drop (i.toNat * Rp.sz P α + 0 + (Builtin.zeroCells zv.cells (xs.length - i.toNat)).toList.length)).toArray) := by
      simp only [execOp, resolve, invoke, builtin, Sem.run_bind, Sem.run_pure, Result.andThen_ok, List.map_toArray, List.map_cons, List.map_nil]
      rw [hput]
      simp only [hn'] at hst ⊢
      simp [Builtin.clear_, run_underlying ht.un, hzr, hst, Result.andThen]
    rw [hc]
    rw [Nat.add_zero, hzl]
    have hnone : ∀ j, m b j = none := (hno b (by rw [h1']; rfl)).2 hpr
    have hcs : cs = cur.toList.take (xs.length * Rp.sz P α) := h7.symm
    have hA : (cur.toList.take (i.toNat * Rp.sz P α) ++ (Builtin.zeroCells zv.cells (xs.length - i.toNat)).toList).length = xs.length * Rp.sz P α := by
      rw [List.length_append, List.length_take, Array.length_toList, hzl]; omega
    have hylen : (xs.take i.toNat ++ List.replicate (xs.length - i.toNat) z).length = xs.length := by simp; omega
    have hfl : flatRel (P := P) m (cur.toList.take (i.toNat * Rp.sz P α) ++ (Builtin.zeroCells zv.cells (xs.length - i.toNat)).toList) (xs.take i.toNat ++ List.replicate (xs.length - i.toNat) z) := by
      refine flat_append ?_ (flat_zeros (hzv m).1 _)
      have := flat_take i.toNat hf
      rwa [hcs, List.take_take, Nat.min_eq_left hmi] at this
    have hw' := hw.reheader (ys := xs.take i.toNat ++ List.replicate (xs.length - i.toNat) z) (v' := γ nm) (w' := w.setRow b (cur.toList.take (i.toNat * Rp.sz P α) ++ (Builtin.zeroCells zv.cells (xs.length - i.toNat)).toList ++ cur.toList.drop (i.toNat * Rp.sz P α + (xs.length - i.toNat) * Rp.sz P α)).toArray)
      (cs := cur.toList.take (i.toNat * Rp.sz P α) ++ (Builtin.zeroCells zv.cells (xs.length - i.toNat)).toList) hg hpr hpg (fun _ h => h)
      ⟨by rw [hylen]; exact hA, .inr ⟨b, cap, _, by rw [hylen]; exact h1', h2, setRow_heap w _ _ _ _ _ h3, by rw [hylen]; exact hcap, h5, ?_, ?_⟩⟩ hfl (by rw [hylen]; exact hbig')
      ⟨rfl, rfl, rfl, by simp [World.setRow], fun c _ hne => setRow_other w _ c _ (fun e => hne (by rw [h1', e]; rfl))⟩
    · rw [upd_same] at hw'
      exact k m β γ κ _ _ (ha' _) hw'
    · have e1 : (cur.toList.drop (i.toNat * Rp.sz P α + (xs.length - i.toNat) * Rp.sz P α)).length = cap * Rp.sz P α - xs.length * Rp.sz P α := by rw [List.length_drop, Array.length_toList, hmul, h6']
      have e2 : xs.length * Rp.sz P α ≤ cap * Rp.sz P α := Nat.mul_le_mul_right _ hcap
      have e3 : ∀ l1 l2 : List Value, (l1 ++ l2).toArray.size = l1.length + l2.length := fun l1 l2 => by simp
      exact (e3 _ _).trans (by rw [hA, e1]; omega)
    · rw [hylen]
      show (_ ++ _ : List Value).take _ = _
      rw [List.take_append, hA, Nat.sub_self, List.take_zero, List.append_nil, List.take_of_length_le (by rw [hA]; exact Nat.le_refl _)]
theorem run_eql_slice_nil {t e : TypeId} (ht : P.underlying t = some (.slice e)) (ad : Option Addr) (n c : Nat) (w : World) : (binOp .eql t (.slice ad n c) (.slice none 0 0)).run P w = .ok (.bool ad.isNone) w := by
  have h : ∀ d, (Op.equalIn (d + 1) t (.slice ad n c) (.slice none 0 0)).run P w = .ok ad.isNone w := fun d => by
    unfold Op.equalIn
    cases ad <;> simp [run_underlying ht]
  have h2 := h 9999
  simp only [binOp]
  simp only [Op.equal, Op.maxDepth, Sem.run_bind]
  rw [show (10000 : Nat) = 9999 + 1 from rfl, h2]
  rfl
theorem run_eqGuard_slice_nil {t e : TypeId} (ht : P.underlying t = some (.slice e)) (o o' : Operand) (ad : Option Addr) (n c : Nat) (w : World) : (eqGuard .eql t o o' (.slice ad n c) (.slice none 0 0)).run P w = .ok () w := by
  simp [eqGuard]
/-- 's == nil': nothing is known of it, but a nil slice is empty. -/
theorem TL_isnil {α : Type} [Rp P α] {xs : List α} (hx : Ev K s o (.d xs)) (ht : P.underlying t = some (.slice (P.elem t)))
    (k1 : xs = [] → TL K (s.put d (.d true)) ops Q rest) (k2 : TL K (s.put d (.d false)) ops Q rest) (hd : Nat.ble (d + 1) K.n = true := by rfl) :
    TL K s ops Q (⟨some d, .binOp .eql t o (.const (.slice none 0 0)) t', ty, pos, aft, none⟩ :: rest) := by
  intro m β γ κ a w ha hw
  have hd' : d < K.n := Nat.le_of_ble_eq_true hd
  obtain ⟨⟨ad, cap, e1, hc, hel⟩, hb⟩ := list_of (P := P) (hx m β γ a ha)
  have hrun : (execOp a.eval ⟨some d, .binOp .eql t o (.const (.slice none 0 0)) t', ty, pos, aft, none⟩).run P w = .ok (.value (.bool ad.isNone)) w := by
    have : a.eval (.const (.slice none 0 0)) = .slice none 0 0 := rfl
    simp only [execOp, e1, this, Sem.run_bind, run_eqGuard_slice_nil ht, run_eql_slice_nil ht, Result.andThen_ok, Sem.run_pure]
  refine wpL_of (show Region.wanted _ _ = true from rfl) (by intro _ e; cases e) ?_
  unfold Oper.wp
  rw [hrun]
  cases ad with
  | none =>
    have hxs : xs = [] := Classical.byContradiction fun hne => by obtain ⟨b, off, h, _⟩ := hel hne; cases h
    exact k1 hxs m β γ κ _ w (ha.put hd' (vbool m true)) hw
  | some ad => exact k2 m β γ κ _ w (ha.put hd' (vbool m false)) hw
theorem y_nil_cap (hx : Ev K s o (.x (.slice none 0 0))) (ht : P.underlying t = some (.slice (P.elem t))) :
    Y K s ⟨dst, .call ⟨.builtin .cap, #[o], #[t]⟩, ty, pos, aft, g⟩ (.d (P := P) (0 : Int)) := by
  refine Y.of_run fun m β γ κ a ha _ => ⟨.int .i64 0, vint m (by decide), fun w _ => ?_⟩
  have e1 : a.eval o = .slice none 0 0 := hx m β γ a ha
  simp [execOp, resolve, invoke, builtin, e1, Builtin.cap_, run_underlying ht, goInt]
theorem y_nil_len (hx : Ev K s o (.x (.slice none 0 0))) (ht : P.underlying t = some (.slice (P.elem t))) :
    Y K s ⟨dst, .call ⟨.builtin .len, #[o], #[t]⟩, ty, pos, aft, g⟩ (.d (P := P) (0 : Int)) := by
  refine Y.of_run fun m β γ κ a ha _ => ⟨.int .i64 0, vint m (by decide), fun w _ => ?_⟩
  have e1 : a.eval o = .slice none 0 0 := hx m β γ a ha
  simp [execOp, resolve, invoke, builtin, e1, Builtin.len_, run_underlying ht, goInt]
theorem y_nil_cut {α : Type} [Rp P α] (hx : Ev K s o (.x (.slice none 0 0))) (hh : Ev K s o' (.d (0 : Int))) (ht : TySl P t α) :
    Y K s ⟨dst, .slice t o none (some o') none, ty, pos, aft, g⟩ (.x (.slice none 0 0)) := by
  refine Y.of_run fun m β γ κ a ha _ => ⟨.slice none 0 0, rfl, fun w _ => ?_⟩
  have e1 : a.eval o = .slice none 0 0 := hx m β γ a ha
  have e2 := (int_of (P := P) (hh m β γ a ha)).1
  simp [execOp, e1, e2, Instr.sliceAt, run_underlying ht.un, Instr.slice, Instr.sliceBounds, Instr.sliceBound, asIntOf, ht.size]
/-- A nil that may grow, moved. -/
theorem TL_mvnil {α : Type} [Rp P α] (e : TypeId) (nm : Nat) (hx : Ev K s o (.x (.slice none 0 0)))
    (k : TL K ⟨(d, .g nm) :: s.sl, ⟨s.B.bx, (nm, (⟨e, ([] : List α)⟩ : GV P)) :: s.B.gr, tiN nm s.B.ti⟩⟩ ops Q rest) (hgo : goffAll nm s.sl = true := by rfl) (hgr : offGr nm s.B.gr = true := by rfl) (hd : Nat.ble (d + 1) K.n = true := by rfl) (hpg : K.ping nm = none := by rfl) :
    TL K s ops Q (⟨some d, .move o, ty, pos, aft, none⟩ :: rest) := by
  intro m β γ κ a w ha hw
  have hd' : d < K.n := Nat.le_of_ble_eq_true hd
  have e1 : a.eval o = .slice none 0 0 := hx m β γ a ha
  refine wpL_of (show Region.wanted _ _ = true from rfl) (by intro _ e; cases e) ?_
  have hrun : (execOp a.eval ⟨some d, .move o, ty, pos, aft, none⟩).run P w = .ok (.value (.slice none 0 0)) w := by simp [execOp, e1]
  unfold Oper.wp
  rw [hrun]
  exact k m β _ κ _ _ ((ha.goff hgo).put hd' (by show _ = _; rw [upd_eq])) ((WH.tiN (d := nm) hw).nilOwn e (fun q gv hq => gr_off hgr hq) (tiN_ne _) hpg)
/-- 'append(nil, make([]T, n)...)': a private row. -/
theorem TL_zeros {α : Type} [Rp P α] {e : TypeId} {n : Int} {z : α} {tn : TypeId} (nm : Nat) (hx : Ev K s o (.x (.slice none 0 0))) (hn : Ev K s o' (.d n)) (ht : TyEl P t e α) (htn : P.underlying tn = some (.int .i64)) (hz : Zero P e z) (h0 : 0 < n) (hbig : n ≤ 1048576)
    (k : TL K ⟨(d, .g nm) :: s.sl, ⟨s.B.bx, (nm, (⟨e, List.replicate n.toNat z⟩ : GV P)) :: s.B.gr, tiN nm s.B.ti⟩⟩ ops Q rest) (hgo : goffAll nm s.sl = true := by rfl) (hgr : offGr nm s.B.gr = true := by rfl) (hd : Nat.ble (d + 1) K.n = true := by rfl) (hpr : priv nm = true := by rfl) (hpg : K.ping nm = none := by rfl) :
    TL K s ops Q (⟨some d, .call ⟨.builtin .append, #[o, o'], #[t, tn]⟩, ty, pos, aft, none⟩ :: rest) := by
  intro m β γ κ a w ha hw
  have hd' : d < K.n := Nat.le_of_ble_eq_true hd
  obtain ⟨i, zc, hi, hz0, hs, hzs, hby⟩ := ht.info
  have e1 : a.eval o = .slice none 0 0 := hx m β γ a ha
  have e2 := (int_of (P := P) (hn m β γ a ha)).1
  obtain ⟨zv, hzr, hzv⟩ := hz
  have ez : zv = zc := by
    have := hzr w
    simp [zeroValue, typeInfo, hi, hz0] at this
    exact this.symm
  subst ez
  obtain ⟨k', hk'⟩ : ∃ k' : Nat, n = (k' : Int) := ⟨n.toNat, by omega⟩
  have hkn : n.toNat = k' := by omega
  have hr := Lib.run_append_nil_zeros (P := P) w t tn ty e i zv .i64 .i64 ht.un htn hi hz0 k' (by omega) (by rw [hs]; exact ht.pos) (by omega) (by
    have : k' * i.bytes ≤ 1048576 * 65536 := Nat.mul_le_mul (by omega) hby
    omega)
  have hrun : (execOp a.eval ⟨some d, .call ⟨.builtin .append, #[o, o'], #[t, tn]⟩, ty, pos, aft, none⟩).run P w = .ok (.value (.slice (some ⟨w.heap.size, 0, none⟩) k' (grownCap w k' 0 e))) (w.drew.alloc (.cells (Builtin.zeroCells zv.cells k' ++ Builtin.zeroCells zv.cells (grownCap w k' 0 e - k')) e)) := by
    rw [← hk'] at hr
    simp only [execOp, resolve, invoke, builtin, Sem.run_bind, Sem.run_pure, Result.andThen_ok, List.map_toArray, List.map_cons, List.map_nil, e1, e2, hr]
  refine wpL_of (show Region.wanted _ _ = true from rfl) (by intro _ e; cases e) ?_
  unfold Oper.wp
  rw [hrun]
  have hge := grownCap_ge w k' 0 e
  have hcm := grownCap_le_maxLen w k' 0 e (by simp only [maxLen]; omega)
  have hw0 := (WH.tiN (d := nm) hw).nilOwn (α := α) e (fun q gv hq => gr_off hgr hq) (tiN_ne _) hpg
  have hzl : (Builtin.zeroCells zv.cells k').toList.length = k' * Rp.sz P α := by rw [Array.length_toList, size_zeroCells, hzs]
  have hB : K.B0 ≤ w.heap.size := hw.jj.2.1
  have hgb : ∀ r, w.grownBy (w.drew.alloc (.cells (Builtin.zeroCells zv.cells k' ++ Builtin.zeroCells zv.cells (grownCap w k' 0 e - k')) e)) r := fun r => ⟨rfl, rfl, rfl, by simp, fun k hk _ => heap_alloc_old w.drew _ k hk⟩
  have hw' := hw0.appendP (ys := List.replicate k' z) (cs0 := []) (news := (Builtin.zeroCells zv.cells k').toList) (v' := .slice (some ⟨w.heap.size, 0, none⟩) k' (grownCap w k' 0 e)) (w' := w.drew.alloc (.cells (Builtin.zeroCells zv.cells k' ++ Builtin.zeroCells zv.cells (grownCap w k' 0 e - k')) e)) (lk_cons_eq rfl) rfl (fun b hb => by rw [upd_eq] at hb; cases hb) hpr hpg
    ⟨by simpa using hzl, .inr ⟨w.heap.size, _, _, by simp, hB, heap_alloc_new w.drew _, by simpa using hge, hcm, ?_, ?_⟩⟩ (flat_zeros (hzv m).1 k') (by rw [upd_eq]; exact hgb _) (by simp; omega) (.inr ⟨hgb _, fun b hb => by cases hb; exact Nat.le_refl _⟩)
  · rw [← hkn] at hw' ⊢
    have hu : ∀ v v' : Value, upd (upd γ nm v) nm v' = upd γ nm v' := fun v v' => by
      funext q
      by_cases e : q = nm
      · subst e; rw [upd_eq, upd_eq]
      · rw [upd_ne e, upd_ne e, upd_ne e]
    rw [hu] at hw'
    refine k m β _ κ _ _ ((ha.goff hgo).put hd' (by show _ = _; rw [upd_eq])) ?_
    refine hw'.le' (s := ⟨[], _⟩) (s' := ⟨[], ⟨s.B.bx, (nm, (⟨e, List.replicate n.toNat z⟩ : GV P)) :: s.B.gr, tiN nm s.B.ti⟩⟩) ⟨fun _ _ h => h, fun _ _ h => h, fun q gv h => ?_, fun e he => ?_⟩
    · by_cases e' : q = nm
      · subst e'; rw [lk_cons_eq rfl] at h ⊢; exact h
      · rw [lk_cons_ne (Ne.symm e')] at h ⊢; rw [lk_cons_ne (Ne.symm e')]; exact h
    · rw [tiN_idem]; exact he
  · rw [Array.size_append, size_zeroCells, size_zeroCells, hzs, ← Nat.add_mul]; congr 1; omega
  · rw [Array.toList_append, List.take_append, List.take_of_length_le (by rw [hzl]; simp)]
    simp [hzl]
end ops
end Go.Ph
/-! Closures over boxes that are still written. -/
namespace Go.Ph
open Go.RowKit (Below)
universe u
variable {P : Program}
/-- The snapshot with the boxes' cells known too. -/
noncomputable def boxSnap (m : Snap) (β : Nat → Nat) (κ : Nat → List Value) (B : Bs P) : Snap := fun c i =>
  open Classical in if h : ∃ x, (∃ bv, lk B.bx x = some bv) ∧ β x = c then (κ h.choose)[i]? else m c i
section
variable {K : Cx} {s : St P} {m : Snap} {β : Nat → Nat} {γ : Nat → Value} {κ : Nat → List Value} {B : Bs P} {w : World}
theorem boxSnap_box (hw : WH K m β γ κ B w) {x : Nat} {bv : BV P} (hx : lk B.bx x = some bv) (i : Nat) : boxSnap m β κ B (β x) i = (κ x)[i]? := by
  have h : ∃ y, (∃ bv, lk B.bx y = some bv) ∧ β y = β x := ⟨x, ⟨bv, hx⟩, rfl⟩
  unfold boxSnap
  rw [dif_pos h]
  obtain ⟨⟨bv', h1⟩, h2⟩ := h.choose_spec
  have : h.choose = x := Classical.byContradiction fun hne => hw.inj _ _ _ _ h1 hx hne h2
  rw [this]
theorem boxSnap_else {c : Nat} (h : ∀ x bv, lk B.bx x = some bv → β x ≠ c) (i : Nat) : boxSnap (P := P) m β κ B c i = m c i := by
  unfold boxSnap
  rw [dif_neg]
  rintro ⟨x, ⟨bv, h1⟩, h2⟩
  exact h x bv h1 h2
theorem boxSnap_le (hw : WH K m β γ κ B w) : Snap.le m (boxSnap m β κ B) := fun c i v hv => by
  by_cases h : ∃ x bv, lk B.bx x = some bv ∧ β x = c
  · obtain ⟨x, bv, h1, rfl⟩ := h
    rw [(hw.box x bv h1).2.2.2 i] at hv; cases hv
  · rw [boxSnap_else (fun x bv h1 h2 => h ⟨x, bv, h1, h2⟩)]; exact hv
theorem boxSnap_sees (hw : WH K m β γ κ B w) : ∀ b i v, boxSnap m β κ B b i = some v → w.cell? ⟨b, i, none⟩ = some v := fun c i v hv => by
  by_cases h : ∃ x bv, lk B.bx x = some bv ∧ β x = c
  · obtain ⟨x, bv, h1, rfl⟩ := h
    rw [boxSnap_box hw h1] at hv
    obtain ⟨⟨T, hT⟩, _⟩ := hw.box x bv h1
    simp [World.cell?, hT, hv]
  · rw [boxSnap_else (fun x bv h1 h2 => h ⟨x, bv, h1, h2⟩)] at hv
    exact hw.sees c i v hv
/-- What a closure has captured: boxes, with what they hold now. -/
def CapsOf (B : Bs P) : List Nat → List (AV P) → Prop
  | [], [] => True
  | b :: bs, c :: cs => (∃ bv : BV P, lk B.bx b = some bv ∧ c = @AV.d P (Ptr bv.α) (@rpPtr P bv.α bv.i) ⟨bv.x⟩) ∧ CapsOf B bs cs
  | _, _ => False
theorem CapsOf.hold (hw : WH K m β γ κ B w) : ∀ {bs : List Nat} {cs : List (AV P)}, CapsOf B bs cs → ∀ m', Snap.le (boxSnap m β κ B) m' → AllHold m' (bs.map fun b => Value.pointer (some ⟨β b, 0, none⟩)) cs
  | [], [], _, _, _ => trivial
  | b :: bs, c :: cs, h, m', hle => by
    obtain ⟨⟨bv, h1, rfl⟩, h2⟩ := h
    refine ⟨⟨⟨β b, 0, κ b, rfl, bv.i.mono (Snap.le_trans (boxSnap_le hw) hle) (hw.box b bv h1).2.1, fun j c hj => hle _ _ _ ?_⟩, rfl⟩, CapsOf.hold hw h2 m' hle⟩
    rw [Nat.zero_add, boxSnap_box hw h1]; exact hj
  | [], _ :: _, h, _, _ => h.elim
  | _ :: _, [], h, _, _ => h.elim
theorem CapsOf.fn1 {α δ : Type} [Rp P α] [Rp P δ] {cf : FuncId} {bs : List Nat} {caps : List (AV P)} {F : α → Option δ} (hw : WH K m β γ κ B w) (hB : CapsOf B bs caps) (hc : ∀ x r, F x = some r → Fn P cf (.d x :: caps) (.d r)) (hf : callable P cf = true) :
    vrel (P := P) (boxSnap m β κ B) (.func (.func cf) #[] (bs.map fun b => Value.pointer (some ⟨β b, 0, none⟩)).toArray) (⟨F⟩ : Fn1 α δ) := by
  refine ⟨⟨cf, _, rfl, hf, fun x r hr m' w' v hle hs hv => ?_⟩, rfl⟩
  have := hc x r hr m' w' (v :: bs.map fun b => Value.pointer (some ⟨β b, 0, none⟩)) hs ⟨hv, hB.hold hw m' hle⟩
  simpa using this
/-- A private row under another header, of the same block or a new one. -/
theorem WH.reheader2 {nm : Nat} {α : Type} [Rp P α] {e : TypeId} {xs ys : List α} {v' : Value} {w' : World} {cs : List Value} (h : WH K m β γ κ B w) (hg : lk B.gr nm = some ⟨e, xs⟩) (hpr : priv nm = true) (hpg : K.ping nm = none)
    (hob : ∀ b, v'.ownBlock = some b → (γ nm).ownBlock = some b ∨ w.heap.size ≤ b) (hown : w'.ownsRow K.B0 e (Rp.sz P α) v' ys.length cs) (hf : flatRel (P := P) m cs ys) (hbig : ys.length ≤ 1048576) (hgr : w.grownBy w' (γ nm).ownBlock) :
    WH K m β (upd γ nm v') κ ⟨B.bx, (nm, (⟨e, ys⟩ : GV P)) :: B.gr, Ph.tiN nm B.ti⟩ w' := by
  obtain ⟨⟨cs0, hown0, _, hno⟩, _⟩ := h.grow nm _ hg
  have hnone : ∀ b, (γ nm).ownBlock = some b → ∀ i, m b i = none := fun b hb => (hno b hb).2 hpr
  have hlt : ∀ b i v, m b i = some v → b < w.heap.size := fun b i v hv => cell_lt (h.sees b i v hv)
  have hnone' : ∀ b, v'.ownBlock = some b → ∀ i, m b i = none := fun b hb i => by
    rcases hob b hb with h1 | h1
    · exact hnone b h1 i
    · cases hq : m b i with
      | none => rfl
      | some v => have := hlt b i v hq; omega
  have hs' : ∀ c i v, m c i = some v → w'.cell? ⟨c, i, none⟩ = some v := fun c i v hv => by
    rw [World.cell?_of_block (w := w) (hgr.block c (hlt c i v hv) (fun e => by rw [hnone c e.symm i] at hv; cases hv))]; exact h.sees c i v hv
  have hblt : ∀ y bv, lk B.bx y = some bv → β y < w.heap.size := fun y bv hy => by
    obtain ⟨⟨T, hT⟩, _⟩ := h.box y bv hy
    rcases Nat.lt_or_ge (β y) w.heap.size with hl | hl
    · exact hl
    · rw [Array.getElem?_eq_none hl] at hT; cases hT
  have hglt : ∀ y gv b, lk B.gr y = some gv → (γ y).ownBlock = some b → b < w.heap.size := fun y gv b hy hb => (h.grow y gv hy).lt hb
  refine ⟨hs', h.le, h.new, fun y bv hy => ?_, h.inj, fun y gv hy => ?_, fun y z gv bv hy hz => ?_, fun y z gy gz b hy hz hne hb => ?_, fun q hq => ?_, ?_⟩
  · obtain ⟨⟨T, hT⟩, hr, hB', hn'⟩ := h.box y bv hy
    exact ⟨⟨T, by rw [hgr.block _ (hblt y bv hy) (fun e => h.gbox nm y _ bv hg hy e.symm)]; exact hT⟩, hr, hB', hn'⟩
  · by_cases e' : y = nm
    · subst e'
      rw [lk_cons_eq rfl] at hy; cases hy
      rw [upd_eq]
      exact ⟨⟨cs, hown, hf, fun b hb => ⟨(fun e => by rw [hpr] at e; cases e), fun _ => hnone' b hb⟩⟩, hbig⟩
    · rw [lk_cons_ne (Ne.symm e')] at hy
      rw [upd_ne e']
      have hgy := h.grow y gv hy
      exact hgy.keep (fun b hb => hgr.block b (hgy.lt hb) (fun e => h.ginj y nm gv _ b hy hg e' hb e.symm)) (Snap.le_refl _) fun _ _ _ h => h
  · by_cases e' : y = nm
    · subst e'; rw [upd_eq]; intro hb
      rcases hob _ hb with h1 | h1
      · exact h.gbox y z _ bv hg hz h1
      · have := hblt z bv hz; omega
    · rw [lk_cons_ne (Ne.symm e')] at hy
      rw [upd_ne e']; exact h.gbox y z gv bv hy hz
  · by_cases e1 : y = nm
    · subst e1
      rw [upd_eq] at hb
      have e2 : z ≠ y := Ne.symm hne
      rw [lk_cons_ne (Ne.symm e2)] at hz
      rw [upd_ne e2]
      intro hz'
      rcases hob b hb with h1 | h1
      · exact h.ginj y z _ gz b hg hz hne h1 hz'
      · have := hglt z gz b hz hz'; omega
    · rw [lk_cons_ne (Ne.symm e1)] at hy
      rw [upd_ne e1] at hb
      by_cases e2 : z = nm
      · subst e2
        rw [upd_eq]
        intro hz'
        rcases hob b hz' with h1 | h1
        · exact h.ginj y z gy _ b hy hg e1 hb h1
        · have := hglt y gy b hy hb; omega
      · rw [lk_cons_ne (Ne.symm e2)] at hz
        rw [upd_ne e2]; exact h.ginj y z gy gz b hy hz hne hb
  · obtain ⟨h1, h2⟩ := tiN_mem q hq; rw [upd_ne h2]; exact h.tie q h1
  · refine h.go hgr.os hgr.tape hgr.output hgr.size (fun k hk hne => hgr.block k hk (fun e => hne (.inr ⟨nm, _, hg, e.symm⟩))) (Snap.le_refl _) (fun _ _ _ h => .inl h) hs' ?_ (hp := fun _ _ _ h => h) (hg := fun n v hn e => by rw [upd_ne (fun e2 => by subst e2; rw [hpg] at hn; cases hn)]; exact e)
    rintro b (hb | ⟨x, gv, h1, h2⟩)
    · exact .inl (.inl hb)
    · by_cases e : x = nm
      · subst e; rw [upd_eq] at h2
        exact (hob b h2).elim (fun h3 => .inl (.inr ⟨x, _, hg, h3⟩)) .inr
      · rw [lk_cons_ne (Ne.symm e)] at h1; rw [upd_ne e] at h2; exact .inl (.inr ⟨x, gv, h1, h2⟩)
end
section ops
variable {K : Cx} {s : St P} {ops : Array Oper} {Q : Exit → Act → World → Prop} {rest : List Oper} {d nm : Nat} {t t' t'' ty ty' : TypeId} {pos pos' : String} {aft aft' : Array Edge} {g : Option (Nat × Bool)} {dst : Option Tmp} {o o' o'' : Operand}
  {m : Snap} {β : Nat → Nat} {γ : Nat → Value} {κ : Nat → List Value} {B : Bs P} {w : World} {a : Act}
theorem EvAll.ptrs (ha : AH K m β γ s.sl a) : ∀ {os : List Operand} {bs : List Nat}, EvAll K s os (bs.map fun b => .p b 0) → os.map a.eval = bs.map fun b => Value.pointer (some ⟨β b, 0, none⟩)
  | [], [], _ => rfl
  | o :: os, b :: bs, h => by
    have h1 : a.eval o = _ := h.1 m β γ a ha
    rw [List.map_cons, List.map_cons, h1, EvAll.ptrs ha h.2]
  | [], _ :: _, h => h.elim
  | _ :: _, [], h => h.elim
theorem y_makeCl {f : FuncId} {os : List Operand} {bs : List Nat} (he : EvAll K s os (bs.map fun b => .p b 0)) : Y K s ⟨dst, .makeFunc (.func f) #[] os.toArray, ty, pos, aft, g⟩ (.cl f bs) := by
  refine Y.of_run fun m β γ κ a ha _ => ⟨.func (.func f) #[] (os.toArray.map a.eval), ?_, fun w _ => by simp [execOp, Instr.makeFunc]⟩
  show _ = Value.func _ _ _
  rw [List.map_toArray, he.ptrs ha]
/-- A closure over boxes is called. -/
theorem y_callcl {α δ : Type} [Rp P α] [Rp P δ] [Flat P δ] {cf : FuncId} {bs : List Nat} {caps : List (AV P)} {x : α} {r : δ} {tys : Array TypeId} (hcl : Ev K s o (.cl cf bs)) (hB : CapsOf s.B bs caps) (hx : Ev K s o' (.d x)) (hc : Fn P cf (.d x :: caps) (.d r)) (hf : callable P cf = true) :
    Y K s ⟨dst, .call ⟨.value o, #[o'], tys⟩, ty, pos, aft, g⟩ (.d r) := by
  intro m β γ κ a ha ⟨w0, hw0⟩
  have e : a.eval o = .func (.func cf) #[] (bs.map fun b => Value.pointer (some ⟨β b, 0, none⟩)).toArray := hcl m β γ a ha
  have hall : ∀ w, WH K m β γ κ s.B w → Calls P cf (a.eval o' :: bs.map fun b => Value.pointer (some ⟨β b, 0, none⟩)).toArray w (Post (P := P) (boxSnap m β κ s.B) w (.d r)) := fun w hw =>
    hc _ w _ (boxSnap_sees hw) ⟨vrel.mono (boxSnap_le hw) (hx m β γ a ha), hB.hold hw _ (Snap.le_refl _)⟩
  obtain ⟨v, hv⟩ := Calls.flat (hall w0 hw0)
  refine ⟨v, hv m, fun w hw => ?_⟩
  unfold Oper.quietAt
  rw [show (#[o'] : Array Operand) = [o'].toArray from rfl, run_callv hf e]
  refine ⟨rfl, Calls.mono (by simpa using hall w hw) ?_⟩
  rintro e w' ⟨v', m', rfl, hv', hle, hnew, hs, hb⟩
  exact ⟨by rw [Flat.one (hv m) hv'], hw.below_call hb⟩
/-- A function is handed a private row for its own and a closure over boxes; it hands back a private row. -/
theorem TL_callDel {α δ : Type} [Rp P α] [Enc P α] [Rp P δ] {f cf : FuncId} {bs : List Nat} {caps : List (AV P)} {F : α → Option δ} {e : TypeId} {xs ys : List α} {tys : Array TypeId} (hcl : Ev K s o' (.cl cf bs)) (hx : Ev K s o (.g nm)) (hg : lk s.B.gr nm = some ⟨e, xs⟩) (hB : CapsOf s.B bs caps)
    (hF : ∀ x r, F x = some r → Fn P cf (.d x :: caps) (.d r)) (hcf : callable P cf = true) (hc : FnL P f [.g nm, .d (P := P) (⟨F⟩ : Fn1 α δ)] ⟨[], [(nm, ⟨e, xs⟩)], []⟩ (.g nm) ⟨[], [(nm, ⟨e, ys⟩)], []⟩ [] []) (hf : callable P f = true)
    (k : TL K ⟨(d, .g nm) :: dropAll nm s.sl, ⟨s.B.bx, (nm, ⟨e, ys⟩) :: s.B.gr, tiN nm s.B.ti⟩⟩ ops Q rest) (hd : Nat.ble (d + 1) K.n = true := by rfl) (hpr : priv nm = true := by rfl) (hpg : K.ping nm = none := by rfl) :
    TL K s ops Q (⟨some d, .call ⟨.value (.func f), #[o, o'], tys⟩, ty, pos, aft, none⟩ :: rest) := by
  intro m β γ κ a w ha hw
  have hd' : d < K.n := Nat.le_of_ble_eq_true hd
  have e1 : a.eval o = γ nm := hx m β γ a ha
  have e2 : a.eval o' = .func (.func cf) #[] (bs.map fun b => Value.pointer (some ⟨β b, 0, none⟩)).toArray := hcl m β γ a ha
  obtain ⟨⟨cs, hown, hfl, hno⟩, hbig⟩ := hw.grow nm _ hg
  have hB0 : Le ⟨[], (⟨[], [(nm, ⟨e, xs⟩)], []⟩ : Bs P)⟩ ⟨[], s.B⟩ := ⟨fun t x h => by simp [lk] at h, fun t x h => by simp [lk] at h, fun t x h => by
    by_cases e' : t = nm
    · subst e'; rw [lk_cons_eq rfl] at h; cases h; exact hg
    · rw [lk_cons_ne (Ne.symm e')] at h; simp [lk] at h, fun e h => by cases h⟩
  have h0 := hw.le' (s := ⟨[], s.B⟩) hB0
  have hS0 : ∀ b, own β γ (⟨[], [(nm, (⟨e, xs⟩ : GV P))], []⟩ : Bs P) b → (γ nm).ownBlock = some b := by
    rintro b (⟨x, bv, h1, _⟩ | ⟨x, gv, h1, h2⟩)
    · simp [lk] at h1
    · by_cases e' : x = nm
      · subst e'; exact h2
      · rw [lk_cons_ne (Ne.symm e')] at h1; simp [lk] at h1
  have hwc : WH (lentK 0 (boxSnap m β κ s.B) w (own β γ (⟨[], [(nm, ⟨e, xs⟩)], []⟩ : Bs P)) (pinOf [] β) (pingOf [] γ)) (boxSnap m β κ s.B) β γ κ (⟨[], [(nm, ⟨e, xs⟩)], []⟩ : Bs P) w := by
    refine ⟨boxSnap_sees hw, Snap.le_refl _, fun _ _ _ h => .inl h, fun x bv hx => by simp [lk] at hx, fun x y bx bY hx => by simp [lk] at hx, fun x gv hx => ?_, h0.gbox, h0.ginj, h0.tie, ⟨⟨rfl, rfl, rfl, Nat.le_refl _, fun _ _ _ => rfl, fun b hb => .inl hb, fun _ _ _ h => .inl h⟩, Nat.zero_le _, fun _ _ h => pinOf_self h, fun _ _ h => pingOf_self h⟩⟩
    by_cases e' : x = nm
    · subst e'
      rw [lk_cons_eq rfl] at hx; cases hx
      refine ⟨⟨cs, ⟨hown.1, hown.2.imp id ?_⟩, hfl.mono (boxSnap_le hw), fun b hb => ⟨(fun e => by rw [hpr] at e; cases e), fun _ i => ?_⟩⟩, hbig⟩
      · rintro ⟨g, cap, cur, h1, _, h3⟩
        exact ⟨g, cap, cur, h1, Nat.zero_le _, h3⟩
      · rw [boxSnap_else (fun y bv hy e'' => hw.gbox x y _ bv hg hy (by rw [hb, e'']))]
        exact (hno b hb).2 hpr i
    · rw [lk_cons_ne (Ne.symm e')] at hx; simp [lk] at hx
  obtain ⟨fn, hfn, hq1, hq2⟩ := callable_fn hf
  refine wpL_of (show Region.wanted _ _ = true from rfl) (by intro _ e; cases e) ?_
  unfold Oper.wp
  rw [show (#[o, o'] : Array Operand) = [o, o'].toArray from rfl, run_call hfn (by cases hq : fn.body with | none => exact absurd hq hq1 | some _ => rfl) (by simpa using hq2), Oper.upon_enter]
  refine (hc _ β γ κ w [a.eval o, a.eval o'] hwc ⟨e1, by rw [e2]; exact hB.fn1 hw hF hcf, trivial⟩).mono ?_
  rintro en w' ⟨v, m', β', γ', κ', rfl, hv, hwp⟩
  have hv : v = γ' nm := hv
  subst hv
  obtain ⟨⟨j1, j2, j3, j4, j5, j6, j7⟩, _⟩ := hwp.jj
  obtain ⟨⟨cs', ⟨hl', hown'⟩, hfl', hno'⟩, hbig'⟩ := hwp.grow nm _ (lk_cons_eq rfl)
  have hob : ∀ b, (γ' nm).ownBlock = some b → (γ nm).ownBlock = some b ∨ w.heap.size ≤ b := fun b hb => (j6 b (.inr ⟨nm, _, lk_cons_eq rfl, hb⟩)).imp (hS0 b) id
  have hge : ∀ b, (γ' nm).ownBlock = some b → K.B0 ≤ b := fun b hb => (hob b hb).elim (fun h1 => (hown.lt b h1).1) (fun h1 => Nat.le_trans hw.jj.2.1 h1)
  have hw2 := hw.reheader2 (ys := ys) (v' := γ' nm) (w' := w') (cs := cs') hg hpr hpg hob ⟨hl', hown'.imp id (by
    rintro ⟨g, cap, cur, h1, _, h3⟩
    exact ⟨g, cap, cur, h1, hge g (by rw [h1]; rfl), h3⟩)⟩ (Enc.flat_ind hfl') hbig' ⟨j1, j2, j3, j4, fun b hb hne => j5 b hb (fun h => hne (hS0 b h).symm)⟩
  exact k m β _ κ _ w' ((ha.dropg).put hd' (by show _ = _; rw [upd_eq])) hw2
end ops
end Go.Ph
/-! How a statement's readings stand for data. -/
namespace Go.Ph
open Go.RowKit (Below)
universe u
variable {P : Program}
/-- All that a world holds. -/
def sn (w : World) : Snap := fun b i => w.cell? ⟨b, i, none⟩
/-- What reads as a datum of this type stands for one. -/
structure RdT (P : Program) (t : TypeId) (α : Type) [Rp P α] : Prop where
  cells : P.cellsOf t = Rp.sz P α
  rd : ∀ {H : Type} {enc : TypeId × Value → H} {w : World} {sp : Nat → Bool} {held : Bool} {fuel : Nat} {cs : List Value} {x : DataW H × List MemPlace}, DataW.trod enc P w 0 sp held fuel t cs = some x → ∃ y : α, Rp.rel P (sn w) cs y
theorem rd_int {t : TypeId} (h : P.underlying t = some (.int .i64)) (hc : P.cellsOf t = 1) : RdT P t Int := ⟨hc, fun hx => by
  obtain ⟨n, rfl, _, hw⟩ := DataW.trod_int h hx
  simp only [Lit.wf, Bool.and_eq_true, decide_eq_true_eq] at hw
  exact ⟨n, rfl, hw⟩⟩
theorem rd_u8 {t : TypeId} (h : P.underlying t = some (.int .u8)) (hc : P.cellsOf t = 1) : RdT P t UInt8 := ⟨hc, fun hx => by
  obtain ⟨n, rfl, _, hw⟩ := DataW.trod_int h hx
  simp only [Lit.wf, Bool.and_eq_true, decide_eq_true_eq] at hw
  have hw : 0 ≤ n ∧ n ≤ 255 := hw
  refine ⟨UInt8.ofNat n.toNat, ?_⟩
  show [Value.int .u8 n] = [.int .u8 ((UInt8.ofNat n.toNat).toNat : Nat)]
  have : ((UInt8.ofNat n.toNat).toNat : Int) = n := by
    rw [UInt8.toNat_ofNat']
    omega
  rw [this]⟩
theorem choose_list {α : Type} {n : Nat} {p : Nat → α → Prop} (h : ∀ i, i < n → ∃ x, p i x) : ∃ xs : List α, xs.length = n ∧ ∀ i x, xs[i]? = some x → p i x := by
  induction n with
  | zero => exact ⟨[], rfl, fun i x hx => by simp at hx⟩
  | succ n ih =>
    obtain ⟨xs, hl, hx⟩ := ih fun i hi => h i (by omega)
    obtain ⟨y, hy⟩ := h n (by omega)
    refine ⟨xs ++ [y], by simp [hl], fun i x hi => ?_⟩
    by_cases e : i < n
    · rw [List.getElem?_append_left (by omega)] at hi; exact hx i x hi
    · rw [List.getElem?_append_right (by omega)] at hi
      have hi0 : i - xs.length = 0 := by
        rcases Nat.lt_or_ge (i - xs.length) 1 with h1 | h1
        · omega
        · rw [List.getElem?_eq_none (by simpa using h1)] at hi; cases hi
      rw [hi0] at hi
      simp only [List.getElem?_cons_zero, Option.some.injEq] at hi
      subst hi
      have : i = n := by omega
      subst this; exact hy
theorem rd_slice {t e : TypeId} {α : Type} [Rp P α] (h : P.underlying t = some (.slice e)) (hc : P.cellsOf t = 1) (he : RdT P e α) (hs : Nat.ble 1 (Rp.sz P α) = true) : RdT P t (List α) := ⟨hc, fun {H enc w sp held fuel cs x} hx => by
  have hpos : 1 ≤ Rp.sz P α := Nat.le_of_ble_eq_true hs
  rcases Go.Deep.open_slice h hx with ⟨rfl, _⟩ | ⟨a, len, cap, m, n, D, Pl, rfl, _, hl, hm, hmm, _, hi⟩
  · exact ⟨[], zslice⟩
  · have hlm : len ≤ m := by rw [hmm]; split <;> omega
    have hk : cap ≤ 9223372036854775807 := hm
    obtain ⟨xs, hxl, hxs⟩ := choose_list (n := len) (p := fun i (y : α) => ∃ cs', w.cells? 0 (a.add (i * P.cellsOf e)) (P.cellsOf e) = some cs' ∧ Rp.rel P (sn w) cs' y) fun i hil => by
      obtain ⟨cs', h1, h2⟩ := hi i (by omega)
      obtain ⟨y, hy⟩ := he.rd h2
      exact ⟨y, cs', h1, hy⟩
    refine ⟨xs, _, rfl, ⟨some a, cap, by rw [hxl], by omega, fun hne => ?_⟩, by omega⟩
    have hcell : ∀ i y, xs[i]? = some y → ∃ cs', Rp.rel P (sn w) cs' y ∧ ∀ j c, cs'[j]? = some c → w.cell? ((a.add (i * Rp.sz P α)).add j) = some c := fun i y hy => by
      obtain ⟨cs', h1, h2⟩ := hxs i y hy
      refine ⟨cs', h2, fun j c hj => ?_⟩
      rw [he.cells] at h1
      obtain ⟨_, hlen, hget⟩ := World.cells?_some h1
      rw [hget j (by rw [← hlen]; exact (List.getElem?_eq_some_iff.1 hj).1)]; exact hj
    obtain ⟨b, off, spot⟩ := a
    have hspot : spot = none := by
      cases xs with
      | nil => exact absurd rfl hne
      | cons y ys =>
        obtain ⟨cs', h1, h2⟩ := hcell 0 y rfl
        have hlen := Rp.len h1
        match cs', hlen with
        | [], hlen => simp at hlen; omega
        | c :: r, _ =>
          have := World.cell?_spot (h2 0 c rfl)
          simpa [Addr.add] using this
    subst hspot
    refine ⟨b, off, rfl, fun i y hy => ?_⟩
    obtain ⟨cs', h1, h2⟩ := hcell i y hy
    refine ⟨cs', h1, fun j c hj => ?_⟩
    have := h2 j c hj
    rw [addr_add, addr_add] at this
    exact this⟩
theorem flat_of_pieces {α : Type} [Rp P α] {m : Snap} : ∀ (n : Nat) (cs : List Value), cs.length = n * Rp.sz P α → (∀ i, i < n → ∃ y : α, Rp.rel P m ((cs.drop (i * Rp.sz P α)).take (Rp.sz P α)) y) → ∃ ys : List α, ys.length = n ∧ flatRel (P := P) m cs ys
  | 0, cs, hl, _ => ⟨[], rfl, List.eq_nil_of_length_eq_zero (by simpa using hl)⟩
  | n + 1, cs, hl, h => by
    obtain ⟨y, hy⟩ := h 0 (by omega)
    rw [Nat.zero_mul, List.drop_zero] at hy
    have hl' : (cs.drop (Rp.sz P α)).length = n * Rp.sz P α := by rw [List.length_drop, hl, Nat.succ_mul]; omega
    have h' : ∀ i, i < n → ∃ y : α, Rp.rel P m (((cs.drop (Rp.sz P α)).drop (i * Rp.sz P α)).take (Rp.sz P α)) y := fun i hi => by
      obtain ⟨y, hy⟩ := h (i + 1) (by omega)
      refine ⟨y, ?_⟩
      rw [List.drop_drop]
      rwa [Nat.succ_mul, Nat.add_comm] at hy
    obtain ⟨ys, h1, h2⟩ := flat_of_pieces n _ hl' h'
    exact ⟨y :: ys, by simp [h1], _, _, (List.take_append_drop _ _).symm, hy, h2⟩
theorem rd_arr {t e n : Nat} {α : Type} [Rp P α] (h : P.underlying t = some (.array n e)) (hc : P.cellsOf t = n * Rp.sz P α) (he : RdT P e α) : RdT P t (Vector α n) := ⟨hc, fun {H enc w sp held fuel cs x} hx => by
  obtain ⟨xs, k, _, _, hl, hxl, hi⟩ := DataW.trod_array h hx
  obtain ⟨ys, h1, h2⟩ := flat_of_pieces (P := P) (α := α) (m := sn w) n cs (by rw [hl, hc]) fun i hin => by
    have := hi i hin
    rw [List.getElem?_eq_getElem (by omega), he.cells] at this
    exact he.rd this
  exact ⟨⟨ys.toArray, by simpa using h1⟩, by simpa [Rp.rel] using h2⟩⟩
/-- The fields of a struct, one behind the other. -/
theorem rd_cons {α δ : Type} [Rp P α] [Rp P δ] {m : Snap} {cs : List Value} {off s : Nat} (h1 : ∃ x : α, Rp.rel P m ((cs.drop off).take s) x) (h2 : ∃ y : δ, Rp.rel P m (cs.drop (off + s)) y) : ∃ p : α × δ, Rp.rel P m (cs.drop off) p := by
  obtain ⟨x, hx⟩ := h1
  obtain ⟨y, hy⟩ := h2
  exact ⟨(x, y), _, _, by rw [← List.drop_drop]; exact (List.take_append_drop _ _).symm, hx, hy⟩
theorem rd_last {α : Type} [Rp P α] {m : Snap} {cs : List Value} {off s : Nat} (hl : cs.length = off + s) (h1 : ∃ x : α, Rp.rel P m ((cs.drop off).take s) x) : ∃ x : α, Rp.rel P m (cs.drop off) x := by
  rwa [List.take_of_length_le (by rw [List.length_drop]; omega)] at h1
theorem rd_struct {t : TypeId} {fs : Array Field} {σ : Type} [Rp P σ] (h : P.underlying t = some (.struct fs)) (hc : P.cellsOf t = Rp.sz P σ)
    (hp : ∀ (w : World) (cs : List Value), cs.length = P.cellsOf t → (∀ (i : Nat) (f : Field) (α : Type) (inst : Rp P α), fs[i]? = some f → RdT P f.type α → ∃ x : α, Rp.rel P (sn w) ((cs.drop f.offset).take (Rp.sz P α)) x) → ∃ y : σ, Rp.rel P (sn w) cs y) : RdT P t σ := ⟨hc, fun {H enc w sp held fuel cs x} hx => by
  obtain ⟨xs, k, _, _, hl, hxl, hf⟩ := DataW.trod_struct h hx
  refine hp w cs hl fun i f α inst hif hr => ?_
  have h1 := hf i f hif
  have hi : i < fs.size := by
    rcases Nat.lt_or_ge i fs.size with h | h
    · exact h
    · rw [Array.getElem?_eq_none h] at hif; cases hif
  rw [List.getElem?_eq_getElem (by rw [hxl]; exact hi), hr.cells] at h1
  exact hr.rd h1⟩
theorem rd_via {σ τ : Type} [Rp P τ] {m : Snap} {cs : List Value} (to : σ → τ) (back : τ → σ) (hb : ∀ x, to (back x) = x) (h : ∃ x : τ, Rp.rel P m (cs.drop 0) x) : ∃ y : σ, Rp.rel P m cs (to y) := by
  obtain ⟨x, hx⟩ := h
  exact ⟨back x, by rw [hb]; simpa using hx⟩
/-- A value of a type of parts that reads stands for a datum. -/
theorem vrel_agg {α : Type} [Rp P α] {t : TypeId} (hr : RdT P t α) (hagg : Rp.agg P α = true) {H : Type} {enc : TypeId × Value → H} {w : World} {sp : Nat → Bool} {held : Bool} {base : Nat} {v : Value} {d : DataW H} {ps : List MemPlace}
    (hu : (match P.underlying t with | some (.struct _) => true | some (.array _ _) => true | _ => false) = true) (hv : Value.okWide P w .any base t v) (h : DataW.Trod enc P w 0 sp held t v d ps) : ∃ y : α, vrel (P := P) (sn w) v y := by
  obtain ⟨fuel, hf⟩ := h
  obtain ⟨y, hy⟩ := hr.rd hf
  refine ⟨y, hy, ?_⟩
  rw [hagg]
  have : ∃ cs, v = .agg cs := by
    unfold Value.okWide at hv
    split at hv
    · exact let ⟨cs, h, _⟩ := hv; ⟨cs, h⟩
    · exact let ⟨cs, h, _⟩ := hv; ⟨cs, h⟩
    · rename_i h1 h2
      split at hu
      · rename_i fs he; exact absurd he (h1 _)
      · rename_i n e he; exact absurd he (h2 _ _)
      · cases hu
  obtain ⟨cs, rfl⟩ := this
  rfl
/-- A law's whole walk, as the statement's frame wants it. -/
theorem law_walk {f : FuncId} {args : List (AV P)} {vs : List Value} {w : World} (h : Fn P f args (.d true)) (hv : AllHold (P := P) (sn w) vs args) : Calls P f vs.toArray w fun e w' => e = .returned (.bool true) ∧ Below w.heap.size w w' :=
  (h (sn w) w vs (fun _ _ _ h => h) hv).mono fun e w' ⟨v, m', he, hx, _, _, _, hb⟩ => ⟨by rw [he]; exact congrArg _ (bool_of (P := P) (m := m') hx), hb⟩
end Go.Ph
