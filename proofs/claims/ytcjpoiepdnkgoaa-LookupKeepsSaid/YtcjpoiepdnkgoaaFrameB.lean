/- WHAT IS PROVED: part of the proof that posthouselaw11.LookupKeeps returns true at every input and leaves its arguments alone. CONDITIONS: none beyond the row. -/
import Derived.Test.YtcjpoiepdnkgoaaFrameA
import Derived.RangeFuncSeq
import Derived.RangeFuncRecord
import Derived.RangeFuncIn
/-! Rows of the call's own: append, places, stores. -/
namespace Go.Ph
universe u
open Go.RowKit (Below)
variable {P : Program}
/-- What named the row says nothing any more. -/
def AV.drop (d : Nat) (x : AV P) : AV P := bif x.goff d then x else .any
def dropAll (d : Nat) : List (Nat × AV P) → List (Nat × AV P)
  | [] => []
  | (k, z) :: r => (k, z.drop d) :: dropAll d r
theorem lk_drop {d : Nat} : ∀ {sl : List (Nat × AV P)} {t : Nat} {x : AV P}, lk (dropAll d sl) t = some x → ∃ z, lk sl t = some z ∧ x = z.drop d
  | [], _, _, h => by simp [dropAll, lk] at h
  | (k, z) :: r, t, x, h => by
    simp only [dropAll] at h
    by_cases e : k = t
    · subst e
      rw [lk_cons_eq rfl] at h; cases h
      exact ⟨z, lk_cons_eq rfl, rfl⟩
    · rw [lk_cons_ne e] at h
      obtain ⟨z', h1, h2⟩ := lk_drop h
      exact ⟨z', by rw [lk_cons_ne e]; exact h1, h2⟩
theorem lk_drop_of {d : Nat} : ∀ {sl : List (Nat × AV P)} {t : Nat} {x : AV P}, lk sl t = some x → lk (dropAll d sl) t = some (x.drop d)
  | [], _, _, h => by simp [lk] at h
  | (k, z) :: r, t, x, h => by
    simp only [dropAll]
    by_cases e : k = t
    · subst e
      rw [lk_cons_eq rfl] at h; cases h
      exact lk_cons_eq rfl
    · rw [lk_cons_ne e] at h
      rw [lk_cons_ne e]; exact lk_drop_of h
section ops
variable {K : Cx} {s : St P} {ops : Array Oper} {Q : Exit → Act → World → Prop} {rest : List Oper} {d nm : Nat} {t t' t'' ty : TypeId} {pos : String} {aft : Array Edge} {g : Option (Nat × Bool)} {dst : Option Tmp} {o o' o'' : Operand}
  {m : Snap} {β : Nat → Nat} {γ : Nat → Value} {κ : Nat → List Value} {B : Bs P} {w : World} {a : Act} {sl : List (Nat × AV P)} {bx : List (Nat × BV P)} {gr : List (Nat × GV P)} {ti : List ((Nat × Nat) × Nat)}
theorem AH.dropg {v0 : Value} (h : AH K m β γ sl a) : AH K m β (upd γ d v0) (dropAll d sl) a := by
  refine ⟨h.defers, h.size, fun t x hx => ?_⟩
  obtain ⟨z, hz, rfl⟩ := lk_drop hx
  obtain ⟨v, hv, hh⟩ := h.slot t z hz
  refine ⟨v, hv, ?_⟩
  unfold AV.drop
  cases hg : z.goff d with
  | true => exact AV.holds_goff hg hh
  | false => trivial
/-- A private row grows. -/
theorem WH.appendP {α : Type} [Rp P α] {e : TypeId} {xs ys : List α} {cs0 news : List Value} {v' : Value} {w' : World} (h : WH K m β γ κ B w) (hg : lk B.gr nm = some ⟨e, xs⟩)
    (hcs : flatRel (P := P) m cs0 xs) (hnone : ∀ b, (γ nm).ownBlock = some b → ∀ i, m b i = none) (hpr : priv nm = true) (hpg : K.ping nm = none)
    (hown' : w'.ownsRow K.B0 e (Rp.sz P α) v' (xs.length + ys.length) (cs0 ++ news)) (hnews : flatRel (P := P) m news ys) (hgr : w.grownBy w' (γ nm).ownBlock) (hbig : xs.length + ys.length ≤ 1048576)
    (hway : v'.ownBlock = (γ nm).ownBlock ∨ w.grownBy w' none ∧ ∀ b, v'.ownBlock = some b → w.heap.size ≤ b) :
    WH K m β (upd γ nm v') κ ⟨B.bx, (nm, (⟨e, xs ++ ys⟩ : GV P)) :: B.gr, Ph.tiN nm B.ti⟩ w' := by
  have hfresh : ∀ b, v'.ownBlock = some b → (γ nm).ownBlock = some b ∨ w.heap.size ≤ b := fun b hb => by
    rcases hway with h1 | ⟨_, h2⟩
    · exact .inl (h1 ▸ hb)
    · exact .inr (h2 b hb)
  have hsame : ∀ b, b < w.heap.size → v'.ownBlock ≠ some b → w'.heap[b]? = w.heap[b]? := fun b hb hne => by
    rcases hway with h1 | ⟨h2, _⟩
    · exact hgr.block b hb (by rw [← h1]; exact Ne.symm hne)
    · exact h2.block b hb (by simp)
  have hlt : ∀ b i v, m b i = some v → b < w.heap.size := fun b i v hv => cell_lt (h.sees b i v hv)
  have hno : ∀ c i, v'.ownBlock = some c → m c i = none := fun c i hc => by
    rcases hfresh c hc with h1 | h1
    · exact hnone c h1 i
    · cases hv : m c i with
      | none => rfl
      | some v => have := hlt c i v hv; omega
  have hs' : ∀ c i v, m c i = some v → w'.cell? ⟨c, i, none⟩ = some v := fun c i v hv => by
    rw [World.cell?_of_block (w := w) (hsame c (hlt c i v hv) (fun e => by rw [hno c i e] at hv; cases hv))]; exact h.sees c i v hv
  refine ⟨hs', h.le, h.new, fun y bv hy => ?_, h.inj, fun y gv hy => ?_, fun y z gv bv hy hz => ?_, fun y z gy gz b hy hz hne hb => ?_, fun q hq => ?_, ?_⟩
  · obtain ⟨⟨T, hT⟩, hr, hB', hn'⟩ := h.box y bv hy
    have hlty : β y < w.heap.size := by
      rcases Nat.lt_or_ge (β y) w.heap.size with hl | hl
      · exact hl
      · rw [Array.getElem?_eq_none hl] at hT; cases hT
    have hne : v'.ownBlock ≠ some (β y) := fun hb => by
      rcases hfresh _ hb with h1 | h1
      · exact h.gbox nm y _ bv hg hy h1
      · omega
    exact ⟨⟨T, by rw [hsame _ hlty hne]; exact hT⟩, hr, hB', hn'⟩
  · by_cases e' : y = nm
    · subst e'
      rw [lk_cons_eq rfl] at hy; cases hy
      rw [upd_eq]
      exact ⟨⟨cs0 ++ news, by simpa using hown', flat_append hcs hnews, fun b hb => ⟨(fun e => by rw [hpr] at e; cases e), fun _ i => hno b i hb⟩⟩, by simpa using hbig⟩
    · rw [lk_cons_ne (Ne.symm e')] at hy
      rw [upd_ne e']
      have hgy := h.grow y gv hy
      have hne : ∀ b, (γ y).ownBlock = some b → v'.ownBlock ≠ some b := fun b hb hb' => by
        rcases hfresh _ hb' with h1 | h1
        · exact h.ginj y nm gv _ b hy hg e' hb h1
        · have := hgy.lt hb; omega
      exact hgy.keep (fun b hb => hsame b (hgy.lt hb) (hne b hb)) (Snap.le_refl _) fun _ _ _ h => h
  · by_cases e' : y = nm
    · subst e'
      rw [upd_eq]
      intro hb
      obtain ⟨⟨T, hT⟩, _⟩ := h.box z bv hz
      rcases hfresh _ hb with h1 | h1
      · exact h.gbox y z _ bv hg hz h1
      · rw [Array.getElem?_eq_none h1] at hT; cases hT
    · rw [lk_cons_ne (Ne.symm e')] at hy
      rw [upd_ne e']; exact h.gbox y z gv bv hy hz
  · by_cases e1 : y = nm
    · subst e1
      rw [upd_eq] at hb
      have e2 : z ≠ y := Ne.symm hne
      rw [lk_cons_ne (Ne.symm e2)] at hz
      rw [upd_ne e2]
      intro hz'
      rcases hfresh _ hb with h1 | h1
      · exact h.ginj z y gz _ b hz hg e2 hz' h1
      · have := (h.grow z gz hz).lt hz'; omega
    · rw [lk_cons_ne (Ne.symm e1)] at hy
      rw [upd_ne e1] at hb
      by_cases e2 : z = nm
      · subst e2
        rw [upd_eq]
        intro hz'
        rcases hfresh _ hz' with h1 | h1
        · exact h.ginj y z gy _ b hy hg e1 hb h1
        · have := (h.grow y gy hy).lt hb; omega
      · rw [lk_cons_ne (Ne.symm e2)] at hz
        rw [upd_ne e2]
        exact h.ginj y z gy gz b hy hz hne hb
  · obtain ⟨h1, h2⟩ := tiN_mem q hq; rw [upd_ne h2]; exact h.tie q h1
  · refine h.go hgr.os hgr.tape hgr.output hgr.size (fun k hk hne => hgr.block k hk (fun e => hne (.inr ⟨nm, _, hg, e.symm⟩))) (Snap.le_refl _) (fun _ _ _ h => .inl h) hs' ?_ (hp := fun _ _ _ h => h) (hg := fun n v hn e => by rw [upd_ne (fun e2 => by subst e2; rw [hpg] at hn; cases hn)]; exact e)
    rintro b (hb | ⟨x, gv, h1, h2⟩)
    · exact .inl (.inl hb)
    · by_cases e : x = nm
      · subst e
        rw [upd_eq] at h2
        rcases hfresh b h2 with h3 | h3
        · exact .inl (.inr ⟨x, _, hg, h3⟩)
        · exact .inr h3
      · rw [lk_cons_ne (Ne.symm e)] at h1; rw [upd_ne e] at h2; exact .inl (.inr ⟨x, gv, h1, h2⟩)
/-- append, to a row of either kind: what named it says nothing any more. -/
theorem TL_appendC {α : Type} [Rp P α] {e : TypeId} {xs ys zs : List α} (hx : Ev K s o (.g nm)) (hg : lk s.B.gr nm = some ⟨e, xs⟩) (hy : Ev K s o' (.d ys)) (hz : app xs ys = some zs) (ht : TyEl P t e α)
    (k : TL K ⟨(d, .g nm) :: dropAll nm s.sl, ⟨s.B.bx, (nm, ⟨e, zs⟩) :: s.B.gr, tiN nm s.B.ti⟩⟩ ops Q rest) (hd : Nat.ble (d + 1) K.n = true := by rfl) (hpg : K.ping nm = none := by rfl) :
    TL K s ops Q (⟨some d, .call ⟨.builtin .append, #[o, o'], #[t, t]⟩, ty, pos, aft, none⟩ :: rest) := by
  obtain ⟨rfl, hbig⟩ := app_some hz
  intro m β γ κ a w ha hw
  have hd' : d < K.n := Nat.le_of_ble_eq_true hd
  obtain ⟨i, z, hi, hz0, hs, hzs, hby⟩ := ht.info
  have e1 : a.eval o = γ nm := hx m β γ a ha
  obtain ⟨⟨ad, cap, e2, _, hel⟩, _⟩ := list_of (P := P) (hy m β γ a ha)
  obtain ⟨⟨cs0, hown, hcs, hpre0⟩, _⟩ := hw.grow nm _ hg
  have hB : K.B0 ≤ w.heap.size := hw.jj.2.1
  have both : ∀ {v' : Value} {w' : World} {news : List Value}, w'.ownsRow K.B0 e (Rp.sz P α) v' (xs.length + ys.length) (cs0 ++ news) → flatRel (P := P) m news ys → w.grownBy w' (γ nm).ownBlock →
      (v'.ownBlock = (γ nm).ownBlock ∨ w.grownBy w' none ∧ ∀ b, v'.ownBlock = some b → w.heap.size ≤ b) →
      ∃ m', Snap.le m m' ∧ WH K m' β (upd γ nm v') κ ⟨s.B.bx, (nm, (⟨e, xs ++ ys⟩ : GV P)) :: s.B.gr, Ph.tiN nm s.B.ti⟩ w' := by
    intro v' w' news h1 h2 h3 h4
    cases hpr : priv nm with
    | false => exact hw.append hg hown hcs (fun b hb => (hpre0 b hb).1 hpr) hpr hpg h1 h2 h3 hbig h4
    | true => exact ⟨m, Snap.le_refl _, hw.appendP hg hcs (fun b hb => (hpre0 b hb).2 hpr) hpr hpg h1 h2 h3 hbig h4⟩
  refine wpL_of (show Region.wanted _ _ = true from rfl) (by intro _ e; cases e) ?_
  by_cases hye : ys = []
  · subst hye
    have hr := run_append_empty (P := P) (ty := ty) (ad := ad) (cap := cap) ht.un hi hown
    have hrun : (execOp a.eval ⟨some d, .call ⟨.builtin .append, #[o, o'], #[t, t]⟩, ty, pos, aft, none⟩).run P w = .ok (.value (γ nm)) w := by
      simp [execOp, resolve, invoke, builtin, e1, e2]
      rw [List.length_nil] at e2
      simp [hr]
    unfold Oper.wp
    rw [hrun]
    obtain ⟨m', hle, hw'⟩ := both (v' := γ nm) (w' := w) (news := []) (by simpa using hown) rfl ⟨rfl, rfl, rfl, Nat.le_refl _, fun _ _ _ => rfl⟩ (.inl rfl)
    exact k m' β _ κ _ w (((ha.mono hle).dropg).put hd' (by show _ = _; rw [upd_eq])) hw'
  · obtain ⟨b, off, rfl, hm⟩ := hel hye
    obtain ⟨news, hnf, hnc⟩ := slice_cells (P := P) (m := m) (b := b) (off := off) (ys := ys) (k := 0) (fun i x hx => by
      obtain ⟨cs, h1, h2⟩ := hm i x hx
      exact ⟨cs, h1, fun j c hj => by simpa using h2 j c hj⟩)
    have hnl := hnf.length
    obtain ⟨v', w', hr, ho', hgr, hway⟩ := run_append2 (P := P) (ty := ty) (w := w) (c := cap) (ad := ⟨b, off, none⟩) ht.un hi hz0 hs rfl hzs ht.pos hown hnl (fun j u hj => by
      rw [addr_add]
      have := hnc j u hj
      exact hw.sees _ _ _ (by simpa using this)) hnf.ok hbig hby hB
    have hrun : (execOp a.eval ⟨some d, .call ⟨.builtin .append, #[o, o'], #[t, t]⟩, ty, pos, aft, none⟩).run P w = .ok (.value v') w' := by
      simp [execOp, resolve, invoke, builtin, e1, e2, hr]
    unfold Oper.wp
    rw [hrun]
    obtain ⟨m', hle, hw'⟩ := both ho' hnf hgr hway
    exact k m' β _ κ _ w' (((ha.mono hle).dropg).put hd' (by show _ = _; rw [upd_eq])) hw'
/-- append, and the row is not kept: what comes of it is a datum. -/
theorem TL_append_t {α : Type} [Rp P α] {e : TypeId} {xs ys zs : List α} (hx : Ev K s o (.g nm)) (hg : lk s.B.gr nm = some ⟨e, xs⟩) (hy : Ev K s o' (.d ys)) (hz : app xs ys = some zs) (ht : TyEl P t e α)
    (k : TL K ⟨(d, .d zs) :: dropAll nm s.sl, ⟨s.B.bx, (nm, ⟨e, zs⟩) :: s.B.gr, tiN nm s.B.ti⟩⟩ ops Q rest) (hd : Nat.ble (d + 1) K.n = true := by rfl) (hpg : K.ping nm = none := by rfl) (hpr : priv nm = false := by rfl) :
    TL K s ops Q (⟨some d, .call ⟨.builtin .append, #[o, o'], #[t, t]⟩, ty, pos, aft, none⟩ :: rest) := by
  refine TL_appendC hx hg hy hz ht ?_ hd hpg
  refine TL_g2d (q := d) (lk_cons_eq rfl) (lk_cons_eq rfl) ?_ hpr
  refine TL_le (s' := ⟨(d, .d zs) :: dropAll nm s.sl, ⟨s.B.bx, (nm, ⟨e, zs⟩) :: s.B.gr, tiN nm s.B.ti⟩⟩) ⟨fun t x hx => ?_, fun _ _ h => h, fun _ _ h => h, fun _ h => h⟩ k
  change lk ((d, _) :: dropAll nm s.sl) t = _ at hx
  by_cases e : d = t
  · subst e
    rw [lk_cons_eq rfl] at hx; cases hx
    exact lk_cons_eq rfl
  · rw [lk_cons_ne e] at hx
    show lk ((d, _) :: (d, _) :: dropAll nm s.sl) t = _
    rw [lk_cons_ne e, lk_cons_ne e]; exact hx
/-! ### Places in a row -/
theorem row_at {α : Type} [Rp P α] {e : TypeId} {xs : List α} (hw : WH K m β γ κ B w) (hg : lk B.gr nm = some ⟨e, xs⟩) (hne : xs ≠ []) :
    ∃ b cap cur cs, γ nm = .slice (some ⟨b, 0, none⟩) xs.length cap ∧ xs.length ≤ cap ∧ w.heap[b]? = some (.cells cur e (0, 0)) ∧ cur.size = cap * Rp.sz P α ∧ cur.toList.take (xs.length * Rp.sz P α) = cs ∧ flatRel (P := P) m cs xs ∧ K.B0 ≤ b ∧ cap ≤ maxLen := by
  obtain ⟨⟨cs, ⟨hl, hown⟩, hf, _⟩, _⟩ := hw.grow nm _ hg
  rcases hown with ⟨_, h0⟩ | ⟨b, cap, cur, h1, h2, h3, h4, h5, h6, h7⟩
  · exact absurd (List.eq_nil_of_length_eq_zero h0) hne
  · exact ⟨b, cap, cur, cs, h1, h4, h3, h6, h7, hf, h2, h5⟩
theorem ix_lt {α : Type} {xs : List α} {i : Int} {y : α} (h : ix xs i = some y) : i.toNat < xs.length := by
  have := (ix_some h).2
  rcases Nat.lt_or_ge i.toNat xs.length with h | h
  · exact h
  · rw [List.getElem?_eq_none h] at this; cases this
theorem ne_of_lt {α : Type} {xs : List α} {i : Nat} (h : i < xs.length) : xs ≠ [] := by intro e; subst e; simp at h
theorem y_index_ge {α : Type} [Rp P α] {e : TypeId} {xs : List α} {i : Int} (hx : Ev K s o (.g nm)) (hi : Ev K s o' (.d i)) (hg : lk s.B.gr nm = some ⟨e, xs⟩) (h0 : 0 ≤ i) (hlt : i.toNat < xs.length) (ht : TySl P t α) :
    Y K s ⟨dst, .indexAddr t o o', ty, pos, aft, g⟩ (.ge (P := P) nm (i.toNat * Rp.sz P α)) := by
  refine Y.of_run fun m β γ κ a ha ⟨w0, hw0⟩ => ?_
  obtain ⟨b, cap, cur, cs, h1, _⟩ := row_at hw0 hg (ne_of_lt hlt)
  have e1 : a.eval o = γ nm := hx m β γ a ha
  have ei := (int_of (P := P) (hi m β γ a ha)).1
  refine ⟨.pointer (some ⟨b, i.toNat * Rp.sz P α, none⟩), ⟨b, by rw [h1]; rfl, rfl⟩, fun w _ => ?_⟩
  simp only [execOp, e1, h1, ei]
  have := run_indexAt_slice (P := P) w t ⟨b, 0, none⟩ xs.length cap .i64 i ht.un
  rw [if_pos ⟨h0, by omega⟩, ht.size] at this
  simp only [Result.andThen_ok, addr_add, Nat.zero_add] at this
  simp [this]
theorem y_len_g {α : Type} [Rp P α] {e : TypeId} {xs : List α} (hx : Ev K s o (.g nm)) (hg : lk s.B.gr nm = some ⟨e, xs⟩) (ht : P.underlying t = some (.slice (P.elem t))) :
    Y K s ⟨dst, .call ⟨.builtin .len, #[o], #[t]⟩, ty, pos, aft, g⟩ (.d (P := P) (xs.length : Int)) := by
  refine Y.of_run fun m β γ κ a ha ⟨w0, hw0⟩ => ?_
  obtain ⟨⟨cs, hown, hf, _⟩, hbig⟩ := hw0.grow nm _ hg
  have hbig' : xs.length ≤ 1048576 := hbig
  have e1 : a.eval o = γ nm := hx m β γ a ha
  obtain ⟨ad, cap, h1⟩ : ∃ ad cap, γ nm = .slice ad xs.length cap := by
    rcases hown.2 with ⟨h1, h2⟩ | ⟨b, cap, cur, h1, _⟩
    · exact ⟨none, 0, by rw [h1]; have h2 : xs.length = 0 := h2; rw [h2]⟩
    · exact ⟨_, _, h1⟩
  refine ⟨.int .i64 xs.length, vint m (by omega), fun w _ => ?_⟩
  simp only [execOp, resolve]
  have := run_len_slice (P := P) w t ty ad xs.length cap ht
  simp [e1, h1, invoke, builtin, this, goInt]
theorem run_load_ge {α δ : Type} [Rp P α] [Rp P δ] {e : TypeId} {xs : List α} {x : α} {i off : Nat} {get : α → δ} (hw : WH K m β γ κ B w) {b : Nat} (hb : (γ nm).ownBlock = some b) (hg : lk B.gr nm = some ⟨e, xs⟩) (hx : xs[i]? = some x) (hs : Sub P off get) (ht : Ty P t δ) :
    ∃ v, vrel (P := P) m v (get x) ∧ (Instr.loadAt t (.pointer (some ⟨b, i * Rp.sz P α + off, none⟩))).run P w = .ok v w := by
  obtain ⟨⟨cs, hown, hf, _⟩, _⟩ := hw.grow nm _ hg
  have hr0 := flat_get hf hx
  have hr := hs.sub hr0
  refine ⟨_, vrel_mkV hr, run_loadAt ht hr fun j c hj => ?_⟩
  have h1 : cs[i * Rp.sz P α + off + j]? = some c := by
    simp only [List.getElem?_take, List.getElem?_drop] at hj
    split at hj
    · split at hj
      · rw [← hj]; congr 1; omega
      · cases hj
    · cases hj
  have := hown.cells (g := b) hb _ c h1
  rwa [addr_add, Nat.zero_add] at this
theorem y_load_ge {α δ : Type} [Rp P α] [Rp P δ] [Flat P δ] {e : TypeId} {xs : List α} {x : α} {i off : Nat} {get : α → δ} (hp : Ev K s o (.ge nm (i * Rp.sz P α + off))) (hg : lk s.B.gr nm = some ⟨e, xs⟩) (hx : xs[i]? = some x) (hs : Sub P off get) (ht : Ty P t δ) :
    Y K s ⟨dst, .load t o, ty, pos, aft, g⟩ (.d (P := P) (get x)) := by
  refine Y.of_run fun m β γ κ a ha ⟨w0, hw0⟩ => ?_
  obtain ⟨b, hb, e1⟩ := hp m β γ a ha
  obtain ⟨v0, hv0, _⟩ := run_load_ge hw0 hb hg hx hs ht
  refine ⟨v0, hv0, fun w hw => ?_⟩
  obtain ⟨v, hv, hr⟩ := run_load_ge hw hb hg hx hs ht
  rw [Flat.one hv0 hv] at hr
  simp [execOp, e1, hr]
theorem TL_load_ge {α δ : Type} [Rp P α] [Rp P δ] {e : TypeId} {xs : List α} {x : α} {i off : Nat} {get : α → δ} (hp : Ev K s o (.ge nm (i * Rp.sz P α + off))) (hg : lk s.B.gr nm = some ⟨e, xs⟩) (hx : xs[i]? = some x) (hs : Sub P off get) (ht : Ty P t δ)
    (k : TL K (s.put d (.d (get x))) ops Q rest) (hd : Nat.ble (d + 1) K.n = true := by rfl) : TL K s ops Q (⟨some d, .load t o, ty, pos, aft, none⟩ :: rest) := by
  intro m β γ κ a w ha hw
  have hd' : d < K.n := Nat.le_of_ble_eq_true hd
  obtain ⟨b, hb, e1⟩ := hp m β γ a ha
  obtain ⟨v, hv, hr⟩ := run_load_ge hw hb hg hx hs ht
  refine wpL_of (show Region.wanted _ _ = true from rfl) (by intro _ e; cases e) ?_
  have hrun : (execOp a.eval ⟨some d, .load t o, ty, pos, aft, none⟩).run P w = .ok (.value v) w := by simp [execOp, e1, hr]
  unfold Oper.wp
  rw [hrun]
  exact k m β γ κ _ w (ha.put hd' hv) hw
theorem flat_put {α : Type} [Rp P α] {m : Snap} : ∀ {xs : List α} {cs ds : List Value} {i : Nat} {y : α}, flatRel (P := P) m cs xs → i < xs.length → Rp.rel P m ds y → flatRel (P := P) m (cs.take (i * Rp.sz P α) ++ ds ++ cs.drop (i * Rp.sz P α + ds.length)) (xs.set i y)
  | [], _, _, _, _, _, h, _ => by simp at h
  | x :: xs, cs, ds, 0, y, ⟨a, b, e, h, r⟩, _, hd => by
    refine ⟨ds, b, ?_, hd, r⟩
    have h1 := Rp.len h; have h2 := Rp.len hd
    rw [e, Nat.zero_mul, List.take_zero, List.nil_append, Nat.zero_add, h2, ← h1, List.drop_left]
  | x :: xs, cs, ds, i + 1, y, ⟨a, b, e, h, r⟩, hi, hd => by
    have ih := flat_put (i := i) (y := y) r (by simpa using hi) hd
    refine ⟨a, _, ?_, h, ih⟩
    have h1 := Rp.len h
    rw [e, Nat.add_mul, Nat.one_mul, Nat.add_comm (i * Rp.sz P α), ← h1]
    rw [List.take_append, List.take_of_length_le (by omega), Nat.add_sub_cancel_left, Nat.add_assoc, ← List.drop_drop, List.drop_left]
    simp
/-- A store into a private row. -/
theorem WH.rstore {α : Type} [Rp P α] {e : TypeId} {xs : List α} {y : α} {ds : List Value} {i b cap : Nat} {cur : Array Value} (h : WH K m β γ κ B w) (hg : lk B.gr nm = some ⟨e, xs⟩) (hpr : priv nm = true) (hi : i < xs.length)
    (hr : Rp.rel P m ds y) (h1 : γ nm = .slice (some ⟨b, 0, none⟩) xs.length cap) (h2 : w.heap[b]? = some (.cells cur e (0, 0))) :
    WH K m β γ κ ⟨B.bx, (nm, (⟨e, xs.set i y⟩ : GV P)) :: B.gr, B.ti⟩ (w.setRow b (cur.toList.take (i * Rp.sz P α) ++ ds ++ cur.toList.drop (i * Rp.sz P α + ds.length)).toArray) := by
  have hb : (γ nm).ownBlock = some b := by rw [h1]; rfl
  obtain ⟨⟨cs, ⟨hl, hown⟩, hf, hno⟩, hbig⟩ := h.grow nm _ hg
  have hnone : ∀ i, m b i = none := (hno b hb).2 hpr
  have hbig' : xs.length ≤ 1048576 := hbig
  obtain ⟨g, cap', cur', e1, e2, e3, e4, e5, e6, e7⟩ := hown.resolve_left (fun h => by rw [h1] at h; exact absurd h.1 (by simp))
  rw [h1] at e1
  simp only [Value.slice.injEq, Option.some.injEq, Addr.mk.injEq, and_true, true_and] at e1
  obtain ⟨rfl, rfl⟩ := e1
  rw [h2] at e3
  simp only [Option.some.injEq, Obj.cells.injEq, and_true] at e3
  subst e3
  have hother : ∀ k, k ≠ b → (w.setRow b (cur.toList.take (i * Rp.sz P α) ++ ds ++ cur.toList.drop (i * Rp.sz P α + ds.length)).toArray).heap[k]? = w.heap[k]? := fun k hne => setRow_other w _ k _ hne
  have hs' : ∀ c j v, m c j = some v → (w.setRow b (cur.toList.take (i * Rp.sz P α) ++ ds ++ cur.toList.drop (i * Rp.sz P α + ds.length)).toArray).cell? ⟨c, j, none⟩ = some v := fun c j v hv => by
    have hne : c ≠ b := fun e => by subst e; rw [hnone] at hv; cases hv
    have := h.sees c j v hv
    unfold World.cell? at this ⊢
    rw [hother c hne]; exact this
  have hdl := Rp.len hr
  have hlen : xs.length * Rp.sz P α ≤ cur.size := by rw [e6]; exact Nat.mul_le_mul_right _ e4
  have hin : i * Rp.sz P α + ds.length ≤ xs.length * Rp.sz P α := by rw [hdl, ← Nat.succ_mul]; exact Nat.mul_le_mul_right _ hi
  have hgz : (⟨e, xs⟩ : GV P).i.sz = Rp.sz P α := rfl
  refine ⟨hs', h.le, h.new, fun y' bv hy => ?_, h.inj, fun y' gv hy => ?_, fun y' z gv bv hy hz => ?_, fun y' z gy gz c hy hz hne hc => ?_, h.tie, ?_⟩
  · obtain ⟨⟨T, hT⟩, r⟩ := h.box y' bv hy
    exact ⟨⟨T, by rw [hother _ (fun e => h.gbox nm y' _ bv hg hy (by rw [hb, e]))]; exact hT⟩, r⟩
  · by_cases e' : y' = nm
    · subst e'
      rw [lk_cons_eq rfl] at hy; cases hy
      refine ⟨⟨cs.take (i * Rp.sz P α) ++ ds ++ cs.drop (i * Rp.sz P α + ds.length), ⟨?_, .inr ⟨b, cap, _, by rw [h1]; simp, e2, setRow_heap w _ _ _ _ _ h2, by simpa using e4, e5, ?_, ?_⟩⟩, flat_put hf hi hr, fun c hc => ⟨(fun e => by rw [hpr] at e; cases e), fun _ j => ?_⟩⟩, by simpa using hbig'⟩
      · have := (flat_put hf hi hr).length
        simpa using this
      · rw [List.size_toArray, List.length_append, List.length_append, List.length_take, List.length_drop, ← e6]
        simp only [Array.length_toList]
        omega
      · have hcs : cs = cur.toList.take (xs.length * Rp.sz P α) := by rw [← e7]
        rw [hcs]
        simp only [List.length_set]
        have hA : (cur.toList.take (i * Rp.sz P α) ++ ds).length = i * Rp.sz P α + ds.length := by rw [List.length_append, List.length_take, Array.length_toList]; omega
        show (cur.toList.take (i * Rp.sz P α) ++ ds ++ cur.toList.drop (i * Rp.sz P α + ds.length)).take (xs.length * Rp.sz P α) = _
        rw [List.take_append, hA, List.take_of_length_le (by rw [hA]; exact hin), List.take_take, Nat.min_eq_left (by omega), List.drop_take]
      · rw [hb] at hc; cases hc; exact hnone j
    · rw [lk_cons_ne (Ne.symm e')] at hy
      exact (h.grow y' gv hy).keep (fun c hc => hother c (fun e => by subst e; exact h.ginj y' nm gv _ c hy hg e' hc hb)) (Snap.le_refl _) fun _ _ _ h => h
  · by_cases e' : y' = nm
    · subst e'; exact h.gbox y' z _ bv hg hz
    · rw [lk_cons_ne (Ne.symm e')] at hy; exact h.gbox y' z gv bv hy hz
  · have f : ∀ q gq, lk ((nm, (⟨e, xs.set i y⟩ : GV P)) :: B.gr) q = some gq → ∃ gq', lk B.gr q = some gq' := fun q gq hq => by
      by_cases e : q = nm
      · subst e; exact ⟨_, hg⟩
      · rw [lk_cons_ne (Ne.symm e)] at hq; exact ⟨_, hq⟩
    obtain ⟨_, f1⟩ := f _ _ hy
    obtain ⟨_, f2⟩ := f _ _ hz
    exact h.ginj _ _ _ _ c f1 f2 hne hc
  · refine h.go rfl rfl rfl (by simp [World.setRow]) (fun k _ hne => hother k (fun e => hne (.inr ⟨nm, _, hg, by rw [hb, e]⟩))) (Snap.le_refl _) (fun _ _ _ h => .inl h) hs' ?_
    rintro c (hc | ⟨x, gv, f1, f2⟩)
    · exact .inl (.inl hc)
    · by_cases e : x = nm
      · subst e; exact .inl (.inr ⟨x, _, hg, f2⟩)
      · rw [lk_cons_ne (Ne.symm e)] at f1; exact .inl (.inr ⟨x, gv, f1, f2⟩)
theorem TL_store_ge {α : Type} [Rp P α] {e : TypeId} {xs : List α} {i : Nat} {y : α} (hp : Ev K s o (.ge nm (i * Rp.sz P α))) (hg : lk s.B.gr nm = some ⟨e, xs⟩) (hi : i < xs.length) (hy : Ev K s o' (.d y)) (ht : Ty P t α)
    (k : TL K ⟨s.sl, ⟨s.B.bx, (nm, ⟨e, xs.set i y⟩) :: s.B.gr, s.B.ti⟩⟩ ops Q rest) (hpr : priv nm = true := by rfl) :
    TL K s ops Q (⟨none, .store t o o', ty, pos, aft, none⟩ :: rest) := by
  intro m β γ κ a w ha hw
  obtain ⟨b, hb, e1⟩ := hp m β γ a ha
  obtain ⟨b', cap, cur, cs, h1, h2, h3, h4, h5, h6, _⟩ := row_at hw hg (ne_of_lt hi)
  have : b' = b := by rw [h1] at hb; simpa [Value.ownBlock] using hb
  subst this
  obtain ⟨hr, _⟩ := hy m β γ a ha
  have hlen := Rp.len hr
  have hin : i * Rp.sz P α + Rp.sz P α ≤ cur.size := by rw [h4, ← Nat.succ_mul]; exact Nat.mul_le_mul_right _ (by omega)
  refine wpL_of (show Region.wanted _ _ = true from rfl) (by intro _ e; cases e) ?_
  have hst := run_storeCells_at (P := P) b' (i * Rp.sz P α) e (a.eval o').cells.toList 0 cur w h3 (by omega) (Rp.ok hr)
  have hrun : (execOp a.eval ⟨none, .store t o o', ty, pos, aft, none⟩).run P w = .ok .skip (w.setRow b' (cur.toList.take (i * Rp.sz P α) ++ (a.eval o').cells.toList ++ cur.toList.drop (i * Rp.sz P α + (a.eval o').cells.toList.length)).toArray) := by
    have hsz : (a.eval o').cells.size = Rp.sz P α := by rw [← hlen]; simp
    simp only [execOp, e1, Instr.storeAt, Instr.sureAddr, storeVar, Sem.run_bind, Sem.run_pure, Result.andThen_ok, ht.size]
    rw [if_neg (by simp [hsz])]
    rw [hst]
    simp
  unfold Oper.wp
  rw [hrun]
  exact k m β γ κ _ _ ha (hw.rstore hg hpr hi hr h1 h3)
end ops
end Go.Ph
/-! Regions that draw their order, whose operations may call, allocate and store: what each has yielded by the time that another comes up. -/
namespace Go.Ph
universe u
variable {P : Program}
def Only (Kk : Act → World → Prop) : Exit → Act → World → Prop
  | .normal, a, w => Kk a w
  | _, _, _ => False
theorem wpIn_only {F : Fence} {n : Nat} {o : Oper} {a : Act} {w : World} {Kk : Act → World → Prop} {Q : Exit → Act → World → Prop} (h : o.wpIn F n P a w Kk (Only Kk)) : o.wpIn F n P a w Kk Q := by
  unfold Oper.wpIn at *
  refine ⟨h.1, ?_⟩
  have h := h.2
  generalize (o.semAt F.round a.eval).run P w = r at *
  cases r with
  | ok x w' =>
    cases x <;> simp only [Oper.uponIn] at h ⊢ <;>
      first
        | exact h
        | exact ⟨h.1, CallsIn.mono h.2 (fun e w'' he => by
            cases e with
            | returned v => exact he
            | panicked c => exact (he : False).elim
            | outgrown => obtain ⟨_, _, he⟩ := (he : LetsOut _); exact (he : False).elim)⟩
        | exact ⟨h.1, RoundIn.mono h.2 (fun e w'' he => by
            cases e with
            | returned v => exact he
            | panicked c => exact (he : False).elim
            | outgrown => obtain ⟨_, _, he⟩ := (he : LetsOut _); exact (he : False).elim)⟩
  | halt x w' => cases x <;> simp only [Oper.uponIn] at h ⊢ <;> exact (h : False).elim
theorem wpOp_of_TL {K : Cx} {s : St P} {ops : Array Oper} {Q : Exit → Act → World → Prop} {Kk : Act → World → Prop} {i : Nat} {o : Oper} (ho : ops[i]? = some o) (h : TL K s ops (Only Kk) [o])
    {m : Snap} {β : Nat → Nat} {γ : Nat → Value} {κ : Nat → List Value} {a : Act} {w : World} (ha : AH K m β γ s.sl a) (hw : WH K m β γ κ s.B w) : wpOpIn (fc K.rd) 0 P ops Q i Kk a w := by
  have h := h m β γ κ a w ha hw
  unfold wpOpIn
  simp only [ho]
  unfold wpListIn at h
  by_cases hwant : Region.wanted o (yielded ops a.tmps) = true
  · rw [if_pos hwant] at h ⊢
    exact wpIn_only h
  · rw [if_neg hwant] at h ⊢
    exact h
/-- Operation i waits for operation j. -/
def aftB (ops : Array Oper) (i j : Nat) : Bool := match ops[i]? with | none => false | some o => o.after.toList.any fun e => Region.binds .any e && Nat.beq e.on j
/-- Operation i waits for operation j, at once or by one between. -/
def waits (ops : Array Oper) (i j : Nat) : Bool := aftB ops i j || (List.range ops.size).any fun k => aftB ops i k && aftB ops k j
def Closed (ops : Array Oper) (L : Array Bool) : Prop := ∀ i j, aftB ops i j = true → L.getD i false = true → L.getD j false = true
abbrev Ver (P : Program) := Option Nat × Option Nat × Nat × BV P
abbrev VerG (P : Program) := Option Nat × Option Nat × Nat × GV P
def oB (x : Option Nat) (i : Nat) : Bool := match x with | some j => Nat.beq j i | none => false
def live (L : Array Bool) (φ : Ver P) : Prop := (∀ i, φ.1 = some i → L.getD i false = true) ∧ (∀ i, φ.2.1 = some i → L.getD i false = false)
def liveG (L : Array Bool) (φ : VerG P) : Prop := (∀ i, φ.1 = some i → L.getD i false = true) ∧ (∀ i, φ.2.1 = some i → L.getD i false = false)
/-- The row that an operation takes for itself: what names it says nothing any more from there on. -/
def cOk (cn : Option (Nat × Nat)) (L : Array Bool) (x : AV P) : Prop := ∀ nm j, cn = some (nm, j) → x.goff nm = true ∨ L.getD j false = false
def cTi (cn : Option (Nat × Nat)) (L : Array Bool) (e : (Nat × Nat) × Nat) : Prop := ∀ nm j, cn = some (nm, j) → e.2 ≠ nm ∨ L.getD j false = false
def cOkB (ops : Array Oper) (cn : Option (Nat × Nat)) (i : Nat) (x : AV P) : Bool := match cn with | none => true | some (nm, j) => x.goff nm || Nat.beq j i || waits ops j i
def cTiB (ops : Array Oper) (cn : Option (Nat × Nat)) (i n : Nat) : Bool := match cn with | none => true | some (nm, j) => !Nat.beq n nm || Nat.beq j i || waits ops j i
def Nd (ops : Array Oper) : Prop := ∀ (i j : Nat) (o o' : Oper) (d : Nat), ops[i]? = some o → ops[j]? = some o' → o.dst = some d → o'.dst = some d → i = j
structure DI (ops : Array Oper) (s : St P) (X : List (Option (AV P))) (V : List (Ver P)) (G : List (VerG P)) (cn : Option (Nat × Nat)) (ti : List ((Nat × Nat) × Nat)) (L : Array Bool) (s' : St P) : Prop where
  sl : ∀ t x, lk s.sl t = some x → cOk cn L x → lk s'.sl t = some x
  x : ∀ i o d x, ops[i]? = some o → o.dst = some d → X[i]? = some (some x) → L.getD i false = true → cOk cn L x → lk s'.sl d = some x
  b : ∀ φ ∈ V, live L φ → lk s'.B.bx φ.2.2.1 = some φ.2.2.2
  g : ∀ φ ∈ G, liveG L φ → lk s'.B.gr φ.2.2.1 = some φ.2.2.2
  ti : ∀ e ∈ ti, cTi cn L e → e ∈ s'.B.ti
  fresh : ∀ i o d, ops[i]? = some o → o.dst = some d → L.getD i false = false → lk s'.sl d = none ∧ offAll d s'.sl = true ∧ goffAll d s'.sl = true ∧ offGr d s'.B.gr = true
  nd : Nd ops
structure Pre (ops : Array Oper) (s : St P) (X : List (Option (AV P))) (V : List (Ver P)) (G : List (VerG P)) (cn : Option (Nat × Nat)) (ti : List ((Nat × Nat) × Nat)) (i : Nat) (L : Array Bool) (s' : St P) : Prop where
  cl : Closed ops L
  size : L.size = ops.size
  undone : L.getD i false = false
  aft : ∀ j, aftB ops i j = true → L.getD j false = true
  di : DI ops s X V G cn ti L s'
section
variable {K : Cx} {ops : Array Oper} {s s' : St P} {X : List (Option (AV P))} {V : List (Ver P)} {G : List (VerG P)} {cn : Option (Nat × Nat)} {ti : List ((Nat × Nat) × Nat)} {L : Array Bool} {i : Nat} {o : Oper} {d : Nat} {x : AV P}
theorem waits_done (hcl : Closed ops L) {a b : Nat} (h : waits ops a b = true) (ha : L.getD a false = true) : L.getD b false = true := by
  unfold waits at h
  rw [Bool.or_eq_true] at h
  rcases h with h | h
  · exact hcl a b h ha
  · rw [List.any_eq_true] at h
    obtain ⟨k, _, h2⟩ := h
    rw [Bool.and_eq_true] at h2
    exact hcl k b h2.2 (hcl a k h2.1 ha)
theorem Pre.wt (h : Pre ops s X V G cn ti i L s') {b : Nat} (hw : waits ops i b = true) : L.getD b false = true := by
  unfold waits at hw
  rw [Bool.or_eq_true] at hw
  rcases hw with hw | hw
  · exact h.aft b hw
  · rw [List.any_eq_true] at hw
    obtain ⟨k, _, h2⟩ := hw
    rw [Bool.and_eq_true] at h2
    exact h.cl k b h2.2 (h.aft k h2.1)
theorem Pre.c (h : Pre ops s X V G cn ti i L s') {x : AV P} (hc : cOkB ops cn i x = true) : cOk cn L x := by
  rintro nm j rfl
  simp only [cOkB, Bool.or_eq_true] at hc
  rcases hc with (hc | hc) | hc
  · exact .inl hc
  · rw [Nat.eq_of_beq_eq_true hc]; exact .inr h.undone
  · right
    cases hj : L.getD j false with
    | false => rfl
    | true => have := waits_done h.cl hc hj; rw [h.undone] at this; cases this
theorem Pre.tie (h : Pre ops s X V G cn ti i L s') {b off n : Nat} (he : tiSub [((b, off), n)] ti = true) (hc : cTiB ops cn i n = true := by rfl) : ((b, off), n) ∈ s'.B.ti := by
  refine h.di.ti _ (tiSub_mem he _ (by simp)) ?_
  rintro nm j rfl
  simp only [cTiB, Bool.or_eq_true] at hc
  rcases hc with (hc | hc) | hc
  · exact .inl (fun e => by dsimp only at e; subst e; simp at hc)
  · rw [Nat.eq_of_beq_eq_true hc]; exact .inr h.undone
  · right
    cases hj : L.getD j false with
    | false => rfl
    | true => have := waits_done h.cl hc hj; rw [h.undone] at this; cases this
theorem Pre.p (h : Pre ops s X V G cn ti i L s') {t : Nat} {x : AV P} (hx : lk s.sl t = some x) (hc : cOkB ops cn i x = true := by rfl) : lk s'.sl t = some x := h.di.sl t x hx (h.c hc)
theorem Pre.t (h : Pre ops s X V G cn ti i L s') (j : Nat) {d : Nat} {x : AV P} (hx : X[j]? = some (some x)) (hd : (ops[j]?).bind (·.dst) = some d := by rfl) (ha : waits ops i j = true := by rfl) (hc : cOkB ops cn i x = true := by rfl) : lk s'.sl d = some x := by
  cases ho : ops[j]? with
  | none => rw [ho] at hd; cases hd
  | some o => rw [ho] at hd; exact h.di.x j o d x ho hd hx (h.wt ha) (h.c hc)
theorem Pre.b (h : Pre ops s X V G cn ti i L s') (k : Nat) {f t : Option Nat} {b : Nat} {v : BV P} (hk : V[k]? = some (f, t, b, v)) (hf : (match f with | none => true | some j => waits ops i j) = true := by rfl)
    (ht : (match t with | none => true | some j => Nat.beq j i || waits ops j i) = true := by rfl) : lk s'.B.bx b = some v := by
  refine h.di.b (f, t, b, v) (List.mem_of_getElem? hk) ⟨fun j e => ?_, fun j e => ?_⟩
  · have e : f = some j := e
    subst e; exact h.wt hf
  · have e : t = some j := e
    subst e
    simp only [Bool.or_eq_true] at ht
    rcases ht with ht | ht
    · rw [Nat.eq_of_beq_eq_true ht]; exact h.undone
    · cases hj : L.getD j false with
      | false => rfl
      | true => have := waits_done h.cl ht hj; rw [h.undone] at this; cases this
theorem Pre.g (h : Pre ops s X V G cn ti i L s') (k : Nat) {f t : Option Nat} {n : Nat} {v : GV P} (hk : G[k]? = some (f, t, n, v)) (hf : (match f with | none => true | some j => waits ops i j) = true := by rfl)
    (ht : (match t with | none => true | some j => Nat.beq j i || waits ops j i) = true := by rfl) : lk s'.B.gr n = some v := by
  refine h.di.g (f, t, n, v) (List.mem_of_getElem? hk) ⟨fun j e => ?_, fun j e => ?_⟩
  · have e : f = some j := e
    subst e; exact h.wt hf
  · have e : t = some j := e
    subst e
    simp only [Bool.or_eq_true] at ht
    rcases ht with ht | ht
    · rw [Nat.eq_of_beq_eq_true ht]; exact h.undone
    · cases hj : L.getD j false with
      | false => rfl
      | true => have := waits_done h.cl ht hj; rw [h.undone] at this; cases this
theorem Pre.fr (h : Pre ops s X V G cn ti i L s') (ho : ops[i]? = some o) (hd : o.dst = some d) : lk s'.sl d = none ∧ offAll d s'.sl = true ∧ goffAll d s'.sl = true ∧ offGr d s'.B.gr = true := h.di.fresh i o d ho hd h.undone
theorem getD_set_self {L : Array Bool} {i : Nat} (h : i < L.size) : (L.setIfInBounds i true).getD i false = true := by
  simp [Array.getD, h]
theorem getD_set_ne {L : Array Bool} {i j : Nat} {b : Bool} (h : j ≠ i) : (L.setIfInBounds i true).getD j b = L.getD j b := by
  unfold Array.getD
  simp only [Array.size_setIfInBounds]
  split
  · rename_i hj
    show (L.setIfInBounds i true)[j]'_ = L[j]
    rw [Array.getElem_setIfInBounds_ne]
    exact fun e => h e.symm
  · rfl
theorem lt_of_op (ho : ops[i]? = some o) : i < ops.size := by
  rw [Array.getElem?_eq_some_iff] at ho; exact ho.1
theorem live_back {φ : Ver P} (hi : i < L.size) (h : live (L.setIfInBounds i true) φ) (hn : φ.1 ≠ some i) : live L φ ∧ φ.2.1 ≠ some i := by
  refine ⟨⟨fun j e => ?_, fun j e => ?_⟩, fun e => ?_⟩
  · have := h.1 j e
    rwa [getD_set_ne (fun e2 => hn (by rw [e, e2]))] at this
  · have := h.2 j e
    by_cases e2 : j = i
    · subst e2; rw [getD_set_self hi] at this; cases this
    · rwa [getD_set_ne e2] at this
  · have := h.2 i e
    rw [getD_set_self hi] at this; cases this
theorem liveG_back {φ : VerG P} (hi : i < L.size) (h : liveG (L.setIfInBounds i true) φ) (hn : φ.1 ≠ some i) : liveG L φ ∧ φ.2.1 ≠ some i := by
  refine ⟨⟨fun j e => ?_, fun j e => ?_⟩, fun e => ?_⟩
  · have := h.1 j e
    rwa [getD_set_ne (fun e2 => hn (by rw [e, e2]))] at this
  · have := h.2 j e
    by_cases e2 : j = i
    · subst e2; rw [getD_set_self hi] at this; cases this
    · rwa [getD_set_ne e2] at this
  · have := h.2 i e
    rw [getD_set_self hi] at this; cases this
theorem cOk_back {x : AV P} (h : cOk cn (L.setIfInBounds i true) x) : cOk cn L x := fun nm j e => (h nm j e).imp id fun h1 => by
  by_cases e2 : j = i
  · subst e2
    by_cases hi : j < L.size
    · rw [getD_set_self hi] at h1; cases h1
    · simp [Array.getD, hi]
  · rwa [getD_set_ne e2] at h1
theorem cTi_back {e : (Nat × Nat) × Nat} (h : cTi cn (L.setIfInBounds i true) e) : cTi cn L e := fun nm j e => (h nm j e).imp id fun h1 => by
  by_cases e2 : j = i
  · subst e2
    by_cases hi : j < L.size
    · rw [getD_set_self hi] at h1; cases h1
    · simp [Array.getD, hi]
  · rwa [getD_set_ne e2] at h1
def noByG (G : List (VerG P)) (i : Nat) : Bool := G.all fun φ => !(oB φ.1 i)
theorem noByG_ne {φ : VerG P} (h : noByG G i = true) (hm : φ ∈ G) : φ.1 ≠ some i := by
  unfold noByG at h
  rw [List.all_eq_true] at h
  intro e
  have := h φ hm
  rw [e] at this
  simp [oB] at this
/-- What an operation shows of itself. -/
def DStep (K : Cx) (ops : Array Oper) (s : St P) (X : List (Option (AV P))) (V : List (Ver P)) (G : List (VerG P)) (cn : Option (Nat × Nat)) (ti : List ((Nat × Nat) × Nat)) (i : Nat) (o : Oper) : Prop :=
  ops[i]? = some o → ∀ L s', Pre ops s X V G cn ti i L s' → ∀ Kk, (∀ s'', DI ops s X V G cn ti (L.setIfInBounds i true) s'' → Z K s'' .normal (Only Kk)) → TL K s' ops (Only Kk) [o]
def noBy (V : List (Ver P)) (i : Nat) : Bool := V.all fun φ => !(oB φ.1 i)
theorem noBy_ne {φ : Ver P} (h : noBy V i = true) (hm : φ ∈ V) : φ.1 ≠ some i := by
  unfold noBy at h
  rw [List.all_eq_true] at h
  intro e
  have := h φ hm
  rw [e] at this
  simp [oB] at this
def offs (ops : Array Oper) (i : Nat) (x : AV P) : Bool := (List.range ops.size).all fun j => Nat.beq j i || aftB ops i j || match (ops[j]?).bind (·.dst) with | none => true | some d => x.off d && x.goff d
theorem offs_at {j : Nat} {o' : Oper} {d' : Nat} (h : offs ops i x = true) (ho : ops[j]? = some o') (hd : o'.dst = some d') (hj : j ≠ i) (ha : aftB ops i j = false) : x.off d' = true ∧ x.goff d' = true := by
  unfold offs at h
  rw [List.all_eq_true] at h
  have := h j (by simpa using lt_of_op ho)
  simp only [ha, ho, Option.bind_some, hd, Bool.or_false, Bool.or_eq_true, Bool.and_eq_true] at this
  rcases this with h1 | h1
  · exact absurd (Nat.eq_of_beq_eq_true h1) hj
  · exact h1
theorem offs_d {α : Type} [Rp P α] {y : α} : offs ops i (.d (P := P) y) = true := by
  unfold offs
  rw [List.all_eq_true]
  intro j _
  split <;> simp [AV.off, AV.goff]
theorem offs_t2 {α δ : Type} [Rp P α] [Rp P δ] {y : α} {z : δ} : offs ops i (.t2 (.d (P := P) y) (.d z)) = true := by
  unfold offs
  rw [List.all_eq_true]
  intro j _
  split <;> simp [AV.off, AV.goff]
/-- It yields a value. -/
theorem di_put (ho : ops[i]? = some o) (hd : o.dst = some d) (hx : X[i]? = some (some x)) (hoff : offs ops i x = true) (hV : noBy V i = true) (hG : noByG G i = true) (hp : Pre ops s X V G cn ti i L s') : DI ops s X V G cn ti (L.setIfInBounds i true) (s'.put d x) := by
  have hi : i < L.size := by rw [hp.size]; exact lt_of_op ho
  obtain ⟨hf, _⟩ := hp.fr ho hd
  refine ⟨fun t y hy hc => ?_, fun j o' d' y hj hd' hy hl hc => ?_, fun φ hm hl => ?_, fun φ hm hl => hp.di.g φ hm (liveG_back hi hl (noByG_ne hG hm)).1, fun e he hc => hp.di.ti e he (cTi_back hc), fun j o' d' hj hd' hl => ?_, hp.di.nd⟩
  · have := hp.di.sl t y hy (cOk_back hc)
    show lk ((d, x) :: s'.sl) t = _
    rw [lk_cons_ne (fun e => by subst e; rw [hf] at this; cases this)]; exact this
  · show lk ((d, x) :: s'.sl) d' = _
    by_cases e : j = i
    · subst e
      rw [ho] at hj; cases hj
      rw [hd] at hd'; cases hd'
      rw [hx] at hy; cases hy
      exact lk_cons_eq rfl
    · rw [getD_set_ne e] at hl
      have := hp.di.x j o' d' y hj hd' hy hl (cOk_back hc)
      rw [lk_cons_ne (fun e => by subst e; rw [hf] at this; cases this)]; exact this
  · exact hp.di.b φ hm (live_back hi hl (noBy_ne hV hm)).1
  · have e : j ≠ i := fun e => by subst e; rw [getD_set_self hi] at hl; cases hl
    rw [getD_set_ne e] at hl
    have ha : aftB ops i j = false := by
      cases ha : aftB ops i j with
      | false => rfl
      | true => have := hp.aft j ha; rw [hl] at this; cases this
    obtain ⟨h1, h2, h3, h4⟩ := hp.di.fresh j o' d' hj hd' hl
    obtain ⟨g1, g2⟩ := offs_at hoff hj hd' e ha
    refine ⟨?_, ?_, ?_, h4⟩
    · show lk ((d, x) :: s'.sl) d' = _
      rw [lk_cons_ne (fun e2 => e (hp.di.nd j i o' o d hj ho (by rw [e2]; exact hd') hd))]; exact h1
    · show (x.off d' && offAll d' s'.sl) = true
      rw [g1, h2]; rfl
    · show (x.goff d' && goffAll d' s'.sl) = true
      rw [g2, h3]; rfl
theorem d_put (hd : o.dst = some d) (hx : X[i]? = some (some x)) (hoff : offs ops i x = true) (hV : noBy V i = true)
    (h : ∀ L s', Pre ops s X V G cn ti i L s' → ∀ Q, Z K (s'.put d x) .normal Q → TL K s' ops Q [o]) (hG : noByG G i = true := by rfl) : DStep K ops s X V G cn ti i o :=
  fun ho L s' hp _ k => h L s' hp _ (k _ (di_put ho hd hx hoff hV hG hp))
theorem mem_tiN {d : Nat} {e : (Nat × Nat) × Nat} : ∀ {l : List ((Nat × Nat) × Nat)}, e ∈ l → e.2 ≠ d → e ∈ tiN d l
  | [], h, _ => h
  | ((b, o), n) :: r, h, hn => by
    unfold tiN
    cases hb : Nat.beq n d with
    | true =>
      simp only [cond_true]
      rcases List.mem_cons.mp h with e2 | h
      · subst e2; exact absurd (Nat.eq_of_beq_eq_true hb) hn
      · exact mem_tiN h hn
    | false =>
      simp only [cond_false]
      rcases List.mem_cons.mp h with e2 | h
      · exact List.mem_cons.mpr (.inl e2)
      · exact List.mem_cons.mpr (.inr (mem_tiN h hn))
theorem d_putN (hd : o.dst = some d) (hx : X[i]? = some (some x)) (hoff : offs ops i x = true) (hV : noBy V i = true) (hti : (ti.all fun e => !(Nat.beq e.2 d)) = true)
    (h : ∀ L s', Pre ops s X V G cn ti i L s' → goffAll d s'.sl = true → offGr d s'.B.gr = true → ∀ Q, Z K ⟨(d, x) :: s'.sl, ⟨s'.B.bx, s'.B.gr, tiN d s'.B.ti⟩⟩ .normal Q → TL K s' ops Q [o]) (hG : noByG G i = true := by rfl) : DStep K ops s X V G cn ti i o := by
  intro ho L s' hp Kk k
  obtain ⟨_, _, hg1, hg2⟩ := hp.fr ho hd
  refine h L s' hp hg1 hg2 _ (k _ ?_)
  have hput := di_put ho hd hx hoff hV hG hp
  exact ⟨hput.sl, hput.x, hput.b, hput.g, fun e he hc => mem_tiN (hp.di.ti e he (cTi_back hc)) (fun e2 => by
    rw [List.all_eq_true] at hti
    have := hti e he
    rw [e2] at this; simp at this), hput.fresh, hput.nd⟩
/-- It is passed over. -/
theorem d_skip (hd : o.dst = some d) (hx : X[i]? = some none) (hV : noBy V i = true)
    (h : ∀ L s', Pre ops s X V G cn ti i L s' → lk s'.sl d = none → ∀ Q, Z K s' .normal Q → TL K s' ops Q [o]) (hG : noByG G i = true := by rfl) : DStep K ops s X V G cn ti i o := by
  intro ho L s' hp Kk k
  have hi : i < L.size := by rw [hp.size]; exact lt_of_op ho
  refine h L s' hp (hp.fr ho hd).1 _ (k _ ?_)
  refine ⟨fun t y hy hc => hp.di.sl t y hy (cOk_back hc), fun j o' d' y hj hd' hy hl hc => ?_, fun φ hm hl => hp.di.b φ hm (live_back hi hl (noBy_ne hV hm)).1, fun φ hm hl => hp.di.g φ hm (liveG_back hi hl (noByG_ne hG hm)).1, fun e he hc => hp.di.ti e he (cTi_back hc), fun j o' d' hj hd' hl => ?_, hp.di.nd⟩
  · by_cases e : j = i
    · subst e; rw [hx] at hy; cases hy
    · rw [getD_set_ne e] at hl
      exact hp.di.x j o' d' y hj hd' hy hl (cOk_back hc)
  · have e : j ≠ i := fun e => by subst e; rw [getD_set_self hi] at hl; cases hl
    rw [getD_set_ne e] at hl
    exact hp.di.fresh j o' d' hj hd' hl
/-- What is known of box b does not outlive operation i. -/
def kB (ops : Array Oper) (V : List (Ver P)) (i b : Nat) : Bool := V.all fun φ => !(Nat.beq φ.2.2.1 b) || oB φ.1 i || oB φ.2.1 i || (match φ.1 with | some j => waits ops j i | none => false) || (match φ.2.1 with | some k => waits ops i k | none => false)
theorem oB_eq {z : Option Nat} {i : Nat} (h : oB z i = true) : z = some i := by
  cases z with
  | none => cases h
  | some j => rw [Nat.eq_of_beq_eq_true (show Nat.beq j i = true from h)]
theorem kB_ne {b : Nat} {φ : Ver P} (hk : kB ops V i b = true) (hp : Pre ops s X V G cn ti i L s') (hm : φ ∈ V) (hl : live L φ) (h1 : φ.1 ≠ some i) (h2 : φ.2.1 ≠ some i) : φ.2.2.1 ≠ b := by
  intro e
  unfold kB at hk
  rw [List.all_eq_true] at hk
  have := hk φ hm
  simp only [Bool.or_eq_true] at this
  rcases this with (((h | h) | h) | h) | h
  · rw [e] at h; simp at h
  · exact h1 (oB_eq h)
  · exact h2 (oB_eq h)
  · cases hj : φ.1 with
    | none => rw [hj] at h; cases h
    | some j =>
      rw [hj] at h
      have := waits_done hp.cl h (hl.1 j hj)
      rw [hp.undone] at this; cases this
  · cases hj : φ.2.1 with
    | none => rw [hj] at h; cases h
    | some j =>
      rw [hj] at h
      have h3 := hp.wt h
      rw [hl.2 j hj] at h3; cases h3
def byL (V : List (Ver P)) (i : Nat) : List (Ver P) := V.filter fun φ => oB φ.1 i
theorem byL_at {φ : Ver P} {f t : Option Nat} {b : Nat} {v : BV P} (h : byL V i = [(f, t, b, v)]) (hm : φ ∈ V) (he : φ.1 = some i) : φ.2.2 = (b, v) := by
  have : φ ∈ byL V i := by
    unfold byL
    rw [List.mem_filter]
    exact ⟨hm, by rw [he]; simp [oB]⟩
  rw [h] at this
  simp only [List.mem_singleton] at this
  rw [this]
def tiBx (ti : List ((Nat × Nat) × Nat)) (b : Nat) : Bool := ti.all fun e => !(Nat.beq e.1.1 b)
theorem tiBx_ne {b : Nat} {e : (Nat × Nat) × Nat} (h : tiBx ti b = true) (hm : e ∈ ti) : e.1.1 ≠ b := by
  unfold tiBx at h
  rw [List.all_eq_true] at h
  intro e2
  have := h e hm
  rw [e2] at this; simp at this
theorem mem_tiB {d : Nat} {e : (Nat × Nat) × Nat} : ∀ {l : List ((Nat × Nat) × Nat)}, e ∈ l → e.1.1 ≠ d → e ∈ tiB d l
  | [], h, _ => h
  | ((b, o), n) :: r, h, hn => by
    unfold tiB
    cases hb : Nat.beq b d with
    | true =>
      simp only [cond_true]
      rcases List.mem_cons.mp h with e2 | h
      · subst e2; exact absurd (Nat.eq_of_beq_eq_true hb) hn
      · exact mem_tiB h hn
    | false =>
      simp only [cond_false]
      rcases List.mem_cons.mp h with e2 | h
      · exact List.mem_cons.mpr (.inl e2)
      · exact List.mem_cons.mpr (.inr (mem_tiB h hn))
theorem mem_tiO {d off len : Nat} {e : (Nat × Nat) × Nat} : ∀ {l : List ((Nat × Nat) × Nat)}, e ∈ l → e.1.1 ≠ d → e ∈ tiO d off len l
  | [], h, _ => h
  | ((b, o), n) :: r, h, hn => by
    unfold tiO
    cases hb : (Nat.beq b d && (Nat.ble off o && Nat.ble (o + 1) (off + len))) with
    | true =>
      simp only [cond_true]
      simp only [Bool.and_eq_true] at hb
      rcases List.mem_cons.mp h with e2 | h
      · subst e2; exact absurd (Nat.eq_of_beq_eq_true hb.1) hn
      · exact mem_tiO h hn
    | false =>
      simp only [cond_false]
      rcases List.mem_cons.mp h with e2 | h
      · exact List.mem_cons.mpr (.inl e2)
      · exact List.mem_cons.mpr (.inr (mem_tiO h hn))
/-- A new box. -/
theorem d_box {t : Option Nat} {v : BV P} (hd : o.dst = some d) (hx : X[i]? = some (some (.p d 0))) (hV : byL V i = [(some i, t, d, v)]) (hk : kB ops V i d = true) (hti : tiBx ti d = true)
    (h : ∀ L s', Pre ops s X V G cn ti i L s' → offAll d s'.sl = true → ∀ Q, Z K ⟨(d, .p d 0) :: s'.sl, ⟨(d, v) :: s'.B.bx, s'.B.gr, tiB d s'.B.ti⟩⟩ .normal Q → TL K s' ops Q [o]) (hG : noByG G i = true := by rfl) : DStep K ops s X V G cn ti i o := by
  intro ho L s' hp Kk k
  have hi : i < L.size := by rw [hp.size]; exact lt_of_op ho
  obtain ⟨hf, hof, _⟩ := hp.fr ho hd
  refine h L s' hp hof _ (k _ ?_)
  refine ⟨fun t y hy hc => ?_, fun j o' d' y hj hd' hy hl hc => ?_, fun φ hm hl => ?_, fun φ hm hl => hp.di.g φ hm (liveG_back hi hl (noByG_ne hG hm)).1, fun e he hc => mem_tiB (hp.di.ti e he (cTi_back hc)) (tiBx_ne hti he), fun j o' d' hj hd' hl => ?_, hp.di.nd⟩
  · have := hp.di.sl t y hy (cOk_back hc)
    show lk ((d, _) :: s'.sl) t = _
    rw [lk_cons_ne (fun e => by subst e; rw [hf] at this; cases this)]; exact this
  · show lk ((d, _) :: s'.sl) d' = _
    by_cases e : j = i
    · subst e
      rw [ho] at hj; cases hj
      rw [hd] at hd'; cases hd'
      rw [hx] at hy; cases hy
      exact lk_cons_eq rfl
    · rw [getD_set_ne e] at hl
      have := hp.di.x j o' d' y hj hd' hy hl (cOk_back hc)
      rw [lk_cons_ne (fun e => by subst e; rw [hf] at this; cases this)]; exact this
  · show lk ((d, v) :: s'.B.bx) φ.2.2.1 = _
    by_cases e : φ.1 = some i
    · rw [byL_at hV hm e]; exact lk_cons_eq rfl
    · obtain ⟨hl', hn⟩ := live_back hi hl e
      rw [lk_cons_ne (Ne.symm (kB_ne hk hp hm hl' e hn))]
      exact hp.di.b φ hm hl'
  · have e : j ≠ i := fun e => by subst e; rw [getD_set_self hi] at hl; cases hl
    rw [getD_set_ne e] at hl
    obtain ⟨h1, h2, h3, h4⟩ := hp.di.fresh j o' d' hj hd' hl
    have hne : d ≠ d' := fun e2 => e (hp.di.nd j i o' o d hj ho (by rw [e2]; exact hd') hd)
    refine ⟨?_, ?_, ?_, h4⟩
    · show lk ((d, _) :: s'.sl) d' = _
      rw [lk_cons_ne hne]; exact h1
    · show ((!Nat.beq d d') && offAll d' s'.sl) = true
      rw [h2]
      cases hb : Nat.beq d d' with
      | true => exact absurd (Nat.eq_of_beq_eq_true hb) hne
      | false => rfl
    · show (true && goffAll d' s'.sl) = true
      rw [h3]; rfl
/-- A store. -/
theorem d_store {t : Option Nat} {b : Nat} {v : BV P} (off len : Nat) (hd : o.dst = none) (hV : byL V i = [(some i, t, b, v)]) (hk : kB ops V i b = true) (hti : tiBx ti b = true)
    (h : ∀ L s', Pre ops s X V G cn ti i L s' → ∀ Q, Z K ⟨s'.sl, ⟨(b, v) :: s'.B.bx, s'.B.gr, tiO b off len s'.B.ti⟩⟩ .normal Q → TL K s' ops Q [o]) (hG : noByG G i = true := by rfl) : DStep K ops s X V G cn ti i o := by
  intro ho L s' hp Kk k
  have hi : i < L.size := by rw [hp.size]; exact lt_of_op ho
  refine h L s' hp _ (k _ ?_)
  refine ⟨fun t y hy hc => hp.di.sl t y hy (cOk_back hc), fun j o' d' y hj hd' hy hl hc => ?_, fun φ hm hl => ?_, fun φ hm hl => hp.di.g φ hm (liveG_back hi hl (noByG_ne hG hm)).1, fun e he hc => mem_tiO (hp.di.ti e he (cTi_back hc)) (tiBx_ne hti he), fun j o' d' hj hd' hl => ?_, hp.di.nd⟩
  · by_cases e : j = i
    · subst e; rw [ho] at hj; cases hj; rw [hd] at hd'; cases hd'
    · rw [getD_set_ne e] at hl
      exact hp.di.x j o' d' y hj hd' hy hl (cOk_back hc)
  · show lk ((b, v) :: s'.B.bx) φ.2.2.1 = _
    by_cases e : φ.1 = some i
    · rw [byL_at hV hm e]; exact lk_cons_eq rfl
    · obtain ⟨hl', hn⟩ := live_back hi hl e
      rw [lk_cons_ne (Ne.symm (kB_ne hk hp hm hl' e hn))]
      exact hp.di.b φ hm hl'
  · have e : j ≠ i := fun e => by subst e; rw [ho] at hj; cases hj; rw [hd] at hd'; cases hd'
    rw [getD_set_ne e] at hl
    exact hp.di.fresh j o' d' hj hd' hl
/-- What is known of row nm does not outlive operation i. -/
def kBG (ops : Array Oper) (G : List (VerG P)) (i b : Nat) : Bool := G.all fun φ => !(Nat.beq φ.2.2.1 b) || oB φ.1 i || oB φ.2.1 i || (match φ.1 with | some j => waits ops j i | none => false) || (match φ.2.1 with | some k => waits ops i k | none => false)
theorem kBG_ne {b : Nat} {φ : VerG P} (hk : kBG ops G i b = true) (hp : Pre ops s X V G cn ti i L s') (hm : φ ∈ G) (hl : liveG L φ) (h1 : φ.1 ≠ some i) (h2 : φ.2.1 ≠ some i) : φ.2.2.1 ≠ b := by
  intro e
  unfold kBG at hk
  rw [List.all_eq_true] at hk
  have := hk φ hm
  simp only [Bool.or_eq_true] at this
  rcases this with (((h | h) | h) | h) | h
  · rw [e] at h; simp at h
  · exact h1 (oB_eq h)
  · exact h2 (oB_eq h)
  · cases hj : φ.1 with
    | none => rw [hj] at h; cases h
    | some j =>
      rw [hj] at h
      have := waits_done hp.cl h (hl.1 j hj)
      rw [hp.undone] at this; cases this
  · cases hj : φ.2.1 with
    | none => rw [hj] at h; cases h
    | some j =>
      rw [hj] at h
      have h3 := hp.wt h
      rw [hl.2 j hj] at h3; cases h3
def byG (G : List (VerG P)) (i : Nat) : List (VerG P) := G.filter fun φ => oB φ.1 i
theorem byG_at {φ : VerG P} {f t : Option Nat} {b : Nat} {v : GV P} (h : byG G i = [(f, t, b, v)]) (hm : φ ∈ G) (he : φ.1 = some i) : φ.2.2 = (b, v) := by
  have : φ ∈ byG G i := by
    unfold byG
    rw [List.mem_filter]
    exact ⟨hm, by rw [he]; simp [oB]⟩
  rw [h] at this
  simp only [List.mem_singleton] at this
  rw [this]
def dstOff (ops : Array Oper) (nm : Nat) : Bool := ops.toList.all fun o => match o.dst with | none => true | some d => !Nat.beq nm d
theorem dstOff_at {nm j : Nat} (h : dstOff ops nm = true) (ho : ops[j]? = some o) (hd : o.dst = some d) : nm ≠ d := by
  unfold dstOff at h
  rw [List.all_eq_true] at h
  have := h o (by simpa using Array.mem_of_getElem? ho)
  rw [hd] at this
  exact nbeq this
/-- A store into a row. -/
theorem d_rstore {t : Option Nat} {nm : Nat} {v : GV P} (hd : o.dst = none) (hV : noBy V i = true) (hG : byG G i = [(some i, t, nm, v)]) (hk : kBG ops G i nm = true) (hnm : dstOff ops nm = true)
    (h : ∀ L s', Pre ops s X V G cn ti i L s' → ∀ Q, Z K ⟨s'.sl, ⟨s'.B.bx, (nm, v) :: s'.B.gr, s'.B.ti⟩⟩ .normal Q → TL K s' ops Q [o]) : DStep K ops s X V G cn ti i o := by
  intro ho L s' hp Kk k
  have hi : i < L.size := by rw [hp.size]; exact lt_of_op ho
  refine h L s' hp _ (k _ ?_)
  refine ⟨fun t y hy hc => hp.di.sl t y hy (cOk_back hc), fun j o' d' y hj hd' hy hl hc => ?_, fun φ hm hl => hp.di.b φ hm (live_back hi hl (noBy_ne hV hm)).1, fun φ hm hl => ?_, fun e he hc => hp.di.ti e he (cTi_back hc), fun j o' d' hj hd' hl => ?_, hp.di.nd⟩
  · by_cases e : j = i
    · subst e; rw [ho] at hj; cases hj; rw [hd] at hd'; cases hd'
    · rw [getD_set_ne e] at hl
      exact hp.di.x j o' d' y hj hd' hy hl (cOk_back hc)
  · show lk ((nm, v) :: s'.B.gr) φ.2.2.1 = _
    by_cases e : φ.1 = some i
    · rw [byG_at hG hm e]; exact lk_cons_eq rfl
    · obtain ⟨hl', hn⟩ := liveG_back hi hl e
      rw [lk_cons_ne (Ne.symm (kBG_ne hk hp hm hl' e hn))]
      exact hp.di.g φ hm hl'
  · have e : j ≠ i := fun e => by subst e; rw [ho] at hj; cases hj; rw [hd] at hd'; cases hd'
    rw [getD_set_ne e] at hl
    obtain ⟨h1, h2, h3, h4⟩ := hp.di.fresh j o' d' hj hd' hl
    refine ⟨h1, h2, h3, ?_⟩
    show ((!Nat.beq nm d') && offGr d' s'.B.gr) = true
    rw [h4]
    cases hb : Nat.beq nm d' with
    | true => exact absurd (Nat.eq_of_beq_eq_true hb) (dstOff_at hnm hj hd')
    | false => rfl
theorem offAll_drop {nm d : Nat} : ∀ {sl : List (Nat × AV P)}, offAll d sl = true → offAll d (dropAll nm sl) = true
  | [], _ => rfl
  | (k, x) :: r, h => by
    simp only [offAll, Bool.and_eq_true] at h
    simp only [dropAll, offAll, Bool.and_eq_true]
    refine ⟨?_, offAll_drop h.2⟩
    unfold AV.drop
    cases x.goff nm with
    | true => exact h.1
    | false => rfl
theorem goffAll_drop {nm d : Nat} : ∀ {sl : List (Nat × AV P)}, goffAll d sl = true → goffAll d (dropAll nm sl) = true
  | [], _ => rfl
  | (k, x) :: r, h => by
    simp only [goffAll, Bool.and_eq_true] at h
    simp only [dropAll, goffAll, Bool.and_eq_true]
    refine ⟨?_, goffAll_drop h.2⟩
    unfold AV.drop
    cases x.goff nm with
    | true => exact h.1
    | false => rfl
theorem lk_drop_none {nm : Nat} : ∀ {sl : List (Nat × AV P)} {t : Nat}, lk sl t = none → lk (dropAll nm sl) t = none
  | [], _, _ => rfl
  | (k, x) :: r, t, h => by
    simp only [dropAll]
    by_cases e : k = t
    · subst e; rw [lk_cons_eq rfl] at h; cases h
    · rw [lk_cons_ne e] at h; rw [lk_cons_ne e]; exact lk_drop_none h
/-- A row is taken: what comes of it is a datum. -/
theorem d_take {nm : Nat} {α : Type} [Rp P α] {zs : α} (hd : o.dst = some d) (hcn : cn = some (nm, i)) (hx : X[i]? = some (some (.d (P := P) zs))) (hV : noBy V i = true) (hG : noByG G i = true) (hk : kBG ops G i nm = true) (hnm : dstOff ops nm = true) (gv : GV P)
    (h : ∀ L s', Pre ops s X V G cn ti i L s' → ∀ Q, Z K ⟨(d, .d zs) :: dropAll nm s'.sl, ⟨s'.B.bx, (nm, gv) :: s'.B.gr, tiN nm s'.B.ti⟩⟩ .normal Q → TL K s' ops Q [o]) : DStep K ops s X V G cn ti i o := by
  intro ho L s' hp Kk k
  have hi : i < L.size := by rw [hp.size]; exact lt_of_op ho
  obtain ⟨hf, hof, hgf, hgr⟩ := hp.fr ho hd
  have hdone : ∀ x : AV P, cOk cn (L.setIfInBounds i true) x → x.goff nm = true := fun x hc => by
    rcases hc nm i hcn with h1 | h1
    · exact h1
    · rw [getD_set_self hi] at h1; cases h1
  have hdrop : ∀ x : AV P, x.goff nm = true → x.drop nm = x := fun x hx => by unfold AV.drop; rw [hx]; rfl
  refine h L s' hp _ (k _ ?_)
  refine ⟨fun t y hy hc => ?_, fun j o' d' y hj hd' hy hl hc => ?_, fun φ hm hl => hp.di.b φ hm (live_back hi hl (noBy_ne hV hm)).1, fun φ hm hl => ?_, fun e he hc => ?_, fun j o' d' hj hd' hl => ?_, hp.di.nd⟩
  · have := hp.di.sl t y hy (cOk_back hc)
    show lk ((d, _) :: dropAll nm s'.sl) t = _
    rw [lk_cons_ne (fun e => by subst e; rw [hf] at this; cases this), lk_drop_of this, hdrop y (hdone y hc)]
  · show lk ((d, _) :: dropAll nm s'.sl) d' = _
    by_cases e : j = i
    · subst e
      rw [ho] at hj; cases hj
      rw [hd] at hd'; cases hd'
      rw [hx] at hy; cases hy
      exact lk_cons_eq rfl
    · rw [getD_set_ne e] at hl
      have := hp.di.x j o' d' y hj hd' hy hl (cOk_back hc)
      rw [lk_cons_ne (fun e => by subst e; rw [hf] at this; cases this), lk_drop_of this, hdrop y (hdone y hc)]
  · obtain ⟨hl', hn⟩ := liveG_back hi hl (noByG_ne hG hm)
    show lk ((nm, gv) :: s'.B.gr) φ.2.2.1 = _
    rw [lk_cons_ne (Ne.symm (kBG_ne hk hp hm hl' (noByG_ne hG hm) hn))]
    exact hp.di.g φ hm hl'
  · refine mem_tiN (hp.di.ti e he (cTi_back hc)) ?_
    rcases hc nm i hcn with h1 | h1
    · exact h1
    · rw [getD_set_self hi] at h1; cases h1
  · have e : j ≠ i := fun e => by subst e; rw [getD_set_self hi] at hl; cases hl
    rw [getD_set_ne e] at hl
    obtain ⟨h1, h2, h3, h4⟩ := hp.di.fresh j o' d' hj hd' hl
    have hne : d ≠ d' := fun e2 => e (hp.di.nd j i o' o d hj ho (by rw [e2]; exact hd') hd)
    refine ⟨?_, offAll_drop h2, goffAll_drop h3, ?_⟩
    · show lk ((d, _) :: dropAll nm s'.sl) d' = _
      rw [lk_cons_ne hne]; exact lk_drop_none h1
    · show ((!Nat.beq nm d') && offGr d' s'.B.gr) = true
      rw [h4]
      cases hb : Nat.beq nm d' with
      | true => exact absurd (Nat.eq_of_beq_eq_true hb) (dstOff_at hnm hj hd')
      | false => rfl
/-! the whole region -/
def DSteps (K : Cx) (ops : Array Oper) (s : St P) (X : List (Option (AV P))) (V : List (Ver P)) (G : List (VerG P)) (cn : Option (Nat × Nat)) (ti : List ((Nat × Nat) × Nat)) : Nat → List Oper → Prop
  | _, [] => True
  | i, o :: r => DStep K ops s X V G cn ti i o ∧ DSteps K ops s X V G cn ti (i + 1) r
theorem DSteps.at_ : ∀ {l : List Oper} {k : Nat}, DSteps K ops s X V G cn ti k l → ∀ j o, l[j]? = some o → DStep K ops s X V G cn ti (k + j) o
  | [], _, _, j, o, h => by simp at h
  | o' :: r, k, hs, 0, o, h => by
    simp only [List.getElem?_cons_zero, Option.some.injEq] at h
    subst h; exact hs.1
  | o' :: r, k, hs, j + 1, o, h => by
    have := DSteps.at_ hs.2 j o (by simpa using h)
    rw [show k + (j + 1) = k + 1 + j by omega]; exact this
def vB (n : Nat) (V : List (Ver P)) : Bool := V.all fun φ => match φ.1 with | none => true | some j => Nat.ble (j + 1) n
theorem vB_at {n : Nat} {φ : Ver P} {j : Nat} (h : vB n V = true) (hm : φ ∈ V) (he : φ.1 = some j) : (Array.replicate n true).getD j false = true := by
  unfold vB at h
  rw [List.all_eq_true] at h
  have := h φ hm
  rw [he] at this
  have := Nat.le_of_ble_eq_true this
  simp [Array.getD, show j < n by omega]
def VIn (bx : List (Nat × BV P)) : List (Ver P) → Prop
  | [] => True
  | (none, _, b, v) :: r => lk bx b = some v ∧ VIn bx r
  | (some _, _, _, _) :: r => VIn bx r
theorem VIn.at_ {bx : List (Nat × BV P)} : ∀ {V : List (Ver P)}, VIn bx V → ∀ φ ∈ V, φ.1 = none → lk bx φ.2.2.1 = some φ.2.2.2
  | [], _, φ, h, _ => by cases h
  | (none, t, b, v) :: r, hv, φ, h, he => by
    rcases List.mem_cons.mp h with e | h
    · subst e; exact hv.1
    · exact VIn.at_ hv.2 φ h he
  | (some j, t, b, v) :: r, hv, φ, h, he => by
    rcases List.mem_cons.mp h with e | h
    · subst e; cases he
    · exact VIn.at_ (show VIn bx r from hv) φ h he
def vBG (n : Nat) (G : List (VerG P)) : Bool := G.all fun φ => match φ.1 with | none => true | some j => Nat.ble (j + 1) n
theorem vBG_at {n : Nat} {φ : VerG P} {j : Nat} (h : vBG n G = true) (hm : φ ∈ G) (he : φ.1 = some j) : (Array.replicate n true).getD j false = true := by
  unfold vBG at h
  rw [List.all_eq_true] at h
  have := h φ hm
  rw [he] at this
  have := Nat.le_of_ble_eq_true this
  simp [Array.getD, show j < n by omega]
def GIn (gr : List (Nat × GV P)) : List (VerG P) → Prop
  | [] => True
  | (none, _, b, v) :: r => lk gr b = some v ∧ GIn gr r
  | (some _, _, _, _) :: r => GIn gr r
theorem GIn.at_ {gr : List (Nat × GV P)} : ∀ {G : List (VerG P)}, GIn gr G → ∀ φ ∈ G, φ.1 = none → lk gr φ.2.2.1 = some φ.2.2.2
  | [], _, φ, h, _ => by cases h
  | (none, t, b, v) :: r, hv, φ, h, he => by
    rcases List.mem_cons.mp h with e | h
    · subst e; exact hv.1
    · exact GIn.at_ hv.2 φ h he
  | (some j, t, b, v) :: r, hv, φ, h, he => by
    rcases List.mem_cons.mp h with e | h
    · subst e; cases he
    · exact GIn.at_ (show GIn gr r from hv) φ h he
def endGr : List (VerG P) → List (Nat × GV P)
  | [] => []
  | (_, none, b, v) :: r => (b, v) :: endGr r
  | (_, some _, _, _) :: r => endGr r
theorem lk_endGr {gr : List (Nat × GV P)} : ∀ {G : List (VerG P)}, (∀ φ ∈ G, φ.2.1 = none → lk gr φ.2.2.1 = some φ.2.2.2) → ∀ t x, lk (endGr G) t = some x → lk gr t = some x
  | [], _, t, x, h => by simp [endGr, lk] at h
  | (f, none, b, v) :: r, h1, t, x, h => by
    unfold endGr at h
    by_cases e : b = t
    · subst e
      rw [lk_cons_eq rfl] at h; cases h
      exact h1 (f, none, b, v) (by simp) rfl
    · rw [lk_cons_ne e] at h
      exact lk_endGr (fun φ hm => h1 φ (by simp [hm])) t x h
  | (f, some k, b, v) :: r, h1, t, x, h => lk_endGr (G := r) (fun φ hm => h1 φ (by simp [hm])) t x h
def frB (s : St P) : List Oper → Bool
  | [] => true
  | o :: r => (match o.dst with | none => true | some d => (lk s.sl d).isNone && (offAll d s.sl && (goffAll d s.sl && offGr d s.B.gr))) && frB s r
theorem frB_at : ∀ {l : List Oper}, frB s l = true → ∀ o ∈ l, ∀ d, o.dst = some d → lk s.sl d = none ∧ offAll d s.sl = true ∧ goffAll d s.sl = true ∧ offGr d s.B.gr = true
  | [], _, o, h, _, _ => by cases h
  | o' :: r, hf, o, h, d, hd => by
    simp only [frB, Bool.and_eq_true] at hf
    rcases List.mem_cons.mp h with e | h
    · subst e
      rw [hd] at hf
      simp only [Bool.and_eq_true, Option.isNone_iff_eq_none] at hf
      exact hf.1
    · exact frB_at hf.2 o h d hd
/-- Each slot is written once. -/
def dstsOf (l : List Oper) : List Nat := l.filterMap (·.dst)
def ndB : List Nat → Bool
  | [] => true
  | d :: r => r.all (fun e => !(Nat.beq e d)) && ndB r
theorem nd_of : ∀ {l : List Oper}, ndB (dstsOf l) = true → ∀ (i j : Nat) (o o' : Oper) (d : Nat), l[i]? = some o → l[j]? = some o' → o.dst = some d → o'.dst = some d → i = j
  | [], _, i, j, o, o', d, h, _, _, _ => by simp at h
  | q :: r, hn, i, j, o, o', d, h1, h2, e1, e2 => by
    have hr : ndB (dstsOf r) = true := by
      unfold dstsOf at hn ⊢
      cases hq : q.dst with
      | none => rw [List.filterMap_cons_none hq] at hn; exact hn
      | some d' => rw [List.filterMap_cons_some hq] at hn; simp only [ndB, Bool.and_eq_true] at hn; exact hn.2
    have hq : ∀ (k : Nat) (o'' : Oper), r[k]? = some o'' → o''.dst = some d → q.dst = some d → False := by
      intro k o'' hk hd hq
      unfold dstsOf at hn
      rw [List.filterMap_cons_some hq] at hn
      simp only [ndB, Bool.and_eq_true, List.all_eq_true] at hn
      have := hn.1 d (List.mem_filterMap.mpr ⟨o'', List.mem_of_getElem? hk, hd⟩)
      simp at this
    match i, j with
    | 0, 0 => rfl
    | 0, j + 1 => simp only [List.getElem?_cons_zero, Option.some.injEq] at h1; subst h1; exact (hq j o' (by simpa using h2) e2 e1).elim
    | i + 1, 0 => simp only [List.getElem?_cons_zero, Option.some.injEq] at h2; subst h2; exact (hq i o (by simpa using h1) e1 e2).elim
    | i + 1, j + 1 => rw [nd_of hr i j o o' d (by simpa using h1) (by simpa using h2) e1 e2]
/-- Each waits for earlier ones only. -/
def backB : Nat → List Oper → Bool
  | _, [] => true
  | i, o :: r => o.after.toList.all (fun e => !(Region.binds .any e) || Nat.ble (e.on + 1) i) && backB (i + 1) r
theorem back_of : ∀ {l : List Oper} {k : Nat}, backB k l = true → ∀ j o, l[j]? = some o → ∀ e ∈ o.after, Region.binds .any e = true → e.on < k + j
  | [], _, _, j, o, h => by simp at h
  | q :: r, k, hb, 0, o, h => by
    simp only [List.getElem?_cons_zero, Option.some.injEq] at h
    subst h
    simp only [backB, Bool.and_eq_true] at hb
    intro e he hbi
    have := List.all_eq_true.mp hb.1 e (by simpa using he)
    rw [hbi] at this
    exact Nat.le_of_ble_eq_true (by simpa using this)
  | q :: r, k, hb, j + 1, o, h => by
    simp only [backB, Bool.and_eq_true] at hb
    have := back_of hb.2 j o (by simpa using h)
    rw [show k + (j + 1) = k + 1 + j by omega]; exact this
def endSl : List Oper → List (Option (AV P)) → List (Nat × AV P) → List (Nat × AV P)
  | o :: r, some x :: xs, sl => (match o.dst with | some d => (d, x) :: endSl r xs sl | none => endSl r xs sl)
  | _ :: r, none :: xs, sl => endSl r xs sl
  | _, _, sl => sl
theorem lk_endSl' {s' : List (Nat × AV P)} {sl : List (Nat × AV P)} {C : AV P → Prop} : ∀ {l : List Oper} {X : List (Option (AV P))}, (∀ (j : Nat) o d x, l[j]? = some o → o.dst = some d → X[j]? = some (some x) → C x → lk s' d = some x) → (∀ t x, lk sl t = some x → C x → lk s' t = some x) → ∀ t x, lk (endSl l X sl) t = some x → C x → lk s' t = some x
  | [], [], _, h2, t, x, h, hc => h2 t x h hc
  | [], _ :: _, _, h2, t, x, h, hc => h2 t x h hc
  | _ :: _, [], _, h2, t, x, h, hc => h2 t x h hc
  | o :: r, none :: xs, h1, h2, t, x, h, hc => lk_endSl' (l := r) (X := xs) (fun j o d x a b c => h1 (j + 1) o d x (by simpa using a) b (by simpa using c)) h2 t x h hc
  | o :: r, some y :: xs, h1, h2, t, x, h, hc => by
    have ih := lk_endSl' (l := r) (X := xs) (fun j o d x a b c => h1 (j + 1) o d x (by simpa using a) b (by simpa using c)) h2
    unfold endSl at h
    cases hd : o.dst with
    | none => rw [hd] at h; exact ih t x h hc
    | some d =>
      rw [hd] at h
      by_cases e : d = t
      · subst e
        rw [lk_cons_eq rfl] at h; cases h
        exact h1 0 o d _ rfl hd rfl hc
      · change lk ((d, y) :: endSl r xs sl) t = some x at h
        rw [lk_cons_ne e] at h; exact ih t x h hc
def endBx : List (Ver P) → List (Nat × BV P)
  | [] => []
  | (_, none, b, v) :: r => (b, v) :: endBx r
  | (_, some _, _, _) :: r => endBx r
theorem lk_endBx {bx : List (Nat × BV P)} : ∀ {V : List (Ver P)}, (∀ φ ∈ V, φ.2.1 = none → lk bx φ.2.2.1 = some φ.2.2.2) → ∀ t x, lk (endBx V) t = some x → lk bx t = some x
  | [], _, t, x, h => by simp [endBx, lk] at h
  | (f, none, b, v) :: r, h1, t, x, h => by
    unfold endBx at h
    by_cases e : b = t
    · subst e
      rw [lk_cons_eq rfl] at h; cases h
      exact h1 (f, none, b, v) (by simp) rfl
    · rw [lk_cons_ne e] at h
      exact lk_endBx (fun φ hm => h1 φ (by simp [hm])) t x h
  | (f, some k, b, v) :: r, h1, t, x, h => lk_endBx (V := r) (fun φ hm => h1 φ (by simp [hm])) t x h
theorem mem_ready {j : Nat} (ho : ops[j]? = some o) : j ∈ Region.ready .any ops L ↔ L.getD j true = false ∧ ∀ e ∈ o.after, Region.binds .any e = true → L.getD e.on false = true := by
  unfold Region.ready
  rw [List.mem_filter]
  simp only [List.mem_range, lt_of_op ho, true_and, ho, Option.map_some, Option.getD_some, Bool.and_eq_true, Bool.not_eq_true', Array.all_eq_true', Bool.or_eq_true]
  constructor
  · rintro ⟨h1, h2⟩
    exact ⟨h1, fun e he hb => (h2 e he).elim (fun h => by rw [hb] at h; cases h) id⟩
  · rintro ⟨h1, h2⟩
    exact ⟨h1, fun e he => by
      cases hb : Region.binds .any e with
      | false => exact .inl rfl
      | true => exact .inr (h2 e he hb)⟩
theorem getD_tf {L : Array Bool} {j : Nat} (h : j < L.size) : L.getD j true = L.getD j false := by
  simp [Array.getD, h]
theorem aftB_iff {j k : Nat} (ho : ops[j]? = some o) : aftB ops j k = true ↔ ∃ e ∈ o.after, Region.binds .any e = true ∧ e.on = k := by
  unfold aftB
  rw [ho]
  simp only [List.any_eq_true, Bool.and_eq_true]
  constructor
  · rintro ⟨e, he, hb, hk⟩; exact ⟨e, by simpa using he, hb, Nat.eq_of_beq_eq_true hk⟩
  · rintro ⟨e, he, hb, hk⟩; exact ⟨e, by simpa using he, hb, by rw [hk]; simp⟩
theorem all_done {l : List Oper} {L : Array Bool} (hb : backB 0 l = true) (hs : L.size = l.length) (hr : Region.ready .any l.toArray L = []) : ∀ j, j < l.length → L.getD j false = true := by
  intro j
  induction j using Nat.strongRecOn with
  | _ j ih =>
    intro hj
    cases hd : L.getD j false with
    | true => rfl
    | false =>
      have ho : l.toArray[j]? = some l[j] := by simp [hj]
      have : j ∈ Region.ready .any l.toArray L := (mem_ready ho).mpr ⟨by rw [getD_tf (by omega)]; exact hd, fun e he hbi => by
        have := back_of hb j l[j] (by simp [hj]) e he hbi
        exact ih e.on (by omega) (by omega)⟩
      rw [hr] at this; cases this
theorem drawn_go {l : List Oper} {Q : Exit → Act → World → Prop} (hb : backB 0 l = true) (hs : DSteps K l.toArray s X V G cn ti 0 l)
    (he : ∀ s', DI l.toArray s X V G cn ti (Array.replicate l.length true) s' → Z K s' .normal Q) :
    ∀ (fuel : Nat) (L : Array Bool), L.size = l.length → L.toList.count false ≤ fuel → Closed l.toArray L → ∀ (s' : St P) (m : Snap) (β : Nat → Nat) (γ : Nat → Value) (κ : Nat → List Value) (a : Act) (w : World),
      DI l.toArray s X V G cn ti L s' → AH K m β γ s'.sl a → WH K m β γ κ s'.B w → wpAnyIn (fc K.rd) 0 P .any l.toArray Q fuel L a w := by
  have hfin : ∀ (L : Array Bool), L.size = l.length → (∀ j, j < l.length → L.getD j false = true) → L = Array.replicate l.length true := by
    intro L hL hall
    apply Array.ext
    · simp [hL]
    · intro j h1 h2
      have := hall j (by omega)
      simp only [Array.getD, h1, dif_pos] at this
      simpa using this
  have hlast : ∀ (L : Array Bool), L.size = l.length → (∀ j, j < l.length → L.getD j false = true) → ∀ (s' : St P) (m : Snap) (β : Nat → Nat) (γ : Nat → Value) (κ : Nat → List Value) (a : Act) (w : World),
      DI l.toArray s X V G cn ti L s' → AH K m β γ s'.sl a → WH K m β γ κ s'.B w → Q .normal a w := by
    intro L hL hall s' m β γ κ a w hd ha hw
    rw [hfin L hL hall] at hd
    exact he s' hd m β γ κ a w ha hw
  intro fuel
  induction fuel with
  | zero =>
    intro L hL hc hcl s' m β γ κ a w hd ha hw
    have hall : ∀ j, j < l.length → L.getD j false = true := by
      intro j hj
      cases hdj : L.getD j false with
      | true => rfl
      | false =>
        have h1 : false ∈ L.toList := by
          simp only [Array.getD, show j < L.size by omega, dif_pos] at hdj
          rw [← hdj]
          exact Array.getElem_mem_toList (by omega)
        have := List.count_pos_iff.mpr h1
        omega
    refine ⟨?_, hlast L hL hall s' m β γ κ a w hd ha hw⟩
    rw [List.eq_nil_iff_forall_not_mem]
    intro j hj
    have hjl : j < l.length := by
      unfold Region.ready at hj
      rw [List.mem_filter] at hj
      simpa using hj.1
    have ho : l.toArray[j]? = some l[j] := by simp [hjl]
    have := ((mem_ready ho).mp hj).1
    rw [getD_tf (by omega), hall j hjl] at this
    cases this
  | succ fuel ih =>
    intro L hL hc hcl s' m β γ κ a w hd ha hw
    refine ⟨fun h0 => hlast L hL (all_done hb hL h0) s' m β γ κ a w hd ha hw, fun i hi => ?_⟩
    have hil : i < l.length := by
      unfold Region.ready at hi
      rw [List.mem_filter] at hi
      simpa using hi.1
    have ho : l.toArray[i]? = some l[i] := by simp [hil]
    obtain ⟨hu, haf⟩ := (mem_ready ho).mp hi
    rw [getD_tf (by omega)] at hu
    have hp : Pre l.toArray s X V G cn ti i L s' := ⟨hcl, by simpa using hL, hu, fun j hj => by
      obtain ⟨e, he, hbi, hk⟩ := (aftB_iff ho).mp hj
      rw [← hk]; exact haf e he hbi, hd⟩
    have hstep := hs.at_ i l[i] (by simp [hil])
    rw [Nat.zero_add] at hstep
    refine wpOp_of_TL ho (hstep ho L s' hp (wpAnyIn (fc K.rd) 0 P .any l.toArray Q fuel (L.setIfInBounds i true)) fun s'' hd'' m' β' γ' κ' a' w' ha' hw' => ?_) ha hw
    refine ih _ (by simp [hL]) ?_ ?_ s'' m' β' γ' κ' a' w' hd'' ha' hw'
    · rw [Array.toList_setIfInBounds, List.count_set (by simp; omega)]
      have : L.toList[i]'(by simp; omega) = false := by
        simp only [Array.getD, show i < L.size by omega, dif_pos] at hu
        simpa using hu
      have hc' : L.toList.count false ≤ fuel + 1 := hc
      rw [if_pos (by rw [this]; rfl), if_neg (by decide)]
      omega
    · intro j k hjk hj
      by_cases e : j = i
      · subst e
        by_cases e2 : k = j
        · subst e2; exact hj
        · rw [getD_set_ne e2]; exact hp.aft k hjk
      · rw [getD_set_ne e] at hj
        by_cases e2 : k = i
        · subst e2; exact getD_set_self (by omega)
        · rw [getD_set_ne e2]; exact hcl j k hjk hj
/-- **A region that draws its order.** 'X': what each operation yields (none: it is passed over, or yields nothing); 'V': what each box holds, from which operation on, till which; 'G': the same of rows; 'cn': the row that an operation takes; 'ti': ties that stand. -/
theorem T_drawnC {id : Nat} {l : List Oper} {Q : Exit → Act → World → Prop} (hm : P.follows .mixedOrders = true) (hb : backB 0 l = true) (hn : ndB (dstsOf l) = true)
    (X : List (Option (AV P))) (V : List (Ver P)) (G : List (VerG P)) (cn : Option (Nat × Nat)) (ti : List ((Nat × Nat) × Nat)) (hf : frB s l = true) (hv : VIn s.B.bx V) (hg : GIn s.B.gr G) (ht : tiSub ti s.B.ti = true) (hvb : vB l.length V = true) (hgb : vBG l.length G = true)
    (hs : DSteps K l.toArray s X V G cn ti 0 l) (se : St P) (k : Z K se .normal Q) (h1 : ∀ t x, lk se.sl t = some x → lk (endSl l X s.sl) t = some x ∧ ∀ nm j, cn = some (nm, j) → x.goff nm = true)
    (h2 : ∀ t x, lk se.B.bx t = some x → lk (endBx V) t = some x) (h3 : ∀ t x, lk se.B.gr t = some x → lk (endGr G) t = some x) (h4 : ∀ e ∈ se.B.ti, e ∈ ti ∧ ∀ nm j, cn = some (nm, j) → e.2 ≠ nm) : T K s (.region id l.toArray true) Q := by
  intro m β γ κ a w ha hw
  refine wpIn_region_any hm ?_
  have hsz : l.toArray.size = l.length := by simp
  rw [hsz]
  have h0 : ∀ j, (Array.replicate l.length false).getD j false = false := fun j => by
    simp [Array.getD]
  refine drawn_go hb hs (fun s' hd => Z_le (s' := se) ?_ k) _ (Array.replicate l.length false) (by simp) (by simp [List.count_le_length]) ?_ s m β γ κ a _ ?_ ha hw.drew
  · refine ⟨fun t x hx => ?_, fun t x hx => ?_, fun t x hx => ?_, fun e he => ?_⟩
    · obtain ⟨hx1, hx2⟩ := h1 t x hx
      exact lk_endSl' (s' := s'.sl) (C := fun x => ∀ nm j, cn = some (nm, j) → x.goff nm = true) (fun j o d x h1 h2 h3 hc => hd.x j o d x (by simpa using h1) h2 h3 (by
        have : j < l.length := by rw [List.getElem?_eq_some_iff] at h1; exact h1.1
        simp [Array.getD, this]) (fun nm j e => .inl (hc nm j e))) (fun t x h hc => hd.sl t x h (fun nm j e => .inl (hc nm j e))) t x hx1 hx2
    · exact lk_endBx (fun φ hm hφ => hd.b φ hm ⟨fun j e => vB_at hvb hm e, fun j e => by rw [hφ] at e; cases e⟩) t x (h2 t x hx)
    · exact lk_endGr (fun φ hm hφ => hd.g φ hm ⟨fun j e => vBG_at hgb hm e, fun j e => by rw [hφ] at e; cases e⟩) t x (h3 t x hx)
    · exact hd.ti e (h4 e he).1 (fun nm j e' => .inl ((h4 e he).2 nm j e'))
  · intro i j h1 h2; rw [h0] at h2; cases h2
  · refine ⟨fun _ _ h _ => h, fun i o d x _ _ _ h => (by rw [h0] at h; cases h), fun φ hm hl => ?_, fun φ hm hl => ?_, fun e he _ => tiSub_mem ht e he, fun i o d ho hd _ => ?_, fun i j o o' d h1 h2 => nd_of hn i j o o' d (by simpa using h1) (by simpa using h2)⟩
    · cases hφ : φ.1 with
      | none => exact hv.at_ φ hm hφ
      | some j => have := hl.1 j hφ; rw [h0] at this; cases this
    · cases hφ : φ.1 with
      | none => exact hg.at_ φ hm hφ
      | some j => have := hl.1 j hφ; rw [h0] at this; cases this
    · exact frB_at hf o (List.mem_of_getElem? (by simpa using ho)) d hd
/-- No row is taken. -/
theorem T_drawn {id : Nat} {l : List Oper} {Q : Exit → Act → World → Prop} (hm : P.follows .mixedOrders = true) (hb : backB 0 l = true) (hn : ndB (dstsOf l) = true)
    (X : List (Option (AV P))) (V : List (Ver P)) (G : List (VerG P)) (ti : List ((Nat × Nat) × Nat)) (hf : frB s l = true) (hv : VIn s.B.bx V) (hg : GIn s.B.gr G) (ht : tiSub ti s.B.ti = true) (hvb : vB l.length V = true) (hgb : vBG l.length G = true)
    (hs : DSteps K l.toArray s X V G none ti 0 l) (k : Z K ⟨endSl l X s.sl, ⟨endBx V, endGr G, ti⟩⟩ .normal Q) : T K s (.region id l.toArray true) Q :=
  T_drawnC hm hb hn X V G none ti hf hv hg ht hvb hgb hs _ k (fun _ _ h => ⟨h, fun _ _ e => by cases e⟩) (fun _ _ h => h) (fun _ _ h => h) (fun _ h => ⟨h, fun _ _ e => by cases e⟩)
theorem TL_skipus {rest : List Oper} {Q : Exit → Act → World → Prop} {op : Op} {ty : TypeId} {pos : String} {aft : Array Edge} {want : Bool} {j dj : Nat} (hb : lk s.sl dj = some (.x undef)) (k : TL K (s.put d (.x undef)) ops Q rest) (hj : (ops[j]?).bind (·.dst) = some dj := by rfl) (hd : Nat.ble (d + 1) K.n = true := by rfl) :
    TL K s ops Q (⟨some d, op, ty, pos, aft, some (j, want)⟩ :: rest) := by
  intro m β γ κ a w ha hw'
  have hd' : d < K.n := Nat.le_of_ble_eq_true hd
  have hy := yielded_undef (ops := ops) (j := j) ha hj hb
  refine wpL_skip (by simp [Region.wanted, hy]) ?_
  exact k m β γ κ _ w (ha.put (x := .x undef) hd' rfl) hw'
theorem T_split {c : Code} {Q : Exit → Act → World → Prop} (B : Bool) (h1 : B = true → T K s c Q) (h2 : B = false → T K s c Q) : T K s c Q := by
  cases B with
  | true => exact h1 rfl
  | false => exact h2 rfl
/-- A slice's literal, not to grow. -/
theorem TL_buildSlice_d {rest : List Oper} {Q : Exit → Act → World → Prop} {ty : TypeId} {t : TypeId} {pos : String} {aft : Array Edge} {α : Type} [Rp P α] {e : TypeId} {n : Nat} {ps : List (Nat × Operand)} {xs : List α} (he : Els K s 0 ps xs) (ht : TyEl P t e α) (hn : n = ps.length)
    (hgo : goffAll d s.sl = true) (hgr : offGr d s.B.gr = true) (k : TL K ⟨(d, .d xs) :: s.sl, ⟨s.B.bx, s.B.gr, tiN d s.B.ti⟩⟩ ops Q rest) (hb : Nat.ble (n * Rp.sz P α) 65536 = true := by rfl) (hd : Nat.ble (d + 1) K.n = true := by rfl) (hpr : priv d = false := by rfl) (hpg : K.ping d = none := by rfl) :
    TL K s ops Q (⟨some d, .buildSlice t n ps.toArray, ty, pos, aft, none⟩ :: rest) := by
  refine TL_buildSlice he ht hn ?_ hb hgo hgr hd hpr hpg
  refine TL_g2d (q := d) (lk_cons_eq rfl) (lk_cons_eq rfl) ?_ hpr
  refine TL_le (s' := ⟨(d, .d xs) :: s.sl, ⟨s.B.bx, s.B.gr, tiN d s.B.ti⟩⟩) ⟨fun t x hx => ?_, fun _ _ h => h, fun t x hx => ?_, fun _ h => h⟩ k
  · change lk ((d, _) :: s.sl) t = _ at hx
    by_cases e : d = t
    · subst e
      rw [lk_cons_eq rfl] at hx; cases hx
      exact lk_cons_eq rfl
    · rw [lk_cons_ne e] at hx
      show lk ((d, _) :: (d, _) :: s.sl) t = _
      rw [lk_cons_ne e, lk_cons_ne e]; exact hx
  · show lk ((d, _) :: s.B.gr) t = _
    rw [lk_cons_ne (Ne.symm (gr_off hgr hx))]; exact hx
end
end Go.Ph
/-! A range over a function. -/
namespace Go.Ph
open Go.RowKit (Below)
universe u
variable {P : Program}
section
variable {K : Cx} {m m' : Snap} {β : Nat → Nat} {γ : Nat → Value} {κ : Nat → List Value} {B : Bs P} {w w' : World}
theorem WH.own_lt (h : WH K m β γ κ B w) {b : Nat} (hb : own β γ B b) : b < w.heap.size := by
  rcases hb with ⟨x, bv, h1, h2⟩ | ⟨x, gv, h1, h2⟩
  · obtain ⟨⟨T, hT⟩, _⟩ := h.box x bv h1
    rw [h2] at hT
    rcases Nat.lt_or_ge b w.heap.size with hl | hl
    · exact hl
    · rw [Array.getElem?_eq_none hl] at hT; cases hT
  · exact (h.grow x gv h1).lt h2
/-- What another does beside the walk's own blocks: to blocks S of its own, and to new ones. -/
theorem WH.beside {S S' : Nat → Prop} (h : WH K m β γ κ B w) (hJ : K.J m (fun b => own β γ B b ∨ S b) w) (hS : ∀ b, S b → ¬ own β γ B b ∧ K.B0 ≤ b)
    (ho : w'.os = w.os) (ht : w'.tape = w.tape) (hu : w'.output = w.output) (hsz : w.heap.size ≤ w'.heap.size) (hk : ∀ k, k < w.heap.size → ¬ S k → w'.heap[k]? = w.heap[k]?)
    (hle : Snap.le m m') (hn : ∀ b i v, m' b i = some v → m b i = some v ∨ S b ∨ w.heap.size ≤ b) (hs : ∀ b i v, m' b i = some v → w'.cell? ⟨b, i, none⟩ = some v)
    (hS' : ∀ b, S' b → S b ∨ w.heap.size ≤ b) :
    WH K m' β γ κ B w' ∧ K.J m' (fun b => own β γ B b ∨ S' b) w' ∧ ∀ b, S' b → ¬ own β γ B b ∧ K.B0 ≤ b := by
  have hsame : ∀ b, own β γ B b → w'.heap[b]? = w.heap[b]? := fun b hb => hk b (h.own_lt hb) (fun hs => (hS b hs).1 hb)
  have hnone : ∀ b i, own β γ B b → m b i = none → m' b i = none := fun b i hb hi => by
    cases hq : m' b i with
    | none => rfl
    | some v =>
      rcases hn b i v hq with h1 | h1 | h1
      · rw [hi] at h1; cases h1
      · exact absurd hb (hS b h1).1
      · have := h.own_lt hb; omega
  have hJ' : K.J m' (fun b => own β γ B b ∨ S' b) w' := K.jl hJ ho ht hu hsz (fun k hk1 hk2 => hk k hk1 (fun hs => hk2 (.inr hs))) hle (fun b i v hv => (hn b i v hv).imp id (Or.imp .inr id)) hs
    (fun b hb => hb.elim (fun h => .inl (.inl h)) (fun h => (hS' b h).imp .inr id))
  refine ⟨⟨hs, Snap.le_trans h.le hle, fun b i v hv => ?_, fun x bv hx => ?_, h.inj, fun x gv hx => ?_, h.gbox, h.ginj, h.tie, ?_⟩, hJ', fun b hb => ?_⟩
  · rcases hn b i v hv with h1 | h1 | h1
    · exact h.new b i v h1
    · exact .inr (hS b h1).2
    · exact .inr (Nat.le_trans h.jj.2.1 h1)
  · obtain ⟨⟨T, hT⟩, hr, hB, hi⟩ := h.box x bv hx
    have ho' : own β γ B (β x) := .inl ⟨x, bv, hx, rfl⟩
    exact ⟨⟨T, by rw [hsame _ ho']; exact hT⟩, bv.i.mono hle hr, hB, fun i => hnone _ _ ho' (hi i)⟩
  · exact (h.grow x gv hx).keep (fun b hb => hsame b (.inr ⟨x, gv, hx, hb⟩)) hle fun b i hb hi => hnone b i (.inr ⟨x, gv, hx, hb⟩) hi
  · refine ⟨K.jl hJ' rfl rfl rfl (Nat.le_refl _) (fun _ _ _ => rfl) (Snap.le_refl _) (fun _ _ _ h => .inl h) hs (fun b hb => .inl (.inl hb)), Nat.le_trans h.jj.2.1 hsz, h.jj.2.2⟩
  · rcases hS' b hb with h1 | h1
    · exact hS b h1
    · exact ⟨fun ho => by have := h.own_lt ho; omega, Nat.le_trans h.jj.2.1 h1⟩
end
/-- What the iterator asks of a round. -/
def RoundR (J Jx : Snap → (Nat → Prop) → World → Prop) (m : Snap) (S : Nat → Prop) (w : World) : Ending → World → Prop :=
  fun e w' => w.heap.size ≤ w'.heap.size ∧ (∀ b, S b → w'.heap[b]? = w.heap[b]?) ∧ ∃ m', Snap.le m m' ∧ (∀ b i v, m' b i = some v → w'.cell? ⟨b, i, none⟩ = some v) ∧ (∀ b, S b → ∀ i, m' b i = none) ∧
    ((e = .returned (.bool true) ∧ J m' S w') ∨ (e = .returned (.bool false) ∧ Jx m' S w'))
/-- What the rounds keep to: at the next one of these the caller's side goes on, or it says so and is done. -/
def YieldOk {α : Type} (P : Program) (args : Snap → Array Value → α → Prop) (l : Nat) (J : List α → Snap → (Nat → Prop) → World → Prop) (Jx : Snap → (Nat → Prop) → World → Prop) (xs : List α) : Prop :=
  ∀ pre x post m S w vs, xs = pre ++ x :: post → J pre m S w → (∀ b i v, m b i = some v → w.cell? ⟨b, i, none⟩ = some v) → (∀ b, S b → b < w.heap.size ∧ ∀ i, m b i = none) → args m vs x →
    YieldAt Fence.wide 0 P l vs w (RoundR (J (pre ++ [x])) Jx m S w)
def SeqPost {α : Type} (J : List α → Snap → (Nat → Prop) → World → Prop) (Jx : Snap → (Nat → Prop) → World → Prop) (xs : List α) : Ending → World → Prop :=
  fun e w' => (∃ v, e = .returned v) ∧ ∃ m', (J xs m' (fun _ => False) w' ∨ Jx m' (fun _ => False) w')
/-- What a function that is ranged over keeps to: it yields just these, in this order, and stops when a round has said so; 'fin' false: nothing is said of what comes behind these. -/
def SeqOk {α : Type} (P : Program) (args : Snap → Array Value → α → Prop) (f : FuncId) (cap : Array Value) (m0 : Snap) (xs : List α) (fin : Bool) : Prop :=
  ∀ (l : Nat) (J : List α → Snap → (Nat → Prop) → World → Prop) (Jx : Snap → (Nat → Prop) → World → Prop), (∀ pre, JL (J pre)) → JL Jx → YieldOk P args l J Jx xs → (fin = false → ∀ m S w, ¬ J xs m S w) →
    ∀ m w, Snap.le m0 m → (∀ b i v, m b i = some v → w.cell? ⟨b, i, none⟩ = some v) → J [] m (fun _ => False) w →
      Calls P f (#[.func (.yield l) #[] #[]] ++ cap) w (SeqPost J Jx xs)
end Go.Ph
namespace Go.Ph
open Go.RowKit (Below)
universe u
variable {P : Program}
/-- The block of the rounds' deferred calls and the loop's record lie as they lay. -/
def recJ (D l : Nat) (r : Loop) (J : Snap → (Nat → Prop) → World → Prop) : Snap → (Nat → Prop) → World → Prop :=
  fun m S w => J m (fun b => S b ∨ b = D ∨ b = l) w ∧ (w.heap[D]? = some (.deferred (some [])) ∧ ¬ S D) ∧ w.heap[l]? = some (.loop r) ∧ ¬ S l
theorem lt_of_heap {w : World} {b : Nat} {o : Obj} (h : w.heap[b]? = some o) : b < w.heap.size := by
  rcases Nat.lt_or_ge b w.heap.size with hl | hl
  · exact hl
  · rw [Array.getElem?_eq_none hl] at h; cases h
theorem recJ_law {D l : Nat} {r : Loop} {J : Snap → (Nat → Prop) → World → Prop} (hJ : JL J) : JL (recJ D l r J) := by
  intro m m' S S' w w' h ho ht hu hsz hk hle hn hs hS
  obtain ⟨h1, ⟨h2, h3⟩, h4, h5⟩ := h
  have a1 := lt_of_heap h2
  have a2 := lt_of_heap h4
  refine ⟨hJ h1 ho ht hu hsz (fun k hk1 hk2 => hk k hk1 (fun h => hk2 (.inl h))) hle (fun b i v hv => (hn b i v hv).imp id (Or.imp .inl id)) hs (fun b hb => ?_),
    ⟨by rw [hk D a1 h3]; exact h2, fun h => (hS D h).elim h3 (fun h => by omega)⟩, by rw [hk l a2 h5]; exact h4, fun h => (hS l h).elim h5 (fun h => by omega)⟩
  rcases hb with h | h
  · exact (hS b h).imp .inl id
  · exact .inl (.inr h)
/-- Behind the loop. -/
def defJ (D : Nat) (J : Snap → (Nat → Prop) → World → Prop) : Snap → (Nat → Prop) → World → Prop :=
  fun m S w => J m (fun b => S b ∨ b = D) w ∧ w.heap[D]? = some (.deferred (some [])) ∧ ¬ S D
theorem defJ_law {D : Nat} {J : Snap → (Nat → Prop) → World → Prop} (hJ : JL J) : JL (defJ D J) := by
  intro m m' S S' w w' h ho ht hu hsz hk hle hn hs hS
  obtain ⟨h1, h2, h3⟩ := h
  have a1 := lt_of_heap h2
  refine ⟨hJ h1 ho ht hu hsz (fun k hk1 hk2 => hk k hk1 (fun h => hk2 (.inl h))) hle (fun b i v hv => (hn b i v hv).imp id (Or.imp .inl id)) hs (fun b hb => ?_), by rw [hk D a1 h3]; exact h2, fun h => (hS D h).elim h3 (fun h => by omega)⟩
  rcases hb with h | h
  · exact (hS b h).imp .inl id
  · exact .inl (.inr h)
/-- The caller's side, between two rounds. -/
def CallJ {α σ : Type} (K : Cx) (go : List α → σ → Prop) (Bf : σ → Bs P) (xs pre : List α) : Snap → (Nat → Prop) → World → Prop :=
  fun m S w => ∃ st post, xs = pre ++ post ∧ go post st ∧ ∃ β γ κ, WH K m β γ κ (Bf st) w ∧ K.J m (fun b => own β γ (Bf st) b ∨ S b) w ∧ ∀ b, S b → ¬ own β γ (Bf st) b ∧ K.B0 ≤ b
theorem CallJ_law {α σ : Type} {K : Cx} {go : List α → σ → Prop} {Bf : σ → Bs P} {xs pre : List α} : JL (CallJ K go Bf xs pre) := by
  intro m m' S S' w w' h ho ht hu hsz hk hle hn hs hS
  obtain ⟨st, post, hx, hg, β, γ, κ, hw, hJ, hSS⟩ := h
  obtain ⟨a, b, c⟩ := hw.beside hJ hSS ho ht hu hsz hk hle hn hs hS
  exact ⟨st, post, hx, hg, β, γ, κ, a, b, c⟩
/-- The same knowledge under another condition on the world beside. -/
theorem WH.re {K K' : Cx} {m : Snap} {β : Nat → Nat} {γ : Nat → Value} {κ : Nat → List Value} {B : Bs P} {w w' : World} (h : WH K m β γ κ B w) (e0 : K'.w0 = K.w0) (hm0 : Snap.le K'.m0 m) (hnew : ∀ b i v, m b i = some v → K'.m0 b i = some v ∨ K'.B0 ≤ b)
    (hk : ∀ b, own β γ B b → w'.heap[b]? = w.heap[b]?) (hs : ∀ b i v, m b i = some v → w'.cell? ⟨b, i, none⟩ = some v) (hsz : w.heap.size ≤ w'.heap.size)
    (hJ : K'.J m (own β γ B) w') (hp : (∀ b c, K'.pin b = some c → β b = c) ∧ ∀ n v, K'.ping n = some v → γ n = v) : WH K' m β γ κ B w' := by
  have eB : K'.B0 = K.B0 := by unfold Cx.B0; rw [e0]
  refine ⟨hs, hm0, hnew, fun x bv hx => ?_, h.inj, fun x gv hx => ?_, h.gbox, h.ginj, h.tie, ⟨hJ, by rw [eB]; exact Nat.le_trans h.jj.2.1 hsz, hp⟩⟩
  · obtain ⟨⟨T, hT⟩, hr, hB, hi⟩ := h.box x bv hx
    exact ⟨⟨T, by rw [hk _ (.inl ⟨x, bv, hx, rfl⟩)]; exact hT⟩, hr, by rw [eB]; exact hB, hi⟩
  · have hg : GrowOk K' (priv x) m w (γ x) gv := by
      obtain ⟨⟨cs, h1, h2⟩, h3⟩ := h.grow x gv hx
      exact ⟨⟨cs, by rw [eB]; exact h1, h2⟩, h3⟩
    exact hg.keep (fun b hb => hk b (.inr ⟨x, gv, hx, hb⟩)) (Snap.le_refl _) fun _ _ _ h => h
def pinOf : List Nat → (Nat → Nat) → Nat → Option Nat
  | [], _, _ => none
  | p :: ps, cs, b => bif Nat.beq p b then some (cs p) else pinOf ps cs b
theorem pinOf_self {β : Nat → Nat} {b c : Nat} : ∀ {ps : List Nat}, pinOf ps β b = some c → β b = c
  | [], h => by cases h
  | p :: ps, h => by
    unfold pinOf at h
    cases hb : Nat.beq p b with
    | true =>
      rw [hb] at h
      have e := Nat.eq_of_beq_eq_true hb
      rw [cond_true] at h
      cases h
      rw [e]
    | false => rw [hb] at h; exact pinOf_self h
theorem SeqOk.mono {α : Type} {args : Snap → Array Value → α → Prop} {f : FuncId} {cap : Array Value} {m0 m1 : Snap} {xs : List α} {fin : Bool} (h : SeqOk P args f cap m0 xs fin) (hle : Snap.le m0 m1) : SeqOk P args f cap m1 xs fin :=
  fun l J Jx hJ hJx hy hf m w hm hs h0 => h l J Jx hJ hJx hy hf m w (Snap.le_trans hle hm) hs h0
/-- A sequence: a function that yields just these. -/
structure Sq (α : Type) where
  xs : List α
  fin : Bool
structure Sq2 (α δ : Type) where
  xs : List (α × δ)
  fin : Bool
def args1 {α : Type} [Rp P α] (m : Snap) (vs : Array Value) (x : α) : Prop := ∃ v, vs = #[v] ∧ vrel (P := P) m v x
def args2 {α δ : Type} [Rp P α] [Rp P δ] (m : Snap) (vs : Array Value) (x : α × δ) : Prop := ∃ v u, vs = #[v, u] ∧ vrel (P := P) m v x.1 ∧ vrel (P := P) m u x.2
instance rpSq (α : Type) [Rp P α] : Rp P (Sq α) where
  sz := 1
  agg := false
  rel := fun m cs F => ∃ fn cap, cs = [.func (.func fn) #[] cap] ∧ callable P fn = true ∧ SeqOk P (args1 (P := P)) fn cap m F.xs F.fin
  len := by rintro m cs x ⟨fn, cap, rfl, _⟩; rfl
  ok := by rintro m cs x ⟨fn, cap, rfl, _⟩ c hc; simp only [List.mem_singleton] at hc; subst hc; rfl
  one := fun _ => rfl
  mono := by
    rintro m m' cs F hle ⟨fn, cap, rfl, hc, h⟩
    exact ⟨fn, cap, rfl, hc, h.mono hle⟩
instance rpSq2 (α δ : Type) [Rp P α] [Rp P δ] : Rp P (Sq2 α δ) where
  sz := 1
  agg := false
  rel := fun m cs F => ∃ fn cap, cs = [.func (.func fn) #[] cap] ∧ callable P fn = true ∧ SeqOk P (args2 (P := P)) fn cap m F.xs F.fin
  len := by rintro m cs x ⟨fn, cap, rfl, _⟩; rfl
  ok := by rintro m cs x ⟨fn, cap, rfl, _⟩ c hc; simp only [List.mem_singleton] at hc; subst hc; rfl
  one := fun _ => rfl
  mono := by
    rintro m m' cs F hle ⟨fn, cap, rfl, hc, h⟩
    exact ⟨fn, cap, rfl, hc, h.mono hle⟩
end Go.Ph
namespace Go.Ph
open Go.RowKit (Below)
variable {P : Program}
/-- The iterator's own blocks lie as they lay when the round began. -/
def protJ (mk : Nat → Prop) (wr : World) (J : Snap → (Nat → Prop) → World → Prop) : Snap → (Nat → Prop) → World → Prop :=
  fun m S w => J m (fun b => S b ∨ mk b) w ∧ wr.heap.size ≤ w.heap.size ∧ ∀ b, mk b → b < wr.heap.size ∧ w.heap[b]? = wr.heap[b]? ∧ ¬ S b ∧ ∀ i, m b i = none
theorem protJ_law {mk : Nat → Prop} {wr : World} {J : Snap → (Nat → Prop) → World → Prop} (hJ : JL J) : JL (protJ mk wr J) := by
  intro m m' S S' w w' h ho ht hu hsz hk hle hn hs hS
  obtain ⟨h1, h2, h3⟩ := h
  refine ⟨hJ h1 ho ht hu hsz (fun k hk1 hk2 => hk k hk1 (fun h => hk2 (.inl h))) hle (fun b i v hv => (hn b i v hv).imp id (Or.imp .inl id)) hs (fun b hb => ?_), Nat.le_trans h2 hsz, fun b hb => ?_⟩
  · rcases hb with h | h
    · exact (hS b h).imp .inl id
    · exact .inl (.inr h)
  · obtain ⟨a1, a2, a3, a4⟩ := h3 b hb
    refine ⟨a1, (hk b (by omega) a3).trans a2, fun h => (hS b h).elim a3 (fun h => by omega), fun i => ?_⟩
    cases hq : m' b i with
    | none => rfl
    | some v =>
      rcases hn b i v hq with h | h | h
      · rw [a4 i] at h; cases h
      · exact absurd h a3
      · omega
/-- A round's frame of reference: the record stands as r says; from the snapshot and the world that the round began with. -/
def Cx.rnd (K : Cx) (D l : Nat) (r : Loop) (ps : List Nat) (cs : Nat → Nat) (mr : Snap) (mk : Nat → Prop) (wr : World) : Cx :=
  ⟨K.n, K.w0, mr, [], some l, protJ mk wr (recJ D l r K.J), protJ_law (recJ_law K.jl), pinOf ps cs, K.ping⟩
/-- Behind the loop. -/
def Cx.aft (K : Cx) (D : Nat) : Cx :=
  ⟨K.n, K.w0, K.m0, { target := .collected D, args := #[] } :: K.D, K.rd, defJ D K.J, defJ_law K.jl, fun _ => none, K.ping⟩
/-- Slots that still hold behind a round. -/
def AV.firm (ps : List Nat) : AV P → Bool
  | .p b _ => ps.any (Nat.beq b)
  | .cl _ bs => bs.all fun b => ps.any (Nat.beq b)
  | .g _ => false
  | .ge _ _ => false
  | .any => true
  | .t2 a b => a.firm ps && b.firm ps
  | .t3 a b c => a.firm ps && b.firm ps && c.firm ps
  | _ => true
theorem pinOf_mem {b : Nat} {cs : Nat → Nat} : ∀ {ps : List Nat}, ps.any (Nat.beq b) = true → pinOf ps cs b = some (cs b)
  | [], h => by cases h
  | p :: ps, h => by
    unfold pinOf
    cases hb : Nat.beq p b with
    | true => rw [cond_true, Nat.eq_of_beq_eq_true hb]
    | false =>
      rw [cond_false]
      simp only [List.any_cons, Bool.or_eq_true] at h
      rcases h with h | h
      · have := Nat.eq_of_beq_eq_true h
        subst this; simp at hb
      · exact pinOf_mem h
theorem AV.firm_holds {ps : List Nat} {cs β β' : Nat → Nat} {γ γ' : Nat → Value} {m m' : Snap} (hle : Snap.le m m') (h1 : ∀ b c, pinOf ps cs b = some c → β b = c) (h2 : ∀ b c, pinOf ps cs b = some c → β' b = c) :
    ∀ {x : AV P} {v : Value}, x.firm ps = true → x.holds β γ m v → x.holds β' γ' m' v
  | @AV.d _ _ i y, v, _, h => by
    have := AV.holds_mono (x := AV.d (P := P) y) hle h
    exact AV.closed_holds rfl this
  | .x u, v, _, h => h
  | .p b o, v, hf, h => by
    have h : v = .pointer (some ⟨β b, o, none⟩) := h
    have e := pinOf_mem (cs := cs) hf
    show v = .pointer (some ⟨β' b, o, none⟩)
    rw [h, h1 b _ e, h2 b _ e]
  | .g _, _, hf, _ => by cases hf
  | .ge _ _, _, hf, _ => by cases hf
  | .any, v, _, h => trivial
  | .cl f bs, v, hf, h => by
    show v = _
    have h : v = _ := h
    rw [h]; congr 2
    refine List.map_congr_left fun b hb => ?_
    have e := pinOf_mem (cs := cs) (List.all_eq_true.1 hf b hb)
    rw [h1 b _ e, h2 b _ e]
  | .t2 a b, v, hf, ⟨va, vb, e, ha, hb⟩ => by
    simp only [AV.firm, Bool.and_eq_true] at hf
    exact ⟨va, vb, e, AV.firm_holds hle h1 h2 hf.1 ha, AV.firm_holds hle h1 h2 hf.2 hb⟩
  | .t3 a b c, v, hf, ⟨va, vb, vc, e, ha, hb, hc⟩ => by
    simp only [AV.firm, Bool.and_eq_true] at hf
    exact ⟨va, vb, vc, e, AV.firm_holds hle h1 h2 hf.1.1 ha, AV.firm_holds hle h1 h2 hf.1.2 hb, AV.firm_holds hle h1 h2 hf.2 hc⟩
theorem putObj_cell {w : World} {l : Nat} {r r' : Loop} (hl : w.heap[l]? = some (.loop r)) (b i : Nat) (v : Value) (hv : w.cell? ⟨b, i, none⟩ = some v) : (w.putObj l (.loop r')).cell? ⟨b, i, none⟩ = some v := by
  have hne : b ≠ l := fun e => by subst e; simp [World.cell?, hl] at hv
  unfold World.cell? at hv ⊢
  rw [World.putObj_heap_other hne]; exact hv
theorem Z_begin {K : Cx} {D l : Nat} {r : Loop} {ps : List Nat} {cs : Nat → Nat} {mr : Snap} {mk : Nat → Prop} {wr : World} {s : St P} {body : Code} {R : Ending → World → Prop} (hr : r.state = .ready) (hmk : ¬ mk l)
    (h : T (K.rnd D l { r with state := .busy } ps cs mr mk wr) s body (roundPost P l R)) :
    Z (K.rnd D l r ps cs mr mk wr) s .normal (Exit.then (fun a₁ w₁ => ∃ w₂, (Instr.beginRound l).run P w₁ = .ok () w₂ ∧ body.wpIn (fc (some l)) 0 P (roundPost P l R) a₁ w₂) (fun _ _ _ => False)) := by
  intro m β γ κ a w ha hw
  obtain ⟨⟨hJ, ⟨hD, hnD⟩, hl, hnl⟩, hsz, hmk'⟩ := hw.jj.1
  have hlt := lt_of_heap hl
  have hDl : D ≠ l := fun e => by subst e; rw [hD] at hl; cases hl
  have hown : ¬ own β γ s.B l := fun h => hnl (.inl h)
  refine ⟨_, run_beginRound hl hr, h m β γ κ a _ ⟨ha.defers, ha.size, ha.slot⟩ (hw.re rfl hw.le hw.new (fun b hb => World.putObj_heap_other (fun e => hown (e ▸ hb))) (fun b i v hv => putObj_cell hl b i v (hw.sees b i v hv)) (by simp) ⟨⟨?_, ⟨?_, hnD⟩, World.putObj_heap_same hlt, hnl⟩, by simpa using hsz, fun b hb => ?_⟩ hw.jj.2.2)⟩
  · exact K.jl hJ rfl rfl rfl (by simp) (fun k _ hk => World.putObj_heap_other (fun e => hk (.inr (.inr e)))) (Snap.le_refl _) (fun _ _ _ h => .inl h) (fun b i v hv => putObj_cell hl b i v (hw.sees b i v hv)) (fun _ h => .inl h)
  · exact (World.putObj_heap_other hDl).trans hD
  · obtain ⟨a1, a2, a3, a4⟩ := hmk' b hb
    exact ⟨a1, (World.putObj_heap_other (k := b) (fun e => hmk (by rw [← e]; exact hb))).trans a2, a3, a4⟩
end Go.Ph
namespace Go.Ph
open Go.RowKit (Below)
variable {P : Program}
/-- Between two rounds. -/
def Cx.mid (K : Cx) (D l : Nat) (r : Loop) (ps : List Nat) (cs : Nat → Nat) : Cx :=
  ⟨K.n, K.w0, K.m0, [], none, recJ D l r K.J, recJ_law K.jl, pinOf ps cs, K.ping⟩
/-- At a round's end, whichever: the record turned to r', the caller's state is as it was left. -/
theorem round_end {K : Cx} {D l : Nat} {rb r' : Loop} {ps : List Nat} {cs : Nat → Nat} {mr : Snap} {mk : Nat → Prop} {wr : World} {B : Bs P} {m : Snap} {β : Nat → Nat} {γ : Nat → Value} {κ : Nat → List Value} {w : World}
    (hm0 : Snap.le K.m0 mr) (hn0 : ∀ b i v, mr b i = some v → K.m0 b i = some v ∨ K.B0 ≤ b) (hmB : ∀ b, mk b → K.B0 ≤ b) (hmk : ¬ mk l) (hw : WH (K.rnd D l rb ps cs mr mk wr) m β γ κ B w) :
    w.heap[l]? = some (.loop rb) ∧ wr.heap.size ≤ (w.putObj l (.loop r')).heap.size ∧ (∀ b, mk b → (w.putObj l (.loop r')).heap[b]? = wr.heap[b]?) ∧ Snap.le mr m ∧
      (∀ b i v, m b i = some v → (w.putObj l (.loop r')).cell? ⟨b, i, none⟩ = some v) ∧ (∀ b, mk b → ∀ i, m b i = none) ∧
      WH (K.mid D l r' ps cs) m β γ κ B (w.putObj l (.loop r')) ∧ (K.mid D l r' ps cs).J m (fun b => own β γ B b ∨ mk b) (w.putObj l (.loop r')) ∧ ∀ b, mk b → ¬ own β γ B b ∧ (K.mid D l r' ps cs).B0 ≤ b := by
  obtain ⟨⟨hJ, ⟨hD, hnD⟩, hl, hnl⟩, hsz, hmk'⟩ := hw.jj.1
  have hlt := lt_of_heap hl
  have hDl : D ≠ l := fun e => by subst e; rw [hD] at hl; cases hl
  have hown : ¬ own β γ B l := fun h => hnl (.inl h)
  have hs' : ∀ b i v, m b i = some v → (w.putObj l (.loop r')).cell? ⟨b, i, none⟩ = some v := fun b i v hv => putObj_cell hl b i v (hw.sees b i v hv)
  have hJ2 : (K.mid D l r' ps cs).J m (fun b => own β γ B b ∨ mk b) (w.putObj l (.loop r')) :=
    ⟨K.jl hJ rfl rfl rfl (by simp) (fun k _ hk => World.putObj_heap_other (fun e => hk (.inr (.inr e)))) (Snap.le_refl _) (fun _ _ _ h => .inl h) hs' (fun _ h => .inl h), ⟨(World.putObj_heap_other hDl).trans hD, hnD⟩, World.putObj_heap_same hlt, hnl⟩
  have hnew : ∀ b i v, m b i = some v → K.m0 b i = some v ∨ K.B0 ≤ b := fun b i v hv => (hw.new b i v hv).elim (fun h => hn0 b i v h) .inr
  refine ⟨hl, by simpa using hsz, fun b hb => (World.putObj_heap_other (k := b) (fun e => hmk (by rw [← e]; exact hb))).trans (hmk' b hb).2.1, hw.le, hs', fun b hb => (hmk' b hb).2.2.2, ?_, hJ2, fun b hb => ⟨(hmk' b hb).2.2.1, hmB b hb⟩⟩
  exact hw.re rfl (Snap.le_trans hm0 hw.le) hnew (fun b hb => World.putObj_heap_other (fun e => hown (e ▸ hb))) hs' (by simp)
    ((K.mid D l r' ps cs).jl hJ2 rfl rfl rfl (Nat.le_refl _) (fun _ _ _ => rfl) (Snap.le_refl _) (fun _ _ _ h => .inl h) hs' (fun b hb => .inl (.inl hb))) hw.jj.2.2
end Go.Ph
namespace Go.Ph
open Go.RowKit (Below)
variable {P : Program}
/-- How a round is left that ends the loop. -/
inductive Jmp where
  | ret
  | exit (id : Nat)
@[reducible] def Jmp.code : Jmp → Code
  | .ret => .ret
  | .exit id => .exit id
@[reducible] def Jmp.ex : Jmp → Exit
  | .ret => .ret
  | .exit id => .exit id
/-- The loop's record when a round has ended the loop. -/
def doneRec (r : Loop) (j : Jmp) : Loop := { r with state := .done, pending := some j.code }
/-- The caller's side when a round has ended the loop. -/
def CallX {τ : Type} (K : Jmp → Cx) (ex : τ → Prop) (jm : τ → Jmp) (Bx : τ → Bs P) : Snap → (Nat → Prop) → World → Prop :=
  fun m S w => ∃ t, ex t ∧ ∃ β γ κ, WH (K (jm t)) m β γ κ (Bx t) w ∧ (K (jm t)).J m (fun b => own β γ (Bx t) b ∨ S b) w ∧ ∀ b, S b → ¬ own β γ (Bx t) b ∧ (K (jm t)).B0 ≤ b
theorem CallX_law {τ : Type} {K : Jmp → Cx} {ex : τ → Prop} {jm : τ → Jmp} {Bx : τ → Bs P} : JL (CallX K ex jm Bx) := by
  intro m m' S S' w w' h ho ht hu hsz hk hle hn hs hS
  obtain ⟨t, hx, β, γ, κ, hw, hJ, hSS⟩ := h
  obtain ⟨a, b, c⟩ := hw.beside hJ hSS ho ht hu hsz hk hle hn hs hS
  exact ⟨t, hx, β, γ, κ, a, b, c⟩
theorem Z_next {α σ : Type} {K : Cx} {D l : Nat} {r : Loop} {ps : List Nat} {cs : Nat → Nat} {mr : Snap} {mk : Nat → Prop} {wr : World} {sl' : List (Nat × AV P)} {go : List α → σ → Prop} {Bf : σ → Bs P} {xs pre post : List α} {x : α} {Jx : Snap → (Nat → Prop) → World → Prop} {st : σ}
    (hr : r.state = .ready) (hp : r.pending = none) (hm0 : Snap.le K.m0 mr) (hn0 : ∀ b i v, mr b i = some v → K.m0 b i = some v ∨ K.B0 ≤ b) (hmB : ∀ b, mk b → K.B0 ≤ b) (hmk : ¬ mk l) (hxs : xs = pre ++ x :: post) (hgo : go post st) :
    Z (K.rnd D l { r with state := .busy } ps cs mr mk wr) ⟨sl', Bf st⟩ .normal (roundPost P l (RoundR (CallJ (K.mid D l r ps cs) go Bf xs (pre ++ [x])) Jx mr mk wr)) := by
  intro m β γ κ a w ha hw
  obtain ⟨h1, h2, h3, h4, h5, h6, h7, h8, h9⟩ := round_end (r' := r) hm0 hn0 hmB hmk hw
  have he := run_endRound (P := P) none h1
  have e : ({ ({ r with state := .busy } : Loop) with state := if (none : Option Code).isNone then .ready else .done, pending := none } : Loop) = r := by
    cases r; simp only at hr hp; subst hr; subst hp; rfl
  rw [e] at he
  exact ⟨.bool true, w.putObj l (.loop r), he, h2, h3, m, h4, h5, h6, .inl ⟨rfl, st, post, by rw [hxs, List.append_assoc]; rfl, hgo, β, γ, κ, h7, h8, h9⟩⟩
theorem Z_out {τ : Type} {K : Cx} {D l : Nat} {r : Loop} {ps : List Nat} {cs : Nat → Nat} {mr : Snap} {mk : Nat → Prop} {wr : World} {sl' : List (Nat × AV P)} {ex : τ → Prop} {jm : τ → Jmp} {Bx : τ → Bs P} {Jn : Snap → (Nat → Prop) → World → Prop} {t : τ}
    (hm0 : Snap.le K.m0 mr) (hn0 : ∀ b i v, mr b i = some v → K.m0 b i = some v ∨ K.B0 ≤ b) (hmB : ∀ b, mk b → K.B0 ≤ b) (hmk : ¬ mk l) (hex : ex t) :
    Z (K.rnd D l { r with state := .busy } ps cs mr mk wr) ⟨sl', Bx t⟩ (jm t).ex (roundPost P l (RoundR Jn (CallX (fun j => K.mid D l (doneRec r j) ps cs) ex jm Bx) mr mk wr)) := by
  intro m β γ κ a w ha hw
  obtain ⟨h1, h2, h3, h4, h5, h6, h7, h8, h9⟩ := round_end (r' := doneRec r (jm t)) hm0 hn0 hmB hmk hw
  have he := run_endRound (P := P) (some (jm t).code) h1
  have hR : RoundR Jn (CallX (fun j => K.mid D l (doneRec r j) ps cs) ex jm Bx) mr mk wr (.returned (.bool false)) (w.putObj l (.loop (doneRec r (jm t)))) :=
    ⟨h2, h3, m, h4, h5, h6, .inr ⟨rfl, t, hex, β, γ, κ, h7, h8, h9⟩⟩
  cases hj : jm t with
  | ret => rw [hj] at he hR; exact ⟨_, _, he, hR⟩
  | exit id => rw [hj] at he hR; exact ⟨_, _, he, hR⟩
theorem sq_of {α : Type} [Rp P α] {m : Snap} {v : Value} {F : Sq α} (h : vrel (P := P) m v F) : ∃ fn cap, v = .func (.func fn) #[] cap ∧ callable P fn = true ∧ SeqOk P (args1 (P := P)) fn cap m F.xs F.fin := by
  have e := vrel.eq_mkV h
  obtain ⟨⟨fn, cap, h1, h2, h3⟩, _⟩ := h
  rw [h1] at e
  exact ⟨fn, cap, e, h2, h3⟩
theorem sq2_of {α δ : Type} [Rp P α] [Rp P δ] {m : Snap} {v : Value} {F : Sq2 α δ} (h : vrel (P := P) m v F) : ∃ fn cap, v = .func (.func fn) #[] cap ∧ callable P fn = true ∧ SeqOk P (args2 (P := P)) fn cap m F.xs F.fin := by
  have e := vrel.eq_mkV h
  obtain ⟨⟨fn, cap, h1, h2, h3⟩, _⟩ := h
  rw [h1] at e
  exact ⟨fn, cap, e, h2, h3⟩
/-- The range, over any function that keeps to its promise: 'setp' lays a round's data into the slots. -/
theorem T_rangeG {α σ τ : Type} {K : Cx} {s : St P} {g : Operand} {prs : Array Tmp} {assign body : Code} {Q : Exit → Act → World → Prop} {args : Snap → Array Value → α → Prop} {X : List α} {fin : Bool}
    (ps : List Nat) (sl : List (Nat × AV P)) (Bf : σ → Bs P) (Bx : τ → Bs P) (jm : τ → Jmp) (go : List α → σ → Prop) (ex : τ → Prop) (st0 : σ) (slx : α → List (Nat × AV P))
    (hF : ∀ m β γ a, AH K m β γ s.sl a → ∃ fn cap, a.eval g = .func (.func fn) #[] cap ∧ callable P fn = true ∧ SeqOk P args fn cap m X fin) (hrd : K.rd = none) (hle : Le ⟨sl, Bf st0⟩ s) (hfirm : ∀ t y, lk sl t = some y → y.firm ps = true)
    (hprs : ∀ m (vs : Array Value) x, args m vs x → vs.size = prs.size)
    (hput : ∀ (m : Snap) (vs : Array Value) (x : α) (tmps : Array Value) (β : Nat → Nat) (γ : Nat → Value), args m vs x → tmps.size = K.n → (∀ t y, lk sl t = some y → ∃ v, tmps[t]? = some v ∧ y.holds β γ m v) →
      (∀ t y, lk (slx x) t = some y → ∃ v, ((prs.zip vs).foldl (fun tmps (t, a) => tmps.setIfInBounds t a) tmps)[t]? = some v ∧ y.holds β γ m v) ∧ ((prs.zip vs).foldl (fun tmps (t, a) => tmps.setIfInBounds t a) tmps).size = K.n)
    (hgo : go X st0) (hstuck : fin = false → ∀ st, ¬ go [] st)
    (hround : ∀ x post st, go (x :: post) st → ∀ (D l : Nat) (r : Loop) (cs : Nat → Nat) (mr : Snap) (mk : Nat → Prop) (wr : World) (R : Ending → World → Prop), ¬ mk l → r.state = .ready →
      (∀ st' sl', go post st' → Z (K.rnd D l { r with state := .busy } ps cs mr mk wr) ⟨sl', Bf st'⟩ .normal (roundPost P l R)) →
      (∀ t sl', ex t → Z (K.rnd D l { r with state := .busy } ps cs mr mk wr) ⟨sl', Bx t⟩ (jm t).ex (roundPost P l R)) →
      T (K.rnd D l r ps cs mr mk wr) ⟨slx x, Bf st⟩ assign (Exit.then (fun a₁ w₁ => ∃ w₂, (Instr.beginRound l).run P w₁ = .ok () w₂ ∧ body.wpIn (fc (some l)) 0 P (roundPost P l R) a₁ w₂) (fun _ _ _ => False)))
    (hend : ∀ D st, go [] st → Z (K.aft D) ⟨sl, Bf st⟩ .normal Q) (hexit : ∀ D t, ex t → Z (K.aft D) ⟨sl, Bx t⟩ (jm t).ex Q) :
    T K s (.rangeFunc g prs assign body) Q := by
  intro m β γ κ a w ha hw
  obtain ⟨fn, cap, ev, hcall, hseq⟩ := hF m β γ a ha
  obtain ⟨fnc, hfc1, hfc2, hfc3⟩ := callable_fn hcall
  have hfw : fc K.rd = Fence.wide := by rw [hrd]; rfl
  have hw0 := hw.le' hle
  refine wpIn_rangeFunc fun fnid _ => ?_
  generalize hr : ({ state := .ready, pending := none, fn := fnid, tmps := a.tmps, params := prs, assign, body, defers := w.heap.size } : Loop) = r
  have hrs : r.state = .ready := by rw [← hr]
  have hrp : r.pending = none := by rw [← hr]
  have hrt : r.tmps = a.tmps := by rw [← hr]
  have hrps : r.params = prs := by rw [← hr]
  have hra : r.assign = assign := by rw [← hr]
  have hrb : r.body = body := by rw [← hr]
  generalize hw1 : (w.alloc (.deferred (some []))).alloc (.loop r) = w1
  have hheapD : w1.heap[w.heap.size]? = some (.deferred (some [])) := by
    rw [← hw1]
    show ((w.heap.push (.deferred (some []))).push (.loop r))[w.heap.size]? = _
    rw [Array.getElem?_push_lt (by simp), Array.getElem_push_eq]
  have hheapl : w1.heap[w.heap.size + 1]? = some (.loop r) := by
    rw [← hw1]
    show ((w.heap.push (.deferred (some []))).push (.loop r))[w.heap.size + 1]? = _
    have : w.heap.size + 1 = (w.heap.push (.deferred (some []) : Obj)).size := by simp
    rw [this, Array.getElem?_push_size]
  have hlow : ∀ k, k < w.heap.size → w1.heap[k]? = w.heap[k]? := fun k hk => by
    rw [← hw1]
    show ((w.heap.push (.deferred (some []))).push (.loop r))[k]? = _
    rw [Array.getElem?_push_lt (by simp; omega), Array.getElem_push_lt hk, Array.getElem?_eq_getElem hk]
  have hsz1 : w1.heap.size = w.heap.size + 2 := by rw [← hw1]; simp
  have hos : w1.os = w.os ∧ w1.tape = w.tape ∧ w1.output = w.output := by rw [← hw1]; exact ⟨rfl, rfl, rfl⟩
  have hsees1 : ∀ b i v, m b i = some v → w1.cell? ⟨b, i, none⟩ = some v := fun b i v hv => by
    have h1 := hw.sees b i v hv
    have h2 := cell_lt h1
    unfold World.cell? at h1 ⊢
    rw [hlow b h2]; exact h1
  have hownlt : ∀ b, own β γ (Bf st0) b → b < w.heap.size := fun b hb => hw0.own_lt hb
  let Km : Cx := { K with m0 := m }
  have hKB : Km.B0 = K.B0 := rfl
  let J : List α → Snap → (Nat → Prop) → World → Prop := CallJ (Km.mid w.heap.size (w.heap.size + 1) r ps β) go Bf X
  let Jx : Snap → (Nat → Prop) → World → Prop := CallX (fun j => Km.mid w.heap.size (w.heap.size + 1) (doneRec r j) ps β) ex jm Bx
  refine ⟨w.heap.size + 1, [{ target := .collected w.heap.size, args := #[] }], w1, ⟨.fn (.func fn) cap, #[.func (.yield (w.heap.size + 1)) #[] #[]]⟩, w1, fn, #[.func (.yield (w.heap.size + 1)) #[] #[]] ++ cap, w1, ?_, ?_, fun _ _ => trivial, ?_, fun e => by simp [fc, Fence.wide] at e, ?_⟩
  · show (Instr.enterLoop fnid a.tmps prs assign body K.rd).run P w = _
    rw [hrd, run_enterLoop_outer, hr, hw1]
  · have ec : ∀ v : Value, a.eval (.const v) = v := fun _ => rfl
    simp [rangeCall, resolve, ev, ec, Deferred.ofValue]
  · simp [invoke, callFunc, hfc1, hfc2, hfc3]
  · rw [hfw]
    refine callsIn_wide.2 ((hseq (w.heap.size + 1) J Jx (fun _ => CallJ_law) CallX_law ?_ ?_ m w1 (Snap.le_refl _) hsees1 ?_).mono ?_)
    · -- the rounds
      intro pre x post m1 S w2 vs hxs hJ hs hS hargs
      obtain ⟨st, post', hx', hg, β1, γ1, κ1, hw1', hJ1, hSS⟩ := hJ
      have hpost : post' = x :: post := by rw [hxs] at hx'; exact (List.append_cancel_left hx').symm
      subst hpost
      obtain ⟨hJ2, ⟨hD2, hnD2⟩, hl2, hnl2⟩ := hJ1
      have hmk : ¬ S (w.heap.size + 1) := fun h => hnl2 (.inr h)
      have hm1 : Snap.le m m1 := hw1'.le
      have hn1 : ∀ b i v, m1 b i = some v → Km.m0 b i = some v ∨ Km.B0 ≤ b := hw1'.new
      have hmB : ∀ b, S b → Km.B0 ≤ b := fun b hb => (hSS b hb).2
      have hy := run_yield (P := P) (l := w.heap.size + 1) (args := vs) hl2 (by rw [hrps]; exact hprs _ _ _ hargs)
      refine ⟨r.fn, _, r.assign, r.body, hy, roundIn_of_wpIn trivial ?_⟩
      rw [hra, hrb]
      have hslots : ∀ t y, lk sl t = some y → ∃ v, a.tmps[t]? = some v ∧ y.holds β1 γ1 m1 v := fun t y hy => by
        obtain ⟨v, hv, hh⟩ := ha.slot t y (hle.sl t y hy)
        exact ⟨v, hv, AV.firm_holds (ps := ps) (cs := β) hm1 (fun b c h => pinOf_self h) hw1'.jj.2.2.1 (hfirm t y hy) hh⟩
      have hp2 := hput m1 vs x a.tmps β1 γ1 hargs ha.size hslots
      refine hround x post st hg w.heap.size (w.heap.size + 1) r β m1 S w2 (RoundR (J (pre ++ [x])) Jx m1 S w2) hmk hrs
        (fun st' sl' hg' => Z_next (K := Km) hrs hrp hm1 hn1 hmB hmk hxs hg') (fun t sl' hx => Z_out (K := Km) hm1 hn1 hmB hmk hx) m1 β1 γ1 κ1 _ w2 ⟨rfl, ?_, ?_⟩ ?_
      · rw [hrps, hrt]; exact hp2.2
      · rw [hrps, hrt]; exact hp2.1
      · refine hw1'.re rfl (Snap.le_refl _) (fun _ _ _ h => .inl h) (fun _ _ => rfl) hs (Nat.le_refl _) ⟨⟨hJ2, ⟨hD2, fun h => hnD2 h⟩, hl2, hnl2⟩, Nat.le_refl _, fun b hb => ⟨(hS b hb).1, rfl, (hSS b hb).1, (hS b hb).2⟩⟩ hw1'.jj.2.2
    · -- stuck
      rintro hf m1 S w2 ⟨st, post, hx, hg, _⟩
      have : post = [] := by
        have := congrArg List.length hx
        simp only [List.length_append] at this
        exact List.eq_nil_of_length_eq_zero (by omega)
      subst this
      exact hstuck hf st hg
    · -- the start
      have hJ0 : (recJ w.heap.size (w.heap.size + 1) r K.J) m (fun b => own β γ (Bf st0) b ∨ False) w1 := by
        refine ⟨K.jl hw0.jj.1 hos.1 hos.2.1 hos.2.2 (by omega) (fun k hk _ => hlow k hk) (Snap.le_refl _) (fun _ _ _ h => .inl h) hsees1 (fun b hb => ?_), ⟨hheapD, fun h => ?_⟩, hheapl, fun h => ?_⟩
        · rcases hb with (h | h) | h | h
          · exact .inl h
          · exact h.elim
          · exact .inr (by omega)
          · exact .inr (by omega)
        · rcases h with h | h
          · have := hownlt _ h; omega
          · exact h
        · rcases h with h | h
          · have := hownlt _ h; omega
          · exact h
      refine ⟨st0, X, rfl, hgo, β, γ, κ, hw0.re rfl (Snap.le_refl _) (fun _ _ _ h => .inl h) (fun b hb => hlow b (hownlt b hb)) hsees1 (by omega) ?_ ⟨fun b c h => pinOf_self h, hw0.jj.2.2.2⟩, hJ0, fun b h => h.elim⟩
      exact (recJ_law K.jl) hJ0 rfl rfl rfl (Nat.le_refl _) (fun _ _ _ => rfl) (Snap.le_refl _) (fun _ _ _ h => .inl h) hsees1 (fun b hb => .inl (.inl hb))
    · -- behind
      rintro e w' ⟨⟨v, rfl⟩, m', hJ⟩
      have key : ∀ {r' : Loop} {B : Bs P} {β1 : Nat → Nat} {γ1 : Nat → Value} {κ1 : Nat → List Value}, r'.state ≠ .busy → WH (Km.mid w.heap.size (w.heap.size + 1) r' ps β) m' β1 γ1 κ1 B w' →
          ∃ w4, (Instr.endLoop (w.heap.size + 1)).run P w' = .ok r'.pending w4 ∧ AH (K.aft w.heap.size) m' β1 γ1 sl { a with defers := [{ target := .collected w.heap.size, args := #[] }] ++ a.defers } ∧ WH (K.aft w.heap.size) m' β1 γ1 κ1 B w4 := by
        intro r' B β1 γ1 κ1 hb hw'
        obtain ⟨hJ2, ⟨hD2, hnD2⟩, hl2, hnl2⟩ := hw'.jj.1
        have hlt := lt_of_heap hl2
        have hsees2 : ∀ b i v, m' b i = some v → (w'.putObj (w.heap.size + 1) (.loop { r' with state := .exhausted })).cell? ⟨b, i, none⟩ = some v := fun b i v hv => putObj_cell hl2 b i v (hw'.sees b i v hv)
        refine ⟨_, run_endLoop hl2 hb, ⟨?_, ha.size, fun t y hy => ?_⟩, hw'.re rfl (Snap.le_trans hw.le hw'.le) (fun b i v hv => ?_) (fun b hb => World.putObj_heap_other (fun e => hnl2 (e ▸ hb))) hsees2 (by simp) ⟨?_, ?_, hnD2⟩ ⟨(fun _ _ h => by cases h), hw'.jj.2.2.2⟩⟩
        · show _ :: a.defers = _ :: K.D
          rw [ha.defers]
        · obtain ⟨v, hv, hh⟩ := ha.slot t y (hle.sl t y hy)
          exact ⟨v, hv, AV.firm_holds (ps := ps) (cs := β) hw'.le (fun b c h => pinOf_self h) hw'.jj.2.2.1 (hfirm t y hy) hh⟩
        · rcases hw'.new b i v hv with h | h
          · exact hw.new b i v h
          · exact .inr h
        · refine K.jl hJ2 rfl rfl rfl (by simp) (fun k _ hk => World.putObj_heap_other (fun e => hk (.inr (.inr e)))) (Snap.le_refl _) (fun _ _ _ h => .inl h) hsees2 (fun b hb => .inl ?_)
          rcases hb with h | h
          · exact .inl h
          · exact .inr (.inl h)
        · exact (World.putObj_heap_other (by omega)).trans hD2
      rcases hJ with ⟨st, post, hx, hg, β1, γ1, κ1, hw', _⟩ | ⟨t, hex, β1, γ1, κ1, hw', _⟩
      · have : post = [] := by
          have := congrArg List.length hx
          simp only [List.length_append] at this
          exact List.eq_nil_of_length_eq_zero (by omega)
        subst this
        obtain ⟨w4, h1, h2, h3⟩ := key (by rw [hrs]; simp) hw'
        exact ⟨none, w4, by rw [h1, hrp], hend _ st hg m' β1 γ1 κ1 _ w4 h2 h3⟩
      · obtain ⟨w4, h1, h2, h3⟩ := key (by simp [doneRec]) hw'
        refine ⟨some (jm t).code, w4, h1, ?_⟩
        have hq := hexit w.heap.size t hex
        show (jm t).code.wpIn Fence.wide 0 P Q _ w4
        rw [← hfw]
        revert hq
        cases jm t with
        | ret => intro hq; exact T_ret hq m' β1 γ1 κ1 _ w4 h2 h3
        | exit id => intro hq; exact T_exit hq m' β1 γ1 κ1 _ w4 h2 h3
end Go.Ph
/-! Functions that are lent boxes and rows, or hand back rows of their own. -/
namespace Go.Ph
open Go.RowKit (Below)
universe u
variable {P : Program}
def w00 (w : World) : World := { w with heap := #[] }
/-- What a call to which blocks S0 are lent may do. -/
def lendJ (m0 : Snap) (w0 : World) (S0 : Nat → Prop) : Snap → (Nat → Prop) → World → Prop := fun m S w =>
  w.os = w0.os ∧ w.tape = w0.tape ∧ w.output = w0.output ∧ w0.heap.size ≤ w.heap.size ∧ (∀ k, k < w0.heap.size → ¬ S0 k → w.heap[k]? = w0.heap[k]?) ∧
  (∀ b, S b → S0 b ∨ w0.heap.size ≤ b) ∧ ∀ b i v, m b i = some v → m0 b i = some v ∨ S0 b ∨ w0.heap.size ≤ b
theorem lendJ_law (m0 : Snap) (w0 : World) (S0 : Nat → Prop) : JL (lendJ m0 w0 S0) := by
  intro m m' S S' w w' h ho ht hu hsz hk _ hn _ hS
  obtain ⟨h1, h2, h3, h4, h5, h6, h7⟩ := h
  refine ⟨ho.trans h1, ht.trans h2, hu.trans h3, Nat.le_trans h4 hsz, fun k hk1 hk2 => ?_, fun b hb => ?_, fun b i v hv => ?_⟩
  · rw [hk k (by omega) (fun h => (h6 k h).elim hk2 (fun h => by omega))]; exact h5 k hk1 hk2
  · rcases hS b hb with h | h
    · exact h6 b h
    · exact .inr (by omega)
  · rcases hn b i v hv with h | h | h
    · exact h7 b i v h
    · exact .inr (h6 b h)
    · exact .inr (.inr (by omega))
def pingOf : List Nat → (Nat → Value) → Nat → Option Value
  | [], _, _ => none
  | p :: ps, cs, b => bif Nat.beq p b then some (cs p) else pingOf ps cs b
theorem pingOf_self {γ : Nat → Value} {b : Nat} {c : Value} : ∀ {ps : List Nat}, pingOf ps γ b = some c → γ b = c
  | [], h => by cases h
  | p :: ps, h => by
    unfold pingOf at h
    cases hb : Nat.beq p b with
    | true =>
      rw [hb, cond_true] at h
      cases h
      rw [Nat.eq_of_beq_eq_true hb]
    | false => rw [hb] at h; exact pingOf_self h
theorem pingOf_mem {b : Nat} {cs : Nat → Value} : ∀ {ps : List Nat}, ps.any (Nat.beq b) = true → pingOf ps cs b = some (cs b)
  | [], h => by cases h
  | p :: ps, h => by
    unfold pingOf
    cases hb : Nat.beq p b with
    | true => rw [cond_true, Nat.eq_of_beq_eq_true hb]
    | false =>
      rw [cond_false]
      simp only [List.any_cons, Bool.or_eq_true] at h
      rcases h with h | h
      · have := Nat.eq_of_beq_eq_true h
        subst this; simp at hb
      · exact pingOf_mem h
/-- What is left of a call's frame of reference at its end: its deferred marks, and the condition on the world. -/
structure Lv where
  D : List Deferred
  J : Snap → (Nat → Prop) → World → Prop
  jl : JL J
@[reducible] def Cx.lv (n : Nat) (w0 : World) (m0 : Snap) (pb : Nat → Option Nat) (pg : Nat → Option Value) (V : Lv) : Cx := ⟨n, w0, m0, V.D, none, V.J, V.jl, pb, pg⟩
@[reducible] def Lv.base (J : Snap → (Nat → Prop) → World → Prop) (jl : JL J) : Lv := ⟨[], J, jl⟩
@[reducible] def Lv.aft (V : Lv) (D : Nat) : Lv := ⟨{ target := .collected D, args := #[] } :: V.D, defJ D V.J, defJ_law V.jl⟩
/-- The marks are come to, one by one. -/
def Take (P : Program) : List Deferred → World → World → Prop
  | [], w, w' => w' = w
  | d :: ds, w, w' => ∃ D w1, d = { target := .collected D, args := #[] } ∧ (Instr.takeDeferred D).run P w = .ok [] w1 ∧ Take P ds w1 w'
def Lv.ok (P : Program) (V : Lv) (J0 : Snap → (Nat → Prop) → World → Prop) : Prop :=
  ∀ m S w, V.J m S w → (∀ b i v, m b i = some v → w.cell? ⟨b, i, none⟩ = some v) → ∃ w', Take P V.D w w' ∧ w'.heap.size = w.heap.size ∧ (∀ b, S b → w'.heap[b]? = w.heap[b]?) ∧ (∀ b i v, m b i = some v → w'.cell? ⟨b, i, none⟩ = some v) ∧ J0 m S w'
theorem ok_base {J : Snap → (Nat → Prop) → World → Prop} {jl : JL J} : (Lv.base J jl).ok P J := fun _ _ w h hs => ⟨w, rfl, rfl, fun _ _ => rfl, hs, h⟩
theorem ok_aft {V : Lv} {J0 : Snap → (Nat → Prop) → World → Prop} {D : Nat} (h : V.ok P J0) (jl0 : JL J0) : (V.aft D).ok P J0 := by
  intro m S w hJ hs
  obtain ⟨hJ, hD, hnD⟩ := hJ
  have hlt := lt_of_heap hD
  have hs1 : ∀ b i v, m b i = some v → (w.putObj D (.deferred none)).cell? ⟨b, i, none⟩ = some v := fun b i v hv => by
    have h1 := hs b i v hv
    have hne : b ≠ D := fun e => by subst e; simp [World.cell?, hD] at h1
    unfold World.cell? at h1 ⊢
    rw [World.putObj_heap_other hne]; exact h1
  have hJ1 := V.jl hJ (w' := w.putObj D (.deferred none)) (S' := fun b => S b ∨ b = D) rfl rfl rfl (by simp) (fun k _ hk => World.putObj_heap_other (fun e => hk (.inr e))) (Snap.le_refl _) (fun _ _ _ h => .inl h) hs1 (fun _ h => .inl h)
  obtain ⟨w', h1, h2, h3, h4, h5⟩ := h m _ _ hJ1 hs1
  refine ⟨w', ⟨D, _, rfl, run_takeDeferred hD, h1⟩, by rw [h2]; simp, fun b hb => ?_, h4, ?_⟩
  · rw [h3 b (.inl hb)]
    exact World.putObj_heap_other (fun e => hnD (e ▸ hb))
  · exact jl0 h5 rfl rfl rfl (Nat.le_refl _) (fun _ _ _ => rfl) (Snap.le_refl _) (fun _ _ _ h => .inl h) h4 (fun b hb => .inl (.inl hb))
theorem leaves_take {fn : Func} {tmps : Array Value} {R : Ending → World → Prop} {v : Value} : ∀ {D : List Deferred} {w w' : World}, Take P D w w' → (results fn tmps).run P w' = .ok v w' → R (.returned v) w' → LeavesInM Fence.wide 0 P fn tmps R D .returning w
  | [], w, w', ht, hr, h => by
    have e : w' = w := ht
    subst e
    unfold LeavesInM LeavesIn
    exact ⟨v, hr, h⟩
  | d :: ds, w, w', ⟨D, w1, e, h1, h2⟩, hr, h => by
    subst e
    unfold LeavesInM
    exact ⟨by simp, .inl ⟨D, w1, rfl, h1, leaves_take h2 hr h⟩⟩
/-- At a call's end. -/
theorem end_lv {n : Nat} {w0 : World} {m0 : Snap} {pb : Nat → Option Nat} {pg : Nat → Option Value} {V : Lv} {J0 : Snap → (Nat → Prop) → World → Prop} {jl0 : JL J0} (hl : V.ok P J0) {fn : Func} {R : Ending → World → Prop} {s : St P} {e : Exit} (he : e = .ret ∨ e = .normal)
    (h : ∀ m β γ κ a w, AH (Cx.lv n w0 m0 pb pg (Lv.base J0 jl0)) m β γ s.sl a → WH (Cx.lv n w0 m0 pb pg (Lv.base J0 jl0)) m β γ κ s.B w → ∃ v, (results fn a.tmps).run P w = .ok v w ∧ R (.returned v) w) :
    Z (Cx.lv n w0 m0 pb pg V) s e (bodyPostM Fence.wide 0 P fn R) := by
  intro m β γ κ a w ha hw
  obtain ⟨w', h1, h2, h3, h4, h5⟩ := hl m _ w hw.jj.1 hw.sees
  have hw' : WH (Cx.lv n w0 m0 pb pg (Lv.base J0 jl0)) m β γ κ s.B w' := hw.re rfl hw.le hw.new h3 h4 (by omega) h5 hw.jj.2.2
  obtain ⟨v, hr, hR⟩ := h m β γ κ { a with defers := [] } w' ⟨rfl, ha.size, ha.slot⟩ hw'
  have : LeavesInM Fence.wide 0 P fn a.tmps R a.defers .returning w := by
    rw [ha.defers]; exact leaves_take h1 hr hR
  rcases he with rfl | rfl <;> exact this
/-! ### contracts -/
def AllHoldL (β : Nat → Nat) (γ : Nat → Value) (m : Snap) : List Value → List (AV P) → Prop
  | [], [] => True
  | v :: vs, x :: xs => x.holds β γ m v ∧ AllHoldL β γ m vs xs
  | _, _ => False
@[reducible] def lentK (n : Nat) (m : Snap) (w : World) (S0 : Nat → Prop) (pb : Nat → Option Nat) (pg : Nat → Option Value) : Cx := Cx.lv n (w00 w) m pb pg (Lv.base (lendJ m w S0) (lendJ_law m w S0))
def PostL (m : Snap) (w : World) (S0 : Nat → Prop) (pb : Nat → Option Nat) (pg : Nat → Option Value) (x : AV P) (B' : Bs P) : Ending → World → Prop :=
  fun e w' => ∃ v m' β' γ' κ', e = .returned v ∧ x.holds β' γ' m' v ∧ WH (lentK 0 m w S0 pb pg) m' β' γ' κ' B' w'
/-- A function's contract, things lent to it: B; behind it they are B'. 'pbs', 'pgs': boxes and rows that stay where they are. -/
def FnL (P : Program) (f : FuncId) (args : List (AV P)) (B : Bs P) (x : AV P) (B' : Bs P) (pbs pgs : List Nat) : Prop :=
  ∀ m β γ κ w (vs : List Value), WH (lentK 0 m w (own β γ B) (pinOf pbs β) (pingOf pgs γ)) m β γ κ B w → AllHoldL β γ m vs args → Calls P f vs.toArray w (PostL m w (own β γ B) (pinOf pbs β) (pingOf pgs γ) x B')
/-- The number of slots says nothing of the world. -/
theorem WH.nn {n n' : Nat} {w0 : World} {m0 m : Snap} {pb : Nat → Option Nat} {pg : Nat → Option Value} {V : Lv} {β : Nat → Nat} {γ : Nat → Value} {κ : Nat → List Value} {B : Bs P} {w : World} (h : WH (Cx.lv n w0 m0 pb pg V) m β γ κ B w) : WH (Cx.lv n' w0 m0 pb pg V) m β γ κ B w :=
  h.re rfl h.le h.new (fun _ _ => rfl) h.sees (Nat.le_refl _) h.jj.1 h.jj.2.2
theorem argSlots_slotL {m : Snap} {β : Nat → Nat} {γ : Nat → Value} : ∀ {args : List (AV P)} {vs : List Value} {i : Nat}, AllHoldL β γ m vs args →
    ∀ t x, lk (argSlots i args) t = some x → ∃ v, vs[t - i]? = some v ∧ i ≤ t ∧ x.holds β γ m v
  | [], _, _, _, t, x, h => by simp [argSlots, lk] at h
  | y :: ys, [], _, hh, _, _, _ => by exact hh.elim
  | y :: ys, v :: vs, i, hh, t, x, h => by
    simp only [argSlots] at h
    by_cases e : i = t
    · subst e
      rw [lk_cons_eq rfl] at h; cases h
      exact ⟨v, by simp, Nat.le_refl _, hh.1⟩
    · rw [lk_cons_ne e] at h
      obtain ⟨u, hu, hle, hx⟩ := argSlots_slotL hh.2 t x h
      refine ⟨u, ?_, by omega, hx⟩
      have : t - i = (t - (i + 1)) + 1 := by omega
      rw [this]; simpa using hu
theorem AllHoldL.length {m : Snap} {β : Nat → Nat} {γ : Nat → Value} : ∀ {vs : List Value} {args : List (AV P)}, AllHoldL β γ m vs args → vs.length = args.length
  | [], [], _ => rfl
  | _ :: _, _ :: _, h => by simp [AllHoldL.length h.2]
  | [], _ :: _, h => h.elim
  | _ :: _, [], h => h.elim
theorem FnL.of {f : FuncId} {fn : Func} {c : Code} {args : List (AV P)} {x : AV P} {B B' : Bs P} {pbs pgs : List Nat} (hf : P.funcs[f]? = some fn) (hb : fn.body = some c)
    (h : ∀ w m (S0 : Nat → Prop) (β : Nat → Nat) (γ : Nat → Value), T (lentK fn.ntmps m w S0 (pinOf pbs β) (pingOf pgs γ)) ⟨argSlots 0 args, B⟩ c (bodyPostM Fence.wide 0 P fn (PostL m w S0 (pinOf pbs β) (pingOf pgs γ) x B')))
    (hn : Nat.ble args.length fn.ntmps = true := by rfl) : FnL P f args B x B' pbs pgs := by
  intro m β γ κ w vs hw hv
  refine callsIn_wide.1 (callsIn_of_wp_marks (F := Fence.wide) (n := 0) hf hb trivial (h w m (own β γ B) β γ m β γ κ _ w ⟨rfl, ?_, fun t y hy => ?_⟩ hw.nn))
  · have := Nat.le_of_ble_eq_true hn
    have hl := hv.length
    simp only [Array.size_append, List.size_toArray, Array.size_replicate]; omega
  · obtain ⟨v, hv', _, hx⟩ := argSlots_slotL hv t y hy
    refine ⟨v, ?_, hx⟩
    rw [Nat.sub_zero] at hv'
    have hlt : t < vs.length := by
      rcases Nat.lt_or_ge t vs.length with h | h
      · exact h
      · rw [List.getElem?_eq_none h] at hv'; cases hv'
    rw [Array.getElem?_append_left (by simpa using hlt)]
    simpa using hv'
/-! ### returns -/
section ret
variable {K : Cx} {s : St P} {fn : Func} {x y z : AV P} {n : Nat} {w0 : World} {m0 : Snap} {pb : Nat → Option Nat} {pg : Nat → Option Value} {V : Lv} {e : Exit} {r1 r2 r3 : ResultVar}
/-- What a result reads as, rows of the call's own and all. -/
def RvL (K : Cx) (s : St P) (r : ResultVar) (x : AV P) : Prop :=
  ∀ m β γ κ a w, AH K m β γ s.sl a → WH K m β γ κ s.B w → ∃ v, x.holds β γ m v ∧ (rdv a.tmps r).run P w = .ok v w
theorem rl_t {t : Tmp} (h : lk s.sl t = some x) : RvL K s (.tmp t) x := by
  intro m β γ κ a w ha _
  exact ⟨a.tmps.getD t undef, e_t h m β γ a ha, rfl⟩
theorem results0 {tmps : Array Value} {w : World} (hr : fn.results = #[]) : (results fn tmps).run P w = .ok (.tuple #[]) w := by
  rw [results_rdv, hr]; simp
theorem results1 {tmps : Array Value} {w : World} {v : Value} (hr : fn.results = #[r1]) (h1 : (rdv tmps r1).run P w = .ok v w) : (results fn tmps).run P w = .ok v w := by
  rw [results_rdv, hr]; simp [h1]
theorem results2 {tmps : Array Value} {w : World} {v v2 : Value} (hr : fn.results = #[r1, r2]) (h1 : (rdv tmps r1).run P w = .ok v w) (h2 : (rdv tmps r2).run P w = .ok v2 w) : (results fn tmps).run P w = .ok (.tuple #[v, v2]) w := by
  rw [results_rdv, hr]; simp [h1, h2]
theorem results3 {tmps : Array Value} {w : World} {v v2 v3 : Value} (hr : fn.results = #[r1, r2, r3]) (h1 : (rdv tmps r1).run P w = .ok v w) (h2 : (rdv tmps r2).run P w = .ok v2 w) (h3 : (rdv tmps r3).run P w = .ok v3 w) : (results fn tmps).run P w = .ok (.tuple #[v, v2, v3]) w := by
  rw [results_rdv, hr]; simp [h1, h2, h3]
theorem zl_ret0 {m : Snap} {w : World} {S0 : Nat → Prop} {B' : Bs P} (hl : V.ok P (lendJ m w S0)) (hr : fn.results = #[]) (hB : Le ⟨[], B'⟩ ⟨[], s.B⟩) (he : e = .ret ∨ e = .normal := by first | exact .inl rfl | exact .inr rfl) :
    Z (Cx.lv n (w00 w) m pb pg V) s e (bodyPostM Fence.wide 0 P fn (PostL m w S0 pb pg (.x (.tuple #[])) B')) :=
  end_lv (jl0 := lendJ_law m w S0) hl he fun m' β γ κ a w' _ hw => ⟨_, results0 hr, _, m', β, γ, κ, rfl, rfl, (hw.le' (s := ⟨[], s.B⟩) hB).nn⟩
theorem zl_ret1 {m : Snap} {w : World} {S0 : Nat → Prop} {B' : Bs P} (hl : V.ok P (lendJ m w S0)) (hr : fn.results = #[r1]) (h1 : RvL (Cx.lv n (w00 w) m pb pg (Lv.base (lendJ m w S0) (lendJ_law m w S0))) s r1 x) (hB : Le ⟨[], B'⟩ ⟨[], s.B⟩) (he : e = .ret ∨ e = .normal := by first | exact .inl rfl | exact .inr rfl) :
    Z (Cx.lv n (w00 w) m pb pg V) s e (bodyPostM Fence.wide 0 P fn (PostL m w S0 pb pg x B')) :=
  end_lv (jl0 := lendJ_law m w S0) hl he fun m' β γ κ a w' ha hw => by
    obtain ⟨v, hv, hrun⟩ := h1 m' β γ κ a w' ha hw
    exact ⟨_, results1 hr hrun, _, m', β, γ, κ, rfl, hv, (hw.le' (s := ⟨[], s.B⟩) hB).nn⟩
theorem zl_ret2 {m : Snap} {w : World} {S0 : Nat → Prop} {B' : Bs P} (hl : V.ok P (lendJ m w S0)) (hr : fn.results = #[r1, r2]) (h1 : RvL (Cx.lv n (w00 w) m pb pg (Lv.base (lendJ m w S0) (lendJ_law m w S0))) s r1 x) (h2 : RvL (Cx.lv n (w00 w) m pb pg (Lv.base (lendJ m w S0) (lendJ_law m w S0))) s r2 y) (hB : Le ⟨[], B'⟩ ⟨[], s.B⟩) (he : e = .ret ∨ e = .normal := by first | exact .inl rfl | exact .inr rfl) :
    Z (Cx.lv n (w00 w) m pb pg V) s e (bodyPostM Fence.wide 0 P fn (PostL m w S0 pb pg (.t2 x y) B')) :=
  end_lv (jl0 := lendJ_law m w S0) hl he fun m' β γ κ a w' ha hw => by
    obtain ⟨v, hv, hrun⟩ := h1 m' β γ κ a w' ha hw
    obtain ⟨v2, hv2, hrun2⟩ := h2 m' β γ κ a w' ha hw
    exact ⟨_, results2 hr hrun hrun2, _, m', β, γ, κ, rfl, ⟨v, v2, rfl, hv, hv2⟩, (hw.le' (s := ⟨[], s.B⟩) hB).nn⟩
theorem zv_ret1 {m : Snap} {w : World} (hl : V.ok P (ordJ w)) (hr : fn.results = #[r1]) (h1 : Rv (Cx.lv n w m pb pg (Lv.base (ordJ w) (ordJ_law w))) s r1 x) (he : e = .ret ∨ e = .normal := by first | exact .inl rfl | exact .inr rfl) :
    Z (Cx.lv n w m pb pg V) s e (bodyPostM Fence.wide 0 P fn (Post m w x)) :=
  end_lv (jl0 := ordJ_law w) hl he fun m' β γ κ a w' ha hw => by
    obtain ⟨v, hv, hrun⟩ := h1 m' β γ κ a w' ha hw
    exact ⟨_, results1 hr hrun, v, m', rfl, hv, hw.le, hw.new, hw.sees, hw.jj.1.1⟩
theorem zv_ret2 {m : Snap} {w : World} (hl : V.ok P (ordJ w)) (hr : fn.results = #[r1, r2]) (h1 : Rv (Cx.lv n w m pb pg (Lv.base (ordJ w) (ordJ_law w))) s r1 x) (h2 : Rv (Cx.lv n w m pb pg (Lv.base (ordJ w) (ordJ_law w))) s r2 y) (he : e = .ret ∨ e = .normal := by first | exact .inl rfl | exact .inr rfl) :
    Z (Cx.lv n w m pb pg V) s e (bodyPostM Fence.wide 0 P fn (Post m w (.t2 x y))) :=
  end_lv (jl0 := ordJ_law w) hl he fun m' β γ κ a w' ha hw => by
    obtain ⟨v, hv, hrun⟩ := h1 m' β γ κ a w' ha hw
    obtain ⟨v2, hv2, hrun2⟩ := h2 m' β γ κ a w' ha hw
    exact ⟨_, results2 hr hrun hrun2, _, m', rfl, ⟨v, v2, rfl, hv, hv2⟩, hw.le, hw.new, hw.sees, hw.jj.1.1⟩
theorem zv_ret3 {m : Snap} {w : World} (hl : V.ok P (ordJ w)) (hr : fn.results = #[r1, r2, r3]) (h1 : Rv (Cx.lv n w m pb pg (Lv.base (ordJ w) (ordJ_law w))) s r1 x) (h2 : Rv (Cx.lv n w m pb pg (Lv.base (ordJ w) (ordJ_law w))) s r2 y) (h3 : Rv (Cx.lv n w m pb pg (Lv.base (ordJ w) (ordJ_law w))) s r3 z) (he : e = .ret ∨ e = .normal := by first | exact .inl rfl | exact .inr rfl) :
    Z (Cx.lv n w m pb pg V) s e (bodyPostM Fence.wide 0 P fn (Post m w (.t3 x y z))) :=
  end_lv (jl0 := ordJ_law w) hl he fun m' β γ κ a w' ha hw => by
    obtain ⟨v, hv, hrun⟩ := h1 m' β γ κ a w' ha hw
    obtain ⟨v2, hv2, hrun2⟩ := h2 m' β γ κ a w' ha hw
    obtain ⟨v3, hv3, hrun3⟩ := h3 m' β γ κ a w' ha hw
    exact ⟨_, results3 hr hrun hrun2 hrun3, _, m', rfl, ⟨v, v2, v3, rfl, hv, hv2, hv3⟩, hw.le, hw.new, hw.sees, hw.jj.1.1⟩
end ret
end Go.Ph
/-! Calls to which boxes and rows are lent. -/
namespace Go.Ph
open Go.RowKit (Below)
universe u
variable {P : Program}
/-- Each box and row that is named is one of these. -/
def AV.all (pb pg : Nat → Bool) : AV P → Bool
  | .p b _ => pb b
  | .cl _ bs => bs.all pb
  | .g n => pg n
  | .ge n _ => pg n
  | .t2 a b => a.all pb pg && b.all pb pg
  | .t3 a b c => a.all pb pg && b.all pb pg && c.all pb pg
  | _ => true
theorem AV.holds_all {pb pg : Nat → Bool} {β β' : Nat → Nat} {γ γ' : Nat → Value} {m : Snap} (h1 : ∀ b, pb b = true → β' b = β b) (h2 : ∀ n, pg n = true → γ' n = γ n) : ∀ {x : AV P} {v : Value}, x.all pb pg = true → x.holds β γ m v → x.holds β' γ' m v
  | @AV.d _ _ _ _, _, _, h => h
  | .x _, _, _, h => h
  | .p b o, v, ha, h => by
    have h : v = .pointer (some ⟨β b, o, none⟩) := h
    show v = .pointer (some ⟨β' b, o, none⟩)
    rw [h1 b ha]; exact h
  | .g n, v, ha, h => by
    have h : v = γ n := h
    show v = γ' n
    rw [h2 n ha]; exact h
  | .ge n o, v, ha, ⟨b, h3, h4⟩ => ⟨b, by rw [h2 n ha]; exact h3, h4⟩
  | .any, _, _, h => h
  | .cl f bs, v, ha, h => by
    show v = _
    have h : v = _ := h
    rw [h]; congr 2
    exact List.map_congr_left fun b hb => by rw [h1 b (List.all_eq_true.1 ha b hb)]
  | .t2 a b, v, hf, ⟨va, vb, e, ha, hb⟩ => by
    simp only [AV.all, Bool.and_eq_true] at hf
    exact ⟨va, vb, e, holds_all h1 h2 hf.1 ha, holds_all h1 h2 hf.2 hb⟩
  | .t3 a b c, v, hf, ⟨va, vb, vc, e, ha, hb, hc⟩ => by
    simp only [AV.all, Bool.and_eq_true] at hf
    exact ⟨va, vb, vc, e, holds_all h1 h2 hf.1.1 ha, holds_all h1 h2 hf.1.2 hb, holds_all h1 h2 hf.2 hc⟩
theorem lk_append {α : Type u} {a b : List (Nat × α)} {t : Nat} {x : α} (h : lk (a ++ b) t = some x) : lk a t = some x ∨ (lk a t = none ∧ lk b t = some x) := by
  induction a with
  | nil => exact .inr ⟨rfl, h⟩
  | cons q r ih =>
    obtain ⟨k, y⟩ := q
    by_cases e : k = t
    · subst e; rw [List.cons_append, lk_cons_eq rfl] at h; cases h; exact .inl (lk_cons_eq rfl)
    · rw [List.cons_append, lk_cons_ne e] at h
      rw [lk_cons_ne e]; exact ih h
/-- Keys of the one are no keys of the other. -/
def offKeys {α δ : Type u} : List (Nat × α) → List (Nat × δ) → Bool
  | [], _ => true
  | (k, _) :: r, l => l.all (fun e => !Nat.beq e.1 k) && offKeys r l
theorem lk_none_of {α : Type u} {k : Nat} : ∀ {l : List (Nat × α)}, l.all (fun e => !Nat.beq e.1 k) = true → lk l k = none
  | [], _ => rfl
  | (j, x) :: r, h => by
    simp only [List.all_cons, Bool.and_eq_true] at h
    rw [lk_cons_ne (nbeq h.1)]; exact lk_none_of h.2
theorem offKeys_at {α δ : Type u} : ∀ {a : List (Nat × α)} {l : List (Nat × δ)} {t : Nat} {x : α}, offKeys a l = true → lk a t = some x → lk l t = none
  | [], _, _, _, _, h => by simp [lk] at h
  | (k, y) :: r, l, t, x, ho, h => by
    simp only [offKeys, Bool.and_eq_true] at ho
    by_cases e : k = t
    · subst e; exact lk_none_of ho.1
    · rw [lk_cons_ne e] at h; exact offKeys_at ho.2 h
/-- What a call hands back under old names stays where it was; other names are free. -/
def PinB (pn : Nat → Option Nat) (pbs : List Nat) : List (Nat × BV P) → Prop
  | [] => True
  | (b, _) :: r => (pbs.any (Nat.beq b) = true ∨ pn b = none) ∧ PinB pn pbs r
def PinG (pn : Nat → Option Value) (pgs : List Nat) : List (Nat × GV P) → Prop
  | [] => True
  | (b, _) :: r => (pgs.any (Nat.beq b) = true ∨ pn b = none) ∧ PinG pn pgs r
theorem PinB.at_ {pn : Nat → Option Nat} {pbs : List Nat} : ∀ {l : List (Nat × BV P)}, PinB pn pbs l → ∀ b x, lk l b = some x → pbs.any (Nat.beq b) = true ∨ pn b = none
  | [], _, b, x, h => by simp [lk] at h
  | (k, y) :: r, hp, b, x, h => by
    by_cases e : k = b
    · subst e; exact hp.1
    · rw [lk_cons_ne e] at h; exact PinB.at_ hp.2 b x h
theorem PinG.at_ {pn : Nat → Option Value} {pgs : List Nat} : ∀ {l : List (Nat × GV P)}, PinG pn pgs l → ∀ b x, lk l b = some x → pgs.any (Nat.beq b) = true ∨ pn b = none
  | [], _, b, x, h => by simp [lk] at h
  | (k, y) :: r, hp, b, x, h => by
    by_cases e : k = b
    · subst e; exact hp.1
    · rw [lk_cons_ne e] at h; exact PinG.at_ hp.2 b x h
def hasK {α : Type u} (l : List (Nat × α)) (t : Nat) : Bool := l.any fun e => Nat.beq e.1 t
theorem hasK_iff {α : Type u} {t : Nat} : ∀ {l : List (Nat × α)}, hasK l t = true ↔ ∃ x, lk l t = some x
  | [] => by simp [hasK, lk]
  | (k, x) :: r => by
    by_cases e : k = t
    · subst e; simp [hasK, lk_cons_eq]
    · rw [lk_cons_ne e]
      have := hasK_iff (l := r) (t := t)
      unfold hasK at this ⊢
      rw [List.any_cons]
      have hb : Nat.beq k t = false := by
        cases hb : Nat.beq k t with
        | true => exact absurd (Nat.eq_of_beq_eq_true hb) e
        | false => rfl
      rw [hb, Bool.false_or]; exact this
def okb {α : Type u} (l : List (Nat × α)) (ps : List Nat) (b : Nat) : Bool := !hasK l b || ps.any (Nat.beq b)
def allSl (pb pg : Nat → Bool) : List (Nat × AV P) → Bool
  | [] => true
  | (_, x) :: r => x.all pb pg && allSl pb pg r
theorem allSl_at {pb pg : Nat → Bool} : ∀ {sl : List (Nat × AV P)} {t : Nat} {x : AV P}, allSl pb pg sl = true → lk sl t = some x → x.all pb pg = true
  | [], _, _, _, h => by simp [lk] at h
  | (k, y) :: r, t, x, ha, h => by
    simp only [allSl, Bool.and_eq_true] at ha
    by_cases e : k = t
    · subst e; rw [lk_cons_eq rfl] at h; cases h; exact ha.1
    · rw [lk_cons_ne e] at h; exact allSl_at ha.2 h
def tiOk (B : Bs P) (pgs : List Nat) : List ((Nat × Nat) × Nat) → Bool
  | [] => true
  | ((b, _), n) :: r => !hasK B.bx b && okb B.gr pgs n && tiOk B pgs r
theorem tiOk_at {B : Bs P} {pgs : List Nat} : ∀ {ti : List ((Nat × Nat) × Nat)}, tiOk B pgs ti = true → ∀ e ∈ ti, hasK B.bx e.1.1 = false ∧ okb B.gr pgs e.2 = true
  | [], _, e, h => by cases h
  | ((b, o), n) :: r, ht, e, h => by
    simp only [tiOk, Bool.and_eq_true, Bool.not_eq_true'] at ht
    rcases List.mem_cons.1 h with h | h
    · subst h; exact ⟨ht.1.1, ht.1.2⟩
    · exact tiOk_at ht.2 e h
/-- A call with things lent: the rest R of the caller's things stays; what is lent turns to B'. -/
theorem WH.lent {K : Cx} {m m' : Snap} {β β' : Nat → Nat} {γ γ' : Nat → Value} {κ κ' : Nat → List Value} {S B B' R : Bs P} {pbs pgs : List Nat} {w w' : World}
    (h : WH K m β γ κ S w) (hB : Le ⟨[], B⟩ ⟨[], S⟩) (hR : Le ⟨[], R⟩ ⟨[], S⟩) (ob : offKeys R.bx B.bx = true) (og : offKeys R.gr B.gr = true) (ob' : offKeys R.bx B'.bx = true) (og' : offKeys R.gr B'.gr = true)
    (hti : tiOk B' pgs R.ti = true) (hpb : PinB K.pin pbs B'.bx) (hpg : PinG K.ping pgs B'.gr)
    (hc : WH (lentK 0 m w (own β γ B) (pinOf pbs β) (pingOf pgs γ)) m' β' γ' κ' B' w') :
    WH K m' (fun b => if hasK B'.bx b then β' b else β b) (fun n => if hasK B'.gr n then γ' n else γ n) (fun b => if hasK B'.bx b then κ' b else κ b) ⟨B'.bx ++ R.bx, B'.gr ++ R.gr, R.ti⟩ w' ∧
      (∀ b, okb B'.bx pbs b = true → (if hasK B'.bx b then β' b else β b) = β b) ∧ (∀ n, okb B'.gr pgs n = true → (if hasK B'.gr n then γ' n else γ n) = γ n) ∧ Snap.le m m' := by
  obtain ⟨⟨j1, j2, j3, j4, j5, j6, j7⟩, _, jpb, jpg⟩ := hc.jj
  have hwR : WH K m β γ κ R w := h.le' (s := ⟨[], S⟩) hR
  have hpinb : ∀ b, okb B'.bx pbs b = true → (if hasK B'.bx b then β' b else β b) = β b := fun b hb => by
    unfold okb at hb
    cases hk : hasK B'.bx b with
    | false => simp
    | true =>
      rw [hk] at hb
      simp only [Bool.not_true, Bool.false_or] at hb
      simp only [if_true]
      exact jpb b _ (pinOf_mem hb)
  have hping : ∀ n, okb B'.gr pgs n = true → (if hasK B'.gr n then γ' n else γ n) = γ n := fun b hb => by
    unfold okb at hb
    cases hk : hasK B'.gr b with
    | false => simp
    | true =>
      rw [hk] at hb
      simp only [Bool.not_true, Bool.false_or] at hb
      simp only [if_true]
      exact jpg b _ (pingOf_mem hb)
  have ownB : ∀ b, own β γ B b → own β γ S b := fun b hb => hb.imp (fun ⟨x, bv, h1, h2⟩ => ⟨x, bv, hB.bx _ _ h1, h2⟩) (fun ⟨x, gv, h1, h2⟩ => ⟨x, gv, hB.gr _ _ h1, h2⟩)
  have ownR : ∀ b, own β γ R b → own β γ S b := fun b hb => hb.imp (fun ⟨x, bv, h1, h2⟩ => ⟨x, bv, hR.bx _ _ h1, h2⟩) (fun ⟨x, gv, h1, h2⟩ => ⟨x, gv, hR.gr _ _ h1, h2⟩)
  have disj : ∀ b, own β γ B b → ¬ own β γ R b := by
    rintro b (⟨x, bv, h1, h2⟩ | ⟨x, gv, h1, h2⟩) (⟨y, bw, h3, h4⟩ | ⟨y, gw, h3, h4⟩)
    · have hne : x ≠ y := fun e => by subst e; rw [offKeys_at ob h3] at h1; cases h1
      exact h.inj x y _ _ (hB.bx _ _ h1) (hR.bx _ _ h3) hne (by rw [h2, h4])
    · exact h.gbox y x _ _ (hR.gr _ _ h3) (hB.bx _ _ h1) (by rw [h4, h2])
    · exact h.gbox x y _ _ (hB.gr _ _ h1) (hR.bx _ _ h3) (by rw [h4, h2])
    · have hne : x ≠ y := fun e => by subst e; rw [offKeys_at og h3] at h1; cases h1
      exact h.ginj x y _ _ b (hB.gr _ _ h1) (hR.gr _ _ h3) hne h2 h4
  have hSB : ∀ b, own β γ B b → K.B0 ≤ b := by
    rintro b (⟨x, bv, h1, h2⟩ | ⟨x, gv, h1, h2⟩)
    · have := (h.box x bv (hB.bx _ _ h1)).2.2.1; omega
    · obtain ⟨⟨cs, hown, _⟩, _⟩ := h.grow x gv (hB.gr _ _ h1)
      exact (hown.lt b h2).1
  have hJ0 : K.J m (fun b => own β γ R b ∨ own β γ B b) w := K.jl h.jj.1 rfl rfl rfl (Nat.le_refl _) (fun _ _ _ => rfl) (Snap.le_refl _) (fun _ _ _ h => .inl h) h.sees (fun b hb => .inl (hb.elim (ownR b) (ownB b)))
  obtain ⟨hR', hJ', hS'⟩ := hwR.beside (m' := m') (w' := w') (S' := own β' γ' B') hJ0 (fun b hb => ⟨disj b hb, hSB b hb⟩) j1 j2 j3 j4 j5 hc.le j7 hc.sees j6
  have eB : ∀ b x, lk B'.bx b = some x → hasK B'.bx b = true := fun b x hx => hasK_iff.2 ⟨x, hx⟩
  have eG : ∀ b x, lk B'.gr b = some x → hasK B'.gr b = true := fun b x hx => hasK_iff.2 ⟨x, hx⟩
  have nB : ∀ b, lk B'.bx b = none → hasK B'.bx b = false := fun b hb => by
    cases hq : hasK B'.bx b with
    | false => rfl
    | true => obtain ⟨x, hx⟩ := hasK_iff.1 hq; rw [hb] at hx; cases hx
  have nG : ∀ b, lk B'.gr b = none → hasK B'.gr b = false := fun b hb => by
    cases hq : hasK B'.gr b with
    | false => rfl
    | true => obtain ⟨x, hx⟩ := hasK_iff.1 hq; rw [hb] at hx; cases hx
  have own1 : ∀ b x, lk B'.bx b = some x → own β' γ' B' (β' b) := fun b x hx => .inl ⟨b, x, hx, rfl⟩
  have own2 : ∀ n x b, lk B'.gr n = some x → (γ' n).ownBlock = some b → own β' γ' B' b := fun n x b hx hb => .inr ⟨n, x, hx, hb⟩
  have ownR1 : ∀ b x, lk R.bx b = some x → own β γ R (β b) := fun b x hx => .inl ⟨b, x, hx, rfl⟩
  have ownR2 : ∀ n x b, lk R.gr n = some x → (γ n).ownBlock = some b → own β γ R b := fun n x b hx hb => .inr ⟨n, x, hx, hb⟩
  refine ⟨⟨hc.sees, hR'.le, hR'.new, fun x bv hx => ?_, fun x y bx by' hx hy hne => ?_, fun x gv hx => ?_, fun x y gv bv hx hy => ?_, fun x y gx gy b hx hy hne hb => ?_, fun e he => ?_, ?_⟩, hpinb, hping, hc.le⟩
  · rcases lk_append hx with h1 | ⟨h1, h2⟩
    · simp only [eB x _ h1, if_true]
      obtain ⟨hT, hr, _, hn⟩ := hc.box x bv h1
      exact ⟨hT, hr, (hS' _ (own1 x _ h1)).2, hn⟩
    · simp only [nB x h1]
      exact hR'.box x bv h2
  · rcases lk_append hx with h1 | ⟨h1, h2⟩ <;> rcases lk_append hy with h3 | ⟨h3, h4⟩
    · simp only [eB x _ h1, eB y _ h3, if_true]; exact hc.inj x y _ _ h1 h3 hne
    · simp only [eB x _ h1, nB y h3, if_true]
      intro e
      exact (hS' _ (own1 x _ h1)).1 (e ▸ ownR1 y _ h4)
    · simp only [nB x h1, eB y _ h3, if_true]
      intro e
      exact (hS' _ (own1 y _ h3)).1 (e ▸ ownR1 x _ h2)
    · simp only [nB x h1, nB y h3]; exact hR'.inj x y _ _ h2 h4 hne
  · rcases lk_append hx with h1 | ⟨h1, h2⟩
    · simp only [eG x _ h1, if_true]
      obtain ⟨⟨cs, ⟨hl, hown⟩, hf, hno⟩, hbig⟩ := hc.grow x gv h1
      refine ⟨⟨cs, ⟨hl, hown.imp id ?_⟩, hf, hno⟩, hbig⟩
      rintro ⟨g, cap, cur, e1, _, e3⟩
      exact ⟨g, cap, cur, e1, (hS' g (own2 x _ g h1 (by rw [e1]; rfl))).2, e3⟩
    · simp only [nG x h1]; exact hR'.grow x gv h2
  · rcases lk_append hx with h1 | ⟨h1, h2⟩ <;> rcases lk_append hy with h3 | ⟨h3, h4⟩
    · simp only [eG x _ h1, eB y _ h3, if_true]; exact hc.gbox x y _ _ h1 h3
    · simp only [eG x _ h1, nB y h3, if_true]
      intro e
      exact (hS' _ (own2 x _ _ h1 e)).1 (ownR1 y _ h4)
    · simp only [nG x h1, eB y _ h3, if_true]
      intro e
      exact (hS' _ (own1 y _ h3)).1 (ownR2 x _ _ h2 e)
    · simp only [nG x h1, nB y h3]; exact hR'.gbox x y _ _ h2 h4
  · rcases lk_append hx with h1 | ⟨h1, h2⟩ <;> rcases lk_append hy with h3 | ⟨h3, h4⟩
    · simp only [eG x _ h1, eG y _ h3, if_true] at hb ⊢; exact hc.ginj x y _ _ b h1 h3 hne hb
    · simp only [eG x _ h1, nG y h3, if_true] at hb ⊢
      intro e
      exact (hS' _ (own2 x _ _ h1 hb)).1 (ownR2 y _ _ h4 e)
    · simp only [nG x h1, eG y _ h3, if_true] at hb ⊢
      intro e
      exact (hS' _ (own2 y _ _ h3 e)).1 (ownR2 x _ _ h2 hb)
    · simp only [nG x h1, nG y h3] at hb ⊢; exact hR'.ginj x y _ _ b h2 h4 hne hb
  · obtain ⟨h1, h2⟩ := tiOk_at hti e he
    rw [hping _ h2]
    simp only [h1]
    exact hR'.tie e he
  · refine ⟨K.jl hJ' rfl rfl rfl (Nat.le_refl _) (fun _ _ _ => rfl) (Snap.le_refl _) (fun _ _ _ h => .inl h) hc.sees (fun b hb => .inl ?_), hR'.jj.2.1, fun b c hb => ?_, fun n v hn => ?_⟩
    · rcases hb with ⟨x, bv, h1, h2⟩ | ⟨x, gv, h1, h2⟩
      · rcases lk_append h1 with h3 | ⟨h3, h4⟩
        · simp only [eB x _ h3, if_true] at h2
          exact .inr (h2 ▸ own1 x _ h3)
        · simp only [nB x h3] at h2
          exact .inl (h2 ▸ ownR1 x _ h4)
      · rcases lk_append h1 with h3 | ⟨h3, h4⟩
        · simp only [eG x _ h3, if_true] at h2
          exact .inr (own2 x _ b h3 h2)
        · simp only [nG x h3] at h2
          exact .inl (ownR2 x _ b h4 h2)
    · cases hk : hasK B'.bx b with
      | false => simp; exact h.jj.2.2.1 b c hb
      | true =>
        obtain ⟨x, hx⟩ := hasK_iff.1 hk
        rcases hpb.at_ b x hx with h1 | h1
        · have := hpinb b (by unfold okb; rw [h1]; simp)
          rw [hk] at this
          rw [this]; exact h.jj.2.2.1 b c hb
        · rw [h1] at hb; cases hb
    · cases hk : hasK B'.gr n with
      | false => simp; exact h.jj.2.2.2 n v hn
      | true =>
        obtain ⟨x, hx⟩ := hasK_iff.1 hk
        rcases hpg.at_ n x hx with h1 | h1
        · have := hping n (by unfold okb; rw [h1]; simp)
          rw [hk] at this
          rw [this]; exact h.jj.2.2.2 n v hn
        · rw [h1] at hn; cases hn
section ops
variable {K : Cx} {s : St P} {ops : Array Oper} {Q : Exit → Act → World → Prop} {rest : List Oper} {d : Nat} {ty : TypeId} {pos : String} {aft : Array Edge} {x : AV P}
theorem EvAll.holdL {m : Snap} {β : Nat → Nat} {γ : Nat → Value} {a : Act} (ha : AH K m β γ s.sl a) : ∀ {os : List Operand} {xs : List (AV P)}, EvAll K s os xs → AllHoldL β γ m (os.map a.eval) xs
  | [], [], _ => trivial
  | o :: os, x :: xs, h => ⟨h.1 m β γ a ha, EvAll.holdL ha h.2⟩
  | [], _ :: _, h => h.elim
  | _ :: _, [], h => h.elim
/-- What is lent, of the caller's things. -/
theorem WH.toLent {m : Snap} {β : Nat → Nat} {γ : Nat → Value} {κ : Nat → List Value} {S B : Bs P} {pbs pgs : List Nat} {w : World} (h : WH K m β γ κ S w) (hB : Le ⟨[], B⟩ ⟨[], S⟩) : WH (lentK 0 m w (own β γ B) (pinOf pbs β) (pingOf pgs γ)) m β γ κ B w := by
  have h0 := h.le' (s := ⟨[], S⟩) hB
  refine ⟨h0.sees, Snap.le_refl _, fun _ _ _ h => .inl h, fun x bv hx => ?_, h0.inj, fun x gv hx => ?_, h0.gbox, h0.ginj, h0.tie, ⟨⟨rfl, rfl, rfl, Nat.le_refl _, fun _ _ _ => rfl, fun b hb => .inl hb, fun _ _ _ h => .inl h⟩, Nat.zero_le _, fun _ _ h => pinOf_self h, fun _ _ h => pingOf_self h⟩⟩
  · obtain ⟨h1, h2, _, h4⟩ := h0.box x bv hx
    exact ⟨h1, h2, Nat.zero_le _, h4⟩
  · obtain ⟨⟨cs, ⟨hl, hown⟩, hf, hno⟩, hbig⟩ := h0.grow x gv hx
    refine ⟨⟨cs, ⟨hl, hown.imp id ?_⟩, hf, hno⟩, hbig⟩
    rintro ⟨g, cap, cur, e1, _, e3⟩
    exact ⟨g, cap, cur, e1, Nat.zero_le _, e3⟩
theorem TL_callL {f : FuncId} {os : List Operand} {tys : Array TypeId} {xs : List (AV P)} {B B' : Bs P} {pbs pgs : List Nat} (hc : FnL P f xs B x B' pbs pgs) (he : EvAll K s os xs) (hf : callable P f = true)
    (R : Bs P) (sl' : List (Nat × AV P)) (hB : Le ⟨[], B⟩ ⟨[], s.B⟩) (hR : Le ⟨sl', R⟩ s) (k : TL K ⟨(d, x) :: sl', ⟨B'.bx ++ R.bx, B'.gr ++ R.gr, R.ti⟩⟩ ops Q rest)
    (hpb : PinB K.pin pbs B'.bx) (hpg : PinG K.ping pgs B'.gr) (ob : offKeys R.bx B.bx = true := by rfl) (og : offKeys R.gr B.gr = true := by rfl) (ob' : offKeys R.bx B'.bx = true := by rfl) (og' : offKeys R.gr B'.gr = true := by rfl)
    (hti : tiOk B' pgs R.ti = true := by rfl) (hsl : allSl (okb B'.bx pbs) (okb B'.gr pgs) sl' = true := by rfl) (hx : x.all (hasK B'.bx) (hasK B'.gr) = true := by rfl) (hd : Nat.ble (d + 1) K.n = true := by rfl) :
    TL K s ops Q (⟨some d, .call ⟨.value (.func f), os.toArray, tys⟩, ty, pos, aft, none⟩ :: rest) := by
  intro m β γ κ a w ha hw
  have hd' : d < K.n := Nat.le_of_ble_eq_true hd
  obtain ⟨fn, hfn, hq1, hq2⟩ := callable_fn hf
  refine wpL_of (show Region.wanted _ _ = true from rfl) (by intro _ e; cases e) ?_
  unfold Oper.wp
  rw [run_call hfn (by cases hq : fn.body with | none => exact absurd hq hq1 | some _ => rfl) (by simpa using hq2), Oper.upon_enter]
  refine (hc m β γ κ w _ (hw.toLent hB) (he.holdL ha)).mono ?_
  rintro e w' ⟨v, m', β', γ', κ', rfl, hv, hwc⟩
  have hRB : Le ⟨[], R⟩ ⟨[], s.B⟩ := ⟨fun t x h => by simp [lk] at h, hR.bx, hR.gr, hR.ti⟩
  obtain ⟨h1, h2, h3, h4⟩ := hw.lent hB hRB ob og ob' og' hti hpb hpg hwc
  refine k m' _ _ _ _ w' (AH.put (x := x) ⟨ha.defers, ha.size, fun t y hy => ?_⟩ hd' ?_) h1
  · obtain ⟨u, hu, hh⟩ := ha.slot t y (hR.sl t y hy)
    exact ⟨u, hu, AV.holds_all (x := y) h2 h3 (allSl_at hsl hy) (AV.holds_mono h4 hh)⟩
  · exact AV.holds_all (β := β') (γ := γ') (pb := hasK B'.bx) (pg := hasK B'.gr) (fun b hb => by simp [hb]) (fun n hn => by simp [hn]) hx hv
end ops
end Go.Ph
/-! Contracts under other names; rows that others read; rows made known. -/
namespace Go.Ph
open Go.RowKit (Below)
universe u
variable {P : Program}
def AV.ren (ρb ρg : Nat → Nat) : AV P → AV P
  | .p b o => .p (ρb b) o
  | .cl f bs => .cl f (bs.map ρb)
  | .g n => .g (ρg n)
  | .ge n o => .ge (ρg n) o
  | .t2 a b => .t2 (a.ren ρb ρg) (b.ren ρb ρg)
  | .t3 a b c => .t3 (a.ren ρb ρg) (b.ren ρb ρg) (c.ren ρb ρg)
  | z => z
theorem AV.holds_ren {ρb ρg : Nat → Nat} {β : Nat → Nat} {γ : Nat → Value} {m : Snap} : ∀ {x : AV P} {v : Value}, (x.ren ρb ρg).holds β γ m v ↔ x.holds (fun b => β (ρb b)) (fun n => γ (ρg n)) m v
  | @AV.d _ _ _ _, _ => Iff.rfl
  | .x _, _ => Iff.rfl
  | .p _ _, _ => Iff.rfl
  | .g _, _ => Iff.rfl
  | .ge _ _, _ => Iff.rfl
  | .any, _ => Iff.rfl
  | .cl f bs, v => by
    show v = _ ↔ v = _
    rw [List.map_map]; exact Iff.rfl
  | .t2 a b, v => ⟨fun ⟨va, vb, e, h1, h2⟩ => ⟨va, vb, e, holds_ren.1 h1, holds_ren.1 h2⟩, fun ⟨va, vb, e, h1, h2⟩ => ⟨va, vb, e, holds_ren.2 h1, holds_ren.2 h2⟩⟩
  | .t3 a b c, v => ⟨fun ⟨va, vb, vc, e, h1, h2, h3⟩ => ⟨va, vb, vc, e, holds_ren.1 h1, holds_ren.1 h2, holds_ren.1 h3⟩, fun ⟨va, vb, vc, e, h1, h2, h3⟩ => ⟨va, vb, vc, e, holds_ren.2 h1, holds_ren.2 h2, holds_ren.2 h3⟩⟩
def renK {α : Type u} (ρ : Nat → Nat) : List (Nat × α) → List (Nat × α)
  | [] => []
  | (k, x) :: r => (ρ k, x) :: renK ρ r
theorem lk_ren {α : Type u} {ρ : Nat → Nat} (h : ∀ k, ρ (ρ k) = k) : ∀ {l : List (Nat × α)} {k : Nat}, lk (renK ρ l) k = lk l (ρ k)
  | [], _ => rfl
  | (j, x) :: r, k => by
    by_cases e : ρ j = k
    · subst e
      simp only [renK]
      rw [lk_cons_eq rfl, h, lk_cons_eq rfl]
    · simp only [renK]
      rw [lk_cons_ne e, lk_cons_ne (fun e2 => e (by rw [e2, h])), lk_ren h]
def renT (ρb ρg : Nat → Nat) : List ((Nat × Nat) × Nat) → List ((Nat × Nat) × Nat)
  | [] => []
  | ((b, o), n) :: r => ((ρb b, o), ρg n) :: renT ρb ρg r
theorem mem_renT {ρb ρg : Nat → Nat} {e : (Nat × Nat) × Nat} : ∀ {l : List ((Nat × Nat) × Nat)}, e ∈ l → ((ρb e.1.1, e.1.2), ρg e.2) ∈ renT ρb ρg l
  | [], h => by cases h
  | ((b, o), n) :: r, h => by
    rcases List.mem_cons.1 h with h | h
    · subst h; exact List.mem_cons_self
    · exact List.mem_cons_of_mem _ (mem_renT h)
def Bs.ren (ρb ρg : Nat → Nat) (B : Bs P) : Bs P := ⟨renK ρb B.bx, renK ρg B.gr, renT ρb ρg B.ti⟩
theorem renK_renK {α : Type u} {ρ : Nat → Nat} (h : ∀ k, ρ (ρ k) = k) : ∀ {l : List (Nat × α)}, renK ρ (renK ρ l) = l
  | [] => rfl
  | (j, x) :: r => by simp [renK, h, renK_renK h]
theorem renT_renT {ρb ρg : Nat → Nat} (hb : ∀ k, ρb (ρb k) = k) (hg : ∀ k, ρg (ρg k) = k) : ∀ {l : List ((Nat × Nat) × Nat)}, renT ρb ρg (renT ρb ρg l) = l
  | [] => rfl
  | ((b, o), n) :: r => by simp [renT, hb, hg, renT_renT hb hg]
theorem Bs.ren_ren {ρb ρg : Nat → Nat} (hb : ∀ k, ρb (ρb k) = k) (hg : ∀ k, ρg (ρg k) = k) (B : Bs P) : (B.ren ρb ρg).ren ρb ρg = B := by
  unfold Bs.ren; simp [renK_renK hb, renK_renK hg, renT_renT hb hg]
theorem own_ren {ρb ρg : Nat → Nat} (hb : ∀ k, ρb (ρb k) = k) (hg : ∀ k, ρg (ρg k) = k) {β : Nat → Nat} {γ : Nat → Value} {B : Bs P} : own β γ (B.ren ρb ρg) = own (fun b => β (ρb b)) (fun n => γ (ρg n)) B := by
  funext c
  apply propext
  constructor
  · rintro (⟨x, bv, h1, h2⟩ | ⟨x, gv, h1, h2⟩)
    · exact .inl ⟨ρb x, bv, by rw [← lk_ren hb]; exact h1, by show β (ρb (ρb x)) = c; rw [hb]; exact h2⟩
    · exact .inr ⟨ρg x, gv, by rw [← lk_ren hg]; exact h1, by show (γ (ρg (ρg x))).ownBlock = some c; rw [hg]; exact h2⟩
  · rintro (⟨x, bv, h1, h2⟩ | ⟨x, gv, h1, h2⟩)
    · exact .inl ⟨ρb x, bv, by show lk (renK ρb B.bx) _ = _; rw [lk_ren hb, hb]; exact h1, h2⟩
    · exact .inr ⟨ρg x, gv, by show lk (renK ρg B.gr) _ = _; rw [lk_ren hg, hg]; exact h1, h2⟩
theorem WH.ren {ρb ρg : Nat → Nat} (hb : ∀ k, ρb (ρb k) = k) (hg : ∀ k, ρg (ρg k) = k) (hp : ∀ k, priv (ρg k) = priv k) {n n' : Nat} {w0 : World} {m0 m : Snap} {pb pb' : Nat → Option Nat} {pg pg' : Nat → Option Value} {J : Snap → (Nat → Prop) → World → Prop} {jl : JL J} {β : Nat → Nat} {γ : Nat → Value} {κ : Nat → List Value} {B : Bs P} {w : World}
    (h : WH (Cx.lv n w0 m0 pb pg (Lv.base J jl)) m β γ κ (B.ren ρb ρg) w) (h1 : ∀ b c, pb' b = some c → pb (ρb b) = some c) (h2 : ∀ b c, pg' b = some c → pg (ρg b) = some c) :
    WH (Cx.lv n' w0 m0 pb' pg' (Lv.base J jl)) m (fun b => β (ρb b)) (fun k => γ (ρg k)) (fun b => κ (ρb b)) B w := by
  have fb : ∀ {x bv}, lk B.bx x = some bv → lk (B.ren ρb ρg).bx (ρb x) = some bv := fun {x bv} hx => by
    show lk (renK ρb B.bx) _ = _
    rw [lk_ren hb, hb]; exact hx
  have fg : ∀ {x gv}, lk B.gr x = some gv → lk (B.ren ρb ρg).gr (ρg x) = some gv := fun {x gv} hx => by
    show lk (renK ρg B.gr) _ = _
    rw [lk_ren hg, hg]; exact hx
  have ib : ∀ {x y}, x ≠ y → ρb x ≠ ρb y := fun {x y} hne e => hne (by rw [← hb x, e, hb])
  have ig : ∀ {x y}, x ≠ y → ρg x ≠ ρg y := fun {x y} hne e => hne (by rw [← hg x, e, hg])
  refine ⟨h.sees, h.le, h.new, fun x bv hx => h.box _ bv (fb hx), fun x y _ _ hx hy hne => h.inj _ _ _ _ (fb hx) (fb hy) (ib hne), fun x gv hx => ?_, fun x y _ _ hx hy => h.gbox _ _ _ _ (fg hx) (fb hy), fun x y _ _ b hx hy hne hq => h.ginj _ _ _ _ b (fg hx) (fg hy) (ig hne) hq, fun e he => h.tie _ (mem_renT he), ?_⟩
  · have := h.grow _ gv (fg hx)
    rw [hp] at this
    exact ⟨this.ex, this.big⟩
  · refine ⟨?_, h.jj.2.1, fun b c hq => h.jj.2.2.1 _ c (h1 b c hq), fun b c hq => h.jj.2.2.2 _ c (h2 b c hq)⟩
    have := h.jj.1
    rw [own_ren hb hg] at this
    exact this
theorem pinOf_ren {ρ : Nat → Nat} (h : ∀ k, ρ (ρ k) = k) {β : Nat → Nat} {b : Nat} : ∀ {ps : List Nat}, pinOf (ps.map ρ) β (ρ b) = pinOf ps (fun k => β (ρ k)) b
  | [] => rfl
  | p :: ps => by
    have e : Nat.beq (ρ p) (ρ b) = Nat.beq p b := by
      cases hq : Nat.beq p b with
      | true => rw [Nat.eq_of_beq_eq_true hq]; simp
      | false =>
        cases hr : Nat.beq (ρ p) (ρ b) with
        | false => rfl
        | true =>
          have := Nat.eq_of_beq_eq_true hr
          have e2 : p = b := by rw [← h p, this, h]
          subst e2; simp at hq
    simp only [List.map_cons, pinOf, e, pinOf_ren h]
theorem pingOf_ren {ρ : Nat → Nat} (h : ∀ k, ρ (ρ k) = k) {β : Nat → Value} {b : Nat} : ∀ {ps : List Nat}, pingOf (ps.map ρ) β (ρ b) = pingOf ps (fun k => β (ρ k)) b
  | [] => rfl
  | p :: ps => by
    have e : Nat.beq (ρ p) (ρ b) = Nat.beq p b := by
      cases hq : Nat.beq p b with
      | true => rw [Nat.eq_of_beq_eq_true hq]; simp
      | false =>
        cases hr : Nat.beq (ρ p) (ρ b) with
        | false => rfl
        | true =>
          have := Nat.eq_of_beq_eq_true hr
          have e2 : p = b := by rw [← h p, this, h]
          subst e2; simp at hq
    simp only [List.map_cons, pingOf, e, pingOf_ren h]
theorem AllHoldL.ren {ρb ρg : Nat → Nat} {β : Nat → Nat} {γ : Nat → Value} {m : Snap} : ∀ {vs : List Value} {xs : List (AV P)}, AllHoldL β γ m vs (xs.map (AV.ren ρb ρg)) → AllHoldL (fun b => β (ρb b)) (fun n => γ (ρg n)) m vs xs
  | [], [], _ => trivial
  | _ :: _, _ :: _, h => ⟨AV.holds_ren.1 h.1, AllHoldL.ren h.2⟩
  | [], _ :: _, h => h.elim
  | _ :: _, [], h => h.elim
/-- A contract under other names. -/
theorem FnL.ren {f : FuncId} {xs : List (AV P)} {x : AV P} {B B' : Bs P} {pbs pgs : List Nat} (hc : FnL P f xs B x B' pbs pgs) (ρb ρg : Nat → Nat) (hb : ∀ k, ρb (ρb k) = k) (hg : ∀ k, ρg (ρg k) = k) (hp : ∀ k, priv (ρg k) = priv k) :
    FnL P f (xs.map (AV.ren ρb ρg)) (B.ren ρb ρg) (x.ren ρb ρg) (B'.ren ρb ρg) (pbs.map ρb) (pgs.map ρg) := by
  intro m β γ κ w vs hw hv
  have hw' : WH (lentK 0 m w (own (fun b => β (ρb b)) (fun n => γ (ρg n)) B) (pinOf pbs fun b => β (ρb b)) (pingOf pgs fun n => γ (ρg n))) m (fun b => β (ρb b)) (fun n => γ (ρg n)) (fun b => κ (ρb b)) B w := by
    have := WH.ren (n' := 0) (pb' := pinOf pbs fun b => β (ρb b)) (pg' := pingOf pgs fun n => γ (ρg n)) hb hg hp hw (fun b c h => by rw [pinOf_ren hb]; exact h) (fun b c h => by rw [pingOf_ren hg]; exact h)
    rw [own_ren hb hg] at this
    exact this
  refine (hc m _ _ _ w vs hw' hv.ren).mono ?_
  rintro e w' ⟨v, m', β', γ', κ', rfl, hx, hwc⟩
  refine ⟨v, m', fun b => β' (ρb b), fun n => γ' (ρg n), fun b => κ' (ρb b), rfl, AV.holds_ren.2 (by simpa only [hb, hg] using hx), ?_⟩
  have e : B' = (B'.ren ρb ρg).ren ρb ρg := (Bs.ren_ren hb hg B').symm
  rw [e] at hwc
  have := WH.ren (n' := 0) (pb' := pinOf (pbs.map ρb) β) (pg' := pingOf (pgs.map ρg) γ) hb hg hp hwc (fun b c h => by rw [← hb b, pinOf_ren hb] at h; exact h) (fun b c h => by rw [← hg b, pingOf_ren hg] at h; exact h)
  rw [own_ren hb hg]
  exact this
/-- Two names change places. -/
def sw (a b k : Nat) : Nat := bif Nat.beq k a then b else bif Nat.beq k b then a else k
theorem sw_sw (a b k : Nat) : sw a b (sw a b k) = k := by
  unfold sw
  cases h1 : Nat.beq k a with
  | true =>
    have e := Nat.eq_of_beq_eq_true h1
    subst e
    simp only [cond_true]
    cases h2 : Nat.beq b k with
    | true => simp only [cond_true]; exact Nat.eq_of_beq_eq_true h2
    | false => simp
  | false =>
    simp only [cond_false]
    cases h2 : Nat.beq k b with
    | true =>
      have e := Nat.eq_of_beq_eq_true h2
      subst e
      simp
    | false => simp [h1, h2]
theorem sw_priv {a b : Nat} (h : priv a = priv b) (k : Nat) : priv (sw a b k) = priv k := by
  unfold sw
  cases h1 : Nat.beq k a with
  | true => rw [Nat.eq_of_beq_eq_true h1]; exact h.symm
  | false =>
    cases h2 : Nat.beq k b with
    | true => rw [Nat.eq_of_beq_eq_true h2]; exact h
    | false => rfl
/-- The row's name and the box's name. -/
theorem FnL.sw {f : FuncId} {xs : List (AV P)} {x : AV P} {B B' : Bs P} {pbs pgs : List Nat} (hc : FnL P f xs B x B' pbs pgs) (b1 b2 g1 g2 : Nat) (hp : priv g1 = priv g2 := by rfl) :
    FnL P f (xs.map (AV.ren (sw b1 b2) (sw g1 g2))) (B.ren (sw b1 b2) (sw g1 g2)) (x.ren (sw b1 b2) (sw g1 g2)) (B'.ren (sw b1 b2) (sw g1 g2)) (pbs.map (sw b1 b2)) (pgs.map (sw g1 g2)) :=
  hc.ren _ _ (sw_sw _ _) (sw_sw _ _) (sw_priv hp)
/-! ### Rows that others read, and rows made known -/
section ops
variable {K : Cx} {s : St P} {ops : Array Oper} {Q : Exit → Act → World → Prop} {rest : List Oper} {d nm : Nat} {ty : TypeId} {pos : String} {aft : Array Edge} {x : AV P}
  {m : Snap} {β : Nat → Nat} {γ : Nat → Value} {κ : Nat → List Value} {B : Bs P} {w : World} {a : Act}
/-- A private row becomes memory that nobody writes any more. -/
theorem WH.publish {gv : GV P} (hw : WH K m β γ κ B w) (hg : lk B.gr nm = some gv) (R : Bs P) (hR : Le ⟨[], R⟩ ⟨[], B⟩) (ho : lk R.gr nm = none) :
    ∃ m', Snap.le m m' ∧ WH K m' β γ κ R w ∧ @SliceR P gv.α gv.i m' (γ nm) gv.xs := by
  obtain ⟨⟨cs, hown, hf, hno⟩, hbig⟩ := hw.grow nm gv hg
  cases hpr : priv nm with
  | false => exact ⟨m, Snap.le_refl _, hw.le' (s := ⟨[], B⟩) hR, (hw.grow nm gv hg).slice hpr⟩
  | true =>
    cases hb : (γ nm).ownBlock with
    | none =>
      refine ⟨m, Snap.le_refl _, hw.le' (s := ⟨[], B⟩) hR, ?_⟩
      exact @slice_of_own P gv.α gv.i _ _ _ _ _ _ _ hown hf (fun b h => by rw [hb] at h; cases h) hbig
    | some g =>
      have hnone : ∀ i, m g i = none := (hno g hb).2 hpr
      have hcell : ∀ j u, cs[j]? = some u → w.cell? ⟨g, j, none⟩ = some u := fun j u hu => by
        have := hown.cells (g := g) hb j u hu
        rwa [addr_add, Nat.zero_add] at this
      let m' : Snap := fun c i => if c = g then cs[i]? else m c i
      have hle : Snap.le m m' := fun c i v hv => by
        show (if c = g then cs[i]? else m c i) = some v
        by_cases e : c = g
        · rw [e, hnone] at hv; cases hv
        · rw [if_neg e]; exact hv
      have hs' : ∀ c i v, m' c i = some v → w.cell? ⟨c, i, none⟩ = some v := fun c i v hv => by
        have hv' : (if c = g then cs[i]? else m c i) = some v := hv
        by_cases e : c = g
        · rw [if_pos e] at hv'; rw [e]; exact hcell i v hv'
        · rw [if_neg e] at hv'; exact hw.sees c i v hv'
      have hm' : ∀ c i, c ≠ g → m c i = none → m' c i = none := fun c i hc hi => by
        show (if c = g then cs[i]? else m c i) = none
        rw [if_neg hc]; exact hi
      have hneR : ∀ y gv', lk R.gr y = some gv' → y ≠ nm := fun y gv' hy e => by subst e; rw [ho] at hy; cases hy
      have hwR := hw.le' (s := ⟨[], B⟩) (s' := ⟨[], R⟩) hR
      refine ⟨m', hle, ⟨hs', Snap.le_trans hw.le hle, fun c i v hv => ?_, fun y bv hy => ?_, hwR.inj, fun y gv' hy => ?_, hwR.gbox, hwR.ginj, hwR.tie, ?_⟩, ?_⟩
      · have hv' : (if c = g then cs[i]? else m c i) = some v := hv
        by_cases e : c = g
        · exact .inr (by rw [e]; exact (hown.lt g hb).1)
        · rw [if_neg e] at hv'; exact hw.new c i v hv'
      · obtain ⟨hT, hr, hB', hn⟩ := hwR.box y bv hy
        exact ⟨hT, bv.i.mono hle hr, hB', fun i => hm' _ _ (fun e => hw.gbox nm y _ _ hg (hR.bx _ _ hy) (by rw [hb, e])) (hn i)⟩
      · refine (hwR.grow y gv' hy).keep (fun _ _ => rfl) hle fun b i hby hi => hm' b i (fun e => ?_) hi
        subst e
        exact hw.ginj y nm _ _ b (hR.gr _ _ hy) hg (hneR y _ hy) hby hb
      · refine hw.go rfl rfl rfl (Nat.le_refl _) (fun _ _ _ => rfl) hle (fun c i v hv => ?_) hs' (fun c hc => .inl (hc.imp (fun ⟨x, bv, h1, h2⟩ => ⟨x, bv, hR.bx _ _ h1, h2⟩) (fun ⟨x, gv, h1, h2⟩ => ⟨x, gv, hR.gr _ _ h1, h2⟩)))
        have hv' : (if c = g then cs[i]? else m c i) = some v := hv
        by_cases e : c = g
        · exact .inr (.inl (.inr ⟨nm, _, hg, by rw [e]; exact hb⟩))
        · rw [if_neg e] at hv'; exact .inl hv'
      · exact @slice_of_own P gv.α gv.i _ _ _ _ _ _ _ hown (@flatRel.mono P gv.α gv.i _ _ hle _ _ hf) (fun b h i c hc => by
          rw [hb] at h; cases h
          show (if g = g then cs[i]? else m g i) = some c
          rw [if_pos rfl]; exact hc) hbig
/-- The row in slot q is made known: it reads as what it holds. -/
theorem TL_pub {q : Nat} {gv : GV P} (R : St P) (hq : lk s.sl q = some (.g nm)) (hg : lk s.B.gr nm = some gv) (hR : Le R s) (ho : lk R.B.gr nm = none) (k : TL K (R.put q (@AV.d P (List gv.α) (@rpList P gv.α gv.i) gv.xs)) ops Q rest) : TL K s ops Q rest := by
  intro m β γ κ a w ha hw
  obtain ⟨m', hle, hw', hsl⟩ := hw.publish hg R.B ⟨fun t x h => by simp [lk] at h, hR.bx, hR.gr, hR.ti⟩ ho
  refine k m' β γ κ a w ⟨ha.defers, ha.size, fun t y hy => ?_⟩ hw'
  change lk ((q, _) :: R.sl) t = _ at hy
  by_cases e : q = t
  · subst e
    rw [lk_cons_eq rfl] at hy; cases hy
    obtain ⟨v, hv, hh⟩ := ha.slot q _ hq
    have e2 : v = γ nm := hh
    refine ⟨v, hv, ?_⟩
    rw [e2]; exact @vlist P gv.α gv.i _ _ _ hsl
  · rw [lk_cons_ne e] at hy
    obtain ⟨v, hv, hh⟩ := ha.slot t y (hR.sl t y hy)
    exact ⟨v, hv, AV.holds_mono hle hh⟩
theorem Z_pub {q : Nat} {gv : GV P} {e : Exit} (R : St P) (hq : lk s.sl q = some (.g nm)) (hg : lk s.B.gr nm = some gv) (hR : Le R s) (ho : lk R.B.gr nm = none) (k : Z K (R.put q (@AV.d P (List gv.α) (@rpList P gv.α gv.i) gv.xs)) e Q) : Z K s e Q := by
  intro m β γ κ a w ha hw
  obtain ⟨m', hle, hw', hsl⟩ := hw.publish hg R.B ⟨fun t x h => by simp [lk] at h, hR.bx, hR.gr, hR.ti⟩ ho
  refine k m' β γ κ a w ⟨ha.defers, ha.size, fun t y hy => ?_⟩ hw'
  change lk ((q, _) :: R.sl) t = _ at hy
  by_cases e : q = t
  · subst e
    rw [lk_cons_eq rfl] at hy; cases hy
    obtain ⟨v, hv, hh⟩ := ha.slot q _ hq
    have e2 : v = γ nm := hh
    refine ⟨v, hv, ?_⟩
    rw [e2]; exact @vlist P gv.α gv.i _ _ _ hsl
  · rw [lk_cons_ne e] at hy
    obtain ⟨v, hv, hh⟩ := ha.slot t y (hR.sl t y hy)
    exact ⟨v, hv, AV.holds_mono hle hh⟩
/-- Arguments of a call that only reads: a row reads as what it holds. -/
def EvR (K : Cx) (s : St P) : List Operand → List (AV P) → Prop
  | [], [] => True
  | o :: os, x :: xs => (Ev K s o x ∨ ∃ nm gv, Ev K s o (.g nm) ∧ lk s.B.gr nm = some gv ∧ x = @AV.d P (List gv.α) (@rpList P gv.α gv.i) gv.xs) ∧ EvR K s os xs
  | _, _ => False
/-- The snapshot with all rows known. -/
theorem WH.allSeen (hw : WH K m β γ κ B w) : ∃ m', Snap.le m m' ∧ (∀ b i v, m' b i = some v → w.cell? ⟨b, i, none⟩ = some v) ∧ ∀ nm gv, lk B.gr nm = some gv → @SliceR P gv.α gv.i m' (γ nm) gv.xs := by
  let m' : Snap := fun c i => match m c i with | some v => some v | none => w.cell? ⟨c, i, none⟩
  have hle : Snap.le m m' := fun c i v hv => by show (match m c i with | some v => some v | none => _) = _; rw [hv]
  have hs : ∀ b i v, m' b i = some v → w.cell? ⟨b, i, none⟩ = some v := fun b i v hv => by
    have hv' : (match m b i with | some v => some v | none => w.cell? ⟨b, i, none⟩) = some v := hv
    cases hm : m b i with
    | some u => rw [hm] at hv'; cases hv'; exact hw.sees b i v hm
    | none => rw [hm] at hv'; exact hv'
  refine ⟨m', hle, hs, fun nm gv hg => ?_⟩
  obtain ⟨⟨cs, hown, hf, hno⟩, hbig⟩ := hw.grow nm gv hg
  refine @slice_of_own P gv.α gv.i _ _ _ _ _ _ _ hown (@flatRel.mono P gv.α gv.i _ _ hle _ _ hf) (fun b hb i c hc => ?_) hbig
  have h1 := hown.cells (g := b) hb i c hc
  rw [addr_add, Nat.zero_add] at h1
  show (match m b i with | some v => some v | none => w.cell? ⟨b, i, none⟩) = some c
  cases hm : m b i with
  | none => exact h1
  | some u => have := hw.sees b i u hm; rw [h1] at this; cases this; rfl
theorem EvR.hold {m' : Snap} (ha : AH K m β γ s.sl a) (hle : Snap.le m m') (hs : ∀ nm gv, lk s.B.gr nm = some gv → @SliceR P gv.α gv.i m' (γ nm) gv.xs) : ∀ {os : List Operand} {xs : List (AV P)}, allClosed xs = true → EvR K s os xs → AllHold m' (os.map a.eval) xs
  | [], [], _, _ => trivial
  | o :: os, x :: xs, hc, h => by
    simp only [allClosed, Bool.and_eq_true] at hc
    refine ⟨?_, EvR.hold ha hle hs hc.2 h.2⟩
    rcases h.1 with h1 | ⟨nm, gv, h1, h2, h3⟩
    · exact AV.closed_holds hc.1 (AV.holds_mono hle (h1 m β γ a ha))
    · have e : a.eval o = γ nm := h1 m β γ a ha
      rw [h3, e]
      exact @vlist P gv.α gv.i _ _ _ (hs nm gv h2)
  | [], _ :: _, _, h => h.elim
  | _ :: _, [], _, h => h.elim
/-- A call that only reads, and hands back a datum that no memory bears. -/
theorem TL_call_ro {α : Type} [Rp P α] [Flat P α] {r : α} {f : FuncId} {os : List Operand} {tys : Array TypeId} {xs : List (AV P)} (hc : Fn P f xs (.d r)) (he : EvR K s os xs) (hf : callable P f = true)
    (k : TL K (s.put d (.d r)) ops Q rest) (hcl : allClosed xs = true := by rfl) (hd : Nat.ble (d + 1) K.n = true := by rfl) :
    TL K s ops Q (⟨some d, .call ⟨.value (.func f), os.toArray, tys⟩, ty, pos, aft, none⟩ :: rest) := by
  intro m β γ κ a w ha hw
  have hd' : d < K.n := Nat.le_of_ble_eq_true hd
  obtain ⟨fn, hfn, hq1, hq2⟩ := callable_fn hf
  obtain ⟨m1, hle, hs, hsl⟩ := hw.allSeen
  refine wpL_of (show Region.wanted _ _ = true from rfl) (by intro _ e; cases e) ?_
  unfold Oper.wp
  rw [run_call hfn (by cases hq : fn.body with | none => exact absurd hq hq1 | some _ => rfl) (by simpa using hq2), Oper.upon_enter]
  refine (hc m1 w _ hs (he.hold ha hle hsl hcl)).mono ?_
  rintro e w' ⟨v, m', rfl, hv, hle', hnew, hs', hb⟩
  exact k m β γ κ _ w' (ha.put hd' (Flat.ind (P := P) hv)) (hw.below_call hb)
end ops
end Go.Ph
/-! Ranges over functions, in a call's walk; the functions that are ranged over. -/
namespace Go.Ph
open Go.RowKit (Below)
universe u
variable {P : Program}
def firmAll (ps : List Nat) : List (Nat × AV P) → Bool
  | [] => true
  | (_, x) :: r => x.firm ps && firmAll ps r
theorem firmAll_at {ps : List Nat} : ∀ {sl : List (Nat × AV P)} {t : Nat} {x : AV P}, firmAll ps sl = true → lk sl t = some x → x.firm ps = true
  | [], _, _, _, h => by simp [lk] at h
  | (k, y) :: r, t, x, ha, h => by
    simp only [firmAll, Bool.and_eq_true] at ha
    by_cases e : k = t
    · subst e; rw [lk_cons_eq rfl] at h; cases h; exact ha.1
    · rw [lk_cons_ne e] at h; exact firmAll_at ha.2 h
abbrev asgP (P : Program) (l : Nat) (R : Ending → World → Prop) (body : Code) : Exit → Act → World → Prop :=
  Exit.then (fun a₁ w₁ => ∃ w₂, (Instr.beginRound l).run P w₁ = .ok () w₂ ∧ body.wpIn (fc (some l)) 0 P (roundPost P l R) a₁ w₂) (fun _ _ _ => False)
section
variable {n : Nat} {w0 : World} {m0 : Snap} {pb : Nat → Option Nat} {pg : Nat → Option Value} {V : Lv} {J0 : Snap → (Nat → Prop) → World → Prop} {s : St P} {g : Operand} {assign body : Code} {Q : Exit → Act → World → Prop}
theorem T_range1 {α σ τ : Type} [Rp P α] {F : Sq α} {p : Tmp} (ps : List Nat) (sl : List (Nat × AV P)) (Bf : σ → Bs P) (Bx : τ → Bs P) (jm : τ → Jmp) (go : List α → σ → Prop) (ex : τ → Prop) (st0 : σ) (hl : V.ok P J0) (jl0 : JL J0)
    (hF : Ev (Cx.lv n w0 m0 pb pg V) s g (.d F)) (hle : Le ⟨sl, Bf st0⟩ s) (hgo : go F.xs st0) (hstuck : F.fin = false → ∀ st, ¬ go [] st)
    (hround : ∀ x post st, go (x :: post) st → ∀ (D l : Nat) (r : Loop) (cs : Nat → Nat) (mr : Snap) (mk : Nat → Prop) (wr : World) (R : Ending → World → Prop), ¬ mk l → r.state = .ready →
      (∀ st' sl', go post st' → Z ((Cx.lv n w0 m0 pb pg V).rnd D l { r with state := .busy } ps cs mr mk wr) ⟨sl', Bf st'⟩ .normal (roundPost P l R)) →
      (∀ t sl', ex t → Z ((Cx.lv n w0 m0 pb pg V).rnd D l { r with state := .busy } ps cs mr mk wr) ⟨sl', Bx t⟩ (jm t).ex (roundPost P l R)) →
      T ((Cx.lv n w0 m0 pb pg V).rnd D l r ps cs mr mk wr) ⟨(p, .d x) :: sl, Bf st⟩ assign (asgP P l R body))
    (hend : ∀ V' : Lv, V'.ok P J0 → ∀ st, go [] st → Z (Cx.lv n w0 m0 (fun _ => none) pg V') ⟨sl, Bf st⟩ .normal Q) (hexit : ∀ V' : Lv, V'.ok P J0 → ∀ t, ex t → Z (Cx.lv n w0 m0 (fun _ => none) pg V') ⟨sl, Bx t⟩ (jm t).ex Q)
    (hfirm : firmAll ps sl = true := by rfl) (hp : Nat.ble (p + 1) n = true := by rfl) : T (Cx.lv n w0 m0 pb pg V) s (.rangeFunc g #[p] assign body) Q := by
  refine T_rangeG (args := args1 (P := P)) (X := F.xs) (fin := F.fin) ps sl Bf Bx jm go ex st0 (fun x => (p, .d x) :: sl) (fun m β γ a ha => sq_of (hF m β γ a ha)) rfl hle (fun t y h => firmAll_at hfirm h) ?_ ?_ hgo hstuck hround
    (fun D st h => hend _ (ok_aft (D := D) hl jl0) st h) (fun D t h => hexit _ (ok_aft (D := D) hl jl0) t h)
  · rintro m vs x ⟨v, rfl, _⟩; rfl
  · rintro m vs x tmps β γ ⟨v, rfl, hv⟩ hsz hs
    have hlt : p < tmps.size := by rw [hsz]; exact Nat.le_of_ble_eq_true hp
    refine ⟨fun t y hy => ?_, by simpa using hsz⟩
    by_cases e : p = t
    · subst e
      rw [lk_cons_eq rfl] at hy; cases hy
      exact ⟨v, by simp [hlt], hv⟩
    · rw [lk_cons_ne e] at hy
      obtain ⟨u, hu, hh⟩ := hs t y hy
      refine ⟨u, ?_, hh⟩
      simp [Array.getElem?_setIfInBounds, e, hu]
theorem T_range2 {α δ σ τ : Type} [Rp P α] [Rp P δ] {F : Sq2 α δ} {p q : Tmp} (ps : List Nat) (sl : List (Nat × AV P)) (Bf : σ → Bs P) (Bx : τ → Bs P) (jm : τ → Jmp) (go : List (α × δ) → σ → Prop) (ex : τ → Prop) (st0 : σ) (hl : V.ok P J0) (jl0 : JL J0)
    (hF : Ev (Cx.lv n w0 m0 pb pg V) s g (.d F)) (hle : Le ⟨sl, Bf st0⟩ s) (hgo : go F.xs st0) (hstuck : F.fin = false → ∀ st, ¬ go [] st)
    (hround : ∀ x post st, go (x :: post) st → ∀ (D l : Nat) (r : Loop) (cs : Nat → Nat) (mr : Snap) (mk : Nat → Prop) (wr : World) (R : Ending → World → Prop), ¬ mk l → r.state = .ready →
      (∀ st' sl', go post st' → Z ((Cx.lv n w0 m0 pb pg V).rnd D l { r with state := .busy } ps cs mr mk wr) ⟨sl', Bf st'⟩ .normal (roundPost P l R)) →
      (∀ t sl', ex t → Z ((Cx.lv n w0 m0 pb pg V).rnd D l { r with state := .busy } ps cs mr mk wr) ⟨sl', Bx t⟩ (jm t).ex (roundPost P l R)) →
      T ((Cx.lv n w0 m0 pb pg V).rnd D l r ps cs mr mk wr) ⟨(p, .d x.1) :: (q, .d x.2) :: sl, Bf st⟩ assign (asgP P l R body))
    (hend : ∀ V' : Lv, V'.ok P J0 → ∀ st, go [] st → Z (Cx.lv n w0 m0 (fun _ => none) pg V') ⟨sl, Bf st⟩ .normal Q) (hexit : ∀ V' : Lv, V'.ok P J0 → ∀ t, ex t → Z (Cx.lv n w0 m0 (fun _ => none) pg V') ⟨sl, Bx t⟩ (jm t).ex Q)
    (hfirm : firmAll ps sl = true := by rfl) (hp : Nat.ble (p + 1) n = true := by rfl) (hq : Nat.ble (q + 1) n = true := by rfl) (hpq : Nat.beq p q = false := by rfl) : T (Cx.lv n w0 m0 pb pg V) s (.rangeFunc g #[p, q] assign body) Q := by
  have hne : p ≠ q := fun e => by subst e; simp at hpq
  refine T_rangeG (args := args2 (P := P)) (X := F.xs) (fin := F.fin) ps sl Bf Bx jm go ex st0 (fun x => (p, .d x.1) :: (q, .d x.2) :: sl) (fun m β γ a ha => sq2_of (hF m β γ a ha)) rfl hle (fun t y h => firmAll_at hfirm h) ?_ ?_ hgo hstuck hround
    (fun D st h => hend _ (ok_aft (D := D) hl jl0) st h) (fun D t h => hexit _ (ok_aft (D := D) hl jl0) t h)
  · rintro m vs x ⟨v, u, rfl, _⟩; rfl
  · rintro m vs x tmps β γ ⟨v, u, rfl, hv, hu⟩ hsz hs
    have hlt : p < tmps.size := by rw [hsz]; exact Nat.le_of_ble_eq_true hp
    have hlq : q < tmps.size := by rw [hsz]; exact Nat.le_of_ble_eq_true hq
    refine ⟨fun t y hy => ?_, by simpa using hsz⟩
    by_cases e : p = t
    · subst e
      rw [lk_cons_eq rfl] at hy; cases hy
      exact ⟨v, by simp [Array.getElem?_setIfInBounds, Ne.symm hne, hlt], hv⟩
    · rw [lk_cons_ne e] at hy
      by_cases e2 : q = t
      · subst e2
        rw [lk_cons_eq rfl] at hy; cases hy
        exact ⟨u, by simp [Array.getElem?_setIfInBounds, hlq], hu⟩
      · rw [lk_cons_ne e2] at hy
        obtain ⟨u', hu', hh⟩ := hs t y hy
        refine ⟨u', ?_, hh⟩
        simp [Array.getElem?_setIfInBounds, e, e2, hu']
/-! Joins and loops, behind which more marks may lie. -/
theorem T_loopinV {σ : Type} {S : σ → St P} {id : Nat} {c : Code} (A : σ → Prop) (hrest : ∀ V' : Lv, V'.ok P J0 → ∀ x, A x → Z (Cx.lv n w0 m0 (fun _ => none) pg V') (S x) .normal Q)
    (h : (∀ V' : Lv, V'.ok P J0 → ∀ x, A x → Z (Cx.lv n w0 m0 (fun _ => none) pg V') (S x) .normal Q) → TW (Cx.lv n w0 m0 (fun _ => none) pg V) s c (Exit.inBlock id Q)) : T (Cx.lv n w0 m0 (fun _ => none) pg V) s (.block id (.loop c)) Q :=
  T_block (T_loop (h hrest))
theorem range_indV {α σ : Type} (X : List α) (S : Nat → σ → St P) {c : Code} (F : List α → Nat → σ → Prop) (hnil : ∀ V : Lv, V.ok P J0 → ∀ i s, X.length ≤ i → F [] i s → TW (Cx.lv n w0 m0 (fun _ => none) pg V) (S i s) c Q)
    (hcons : ∀ V : Lv, V.ok P J0 → ∀ x xs i s, i < X.length → X[i]? = some x → (∀ V' : Lv, V'.ok P J0 → ∀ s', F xs (i + 1) s' → TW (Cx.lv n w0 m0 (fun _ => none) pg V') (S (i + 1) s') c Q) → F (x :: xs) i s → TW (Cx.lv n w0 m0 (fun _ => none) pg V) (S i s) c Q) :
    ∀ (xs : List α) (V : Lv), V.ok P J0 → ∀ (i : Nat) (s : σ), X.drop i = xs → F xs i s → TW (Cx.lv n w0 m0 (fun _ => none) pg V) (S i s) c Q
  | [], V, hV, i, s, hx, hF => hnil V hV i s (drop_nil hx) hF
  | x :: xs, V, hV, i, s, hx, hF => by
    obtain ⟨h1, h2, h3⟩ := drop_cons hx
    exact hcons V hV x xs i s h1 h2 (fun V' hV' s' hF' => range_indV X S F hnil hcons xs V' hV' (i + 1) s' h3 hF') hF
end
theorem fin_no {α : Type} {b : Bool} {x o : α} (h : (bif b then some x else none) = some o) (hf : b = false) : False := by subst hf; cases h
theorem fin_some {α : Type} {b : Bool} {x o : α} (h : (bif b then some x else none) = some o) : x = o := by
  cases b with
  | true => exact Option.some.inj h
  | false => cases h
theorem Fn.ofV {f : FuncId} {fn : Func} {c : Code} {args : List (AV P)} {x : AV P} (hf : P.funcs[f]? = some fn) (hb : fn.body = some c)
    (h : ∀ w m (V : Lv), V.ok P (ordJ w) → T (Cx.lv fn.ntmps w m (fun _ => none) (fun _ => none) V) ⟨argSlots 0 args, ⟨[], [], []⟩⟩ c (bodyPostM Fence.wide 0 P fn (Post m w x)))
    (hn : Nat.ble args.length fn.ntmps = true := by rfl) (hc : allClosed args = true := by rfl) : Fn P f args x :=
  Fn.of hf hb (fun w m => h w m (Lv.base (ordJ w) (ordJ_law w)) ok_base) hn hc
/-! ### The functions that are ranged over -/
@[reducible] def itK (n : Nat) (w : World) (m : Snap) (J : Snap → (Nat → Prop) → World → Prop) (jl : JL J) : Cx := Cx.lv n w m (fun _ => none) (fun _ => none) (Lv.base J jl)
theorem SeqOk.of {α : Type} {args : Snap → Array Value → α → Prop} {f : FuncId} {fn : Func} {c : Code} {caps : List (AV P)} {cap : Array Value} {m0 : Snap} {xs : List α} {fin : Bool} (hf : P.funcs[f]? = some fn) (hb : fn.body = some c) (hh : AllHold m0 cap.toList caps)
    (h : ∀ l J Jx (hJ : ∀ pre, JL (J pre)) (hJx : JL Jx), YieldOk P args l J Jx xs → (fin = false → ∀ m S w, ¬ J xs m S w) → ∀ w m, T (itK fn.ntmps w m (J []) (hJ [])) ⟨argSlots 0 (.x (.func (.yield l) #[] #[]) :: caps), ⟨[], [], []⟩⟩ c (bodyPostM Fence.wide 0 P fn (SeqPost J Jx xs)))
    (hn : Nat.ble (caps.length + 1) fn.ntmps = true := by rfl) (hc : allClosed caps = true := by rfl) : SeqOk P args f cap m0 xs fin := by
  intro l J Jx hJ hJx hy hfin m w hm hs h0
  have hv : AllHold m (Value.func (.yield l) #[] #[] :: cap.toList) (.x (.func (.yield l) #[] #[]) :: caps) := ⟨rfl, AllHold.mono hm hh⟩
  have hcl : allClosed ((.x (.func (.yield l) #[] #[]) : AV P) :: caps) = true := by simp only [allClosed, hc]; rfl
  refine callsIn_wide.1 (callsIn_of_wp_marks (F := Fence.wide) (n := 0) hf hb trivial (h l J Jx hJ hJx hy hfin w m m β0 γ0 (fun _ => []) _ w ⟨rfl, ?_, fun t y hq => ?_⟩ ⟨hs, Snap.le_refl _, fun _ _ _ h => .inl h, ?_, ?_, ?_, ?_, ?_, ?_, ⟨?_, Nat.le_refl _, (fun _ _ h => by cases h), (fun _ _ h => by cases h)⟩⟩))
  · have := Nat.le_of_ble_eq_true hn
    have hl := hv.length
    simp only [List.length_cons, Array.length_toList] at hl
    simp only [Array.size_append, List.size_toArray, Array.size_replicate, List.length_cons, List.length_nil]
    show _ = fn.ntmps
    omega
  · obtain ⟨v, hv', _, hx⟩ := argSlots_slot (β := β0) (γ := γ0) hcl hv t y hq
    refine ⟨v, ?_, hx⟩
    rw [Nat.sub_zero] at hv'
    have hlt : t < (Value.func (.yield l) #[] #[] :: cap.toList).length := by
      rcases Nat.lt_or_ge t (Value.func (.yield l) #[] #[] :: cap.toList).length with h | h
      · exact h
      · rw [List.getElem?_eq_none h] at hv'; cases hv'
    have hsz : (#[Value.func (.yield l) #[] #[]] ++ cap).size = (Value.func (.yield l) #[] #[] :: cap.toList).length := by simp; omega
    rw [Array.getElem?_append_left (by rw [hsz]; exact hlt), ← hv', ← Array.getElem?_toList]
    simp
  · intro x bv h; simp [lk] at h
  · intro x y bx bY h; simp [lk] at h
  · intro x gv h; simp [lk] at h
  · intro x y gv bv h; simp [lk] at h
  · intro x y gx gy b h; simp [lk] at h
  · intro e h; cases h
  · exact (hJ []) h0 rfl rfl rfl (Nat.le_refl _) (fun _ _ _ => rfl) (Snap.le_refl _) (fun _ _ _ h => .inl h) hs (fun b hb => by rcases hb with ⟨_, _, h, _⟩ | ⟨_, _, h, _⟩ <;> simp [lk] at h)
section it
variable {n : Nat} {w0 : World} {m0 : Snap} {s : St P} {ops : Array Oper} {Q : Exit → Act → World → Prop} {rest : List Oper} {d : Nat} {ty : TypeId} {pos : String} {aft : Array Edge} {o o' o'' : Operand} {fn : Func} {e : Exit}
  {α : Type} {args : Snap → Array Value → α → Prop} {l : Nat} {J : List α → Snap → (Nat → Prop) → World → Prop} {Jx : Snap → (Nat → Prop) → World → Prop} {xs pre post : List α} {x : α}
theorem Z_seq {jl : JL (J xs)} (hr : fn.results = #[]) (he : e = .ret ∨ e = .normal := by first | exact .inl rfl | exact .inr rfl) : Z (itK n w0 m0 (J xs) jl) s e (bodyPostM Fence.wide 0 P fn (SeqPost J Jx xs)) :=
  end_lv (jl0 := jl) ok_base he fun m' β γ κ a w' _ hw => ⟨_, results0 hr, ⟨_, rfl⟩, m', .inl (jl hw.jj.1 rfl rfl rfl (Nat.le_refl _) (fun _ _ _ => rfl) (Snap.le_refl _) (fun _ _ _ h => .inl h) hw.sees (fun _ h => h.elim))⟩
theorem Z_seqx {jl : JL Jx} (hr : fn.results = #[]) (he : e = .ret ∨ e = .normal := by first | exact .inl rfl | exact .inr rfl) : Z (itK n w0 m0 Jx jl) s e (bodyPostM Fence.wide 0 P fn (SeqPost J Jx xs)) :=
  end_lv (jl0 := jl) ok_base he fun m' β γ κ a w' _ hw => ⟨_, results0 hr, ⟨_, rfl⟩, m', .inr (jl hw.jj.1 rfl rfl rfl (Nat.le_refl _) (fun _ _ _ => rfl) (Snap.le_refl _) (fun _ _ _ h => .inl h) hw.sees (fun _ h => h.elim))⟩
/-- Nothing stands behind these. -/
theorem TW_stuck {c : Code} {jl : JL (J xs)} (h : ∀ m S w, ¬ J xs m S w) : TW (P := P) (itK n w0 m0 (J xs) jl) s c Q := fun _ _ _ _ _ _ _ hw => (h _ _ _ hw.jj.1).elim
/-- The caller's side, behind a round. -/
theorem WH.yielded {jl : JL (J pre)} {J' : Snap → (Nat → Prop) → World → Prop} {jl' : JL J'} {m m' : Snap} {β : Nat → Nat} {γ : Nat → Value} {κ : Nat → List Value} {B : Bs P} {w w' : World} (h : WH (itK n w0 m0 (J pre) jl) m β γ κ B w) (hg : B.gr = [])
    (h1 : w.heap.size ≤ w'.heap.size) (h2 : ∀ b, own β γ B b → w'.heap[b]? = w.heap[b]?) (h3 : Snap.le m m') (h4 : ∀ b i v, m' b i = some v → w'.cell? ⟨b, i, none⟩ = some v) (h5 : ∀ b, own β γ B b → ∀ i, m' b i = none) (h6 : J' m' (own β γ B) w') : WH (itK n w0 m' J' jl') m' β γ κ B w' := by
  refine ⟨h4, Snap.le_refl _, fun _ _ _ h => .inl h, fun y bv hy => ?_, h.inj, fun y gv hy => ?_, h.gbox, h.ginj, h.tie, ⟨h6, Nat.le_trans h.jj.2.1 h1, h.jj.2.2⟩⟩
  · obtain ⟨⟨T, hT⟩, hr, hB, _⟩ := h.box y bv hy
    have ho : own β γ B (β y) := .inl ⟨y, bv, hy, rfl⟩
    exact ⟨⟨T, by rw [h2 _ ho]; exact hT⟩, bv.i.mono h3 hr, hB, h5 _ ho⟩
  · rw [hg] at hy; simp [lk] at hy
theorem TL_yieldG {vs : Snap → (Nat → Nat) → (Nat → Value) → Act → Array Value} {os : List Operand} {tys : Array TypeId} (hY : YieldOk P args l J Jx xs) (hpre : xs = pre ++ x :: post) (hg : s.B.gr = []) (hJ : ∀ pre, JL (J pre)) (hJx : JL Jx)
    (hy : Ev (itK n w0 m0 (J pre) (hJ pre)) s o (.x (.func (.yield l) #[] #[]))) (hx : ∀ m β γ a, AH (itK n w0 m0 (J pre) (hJ pre)) m β γ s.sl a → args m (os.map a.eval).toArray x)
    (k1 : ∀ m1, TL (itK n w0 m1 (J (pre ++ [x])) (hJ (pre ++ [x]))) (s.put d (.d true)) ops Q rest) (k2 : ∀ m1, TL (itK n w0 m1 Jx hJx) (s.put d (.d false)) ops Q rest) (hd : Nat.ble (d + 1) n = true := by rfl) :
    TL (itK n w0 m0 (J pre) (hJ pre)) s ops Q (⟨some d, .call ⟨.value o, os.toArray, tys⟩, ty, pos, aft, none⟩ :: rest) := by
  intro m β γ κ a w ha hw
  have hd' : d < n := Nat.le_of_ble_eq_true hd
  have e : a.eval o = .func (.yield l) #[] #[] := hy m β γ a ha
  have hS : ∀ b, own β γ s.B b → b < w.heap.size ∧ ∀ i, m b i = none := fun b hb => by
    refine ⟨hw.own_lt hb, ?_⟩
    rcases hb with ⟨y, bv, h1, h2⟩ | ⟨y, gv, h1, h2⟩
    · rw [← h2]; exact (hw.box y bv h1).2.2.2
    · rw [hg] at h1; simp [lk] at h1
  obtain ⟨fnr, tmps, asg, bd, hrun, hround⟩ := hY pre x post m (own β γ s.B) w _ hpre hw.jj.1 hw.sees hS (hx m β γ a ha)
  unfold wpListIn
  rw [if_pos (show Region.wanted _ _ = true from rfl)]
  refine ⟨fun _ _ => trivial, ?_⟩
  have hex : ∀ oo : Oper, oo.op = .call ⟨.value o, os.toArray, tys⟩ → (execOp a.eval oo).run P w = .ok (.round l fnr tmps asg bd) w := fun oo ho => by
    have hev : (os.toArray.map a.eval) = (os.map a.eval).toArray := by simp
    simp only [execOp, ho, resolve, Sem.run_bind, e, Deferred.ofValue, Sem.run_pure, Result.andThen_ok, invoke, hev]
    simp only [Array.empty_append]
    simpa using hrun
  show Oper.uponIn (fc none) 0 P _ a _ Q _
  rw [Oper.semAt_eq _ _ _ (by intro _ h; cases h), hex _ rfl, Oper.uponIn_round]
  refine ⟨fun h => by simp [fc, Fence.wide] at h, RoundIn.mono (F := fc none) (n := 0) (show RoundIn (fc none) 0 P l fnr tmps asg bd w _ from hround) ?_⟩
  rintro e' w' ⟨h1, h2, m', h3, h4, h5, h6⟩
  rcases h6 with ⟨rfl, hJ'⟩ | ⟨rfl, hJ'⟩
  · exact k1 m' m' β γ κ _ w' (AH.put ⟨ha.defers, ha.size, fun t y hy => let ⟨v, hv, hh⟩ := ha.slot t y hy; ⟨v, hv, AV.holds_mono h3 hh⟩⟩ hd' (vbool (P := P) m' true)) (hw.yielded hg h1 h2 h3 h4 h5 hJ')
  · exact k2 m' m' β γ κ _ w' (AH.put ⟨ha.defers, ha.size, fun t y hy => let ⟨v, hv, hh⟩ := ha.slot t y hy; ⟨v, hv, AV.holds_mono h3 hh⟩⟩ hd' (vbool (P := P) m' false)) (hw.yielded hg h1 h2 h3 h4 h5 hJ')
end it
section it
variable {n : Nat} {w0 : World} {m0 : Snap} {s : St P} {ops : Array Oper} {Q : Exit → Act → World → Prop} {rest : List Oper} {d : Nat} {ty : TypeId} {pos : String} {aft : Array Edge} {o o' o'' : Operand} {tys : Array TypeId}
theorem TL_yield1 {α : Type} [Rp P α] {l : Nat} {J : List α → Snap → (Nat → Prop) → World → Prop} {Jx : Snap → (Nat → Prop) → World → Prop} {xs pre post : List α} {x : α} (hY : YieldOk P (args1 (P := P)) l J Jx xs) (hpre : xs = pre ++ x :: post) (hJ : ∀ pre, JL (J pre)) (hJx : JL Jx)
    (hy : Ev (itK n w0 m0 (J pre) (hJ pre)) s o (.x (.func (.yield l) #[] #[]))) (hx : Ev (itK n w0 m0 (J pre) (hJ pre)) s o' (.d x))
    (k1 : ∀ m1, TL (itK n w0 m1 (J (pre ++ [x])) (hJ (pre ++ [x]))) (s.put d (.d true)) ops Q rest) (k2 : ∀ m1, TL (itK n w0 m1 Jx hJx) (s.put d (.d false)) ops Q rest) (hg : s.B.gr = [] := by rfl) (hd : Nat.ble (d + 1) n = true := by rfl) :
    TL (itK n w0 m0 (J pre) (hJ pre)) s ops Q (⟨some d, .call ⟨.value o, #[o'], tys⟩, ty, pos, aft, none⟩ :: rest) :=
  TL_yieldG (os := [o']) (vs := fun _ _ _ _ => #[]) hY hpre hg hJ hJx hy (fun m β γ a ha => ⟨_, rfl, hx m β γ a ha⟩) k1 k2 hd
theorem TL_yield2 {α δ : Type} [Rp P α] [Rp P δ] {l : Nat} {J : List (α × δ) → Snap → (Nat → Prop) → World → Prop} {Jx : Snap → (Nat → Prop) → World → Prop} {xs pre post : List (α × δ)} {x : α} {y : δ} (hY : YieldOk P (args2 (P := P)) l J Jx xs) (hpre : xs = pre ++ (x, y) :: post) (hJ : ∀ pre, JL (J pre)) (hJx : JL Jx)
    (hy : Ev (itK n w0 m0 (J pre) (hJ pre)) s o (.x (.func (.yield l) #[] #[]))) (hx : Ev (itK n w0 m0 (J pre) (hJ pre)) s o' (.d x)) (hx' : Ev (itK n w0 m0 (J pre) (hJ pre)) s o'' (.d y))
    (k1 : ∀ m1, TL (itK n w0 m1 (J (pre ++ [(x, y)])) (hJ (pre ++ [(x, y)]))) (s.put d (.d true)) ops Q rest) (k2 : ∀ m1, TL (itK n w0 m1 Jx hJx) (s.put d (.d false)) ops Q rest) (hg : s.B.gr = [] := by rfl) (hd : Nat.ble (d + 1) n = true := by rfl) :
    TL (itK n w0 m0 (J pre) (hJ pre)) s ops Q (⟨some d, .call ⟨.value o, #[o', o''], tys⟩, ty, pos, aft, none⟩ :: rest) :=
  TL_yieldG (os := [o', o'']) (vs := fun _ _ _ _ => #[]) hY hpre hg hJ hJx hy (fun m β γ a ha => ⟨_, _, rfl, hx m β γ a ha, hx' m β γ a ha⟩) k1 k2 hd
end it
section ops
variable {K : Cx} {s : St P} {ty : TypeId} {pos : String} {aft : Array Edge} {g : Option (Nat × Bool)} {dst : Option Tmp}
/-- A closure that is a sequence. -/
theorem y_makeSeq {α : Type} [Rp P α] {f : FuncId} {os : List Operand} {caps : List (AV P)} {xs : List α} {fin : Bool} (hc : ∀ (m : Snap) (vs : Array Value), AllHold m vs.toList caps → SeqOk P (args1 (P := P)) f vs m xs fin) (he : EvAll K s os caps)
    (hf : callable P f = true) (hcl : allClosed caps = true := by rfl) : Y K s ⟨dst, .makeFunc (.func f) #[] os.toArray, ty, pos, aft, g⟩ (.d (P := P) (⟨xs, fin⟩ : Sq α)) := by
  refine Y.of_run fun m β γ κ a ha _ => ⟨.func (.func f) #[] (os.toArray.map a.eval), ⟨⟨f, _, rfl, hf, hc m _ ?_⟩, rfl⟩, fun w _ => by simp [execOp, Instr.makeFunc]⟩
  simpa using he.hold ha hcl
theorem y_makeSeq2 {α δ : Type} [Rp P α] [Rp P δ] {f : FuncId} {os : List Operand} {caps : List (AV P)} {xs : List (α × δ)} {fin : Bool} (hc : ∀ (m : Snap) (vs : Array Value), AllHold m vs.toList caps → SeqOk P (args2 (P := P)) f vs m xs fin) (he : EvAll K s os caps)
    (hf : callable P f = true) (hcl : allClosed caps = true := by rfl) : Y K s ⟨dst, .makeFunc (.func f) #[] os.toArray, ty, pos, aft, g⟩ (.d (P := P) (⟨xs, fin⟩ : Sq2 α δ)) := by
  refine Y.of_run fun m β γ κ a ha _ => ⟨.func (.func f) #[] (os.toArray.map a.eval), ⟨⟨f, _, rfl, hf, hc m _ ?_⟩, rfl⟩, fun w _ => by simp [execOp, Instr.makeFunc]⟩
  simpa using he.hold ha hcl
end ops
end Go.Ph
/-! A drawn region whose end is walked in the order of its text. -/
namespace Go.Ph
open Go.RowKit (Below)
universe u
variable {P : Program}
section
variable {K : Cx} {ops : Array Oper} {s s' : St P} {X : List (Option (AV P))} {V : List (Ver P)} {G : List (VerG P)} {cn : Option (Nat × Nat)} {ti : List ((Nat × Nat) × Nat)} {L : Array Bool} {i : Nat} {o : Oper} {d : Nat} {x : AV P}
theorem TL_split {rest : List Oper} {Q : Exit → Act → World → Prop} (B : Bool) (h1 : B = true → TL K s ops Q rest) (h2 : B = false → TL K s ops Q rest) : TL K s ops Q rest := by
  cases B with
  | true => exact h1 rfl
  | false => exact h2 rfl
end
/-! Loops of the functions that are ranged over. -/
section
variable {n : Nat} {w0 : World} {Q : Exit → Act → World → Prop} {α : Type} {J : List α → Snap → (Nat → Prop) → World → Prop} {ys : List α}
theorem it_range {β σ : Type} (X : List β) (S : Nat → σ → St P) {c : Code} (hJ : ∀ pre, JL (J pre)) (F : List β → Nat → σ → List α → Prop)
    (hnil : ∀ m0 pre i s out, X.length ≤ i → ys = pre ++ out → F [] i s out → TW (itK n w0 m0 (J pre) (hJ pre)) (S i s) c Q)
    (hcons : ∀ m0 pre x xs i s out, i < X.length → X[i]? = some x → (∀ m0 pre s out, ys = pre ++ out → F xs (i + 1) s out → TW (itK n w0 m0 (J pre) (hJ pre)) (S (i + 1) s) c Q) → ys = pre ++ out → F (x :: xs) i s out → TW (itK n w0 m0 (J pre) (hJ pre)) (S i s) c Q) :
    ∀ (xs : List β) (m0 : Snap) (pre : List α) (i : Nat) (s : σ) (out : List α), X.drop i = xs → ys = pre ++ out → F xs i s out → TW (itK n w0 m0 (J pre) (hJ pre)) (S i s) c Q
  | [], m0, pre, i, s, out, hx, hp, hF => hnil m0 pre i s out (drop_nil hx) hp hF
  | x :: xs, m0, pre, i, s, out, hx, hp, hF => by
    obtain ⟨h1, h2, h3⟩ := drop_cons hx
    exact hcons m0 pre x xs i s out h1 h2 (fun m0 pre s out hp hF' => it_range X S hJ F hnil hcons xs m0 pre (i + 1) s out h3 hp hF') hp hF
theorem it_fuel {σ : Type} (S : σ → St P) {c : Code} (hJ : ∀ pre, JL (J pre)) (F : Nat → σ → List α → Prop)
    (h0 : ∀ m0 pre s out, ys = pre ++ out → F 0 s out → TW (itK n w0 m0 (J pre) (hJ pre)) (S s) c Q)
    (hs : ∀ m0 pre k s out, (∀ m0 pre s out, ys = pre ++ out → F k s out → TW (itK n w0 m0 (J pre) (hJ pre)) (S s) c Q) → ys = pre ++ out → F (k + 1) s out → TW (itK n w0 m0 (J pre) (hJ pre)) (S s) c Q) :
    ∀ (k : Nat) (m0 : Snap) (pre : List α) (s : σ) (out : List α), ys = pre ++ out → F k s out → TW (itK n w0 m0 (J pre) (hJ pre)) (S s) c Q
  | 0, m0, pre, s, out, hp, hF => h0 m0 pre s out hp hF
  | k + 1, m0, pre, s, out, hp, hF => hs m0 pre k s out (fun m0 pre s out hp hF' => it_fuel S hJ F h0 hs k m0 pre s out hp hF') hp hF
end
end Go.Ph
namespace Go.Ph
variable {P : Program}
section
variable {α : Type} {ys pre out out' : List α} {x : α} {b fin fin' : Bool}
theorem it_step (h : some (x :: out', fin') = some (out, fin)) (hp : ys = pre ++ out) : fin = fin' ∧ ys = pre ++ x :: out' ∧ ys = (pre ++ [x]) ++ out' := by
  simp only [Option.some.injEq, Prod.mk.injEq] at h
  obtain ⟨rfl, rfl⟩ := h
  exact ⟨rfl, hp, by rw [hp]; simp⟩
variable {n : Nat} {w0 : World} {m0 : Snap} {s : St P} {Q : Exit → Act → World → Prop} {fn : Func} {e : Exit} {J : List α → Snap → (Nat → Prop) → World → Prop} {Jx : Snap → (Nat → Prop) → World → Prop}
theorem it_end {hJ : ∀ pre, JL (J pre)} (h : some (([] : List α), b) = some (out, fin)) (hp : ys = pre ++ out) (hr : fn.results = #[]) (he : e = .ret ∨ e = .normal := by first | exact .inl rfl | exact .inr rfl) :
    Z (itK n w0 m0 (J pre) (hJ pre)) s e (bodyPostM Fence.wide 0 P fn (SeqPost J Jx ys)) := by
  simp only [Option.some.injEq, Prod.mk.injEq] at h
  obtain ⟨rfl, _⟩ := h
  rw [List.append_nil] at hp
  subst hp
  exact Z_seq hr he
theorem it_stuck {c : Code} {hJ : ∀ pre, JL (J pre)} (hfin : fin = false → ∀ m S w, ¬ J ys m S w) (h : some (([] : List α), false) = some (out, fin)) (hp : ys = pre ++ out) : TW (P := P) (itK n w0 m0 (J pre) (hJ pre)) s c Q := by
  simp only [Option.some.injEq, Prod.mk.injEq] at h
  obtain ⟨rfl, rfl⟩ := h
  rw [List.append_nil] at hp
  subst hp
  exact TW_stuck (hfin rfl)
end
end Go.Ph
