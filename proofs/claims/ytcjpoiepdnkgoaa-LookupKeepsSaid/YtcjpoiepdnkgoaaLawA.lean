/- WHAT IS PROVED: part of the proof that posthouselaw11.LookupKeeps returns true at every input and leaves its arguments alone. CONDITIONS: none beyond the row. -/
import Derived.Test.YtcjpoiepdnkgoaaPA
import Derived.Test.YtcjpoiepdnkgoaaPB
import Derived.Test.YtcjpoiepdnkgoaaPC
import Derived.Test.YtcjpoiepdnkgoaaPD
import Derived.Sort.AssemblyPlain
namespace Go.Ph
open Go.Proofs
set_option maxRecDepth 100000
theorem alive_true : law11_alive = some true := by kernel_rfl
end Go.Ph
namespace Go.Ph
open Go.Proofs
/-! Identities as numbers. -/
def be : List UInt8 → Nat
  | [] => 0
  | x :: xs => x.toNat * 256 ^ xs.length + be xs
theorem be_append : ∀ (a b : List UInt8), be (a ++ b) = be a * 256 ^ b.length + be b
  | [], b => by simp [be]
  | x :: a, b => by
    rw [List.cons_append]
    simp only [be, be_append a b, List.length_append, Nat.pow_add, Nat.add_mul, Nat.mul_assoc, Nat.add_assoc]
theorem be_lt : ∀ (l : List UInt8), be l < 256 ^ l.length
  | [] => by simp [be]
  | x :: xs => by
    have h1 := be_lt xs
    have h2 := x.toNat_lt
    simp only [be, List.length_cons, Nat.pow_succ]
    have : x.toNat * 256 ^ xs.length ≤ 255 * 256 ^ xs.length := Nat.mul_le_mul_right _ (by omega)
    omega
theorem be_inj : ∀ {a b : List UInt8}, a.length = b.length → be a = be b → a = b
  | [], [], _, _ => rfl
  | x :: a, y :: b, hl, h => by
    have hl' : a.length = b.length := by simpa using hl
    simp only [be, hl'] at h
    have h1 := be_lt a
    have h2 := be_lt b
    rw [hl'] at h1
    have hp : 0 < 256 ^ b.length := Nat.pow_pos (by decide)
    have e1 : x.toNat = y.toNat := by
      have q1 : (x.toNat * 256 ^ b.length + be a) / 256 ^ b.length = x.toNat := by rw [Nat.mul_comm, Nat.mul_add_div hp, Nat.div_eq_of_lt h1]; rfl
      have q2 : (y.toNat * 256 ^ b.length + be b) / 256 ^ b.length = y.toNat := by rw [Nat.mul_comm, Nat.mul_add_div hp, Nat.div_eq_of_lt h2]; rfl
      rw [← q1, ← q2, h]
    have e2 : be a = be b := by rw [e1] at h; omega
    rw [be_inj hl' e2, UInt8.toNat_inj.1 e1]
  | [], _ :: _, hl, _ => by simp at hl
  | _ :: _, [], hl, _ => by simp at hl
def val (v : Id) : Nat := be v.toList
def M : Nat := 256 ^ 32
theorem len_id (v : Id) : v.toList.length = 32 := by simp
theorem val_lt (v : Id) : val v < M := by have := be_lt v.toList; rw [len_id] at this; exact this
theorem val_inj {u v : Id} (h : val u = val v) : u = v := by
  have := be_inj (a := u.toList) (b := v.toList) (by rw [len_id, len_id]) h
  exact Vector.toList_inj.1 this
/-- The last p places. -/
def lo (v : Id) (p : Nat) : Nat := be (v.toList.drop (32 - p))
theorem lo_zero (v : Id) : lo v 0 = 0 := by
  unfold lo; rw [List.drop_of_length_le (by rw [len_id]; omega)]; rfl
theorem lo_all (v : Id) : lo v 32 = val v := rfl
theorem at_id (v : Id) {i : Nat} (h : i < 32) : v.toList[i]? = some v[i] := by simp [h]
theorem lo_succ (v : Id) {p : Nat} (h : p < 32) : lo v (p + 1) = (v[31 - p]'(by omega)).toNat * 256 ^ p + lo v p := by
  unfold lo
  have e : 32 - (p + 1) = 31 - p := by omega
  have hl : 31 - p < v.toList.length := by rw [len_id]; omega
  rw [e, List.drop_eq_getElem_cons hl]
  simp only [be, List.length_drop, len_id]
  have e2 : 31 - p + 1 = 32 - p := by omega
  have e3 : 32 - (32 - p) = p := by omega
  rw [e2, e3]
  simp
theorem lo_lt (v : Id) {p : Nat} (h : p ≤ 32) : lo v p < 256 ^ p := by
  have := be_lt (v.toList.drop (32 - p))
  rw [List.length_drop, len_id] at this
  have e : 32 - (32 - p) = p := by omega
  rw [e] at this; exact this
theorem lo_congr {u v : Id} : ∀ {p : Nat}, p ≤ 32 → (∀ j (hj : j < 32), 32 - p ≤ j → u[j] = v[j]) → lo u p = lo v p
  | 0, _, _ => by rw [lo_zero, lo_zero]
  | p + 1, hp, h => by
    rw [lo_succ u (by omega), lo_succ v (by omega), h (31 - p) (by omega) (by omega), lo_congr (p := p) (by omega) fun j hj h2 => h j hj (by omega)]
theorem vix_at (v : Id) {i : Nat} (h : i < 32) : vix v (i : Int) = some v[i] := by
  unfold vix; rw [if_pos (by omega)]; simp [h]
theorem vput_at (v : Id) (x : UInt8) {i j : Nat} (hi : i < 32) (hj : j < 32) : (vput v (i : Int) x)[j] = if i = j then x else v[j] := by
  unfold vput
  rw [dif_pos (by simpa using hi)]
  simp only [Int.toNat_natCast]
  rw [Vector.getElem_set]
theorem vchk_at {i : Nat} (h : i < 32) : vchk 32 (i : Int) = some () := by unfold vchk; rw [if_pos (by simpa using h)]
theorem toU8_nat {n : Int} (h : 0 ≤ n ∧ n < 256) : ((toU8 n).toNat : Int) = n := by
  unfold toU8
  rw [UInt8.toNat_ofNat']
  omega
theorem fuel_big : 4000000 ≤ FUEL := by unfold FUEL; decide
theorem far_loop (a1 a0 : Id) : ∀ (k : Nat) (out : Id) (bw : Nat) (fuel : Nat), k ≤ 32 → bw ≤ 1 → k < fuel → lo out (32 - k) + lo a0 (32 - k) = lo a1 (32 - k) + bw * 256 ^ (32 - k) →
    ∃ (out' : Id) (bw' : Nat), ident_Far_l0 a1 a0 fuel (out, (bw : Int), (k : Int) - 1) = some (out', (bw' : Int), -1) ∧ val out' + val a0 = val a1 + bw' * M
  | 0, out, bw, fuel, _, hb, hf, h => by
    obtain ⟨f, rfl⟩ : ∃ f, fuel = f + 1 := ⟨fuel - 1, by omega⟩
    exact ⟨out, bw, by simp [ident_Far_l0], by simpa [lo_all, M] using h⟩
  | k + 1, out, bw, fuel, hk, hb, hf, h => by
    obtain ⟨f, rfl⟩ : ∃ f, fuel = f + 1 := ⟨fuel - 1, by omega⟩
    have hk1 : k < 32 := by omega
    have e1 : ((k + 1 : Nat) : Int) - 1 = (k : Int) := by omega
    have x1 := (a1[k]).toNat_lt
    have x0 := (a0[k]).toNat_lt
    generalize hd : ((a1[k]).toNat : Int) - ((a0[k]).toNat : Int) - (bw : Int) = t
    have hw : w64 ((w64 (((a1[k]).toNat : Int) - ((a0[k]).toNat : Int))) - (bw : Int)) = t := by rw [w64_eq (n := ((a1[k]).toNat : Int) - _) (by omega), w64_eq (by omega)]; exact hd
    obtain ⟨dg, bw', hdg0, hdg, hbw, hs⟩ : ∃ (dg bw' : Nat), dg < 256 ∧ (dg : Int) = t + 256 * bw' ∧ bw' ≤ 1 ∧ (bif decide (t < 0) then some ((1 : Int), w64 (t + 256)) else some ((0 : Int), t)) = some ((bw' : Int), (dg : Int)) := by
      by_cases ht : t < 0
      · refine ⟨(t + 256).toNat, 1, by omega, by omega, by omega, ?_⟩
        rw [decide_eq_true ht, cond_true, w64_eq (by omega)]
        have : (((t + 256).toNat : Nat) : Int) = t + 256 := by omega
        rw [this]; rfl
      · refine ⟨t.toNat, 0, by omega, by omega, by omega, ?_⟩
        rw [decide_eq_false ht, cond_false]
        have : ((t.toNat : Nat) : Int) = t := by omega
        rw [this]; rfl
    have hrun : ident_Far_l0 a1 a0 (f + 1) (out, (bw : Int), ((k + 1 : Nat) : Int) - 1) = ident_Far_l0 a1 a0 f (vput out (k : Int) (toU8 (dg : Int)), (bw' : Int), (k : Int) - 1) := by
      rw [e1, ident_Far_l0.eq_2]
      dsimp only
      rw [decide_eq_true (by omega : (0 : Int) ≤ (k : Int)), cond_true, vix_at a1 hk1, vix_at a0 hk1, vchk_at hk1]
      simp only [Option.bind_some, hw, hs]
      rw [w64_eq (by omega)]
    rw [hrun]
    refine far_loop a1 a0 k _ bw' f (by omega) hbw (by omega) ?_
    have ep : 32 - k = (32 - (k + 1)) + 1 := by omega
    generalize hp : 32 - (k + 1) = p at h ep
    have hp32 : p < 32 := by omega
    have ek : 31 - p = k := by omega
    rw [ep, lo_succ _ hp32, lo_succ _ hp32, lo_succ _ hp32]
    simp only [ek]
    rw [vput_at _ _ hk1 hk1, if_pos rfl]
    have elo : lo (vput out (k : Int) (toU8 (dg : Int))) p = lo out p := lo_congr (by omega) fun j hj hle => by
      rw [vput_at _ _ hk1 hj, if_neg (by omega)]
    have edg : (toU8 (dg : Int)).toNat = dg := by have := toU8_nat (n := (dg : Int)) (by omega); omega
    rw [elo, edg]
    have hkey : dg + (a0[k]).toNat + bw = (a1[k]).toNat + 256 * bw' := by omega
    have hm := congrArg (· * 256 ^ p) hkey
    simp only [Nat.add_mul] at hm
    rw [Nat.pow_succ]
    have hq : 256 * bw' * 256 ^ p = bw' * (256 ^ p * 256) := by rw [Nat.mul_comm 256 bw', Nat.mul_assoc, Nat.mul_comm 256]
    omega
theorem ident_Far_eq (a0 a1 : Id) : ∃ r, ident_Far a0 a1 = some r ∧ val r = (val a1 + M - val a0) % M := by
  obtain ⟨out, bw, h1, h2⟩ := far_loop a1 a0 32 Id.zero 0 FUEL (by omega) (by omega) (by have := fuel_big; omega) (by rw [Nat.sub_self, lo_zero, lo_zero, lo_zero])
  refine ⟨out, ?_, ?_⟩
  · unfold ident_Far
    have : ident_Far_l0 a1 a0 FUEL (Id.zero, 0, 31) = some (out, (bw : Int), -1) := h1
    rw [this]; rfl
  · have l1 := val_lt out
    have l2 := val_lt a0
    have l3 := val_lt a1
    have hM : 0 < M := by unfold M; decide
    rcases Nat.lt_or_ge (val a1) (val a0) with hlt | hge
    · rw [Nat.mod_eq_of_lt (by omega)]
      have : bw = 1 := by
        rcases Nat.lt_or_ge bw 2 with hb | hb
        · rcases Nat.eq_zero_or_pos bw with h0 | h0
          · subst h0; omega
          · omega
        · have : 2 * M ≤ bw * M := Nat.mul_le_mul_right _ hb
          omega
      subst this; omega
    · have e : val a1 + M - val a0 = (val a1 - val a0) + M := by omega
      rw [e, Nat.add_mod_right, Nat.mod_eq_of_lt (by omega)]
      have : bw = 0 := by
        rcases Nat.eq_zero_or_pos bw with h0 | h0
        · exact h0
        · have : 1 * M ≤ bw * M := Nat.mul_le_mul_right _ h0
          omega
      subst this; omega
end Go.Ph
namespace Go.Ph
open Go.Proofs
theorem w64n {n : Nat} (h : n < 4294967296) : w64 (n : Int) = n := w64_eq (by omega)
/-! ### Not -/
theorem not_loop (a0 : Id) : ∀ (k : Nat) (out : Id) (fuel : Nat), k ≤ 32 → k < fuel → (∀ j (hj : j < 32), j < 32 - k → (out[j]).toNat = 255 - (a0[j]).toNat) →
    ∃ (out' : Id), r01_Not_l0 a0 fuel (out, ((32 - k : Nat) : Int)) = some (out', 32) ∧ ∀ j (hj : j < 32), (out'[j]).toNat = 255 - (a0[j]).toNat
  | 0, out, fuel, _, hf, h => by
    obtain ⟨f, rfl⟩ : ∃ f, fuel = f + 1 := ⟨fuel - 1, by omega⟩
    exact ⟨out, by simp [r01_Not_l0], fun j hj => h j hj (by omega)⟩
  | k + 1, out, fuel, hk, hf, h => by
    obtain ⟨f, rfl⟩ : ∃ f, fuel = f + 1 := ⟨fuel - 1, by omega⟩
    have hi : 32 - (k + 1) < 32 := by omega
    generalize hp : 32 - (k + 1) = i at h hi
    have ek : 32 - k = i + 1 := by omega
    have hrun : r01_Not_l0 a0 (f + 1) (out, (i : Int)) = r01_Not_l0 a0 f (vput out (i : Int) ((UInt8.ofNat 255) - a0[i]), ((i + 1 : Nat) : Int)) := by
      rw [r01_Not_l0.eq_2]
      dsimp only
      rw [decide_eq_true (by omega : (i : Int) < 32), cond_true, vix_at a0 hi, vchk_at hi]
      simp only [Option.bind_some]
      rw [w64_eq (by omega)]; rfl
    rw [hrun, ← ek]
    refine not_loop a0 k _ f (by omega) (by omega) fun j hj hlt => ?_
    rw [vput_at _ _ hi hj]
    by_cases e : i = j
    · subst e
      rw [if_pos rfl]
      have := (a0[i]).toNat_lt
      rw [UInt8.toNat_sub]
      have : (UInt8.ofNat 255).toNat = 255 := rfl
      omega
    · rw [if_neg e]; exact h j hj (by omega)
theorem lo_not {u v : Id} (h : ∀ j (hj : j < 32), (u[j]).toNat = 255 - (v[j]).toNat) : ∀ (p : Nat), p ≤ 32 → lo u p + lo v p + 1 = 256 ^ p
  | 0, _ => by rw [lo_zero, lo_zero]
  | p + 1, hp => by
    have ih := lo_not h p (by omega)
    rw [lo_succ _ (by omega), lo_succ _ (by omega), h _ (by omega), Nat.pow_succ]
    have := (v[31 - p]).toNat_lt
    have e : (255 - (v[31 - p]).toNat) * 256 ^ p + (v[31 - p]).toNat * 256 ^ p = 255 * 256 ^ p := by rw [← Nat.add_mul]; congr 1; omega
    omega
theorem r01_Not_eq (a0 : Id) : ∃ r, r01_Not a0 = some r ∧ val r + val a0 + 1 = M := by
  obtain ⟨out, h1, h2⟩ := not_loop a0 32 Id.zero FUEL (by omega) (by have := fuel_big; omega) (fun j hj h => by omega)
  refine ⟨out, ?_, ?_⟩
  · unfold r01_Not
    have : r01_Not_l0 a0 FUEL ((Id.zero : Id), 0) = some (out, 32) := h1
    rw [this]; rfl
  · exact lo_not h2 32 (by omega)
/-! ### Add -/
theorem add_loop (a0 a1 : Id) : ∀ (k : Nat) (out : Id) (c : Nat) (fuel : Nat), k ≤ 32 → c ≤ 1 → k < fuel → lo out (32 - k) + c * 256 ^ (32 - k) = lo a0 (32 - k) + lo a1 (32 - k) →
    ∃ (out' : Id) (c' : Nat), r01_Add_l0 a0 a1 fuel (out, (c : Int), (k : Int) - 1) = some (out', (c' : Int), -1) ∧ val out' + c' * M = val a0 + val a1
  | 0, out, c, fuel, _, hb, hf, h => by
    obtain ⟨f, rfl⟩ : ∃ f, fuel = f + 1 := ⟨fuel - 1, by omega⟩
    exact ⟨out, c, by simp [r01_Add_l0], by simpa [lo_all, M] using h⟩
  | k + 1, out, c, fuel, hk, hb, hf, h => by
    obtain ⟨f, rfl⟩ : ∃ f, fuel = f + 1 := ⟨fuel - 1, by omega⟩
    have hk1 : k < 32 := by omega
    have e1 : ((k + 1 : Nat) : Int) - 1 = (k : Int) := by omega
    have x1 := (a1[k]).toNat_lt
    have x0 := (a0[k]).toNat_lt
    generalize hd : (a0[k]).toNat + (a1[k]).toNat + c = t
    have hw : w64 ((w64 (((a0[k]).toNat : Int) + ((a1[k]).toNat : Int))) + (c : Int)) = (t : Int) := by rw [w64_eq (n := ((a0[k]).toNat : Int) + _) (by omega), w64_eq (by omega)]; omega
    have e2 : Int.tmod (t : Int) 256 = ((t % 256 : Nat) : Int) := rfl
    have e3 : w64 (Int.tdiv (t : Int) 256) = ((t / 256 : Nat) : Int) := by
      have : Int.tdiv (t : Int) 256 = ((t / 256 : Nat) : Int) := rfl
      rw [this, w64n (by omega)]
    have hrun : r01_Add_l0 a0 a1 (f + 1) (out, (c : Int), ((k + 1 : Nat) : Int) - 1) = r01_Add_l0 a0 a1 f (vput out (k : Int) (toU8 ((t % 256 : Nat) : Int)), ((t / 256 : Nat) : Int), (k : Int) - 1) := by
      rw [e1, r01_Add_l0.eq_2]
      dsimp only
      rw [decide_eq_true (by omega : (0 : Int) ≤ (k : Int)), cond_true, vix_at a1 hk1, vix_at a0 hk1, vchk_at hk1]
      simp only [Option.bind_some, hw, e2, e3]
      rw [w64_eq (by omega)]
    rw [hrun]
    refine add_loop a0 a1 k _ (t / 256) f (by omega) (by omega) (by omega) ?_
    have ep : 32 - k = (32 - (k + 1)) + 1 := by omega
    generalize hp : 32 - (k + 1) = p at h ep
    have hp32 : p < 32 := by omega
    have ek : 31 - p = k := by omega
    rw [ep, lo_succ _ hp32, lo_succ _ hp32, lo_succ _ hp32]
    simp only [ek]
    rw [vput_at _ _ hk1 hk1, if_pos rfl]
    have elo : lo (vput out (k : Int) (toU8 ((t % 256 : Nat) : Int))) p = lo out p := lo_congr (by omega) fun j hj hle => by
      rw [vput_at _ _ hk1 hj, if_neg (by omega)]
    have edg : (toU8 ((t % 256 : Nat) : Int)).toNat = t % 256 := by have := toU8_nat (n := ((t % 256 : Nat) : Int)) (by omega); omega
    rw [elo, edg]
    have hkey : t % 256 + t / 256 * 256 = (a0[k]).toNat + (a1[k]).toNat + c := by omega
    have hm := congrArg (· * 256 ^ p) hkey
    simp only [Nat.add_mul] at hm
    rw [Nat.pow_succ]
    have hq : t / 256 * 256 * 256 ^ p = t / 256 * (256 ^ p * 256) := by rw [Nat.mul_assoc, Nat.mul_comm 256]
    omega
theorem r01_Add_eq (a0 a1 : Id) : ∃ r, r01_Add a0 a1 = some r ∧ val r = (val a0 + val a1) % M := by
  obtain ⟨out, c, h1, h2⟩ := add_loop a0 a1 32 Id.zero 0 FUEL (by omega) (by omega) (by have := fuel_big; omega) (by rw [Nat.sub_self, lo_zero, lo_zero, lo_zero])
  refine ⟨out, ?_, ?_⟩
  · unfold r01_Add
    have : r01_Add_l0 a0 a1 FUEL (Id.zero, 0, 31) = some (out, (c : Int), -1) := h1
    rw [this]; rfl
  · have l1 := val_lt out
    rw [← h2, Nat.add_mul_mod_self_right, Nat.mod_eq_of_lt l1]
theorem r01_Power_0 : r01_Power 0 = some (vput (Id.zero : Id) 31 1) := by kernel_rfl
theorem val_one : val (vput (Id.zero : Id) 31 1) = 1 := by kernel_rfl
theorem r01_Far_eq (a0 a1 : Id) : ∃ r, r01_Far a0 a1 = some r ∧ val r = (val a1 + M - val a0) % M := by
  obtain ⟨n, h1, e1⟩ := r01_Not_eq a0
  obtain ⟨s, h2, e2⟩ := r01_Add_eq a1 n
  obtain ⟨t, h3, e3⟩ := r01_Add_eq s (vput (Id.zero : Id) 31 1)
  refine ⟨t, ?_, ?_⟩
  · unfold r01_Far
    rw [h1, Option.bind_some, h2, Option.bind_some, r01_Power_0, Option.bind_some, h3]; rfl
  · rw [e3, val_one, e2, Nat.mod_add_mod]
    congr 1; omega
theorem far_same (a0 a1 : Id) : r01_Far a0 a1 = ident_Far a0 a1 := by
  obtain ⟨r, h1, e1⟩ := r01_Far_eq a0 a1
  obtain ⟨s, h2, e2⟩ := ident_Far_eq a0 a1
  rw [h1, h2, val_inj (e1.trans e2.symm)]
/-- The one and the other, compared. -/
def cmpN (a b : Nat) : Int := if a < b then -1 else if b < a then 1 else 0
theorem cmp_byte (x y : UInt8) : cmp_Compare_byte x y = some (cmpN x.toNat y.toNat) := by
  unfold cmp_Compare_byte cmp_isNaN_byte cmpN
  simp only [Option.bind_some, decide_true, Bool.not_true, cond_false]
  by_cases h1 : x < y
  · rw [decide_eq_true h1, cond_true, if_pos (UInt8.lt_iff_toNat_lt.1 h1)]
  · rw [decide_eq_false h1, cond_false, if_neg (fun h => h1 (UInt8.lt_iff_toNat_lt.2 h))]
    by_cases h2 : y < x
    · rw [decide_eq_true h2, cond_true, if_pos (UInt8.lt_iff_toNat_lt.1 h2)]
    · rw [decide_eq_false h2, cond_false, if_neg (fun h => h2 (UInt8.lt_iff_toNat_lt.2 h))]
theorem cmp_list (a1 : List UInt8) : ∀ (xs : List UInt8) (i : Nat), xs.length + i = a1.length → a1.length < 4294967296 →
    sl_Compare_byte_l0 a1 xs i () = (if be xs = be (a1.drop i) then some (.fall ()) else some (.ret (cmpN (be xs) (be (a1.drop i)))))
  | [], i, hl, _ => by
    have : a1.drop i = [] := List.drop_of_length_le (by simp at hl; omega)
    rw [this]; rfl
  | x :: xs, i, hl, hb => by
    have hi : i < a1.length := by simp at hl; omega
    have hd : a1.drop i = a1[i] :: a1.drop (i + 1) := List.drop_eq_getElem_cons hi
    have hlen : (a1.drop (i + 1)).length = xs.length := by rw [List.length_drop]; simp at hl; omega
    rw [sl_Compare_byte_l0.eq_2, decide_eq_false (by omega), cond_false]
    have hix : ix a1 (i : Int) = some a1[i] := by unfold ix; rw [if_pos (by omega)]; simp [hi]
    rw [hix, Option.bind_some, cmp_byte, Option.bind_some, hd]
    simp only [be, hlen]
    have l1 := be_lt xs
    have l2 := be_lt (a1.drop (i + 1))
    rw [hlen] at l2
    generalize hP : 256 ^ xs.length = Pw at l1 l2 ⊢
    generalize hX : x.toNat = X
    generalize hY : (a1[i]).toNat = Y
    by_cases e : X = Y
    · subst e
      have : cmpN X X = 0 := by simp [cmpN]
      rw [this]
      simp only [decide_true, Bool.not_true, cond_false]
      rw [cmp_list a1 xs (i + 1) (by simp at hl; omega) hb]
      by_cases q : be xs = be (a1.drop (i + 1))
      · rw [if_pos q, if_pos (by rw [q])]
      · rw [if_neg q, if_neg (by omega)]
        simp only [cmpN, Nat.add_lt_add_iff_left]
    · have hne : ¬ (cmpN X Y = 0) := by
        unfold cmpN; split
        · decide
        · split
          · decide
          · omega
      rw [decide_eq_false hne, Bool.not_false, cond_true]
      rcases Nat.lt_or_ge X Y with h | h
      · have : (X + 1) * Pw ≤ Y * Pw := Nat.mul_le_mul_right _ h
        rw [Nat.add_mul, Nat.one_mul] at this
        rw [if_neg (by omega)]
        unfold cmpN
        rw [if_pos h, if_pos (by omega)]
      · have : (Y + 1) * Pw ≤ X * Pw := Nat.mul_le_mul_right _ (by omega)
        rw [Nat.add_mul, Nat.one_mul] at this
        rw [if_neg (by omega)]
        unfold cmpN
        rw [if_neg (by omega), if_pos (by omega), if_neg (by omega), if_pos (by omega)]
theorem ident_Compare_eq (a b : Id) : ident_Compare a b = some (cmpN (val a) (val b)) := by
  unfold ident_Compare sl_Compare_byte
  rw [cmp_list b.toList a.toList 0 (by rw [len_id, len_id]) (by rw [len_id]; decide), List.drop_zero]
  by_cases h : be a.toList = be b.toList
  · rw [if_pos h]
    simp only [Option.bind_some, len_id]
    have : cmpN (val a) (val b) = 0 := by unfold val cmpN; rw [h]; simp
    rw [this]; rfl
  · rw [if_neg h]; rfl
end Go.Ph
namespace Go.Ph
open Go.Proofs
theorem bit_loop (a1 : Int) (n : Nat) (hn : n ≤ 7) (hw : w64 (7 - (Int.tmod a1 8)) = (n : Int)) : ∀ (k x : Nat) (fuel : Nat), k ≤ n → k < fuel → x < 256 →
    r01_Bit_l0 a1 fuel ((x : Int), ((n - k : Nat) : Int)) = some (((x / 2 ^ k : Nat) : Int), (n : Int))
  | 0, x, fuel, _, hf, hx => by
    obtain ⟨f, rfl⟩ : ∃ f, fuel = f + 1 := ⟨fuel - 1, by omega⟩
    rw [r01_Bit_l0.eq_2]
    dsimp only
    rw [hw, decide_eq_false (by omega), cond_false]
    simp
  | k + 1, x, fuel, hk, hf, hx => by
    obtain ⟨f, rfl⟩ : ∃ f, fuel = f + 1 := ⟨fuel - 1, by omega⟩
    rw [r01_Bit_l0.eq_2]
    dsimp only
    have e1 : w64 (Int.tdiv (x : Int) 2) = ((x / 2 : Nat) : Int) := by
      have : Int.tdiv (x : Int) 2 = ((x / 2 : Nat) : Int) := rfl
      rw [this, w64n (by omega)]
    have e2 : w64 (((n - (k + 1) : Nat) : Int) + 1) = ((n - k : Nat) : Int) := by rw [w64_eq (by omega)]; omega
    rw [hw, decide_eq_true (by omega), cond_true, e1, e2, bit_loop a1 n hn hw k (x / 2) f (by omega) (by omega) (by omega)]
    rw [Nat.div_div_eq_div_mul, Nat.pow_succ, Nat.mul_comm]
theorem digit (v : Id) {q : Nat} (h : q < 32) : val v / 256 ^ (31 - q) % 256 = (v[q]).toNat := by
  have hl : q < v.toList.length := by rw [len_id]; exact h
  have e : v.toList = v.toList.take q ++ ([v.toList[q]] ++ v.toList.drop (q + 1)) := by
    rw [List.singleton_append, ← List.drop_eq_getElem_cons hl, List.take_append_drop]
  unfold val
  rw [e, be_append, be_append]
  have hd : (v.toList.drop (q + 1)).length = 31 - q := by rw [List.length_drop, len_id]; omega
  have hlt := be_lt (v.toList.drop (q + 1))
  rw [hd] at hlt
  simp only [List.length_append, hd, List.length_cons, List.length_nil, be, Nat.pow_zero, Nat.mul_one, Nat.add_zero]
  have e2 : be (v.toList.take q) * 256 ^ (0 + 1 + (31 - q)) + ((v.toList[q]).toNat * 256 ^ (31 - q) + be (v.toList.drop (q + 1))) = 256 ^ (31 - q) * (be (v.toList.take q) * 256 + (v.toList[q]).toNat) + be (v.toList.drop (q + 1)) := by
    rw [Nat.mul_add, Nat.pow_add, Nat.zero_add, Nat.pow_one, ← Nat.mul_assoc, Nat.mul_comm (256 ^ (31 - q)) (be _ * 256), Nat.mul_comm (256 ^ (31 - q)) (v.toList[q]).toNat, Nat.add_assoc]
  rw [e2, Nat.mul_add_div (Nat.pow_pos (by decide)), Nat.div_eq_of_lt hlt, Nat.add_zero]
  have := (v.toList[q]).toNat_lt
  have e3 : v.toList[q] = v[q] := by simp
  rw [e3] at this ⊢
  omega
/-- The i-th bit from the left. -/
def bitN (x i : Nat) : Nat := x / 2 ^ (255 - i) % 2
theorem r01_Bit_eq (v : Id) {i : Nat} (h : i < 256) : r01_Bit v (i : Int) = some ((bitN (val v) i : Nat) : Int) := by
  have hq : i / 8 < 32 := by omega
  have e1 : w64 (Int.tdiv (i : Int) 8) = ((i / 8 : Nat) : Int) := by
    have : Int.tdiv (i : Int) 8 = ((i / 8 : Nat) : Int) := rfl
    rw [this, w64n (by omega)]
  have e2 : w64 (7 - (Int.tmod (i : Int) 8)) = ((7 - i % 8 : Nat) : Int) := by
    have : Int.tmod (i : Int) 8 = ((i % 8 : Nat) : Int) := rfl
    rw [this, w64_eq (by omega)]; omega
  have x := (v[i / 8]).toNat_lt
  unfold r01_Bit
  rw [e1, vix_at v hq, Option.bind_some]
  have hb := bit_loop (i : Int) (7 - i % 8) (by omega) e2 (7 - i % 8) (v[i / 8]).toNat FUEL (Nat.le_refl _) (by have := fuel_big; omega) x
  rw [Nat.sub_self] at hb
  have hb' : r01_Bit_l0 (i : Int) FUEL (((v[i / 8]).toNat : Int), 0) = _ := hb
  rw [hb', Option.bind_some]
  have e3 : Int.tmod (((v[i / 8]).toNat / 2 ^ (7 - i % 8) : Nat) : Int) 2 = (((v[i / 8]).toNat / 2 ^ (7 - i % 8) % 2 : Nat) : Int) := rfl
  dsimp only
  rw [e3]
  congr 2
  unfold bitN
  rw [← digit v hq]
  have e4 : 255 - i = 8 * (31 - i / 8) + (7 - i % 8) := by omega
  rw [e4, Nat.pow_add, Nat.pow_mul, ← Nat.div_div_eq_div_mul]
  have e5 : (2 : Nat) ^ 8 = 256 := by decide
  rw [e5]
  generalize val v / 256 ^ (31 - i / 8) = y
  have hk : 7 - i % 8 ≤ 7 := by omega
  generalize 7 - i % 8 = k at hk
  have e6 : (256 : Nat) = 2 ^ k * 2 ^ (8 - k) := by
    rw [← Nat.pow_add, show k + (8 - k) = 8 by omega]
  rw [e6, Nat.mod_mul_right_div_self]
  have e7 : 8 - k = (7 - k) + 1 := by omega
  rw [e7, Nat.pow_succ]
  exact Nat.mod_mod_of_dvd _ (Nat.dvd_mul_left _ _)
theorem bit_step (x i : Nat) (h : i < 256) : x / 2 ^ (256 - (i + 1)) = 2 * (x / 2 ^ (256 - i)) + bitN x i := by
  unfold bitN
  have e : 256 - i = (255 - i) + 1 := by omega
  have e2 : 256 - (i + 1) = 255 - i := by omega
  rw [e, e2, Nat.pow_succ, ← Nat.div_div_eq_div_mul]
  generalize x / 2 ^ (255 - i) = y
  omega
theorem lt_of_top {x y k : Nat} (h : x / 2 ^ k < y / 2 ^ k) : x < y := by
  rcases Nat.lt_or_ge x y with h1 | h1
  · exact h1
  · have := Nat.div_le_div_right (c := 2 ^ k) h1; omega
theorem cmpbit_loop (a b : Id) : ∀ (k fuel : Nat), k ≤ 256 → k < fuel → val a / 2 ^ k = val b / 2 ^ k →
    (r01_Compare_l0 a b fuel ((256 - k : Nat) : Int)).bind (fun o3 => match o3 with | .ret q => some q | .fall _ => some 0) = some (cmpN (val a) (val b))
  | 0, fuel, _, hf, h => by
    obtain ⟨f, rfl⟩ : ∃ f, fuel = f + 1 := ⟨fuel - 1, by omega⟩
    rw [Nat.pow_zero, Nat.div_one, Nat.div_one] at h
    rw [r01_Compare_l0.eq_2, decide_eq_false (by omega), cond_false]
    simp [cmpN, h]
  | k + 1, fuel, hk, hf, h => by
    obtain ⟨f, rfl⟩ : ∃ f, fuel = f + 1 := ⟨fuel - 1, by omega⟩
    have hi : 256 - (k + 1) < 256 := by omega
    have sa := bit_step (val a) (256 - (k + 1)) hi
    have sb := bit_step (val b) (256 - (k + 1)) hi
    have ek : 256 - (256 - (k + 1) + 1) = k := by omega
    have ek1 : 256 - (256 - (k + 1)) = k + 1 := by omega
    rw [ek, ek1] at sa sb
    have ba : bitN (val a) (256 - (k + 1)) < 2 := Nat.mod_lt _ (by decide)
    have bb : bitN (val b) (256 - (k + 1)) < 2 := Nat.mod_lt _ (by decide)
    rw [r01_Compare_l0.eq_2, decide_eq_true (by omega), cond_true, r01_Bit_eq a hi, r01_Bit_eq b hi]
    simp only [Option.bind_some]
    by_cases h1 : bitN (val a) (256 - (k + 1)) < bitN (val b) (256 - (k + 1))
    · rw [decide_eq_true (by omega), cond_true]
      have : val a < val b := lt_of_top (k := k) (by omega)
      simp [cmpN, this]
    · rw [decide_eq_false (by omega), cond_false]
      by_cases h2 : bitN (val b) (256 - (k + 1)) < bitN (val a) (256 - (k + 1))
      · rw [decide_eq_true (by omega), cond_true]
        have : val b < val a := lt_of_top (k := k) (by omega)
        have n : ¬ val a < val b := by omega
        simp [cmpN, this, n]
      · rw [decide_eq_false (by omega), cond_false]
        have ew : w64 (((256 - (k + 1) : Nat) : Int) + 1) = ((256 - k : Nat) : Int) := by rw [w64_eq (by omega)]; omega
        rw [ew]
        exact cmpbit_loop a b k f (by omega) (by omega) (by omega)
theorem r01_Compare_eq (a b : Id) : r01_Compare a b = some (cmpN (val a) (val b)) := by
  unfold r01_Compare
  have la := val_lt a
  have lb := val_lt b
  have e : M = 2 ^ 256 := by unfold M; decide
  have := cmpbit_loop a b 256 FUEL (Nat.le_refl _) (by have := fuel_big; omega) (by rw [Nat.div_eq_of_lt (by omega), Nat.div_eq_of_lt (by omega)])
  exact this
end Go.Ph
namespace Go.Ph
open Go.Proofs
/-! Right overlays: the program's word and the law's are one. -/
theorem slh_nat {α : Type} {xs : List α} {i : Nat} (h : i ≤ xs.length) : slh xs (i : Int) = some (xs.take i) := by
  unfold slh; rw [if_pos (by omega)]; rfl
theorem ix_nat {α : Type} {xs : List α} {i : Nat} (h : i < xs.length) : ix xs (i : Int) = some xs[i] := by
  unfold ix; rw [if_pos (by omega)]; simp [h]
theorem app_le {α : Type} {xs ys : List α} (h : xs.length + ys.length ≤ 1048576) : app xs ys = some (xs ++ ys) := by unfold app; rw [if_pos h]
/-- The first place, or -1. -/
def idxM {α : Type} (p : α → Bool) : List α → Nat → Int
  | [], _ => -1
  | x :: xs, i => bif p x then (i : Int) else idxM p xs (i + 1)
theorem indexM_l {p : Member → Bool} : ∀ (xs : List Member) (i : Nat), (sl_IndexFunc_Member_l0 ⟨fun x => some (p x)⟩ xs i ()).bind (fun o3 => match o3 with | .ret q => some q | .fall _ => some (-1)) = some (idxM p xs i)
  | [], _ => rfl
  | x :: xs, i => by
    rw [sl_IndexFunc_Member_l0.eq_2]
    simp only [Option.bind_some, idxM]
    cases p x with
    | true => rfl
    | false => exact indexM_l xs (i + 1)
theorem indexM {p : Member → Bool} (xs : List Member) : sl_IndexFunc_Member xs ⟨fun x => some (p x)⟩ = some (idxM p xs 0) := indexM_l xs 0
theorem idxM_any {α : Type} {p : α → Bool} : ∀ (xs : List α) (i : Nat), decide (0 ≤ idxM p xs i) = xs.any p
  | [], _ => rfl
  | x :: xs, i => by
    have ih := idxM_any (p := p) xs (i + 1)
    rw [List.any_cons, ← ih]
    unfold idxM
    by_cases hp : p x = true
    · have : decide (0 ≤ (i : Int)) = true := decide_eq_true (by omega)
      simp only [hp, cond_true, this, Bool.true_or]
    · have hp' : p x = false := by simpa using hp
      simp only [hp', cond_false, Bool.false_or]
      cases xs <;> rfl
theorem containsM {p : Member → Bool} (xs : List Member) : sl_ContainsFunc_Member xs ⟨fun x => some (p x)⟩ = some (xs.any p) := by
  unfold sl_ContainsFunc_Member
  rw [indexM, Option.bind_some, idxM_any]
def mayB (m : Member) : Bool := decide (0 ≤ m.no) && decide (m.no < 16)
theorem may09 (m : Member) : r09_may m = some (mayB m) := by
  unfold r09_may mayB
  congr 2
  exact decide_eq_decide.2 (by omega)
def noneM : Member := ⟨-1, Id.zero⟩
theorem node_none_eq : node_none = some noneM := rfl
/-- No two alike, none out of range, none of this number. -/
def unl (no : Int) : List Member → List Member → Bool
  | _, [] => true
  | pre, x :: xs => mayB x && !decide (x.no = no) && !(pre.any fun y => decide (y.no = x.no)) && unl no (pre ++ [x]) xs
theorem take_eq {α : Type} {xs pre r : List α} (h : xs = pre ++ r) : xs.take pre.length = pre := by subst h; simp
theorem unlike_l (a0 : List Member) (no : Int) : ∀ (xs pre : List Member), a0 = pre ++ xs →
    (node_unlike_l0 a0 no xs pre.length ()).bind (fun o3 => match o3 with | .ret q => some q | .fall _ => some true) = some (unl no pre xs)
  | [], _, _ => rfl
  | x :: xs, pre, h => by
    rw [node_unlike_l0.eq_2]
    have ht := take_eq h
    have hs : slh a0 (pre.length : Int) = some pre := by rw [slh_nat (by rw [h]; simp), ht]
    have ih := unlike_l a0 no xs (pre ++ [x]) (by rw [h]; simp)
    rw [List.length_append, List.length_singleton] at ih
    have hm : node_may x = some (mayB x) := rfl
    have ho : node_of x.no = some ⟨fun y => some (decide (y.no = x.no))⟩ := rfl
    simp only [hm, Option.bind_some, hs, ho, containsM, unl]
    cases mayB x with
    | false => simp
    | true =>
      cases hq : decide (x.no = no) with
      | true => simp
      | false =>
        cases hr : pre.any fun y => decide (y.no = x.no) with
        | true => simp
        | false => simpa using ih
theorem node_unlike_eq (xs : List Member) (no : Int) : node_unlike xs no = some (unl no [] xs) := unlike_l xs no xs [] rfl
theorem r09_l1 (x : Member) : ∀ (xs : List Member) (i : Nat), r09_unlike_l1 x xs i () = some (bif xs.any fun y => decide (y.no = x.no) then .ret false else .fall ())
  | [], _ => rfl
  | y :: ys, i => by
    rw [r09_unlike_l1.eq_2, List.any_cons]
    cases decide (y.no = x.no) with
    | true => rfl
    | false => simpa using r09_l1 x ys (i + 1)
theorem r09_l0 (a0 : List Member) (no : Int) : ∀ (xs pre : List Member), a0 = pre ++ xs →
    (r09_unlike_l0 no a0 xs pre.length ()).bind (fun o3 => match o3 with | .ret q => some q | .fall _ => some true) = some (unl no pre xs)
  | [], _, _ => rfl
  | x :: xs, pre, h => by
    rw [r09_unlike_l0.eq_2]
    have ht := take_eq h
    have hs : slh a0 (pre.length : Int) = some pre := by rw [slh_nat (by rw [h]; simp), ht]
    have ih := r09_l0 a0 no xs (pre ++ [x]) (by rw [h]; simp)
    rw [List.length_append, List.length_singleton] at ih
    simp only [may09, Option.bind_some, hs, r09_l1, unl]
    cases mayB x with
    | false => simp
    | true =>
      cases hq : decide (x.no = no) with
      | true => simp
      | false =>
        cases hr : pre.any fun y => decide (y.no = x.no) with
        | true => simp
        | false => simpa using ih
theorem r09_unlike_eq (xs : List Member) (no : Int) : r09_unlike xs no = some (unl no [] xs) := r09_l0 xs no xs [] rfl
def nodeB (n : Node) : Bool :=
  mayB n.self && (decide (n.pred = noneM) || (mayB n.pred && !decide (n.pred.no = n.self.no))) && decide (1 ≤ n.succs.length) && decide (n.succs.length ≤ 4) &&
    (decide (n.succs = [n.self]) || unl n.self.no [] n.succs) && decide (n.fingers.length ≤ 16) && unl n.self.no [] n.fingers
theorem equal_one (xs : List Member) (y : Member) : sl_Equal_Member xs [y] = some (decide (xs = [y])) := by
  unfold sl_Equal_Member
  match xs with
  | [] => rfl
  | [x] =>
    simp only [List.length_singleton, decide_true, Bool.not_true, cond_false]
    rw [sl_Equal_Member_l0.eq_2]
    have : ix [y] ((0 : Nat) : Int) = some y := rfl
    rw [this, Option.bind_some]
    by_cases h : x = y
    · subst h; simp [sl_Equal_Member_l0]
    · simp [h]
  | x :: x' :: xs =>
    have : ¬ (((x :: x' :: xs).length : Int) = (([y] : List Member).length : Int)) := by simp only [List.length_cons, List.length_nil]; omega
    rw [decide_eq_false this]
    simp
theorem node_Right_eq (n : Node) : node_Right n = some (nodeB n) := by
  have hm : ∀ x, node_may x = some (mayB x) := fun _ => rfl
  unfold node_Right nodeB
  simp only [node_none_eq, Option.bind_some, hm, equal_one, node_unlike_eq]
  have e1 : decide (1 ≤ (n.succs.length : Int)) = decide (1 ≤ n.succs.length) := decide_eq_decide.2 (by omega)
  have e2 : decide ((n.succs.length : Int) ≤ 4) = decide (n.succs.length ≤ 4) := decide_eq_decide.2 (by omega)
  have e3 : decide ((n.fingers.length : Int) ≤ 16) = decide (n.fingers.length ≤ 16) := decide_eq_decide.2 (by omega)
  rw [e1, e2, e3]
  generalize mayB n.self = b1
  generalize decide (n.pred = noneM) = b2
  generalize mayB n.pred = b3
  generalize decide (n.pred.no = n.self.no) = b4
  generalize decide (1 ≤ n.succs.length) = b5
  generalize decide (n.succs.length ≤ 4) = b6
  generalize decide (n.succs = [n.self]) = b7
  generalize unl n.self.no [] n.succs = b8
  generalize decide (n.fingers.length ≤ 16) = b9
  generalize unl n.self.no [] n.fingers = b10
  cases b1 <;> cases b2 <;> cases b3 <;> cases b4 <;> cases b5 <;> cases b6 <;> cases b7 <;> cases b8 <;> cases b9 <;> cases b10 <;> rfl
theorem r09_None_eq (m : Member) : r09_None m = some (decide (m = noneM)) := by
  unfold r09_None noneM
  congr 1
  rw [Bool.eq_iff_iff]
  simp only [Bool.and_eq_true, decide_eq_true_eq]
  cases m
  simp
theorem r09_Right_eq (n : Node) : r09_Right n = some (nodeB n) := by
  unfold r09_Right nodeB
  simp only [may09, Option.bind_some, r09_None_eq, r09_unlike_eq]
  have e1 : decide ((n.succs.length : Int) < 1) = !decide (1 ≤ n.succs.length) := by rw [← decide_not]; exact decide_eq_decide.2 (by omega)
  have e2 : decide (4 < (n.succs.length : Int)) = !decide (n.succs.length ≤ 4) := by rw [← decide_not]; exact decide_eq_decide.2 (by omega)
  have e3 : decide (16 < (n.fingers.length : Int)) = !decide (n.fingers.length ≤ 16) := by rw [← decide_not]; exact decide_eq_decide.2 (by omega)
  have e4 : (bif decide ((n.succs.length : Int) = 1) then (ix n.succs 0).bind fun t29 => some (decide (t29 = n.self)) else some false) = some (decide (n.succs = [n.self])) := by
    match hs : n.succs with
    | [] => simp
    | [x] =>
      have : ix [x] 0 = some x := rfl
      simp [this]
    | x :: y :: r =>
      have : ¬ (((x :: y :: r).length : Int) = 1) := by simp only [List.length_cons]; omega
      rw [decide_eq_false this]
      simp
  rw [e1, e2, e3, e4]
  generalize mayB n.self = b1
  generalize decide (n.pred = noneM) = b2
  generalize mayB n.pred = b3
  generalize decide (n.pred.no = n.self.no) = b4
  generalize decide (1 ≤ n.succs.length) = b5
  generalize decide (n.succs.length ≤ 4) = b6
  generalize decide (n.succs = [n.self]) = b7
  generalize unl n.self.no [] n.succs = b8
  generalize decide (n.fingers.length ≤ 16) = b9
  generalize unl n.self.no [] n.fingers = b10
  cases b1 <;> cases b2 <;> cases b3 <;> cases b4 <;> cases b5 <;> cases b6 <;> cases b7 <;> cases b8 <;> cases b9 <;> cases b10 <;> rfl
end Go.Ph
namespace Go.Ph
open Go.Proofs
/-! ### Lists that the library makes -/
theorem concat_l0 : ∀ (xss : List (List Member)) (i acc : Nat), acc + (xss.map List.length).sum ≤ 1048576 → sl_Concat_Member_l0 xss i (acc : Int) = some ((acc + (xss.map List.length).sum : Nat) : Int)
  | [], _, _, _ => rfl
  | x :: xss, i, acc, h => by
    simp only [List.map_cons, List.sum_cons] at h ⊢
    rw [sl_Concat_Member_l0.eq_2]
    have e : w64 ((acc : Int) + (x.length : Int)) = ((acc + x.length : Nat) : Int) := by rw [w64_eq (by omega)]; omega
    rw [e, decide_eq_false (by omega), cond_false, Option.bind_some, concat_l0 xss (i + 1) _ (by omega), Nat.add_assoc]
theorem concat_l1 : ∀ (xss : List (List Member)) (i : Nat) (acc : List Member), acc.length + (xss.map List.length).sum ≤ 1048576 → sl_Concat_Member_l1 xss i acc = some (acc ++ xss.flatten)
  | [], _, _, _ => by simp [sl_Concat_Member_l1]
  | x :: xss, i, acc, h => by
    simp only [List.map_cons, List.sum_cons] at h
    rw [sl_Concat_Member_l1.eq_2, app_le (by omega), Option.bind_some, concat_l1 xss (i + 1) _ (by rw [List.length_append]; omega)]
    simp
theorem concat_eq (xss : List (List Member)) (h : (xss.map List.length).sum ≤ 1048576) : sl_Concat_Member xss = some xss.flatten := by
  unfold sl_Concat_Member
  have h0 := concat_l0 xss 0 0 (by omega)
  have h0' : sl_Concat_Member_l0 xss 0 0 = _ := h0
  rw [h0', Option.bind_some]
  unfold sl_Grow_Member
  rw [if_pos (by omega), Option.bind_some, concat_l1 xss 0 [] (by simpa using h)]
  simp
theorem values_l0 : ∀ (xs : List Member) (i : Nat), sl_Values_Member_1_l0 xs i () = some (xs, true)
  | [], _ => rfl
  | x :: xs, i => by rw [sl_Values_Member_1_l0.eq_2, values_l0 xs (i + 1)]; rfl
theorem values_eq (xs : List Member) : sl_Values_Member xs = some ⟨xs, true⟩ := by
  unfold sl_Values_Member sl_Values_Member_1_sq
  rw [values_l0]; rfl
def knownM (n : Node) : List Member := n.pred :: (n.succs ++ n.fingers)
def Small (n : Node) : Prop := n.succs.length ≤ 6 ∧ n.fingers.length ≤ 18
theorem chord_known_eq {n : Node} (h : Small n) : chord_known n = some ⟨knownM n, true⟩ := by
  obtain ⟨h1, h2⟩ := h
  unfold chord_known
  rw [concat_eq _ (by simp; omega), Option.bind_some, values_eq]
  simp [knownM]
theorem r10_Known_eq {n : Node} (h : Small n) : r10_Known n = some (knownM n) := by
  obtain ⟨h1, h2⟩ := h
  unfold r10_Known
  rw [app_le (by simp; omega), Option.bind_some, app_le (by simp; omega), Option.bind_some]
  simp [knownM]
/-! ### Members -/
theorem members_l0 : ∀ (ns : List Node) (i : Nat) (acc : List Member), acc.length + ns.length ≤ 1048576 → chord_Members_l0 ns i acc = some (acc ++ ns.map (·.self))
  | [], _, _, _ => by simp [chord_Members_l0]
  | n :: ns, i, acc, h => by
    rw [List.length_cons] at h
    rw [chord_Members_l0.eq_2, app_le (by simp; omega), Option.bind_some, members_l0 ns (i + 1) _ (by simp; omega)]
    simp
theorem chord_Members_eq {o : Overlay} (h : o.nodes.length ≤ 18) : chord_Members o = some (o.nodes.map (·.self)) := by
  unfold chord_Members
  rw [members_l0 _ _ _ (by simp; omega)]; simp
theorem r10_members_l0 : ∀ (ns : List Node) (i : Nat) (acc : List Member), acc.length + ns.length ≤ 1048576 → r10_Members_l0 ns i acc = some (acc ++ ns.map (·.self))
  | [], _, _, _ => by simp [r10_Members_l0]
  | n :: ns, i, acc, h => by
    rw [List.length_cons] at h
    rw [r10_Members_l0.eq_2, app_le (by simp; omega), Option.bind_some, r10_members_l0 ns (i + 1) _ (by simp; omega)]
    simp
theorem r10_Members_eq {o : Overlay} (h : o.nodes.length ≤ 18) : r10_Members o = some (o.nodes.map (·.self)) := by
  unfold r10_Members
  rw [r10_members_l0 _ _ _ (by simp; omega)]; simp
/-! ### Who is meant by a number -/
def fnd (no : Int) : List Member → Option Member
  | [] => none
  | m :: ms => bif decide (m.no = no) then some m else fnd no ms
theorem chord_self_l (no : Int) : ∀ (ns : List Node) (i : Nat) (s : Member), (chord_self_l0 no ns i s).bind (fun o3 => match o3 with | .ret q => some q | .fall _ => some ((Member.zero : Member), false)) =
    some (match fnd no (ns.map (·.self)) with | some m => (m, true) | none => (Member.zero, false))
  | [], _, _ => rfl
  | n :: ns, i, s => by
    rw [chord_self_l0.eq_2, List.map_cons]
    have ih := chord_self_l no ns (i + 1) s
    unfold fnd
    by_cases h : n.self.no = no
    · simp [h]
    · simp only [decide_eq_false h, cond_false]; exact ih
theorem chord_self_eq (o : Overlay) (no : Int) : chord_self o no = some (match fnd no (o.nodes.map (·.self)) with | some m => (m, true) | none => (Member.zero, false)) := chord_self_l no o.nodes 0 _
theorem r07_find_l (no : Int) : ∀ (ms : List Member) (i : Nat) (s : Member), (r07_Find_l0 no ms i s).bind (fun o3 => match o3 with | .ret q => some q | .fall _ => some ({ Member.zero with no := (-1) } : Member)) = some ((fnd no ms).getD noneM)
  | [], _, _ => rfl
  | m :: ms, i, s => by
    rw [r07_Find_l0.eq_2]
    have ih := r07_find_l no ms (i + 1) s
    unfold fnd
    by_cases h : m.no = no
    · simp [h]
    · simp only [decide_eq_false h, cond_false]; exact ih
theorem r07_Find_eq (ms : List Member) (no : Int) : r07_Find ms no = some ((fnd no ms).getD noneM) := r07_find_l no ms 0 _
theorem fnd_mem {no : Int} : ∀ {ms : List Member} {m : Member}, fnd no ms = some m → m ∈ ms
  | [], _, h => by cases h
  | x :: ms, m, h => by
    unfold fnd at h
    by_cases e : x.no = no
    · rw [decide_eq_true e, cond_true] at h; cases h; simp
    · rw [decide_eq_false e, cond_false] at h; exact List.mem_cons_of_mem _ (fnd_mem h)
def okC (ms : List Member) (x : Member) : Bool := match fnd x.no ms with | some m => decide (m = x) | none => true
def okR (ms : List Member) (x : Member) : Bool := match fnd x.no ms with | some m => !(decide (0 ≤ m.no) && !decide (m = x)) | none => true
theorem chord_l1 (o : Overlay) : ∀ (xs : List Member) (s : Bool), chord_Right_l1 o true xs s = some (bif xs.all (okC (o.nodes.map (·.self))) then .fall s else .ret false)
  | [], _ => rfl
  | x :: xs, s => by
    rw [chord_Right_l1.eq_2, chord_self_eq, Option.bind_some, List.all_cons, chord_l1 o xs s]
    unfold okC
    cases fnd x.no (o.nodes.map (·.self)) with
    | none => simp
    | some m => by_cases h : m = x <;> simp [h]
theorem r10_l1 (ms : List Member) : ∀ (xs : List Member) (i : Nat), r10_Right_l1 ms xs i () = some (bif xs.all (okR ms) then .fall () else .ret false)
  | [], _ => rfl
  | x :: xs, i => by
    rw [r10_Right_l1.eq_2, r07_Find_eq, Option.bind_some, List.all_cons, r10_l1 ms xs (i + 1)]
    unfold okR
    cases fnd x.no ms with
    | none => simp [noneM]
    | some m => by_cases h : 0 ≤ m.no <;> by_cases h2 : m = x <;> simp [h, h2]
/-! ### The order, and all of it -/
def ordB (pre : List Node) (n : Node) : Bool := match pre.getLast? with | none => true | some p => !decide (n.self.no ≤ p.self.no)
def allB (ok : Member → Bool) : List Node → List Node → Bool
  | _, [] => true
  | pre, n :: r => nodeB n && ordB pre n && (knownM n).all ok && allB ok (pre ++ [n]) r
theorem ord_eq {o : Overlay} {pre r : List Node} (n : Node) (h : o.nodes = pre ++ r) (hb : o.nodes.length ≤ 18) :
    (bif decide (0 < (pre.length : Int)) then (ix o.nodes (w64 ((pre.length : Int) - 1))).bind fun t18 => some (decide (n.self.no ≤ t18.self.no)) else some false) = some (!ordB pre n) := by
  unfold ordB
  match hp : pre.getLast? with
  | none =>
    have : pre = [] := List.getLast?_eq_none_iff.1 hp
    subst this; rfl
  | some p =>
    have hne : pre ≠ [] := by rintro rfl; simp at hp
    have hl : 0 < pre.length := List.length_pos_iff.2 hne
    have hle : pre.length ≤ 18 := by rw [h, List.length_append] at hb; omega
    rw [decide_eq_true (by omega), cond_true, w64_eq (by omega)]
    have e : (pre.length : Int) - 1 = ((pre.length - 1 : Nat) : Int) := by omega
    have hg : o.nodes[pre.length - 1]? = some p := by
      rw [h, List.getElem?_append_left (by omega), ← List.getLast?_eq_getElem?]; exact hp
    have hix : ix o.nodes ((pre.length - 1 : Nat) : Int) = some p := by unfold ix; rw [if_pos (by omega)]; exact hg
    rw [e, hix]
    simp
theorem chord_l0 {o : Overlay} (hb : o.nodes.length ≤ 18) (hs : ∀ n ∈ o.nodes, Small n) : ∀ (r pre : List Node) (s : Bool), o.nodes = pre ++ r →
    chord_Right_l0 o r pre.length s = some (bif allB (okC (o.nodes.map (·.self))) pre r then .fall s else .ret false)
  | [], _, _, _ => rfl
  | n :: r, pre, s, h => by
    rw [chord_Right_l0.eq_2, node_Right_eq, Option.bind_some, ord_eq n h hb]
    have ih := chord_l0 hb hs r (pre ++ [n]) s (by rw [h]; simp)
    rw [List.length_append, List.length_singleton] at ih
    unfold allB
    cases nodeB n with
    | false => simp
    | true =>
      cases ordB pre n with
      | false => simp
      | true =>
        simp only [Bool.not_true, cond_false, Option.bind_some, chord_known_eq (hs n (by rw [h]; simp)), chord_l1, Bool.true_and]
        cases (knownM n).all (okC (o.nodes.map (·.self))) with
        | false => simp
        | true => simpa using ih
theorem r10_l0 {o : Overlay} (hb : o.nodes.length ≤ 18) (hs : ∀ n ∈ o.nodes, Small n) : ∀ (r pre : List Node), o.nodes = pre ++ r →
    r10_Right_l0 o (o.nodes.map (·.self)) r pre.length () = some (bif allB (okR (o.nodes.map (·.self))) pre r then .fall () else .ret false)
  | [], _, _ => rfl
  | n :: r, pre, h => by
    rw [r10_Right_l0.eq_2, r09_Right_eq, Option.bind_some, ord_eq n h hb]
    have ih := r10_l0 hb hs r (pre ++ [n]) (by rw [h]; simp)
    rw [List.length_append, List.length_singleton] at ih
    unfold allB
    cases nodeB n with
    | false => simp
    | true =>
      cases ordB pre n with
      | false => simp
      | true =>
        simp only [Bool.not_true, cond_false, Option.bind_some, r10_Known_eq (hs n (by rw [h]; simp)), r10_l1, Bool.true_and]
        cases (knownM n).all (okR (o.nodes.map (·.self))) with
        | false => simp
        | true => simpa using ih
/-! ### Right rings -/
def rngB : List Member → List Member → Bool
  | _, [] => true
  | pre, x :: xs => mayB x && !(pre.any fun y => decide (y.no = x.no) || decide (y.id = x.id)) && rngB (pre ++ [x]) xs
def ringB (ms : List Member) : Bool := rngB [] ms && decide (ms.length ≤ 16)
theorem ring_l0 (a0 : List Member) : ∀ (xs pre : List Member), a0 = pre ++ xs → ring_Right_l0 a0 xs pre.length () = some (bif rngB pre xs then .fall () else .ret false)
  | [], _, _ => rfl
  | x :: xs, pre, h => by
    rw [ring_Right_l0.eq_2]
    have ht := take_eq h
    have hs : slh a0 (pre.length : Int) = some pre := by rw [slh_nat (by rw [h]; simp), ht]
    have ih := ring_l0 a0 xs (pre ++ [x]) (by rw [h]; simp)
    rw [List.length_append, List.length_singleton] at ih
    have hf : (⟨fun y => ring_Right_1 y x⟩ : Fn1 Member Bool) = ⟨fun y => some (decide (y.no = x.no) || decide (y.id = x.id))⟩ := rfl
    rw [hs, Option.bind_some, hf, containsM, Option.bind_some, ih]
    rw [rngB.eq_2]; unfold mayB
    generalize pre.any _ = b
    by_cases h1 : x.no < 0
    · have h2 : ¬ 0 ≤ x.no := by omega
      cases b <;> simp [h1, h2]
    · have h2 : 0 ≤ x.no := by omega
      by_cases h3 : 16 ≤ x.no
      · have h4 : ¬ x.no < 16 := by omega
        cases b <;> simp [h1, h2, h3, h4]
      · have h4 : x.no < 16 := by omega
        cases b <;> simp [h1, h2, h3, h4]
theorem ring_Right_eq (ms : List Member) : ring_Right ms = some (ringB ms) := by
  unfold ring_Right ringB
  have h := ring_l0 ms ms [] rfl
  have h' : ring_Right_l0 ms ms 0 () = _ := h
  rw [h']
  have e : decide ((ms.length : Int) ≤ 16) = decide (ms.length ≤ 16) := decide_eq_decide.2 (by omega)
  rw [e]
  cases rngB [] ms <;> simp
theorem r07_l1 (x : Member) : ∀ (xs : List Member) (i : Nat), r07_Right_l1 x xs i () = some (bif xs.any (fun y => decide (y.no = x.no) || decide (y.id = x.id)) then .ret false else .fall ())
  | [], _ => rfl
  | y :: ys, i => by
    rw [r07_Right_l1.eq_2, List.any_cons, r07_l1 x ys (i + 1)]
    cases (decide (y.no = x.no) || decide (y.id = x.id)) <;> simp
theorem r07_l0 (a0 : List Member) : ∀ (xs pre : List Member), a0 = pre ++ xs → r07_Right_l0 a0 xs pre.length () = some (bif rngB pre xs then .fall () else .ret false)
  | [], _, _ => rfl
  | x :: xs, pre, h => by
    rw [r07_Right_l0.eq_2]
    have ht := take_eq h
    have hs : slh a0 (pre.length : Int) = some pre := by rw [slh_nat (by rw [h]; simp), ht]
    have ih := r07_l0 a0 xs (pre ++ [x]) (by rw [h]; simp)
    rw [List.length_append, List.length_singleton] at ih
    rw [hs]
    simp only [Option.bind_some, r07_l1, ih]
    rw [rngB.eq_2]; unfold mayB
    generalize pre.any _ = b
    by_cases h1 : x.no < 0
    · have h2 : ¬ 0 ≤ x.no := by omega
      cases b <;> simp [h1, h2]
    · have h2 : 0 ≤ x.no := by omega
      by_cases h3 : 15 < x.no
      · have h4 : ¬ x.no < 16 := by omega
        cases b <;> simp [h1, h2, h3, h4]
      · have h4 : x.no < 16 := by omega
        cases b <;> simp [h1, h2, h3, h4]
theorem r07_Right_eq (ms : List Member) : r07_Right ms = some (ringB ms) := by
  unfold r07_Right ringB
  have h := r07_l0 ms ms [] rfl
  have h' : r07_Right_l0 ms ms 0 () = _ := h
  rw [h']
  have e : decide ((ms.length : Int) ≤ 16) = decide (ms.length ≤ 16) := decide_eq_decide.2 (by omega)
  rw [e]
  cases rngB [] ms <;> simp
def rightB (o : Overlay) : Bool := allB (okC (o.nodes.map (·.self))) [] o.nodes && ringB (o.nodes.map (·.self))
theorem chord_Right_eq {o : Overlay} (hb : o.nodes.length ≤ 18) (hs : ∀ n ∈ o.nodes, Small n) : chord_Right o = some (rightB o) := by
  unfold chord_Right rightB
  have h := chord_l0 hb hs o.nodes [] false rfl
  have h' : chord_Right_l0 o o.nodes 0 false = _ := h
  rw [chord_Members_eq hb, Option.bind_some, h', ring_Right_eq]
  cases allB (okC (o.nodes.map (·.self))) [] o.nodes <;> simp
theorem allB_node {ok : Member → Bool} : ∀ {r pre : List Node}, allB ok pre r = true → ∀ n ∈ r, nodeB n = true
  | [], _, _, n, h => by cases h
  | x :: r, pre, h, n, hn => by
    simp only [allB, Bool.and_eq_true] at h
    rcases List.mem_cons.1 hn with e | e
    · subst e; exact h.1.1.1
    · exact allB_node h.2 n e
theorem allB_congr {ok ok' : Member → Bool} (h : ∀ x, ok x = ok' x) : ∀ (r pre : List Node), allB ok pre r = allB ok' pre r
  | [], _ => rfl
  | x :: r, pre => by
    have : ok = ok' := funext h
    rw [this]
theorem nodeB_no {n : Node} (h : nodeB n = true) : 0 ≤ n.self.no := by
  simp only [nodeB, mayB, Bool.and_eq_true, decide_eq_true_eq] at h
  exact h.1.1.1.1.1.1.1
theorem ok_same {ms : List Member} (h : ∀ m ∈ ms, 0 ≤ m.no) (x : Member) : okC ms x = okR ms x := by
  unfold okC okR
  cases hf : fnd x.no ms with
  | none => rfl
  | some m =>
    have := h m (fnd_mem hf)
    simp [this]
theorem all_same (ns : List Node) : allB (okC (ns.map (·.self))) [] ns = allB (okR (ns.map (·.self))) [] ns := by
  by_cases h : ∀ n ∈ ns, 0 ≤ n.self.no
  · exact allB_congr (ok_same (by intro m hm; obtain ⟨n, hn, rfl⟩ := List.mem_map.1 hm; exact h n hn)) _ _
  · have f : ∀ ok, allB ok [] ns = false := fun ok => by
      cases hq : allB ok [] ns with
      | false => rfl
      | true => exact absurd (fun n hn => nodeB_no (allB_node hq n hn)) h
    rw [f, f]
theorem r10_Right_eq {o : Overlay} (hb : o.nodes.length ≤ 18) (hs : ∀ n ∈ o.nodes, Small n) : r10_Right o = some (rightB o) := by
  unfold r10_Right rightB
  have h := r10_l0 hb hs o.nodes [] rfl
  have h' : r10_Right_l0 o (o.nodes.map (·.self)) o.nodes 0 () = _ := h
  rw [r10_Members_eq hb, Option.bind_some, h', r07_Right_eq, all_same]
  cases allB (okR (o.nodes.map (·.self))) [] o.nodes <;> simp
end Go.Ph
namespace Go.Ph
open Go.Proofs
/-! ### Distances -/
def dst (a b : Nat) : Nat := if a ≤ b then b - a else b + M - a
theorem dst_mod {a b : Nat} (ha : a < M) (hb : b < M) : (b + M - a) % M = dst a b := by
  unfold dst
  by_cases h : a ≤ b
  · rw [if_pos h, show b + M - a = (b - a) + M by omega, Nat.add_mod_right, Nat.mod_eq_of_lt (by omega)]
  · rw [if_neg h, Nat.mod_eq_of_lt (by omega)]
def dM (a : Id) (m : Member) : Nat := dst (val a) (val m.id)
theorem from_1 (x y : Member) (a : Id) : ring_from_1 x y a = some (cmpN (dM a x) (dM a y)) := by
  obtain ⟨r, h1, e1⟩ := ident_Far_eq a x.id
  obtain ⟨s, h2, e2⟩ := ident_Far_eq a y.id
  unfold ring_from_1
  rw [h1, Option.bind_some, h2, Option.bind_some, ident_Compare_eq, Option.bind_some, e1, e2, dst_mod (val_lt _) (val_lt _), dst_mod (val_lt _) (val_lt _)]
  rfl
theorem ring_from_eq (a : Id) : ring_from a = some ⟨fun x y => some (cmpN (dM a x) (dM a y))⟩ := by
  unfold ring_from
  congr 2
  funext x y
  exact from_1 x y a
theorem cmpN_neg {a b : Nat} : decide (cmpN a b < 0) = decide (a < b) := by
  unfold cmpN
  by_cases h : a < b
  · rw [if_pos h, decide_eq_true h]; rfl
  · rw [if_neg h, decide_eq_false h]
    split <;> rfl
/-- The first of the nearest. -/
def best (d : Member → Nat) : Member → List Member → Member
  | m, [] => m
  | m, x :: xs => best d (bif decide (d x < d m) then x else m) xs
theorem best_mem {d : Member → Nat} : ∀ {xs : List Member} {m : Member}, best d m xs ∈ m :: xs
  | [], m => by simp [best]
  | x :: xs, m => by
    unfold best
    cases decide (d x < d m) with
    | true => rw [cond_true]; exact List.mem_cons_of_mem _ best_mem
    | false =>
      rw [cond_false]
      rcases List.mem_cons.1 (best_mem (d := d) (xs := xs) (m := m)) with h | h
      · rw [h]; simp
      · exact List.mem_cons_of_mem _ (List.mem_cons_of_mem _ h)
theorem best_le {d : Member → Nat} : ∀ {xs : List Member} {m : Member}, ∀ y ∈ m :: xs, d (best d m xs) ≤ d y
  | [], m, y, h => by simp only [List.mem_singleton] at h; subst h; exact Nat.le_refl _
  | x :: xs, m, y, h => by
    unfold best
    by_cases hd : d x < d m
    · rw [decide_eq_true hd, cond_true]
      rcases List.mem_cons.1 h with e | e
      · subst e; exact Nat.le_trans (best_le x (by simp)) (by omega)
      · exact best_le y e
    · rw [decide_eq_false hd, cond_false]
      rcases List.mem_cons.1 h with e | e
      · subst e; exact best_le y (by simp)
      · rcases List.mem_cons.1 e with e | e
        · subst e; exact Nat.le_trans (best_le m (by simp)) (by omega)
        · exact best_le y (by simp [e])
theorem min_l {d : Member → Nat} {xs : List Member} (hl : xs.length ≤ 1048576) : ∀ (k i : Nat) (m : Member) (fuel : Nat), i + k = xs.length → k < fuel →
    sl_MinFunc_Member_l0 xs ⟨fun x y => some (cmpN (d x) (d y))⟩ fuel (m, (i : Int)) = some (best d m (xs.drop i), (xs.length : Int))
  | 0, i, m, fuel, h, hf => by
    obtain ⟨f, rfl⟩ : ∃ f, fuel = f + 1 := ⟨fuel - 1, by omega⟩
    rw [sl_MinFunc_Member_l0.eq_2]
    dsimp only
    rw [decide_eq_false (by omega), cond_false, List.drop_of_length_le (by omega)]
    have : (i : Int) = (xs.length : Int) := by omega
    rw [this]; rfl
  | k + 1, i, m, fuel, h, hf => by
    obtain ⟨f, rfl⟩ : ∃ f, fuel = f + 1 := ⟨fuel - 1, by omega⟩
    have hi : i < xs.length := by omega
    rw [sl_MinFunc_Member_l0.eq_2]
    dsimp only
    rw [decide_eq_true (by omega), cond_true, ix_nat hi]
    simp only [Option.bind_some, cmpN_neg]
    have hd : xs.drop i = xs[i] :: xs.drop (i + 1) := List.drop_eq_getElem_cons hi
    have ew : w64 ((i : Int) + 1) = ((i + 1 : Nat) : Int) := by rw [w64_eq (by omega)]; rfl
    rw [hd, ew]
    unfold best
    cases decide (d xs[i] < d m) with
    | true => simp only [cond_true, Option.bind_some]; exact min_l hl k (i + 1) _ f (by omega) (by omega)
    | false => simp only [cond_false, Option.bind_some]; exact min_l hl k (i + 1) _ f (by omega) (by omega)
theorem minFunc_eq {d : Member → Nat} {x : Member} {xs : List Member} (hl : (x :: xs).length ≤ 1048576) : sl_MinFunc_Member (x :: xs) ⟨fun x y => some (cmpN (d x) (d y))⟩ = some (best d x xs) := by
  unfold sl_MinFunc_Member
  rw [decide_eq_false (by simp only [List.length_cons]; omega), cond_false, Option.bind_some]
  have h0 : ix (x :: xs) 0 = some x := rfl
  have h := min_l (d := d) hl xs.length 1 x FUEL (by simp; omega) (by have := fuel_big; simp at hl; omega)
  have h' : sl_MinFunc_Member_l0 (x :: xs) ⟨fun x y => some (cmpN (d x) (d y))⟩ FUEL (x, 1) = _ := h
  rw [h0, Option.bind_some, h']
  rfl
theorem rng_no {xs : List Member} : ∀ {r pre : List Member}, rngB pre r = true → ∀ m ∈ r, 0 ≤ m.no ∧ m.no < 16
  | [], _, _, _, h => by cases h
  | x :: r, pre, h, m, hm => by
    rw [rngB.eq_2] at h
    simp only [mayB, Bool.and_eq_true, decide_eq_true_eq] at h
    rcases List.mem_cons.1 hm with e | e
    · subst e; exact h.1.1
    · exact rng_no (xs := xs) h.2 m e
theorem owner_l (a : Id) : ∀ (xs : List Member) (i : Nat) (s : Member), 0 ≤ s.no → (∀ m ∈ xs, 0 ≤ m.no) → r07_Owner_l0 a xs i s = some (best (dM a) s xs)
  | [], _, _, _, _ => rfl
  | x :: xs, i, s, hs, hx => by
    obtain ⟨r, h1, e1⟩ := r01_Far_eq a x.id
    obtain ⟨q, h2, e2⟩ := r01_Far_eq a s.id
    rw [r07_Owner_l0.eq_2, decide_eq_false (by omega), cond_false, h1, h2]
    simp only [Option.bind_some, r01_Compare_eq, cmpN_neg]
    rw [e1, e2, dst_mod (val_lt _) (val_lt _), dst_mod (val_lt _) (val_lt _)]
    have ed : decide (dst (val a) (val x.id) < dst (val a) (val s.id)) = decide (dM a x < dM a s) := rfl
    rw [ed]
    unfold best
    cases decide (dM a x < dM a s) with
    | true => simp only [cond_true, Option.bind_some]; exact owner_l a xs (i + 1) x (hx x (by simp)) fun m hm => hx m (by simp [hm])
    | false => simp only [cond_false, Option.bind_some]; exact owner_l a xs (i + 1) s hs fun m hm => hx m (by simp [hm])
theorem r07_Owner_eq (a : Id) {x : Member} {xs : List Member} (h : ∀ m ∈ x :: xs, 0 ≤ m.no) : r07_Owner (x :: xs) a = some (best (dM a) x xs) := by
  unfold r07_Owner
  rw [r07_Owner_l0.eq_2, decide_eq_true (by decide), cond_true]
  simp only [Option.bind_some, cond_true]
  rw [owner_l a xs 1 x (h x (by simp)) fun m hm => h m (by simp [hm])]
  rfl
theorem ring_Owner_eq (a : Id) {x : Member} {xs : List Member} (h : ringB (x :: xs) = true) : ring_Owner (x :: xs) a = some (best (dM a) x xs, 0) := by
  have hl : (x :: xs).length ≤ 16 := by
    unfold ringB at h
    simp only [Bool.and_eq_true, decide_eq_true_eq] at h
    exact h.2
  unfold ring_Owner
  rw [ring_Right_eq, h, Option.bind_some]
  simp only [Bool.not_true, cond_false]
  rw [decide_eq_false (by simp only [List.length_cons]; omega), cond_false, ring_from_eq, Option.bind_some, minFunc_eq (by omega), Option.bind_some]
/-! ### Few -/
theorem slh_min {α : Type} (xs : List α) (k : Nat) : slh xs (imin (xs.length : Int) (k : Int)) = some (xs.take k) := by
  unfold imin
  by_cases h : (xs.length : Int) ≤ (k : Int)
  · rw [if_pos h, slh_nat (Nat.le_refl _), List.take_of_length_le (Nat.le_refl _), List.take_of_length_le (by omega)]
  · rw [if_neg h, slh_nat (by omega)]
theorem few_l : ∀ (ns : List Node) (i : Nat) (s : Overlay), s.nodes.length + ns.length ≤ 18 → (∀ n ∈ s.nodes, Small n) → ∃ o, law11_few_l0 ns i s = some o ∧ o.nodes.length ≤ 18 ∧ ∀ n ∈ o.nodes, Small n
  | [], _, s, h, hs => ⟨s, rfl, by simpa using h, hs⟩
  | n :: ns, i, s, h, hs => by
    rw [List.length_cons] at h
    have e1 : slh n.succs (imin (n.succs.length : Int) 6) = some (n.succs.take 6) := slh_min _ 6
    have e2 : slh n.fingers (imin (n.fingers.length : Int) 18) = some (n.fingers.take 18) := slh_min _ 18
    rw [law11_few_l0.eq_2, e1, Option.bind_some, e2, Option.bind_some, app_le (by simp; omega), Option.bind_some]
    refine few_l ns (i + 1) _ (by simp; omega) fun m hm => ?_
    rcases List.mem_append.1 hm with hm | hm
    · exact hs m hm
    · simp only [List.mem_singleton] at hm
      subst hm
      exact ⟨by simp [List.length_take]; omega, by simp [List.length_take]; omega⟩
theorem few_eq (o : Overlay) : ∃ o', law11_few o = some o' ∧ o'.nodes.length ≤ 18 ∧ ∀ n ∈ o'.nodes, Small n := by
  have e1 : slh o.nodes (imin (o.nodes.length : Int) 18) = some (o.nodes.take 18) := slh_min _ 18
  obtain ⟨o', h1, h2, h3⟩ := few_l (o.nodes.take 18) 0 Overlay.zero (by simp [List.length_take]; omega) (by simp)
  exact ⟨o', by unfold law11_few; rw [e1, Option.bind_some, h1]; rfl, h2, h3⟩
end Go.Ph
namespace Go.Ph
open Go.Proofs
open Go.Sort (swp size_swp PermIn SortedIn permIn_refl permIn_trans)
/-! The library's sort: what is printed is the kit's plain sort, part by part. -/
def ltD (d : Member → Nat) (x y : Member) : Bool := decide (d x < d y)
def cF (d : Member → Nat) : Fn2 Member Member Int := ⟨fun x y => some (cmpN (d x) (d y))⟩
theorem swo (d : Member → Nat) : Go.Sort.SWO (ltD d) where
  irrefl x := decide_eq_false (by omega)
  trans x y z h1 h2 := by unfold ltD at *; simp only [decide_eq_true_eq] at *; omega
  ntrans x y z h1 h2 := by unfold ltD at *; simp only [decide_eq_false_iff_not] at *; omega
variable {d : Member → Nat}
theorem ixA {D : Array Member} {i : Nat} (h : i < D.size) : ix D.toList (i : Int) = some D[i]! := by
  rw [ix_nat (by simpa using h)]
  simp [h]
theorem swpA (D : Array Member) (i j : Nat) : (D.toList.set i D[j]!).set j D[i]! = (swp D i j).toList := by simp [swp]
theorem swap_run {β : Type} {D : Array Member} {i j : Nat} (hi : i < D.size) (hj : j < D.size) (K : List Member → Option β) :
    ((ix D.toList (j : Int)).bind fun t1 => (ix D.toList (i : Int)).bind fun t2 => (ix D.toList (i : Int)).bind fun _ => (ix (D.toList.set i t1) (j : Int)).bind fun _ => K ((D.toList.set i t1).set j t2)) = K (swp D i j).toList := by
  rw [ixA hj, Option.bind_some, ixA hi, Option.bind_some, Option.bind_some]
  have : ∃ z, ix (D.toList.set i D[j]!) (j : Int) = some z := ⟨_, ix_nat (by simpa using hj)⟩
  obtain ⟨z, hz⟩ := this
  rw [hz, Option.bind_some, swpA]
theorem cF_lt (x y : Member) : ((cF d).f x y).bind (fun t => some (decide (t < 0))) = some (ltD d x y) := by
  unfold cF ltD; rw [Option.bind_some, cmpN_neg]
theorem w64m {n : Nat} (h0 : 0 < n) (h : n < 4294967296) : w64 ((n : Int) - 1) = ((n - 1 : Nat) : Int) := by rw [w64_eq (by omega)]; omega
theorem w64p {n : Nat} (h : n < 4294967296) : w64 ((n : Int) + 1) = ((n + 1 : Nat) : Int) := by rw [w64_eq (by omega)]; rfl
/-! ### insertionSort -/
theorem size_insInner (lt : Member → Member → Bool) (a : Nat) : ∀ (j : Nat) (D : Array Member), (Go.Sort.insInner lt a j D).size = D.size
  | 0, D => rfl
  | j + 1, D => by
    unfold Go.Sort.insInner
    split
    · rw [size_insInner lt a j, size_swp]
    · rfl
theorem ins_inner (a : Nat) : ∀ (j : Nat) (D : Array Member) (fuel : Nat), j < D.size → D.size ≤ 1000 → j < fuel →
    ∃ j', sl_insertionSortCmpFunc_Member_l1 (a : Int) (cF d) fuel (D.toList, (j : Int)) = some ((Go.Sort.insInner (ltD d) a j D).toList, j')
  | 0, D, fuel, h, _, hf => by
    obtain ⟨f, rfl⟩ : ∃ f, fuel = f + 1 := ⟨fuel - 1, by omega⟩
    rw [sl_insertionSortCmpFunc_Member_l1.eq_2]
    dsimp only
    rw [decide_eq_false (by omega)]
    exact ⟨_, rfl⟩
  | j + 1, D, fuel, h, hs, hf => by
    obtain ⟨f, rfl⟩ : ∃ f, fuel = f + 1 := ⟨fuel - 1, by omega⟩
    rw [sl_insertionSortCmpFunc_Member_l1.eq_2]
    dsimp only
    have ew : w64 (((j + 1 : Nat) : Int) - 1) = (j : Int) := by rw [w64_eq (by omega)]; omega
    rw [ew, Int.toNat_natCast, Int.toNat_natCast, swap_run h (by omega) fun l => sl_insertionSortCmpFunc_Member_l1 (a : Int) (cF d) f (l, (j : Int)), ixA h, ixA (D := D) (i := j) (by omega)]
    simp only [Option.bind_some, cF_lt]
    unfold Go.Sort.insInner
    by_cases ha : a < j + 1
    · rw [decide_eq_true (by omega), cond_true, Option.bind_some]
      have e : decide (j + 1 > a) = true := decide_eq_true ha
      rw [e, Bool.true_and]
      cases hl : ltD d D[j + 1]! D[j]! with
      | true =>
        simp only [cond_true, if_true]
        exact ins_inner a j _ f (by rw [size_swp]; omega) (by rw [size_swp]; exact hs) (by omega)
      | false => exact ⟨_, rfl⟩
    · rw [decide_eq_false (by omega)]
      have e : decide (j + 1 > a) = false := decide_eq_false ha
      rw [e]
      exact ⟨_, rfl⟩
theorem ins_outer (a b : Nat) : ∀ (k i : Nat) (D : Array Member) (fuel : Nat), i + k = max i b → b ≤ D.size → D.size ≤ 1000 → k < fuel →
    ∃ i', sl_insertionSortCmpFunc_Member_l0 (b : Int) (a : Int) (cF d) fuel (D.toList, (i : Int)) = some ((Go.Sort.insOuter (ltD d) a b i D).toList, i')
  | 0, i, D, fuel, h, hb, hs, hf => by
    obtain ⟨f, rfl⟩ : ∃ f, fuel = f + 1 := ⟨fuel - 1, by omega⟩
    rw [sl_insertionSortCmpFunc_Member_l0.eq_2, Go.Sort.insOuter, if_neg (by omega)]
    dsimp only
    rw [decide_eq_false (by omega)]
    exact ⟨_, rfl⟩
  | k + 1, i, D, fuel, h, hb, hs, hf => by
    obtain ⟨f, rfl⟩ : ∃ f, fuel = f + 1 := ⟨fuel - 1, by omega⟩
    have hib : i < b := by omega
    rw [sl_insertionSortCmpFunc_Member_l0.eq_2, Go.Sort.insOuter, if_pos hib]
    dsimp only
    obtain ⟨j', hj⟩ := ins_inner (d := d) a i D FUEL (by omega) hs (by have := fuel_big; omega)
    rw [decide_eq_true (by omega), cond_true, hj, Option.bind_some]
    dsimp only
    rw [w64p (by omega)]
    exact ins_outer a b k (i + 1) _ f (by omega) (by rw [size_insInner]; exact hb) (by rw [size_insInner]; exact hs) (by omega)
theorem insertion_eq {D : Array Member} {a b : Nat} (hab : a ≤ b) (hb : b ≤ D.size) (hs : D.size ≤ 1000) : sl_insertionSortCmpFunc_Member D.toList (a : Int) (b : Int) (cF d) = some (Go.Sort.insertionSort (ltD d) D a b).toList := by
  unfold sl_insertionSortCmpFunc_Member Go.Sort.insertionSort
  rw [w64p (by omega)]
  obtain ⟨i', h⟩ := ins_outer (d := d) a b (max (a + 1) b - (a + 1)) (a + 1) D FUEL (by omega) hb hs (by have := fuel_big; omega)
  rw [h]; rfl
end Go.Ph
namespace Go.Ph
open Go.Proofs
open Go.Sort (swp size_swp PermIn SortedIn permIn_refl permIn_trans)
variable {d : Member → Nat}
/-! ### The scans -/
theorem scanUp_gen {G : Nat → Int → Option Int} {p : Member → Bool} {D : Array Member} {j : Nat} (hG : ∀ f (i : Nat), i ≤ j + 1 → G (f + 1) (i : Int) = bif decide (i ≤ j) && p D[i]! then G f ((i + 1 : Nat) : Int) else some (i : Int)) :
    ∀ (k i fuel : Nat), i + k = j + 1 → k < fuel → G fuel (i : Int) = some ((Go.Sort.scanUp p D j i : Nat) : Int)
  | 0, i, fuel, h, hf => by
    obtain ⟨f, rfl⟩ : ∃ f, fuel = f + 1 := ⟨fuel - 1, by omega⟩
    rw [hG f i (by omega), Go.Sort.scanUp]
    have : decide (i ≤ j) = false := decide_eq_false (by omega)
    rw [this]; rfl
  | k + 1, i, fuel, h, hf => by
    obtain ⟨f, rfl⟩ : ∃ f, fuel = f + 1 := ⟨fuel - 1, by omega⟩
    rw [hG f i (by omega), Go.Sort.scanUp]
    cases hc : decide (i ≤ j) && p D[i]! with
    | true => simp only [cond_true, if_true]; exact scanUp_gen hG k (i + 1) f (by omega) (by omega)
    | false => rfl
theorem scanDown_gen {G : Nat → Int → Option Int} {p : Member → Bool} {D : Array Member} {i : Nat} (hi : 0 < i) (hG : ∀ f (j : Nat), j < D.size → G (f + 1) (j : Int) = bif decide (i ≤ j) && p D[j]! then G f ((j - 1 : Nat) : Int) else some (j : Int)) :
    ∀ (j fuel : Nat), j < D.size → j < fuel → G fuel (j : Int) = some ((Go.Sort.scanDown p D i j : Nat) : Int)
  | 0, fuel, h, hf => by
    obtain ⟨f, rfl⟩ : ∃ f, fuel = f + 1 := ⟨fuel - 1, by omega⟩
    rw [hG f 0 h]
    have : decide (i ≤ 0) = false := decide_eq_false (by omega)
    rw [this]; rfl
  | j + 1, fuel, h, hf => by
    obtain ⟨f, rfl⟩ : ∃ f, fuel = f + 1 := ⟨fuel - 1, by omega⟩
    rw [hG f (j + 1) h]
    unfold Go.Sort.scanDown
    cases hc : decide (i ≤ j + 1) && p D[j + 1]! with
    | true => simp only [cond_true, if_true]; exact scanDown_gen hi hG j f (by omega) (by omega)
    | false => rfl
theorem pred_neg {x y : Member} {β : Type} (K : Bool → Option β) : ((cF d).f x y).bind (fun t => (some (!(decide (t < 0)))).bind K) = K (!ltD d x y) := by
  unfold cF ltD; rw [Option.bind_some, cmpN_neg]; rfl
/-- A scan's round, in the printed form. -/
theorem round_pos {c : Bool} {D : Array Member} {i j : Nat} {X Y : Option Int} (h : c = true → i < D.size ∧ j < D.size) :
    ((bif c then (ix D.toList (i : Int)).bind fun t => (ix D.toList (j : Int)).bind fun u => ((cF d).f t u).bind fun r => some (decide (r < 0)) else some false).bind fun t => bif t then X else Y) = bif c && ltD d D[i]! D[j]! then X else Y := by
  cases c with
  | false => rfl
  | true =>
    obtain ⟨h1, h2⟩ := h rfl
    rw [cond_true, ixA h1, ixA h2]
    simp only [Option.bind_some, cF_lt, Bool.true_and]
theorem round_neg {c : Bool} {D : Array Member} {i j : Nat} {X Y : Option Int} (h : c = true → i < D.size ∧ j < D.size) :
    ((bif c then (ix D.toList (i : Int)).bind fun t => (ix D.toList (j : Int)).bind fun u => ((cF d).f t u).bind fun r => some (!(decide (r < 0))) else some false).bind fun t => bif t then X else Y) = bif c && !ltD d D[i]! D[j]! then X else Y := by
  cases c with
  | false => rfl
  | true =>
    obtain ⟨h1, h2⟩ := h rfl
    rw [cond_true, ixA h1, ixA h2]
    have e : ((cF d).f D[i]! D[j]!).bind (fun r => some (!(decide (r < 0)))) = some (!ltD d D[i]! D[j]!) := by unfold cF ltD; rw [Option.bind_some, cmpN_neg]
    simp only [Option.bind_some, e, Bool.true_and]
theorem dle {i j : Nat} : decide ((i : Int) ≤ (j : Int)) = decide (i ≤ j) := decide_eq_decide.2 (by omega)
theorem p_l3 {D : Array Member} {a j : Nat} {q : Int} (ha : a < D.size) (hj : j < D.size) (hs : D.size ≤ 1000) {i : Nat} (hi : i ≤ j + 1) : sl_partitionCmpFunc_Member_l3 (D.toList, q, (j : Int)) (a : Int) (cF d) FUEL (i : Int) = some ((Go.Sort.scanUp (fun x => ltD d x D[a]!) D j i : Nat) : Int) := by
  refine scanUp_gen (fun f i hi => ?_) (j + 1 - i) i FUEL (by omega) (by have := fuel_big; omega)
  rw [sl_partitionCmpFunc_Member_l3.eq_2]
  dsimp only
  rw [dle, w64p (by omega)]
  exact round_pos fun h => ⟨by have := of_decide_eq_true h; omega, ha⟩
theorem p_l4 {D : Array Member} {a i : Nat} {q : Int × Int} (ha : a < D.size) (h0 : 0 < i) (hs : D.size ≤ 1000) {j : Nat} (hj : j < D.size) : sl_partitionCmpFunc_Member_l4 (i : Int) (D.toList, q) (a : Int) (cF d) FUEL (j : Int) = some ((Go.Sort.scanDown (fun x => !ltD d x D[a]!) D i j : Nat) : Int) := by
  refine scanDown_gen (p := fun x => !ltD d x D[a]!) h0 (fun f j hj => ?_) j FUEL hj (by have := fuel_big; omega)
  rw [sl_partitionCmpFunc_Member_l4.eq_2]
  dsimp only
  rw [dle]
  by_cases hij : i ≤ j
  · rw [w64m (by omega) (by omega)]
    exact round_neg fun h => ⟨hj, ha⟩
  · rw [decide_eq_false hij]; rfl
theorem p_l0 {D : Array Member} {a b pv : Nat} (ha : a < D.size) (hpv : pv < D.size) (hb : b ≤ D.size) (h0 : 0 < b) (hs : D.size ≤ 1000) {i : Nat} (hi : i ≤ b) :
    sl_partitionCmpFunc_Member_l0 (b : Int) D.toList (a : Int) D[pv]! (pv : Int) D[a]! (cF d) FUEL (i : Int) = some ((Go.Sort.scanUp (fun x => ltD d x (swp D a pv)[a]!) (swp D a pv) (b - 1) i : Nat) : Int) := by
  refine scanUp_gen (fun f i hi => ?_) (b - 1 + 1 - i) i FUEL (by omega) (by have := fuel_big; omega)
  rw [sl_partitionCmpFunc_Member_l0.eq_2]
  simp only [Int.toNat_natCast, swpA]
  rw [w64m h0 (by omega), dle, w64p (by omega)]
  exact round_pos fun h => ⟨by rw [size_swp]; have := of_decide_eq_true h; omega, by rw [size_swp]; exact ha⟩
theorem p_l1 {D : Array Member} {a pv i : Nat} (ha : a < D.size) (hpv : pv < D.size) (h0 : 0 < i) (hs : D.size ≤ 1000) {j : Nat} (hj : j < D.size) :
    sl_partitionCmpFunc_Member_l1 (i : Int) D.toList (a : Int) D[pv]! (pv : Int) D[a]! (cF d) FUEL (j : Int) = some ((Go.Sort.scanDown (fun x => !ltD d x (swp D a pv)[a]!) (swp D a pv) i j : Nat) : Int) := by
  refine scanDown_gen (p := fun x => !ltD d x (swp D a pv)[a]!) h0 (fun f j hj => ?_) j FUEL (by rw [size_swp]; exact hj) (by have := fuel_big; omega)
  rw [size_swp] at hj
  rw [sl_partitionCmpFunc_Member_l1.eq_2]
  simp only [Int.toNat_natCast, swpA]
  rw [dle]
  by_cases hij : i ≤ j
  · rw [w64m (by omega) (by omega)]
    exact round_neg fun h => ⟨by rw [size_swp]; exact hj, by rw [size_swp]; exact ha⟩
  · rw [decide_eq_false hij]; rfl
/-! ### partition -/
theorem scanUp_le (p : Member → Bool) (D : Array Member) (j i : Nat) (h : i ≤ j + 1) : Go.Sort.scanUp p D j i ≤ j + 1 := by
  have : ∀ k i, i + k = j + 1 → Go.Sort.scanUp p D j i ≤ j + 1 := fun k => by
    induction k with
    | zero => intro i h; rw [Go.Sort.scanUp]; split
              · rename_i hc; simp only [Bool.and_eq_true, decide_eq_true_eq] at hc; omega
              · omega
    | succ k ih => intro i h; rw [Go.Sort.scanUp]; split
                   · exact ih (i + 1) (by omega)
                   · omega
  exact this (j + 1 - i) i (by omega)
/-- Where the two scans do not pass each other, they do not meet. -/
theorem meet {p q : Member → Bool} (hq : ∀ x, q x = !p x) {D : Array Member} {i j : Nat} (h0 : 0 < i) (h : ¬ Go.Sort.scanUp p D j i > Go.Sort.scanDown q D (Go.Sort.scanUp p D j i) j) : Go.Sort.scanUp p D j i < Go.Sort.scanDown q D (Go.Sort.scanUp p D j i) j := by
  obtain ⟨u1, u2, u3, u4⟩ := Go.Sort.scanUp_spec p D j _ i rfl
  obtain ⟨v1, v2, v3, v4⟩ := Go.Sort.scanDown_spec q D (Go.Sort.scanUp p D j i) j
  rcases Nat.lt_or_ge (Go.Sort.scanUp p D j i) (Go.Sort.scanDown q D (Go.Sort.scanUp p D j i) j) with h1 | h1
  · exact h1
  · have e : Go.Sort.scanDown q D (Go.Sort.scanUp p D j i) j = Go.Sort.scanUp p D j i := by omega
    have f1 := u4 (by omega)
    have f2 := v4 (by omega) (by omega)
    rw [e, hq, f1] at f2
    cases f2
theorem part_loop {a : Nat} : ∀ (n i j : Nat) (D : Array Member) (fuel : Nat), j + 1 - i ≤ n → n < fuel → a < i → i ≤ j + 1 → j < D.size → a < D.size → D.size ≤ 1000 →
    (∃ i', sl_partitionCmpFunc_Member_l2 (a : Int) (cF d) fuel (D.toList, (i : Int), (j : Int)) = some ((Go.Sort.partLoop (ltD d) a i j D).2.toList, i', (((Go.Sort.partLoop (ltD d) a i j D).1 : Nat) : Int))) ∧
      (Go.Sort.partLoop (ltD d) a i j D).2.size = D.size ∧ (Go.Sort.partLoop (ltD d) a i j D).1 ≤ j := by
  intro n
  induction n with
  | zero =>
    intro i j D fuel hn hf hai hij hj ha hs
    obtain ⟨f, rfl⟩ : ∃ f, fuel = f + 1 := ⟨fuel - 1, by omega⟩
    rw [sl_partitionCmpFunc_Member_l2.eq_2, Go.Sort.partLoop_eq]
    dsimp only
    rw [p_l3 ha hj hs hij, Option.bind_some, p_l4 ha (by have := Go.Sort.scanUp_ge (fun x => ltD d x D[a]!) D j i; omega) hs hj, Option.bind_some]
    have h1 := Go.Sort.scanUp_ge (fun x => ltD d x D[a]!) D j i
    have h2 := Go.Sort.scanDown_le (fun x => !ltD d x D[a]!) D (Go.Sort.scanUp (fun x => ltD d x D[a]!) D j i) j
    rw [decide_eq_true (by omega), cond_true, if_pos (by omega)]
    exact ⟨⟨_, rfl⟩, rfl, h2⟩
  | succ n ih =>
    intro i j D fuel hn hf hai hij hj ha hs
    obtain ⟨f, rfl⟩ : ∃ f, fuel = f + 1 := ⟨fuel - 1, by omega⟩
    rw [sl_partitionCmpFunc_Member_l2.eq_2, Go.Sort.partLoop_eq]
    dsimp only
    rw [p_l3 ha hj hs hij, Option.bind_some, p_l4 ha (by have := Go.Sort.scanUp_ge (fun x => ltD d x D[a]!) D j i; omega) hs hj, Option.bind_some]
    have h1 := Go.Sort.scanUp_ge (fun x => ltD d x D[a]!) D j i
    have h2 := Go.Sort.scanDown_le (fun x => !ltD d x D[a]!) D (Go.Sort.scanUp (fun x => ltD d x D[a]!) D j i) j
    have h3 := meet (p := fun x => ltD d x D[a]!) (q := fun x => !ltD d x D[a]!) (fun _ => rfl) (D := D) (i := i) (j := j) (by omega)
    generalize Go.Sort.scanUp (fun x => ltD d x D[a]!) D j i = i2 at h1 h2 h3 ⊢
    generalize Go.Sort.scanDown (fun x => !ltD d x D[a]!) D i2 j = j2 at h2 h3 ⊢
    by_cases hc : i2 > j2
    · rw [decide_eq_true (by omega), cond_true, if_pos hc]
      exact ⟨⟨_, rfl⟩, rfl, h2⟩
    · have h4 := h3 hc
      rw [decide_eq_false (by omega), cond_false, if_neg hc]
      simp only [Int.toNat_natCast]
      rw [swap_run (D := D) (i := i2) (j := j2) (by omega) (by omega) fun l => sl_partitionCmpFunc_Member_l2 (a : Int) (cF d) f (l, w64 ((i2 : Int) + 1), w64 ((j2 : Int) - 1)), w64p (by omega), w64m (by omega) (by omega)]
      obtain ⟨r1, r2, r3⟩ := ih (i2 + 1) (j2 - 1) (swp D i2 j2) f (by omega) (by omega) (by omega) (by omega) (by rw [size_swp]; omega) (by rw [size_swp]; exact ha) (by rw [size_swp]; exact hs)
      exact ⟨r1, by rw [r2, size_swp], by omega⟩
theorem partition_eq {D : Array Member} {a b pv : Nat} (ha : a ≤ pv) (hpv : pv < b) (hb : b ≤ D.size) (hs : D.size ≤ 1000) :
    sl_partitionCmpFunc_Member D.toList (a : Int) (b : Int) (pv : Int) (cF d) = some ((((Go.Sort.partition (ltD d) D a b pv).1 : Nat) : Int), (Go.Sort.partition (ltD d) D a b pv).2.1, (Go.Sort.partition (ltD d) D a b pv).2.2.toList) := by
  unfold sl_partitionCmpFunc_Member
  have haS : a < D.size := by omega
  have hpS : pv < D.size := by omega
  have hz : ∃ z, ix (D.toList.set a D[pv]!) (pv : Int) = some z := ⟨_, ix_nat (by simpa using hpS)⟩
  obtain ⟨z, hz⟩ := hz
  rw [ixA hpS, Option.bind_some, ixA haS, Option.bind_some, Option.bind_some, Int.toNat_natCast, hz, Option.bind_some, w64p (by omega), w64m (by omega) (by omega), p_l0 haS hpS hb (by omega) hs (by omega), Option.bind_some]
  have h1 := Go.Sort.scanUp_ge (fun x => ltD d x (swp D a pv)[a]!) (swp D a pv) (b - 1) (a + 1)
  rw [p_l1 haS hpS (by omega) hs (by omega), Option.bind_some]
  have h2 := Go.Sort.scanDown_le (fun x => !ltD d x (swp D a pv)[a]!) (swp D a pv) (Go.Sort.scanUp (fun x => ltD d x (swp D a pv)[a]!) (swp D a pv) (b - 1) (a + 1)) (b - 1)
  have h3 := meet (p := fun x => ltD d x (swp D a pv)[a]!) (q := fun x => !ltD d x (swp D a pv)[a]!) (fun _ => rfl) (D := swp D a pv) (i := a + 1) (j := b - 1) (by omega)
  unfold Go.Sort.partition
  dsimp only
  simp only [Int.toNat_natCast, swpA]
  have hsz : (swp D a pv).size = D.size := size_swp _ _ _
  generalize Go.Sort.scanUp (fun x => ltD d x (swp D a pv)[a]!) (swp D a pv) (b - 1) (a + 1) = i2 at h1 h2 h3 ⊢
  generalize Go.Sort.scanDown (fun x => !ltD d x (swp D a pv)[a]!) (swp D a pv) i2 (b - 1) = j2 at h2 h3 ⊢
  generalize swp D a pv = E at h3 hsz ⊢
  by_cases hc : i2 > j2
  · rw [decide_eq_true (by omega), cond_true, if_pos hc]
    exact swap_run (D := E) (i := j2) (j := a) (by omega) (by omega) fun l => some ((j2 : Int), true, l)
  · have h4 := h3 hc
    rw [decide_eq_false (by omega), cond_false, if_neg hc]
    rw [swap_run (D := E) (i := i2) (j := j2) (by omega) (by omega) fun l => (sl_partitionCmpFunc_Member_l2 (a : Int) (cF d) FUEL (l, w64 ((i2 : Int) + 1), w64 ((j2 : Int) - 1))).bind fun s42 => (ix s42.1 (a : Int)).bind fun t80 => (ix s42.1 s42.2.2).bind fun t81 => (ix s42.1 s42.2.2).bind fun _ => (ix (s42.1.set s42.2.2.toNat t80) (a : Int)).bind fun _ => some (s42.2.2, false, ((s42.1.set s42.2.2.toNat t80).set a t81))]
    rw [w64p (by omega), w64m (by omega) (by omega)]
    obtain ⟨⟨i', r1⟩, r2, r3⟩ := part_loop (d := d) (a := a) (j2 - 1 + 1 - (i2 + 1)) (i2 + 1) (j2 - 1) (swp E i2 j2) FUEL (Nat.le_refl _) (by have := fuel_big; omega) (by omega) (by omega) (by rw [size_swp]; omega) (by rw [size_swp]; omega) (by rw [size_swp]; omega)
    rw [size_swp] at r2
    rw [r1, Option.bind_some]
    dsimp only
    generalize Go.Sort.partLoop (ltD d) a (i2 + 1) (j2 - 1) (swp E i2 j2) = R at r2 r3 ⊢
    simp only [Int.toNat_natCast]
    exact swap_run (D := R.2) (i := R.1) (j := a) (by omega) (by omega) fun l => some ((R.1 : Int), false, l)
end Go.Ph
namespace Go.Ph
open Go.Proofs
open Go.Sort (swp size_swp PermIn SortedIn permIn_refl permIn_trans)
variable {d : Member → Nat}
/-! ### partitionEqual -/
theorem e_l1 {D : Array Member} {a j : Nat} {q : Int} (ha : a < D.size) (hj : j < D.size) (hs : D.size ≤ 1000) {i : Nat} (hi : i ≤ j + 1) : sl_partitionEqualCmpFunc_Member_l1 (D.toList, q, (j : Int)) (a : Int) (cF d) FUEL (i : Int) = some ((Go.Sort.scanUp (fun x => !ltD d D[a]! x) D j i : Nat) : Int) := by
  refine scanUp_gen (p := fun x => !ltD d D[a]! x) (fun f i hi => ?_) (j + 1 - i) i FUEL (by omega) (by have := fuel_big; omega)
  rw [sl_partitionEqualCmpFunc_Member_l1.eq_2]
  dsimp only
  rw [dle, w64p (by omega)]
  exact round_neg fun h => ⟨ha, by have := of_decide_eq_true h; omega⟩
theorem e_l2 {D : Array Member} {a i : Nat} {q : Int × Int} (ha : a < D.size) (h0 : 0 < i) (hs : D.size ≤ 1000) {j : Nat} (hj : j < D.size) : sl_partitionEqualCmpFunc_Member_l2 (i : Int) (D.toList, q) (a : Int) (cF d) FUEL (j : Int) = some ((Go.Sort.scanDown (fun x => ltD d D[a]! x) D i j : Nat) : Int) := by
  refine scanDown_gen (p := fun x => ltD d D[a]! x) h0 (fun f j hj => ?_) j FUEL hj (by have := fuel_big; omega)
  rw [sl_partitionEqualCmpFunc_Member_l2.eq_2]
  dsimp only
  rw [dle]
  by_cases hij : i ≤ j
  · rw [w64m (by omega) (by omega)]
    exact round_pos fun h => ⟨ha, hj⟩
  · rw [decide_eq_false hij]; rfl
theorem parteq_loop {a : Nat} : ∀ (n i j : Nat) (D : Array Member) (fuel : Nat), j + 1 - i ≤ n → n < fuel → a < i → i ≤ j + 1 → j < D.size → a < D.size → D.size ≤ 1000 →
    ∃ j', sl_partitionEqualCmpFunc_Member_l0 (a : Int) (cF d) fuel (D.toList, (i : Int), (j : Int)) = some ((Go.Sort.partEqLoop (ltD d) a i j D).2.toList, (((Go.Sort.partEqLoop (ltD d) a i j D).1 : Nat) : Int), j') := by
  intro n
  induction n with
  | zero =>
    intro i j D fuel hn hf hai hij hj ha hs
    obtain ⟨f, rfl⟩ : ∃ f, fuel = f + 1 := ⟨fuel - 1, by omega⟩
    rw [sl_partitionEqualCmpFunc_Member_l0.eq_2, Go.Sort.partEqLoop_eq]
    dsimp only
    rw [e_l1 ha hj hs hij, Option.bind_some, e_l2 ha (by have := Go.Sort.scanUp_ge (fun x => !ltD d D[a]! x) D j i; omega) hs hj, Option.bind_some]
    have h1 := Go.Sort.scanUp_ge (fun x => !ltD d D[a]! x) D j i
    have h2 := Go.Sort.scanDown_le (fun x => ltD d D[a]! x) D (Go.Sort.scanUp (fun x => !ltD d D[a]! x) D j i) j
    rw [decide_eq_true (by omega), cond_true, if_pos (by omega)]
    exact ⟨_, rfl⟩
  | succ n ih =>
    intro i j D fuel hn hf hai hij hj ha hs
    obtain ⟨f, rfl⟩ : ∃ f, fuel = f + 1 := ⟨fuel - 1, by omega⟩
    rw [sl_partitionEqualCmpFunc_Member_l0.eq_2, Go.Sort.partEqLoop_eq]
    dsimp only
    rw [e_l1 ha hj hs hij, Option.bind_some, e_l2 ha (by have := Go.Sort.scanUp_ge (fun x => !ltD d D[a]! x) D j i; omega) hs hj, Option.bind_some]
    have h1 := Go.Sort.scanUp_ge (fun x => !ltD d D[a]! x) D j i
    have h2 := Go.Sort.scanDown_le (fun x => ltD d D[a]! x) D (Go.Sort.scanUp (fun x => !ltD d D[a]! x) D j i) j
    have h3 := meet (p := fun x => !ltD d D[a]! x) (q := fun x => ltD d D[a]! x) (fun _ => by simp) (D := D) (i := i) (j := j) (by omega)
    generalize Go.Sort.scanUp (fun x => !ltD d D[a]! x) D j i = i2 at h1 h2 h3 ⊢
    generalize Go.Sort.scanDown (fun x => ltD d D[a]! x) D i2 j = j2 at h2 h3 ⊢
    by_cases hc : i2 > j2
    · rw [decide_eq_true (by omega), cond_true, if_pos hc]
      exact ⟨_, rfl⟩
    · have h4 := h3 hc
      rw [decide_eq_false (by omega), cond_false, if_neg hc]
      simp only [Int.toNat_natCast]
      rw [swap_run (D := D) (i := i2) (j := j2) (by omega) (by omega) fun l => sl_partitionEqualCmpFunc_Member_l0 (a : Int) (cF d) f (l, w64 ((i2 : Int) + 1), w64 ((j2 : Int) - 1)), w64p (by omega), w64m (by omega) (by omega)]
      exact ih (i2 + 1) (j2 - 1) (swp D i2 j2) f (by omega) (by omega) (by omega) (by omega) (by rw [size_swp]; omega) (by rw [size_swp]; exact ha) (by rw [size_swp]; exact hs)
theorem partitionEqual_eq {D : Array Member} {a b pv : Nat} (ha : a ≤ pv) (hpv : pv < b) (hb : b ≤ D.size) (hs : D.size ≤ 1000) :
    sl_partitionEqualCmpFunc_Member D.toList (a : Int) (b : Int) (pv : Int) (cF d) = some ((((Go.Sort.partitionEqual (ltD d) D a b pv).1 : Nat) : Int), (Go.Sort.partitionEqual (ltD d) D a b pv).2.toList) := by
  unfold sl_partitionEqualCmpFunc_Member
  simp only [Int.toNat_natCast]
  rw [swap_run (D := D) (i := a) (j := pv) (by omega) (by omega) fun l => (sl_partitionEqualCmpFunc_Member_l0 (a : Int) (cF d) FUEL (l, w64 ((a : Int) + 1), w64 ((b : Int) - 1))).bind fun s5 => some (s5.2.1, s5.1), w64p (by omega), w64m (by omega) (by omega)]
  obtain ⟨j', h⟩ := parteq_loop (d := d) (a := a) (b - 1 + 1 - (a + 1)) (a + 1) (b - 1) (swp D a pv) FUEL (Nat.le_refl _) (by have := fuel_big; omega) (by omega) (by omega) (by rw [size_swp]; omega) (by rw [size_swp]; omega) (by rw [size_swp]; exact hs)
  rw [h]; rfl
/-! ### heapSort -/
theorem size_siftDown (lt : Member → Member → Bool) (hi first : Nat) : ∀ (n root : Nat) (D : Array Member), hi - root ≤ n → (Go.Sort.siftDown lt hi first root D).size = D.size := by
  intro n
  induction n with
  | zero =>
    intro root D h
    rw [Go.Sort.siftDown, dif_pos (by omega)]
  | succ n ih =>
    intro root D h
    rw [Go.Sort.siftDown]
    split
    · rfl
    · split
      · split
        · rfl
        · split
          · rw [ih _ _ (by omega), size_swp]
          · rfl
      · split
        · rfl
        · rw [ih _ _ (by omega), size_swp]
theorem sift_loop {hi first : Nat} : ∀ (n root : Nat) (D : Array Member) (fuel : Nat), hi - root ≤ n → n < fuel → first + hi ≤ D.size → D.size ≤ 1000 → root ≤ 1000 →
    (sl_siftDownCmpFunc_Member_l0 (hi : Int) (first : Int) (cF d) fuel (D.toList, (root : Int))).bind (fun o3 => match o3 with | .ret q => some q | .fall s1 => some s1.1) = some (Go.Sort.siftDown (ltD d) hi first root D).toList := by
  intro n
  induction n with
  | zero =>
    intro root D fuel h hf hs h1 hr
    obtain ⟨f, rfl⟩ : ∃ f, fuel = f + 1 := ⟨fuel - 1, by omega⟩
    rw [sl_siftDownCmpFunc_Member_l0.eq_2, Go.Sort.siftDown, dif_pos (by omega)]
    dsimp only
    have e1 : w64 (2 * (root : Int)) = ((2 * root : Nat) : Int) := by rw [w64_eq (by omega)]; omega
    rw [e1, w64p (by omega), decide_eq_true (by omega)]
    rfl
  | succ n ih =>
    intro root D fuel h hf hs h1 hr
    obtain ⟨f, rfl⟩ : ∃ f, fuel = f + 1 := ⟨fuel - 1, by omega⟩
    have e1 : w64 (2 * (root : Int)) = ((2 * root : Nat) : Int) := by rw [w64_eq (by omega)]; omega
    rw [sl_siftDownCmpFunc_Member_l0.eq_2, Go.Sort.siftDown]
    dsimp only
    rw [e1, w64p (by omega), w64p (by omega)]
    by_cases hc : 2 * root + 1 ≥ hi
    · rw [dif_pos hc, decide_eq_true (by omega)]; rfl
    · rw [dif_neg hc, decide_eq_false (by omega), cond_false]
      have e2 : w64 ((first : Int) + ((2 * root + 1 : Nat) : Int)) = ((first + (2 * root + 1) : Nat) : Int) := by rw [w64_eq (by omega)]; omega
      have e3 : w64 ((first : Int) + (root : Int)) = ((first + root : Nat) : Int) := by rw [w64_eq (by omega)]; omega
      rw [e2, w64p (by omega), e3]
      -- the child
      have hch : ∀ (K : Int → Option (Lo (List Member) ((List Member) × Int))), (((((bif (decide (((2 * root + 1 + 1 : Nat) : Int) < (hi : Int))) then (ix D.toList ((first + (2 * root + 1) : Nat) : Int)).bind fun t15 => (ix D.toList ((first + (2 * root + 1) + 1 : Nat) : Int)).bind fun t16 => ((cF d).f t15 t16).bind fun t17 => some (decide (t17 < 0)) else some false)).bind fun t14 => (bif t14 then some ((2 * root + 1 + 1 : Nat) : Int) else some ((2 * root + 1 : Nat) : Int)) : Option Int)).bind K) =
          K (((if 2 * root + 1 + 1 < hi && ltD d D[first + (2 * root + 1)]! D[first + (2 * root + 1) + 1]! then 2 * root + 2 else 2 * root + 1) : Nat) : Int) := fun K => by
        rw [round_pos (X := some ((2 * root + 1 + 1 : Nat) : Int)) (Y := some ((2 * root + 1 : Nat) : Int)) fun h => ⟨by omega, by have := of_decide_eq_true h; omega⟩]
        have : decide (((2 * root + 1 + 1 : Nat) : Int) < (hi : Int)) = decide (2 * root + 1 + 1 < hi) := decide_eq_decide.2 (by omega)
        rw [this]
        cases decide (2 * root + 1 + 1 < hi) && ltD d D[first + (2 * root + 1)]! D[first + (2 * root + 1) + 1]! <;> rfl
      rw [hch]
      -- the round, at whatever child
      have hround : ∀ (c : Nat), c < hi → root < c → c ≤ 2 * root + 2 →
          (((ix D.toList ((first + root : Nat) : Int)).bind fun t19 => (ix D.toList (w64 ((first : Int) + (c : Int)))).bind fun t20 => ((cF d).f t19 t20).bind fun t21 => (bif (!(decide (t21 < 0))) then some (.ret D.toList) else (ix D.toList (w64 ((first : Int) + (c : Int)))).bind fun t23 => (ix D.toList ((first + root : Nat) : Int)).bind fun t24 => (ix D.toList ((first + root : Nat) : Int)).bind fun _ => (ix (D.toList.set (((first + root : Nat) : Int)).toNat t23) (w64 ((first : Int) + (c : Int)))).bind fun _ => sl_siftDownCmpFunc_Member_l0 (hi : Int) (first : Int) (cF d) f (((D.toList.set (((first + root : Nat) : Int)).toNat t23).set (w64 ((first : Int) + (c : Int))).toNat t24), (c : Int)))) : Option (Lo (List Member) ((List Member) × Int))).bind (fun o3 => match o3 with | .ret q => some q | .fall s1 => some s1.1) =
          some (if !ltD d D[first + root]! D[first + c]! then D else Go.Sort.siftDown (ltD d) hi first c (swp D (first + root) (first + c))).toList := fun c hc1 hc2 hc3 => by
        have e4 : w64 ((first : Int) + (c : Int)) = ((first + c : Nat) : Int) := by rw [w64_eq (by omega)]; omega
        rw [e4]
        simp only [Int.toNat_natCast]
        rw [swap_run (D := D) (i := first + root) (j := first + c) (by omega) (by omega) fun l => sl_siftDownCmpFunc_Member_l0 (hi : Int) (first : Int) (cF d) f (l, (c : Int)), ixA (D := D) (i := first + root) (by omega), ixA (D := D) (i := first + c) (by omega)]
        simp only [Option.bind_some]
        have e5 : ∀ K : Bool → Option (List Member), (((cF d).f D[first + root]! D[first + c]!).bind fun t21 => K (!(decide (t21 < 0)))) = K (!ltD d D[first + root]! D[first + c]!) := fun K => by unfold cF ltD; rw [Option.bind_some, cmpN_neg]
        have e6 : ((((cF d).f D[first + root]! D[first + c]!).bind fun t21 => (bif (!(decide (t21 < 0))) then some (.ret D.toList) else sl_siftDownCmpFunc_Member_l0 (hi : Int) (first : Int) (cF d) f ((swp D (first + root) (first + c)).toList, (c : Int)))) : Option (Lo (List Member) ((List Member) × Int))) = (bif !ltD d D[first + root]! D[first + c]! then some (.ret D.toList) else sl_siftDownCmpFunc_Member_l0 (hi : Int) (first : Int) (cF d) f ((swp D (first + root) (first + c)).toList, (c : Int))) := by unfold cF ltD; rw [Option.bind_some, cmpN_neg]
        rw [e6]
        cases ltD d D[first + root]! D[first + c]! with
        | false => rfl
        | true =>
          simp only [Bool.not_true, cond_false]
          exact ih c _ f (by omega) (by omega) (by rw [size_swp]; exact hs) (by rw [size_swp]; exact h1) (by omega)
      cases hq : (decide (2 * root + 1 + 1 < hi) && ltD d D[first + (2 * root + 1)]! D[first + (2 * root + 1) + 1]!) with
      | true =>
        have hlt : 2 * root + 2 < hi := by simp only [Bool.and_eq_true, decide_eq_true_eq] at hq; omega
        simp only [if_true]
        rw [hround (2 * root + 2) hlt (by omega) (by omega), dif_pos hlt]
      | false =>
        simp only [Bool.false_eq_true, if_false]
        exact hround (2 * root + 1) (by omega) (by omega) (by omega)
theorem sift_eq {hi first root : Nat} {D : Array Member} (hs : first + hi ≤ D.size) (h1 : D.size ≤ 1000) (hr : root ≤ 1000) : sl_siftDownCmpFunc_Member D.toList (root : Int) (hi : Int) (first : Int) (cF d) = some (Go.Sort.siftDown (ltD d) hi first root D).toList :=
  sift_loop (hi - root) root D FUEL (Nat.le_refl _) (by have := fuel_big; omega) hs h1 hr
theorem build_loop {a b : Nat} (hab : a ≤ b) : ∀ (k : Nat) (D : Array Member) (fuel : Nat), k < fuel → k ≤ 1000 → b ≤ D.size → D.size ≤ 1000 →
    sl_heapSortCmpFunc_Member_l0 (b : Int) (a : Int) (cF d) fuel (D.toList, (k : Int) - 1) = some ((Go.Sort.heapBuild (ltD d) (b - a) a k D).toList, -1) ∧ (Go.Sort.heapBuild (ltD d) (b - a) a k D).size = D.size
  | 0, D, fuel, hf, _, hb, hs => by
    obtain ⟨f, rfl⟩ : ∃ f, fuel = f + 1 := ⟨fuel - 1, by omega⟩
    rw [sl_heapSortCmpFunc_Member_l0.eq_2]
    dsimp only
    rw [decide_eq_false (by omega)]
    exact ⟨rfl, rfl⟩
  | k + 1, D, fuel, hf, hk, hb, hs => by
    obtain ⟨f, rfl⟩ : ∃ f, fuel = f + 1 := ⟨fuel - 1, by omega⟩
    have e : ((k + 1 : Nat) : Int) - 1 = (k : Int) := by omega
    have e2 : w64 ((b : Int) - (a : Int)) = ((b - a : Nat) : Int) := by rw [w64_eq (by omega)]; omega
    have e3 : w64 ((k : Int) - 1) = (k : Int) - 1 := w64_eq (by omega)
    have hz := size_siftDown (ltD d) (b - a) a (b - a - k) k D (Nat.le_refl _)
    obtain ⟨r1, r2⟩ := build_loop hab k (Go.Sort.siftDown (ltD d) (b - a) a k D) f (by omega) (by omega) (by rw [hz]; exact hb) (by rw [hz]; exact hs)
    rw [e, sl_heapSortCmpFunc_Member_l0.eq_2]
    dsimp only
    rw [decide_eq_true (by omega), cond_true, e2, sift_eq (by omega) hs (by omega), Option.bind_some, e3, r1]
    exact ⟨rfl, by unfold Go.Sort.heapBuild; rw [r2, hz]⟩
theorem pop_loop {a : Nat} : ∀ (k : Nat) (D : Array Member) (fuel : Nat), k < fuel → a + k ≤ D.size → D.size ≤ 1000 →
    sl_heapSortCmpFunc_Member_l1 (a : Int) (cF d) fuel (D.toList, (k : Int) - 1) = some ((Go.Sort.heapPop (ltD d) a k D).toList, -1)
  | 0, D, fuel, hf, hb, hs => by
    obtain ⟨f, rfl⟩ : ∃ f, fuel = f + 1 := ⟨fuel - 1, by omega⟩
    rw [sl_heapSortCmpFunc_Member_l1.eq_2]
    dsimp only
    rw [decide_eq_false (by omega)]
    rfl
  | k + 1, D, fuel, hf, hb, hs => by
    obtain ⟨f, rfl⟩ : ∃ f, fuel = f + 1 := ⟨fuel - 1, by omega⟩
    have e : ((k + 1 : Nat) : Int) - 1 = (k : Int) := by omega
    have e2 : w64 ((a : Int) + (k : Int)) = ((a + k : Nat) : Int) := by rw [w64_eq (by omega)]; omega
    have e3 : w64 ((k : Int) - 1) = (k : Int) - 1 := w64_eq (by omega)
    rw [e, sl_heapSortCmpFunc_Member_l1.eq_2]
    dsimp only
    rw [decide_eq_true (by omega), cond_true, e2, e3]
    simp only [Int.toNat_natCast]
    rw [swap_run (D := D) (i := a) (j := a + k) (by omega) (by omega) fun l => (sl_siftDownCmpFunc_Member l 0 (k : Int) (a : Int) (cF d)).bind fun t18 => sl_heapSortCmpFunc_Member_l1 (a : Int) (cF d) f (t18, (k : Int) - 1)]
    have h0 := sift_eq (d := d) (hi := k) (first := a) (root := 0) (D := swp D a (a + k)) (by rw [size_swp]; omega) (by rw [size_swp]; exact hs) (by omega)
    have h0' : sl_siftDownCmpFunc_Member (swp D a (a + k)).toList 0 (k : Int) (a : Int) (cF d) = _ := h0
    have hz := size_siftDown (ltD d) k a k 0 (swp D a (a + k)) (by omega)
    rw [size_swp] at hz
    rw [h0', Option.bind_some, pop_loop k _ f (by omega) (by rw [hz]; omega) (by rw [hz]; exact hs)]
    rfl
theorem heap_eq {D : Array Member} {a b : Nat} (hab : a < b) (hb : b ≤ D.size) (hs : D.size ≤ 1000) : sl_heapSortCmpFunc_Member D.toList (a : Int) (b : Int) (cF d) = some (Go.Sort.heapSort (ltD d) D a b).toList := by
  unfold sl_heapSortCmpFunc_Member Go.Sort.heapSort
  have e2 : w64 ((b : Int) - (a : Int)) = ((b - a : Nat) : Int) := by rw [w64_eq (by omega)]; omega
  have e3 : w64 (((b - a : Nat) : Int) - 1) = ((b - a : Nat) : Int) - 1 := w64_eq (by omega)
  have e4 : w64 (Int.tdiv (((b - a : Nat) : Int) - 1) 2) = (((b - a - 1) / 2 + 1 : Nat) : Int) - 1 := by
    have : ((b - a : Nat) : Int) - 1 = ((b - a - 1 : Nat) : Int) := by omega
    rw [this]
    have : Int.tdiv ((b - a - 1 : Nat) : Int) 2 = (((b - a - 1) / 2 : Nat) : Int) := rfl
    rw [this, w64n (by omega)]; omega
  rw [e2, e3, e4]
  obtain ⟨r1, r2⟩ := build_loop (d := d) (Nat.le_of_lt hab) ((b - a - 1) / 2 + 1) D FUEL (by have := fuel_big; omega) (by omega) hb hs
  rw [r1, Option.bind_some]
  dsimp only
  rw [pop_loop (b - a) _ FUEL (by have := fuel_big; omega) (by rw [r2]; omega) (by rw [r2]; exact hs)]
  rfl
end Go.Ph
namespace Go.Ph
open Go.Proofs
open Go.Sort (swp size_swp PermIn SortedIn permIn_refl permIn_trans swp_permIn)
variable {d : Member → Nat}
/-! ### The pivot -/
theorem order2_eq {D : Array Member} {a b s : Nat} (ha : a < D.size) (hb : b < D.size) (hs : s ≤ 1000) :
    ∃ x y s' : Nat, sl_order2CmpFunc_Member D.toList (a : Int) (b : Int) (s : Int) (cF d) = some ((x : Int), (y : Int), (s' : Int)) ∧ ((x = a ∧ y = b) ∨ (x = b ∧ y = a)) ∧ s' ≤ s + 1 := by
  unfold sl_order2CmpFunc_Member
  rw [ixA hb, Option.bind_some, ixA ha, Option.bind_some, w64p (by omega)]
  unfold cF
  rw [Option.bind_some]
  cases decide (cmpN (d D[b]!) (d D[a]!) < 0) with
  | true => exact ⟨b, a, s + 1, rfl, .inr ⟨rfl, rfl⟩, Nat.le_refl _⟩
  | false => exact ⟨a, b, s, rfl, .inl ⟨rfl, rfl⟩, by omega⟩
theorem median_eq {D : Array Member} {a b c s : Nat} (ha : a < D.size) (hb : b < D.size) (hc : c < D.size) (hs : s ≤ 900) :
    ∃ m s' : Nat, sl_medianCmpFunc_Member D.toList (a : Int) (b : Int) (c : Int) (s : Int) (cF d) = some ((m : Int), (s' : Int)) ∧ (m = a ∨ m = b ∨ m = c) := by
  unfold sl_medianCmpFunc_Member
  obtain ⟨x, y, s1, h1, o1, l1⟩ := order2_eq (d := d) ha hb (s := s) (by omega)
  rw [h1, Option.bind_some]
  dsimp only
  obtain ⟨x2, y2, s2, h2, o2, l2⟩ := order2_eq (d := d) (D := D) (a := y) (b := c) (s := s1) (by omega) hc (by omega)
  rw [h2, Option.bind_some]
  dsimp only
  obtain ⟨x3, y3, s3, h3, o3, l3⟩ := order2_eq (d := d) (D := D) (a := x) (b := x2) (s := s2) (by omega) (by omega) (by omega)
  rw [h3, Option.bind_some]
  exact ⟨y3, s3, rfl, by omega⟩
theorem w64_four {a b k : Nat} (hab : a ≤ b) (hb : b ≤ 1000) (hk : k ≤ 3) : w64 ((a : Int) + (w64 ((w64 (Int.tdiv (w64 ((b : Int) - (a : Int))) 4)) * (k : Int)))) = ((a + (b - a) / 4 * k : Nat) : Int) := by
  have e2 : w64 ((b : Int) - (a : Int)) = ((b - a : Nat) : Int) := by rw [w64_eq (by omega)]; omega
  have e3 : w64 (Int.tdiv ((b - a : Nat) : Int) 4) = (((b - a) / 4 : Nat) : Int) := by
    have : Int.tdiv ((b - a : Nat) : Int) 4 = (((b - a) / 4 : Nat) : Int) := rfl
    rw [this, w64n (by omega)]
  have hq : (b - a) / 4 * k ≤ 1000 * 3 := Nat.mul_le_mul (by omega) hk
  have e4 : w64 ((((b - a) / 4 : Nat) : Int) * (k : Int)) = (((b - a) / 4 * k : Nat) : Int) := by
    have : (((b - a) / 4 : Nat) : Int) * (k : Int) = (((b - a) / 4 * k : Nat) : Int) := by rw [Int.natCast_mul]
    rw [this, w64n (by omega)]
  rw [e2, e3, e4, w64_eq (by omega)]; omega
theorem choose_eq {D : Array Member} {a b : Nat} (h8 : 8 ≤ b - a) (h50 : b - a < 50) (hb : b ≤ D.size) (hs : D.size ≤ 1000) :
    ∃ (p : Nat) (h : Int), sl_choosePivotCmpFunc_Member D.toList (a : Int) (b : Int) (cF d) = some ((p : Int), h) ∧ a ≤ p ∧ p < b := by
  have k1 := w64_four (a := a) (b := b) (k := 1) (by omega) (by omega) (by omega)
  have k2 := w64_four (a := a) (b := b) (k := 2) (by omega) (by omega) (by omega)
  have k3 := w64_four (a := a) (b := b) (k := 3) (by omega) (by omega) (by omega)
  have k1' : w64 ((a : Int) + (w64 ((w64 (Int.tdiv (w64 ((b : Int) - (a : Int))) 4)) * 1))) = _ := k1
  have k2' : w64 ((a : Int) + (w64 ((w64 (Int.tdiv (w64 ((b : Int) - (a : Int))) 4)) * 2))) = _ := k2
  have k3' : w64 ((a : Int) + (w64 ((w64 (Int.tdiv (w64 ((b : Int) - (a : Int))) 4)) * 3))) = _ := k3
  have e2 : w64 ((b : Int) - (a : Int)) = ((b - a : Nat) : Int) := by rw [w64_eq (by omega)]; omega
  unfold sl_choosePivotCmpFunc_Member
  rw [k1', k2', k3', e2, decide_eq_true (by omega), cond_true, decide_eq_false (by omega), cond_false]
  dsimp only [Option.bind_some]
  obtain ⟨m, s', h, hm⟩ := median_eq (d := d) (D := D) (a := a + (b - a) / 4 * 1) (b := a + (b - a) / 4 * 2) (c := a + (b - a) / 4 * 3) (s := 0) (by omega) (by omega) (by omega) (by omega)
  have h' : sl_medianCmpFunc_Member D.toList ((a + (b - a) / 4 * 1 : Nat) : Int) ((a + (b - a) / 4 * 2 : Nat) : Int) ((a + (b - a) / 4 * 3 : Nat) : Int) 0 (cF d) = _ := h
  rw [h']
  dsimp only [Option.bind_some]
  have hr : a ≤ m ∧ m < b := by omega
  cases decide ((s' : Int) = 0) with
  | true => exact ⟨m, 1, rfl, hr⟩
  | false =>
    cases decide ((s' : Int) = 12) with
    | true => exact ⟨m, 2, rfl, hr⟩
    | false => exact ⟨m, 0, rfl, hr⟩
/-! ### reverseRange -/
theorem rev_loop {a b : Nat} : ∀ (n i j : Nat) (D : Array Member) (fuel : Nat), j - i ≤ n → n < fuel → a ≤ i → j < b → b ≤ D.size → D.size ≤ 1000 →
    ∃ D' q, sl_reverseRangeCmpFunc_Member_l0 fuel (D.toList, (i : Int), (j : Int)) = some (D'.toList, q) ∧ PermIn a b D D' := by
  intro n
  induction n with
  | zero =>
    intro i j D fuel h hf ha hj hb hs
    obtain ⟨f, rfl⟩ : ∃ f, fuel = f + 1 := ⟨fuel - 1, by omega⟩
    rw [sl_reverseRangeCmpFunc_Member_l0.eq_2]
    dsimp only
    rw [decide_eq_false (by omega)]
    exact ⟨D, _, rfl, permIn_refl D a b⟩
  | succ n ih =>
    intro i j D fuel h hf ha hj hb hs
    obtain ⟨f, rfl⟩ : ∃ f, fuel = f + 1 := ⟨fuel - 1, by omega⟩
    rw [sl_reverseRangeCmpFunc_Member_l0.eq_2]
    dsimp only
    by_cases hij : i < j
    · rw [decide_eq_true (by omega), cond_true]
      simp only [Int.toNat_natCast]
      rw [swap_run (D := D) (i := i) (j := j) (by omega) (by omega) fun l => sl_reverseRangeCmpFunc_Member_l0 f (l, w64 ((i : Int) + 1), w64 ((j : Int) - 1)), w64p (by omega), w64m (by omega) (by omega)]
      obtain ⟨D', q, h1, h2⟩ := ih (i + 1) (j - 1) (swp D i j) f (by omega) (by omega) (by omega) (by omega) (by rw [size_swp]; exact hb) (by rw [size_swp]; exact hs)
      exact ⟨D', q, h1, permIn_trans _ _ _ a b (swp_permIn D a b i j ha (by omega) (by omega) hj hb) h2⟩
    · rw [decide_eq_false (by omega)]
      exact ⟨D, _, rfl, permIn_refl D a b⟩
theorem reverse_eq {D : Array Member} {a b : Nat} (hab : a < b) (hb : b ≤ D.size) (hs : D.size ≤ 1000) : ∃ D', sl_reverseRangeCmpFunc_Member D.toList (a : Int) (b : Int) (cF d) = some D'.toList ∧ PermIn a b D D' := by
  unfold sl_reverseRangeCmpFunc_Member
  rw [w64m (by omega) (by omega)]
  obtain ⟨D', q, h1, h2⟩ := rev_loop (a := a) (b := b) (b - 1 - a) a (b - 1) D FUEL (Nat.le_refl _) (by have := fuel_big; omega) (Nat.le_refl _) (by omega) hb hs
  rw [h1]
  exact ⟨D', rfl, h2⟩
/-! ### breakPatterns -/
theorem pow_small : ∀ l : Nat, l < 50 → 8 ≤ l → (slices_nextPowerOfTwo (l : Int)).any (fun t => decide (1 ≤ t.toNat) && decide (t.toNat ≤ 2 * l)) = true := by decide
theorem break_loop {a b : Nat} {t2 : UInt64} (h8 : 8 ≤ b - a) (h1 : 1 ≤ t2.toNat) (h2 : t2.toNat ≤ 2 * (b - a)) : ∀ (k idx : Nat) (D : Array Member) (r : UInt64) (fuel : Nat), idx + k = a + (b - a) / 4 * 2 + 2 → a ≤ idx → k < fuel → b ≤ D.size → D.size ≤ 1000 →
    ∃ D' q, sl_breakPatternsCmpFunc_Member_l0 (a : Int) (b : Int) t2 fuel (D.toList, r, (idx : Int)) = some (D'.toList, q) ∧ PermIn a b D D'
  | 0, idx, D, r, fuel, h, ha, hf, hb, hs => by
    obtain ⟨f, rfl⟩ : ∃ f, fuel = f + 1 := ⟨fuel - 1, by omega⟩
    have k2 := w64_four (a := a) (b := b) (k := 2) (by omega) (by omega) (by omega)
    have k2' : w64 ((a : Int) + (w64 ((w64 (Int.tdiv (w64 ((b : Int) - (a : Int))) 4)) * 2))) = _ := k2
    rw [sl_breakPatternsCmpFunc_Member_l0.eq_2]
    dsimp only
    rw [k2', w64p (by omega), decide_eq_false (by omega)]
    exact ⟨D, _, rfl, permIn_refl D a b⟩
  | k + 1, idx, D, r, fuel, h, ha, hf, hb, hs => by
    obtain ⟨f, rfl⟩ : ∃ f, fuel = f + 1 := ⟨fuel - 1, by omega⟩
    have k2 := w64_four (a := a) (b := b) (k := 2) (by omega) (by omega) (by omega)
    have k2' : w64 ((a : Int) + (w64 ((w64 (Int.tdiv (w64 ((b : Int) - (a : Int))) 4)) * 2))) = _ := k2
    have e2 : w64 ((b : Int) - (a : Int)) = ((b - a : Nat) : Int) := by rw [w64_eq (by omega)]; omega
    have hx : ∃ z : UInt64 × UInt64, slices_xorshift_Next r = some z := ⟨_, rfl⟩
    obtain ⟨z, hz⟩ := hx
    rw [sl_breakPatternsCmpFunc_Member_l0.eq_2]
    dsimp only
    rw [k2', w64p (by omega), decide_eq_true (by omega), cond_true, hz, Option.bind_some, e2]
    have ht : (t2 - UInt64.ofNat 1).toNat = t2.toNat - 1 := by
      rw [UInt64.toNat_sub_of_le _ _ (by rw [UInt64.le_iff_toNat_le]; exact h1)]; rfl
    have hand : (z.1 &&& (t2 - UInt64.ofNat 1)).toNat < 2 * (b - a) := by
      rw [UInt64.toNat_and, ht]
      have := Nat.and_le_right (n := z.1.toNat) (m := t2.toNat - 1)
      omega
    generalize (z.1 &&& (t2 - UInt64.ofNat 1)).toNat = o at hand
    rw [w64n (by omega)]
    obtain ⟨o', ho, hsel⟩ : ∃ o' : Nat, o' < b - a ∧ (bif decide (((b - a : Nat) : Int) ≤ (o : Int)) then some (w64 ((o : Int) - ((b - a : Nat) : Int))) else some (o : Int)) = some (o' : Int) := by
      by_cases hc : b - a ≤ o
      · refine ⟨o - (b - a), by omega, ?_⟩
        rw [decide_eq_true (by omega), cond_true, w64_eq (by omega)]
        congr 1; omega
      · exact ⟨o, by omega, by rw [decide_eq_false (by omega), cond_false]⟩
    rw [hsel, Option.bind_some]
    have e5 : w64 ((a : Int) + (o' : Int)) = ((a + o' : Nat) : Int) := by rw [w64_eq (by omega)]; omega
    rw [e5]
    simp only [Int.toNat_natCast]
    rw [swap_run (D := D) (i := idx) (j := a + o') (by omega) (by omega) fun l => sl_breakPatternsCmpFunc_Member_l0 (a : Int) (b : Int) t2 f (l, z.2, w64 ((idx : Int) + 1)), w64p (by omega)]
    obtain ⟨D', q, r1, r2⟩ := break_loop h8 h1 h2 k (idx + 1) (swp D idx (a + o')) z.2 f (by omega) (by omega) (by omega) (by rw [size_swp]; exact hb) (by rw [size_swp]; exact hs)
    exact ⟨D', q, r1, permIn_trans _ _ _ a b (swp_permIn D a b idx (a + o') ha (by omega) (by omega) (by omega) hb) r2⟩
theorem break_eq {D : Array Member} {a b : Nat} (h8 : 8 ≤ b - a) (h50 : b - a < 50) (hb : b ≤ D.size) (hs : D.size ≤ 1000) : ∃ D', sl_breakPatternsCmpFunc_Member D.toList (a : Int) (b : Int) (cF d) = some D'.toList ∧ PermIn a b D D' := by
  have hp := pow_small (b - a) h50 h8
  have k2 := w64_four (a := a) (b := b) (k := 2) (by omega) (by omega) (by omega)
  have k2' : w64 ((a : Int) + (w64 ((w64 (Int.tdiv (w64 ((b : Int) - (a : Int))) 4)) * 2))) = _ := k2
  have e2 : w64 ((b : Int) - (a : Int)) = ((b - a : Nat) : Int) := by rw [w64_eq (by omega)]; omega
  unfold sl_breakPatternsCmpFunc_Member
  rw [k2', e2, decide_eq_true (by omega), cond_true]
  cases ht : slices_nextPowerOfTwo ((b - a : Nat) : Int) with
  | none => rw [ht] at hp; cases hp
  | some t2 =>
    rw [ht] at hp
    simp only [Option.any_some, Bool.and_eq_true, decide_eq_true_eq] at hp
    rw [Option.bind_some, w64m (by omega) (by omega)]
    obtain ⟨D', q, h1, h2⟩ := break_loop h8 hp.1 hp.2 3 (a + (b - a) / 4 * 2 - 1) D (toU64 ((b - a : Nat) : Int)) FUEL (by omega) (by omega) (by have := fuel_big; omega) hb hs
    rw [h1]
    exact ⟨D', rfl, h2⟩
/-! ### partialInsertionSort, of few -/
theorem scan_sorted {D : Array Member} {b : Nat} {q : Int × Int} (hb : b ≤ D.size) (hs : D.size ≤ 1000) : ∀ (k i fuel : Nat), i + k = b → 0 < i → k < fuel → sl_partialInsertionSortCmpFunc_Member_l1 (b : Int) (D.toList, q) (cF d) fuel (i : Int) = some ((Go.Sort.scanSorted (ltD d) D b i : Nat) : Int)
  | 0, i, fuel, h, h0, hf => by
    obtain ⟨f, rfl⟩ : ∃ f, fuel = f + 1 := ⟨fuel - 1, by omega⟩
    rw [sl_partialInsertionSortCmpFunc_Member_l1.eq_2, Go.Sort.scanSorted]
    have : decide (i < b) = false := decide_eq_false (by omega)
    rw [decide_eq_false (by omega), this]
    rfl
  | k + 1, i, fuel, h, h0, hf => by
    obtain ⟨f, rfl⟩ : ∃ f, fuel = f + 1 := ⟨fuel - 1, by omega⟩
    rw [sl_partialInsertionSortCmpFunc_Member_l1.eq_2, Go.Sort.scanSorted]
    have hd : decide (i < b) = true := decide_eq_true (by omega)
    dsimp only
    rw [w64m h0 (by omega), w64p (by omega), decide_eq_true (by omega), round_neg (d := d) (D := D) (i := i) (j := i - 1) (c := true) (fun _ => ⟨by omega, by omega⟩), hd, Bool.true_and]
    cases ltD d D[i]! D[i - 1]! with
    | true => rfl
    | false =>
      simp only [Bool.not_false, cond_true, if_true]
      exact scan_sorted hb hs k (i + 1) f (by omega) (by omega) (by omega)
theorem partial_eq {D : Array Member} {a b : Nat} (hab : a < b) (h50 : b - a < 50) (hb : b ≤ D.size) (hs : D.size ≤ 1000) :
    sl_partialInsertionSortCmpFunc_Member D.toList (a : Int) (b : Int) (cF d) = some ((Go.Sort.partialInsertionSort (ltD d) D a b).2, D.toList) ∧ (Go.Sort.partialInsertionSort (ltD d) D a b).1 = D := by
  obtain ⟨f, hf⟩ : ∃ f, FUEL = f + 1 := ⟨FUEL - 1, by have := fuel_big; omega⟩
  have e2 : w64 ((b : Int) - (a : Int)) = ((b - a : Nat) : Int) := by rw [w64_eq (by omega)]; omega
  have hsc : ∀ q : Int × Int, sl_partialInsertionSortCmpFunc_Member_l1 (b : Int) (D.toList, q) (cF d) FUEL ((a + 1 : Nat) : Int) = _ := fun q => scan_sorted (d := d) (q := q) hb hs (b - (a + 1)) (a + 1) FUEL (by omega) (by omega) (by have := fuel_big; omega)
  unfold sl_partialInsertionSortCmpFunc_Member Go.Sort.partialInsertionSort
  rw [Go.Sort.partialIns]
  dsimp only
  rw [w64p (by omega)]
  have hrun : sl_partialInsertionSortCmpFunc_Member_l0 (b : Int) (cF d) (a : Int) FUEL (D.toList, ((a + 1 : Nat) : Int), 0) = some (.ret (decide (Go.Sort.scanSorted (ltD d) D b (a + 1) = b), D.toList)) := by
    have : sl_partialInsertionSortCmpFunc_Member_l0 (b : Int) (cF d) (a : Int) FUEL (D.toList, ((a + 1 : Nat) : Int), 0) = sl_partialInsertionSortCmpFunc_Member_l0 (b : Int) (cF d) (a : Int) (f + 1) (D.toList, ((a + 1 : Nat) : Int), 0) := by rw [← hf]
    rw [this, sl_partialInsertionSortCmpFunc_Member_l0.eq_2]
    dsimp only
    rw [hsc, Option.bind_some, e2, decide_eq_true (by omega : ((b - a : Nat) : Int) < 50)]
    have : decide (((Go.Sort.scanSorted (ltD d) D b (a + 1) : Nat) : Int) = (b : Int)) = decide (Go.Sort.scanSorted (ltD d) D b (a + 1) = b) := decide_eq_decide.2 (by omega)
    rw [this]
    cases decide (Go.Sort.scanSorted (ltD d) D b (a + 1) = b) <;> rfl
  rw [hrun]
  by_cases h : Go.Sort.scanSorted (ltD d) D b (a + 1) = b
  · rw [if_pos h, decide_eq_true h]; exact ⟨rfl, rfl⟩
  · rw [if_neg h, if_pos h50, decide_eq_false h]; exact ⟨rfl, rfl⟩
end Go.Ph
namespace Go.Ph
open Go.Proofs
def SortOk : Prop := ∀ (d : Member → Nat) (xs : List Member), xs.length ≤ 16 → ∃ t, sl_SortFunc_Member xs ⟨fun x y => some (cmpN (d x) (d y))⟩ = some t ∧ t.Perm xs ∧ ∀ i j (hij : i < j) (hj : j < t.length), d (t[i]'(by omega)) ≤ d t[j]
/-! ### What a right ring is -/
def Apart (x y : Member) : Prop := x.no ≠ y.no ∧ x.id ≠ y.id
theorem rng_pw : ∀ {r pre : List Member}, rngB pre r = true → (∀ z ∈ r, ∀ y ∈ pre, Apart y z) ∧ r.Pairwise Apart
  | [], _, _ => ⟨fun _ h => (by cases h), List.Pairwise.nil⟩
  | x :: r, pre, h => by
    rw [rngB.eq_2] at h
    simp only [Bool.and_eq_true, Bool.not_eq_true'] at h
    obtain ⟨h1, h2⟩ := rng_pw h.2
    have hx : ∀ y ∈ pre, Apart y x := fun y hy => by
      have := List.any_eq_false.1 h.1.2 y hy
      simp only [Bool.or_eq_true, decide_eq_true_eq, not_or] at this
      exact this
    refine ⟨fun z hz y hy => ?_, List.Pairwise.cons (fun z hz => h1 z hz x (by simp)) h2⟩
    rcases List.mem_cons.1 hz with e | e
    · subst e; exact hx y hy
    · exact h1 z e y (by simp [hy])
theorem pw_or {l : List Member} (h : l.Pairwise Apart) : ∀ x ∈ l, ∀ y ∈ l, x = y ∨ Apart x y := by
  induction h with
  | nil => intro x hx; cases hx
  | cons hd _ ih =>
    intro x hx y hy
    rcases List.mem_cons.1 hx with e | e <;> rcases List.mem_cons.1 hy with e2 | e2
    · exact .inl (by rw [e, e2])
    · subst e; exact .inr (hd y e2)
    · subst e2; have := hd x e; exact .inr ⟨this.1.symm, this.2.symm⟩
    · exact ih x e y e2
theorem ring_facts {ms : List Member} (h : ringB ms = true) : ms.length ≤ 16 ∧ ms.Pairwise Apart ∧ ∀ m ∈ ms, 0 ≤ m.no := by
  unfold ringB at h
  simp only [Bool.and_eq_true, decide_eq_true_eq] at h
  exact ⟨h.2, (rng_pw h.1).2, fun m hm => (rng_no (xs := []) h.1 m hm).1⟩
theorem pw_nodup {l : List Member} (h : l.Pairwise Apart) : l.Nodup := h.imp fun {a b} hab e => hab.1 (by rw [e])
theorem idxM_at {p : Member → Bool} : ∀ (xs : List Member) (i : Nat), xs.any p = true → ∃ k, ∃ (hk : k < xs.length), idxM p xs i = ((i + k : Nat) : Int) ∧ p xs[k] = true
  | [], _, h => by cases h
  | x :: xs, i, h => by
    unfold idxM
    by_cases hp : p x = true
    · exact ⟨0, by simp, by rw [hp]; rfl, hp⟩
    · have hp' : p x = false := by simpa using hp
      rw [List.any_cons, hp', Bool.false_or] at h
      obtain ⟨k, hk, h1, h2⟩ := idxM_at xs (i + 1) h
      refine ⟨k + 1, by simpa using hk, ?_, by simpa using h2⟩
      rw [hp', cond_false, h1]
      congr 1; omega
theorem dst_lt {a b : Nat} (ha : a < M) (hb : b < M) : dst a b < M := by unfold dst; split <;> omega
theorem dst_inj {a x y : Nat} (ha : a < M) (hx : x < M) (hy : y < M) (h : dst a x = dst a y) : x = y := by unfold dst at h; split at h <;> split at h <;> omega
theorem dst_self (a : Nat) : dst a a = 0 := by unfold dst; rw [if_pos (Nat.le_refl _)]; omega
theorem dst_nxt {vo vt vb vn a : Nat} (ho : vo < M) (ht : vt < M) (hb : vb < M) (hn : vn < M) (ha : a = (vt + 1) % M) (h1 : dst vo vt < dst vo vn) (h2 : dst vo vb ≤ dst vo vt ∨ dst vo vn < dst vo vb) : dst a vn < dst a vb := by
  have ha' : (vt + 1 < M ∧ a = vt + 1) ∨ (vt + 1 = M ∧ a = 0) := by
    rcases Nat.lt_or_ge (vt + 1) M with h | h
    · exact .inl ⟨h, by rw [ha, Nat.mod_eq_of_lt h]⟩
    · have : vt + 1 = M := by omega
      exact .inr ⟨this, by rw [ha, this, Nat.mod_self]⟩
  clear ha
  unfold dst at *
  rcases ha' with ⟨h3, rfl⟩ | ⟨h3, rfl⟩
  all_goals (split at h1 <;> split at h1 <;> split at h2 <;> split <;> split <;> omega)
/-! ### The ring, turned -/
/-- The members, from o on. -/
structure Turned (ms : List Member) (o : Member) (t : List Member) : Prop where
  perm : t.Perm ms
  pos : 0 < t.length
  head : ∀ h, t[0]'h = o
  lt : ∀ i j (hij : i < j) (hj : j < t.length), dM o.id (t[i]'(by omega)) < dM o.id t[j]
theorem turned_of (hs : SortOk) {ms : List Member} (hr : ringB ms = true) {o : Member} (ho : o ∈ ms) : ∃ t, ring_turned ms o.no = some (t, 0) ∧ Turned ms o t := by
  obtain ⟨hl, hpw, hno⟩ := ring_facts hr
  obtain ⟨k, hk, h1, h2⟩ := idxM_at (p := fun x => decide (x.no = o.no)) ms 0 (List.any_eq_true.2 ⟨o, ho, by simp⟩)
  have hko : ms[k] = o := by
    rcases pw_or hpw _ (List.getElem_mem hk) _ ho with e | e
    · exact e
    · exact absurd (of_decide_eq_true h2) e.1
  obtain ⟨t, ht, hp, hsrt⟩ := hs (dM o.id) ms hl
  have hft : (⟨fun x => ring_turned_1 x o.no⟩ : Fn1 Member Bool) = ⟨fun x => some (decide (x.no = o.no))⟩ := rfl
  have hcol : ∀ xs : List Member, xs.length ≤ 16 → sl_Collect_Member ⟨xs, true⟩ = some xs := fun xs hx => by
    have hA : ∀ (ys acc : List Member), acc.length + ys.length ≤ 16 → sl_AppendSeq_Member_l0 true ys acc = some (acc ++ ys) := fun ys => by
      induction ys with
      | nil => intro acc _; simp [sl_AppendSeq_Member_l0]
      | cons y ys ih =>
        intro acc h
        rw [List.length_cons] at h
        rw [sl_AppendSeq_Member_l0.eq_2, app_le (by simp; omega), Option.bind_some, ih _ (by simp; omega)]
        simp
    unfold sl_Collect_Member sl_AppendSeq_Member
    rw [hA xs [] (by simpa using hx)]; rfl
  have hrun : ring_turned ms o.no = some (t, 0) := by
    unfold ring_turned
    rw [ring_Right_eq, hr, Option.bind_some]
    simp only [Bool.not_true, cond_false]
    rw [hft, indexM, Option.bind_some, h1, decide_eq_false (by omega), cond_false, values_eq, Option.bind_some, Nat.zero_add, ix_nat hk, Option.bind_some, hko, ring_from_eq, Option.bind_some]
    unfold sl_SortedFunc_Member
    rw [hcol ms hl, Option.bind_some, ht]; rfl
  have hnd : t.Nodup := hp.nodup_iff.2 (pw_nodup hpw)
  have hot : o ∈ t := hp.mem_iff.2 ho
  have hpos : 0 < t.length := List.length_pos_of_mem hot
  have hlt : ∀ i j (hij : i < j) (hj : j < t.length), dM o.id (t[i]'(by omega)) < dM o.id t[j] := fun i j hij hj => by
    have hle := hsrt i j hij hj
    rcases Nat.lt_or_ge (dM o.id (t[i]'(by omega))) (dM o.id t[j]) with h | h
    · exact h
    · have e := dst_inj (val_lt _) (val_lt _) (val_lt _) (Nat.le_antisymm hle h)
      have e2 := val_inj e
      have hi := hp.mem_iff.1 (List.getElem_mem (l := t) (n := i) (by omega))
      have hj' := hp.mem_iff.1 (List.getElem_mem hj)
      rcases pw_or hpw _ hi _ hj' with q | q
      · exact absurd q ((List.pairwise_iff_getElem.1 hnd) i j (by omega) hj hij)
      · exact absurd e2 q.2
  refine ⟨t, hrun, hp, hpos, fun h0 => ?_, hlt⟩
  obtain ⟨j, hj, he⟩ := List.getElem_of_mem hot
  rcases Nat.eq_zero_or_pos j with h | h
  · subst h; exact he
  · have := hlt 0 j h hj
    rw [he] at this
    unfold dM at this
    rw [dst_self] at this; omega
theorem next_of {ms t : List Member} {o : Member} (hr : ringB ms = true) (ht : Turned ms o t) {j : Nat} (hj : j + 1 < t.length) : r07_Next ms (t[j]'(by omega)) = some t[j + 1] := by
  obtain ⟨hl, hpw, hno⟩ := ring_facts hr
  obtain ⟨a, h1, e1⟩ := r01_Add_eq (t[j]'(by omega)).id (vput (Id.zero : Id) 31 1)
  rw [val_one] at e1
  unfold r07_Next
  rw [r01_Power_0, Option.bind_some, h1, Option.bind_some]
  match ms, hr, ht, hno with
  | [], _, ht, _ => exact absurd (ht.perm.length_eq ▸ ht.pos) (by simp)
  | x :: xs, hr, ht, hno =>
    rw [r07_Owner_eq a hno, Option.bind_some]
    congr 1
    have hb := best_mem (d := dM a) (xs := xs) (m := x)
    have hle := best_le (d := dM a) (xs := xs) (m := x) t[j + 1] (ht.perm.mem_iff.1 (List.getElem_mem hj))
    generalize best (dM a) x xs = b at hb hle
    obtain ⟨i, hi, rfl⟩ := List.getElem_of_mem (ht.perm.mem_iff.2 hb)
    by_cases hij : i = j + 1
    · subst hij; rfl
    · exfalso
      have := dst_nxt (vo := val o.id) (vt := val (t[j]'(by omega)).id) (vb := val t[i].id) (vn := val t[j + 1].id) (val_lt _) (val_lt _) (val_lt _) (val_lt _) e1 (ht.lt j (j + 1) (by omega) hj) (by
        rcases Nat.lt_or_ge (j + 1) i with h | h
        · exact .inr (ht.lt (j + 1) i h hi)
        · left
          rcases Nat.lt_or_ge i j with h2 | h2
          · exact Nat.le_of_lt (ht.lt i j h2 (by omega))
          · have : i = j := by omega
            subst this; exact Nat.le_refl _)
      unfold dM at hle
      omega
theorem after_l {ms t : List Member} {o : Member} (hr : ringB ms = true) (ht : Turned ms o t) (n : Nat) (hn : n < t.length) : ∀ (k i : Nat) (acc : List Member) (fuel : Nat) (hi : i < t.length), i + k = n → acc.length + k ≤ 1000 → k < fuel →
    ∃ m, r07_After_l0 (n : Int) ms fuel (t[i], acc, (i : Int)) = some (m, acc ++ (t.drop (i + 1)).take k, (n : Int))
  | 0, i, acc, fuel, hi, h, _, hf => by
    obtain ⟨f, rfl⟩ : ∃ f, fuel = f + 1 := ⟨fuel - 1, by omega⟩
    refine ⟨t[i], ?_⟩
    rw [r07_After_l0.eq_2]
    dsimp only
    rw [decide_eq_false (by omega), cond_false]
    have : (i : Int) = (n : Int) := by omega
    rw [this]; simp
  | k + 1, i, acc, fuel, hi, h, ha, hf => by
    obtain ⟨f, rfl⟩ : ∃ f, fuel = f + 1 := ⟨fuel - 1, by omega⟩
    have hi1 : i + 1 < t.length := by omega
    have hlen := ht.perm.length_eq
    have hl := (ring_facts hr).1
    obtain ⟨m, hm⟩ := after_l hr ht n hn k (i + 1) (acc ++ [t[i + 1]]) f hi1 (by omega) (by simp; omega) (by omega)
    refine ⟨m, ?_⟩
    rw [r07_After_l0.eq_2]
    dsimp only
    have ew : w64 ((i : Int) + 1) = ((i + 1 : Nat) : Int) := by rw [w64_eq (by omega)]; rfl
    rw [decide_eq_true (by omega), cond_true, next_of hr ht hi1, Option.bind_some, app_le (by simp; omega), Option.bind_some, ew, hm]
    have hd : t.drop (i + 1) = t[i + 1] :: t.drop (i + 1 + 1) := List.drop_eq_getElem_cons hi1
    rw [hd, List.take_succ_cons]
    simp
theorem r07_After_eq {ms t : List Member} {o : Member} (hr : ringB ms = true) (ht : Turned ms o t) {n : Nat} (hn : n < t.length) : r07_After ms o (n : Int) = some ((t.drop 1).take n) := by
  have hlen := ht.perm.length_eq
  have hl := (ring_facts hr).1
  obtain ⟨m, hm⟩ := after_l hr ht n hn n 0 [] FUEL ht.pos (by omega) (by simp; omega) (by have := fuel_big; omega)
  rw [ht.head] at hm
  have hm' : r07_After_l0 (n : Int) ms FUEL (o, ([] : List Member), 0) = _ := hm
  unfold r07_After
  rw [hm']
  simp
theorem ring_after_l {t : List Member} : ∀ (k i : Nat) (acc : List Member), i + k < t.length → acc.length + k ≤ 1000 → t.length ≤ 16 → ring_After_l0 (t, 0) k i acc = some (acc ++ (t.drop (i + 1)).take k)
  | 0, _, acc, _, _, _ => by simp [ring_After_l0]
  | k + 1, i, acc, h, ha, hl => by
    have hi1 : i + 1 < t.length := by omega
    have hd : t.drop (i + 1) = t[i + 1] :: t.drop (i + 1 + 1) := List.drop_eq_getElem_cons hi1
    have hm : drem ((i + 1 : Nat) : Int) (t.length : Int) = some ((i + 1 : Nat) : Int) := by
      unfold drem
      rw [if_neg (by omega)]
      have : Int.tmod ((i + 1 : Nat) : Int) (t.length : Int) = (((i + 1) % t.length : Nat) : Int) := rfl
      rw [this, Nat.mod_eq_of_lt hi1]
    rw [ring_After_l0.eq_2]
    dsimp only
    rw [hm, Option.bind_some, ix_nat hi1, Option.bind_some, app_le (by simp; omega), Option.bind_some, ring_after_l k (i + 1) _ (by omega) (by simp; omega) hl, hd, List.take_succ_cons]
    simp
theorem ring_After_eq (hs : SortOk) {ms : List Member} (hr : ringB ms = true) {o : Member} (ho : o ∈ ms) {n : Nat} (hn : n < ms.length) : ∃ xs, ring_After ms o.no (n : Int) = some (xs, 0) ∧ r07_After ms o (n : Int) = some xs ∧ xs.length ≤ 16 := by
  obtain ⟨t, h1, ht⟩ := turned_of hs hr ho
  have hlen := ht.perm.length_eq
  have hl := (ring_facts hr).1
  refine ⟨(t.drop 1).take n, ?_, r07_After_eq hr ht (by omega), by rw [List.length_take, List.length_drop]; omega⟩
  unfold ring_After
  rw [decide_eq_false (by omega), decide_eq_false (by omega), Bool.or_self, cond_false, h1, Option.bind_some]
  simp only [decide_true, Bool.not_true, cond_false]
  have := ring_after_l (t := t) n 0 [] (by omega) (by simp; omega) (by omega)
  have e : (n : Int).toNat = n := rfl
  rw [e, this]; simp
theorem same_l (xs : List Member) : ∀ (r pre : List Member), xs = pre ++ r → (r07_Same_l0 xs r pre.length ()).bind (fun o4 => match o4 with | .ret q => some q | .fall _ => some true) = some true
  | [], _, _ => rfl
  | x :: r, pre, h => by
    have hi : ix xs (pre.length : Int) = some x := by
      unfold ix; rw [if_pos (by omega), h]; simp
    have ih := same_l xs r (pre ++ [x]) (by rw [h]; simp)
    rw [List.length_append, List.length_singleton] at ih
    rw [r07_Same_l0.eq_2, hi]
    simpa using ih
theorem same_refl (xs : List Member) : r07_Same xs xs = some true := by
  unfold r07_Same
  rw [decide_eq_true rfl]
  exact same_l xs xs [] rfl
theorem keeps_law (hs : SortOk) (a0 : Overlay) (a1 : Id) (a2 : Int) (hb : -9223372036854775808 ≤ a2 ∧ a2 ≤ 9223372036854775807) : law11_LookupKeeps a0 a1 a2 = some true := by
  obtain ⟨o, hf, hn, hsm⟩ := few_eq a0
  have hcr := chord_Right_eq hn hsm
  have hrr := r10_Right_eq hn hsm
  unfold law11_LookupKeeps
  rw [hf, Option.bind_some]
  by_cases hbad : ((!rightB o || decide (a2 < 1)) || decide (4 < a2)) = true
  · have hk : lookup_Keeps o a1 a2 = some (([] : List Member), 1) := by
      unfold lookup_Keeps
      rw [hcr, Option.bind_some, hbad, cond_true]
    rw [hk, Option.bind_some, hrr, Option.bind_some, hbad, cond_true, alive_true]
    rfl
  have hbad' : ((!rightB o || decide (a2 < 1)) || decide (4 < a2)) = false := by simpa using hbad
  have hgood := hbad'
  simp only [Bool.or_eq_false_iff, Bool.not_eq_false', decide_eq_false_iff_not] at hgood
  obtain ⟨⟨hrt, h1⟩, h4⟩ := hgood
  have hring : ringB (o.nodes.map (·.self)) = true := by
    unfold rightB at hrt
    simp only [Bool.and_eq_true] at hrt
    exact hrt.2
  have hmem := chord_Members_eq hn
  by_cases hz : o.nodes.length = 0
  · have hnil : o.nodes = [] := List.eq_nil_of_length_eq_zero hz
    have hk : lookup_Keeps o a1 a2 = some (([] : List Member), 6) := by
      unfold lookup_Keeps
      rw [hcr, Option.bind_some, hbad', cond_false, hmem, Option.bind_some, hnil]
      rfl
    rw [hk, Option.bind_some, hrr, Option.bind_some, hbad', cond_false, decide_eq_true (by omega), cond_true, alive_true]
    rfl
  have hlen : (o.nodes.map (·.self)).length = o.nodes.length := by simp
  generalize hms : o.nodes.map (·.self) = ms at hring hmem hlen
  obtain ⟨hl16, hpw, hno⟩ := ring_facts hring
  match ms, hms, hring, hmem, hlen, hl16, hpw, hno with
  | [], _, _, _, hlen, _, _, _ => exact absurd hlen.symm hz
  | x :: xs, hms, hring, hmem, hlen, hl16, hpw, hno =>
    have hown := ring_Owner_eq a1 hring
    have hown7 := r07_Owner_eq a1 hno
    have hbm := best_mem (d := dM a1) (xs := xs) (m := x)
    generalize best (dM a1) x xs = b at hown hown7 hbm
    have hpos : 0 < (x :: xs).length := by simp
    obtain ⟨k, hk⟩ : ∃ k : Nat, a2 = (k : Int) := ⟨a2.toNat, by omega⟩
    have hmin : imin a2 ((x :: xs).length : Int) = ((min k (x :: xs).length : Nat) : Int) := by
      unfold imin; split <;> omega
    have hn1 : w64 ((imin a2 ((x :: xs).length : Int)) - 1) = ((min k (x :: xs).length - 1 : Nat) : Int) := by
      rw [hmin, w64_eq (by omega)]; omega
    obtain ⟨ys, hA, hA7, hys⟩ := ring_After_eq hs hring hbm (n := min k (x :: xs).length - 1) (by omega)
    have hk : lookup_Keeps o a1 a2 = some (b :: ys, 0) := by
      unfold lookup_Keeps
      rw [hcr, Option.bind_some, hbad', cond_false, hmem, Option.bind_some, hown, Option.bind_some]
      simp only [decide_true, Bool.not_true, cond_false]
      rw [hn1, hA, Option.bind_some]
      simp only [decide_true, Bool.not_true, cond_false]
      rw [app_le (by simp; omega)]; rfl
    have hk11 : r11_Keeps o a1 a2 = some (b :: ys) := by
      unfold r11_Keeps
      rw [r10_Members_eq hn, hms, Option.bind_some]
      have hs2 : (bif (decide (((x :: xs).length : Int) < a2)) then some (((x :: xs).length : Nat) : Int) else some a2) = some ((min k (x :: xs).length : Nat) : Int) := by
        by_cases h : ((x :: xs).length : Int) < a2
        · rw [decide_eq_true h, cond_true]; congr 1; omega
        · rw [decide_eq_false h, cond_false]; congr 1; omega
      have hn2 : w64 (((min k (x :: xs).length : Nat) : Int) - 1) = ((min k (x :: xs).length - 1 : Nat) : Int) := by rw [w64_eq (by omega)]; omega
      rw [hs2, Option.bind_some, hown7, Option.bind_some, hn2, hA7, Option.bind_some, app_le (by simp; omega)]; rfl
    rw [hk, Option.bind_some, hrr, Option.bind_some, hbad', cond_false, decide_eq_false (by omega), cond_false, alive_true, Option.bind_some, hk11]
    simp only [decide_true, Bool.and_self, cond_true, Option.bind_some, same_refl]
end Go.Ph
namespace Go.Ph
open Go.Proofs
open Go.Sort (swp size_swp PermIn SortedIn permIn_refl permIn_trans swp_permIn)
variable {d : Member → Nat}
def outP (o : Lo (List Member) ((List Member) × Int × Int × Int × Bool × Bool)) : Option (List Member) := match o with | .ret q => some q | .fall s1 => some s1.1
theorem pdq_main : ∀ (n : Nat) (K fuel : Nat) (D : Array Member) (a b lim : Nat) (wb wp : Bool), n ≤ 100 → b - a ≤ n → n < fuel → n ≤ K → a ≤ b → b ≤ D.size → D.size ≤ 49 → lim ≤ 1000 → Go.Sort.Below (ltD d) a b D →
    ∃ D' : Array Member, (sl_pdqsortCmpFunc_Member_l0 (cF d) (sl_pdqsortCmpFunc_Member_f K) fuel (D.toList, (a : Int), (b : Int), (lim : Int), wb, wp)).bind outP = some D'.toList ∧ PermIn a b D D' ∧ SortedIn (ltD d) a b D' := by
  intro n
  induction n with
  | zero =>
    intro K fuel D a b lim wb wp hn100 h hf hK hab hb hs hl hB
    obtain ⟨f, rfl⟩ : ∃ f, fuel = f + 1 := ⟨fuel - 1, by omega⟩
    have e2 : w64 ((b : Int) - (a : Int)) = ((b - a : Nat) : Int) := by rw [w64_eq (by omega)]; omega
    rw [sl_pdqsortCmpFunc_Member_l0.eq_2]
    dsimp only
    rw [e2, decide_eq_true (by omega), cond_true, insertion_eq hab hb (by omega)]
    obtain ⟨h1, h2⟩ := Go.Sort.insertionSort_holds (swo d) D a b hab hb
    exact ⟨_, rfl, h1, h2⟩
  | succ n ih =>
    intro K fuel D a b lim wb wp hn100 h hf hK hab hb hs hl hB
    obtain ⟨f, rfl⟩ : ∃ f, fuel = f + 1 := ⟨fuel - 1, by omega⟩
    have e2 : w64 ((b : Int) - (a : Int)) = ((b - a : Nat) : Int) := by rw [w64_eq (by omega)]; omega
    rw [sl_pdqsortCmpFunc_Member_l0.eq_2]
    dsimp only
    rw [e2]
    by_cases h12 : b - a ≤ 12
    · rw [decide_eq_true (by omega), cond_true, insertion_eq hab hb (by omega)]
      obtain ⟨h1, h2⟩ := Go.Sort.insertionSort_holds (swo d) D a b hab hb
      exact ⟨_, rfl, h1, h2⟩
    rw [decide_eq_false (by omega), cond_false]
    by_cases h0 : lim = 0
    · subst h0
      rw [decide_eq_true (by rfl), cond_true, heap_eq (by omega) hb (by omega)]
      obtain ⟨h1, h2⟩ := Go.Sort.heapSort_holds (swo d) D a b hab hb
      exact ⟨_, rfl, h1, h2⟩
    rw [decide_eq_false (by omega), cond_false]
    -- the patterns
    obtain ⟨D1, l1, g1, P1, hl1⟩ : ∃ (D1 : Array Member) (l1 : Nat), ((bif !wb then (sl_breakPatternsCmpFunc_Member D.toList (a : Int) (b : Int) (cF d)).bind fun t14 => some (t14, w64 ((lim : Int) - 1)) else some (D.toList, (lim : Int))) : Option ((List Member) × Int)) = some (D1.toList, (l1 : Int)) ∧ PermIn a b D D1 ∧ l1 ≤ 1000 := by
      cases wb with
      | true => exact ⟨D, lim, rfl, permIn_refl D a b, hl⟩
      | false =>
        obtain ⟨D1, r1, r2⟩ := break_eq (d := d) (D := D) (a := a) (b := b) (by omega) (by omega) hb (by omega)
        refine ⟨D1, lim - 1, ?_, r2, by omega⟩
        rw [Bool.not_false, cond_true, r1, Option.bind_some, w64m (by omega) (by omega)]
    rw [g1, Option.bind_some]
    dsimp only
    have z1 : D1.size = D.size := P1.1
    obtain ⟨p, hint, g2, hp1, hp2⟩ := choose_eq (d := d) (D := D1) (a := a) (b := b) (by omega) (by omega) (by omega) (by omega)
    rw [g2, Option.bind_some]
    dsimp only
    -- reversed
    obtain ⟨D2, p2, h2, g3, P2, hq1, hq2⟩ : ∃ (D2 : Array Member) (p2 : Nat) (h2 : Int), ((bif decide (hint = 2) then (sl_reverseRangeCmpFunc_Member D1.toList (a : Int) (b : Int) (cF d)).bind fun t20 => some (t20, w64 ((w64 ((b : Int) - 1)) - (w64 ((p : Int) - (a : Int)))), (1 : Int)) else some (D1.toList, (p : Int), hint)) : Option ((List Member) × Int × Int)) = some (D2.toList, (p2 : Int), h2) ∧ PermIn a b D1 D2 ∧ a ≤ p2 ∧ p2 < b := by
      cases decide (hint = 2) with
      | false => exact ⟨D1, p, hint, rfl, permIn_refl D1 a b, hp1, hp2⟩
      | true =>
        obtain ⟨D2, r1, r2⟩ := reverse_eq (d := d) (D := D1) (a := a) (b := b) (by omega) (by omega) (by omega)
        refine ⟨D2, (b - 1) - (p - a), 1, ?_, r2, by omega, by omega⟩
        have e4 : w64 ((p : Int) - (a : Int)) = ((p - a : Nat) : Int) := by rw [w64_eq (by omega)]; omega
        have e5 : w64 (((b - 1 : Nat) : Int) - ((p - a : Nat) : Int)) = (((b - 1) - (p - a) : Nat) : Int) := by rw [w64_eq (by omega)]; omega
        rw [cond_true, r1, Option.bind_some, w64m (by omega) (by omega), e4, e5]
    rw [g3, Option.bind_some]
    dsimp only
    have z2 : D2.size = D.size := P2.1.trans z1
    have B1 := hB.perm hb P1
    have B2 := B1.perm (by omega) P2
    have P12 : PermIn a b D D2 := permIn_trans _ _ _ a b P1 P2
    -- sorted already, or nearly
    obtain ⟨bl, g4, hbl⟩ : ∃ bl : Bool, ((bif (wb && wp) && decide (h2 = 1) then (sl_partialInsertionSortCmpFunc_Member D2.toList (a : Int) (b : Int) (cF d)).bind fun t28 => (bif t28.1 then some (.ret t28.2) else some (.fall t28.2)) else some (.fall D2.toList)) : Option (Lo (List Member) ((List Member)))) = some (bif bl then .ret D2.toList else .fall D2.toList) ∧ (bl = true → SortedIn (ltD d) a b D2) := by
      cases (wb && wp) && decide (h2 = 1) with
      | false => exact ⟨false, rfl, fun h => by cases h⟩
      | true =>
        obtain ⟨r1, r2⟩ := partial_eq (d := d) (D := D2) (a := a) (b := b) (by omega) (by omega) (by omega) (by omega)
        refine ⟨(Go.Sort.partialInsertionSort (ltD d) D2 a b).2, ?_, fun hb' => ?_⟩
        · rw [cond_true, r1, Option.bind_some]
          cases (Go.Sort.partialInsertionSort (ltD d) D2 a b).2 <;> rfl
        · have := (Go.Sort.partialInsertionSort_holds (swo d) D2 a b (by omega) (by omega) B2).2 hb'
          rwa [r2] at this
    rw [g4, Option.bind_some]
    cases bl with
    | true => exact ⟨D2, rfl, P12, hbl rfl⟩
    | false =>
    simp only [cond_false]
    -- the test against what lies to the left
    have htest : ∀ (X Y : Option (Lo (List Member) ((List Member) × Int × Int × Int × Bool × Bool))), (((bif (decide ((0 : Int) < (a : Int))) then (ix D2.toList (w64 ((a : Int) - 1))).bind fun t35 => (ix D2.toList (p2 : Int)).bind fun t36 => ((cF d).f t35 t36).bind fun t37 => some (!(decide (t37 < 0))) else some false)).bind fun t34 => bif t34 then X else Y) = bif decide (0 < a) && !ltD d D2[a - 1]! D2[p2]! then X else Y := fun X Y => by
      by_cases ha : 0 < a
      · rw [decide_eq_true (by omega), decide_eq_true ha, cond_true, w64m ha (by omega), ixA (D := D2) (i := a - 1) (by omega), ixA (D := D2) (i := p2) (by omega)]
        unfold cF ltD
        simp only [Option.bind_some, cmpN_neg, Bool.true_and]
      · rw [decide_eq_false (by omega), decide_eq_false ha]; rfl
    rw [htest]
    cases hc : decide (0 < a) && !ltD d D2[a - 1]! D2[p2]! with
    | true =>
      rw [cond_true, partitionEqual_eq hq1 hq2 (by omega) (by omega), Option.bind_some]
      dsimp only
      simp only [Bool.and_eq_true, decide_eq_true_eq, Bool.not_eq_true'] at hc
      obtain ⟨m1, m2, m3, m4, m5⟩ := Go.Sort.round_eq (swo d) (Go.Sort.partitionEqual_holds (ltD d)) (d4 := (Go.Sort.partitionEqual (ltD d) D2 a b p2).2) (mid := (Go.Sort.partitionEqual (ltD d) D2 a b p2).1) hc.1 hq1 hq2 (by omega) B2 hc.2 rfl
      generalize Go.Sort.partitionEqual (ltD d) D2 a b p2 = R at m1 m2 m3 m4 m5 ⊢
      obtain ⟨D', r1, r2, r3⟩ := ih K f R.2 R.1 b l1 wb wp (by omega) (by omega) (by omega) (by omega) m2 (by omega) (by omega) hl1 m4
      obtain ⟨q1, q2⟩ := m5 D' r2 r3
      exact ⟨D', r1, permIn_trans _ _ _ a b P12 q1, q2⟩
    | false =>
      rw [cond_false, partition_eq hq1 hq2 (by omega) (by omega), Option.bind_some]
      dsimp only
      obtain ⟨m1, m2, m3, m4, m5, m6, m7⟩ := Go.Sort.round_part (swo d) (Go.Sort.partition_holds (ltD d)) (d4 := (Go.Sort.partition (ltD d) D2 a b p2).2.2) (mid := (Go.Sort.partition (ltD d) D2 a b p2).1) (ap := (Go.Sort.partition (ltD d) D2 a b p2).2.1) hq1 hq2 (by omega) B2 rfl
      generalize Go.Sort.partition (ltD d) D2 a b p2 = R at m1 m2 m3 m4 m5 m6 m7 ⊢
      obtain ⟨K', rfl⟩ : ∃ K', K = K' + 1 := ⟨K - 1, by omega⟩
      have e6 : w64 ((R.1 : Int) - (a : Int)) = ((R.1 - a : Nat) : Int) := by rw [w64_eq (by omega)]; omega
      have e7 : w64 ((b : Int) - (R.1 : Int)) = ((b - R.1 : Nat) : Int) := by rw [w64_eq (by omega)]; omega
      rw [e6, e7, w64p (by omega)]
      by_cases hlt : R.1 - a < b - R.1
      · rw [decide_eq_true (by omega), cond_true]
        obtain ⟨L, s1, s2, s3⟩ := ih K' FUEL R.2.2 a R.1 l1 true true (by omega) (by omega) (by have := fuel_big; omega) (by omega) m1 (by omega) (by omega) hl1 m4
        have hk : sl_pdqsortCmpFunc_Member_f (K' + 1) R.2.2.toList (a : Int) (R.1 : Int) (l1 : Int) (cF d) = some L.toList := s1
        rw [hk, Option.bind_some]
        obtain ⟨BL, fin⟩ := m6 L s2 s3
        have zL : L.size = R.2.2.size := s2.1
        obtain ⟨D', r1, r2, r3⟩ := ih (K' + 1) f L (R.1 + 1) b l1 (decide ((w64 (Int.tdiv ((b - a : Nat) : Int) 8)) ≤ ((R.1 - a : Nat) : Int))) R.2.1 (by omega) (by omega) (by omega) (by omega) (by omega) (by omega) (by omega) hl1 BL
        obtain ⟨q1, q2⟩ := fin D' r2 r3
        exact ⟨D', r1, permIn_trans _ _ _ a b P12 q1, q2⟩
      · rw [decide_eq_false (by omega), cond_false]
        obtain ⟨L, s1, s2, s3⟩ := ih K' FUEL R.2.2 (R.1 + 1) b l1 true true (by omega) (by omega) (by have := fuel_big; omega) (by omega) (by omega) (by omega) (by omega) hl1 m5
        have hk : sl_pdqsortCmpFunc_Member_f (K' + 1) R.2.2.toList ((R.1 + 1 : Nat) : Int) (b : Int) (l1 : Int) (cF d) = some L.toList := s1
        rw [hk, Option.bind_some]
        obtain ⟨BL, fin⟩ := m7 L s2 s3
        have zL : L.size = R.2.2.size := s2.1
        obtain ⟨D', r1, r2, r3⟩ := ih (K' + 1) f L a R.1 l1 (decide ((w64 (Int.tdiv ((b - a : Nat) : Int) 8)) ≤ ((b - R.1 : Nat) : Int))) R.2.1 (by omega) (by omega) (by omega) (by omega) m1 (by omega) (by omega) hl1 BL
        obtain ⟨q1, q2⟩ := fin D' r2 r3
        exact ⟨D', r1, permIn_trans _ _ _ a b P12 q1, q2⟩
theorem len_small : ∀ n : Nat, n < 50 → (math_bits_Len (toU64 (n : Int))).any (fun t => decide (0 ≤ t) && decide (t ≤ 1000)) = true := by decide
theorem sortOk : SortOk := fun d xs hl => by
  have hlen := len_small xs.length (by omega)
  cases ht : math_bits_Len (toU64 (xs.length : Int)) with
  | none => rw [ht] at hlen; cases hlen
  | some t =>
    rw [ht] at hlen
    simp only [Option.any_some, Bool.and_eq_true, decide_eq_true_eq] at hlen
    obtain ⟨lim, rfl⟩ : ∃ lim : Nat, t = (lim : Int) := ⟨t.toNat, by omega⟩
    obtain ⟨K, hK⟩ : ∃ K, FUEL = K + 1 := ⟨FUEL - 1, by have := fuel_big; omega⟩
    obtain ⟨D', r1, r2, r3⟩ := pdq_main (d := d) xs.length K FUEL xs.toArray 0 xs.length lim true true (by omega) (by omega) (by have := fuel_big; omega) (by have := fuel_big; omega) (by omega) (by simp) (by simpa using (by omega : xs.length ≤ 49)) (by omega) (.inl rfl)
    refine ⟨D'.toList, ?_, ?_, fun i j hij hj => ?_⟩
    · unfold sl_SortFunc_Member
      rw [ht, Option.bind_some]
      have : sl_pdqsortCmpFunc_Member xs 0 (xs.length : Int) (lim : Int) ⟨fun x y => some (cmpN (d x) (d y))⟩ = some D'.toList := by
        unfold sl_pdqsortCmpFunc_Member
        rw [hK]
        exact r1
      rw [this]; rfl
    · have hz : D'.size = xs.length := by rw [r2.1]; simp
      have := r2.2.2
      rw [Array.toList_extract, Array.toList_extract] at this
      have e1 : D'.toList.take xs.length = D'.toList := List.take_of_length_le (by simp [hz])
      simpa [List.extract, e1] using this
    · have hz : D'.size = xs.length := by rw [r2.1]; simp
      have hjs : j < D'.size := by simpa using hj
      have := r3 i j (by omega) hij (by omega)
      unfold ltD at this
      simp only [decide_eq_false_iff_not] at this
      rw [getElem!_pos D' j hjs, getElem!_pos D' i (by omega)] at this
      simp only [Array.getElem_toList]
      omega
theorem keeps_true (a0 : Overlay) (a1 : Id) (a2 : Int) (hb : -9223372036854775808 ≤ a2 ∧ a2 ≤ 9223372036854775807) : law11_LookupKeeps a0 a1 a2 = some true := keeps_law sortOk a0 a1 a2 hb
end Go.Ph
