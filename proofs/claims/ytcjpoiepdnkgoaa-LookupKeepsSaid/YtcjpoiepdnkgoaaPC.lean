/- WHAT IS PROVED: part of the proof that posthouselaw11.LookupKeeps returns true at every input and leaves its arguments alone. CONDITIONS: none beyond the row. -/
import Derived.Test.YtcjpoiepdnkgoaaBaseA
import Derived.Test.YtcjpoiepdnkgoaaPA
import Derived.Test.YtcjpoiepdnkgoaaPB
set_option maxRecDepth 4000
set_option maxHeartbeats 4000000
namespace Go.Ph
open Go.Proofs
def sl_pdqsortCmpFunc_Member_l0 (a4 : (Fn2 Member Member Int)) (k0 : ((List Member) → Int → Int → Int → (Fn2 Member Member Int) → Option (List Member))) : Nat → (List Member) × Int × Int × Int × Bool × Bool → Option (Lo (List Member) ((List Member) × Int × Int × Int × Bool × Bool))
  | 0, _ => none
  | ks1 + 1, s1 => (bif (decide ((w64 (s1.2.2.1 - s1.2.1)) ≤ 12)) then (sl_insertionSortCmpFunc_Member s1.1 s1.2.1 s1.2.2.1 a4).bind fun t7 => some (.ret t7) else (bif (decide (s1.2.2.2.1 = 0)) then (sl_heapSortCmpFunc_Member s1.1 s1.2.1 s1.2.2.1 a4).bind fun t9 => some (.ret t9) else (((bif (!s1.2.2.2.2.1) then (sl_breakPatternsCmpFunc_Member s1.1 s1.2.1 s1.2.2.1 a4).bind fun t14 => some (t14, (w64 (s1.2.2.2.1 - 1))) else some (s1.1, s1.2.2.2.1)) : Option ((List Member) × Int)).bind fun s10 => (sl_choosePivotCmpFunc_Member s10.1 s1.2.1 s1.2.2.1 a4).bind fun t15 => (((bif (decide (t15.2 = 2)) then (sl_reverseRangeCmpFunc_Member s10.1 s1.2.1 s1.2.2.1 a4).bind fun t20 => some (t20, (w64 ((w64 (s1.2.2.1 - 1)) - (w64 (t15.1 - s1.2.1)))), 1) else some (s10.1, t15.1, t15.2)) : Option ((List Member) × Int × Int)).bind fun s16 => (((bif ((s1.2.2.2.2.1 && s1.2.2.2.2.2) && (decide (s16.2.2 = 1))) then (sl_partialInsertionSortCmpFunc_Member s16.1 s1.2.1 s1.2.2.1 a4).bind fun t28 => (bif t28.1 then some (.ret t28.2) else some (.fall t28.2)) else some (.fall s16.1)) : Option (Lo (List Member) ((List Member)))).bind fun o22 => match o22 with | .ret q => some (.ret q) | .fall s21 => ((bif (decide (0 < s1.2.1)) then (ix s21 (w64 (s1.2.1 - 1))).bind fun t35 => (ix s21 s16.2.1).bind fun t36 => (a4.f t35 t36).bind fun t37 => some (!(decide (t37 < 0))) else some false)).bind fun t34 => (bif t34 then (sl_partitionEqualCmpFunc_Member s21 s1.2.1 s1.2.2.1 s16.2.1 a4).bind fun t39 => sl_pdqsortCmpFunc_Member_l0 a4 k0 ks1 (t39.2, t39.1, s1.2.2.1, s10.2, s1.2.2.2.2.1, s1.2.2.2.2.2) else (sl_partitionCmpFunc_Member s21 s1.2.1 s1.2.2.1 s16.2.1 a4).bind fun t40 => (bif (decide ((w64 (t40.1 - s1.2.1)) < (w64 (s1.2.2.1 - t40.1)))) then (k0 t40.2.2 s1.2.1 t40.1 s10.2 a4).bind fun t42 => sl_pdqsortCmpFunc_Member_l0 a4 k0 ks1 (t42, (w64 (t40.1 + 1)), s1.2.2.1, s10.2, (decide ((w64 (Int.tdiv (w64 (s1.2.2.1 - s1.2.1)) 8)) ≤ (w64 (t40.1 - s1.2.1)))), t40.2.1) else (k0 t40.2.2 (w64 (t40.1 + 1)) s1.2.2.1 s10.2 a4).bind fun t43 => sl_pdqsortCmpFunc_Member_l0 a4 k0 ks1 (t43, s1.2.1, t40.1, s10.2, (decide ((w64 (Int.tdiv (w64 (s1.2.2.1 - s1.2.1)) 8)) ≤ (w64 (s1.2.2.1 - t40.1)))), t40.2.1))))))))
def sl_pdqsortCmpFunc_Member_b (k0 : ((List Member) → Int → Int → Int → (Fn2 Member Member Int) → Option (List Member))) (a0 : (List Member)) (a1 : Int) (a2 : Int) (a3 : Int) (a4 : (Fn2 Member Member Int)) : Option (List Member) := ((sl_pdqsortCmpFunc_Member_l0 a4 k0 FUEL (a0, a1, a2, a3, true, true)).bind fun o3 => match o3 with | .ret q => some q | .fall s1 => some s1.1)
def sl_pdqsortCmpFunc_Member_f : Nat → ((List Member) → Int → Int → Int → (Fn2 Member Member Int) → Option (List Member))
  | 0 => fun _ _ _ _ _ => none
  | k + 1 => fun a0 a1 a2 a3 a4 => sl_pdqsortCmpFunc_Member_b (sl_pdqsortCmpFunc_Member_f k) a0 a1 a2 a3 a4
def sl_pdqsortCmpFunc_Member (a0 : (List Member)) (a1 : Int) (a2 : Int) (a3 : Int) (a4 : (Fn2 Member Member Int)) : Option (List Member) := sl_pdqsortCmpFunc_Member_f FUEL a0 a1 a2 a3 a4
theorem sl_pdqsortCmpFunc_Member_b_ok {k0 : ((List Member) → Int → Int → Int → (Fn2 Member Member Int) → Option (List Member))} (hk0 : ∀ {a0 : (List Member)} {a1 : Int} {a2 : Int} {a3 : Int} {a4 : (Fn2 Member Member Int)} {r : (List Member)}, k0 a0 a1 a2 a3 a4 = some r → FnL Try.prog 118 [.g 5000, .d a1, .d a2, .d a3, .d a4] ⟨[], [(5000, ⟨39, (a0 : List Member)⟩)], []⟩ (.x (.tuple #[])) ⟨[], [(5000, ⟨39, (r : List Member)⟩)], []⟩ [] [5000]) {a0 : (List Member)} {a1 : Int} {a2 : Int} {a3 : Int} {a4 : (Fn2 Member Member Int)} {r : (List Member)} (h : sl_pdqsortCmpFunc_Member_b k0 a0 a1 a2 a3 a4 = some r) : FnL Try.prog 118 [.g 5000, .d a1, .d a2, .d a3, .d a4] ⟨[], [(5000, ⟨39, (a0 : List Member)⟩)], []⟩ (.x (.tuple #[])) ⟨[], [(5000, ⟨39, (r : List Member)⟩)], []⟩ [] [5000] := by
  refine FnL.of Try.func118 rfl fun w m S0 β γ => ?_
  unfold sl_pdqsortCmpFunc_Member_b at h
  refine T_seq ?_
  refine T_region ?_
  refine TL_y (y_assign (e_b true)) ?_
  refine TL_nil ?_
  refine z_nt ?_
  refine T_seq ?_
  refine T_region ?_
  refine TL_y (y_assign (e_b true)) ?_
  refine TL_nil ?_
  refine z_nt ?_
  obtain ⟨o3, ho3, h⟩ := bind_some h
  refine T_loopin (S := fun (s1 : (List Member) × Int × Int × Int × Bool × Bool) => ⟨[(0, .g 5000), (1, .d (s1.2.1 : Int)), (2, .d (s1.2.2.1 : Int)), (3, .d (s1.2.2.2.1 : Int)), (10, .d (s1.2.2.2.2.1 : Bool)), (11, .d (s1.2.2.2.2.2 : Bool))], ⟨[], [(5000, ⟨39, (s1.1 : List Member)⟩)], []⟩⟩) (fun s1 => o3 = .fall s1) (fun s1 e => ?_) (fun hfall4 => ?_)
  · subst e
    dsimp only at h
    obtain rfl := Option.some.inj h
    exact zl_ret0 (n := _) ok_base (fn := Try.f118) rfl (le_k (ks := []) (bs := []) (gs := [5000]) .nil .nil (.cons rfl .nil))
  · have hret5 : ∀ q, o3 = .ret q → q = r := fun q e => by
      subst e
      dsimp only at h
      exact Option.some.inj h
    clear h
    refine TW_le (le_k (ks := [0, 1, 2, 3, 4, 10, 11]) (bs := []) (gs := [5000]) (.cons rfl (.cons rfl (.cons rfl (.cons rfl (.cons rfl (.cons rfl (.cons rfl .nil))))))) .nil (.cons rfl .nil)) (fuel_ind (fun (s1 : (List Member) × Int × Int × Int × Bool × Bool) => ⟨[(0, .g 5000), (1, .d (s1.2.1 : Int)), (2, .d (s1.2.2.1 : Int)), (3, .d (s1.2.2.2.1 : Int)), (4, .d (a4 : (Fn2 Member Member Int))), (10, .d (s1.2.2.2.2.1 : Bool)), (11, .d (s1.2.2.2.2.2 : Bool))], ⟨[], [(5000, ⟨39, (s1.1 : List Member)⟩)], []⟩⟩) (fun k s => sl_pdqsortCmpFunc_Member_l0 a4 k0 k s = some o3) ?_ ?_ _ (a0, a1, a2, a3, true, true) ho3)
    · intro s h
      cases h
    · intro ks1 s1 ih h
      replace h : ((bif (decide ((w64 (s1.2.2.1 - s1.2.1)) ≤ 12)) then (sl_insertionSortCmpFunc_Member s1.1 s1.2.1 s1.2.2.1 a4).bind fun t7 => some (.ret t7) else (bif (decide (s1.2.2.2.1 = 0)) then (sl_heapSortCmpFunc_Member s1.1 s1.2.1 s1.2.2.1 a4).bind fun t9 => some (.ret t9) else (((bif (!s1.2.2.2.2.1) then (sl_breakPatternsCmpFunc_Member s1.1 s1.2.1 s1.2.2.1 a4).bind fun t14 => some (t14, (w64 (s1.2.2.2.1 - 1))) else some (s1.1, s1.2.2.2.1)) : Option ((List Member) × Int)).bind fun s10 => (sl_choosePivotCmpFunc_Member s10.1 s1.2.1 s1.2.2.1 a4).bind fun t15 => (((bif (decide (t15.2 = 2)) then (sl_reverseRangeCmpFunc_Member s10.1 s1.2.1 s1.2.2.1 a4).bind fun t20 => some (t20, (w64 ((w64 (s1.2.2.1 - 1)) - (w64 (t15.1 - s1.2.1)))), 1) else some (s10.1, t15.1, t15.2)) : Option ((List Member) × Int × Int)).bind fun s16 => (((bif ((s1.2.2.2.2.1 && s1.2.2.2.2.2) && (decide (s16.2.2 = 1))) then (sl_partialInsertionSortCmpFunc_Member s16.1 s1.2.1 s1.2.2.1 a4).bind fun t28 => (bif t28.1 then some (.ret t28.2) else some (.fall t28.2)) else some (.fall s16.1)) : Option (Lo (List Member) ((List Member)))).bind fun o22 => match o22 with | .ret q => some (.ret q) | .fall s21 => ((bif (decide (0 < s1.2.1)) then (ix s21 (w64 (s1.2.1 - 1))).bind fun t35 => (ix s21 s16.2.1).bind fun t36 => (a4.f t35 t36).bind fun t37 => some (!(decide (t37 < 0))) else some false)).bind fun t34 => (bif t34 then (sl_partitionEqualCmpFunc_Member s21 s1.2.1 s1.2.2.1 s16.2.1 a4).bind fun t39 => sl_pdqsortCmpFunc_Member_l0 a4 k0 ks1 (t39.2, t39.1, s1.2.2.1, s10.2, s1.2.2.2.2.1, s1.2.2.2.2.2) else (sl_partitionCmpFunc_Member s21 s1.2.1 s1.2.2.1 s16.2.1 a4).bind fun t40 => (bif (decide ((w64 (t40.1 - s1.2.1)) < (w64 (s1.2.2.1 - t40.1)))) then (k0 t40.2.2 s1.2.1 t40.1 s10.2 a4).bind fun t42 => sl_pdqsortCmpFunc_Member_l0 a4 k0 ks1 (t42, (w64 (t40.1 + 1)), s1.2.2.1, s10.2, (decide ((w64 (Int.tdiv (w64 (s1.2.2.1 - s1.2.1)) 8)) ≤ (w64 (t40.1 - s1.2.1)))), t40.2.1) else (k0 t40.2.2 (w64 (t40.1 + 1)) s1.2.2.1 s10.2 a4).bind fun t43 => sl_pdqsortCmpFunc_Member_l0 a4 k0 ks1 (t43, s1.2.1, t40.1, s10.2, (decide ((w64 (Int.tdiv (w64 (s1.2.2.1 - s1.2.1)) 8)) ≤ (w64 (s1.2.2.1 - t40.1)))), t40.2.1))))))))) = some o3 := h
      refine TW_round ?_
      refine T_block ?_
      refine T_seq ?_
      refine T_region ?_
      refine TL_y (y_move (e_t rfl)) ?_
      refine TL_y (y_move (e_t rfl)) ?_
      refine TL_y (y_sub (e_t rfl) (e_t rfl)) ?_
      refine TL_y (y_assign (e_t rfl)) ?_
      refine TL_nil ?_
      refine z_nt ?_
      refine T_seq ?_
      refine T_seq ?_
      refine T_region ?_
      refine TL_y (y_move (e_t rfl)) ?_
      refine TL_y (y_leq (e_t rfl) (e_i (12))) ?_
      refine TL_nil ?_
      refine z_nt ?_
      refine T_cond rfl (fun hb6 => ?_) (fun hb6 => ?_)
      · replace h := cond_t hb6 h
        refine T_seq ?_
        refine T_region ?_
        refine TL_y (y_move (e_t rfl)) ?_
        refine TL_y (y_move (e_t rfl)) ?_
        refine TL_y (y_move (e_t rfl)) ?_
        refine TL_y (y_move (e_t rfl)) ?_
        obtain ⟨t7, ht7, h⟩ := bind_some h
        have hct7 : FnL Try.prog 122 [.g 5000, .d (s1.2.1 : Int), .d (s1.2.2.1 : Int), .d (a4 : (Fn2 Member Member Int))] ⟨[], [(5000, ⟨39, (s1.1 : List Member)⟩)], []⟩ (.x (.tuple #[])) ⟨[], [(5000, ⟨39, (t7 : List Member)⟩)], []⟩ [] [5000] := (sl_insertionSortCmpFunc_Member_ok ht7)
        refine TL_callL hct7 ⟨(e_t rfl), (e_t rfl), (e_t rfl), (e_t rfl), trivial⟩ c122 ⟨[], [], []⟩ [(0, .g 5000), (1, .d (s1.2.1 : Int)), (2, .d (s1.2.2.1 : Int)), (3, .d (s1.2.2.2.1 : Int)), (4, .d (a4 : (Fn2 Member Member Int))), (10, .d (s1.2.2.2.2.1 : Bool)), (11, .d (s1.2.2.2.2.2 : Bool)), (21, .d (s1.2.2.1 : Int)), (22, .d (s1.2.1 : Int)), (23, .d ((w64 (s1.2.2.1 - s1.2.1)) : Int)), (12, .d ((w64 (s1.2.2.1 - s1.2.1)) : Int)), (24, .d ((w64 (s1.2.2.1 - s1.2.1)) : Int)), (25, .d ((decide ((w64 (s1.2.2.1 - s1.2.1)) ≤ 12)) : Bool)), (26, .g 5000), (27, .d (s1.2.1 : Int)), (28, .d (s1.2.2.1 : Int)), (29, .d (a4 : (Fn2 Member Member Int)))] (le_k (ks := []) (bs := []) (gs := [5000]) .nil .nil (.cons rfl .nil)) (le_k (ks := [0, 1, 2, 3, 4, 10, 11, 21, 22, 23, 12, 24, 25, 26, 27, 28, 29]) (bs := []) (gs := []) (.cons rfl (.cons rfl (.cons rfl (.cons rfl (.cons rfl (.cons rfl (.cons rfl (.cons rfl (.cons rfl (.cons rfl (.cons rfl (.cons rfl (.cons rfl (.cons rfl (.cons rfl (.cons rfl (.cons rfl .nil))))))))))))))))) .nil .nil) (TL_le (s' := ⟨[(0, .g 5000), (1, .d (s1.2.1 : Int)), (2, .d (s1.2.2.1 : Int)), (3, .d (s1.2.2.2.1 : Int)), (4, .d (a4 : (Fn2 Member Member Int))), (10, .d (s1.2.2.2.2.1 : Bool)), (11, .d (s1.2.2.2.2.2 : Bool)), (21, .d (s1.2.2.1 : Int)), (22, .d (s1.2.1 : Int)), (23, .d ((w64 (s1.2.2.1 - s1.2.1)) : Int)), (12, .d ((w64 (s1.2.2.1 - s1.2.1)) : Int)), (24, .d ((w64 (s1.2.2.1 - s1.2.1)) : Int)), (25, .d ((decide ((w64 (s1.2.2.1 - s1.2.1)) ≤ 12)) : Bool)), (26, .g 5000), (27, .d (s1.2.1 : Int)), (28, .d (s1.2.2.1 : Int)), (29, .d (a4 : (Fn2 Member Member Int))), (30, .x (.tuple #[]))], ⟨[], [(5000, ⟨39, (t7 : List Member)⟩)], []⟩⟩) (le_k (ks := [0, 1, 2, 3, 4, 10, 11, 21, 22, 23, 12, 24, 25, 26, 27, 28, 29, 30]) (bs := []) (gs := [5000]) (.cons rfl (.cons rfl (.cons rfl (.cons rfl (.cons rfl (.cons rfl (.cons rfl (.cons rfl (.cons rfl (.cons rfl (.cons rfl (.cons rfl (.cons rfl (.cons rfl (.cons rfl (.cons rfl (.cons rfl (.cons rfl .nil)))))))))))))))))) .nil (.cons rfl .nil)) ?_) trivial ⟨.inl rfl, trivial⟩
        refine TL_nil ?_
        refine z_nt ?_
        refine T_ret ?_
        refine z_rt ?_
        refine z_rb ?_
        refine z_rt ?_
        refine z_rb ?_
        obtain rfl := hret5 _ (Option.some.inj h).symm
        exact zl_ret0 (n := _) ok_base (fn := Try.f118) rfl (le_k (ks := []) (bs := []) (gs := [5000]) .nil .nil (.cons rfl .nil))
      · replace h := cond_f hb6 h
        refine T_skip ?_
        refine z_nt ?_
        refine T_seq ?_
        refine T_seq ?_
        refine T_region ?_
        refine TL_y (y_move (e_t rfl)) ?_
        refine TL_y (y_eql (e_t rfl) (e_i (0))) ?_
        refine TL_nil ?_
        refine z_nt ?_
        refine T_cond rfl (fun hb8 => ?_) (fun hb8 => ?_)
        · replace h := cond_t hb8 h
          refine T_seq ?_
          refine T_region ?_
          refine TL_y (y_move (e_t rfl)) ?_
          refine TL_y (y_move (e_t rfl)) ?_
          refine TL_y (y_move (e_t rfl)) ?_
          refine TL_y (y_move (e_t rfl)) ?_
          obtain ⟨t9, ht9, h⟩ := bind_some h
          have hct9 : FnL Try.prog 123 [.g 5000, .d (s1.2.1 : Int), .d (s1.2.2.1 : Int), .d (a4 : (Fn2 Member Member Int))] ⟨[], [(5000, ⟨39, (s1.1 : List Member)⟩)], []⟩ (.x (.tuple #[])) ⟨[], [(5000, ⟨39, (t9 : List Member)⟩)], []⟩ [] [5000] := (sl_heapSortCmpFunc_Member_ok ht9)
          refine TL_callL hct9 ⟨(e_t rfl), (e_t rfl), (e_t rfl), (e_t rfl), trivial⟩ c123 ⟨[], [], []⟩ [(0, .g 5000), (1, .d (s1.2.1 : Int)), (2, .d (s1.2.2.1 : Int)), (3, .d (s1.2.2.2.1 : Int)), (4, .d (a4 : (Fn2 Member Member Int))), (10, .d (s1.2.2.2.2.1 : Bool)), (11, .d (s1.2.2.2.2.2 : Bool)), (21, .d (s1.2.2.1 : Int)), (22, .d (s1.2.1 : Int)), (23, .d ((w64 (s1.2.2.1 - s1.2.1)) : Int)), (12, .d ((w64 (s1.2.2.1 - s1.2.1)) : Int)), (24, .d ((w64 (s1.2.2.1 - s1.2.1)) : Int)), (25, .d ((decide ((w64 (s1.2.2.1 - s1.2.1)) ≤ 12)) : Bool)), (31, .d (s1.2.2.2.1 : Int)), (32, .d ((decide (s1.2.2.2.1 = 0)) : Bool)), (33, .g 5000), (34, .d (s1.2.1 : Int)), (35, .d (s1.2.2.1 : Int)), (36, .d (a4 : (Fn2 Member Member Int)))] (le_k (ks := []) (bs := []) (gs := [5000]) .nil .nil (.cons rfl .nil)) (le_k (ks := [0, 1, 2, 3, 4, 10, 11, 21, 22, 23, 12, 24, 25, 31, 32, 33, 34, 35, 36]) (bs := []) (gs := []) (.cons rfl (.cons rfl (.cons rfl (.cons rfl (.cons rfl (.cons rfl (.cons rfl (.cons rfl (.cons rfl (.cons rfl (.cons rfl (.cons rfl (.cons rfl (.cons rfl (.cons rfl (.cons rfl (.cons rfl (.cons rfl (.cons rfl .nil))))))))))))))))))) .nil .nil) (TL_le (s' := ⟨[(0, .g 5000), (1, .d (s1.2.1 : Int)), (2, .d (s1.2.2.1 : Int)), (3, .d (s1.2.2.2.1 : Int)), (4, .d (a4 : (Fn2 Member Member Int))), (10, .d (s1.2.2.2.2.1 : Bool)), (11, .d (s1.2.2.2.2.2 : Bool)), (21, .d (s1.2.2.1 : Int)), (22, .d (s1.2.1 : Int)), (23, .d ((w64 (s1.2.2.1 - s1.2.1)) : Int)), (12, .d ((w64 (s1.2.2.1 - s1.2.1)) : Int)), (24, .d ((w64 (s1.2.2.1 - s1.2.1)) : Int)), (25, .d ((decide ((w64 (s1.2.2.1 - s1.2.1)) ≤ 12)) : Bool)), (31, .d (s1.2.2.2.1 : Int)), (32, .d ((decide (s1.2.2.2.1 = 0)) : Bool)), (33, .g 5000), (34, .d (s1.2.1 : Int)), (35, .d (s1.2.2.1 : Int)), (36, .d (a4 : (Fn2 Member Member Int))), (37, .x (.tuple #[]))], ⟨[], [(5000, ⟨39, (t9 : List Member)⟩)], []⟩⟩) (le_k (ks := [0, 1, 2, 3, 4, 10, 11, 21, 22, 23, 12, 24, 25, 31, 32, 33, 34, 35, 36, 37]) (bs := []) (gs := [5000]) (.cons rfl (.cons rfl (.cons rfl (.cons rfl (.cons rfl (.cons rfl (.cons rfl (.cons rfl (.cons rfl (.cons rfl (.cons rfl (.cons rfl (.cons rfl (.cons rfl (.cons rfl (.cons rfl (.cons rfl (.cons rfl (.cons rfl (.cons rfl .nil)))))))))))))))))))) .nil (.cons rfl .nil)) ?_) trivial ⟨.inl rfl, trivial⟩
          refine TL_nil ?_
          refine z_nt ?_
          refine T_ret ?_
          refine z_rt ?_
          refine z_rb ?_
          refine z_rt ?_
          refine z_rb ?_
          obtain rfl := hret5 _ (Option.some.inj h).symm
          exact zl_ret0 (n := _) ok_base (fn := Try.f118) rfl (le_k (ks := []) (bs := []) (gs := [5000]) .nil .nil (.cons rfl .nil))
        · replace h := cond_f hb8 h
          refine T_skip ?_
          refine z_nt ?_
          obtain ⟨s10, hs10, h⟩ := bind_some h
          refine T_join (S := fun (s10 : (List Member) × Int) => ⟨[(0, .g 5000), (1, .d (s1.2.1 : Int)), (2, .d (s1.2.2.1 : Int)), (3, .d (s10.2 : Int)), (4, .d (a4 : (Fn2 Member Member Int))), (10, .d (s1.2.2.2.2.1 : Bool)), (11, .d (s1.2.2.2.2.2 : Bool)), (12, .d ((w64 (s1.2.2.1 - s1.2.1)) : Int))], ⟨[], [(5000, ⟨39, (s10.1 : List Member)⟩)], []⟩⟩) (fun z => s10 = z) (fun z e => ?_) (fun hfall11 => ?_)
          · subst e
            refine T_seq ?_
            refine T_region ?_
            refine TL_y (y_move (e_t rfl)) ?_
            refine TL_y (y_move (e_t rfl)) ?_
            refine TL_y (y_move (e_t rfl)) ?_
            refine TL_y (y_move (e_t rfl)) ?_
            obtain ⟨t15, ht15, h⟩ := bind_some h
            have hct15 : FnL Try.prog 125 [.g 5000, .d (s1.2.1 : Int), .d (s1.2.2.1 : Int), .d (a4 : (Fn2 Member Member Int))] ⟨[], [(5000, ⟨39, (s10.1 : List Member)⟩)], []⟩ (.t2 (.d t15.1) (.d t15.2)) ⟨[], [(5000, ⟨39, (s10.1 : List Member)⟩)], []⟩ [] [5000] := (sl_choosePivotCmpFunc_Member_ok ht15)
            refine TL_callL hct15 ⟨(e_t rfl), (e_t rfl), (e_t rfl), (e_t rfl), trivial⟩ c125 ⟨[], [], []⟩ [(0, .g 5000), (1, .d (s1.2.1 : Int)), (2, .d (s1.2.2.1 : Int)), (3, .d (s10.2 : Int)), (4, .d (a4 : (Fn2 Member Member Int))), (10, .d (s1.2.2.2.2.1 : Bool)), (11, .d (s1.2.2.2.2.2 : Bool)), (12, .d ((w64 (s1.2.2.1 - s1.2.1)) : Int)), (48, .g 5000), (49, .d (s1.2.1 : Int)), (50, .d (s1.2.2.1 : Int)), (51, .d (a4 : (Fn2 Member Member Int)))] (le_k (ks := []) (bs := []) (gs := [5000]) .nil .nil (.cons rfl .nil)) (le_k (ks := [0, 1, 2, 3, 4, 10, 11, 12, 48, 49, 50, 51]) (bs := []) (gs := []) (.cons rfl (.cons rfl (.cons rfl (.cons rfl (.cons rfl (.cons rfl (.cons rfl (.cons rfl (.cons rfl (.cons rfl (.cons rfl (.cons rfl .nil)))))))))))) .nil .nil) (TL_le (s' := ⟨[(0, .g 5000), (1, .d (s1.2.1 : Int)), (2, .d (s1.2.2.1 : Int)), (3, .d (s10.2 : Int)), (4, .d (a4 : (Fn2 Member Member Int))), (10, .d (s1.2.2.2.2.1 : Bool)), (11, .d (s1.2.2.2.2.2 : Bool)), (12, .d ((w64 (s1.2.2.1 - s1.2.1)) : Int)), (48, .g 5000), (49, .d (s1.2.1 : Int)), (50, .d (s1.2.2.1 : Int)), (51, .d (a4 : (Fn2 Member Member Int))), (52, .t2 (.d (t15.1 : Int)) (.d (t15.2 : Int)))], ⟨[], [(5000, ⟨39, (s10.1 : List Member)⟩)], []⟩⟩) (le_k (ks := [0, 1, 2, 3, 4, 10, 11, 12, 48, 49, 50, 51, 52]) (bs := []) (gs := [5000]) (.cons rfl (.cons rfl (.cons rfl (.cons rfl (.cons rfl (.cons rfl (.cons rfl (.cons rfl (.cons rfl (.cons rfl (.cons rfl (.cons rfl (.cons rfl .nil))))))))))))) .nil (.cons rfl .nil)) ?_) trivial ⟨.inl rfl, trivial⟩
            refine TL_y (y_move (e_t rfl)) ?_
            refine TL_y (y_extract2_0 (e_t rfl)) ?_
            refine TL_y (y_extract2_1 (e_t rfl)) ?_
            refine TL_y (y_assign (e_t rfl)) ?_
            refine TL_y (y_assign (e_t rfl)) ?_
            refine TL_nil ?_
            refine z_nt ?_
            obtain ⟨s16, hs16, h⟩ := bind_some h
            refine T_join (S := fun (s16 : (List Member) × Int × Int) => ⟨[(0, .g 5000), (1, .d (s1.2.1 : Int)), (2, .d (s1.2.2.1 : Int)), (3, .d (s10.2 : Int)), (4, .d (a4 : (Fn2 Member Member Int))), (10, .d (s1.2.2.2.2.1 : Bool)), (11, .d (s1.2.2.2.2.2 : Bool)), (12, .d ((w64 (s1.2.2.1 - s1.2.1)) : Int)), (13, .d (s16.2.1 : Int)), (14, .d (s16.2.2 : Int))], ⟨[], [(5000, ⟨39, (s16.1 : List Member)⟩)], []⟩⟩) (fun z => s16 = z) (fun z e => ?_) (fun hfall17 => ?_)
            · subst e
              obtain ⟨o22, ho22, h⟩ := bind_some h
              refine T_join (S := fun (s21 : (List Member)) => ⟨[(0, .g 5000), (1, .d (s1.2.1 : Int)), (2, .d (s1.2.2.1 : Int)), (3, .d (s10.2 : Int)), (4, .d (a4 : (Fn2 Member Member Int))), (10, .d (s1.2.2.2.2.1 : Bool)), (11, .d (s1.2.2.2.2.2 : Bool)), (12, .d ((w64 (s1.2.2.1 - s1.2.1)) : Int)), (13, .d (s16.2.1 : Int))], ⟨[], [(5000, ⟨39, (s21 : List Member)⟩)], []⟩⟩) (fun s21 => o22 = .fall s21) (fun s21 e => ?_) (fun hfall23 => ?_)
              · subst e
                dsimp only at h
                refine T_seq ?_
                refine T_seq ?_
                refine T_draw hmix (by kernel_rfl) ?_
                refine TQ_y (y_move (e_t rfl)) ?_
                refine TQ_y (y_gtr (e_t rfl) (e_i (0))) ?_
                refine TQ_y (y_move (e_t rfl)) ?_
                obtain ⟨t34, ht34, h⟩ := bind_some h
                refine TQ_cut 14 97 (r := t34) (decide (0 < s1.2.1)) ?_ (fun hb30 hk => ?_) (fun hb30 hk => ?_)
                rotate_left
                · replace h := cond_t hb30 ht34
                  refine TQ_want rfl hb30 ?_
                  refine TQ_y (y_move (e_t rfl)) ?_
                  refine TQ_want rfl hb30 ?_
                  refine TQ_y (y_move (e_t rfl)) ?_
                  refine TQ_want rfl hb30 ?_
                  refine TQ_y (y_move (e_t rfl)) ?_
                  refine TQ_want rfl hb30 ?_
                  refine TQ_y (y_sub (e_t rfl) (e_i (1))) ?_
                  refine TQ_want rfl hb30 ?_
                  obtain ⟨t35, ht35, h⟩ := bind_some h
                  refine TQ_y (y_index_ge (e_t rfl) (e_t rfl) rfl (ix_some ht35).1 (ix_lt ht35) tysl28) ?_
                  refine TQ_want rfl hb30 ?_
                  refine TQ_y (y_load_ge (i := (w64 (s1.2.1 - 1)).toNat) (off := 0) (e_t rfl) rfl (ix_some ht35).2 Sub.self ty39) ?_
                  refine TQ_want rfl hb30 ?_
                  refine TQ_y (y_move (e_t rfl)) ?_
                  refine TQ_want rfl hb30 ?_
                  refine TQ_y (y_move (e_t rfl)) ?_
                  refine TQ_want rfl hb30 ?_
                  obtain ⟨t36, ht36, h⟩ := bind_some h
                  refine TQ_y (y_index_ge (e_t rfl) (e_t rfl) rfl (ix_some ht36).1 (ix_lt ht36) tysl28) ?_
                  refine TQ_want rfl hb30 ?_
                  refine TQ_y (y_load_ge (i := s16.2.1.toNat) (off := 0) (e_t rfl) rfl (ix_some ht36).2 Sub.self ty39) ?_
                  refine TQ_want rfl hb30 ?_
                  obtain ⟨t37, ht37, h⟩ := bind_some h
                  refine TQ_y (y_callv2 (e_t rfl) (e_t rfl) (e_t rfl) ht37) ?_
                  refine TQ_want rfl hb30 ?_
                  refine TQ_y (y_lss (e_t rfl) (e_i (0))) ?_
                  refine TQ_want rfl hb30 ?_
                  refine TQ_y (y_not (e_t rfl)) ?_
                  obtain rfl := Option.some.inj h
                  refine TQ_y (y_pick_t (e_t rfl) hb30 (e_t rfl)) ?_
                  exact TQ_fr hk (.cons (.cons (.cons (.cons (.cons (.cons (.cons (.cons (.cons (.cons (.cons (.cons (.cons (.refl _) rfl) rfl) rfl) rfl) rfl) rfl) rfl) rfl) rfl) rfl) rfl) rfl) rfl)
                · obtain rfl := Option.some.inj (cond_f hb30 ht34)
                  refine TQ_skip0 rfl hb30 ?_
                  refine TQ_skip0 rfl hb30 ?_
                  refine TQ_skip0 rfl hb30 ?_
                  refine TQ_skip0 rfl hb30 ?_
                  refine TQ_skip0 rfl hb30 ?_
                  refine TQ_skip0 rfl hb30 ?_
                  refine TQ_skip0 rfl hb30 ?_
                  refine TQ_skip0 rfl hb30 ?_
                  refine TQ_skip0 rfl hb30 ?_
                  refine TQ_skip0 rfl hb30 ?_
                  refine TQ_skip0 rfl hb30 ?_
                  refine TQ_skip0 rfl hb30 ?_
                  refine TQ_skip0 rfl hb30 ?_
                  refine TQ_y (y_pick_f (e_t rfl) hb30 (e_b false)) ?_
                  exact TQ_fr hk (.refl _)
                refine TQ_nil ?_
                refine z_nt ?_
                refine T_cond rfl (fun hb38 => ?_) (fun hb38 => ?_)
                · replace h := cond_t hb38 h
                  refine T_seq ?_
                  refine T_region ?_
                  refine TL_y (y_move (e_t rfl)) ?_
                  refine TL_y (y_move (e_t rfl)) ?_
                  refine TL_y (y_move (e_t rfl)) ?_
                  refine TL_y (y_move (e_t rfl)) ?_
                  refine TL_y (y_move (e_t rfl)) ?_
                  obtain ⟨t39, ht39, h⟩ := bind_some h
                  have hct39 : FnL Try.prog 128 [.g 5000, .d (s1.2.1 : Int), .d (s1.2.2.1 : Int), .d (s16.2.1 : Int), .d (a4 : (Fn2 Member Member Int))] ⟨[], [(5000, ⟨39, (s21 : List Member)⟩)], []⟩ (.d t39.1) ⟨[], [(5000, ⟨39, (t39.2 : List Member)⟩)], []⟩ [] [5000] := (sl_partitionEqualCmpFunc_Member_ok ht39)
                  refine TL_callL hct39 ⟨(e_t rfl), (e_t rfl), (e_t rfl), (e_t rfl), (e_t rfl), trivial⟩ c128 ⟨[], [], []⟩ [(0, .g 5000), (1, .d (s1.2.1 : Int)), (2, .d (s1.2.2.1 : Int)), (3, .d (s10.2 : Int)), (4, .d (a4 : (Fn2 Member Member Int))), (10, .d (s1.2.2.2.2.1 : Bool)), (11, .d (s1.2.2.2.2.2 : Bool)), (12, .d ((w64 (s1.2.2.1 - s1.2.1)) : Int)), (13, .d (s16.2.1 : Int)), (81, .d (s1.2.1 : Int)), (82, .d ((decide (0 < s1.2.1)) : Bool)), (83, .d ((decide (0 < s1.2.1)) : Bool)), (97, .d (t34 : Bool)), (98, .g 5000), (99, .d (s1.2.1 : Int)), (100, .d (s1.2.2.1 : Int)), (101, .d (s16.2.1 : Int)), (102, .d (a4 : (Fn2 Member Member Int)))] (le_k (ks := []) (bs := []) (gs := [5000]) .nil .nil (.cons rfl .nil)) (le_k (ks := [0, 1, 2, 3, 4, 10, 11, 12, 13, 81, 82, 83, 97, 98, 99, 100, 101, 102]) (bs := []) (gs := []) (.cons rfl (.cons rfl (.cons rfl (.cons rfl (.cons rfl (.cons rfl (.cons rfl (.cons rfl (.cons rfl (.cons rfl (.cons rfl (.cons rfl (.cons rfl (.cons rfl (.cons rfl (.cons rfl (.cons rfl (.cons rfl .nil)))))))))))))))))) .nil .nil) (TL_le (s' := ⟨[(0, .g 5000), (1, .d (s1.2.1 : Int)), (2, .d (s1.2.2.1 : Int)), (3, .d (s10.2 : Int)), (4, .d (a4 : (Fn2 Member Member Int))), (10, .d (s1.2.2.2.2.1 : Bool)), (11, .d (s1.2.2.2.2.2 : Bool)), (12, .d ((w64 (s1.2.2.1 - s1.2.1)) : Int)), (13, .d (s16.2.1 : Int)), (81, .d (s1.2.1 : Int)), (82, .d ((decide (0 < s1.2.1)) : Bool)), (83, .d ((decide (0 < s1.2.1)) : Bool)), (97, .d (t34 : Bool)), (98, .g 5000), (99, .d (s1.2.1 : Int)), (100, .d (s1.2.2.1 : Int)), (101, .d (s16.2.1 : Int)), (102, .d (a4 : (Fn2 Member Member Int))), (103, .d (t39.1 : Int))], ⟨[], [(5000, ⟨39, (t39.2 : List Member)⟩)], []⟩⟩) (le_k (ks := [0, 1, 2, 3, 4, 10, 11, 12, 13, 81, 82, 83, 97, 98, 99, 100, 101, 102, 103]) (bs := []) (gs := [5000]) (.cons rfl (.cons rfl (.cons rfl (.cons rfl (.cons rfl (.cons rfl (.cons rfl (.cons rfl (.cons rfl (.cons rfl (.cons rfl (.cons rfl (.cons rfl (.cons rfl (.cons rfl (.cons rfl (.cons rfl (.cons rfl (.cons rfl .nil))))))))))))))))))) .nil (.cons rfl .nil)) ?_) trivial ⟨.inl rfl, trivial⟩
                  refine TL_y (y_assign (e_t rfl)) ?_
                  refine TL_nil ?_
                  refine z_nt ?_
                  refine T_seq ?_
                  refine T_region ?_
                  refine TL_y (y_move (e_t rfl)) ?_
                  refine TL_y (y_assign (e_t rfl)) ?_
                  refine TL_nil ?_
                  refine z_nt ?_
                  refine T_exit ?_
                  refine z_et ?_
                  refine z_ei ?_
                  refine z_nl ?_
                  exact TW_le (le_k (ks := [0, 1, 2, 3, 4, 10, 11]) (bs := []) (gs := [5000]) (.cons rfl (.cons rfl (.cons rfl (.cons rfl (.cons rfl (.cons rfl (.cons rfl .nil))))))) .nil (.cons rfl .nil)) (ih _ h)
                · replace h := cond_f hb38 h
                  refine T_skip ?_
                  refine z_nt ?_
                  refine T_seq ?_
                  refine T_region ?_
                  refine TL_y (y_move (e_t rfl)) ?_
                  refine TL_y (y_move (e_t rfl)) ?_
                  refine TL_y (y_move (e_t rfl)) ?_
                  refine TL_y (y_move (e_t rfl)) ?_
                  refine TL_y (y_move (e_t rfl)) ?_
                  obtain ⟨t40, ht40, h⟩ := bind_some h
                  have hct40 : FnL Try.prog 129 [.g 5000, .d (s1.2.1 : Int), .d (s1.2.2.1 : Int), .d (s16.2.1 : Int), .d (a4 : (Fn2 Member Member Int))] ⟨[], [(5000, ⟨39, (s21 : List Member)⟩)], []⟩ (.t2 (.d t40.1) (.d t40.2.1)) ⟨[], [(5000, ⟨39, (t40.2.2 : List Member)⟩)], []⟩ [] [5000] := (sl_partitionCmpFunc_Member_ok ht40)
                  refine TL_callL hct40 ⟨(e_t rfl), (e_t rfl), (e_t rfl), (e_t rfl), (e_t rfl), trivial⟩ c129 ⟨[], [], []⟩ [(0, .g 5000), (1, .d (s1.2.1 : Int)), (2, .d (s1.2.2.1 : Int)), (3, .d (s10.2 : Int)), (4, .d (a4 : (Fn2 Member Member Int))), (10, .d (s1.2.2.2.2.1 : Bool)), (11, .d (s1.2.2.2.2.2 : Bool)), (12, .d ((w64 (s1.2.2.1 - s1.2.1)) : Int)), (13, .d (s16.2.1 : Int)), (81, .d (s1.2.1 : Int)), (82, .d ((decide (0 < s1.2.1)) : Bool)), (83, .d ((decide (0 < s1.2.1)) : Bool)), (97, .d (t34 : Bool)), (106, .g 5000), (107, .d (s1.2.1 : Int)), (108, .d (s1.2.2.1 : Int)), (109, .d (s16.2.1 : Int)), (110, .d (a4 : (Fn2 Member Member Int)))] (le_k (ks := []) (bs := []) (gs := [5000]) .nil .nil (.cons rfl .nil)) (le_k (ks := [0, 1, 2, 3, 4, 10, 11, 12, 13, 81, 82, 83, 97, 106, 107, 108, 109, 110]) (bs := []) (gs := []) (.cons rfl (.cons rfl (.cons rfl (.cons rfl (.cons rfl (.cons rfl (.cons rfl (.cons rfl (.cons rfl (.cons rfl (.cons rfl (.cons rfl (.cons rfl (.cons rfl (.cons rfl (.cons rfl (.cons rfl (.cons rfl .nil)))))))))))))))))) .nil .nil) (TL_le (s' := ⟨[(0, .g 5000), (1, .d (s1.2.1 : Int)), (2, .d (s1.2.2.1 : Int)), (3, .d (s10.2 : Int)), (4, .d (a4 : (Fn2 Member Member Int))), (10, .d (s1.2.2.2.2.1 : Bool)), (11, .d (s1.2.2.2.2.2 : Bool)), (12, .d ((w64 (s1.2.2.1 - s1.2.1)) : Int)), (13, .d (s16.2.1 : Int)), (81, .d (s1.2.1 : Int)), (82, .d ((decide (0 < s1.2.1)) : Bool)), (83, .d ((decide (0 < s1.2.1)) : Bool)), (97, .d (t34 : Bool)), (106, .g 5000), (107, .d (s1.2.1 : Int)), (108, .d (s1.2.2.1 : Int)), (109, .d (s16.2.1 : Int)), (110, .d (a4 : (Fn2 Member Member Int))), (111, .t2 (.d (t40.1 : Int)) (.d (t40.2.1 : Bool)))], ⟨[], [(5000, ⟨39, (t40.2.2 : List Member)⟩)], []⟩⟩) (le_k (ks := [0, 1, 2, 3, 4, 10, 11, 12, 13, 81, 82, 83, 97, 106, 107, 108, 109, 110, 111]) (bs := []) (gs := [5000]) (.cons rfl (.cons rfl (.cons rfl (.cons rfl (.cons rfl (.cons rfl (.cons rfl (.cons rfl (.cons rfl (.cons rfl (.cons rfl (.cons rfl (.cons rfl (.cons rfl (.cons rfl (.cons rfl (.cons rfl (.cons rfl (.cons rfl .nil))))))))))))))))))) .nil (.cons rfl .nil)) ?_) trivial ⟨.inl rfl, trivial⟩
                  refine TL_y (y_move (e_t rfl)) ?_
                  refine TL_y (y_extract2_0 (e_t rfl)) ?_
                  refine TL_y (y_extract2_1 (e_t rfl)) ?_
                  refine TL_y (y_assign (e_t rfl)) ?_
                  refine TL_y (y_assign (e_t rfl)) ?_
                  refine TL_nil ?_
                  refine z_nt ?_
                  refine T_seq ?_
                  refine T_region ?_
                  refine TL_y (y_move (e_t rfl)) ?_
                  refine TL_y (y_assign (e_t rfl)) ?_
                  refine TL_nil ?_
                  refine z_nt ?_
                  refine T_seq ?_
                  refine T_region ?_
                  refine TL_y (y_move (e_t rfl)) ?_
                  refine TL_y (y_move (e_t rfl)) ?_
                  refine TL_y (y_sub (e_t rfl) (e_t rfl)) ?_
                  refine TL_y (y_move (e_t rfl)) ?_
                  refine TL_y (y_move (e_t rfl)) ?_
                  refine TL_y (y_sub (e_t rfl) (e_t rfl)) ?_
                  refine TL_y (y_assign (e_t rfl)) ?_
                  refine TL_y (y_assign (e_t rfl)) ?_
                  refine TL_nil ?_
                  refine z_nt ?_
                  refine T_seq ?_
                  refine T_region ?_
                  refine TL_y (y_move (e_t rfl)) ?_
                  refine TL_y (y_quo (e_t rfl) (e_i (8)) (by decide)) ?_
                  refine TL_y (y_assign (e_t rfl)) ?_
                  refine TL_nil ?_
                  refine z_nt ?_
                  refine T_seq ?_
                  refine T_region ?_
                  refine TL_y (y_move (e_t rfl)) ?_
                  refine TL_y (y_move (e_t rfl)) ?_
                  refine TL_y (y_lss (e_t rfl) (e_t rfl)) ?_
                  refine TL_nil ?_
                  refine z_nt ?_
                  refine T_cond rfl (fun hb41 => ?_) (fun hb41 => ?_)
                  · replace h := cond_t hb41 h
                    refine T_seq ?_
                    refine T_region ?_
                    refine TL_y (y_move (e_t rfl)) ?_
                    refine TL_y (y_move (e_t rfl)) ?_
                    refine TL_y (y_geq (e_t rfl) (e_t rfl)) ?_
                    refine TL_y (y_assign (e_t rfl)) ?_
                    refine TL_nil ?_
                    refine z_nt ?_
                    refine T_seq ?_
                    refine T_region ?_
                    refine TL_y (y_move (e_t rfl)) ?_
                    refine TL_y (y_move (e_t rfl)) ?_
                    refine TL_y (y_move (e_t rfl)) ?_
                    refine TL_y (y_move (e_t rfl)) ?_
                    refine TL_y (y_move (e_t rfl)) ?_
                    obtain ⟨t42, ht42, h⟩ := bind_some h
                    have hct42 : FnL Try.prog 118 [.g 5000, .d (s1.2.1 : Int), .d (t40.1 : Int), .d (s10.2 : Int), .d (a4 : (Fn2 Member Member Int))] ⟨[], [(5000, ⟨39, (t40.2.2 : List Member)⟩)], []⟩ (.x (.tuple #[])) ⟨[], [(5000, ⟨39, (t42 : List Member)⟩)], []⟩ [] [5000] := (hk0 ht42)
                    refine TL_callL hct42 ⟨(e_t rfl), (e_t rfl), (e_t rfl), (e_t rfl), (e_t rfl), trivial⟩ c118 ⟨[], [], []⟩ [(0, .g 5000), (1, .d (s1.2.1 : Int)), (2, .d (s1.2.2.1 : Int)), (3, .d (s10.2 : Int)), (4, .d (a4 : (Fn2 Member Member Int))), (10, .d ((decide ((w64 (Int.tdiv (w64 (s1.2.2.1 - s1.2.1)) 8)) ≤ (w64 (t40.1 - s1.2.1)))) : Bool)), (11, .d (t40.2.1 : Bool)), (12, .d ((w64 (s1.2.2.1 - s1.2.1)) : Int)), (13, .d (s16.2.1 : Int)), (81, .d (s1.2.1 : Int)), (82, .d ((decide (0 < s1.2.1)) : Bool)), (83, .d ((decide (0 < s1.2.1)) : Bool)), (97, .d (t34 : Bool)), (106, .g 5000), (107, .d (s1.2.1 : Int)), (108, .d (s1.2.2.1 : Int)), (109, .d (s16.2.1 : Int)), (110, .d (a4 : (Fn2 Member Member Int))), (111, .t2 (.d (t40.1 : Int)) (.d (t40.2.1 : Bool))), (105, .t2 (.d (t40.1 : Int)) (.d (t40.2.1 : Bool))), (112, .d (t40.1 : Int)), (113, .d (t40.2.1 : Bool)), (16, .d (t40.1 : Int)), (17, .d (t40.2.1 : Bool)), (114, .d (t40.2.1 : Bool)), (115, .d (t40.1 : Int)), (116, .d (s1.2.1 : Int)), (117, .d ((w64 (t40.1 - s1.2.1)) : Int)), (118, .d (s1.2.2.1 : Int)), (119, .d (t40.1 : Int)), (120, .d ((w64 (s1.2.2.1 - t40.1)) : Int)), (18, .d ((w64 (t40.1 - s1.2.1)) : Int)), (19, .d ((w64 (s1.2.2.1 - t40.1)) : Int)), (121, .d ((w64 (s1.2.2.1 - s1.2.1)) : Int)), (122, .d ((w64 (Int.tdiv (w64 (s1.2.2.1 - s1.2.1)) 8)) : Int)), (20, .d ((w64 (Int.tdiv (w64 (s1.2.2.1 - s1.2.1)) 8)) : Int)), (123, .d ((w64 (t40.1 - s1.2.1)) : Int)), (124, .d ((w64 (s1.2.2.1 - t40.1)) : Int)), (125, .d ((decide ((w64 (t40.1 - s1.2.1)) < (w64 (s1.2.2.1 - t40.1)))) : Bool)), (126, .d ((w64 (t40.1 - s1.2.1)) : Int)), (127, .d ((w64 (Int.tdiv (w64 (s1.2.2.1 - s1.2.1)) 8)) : Int)), (128, .d ((decide ((w64 (Int.tdiv (w64 (s1.2.2.1 - s1.2.1)) 8)) ≤ (w64 (t40.1 - s1.2.1)))) : Bool)), (129, .g 5000), (130, .d (s1.2.1 : Int)), (131, .d (t40.1 : Int)), (132, .d (s10.2 : Int)), (133, .d (a4 : (Fn2 Member Member Int)))] (le_k (ks := []) (bs := []) (gs := [5000]) .nil .nil (.cons rfl .nil)) (le_k (ks := [0, 1, 2, 3, 4, 10, 11, 12, 13, 81, 82, 83, 97, 106, 107, 108, 109, 110, 111, 105, 112, 113, 16, 17, 114, 115, 116, 117, 118, 119, 120, 18, 19, 121, 122, 20, 123, 124, 125, 126, 127, 128, 129, 130, 131, 132, 133]) (bs := []) (gs := []) (.cons rfl (.cons rfl (.cons rfl (.cons rfl (.cons rfl (.cons rfl (.cons rfl (.cons rfl (.cons rfl (.cons rfl (.cons rfl (.cons rfl (.cons rfl (.cons rfl (.cons rfl (.cons rfl (.cons rfl (.cons rfl (.cons rfl (.cons rfl (.cons rfl (.cons rfl (.cons rfl (.cons rfl (.cons rfl (.cons rfl (.cons rfl (.cons rfl (.cons rfl (.cons rfl (.cons rfl (.cons rfl (.cons rfl (.cons rfl (.cons rfl (.cons rfl (.cons rfl (.cons rfl (.cons rfl (.cons rfl (.cons rfl (.cons rfl (.cons rfl (.cons rfl (.cons rfl (.cons rfl (.cons rfl .nil))))))))))))))))))))))))))))))))))))))))))))))) .nil .nil) (TL_le (s' := ⟨[(0, .g 5000), (1, .d (s1.2.1 : Int)), (2, .d (s1.2.2.1 : Int)), (3, .d (s10.2 : Int)), (4, .d (a4 : (Fn2 Member Member Int))), (10, .d ((decide ((w64 (Int.tdiv (w64 (s1.2.2.1 - s1.2.1)) 8)) ≤ (w64 (t40.1 - s1.2.1)))) : Bool)), (11, .d (t40.2.1 : Bool)), (12, .d ((w64 (s1.2.2.1 - s1.2.1)) : Int)), (13, .d (s16.2.1 : Int)), (81, .d (s1.2.1 : Int)), (82, .d ((decide (0 < s1.2.1)) : Bool)), (83, .d ((decide (0 < s1.2.1)) : Bool)), (97, .d (t34 : Bool)), (106, .g 5000), (107, .d (s1.2.1 : Int)), (108, .d (s1.2.2.1 : Int)), (109, .d (s16.2.1 : Int)), (110, .d (a4 : (Fn2 Member Member Int))), (111, .t2 (.d (t40.1 : Int)) (.d (t40.2.1 : Bool))), (105, .t2 (.d (t40.1 : Int)) (.d (t40.2.1 : Bool))), (112, .d (t40.1 : Int)), (113, .d (t40.2.1 : Bool)), (16, .d (t40.1 : Int)), (17, .d (t40.2.1 : Bool)), (114, .d (t40.2.1 : Bool)), (115, .d (t40.1 : Int)), (116, .d (s1.2.1 : Int)), (117, .d ((w64 (t40.1 - s1.2.1)) : Int)), (118, .d (s1.2.2.1 : Int)), (119, .d (t40.1 : Int)), (120, .d ((w64 (s1.2.2.1 - t40.1)) : Int)), (18, .d ((w64 (t40.1 - s1.2.1)) : Int)), (19, .d ((w64 (s1.2.2.1 - t40.1)) : Int)), (121, .d ((w64 (s1.2.2.1 - s1.2.1)) : Int)), (122, .d ((w64 (Int.tdiv (w64 (s1.2.2.1 - s1.2.1)) 8)) : Int)), (20, .d ((w64 (Int.tdiv (w64 (s1.2.2.1 - s1.2.1)) 8)) : Int)), (123, .d ((w64 (t40.1 - s1.2.1)) : Int)), (124, .d ((w64 (s1.2.2.1 - t40.1)) : Int)), (125, .d ((decide ((w64 (t40.1 - s1.2.1)) < (w64 (s1.2.2.1 - t40.1)))) : Bool)), (126, .d ((w64 (t40.1 - s1.2.1)) : Int)), (127, .d ((w64 (Int.tdiv (w64 (s1.2.2.1 - s1.2.1)) 8)) : Int)), (128, .d ((decide ((w64 (Int.tdiv (w64 (s1.2.2.1 - s1.2.1)) 8)) ≤ (w64 (t40.1 - s1.2.1)))) : Bool)), (129, .g 5000), (130, .d (s1.2.1 : Int)), (131, .d (t40.1 : Int)), (132, .d (s10.2 : Int)), (133, .d (a4 : (Fn2 Member Member Int))), (134, .x (.tuple #[]))], ⟨[], [(5000, ⟨39, (t42 : List Member)⟩)], []⟩⟩) (le_k (ks := [0, 1, 2, 3, 4, 10, 11, 12, 13, 81, 82, 83, 97, 106, 107, 108, 109, 110, 111, 105, 112, 113, 16, 17, 114, 115, 116, 117, 118, 119, 120, 18, 19, 121, 122, 20, 123, 124, 125, 126, 127, 128, 129, 130, 131, 132, 133, 134]) (bs := []) (gs := [5000]) (.cons rfl (.cons rfl (.cons rfl (.cons rfl (.cons rfl (.cons rfl (.cons rfl (.cons rfl (.cons rfl (.cons rfl (.cons rfl (.cons rfl (.cons rfl (.cons rfl (.cons rfl (.cons rfl (.cons rfl (.cons rfl (.cons rfl (.cons rfl (.cons rfl (.cons rfl (.cons rfl (.cons rfl (.cons rfl (.cons rfl (.cons rfl (.cons rfl (.cons rfl (.cons rfl (.cons rfl (.cons rfl (.cons rfl (.cons rfl (.cons rfl (.cons rfl (.cons rfl (.cons rfl (.cons rfl (.cons rfl (.cons rfl (.cons rfl (.cons rfl (.cons rfl (.cons rfl (.cons rfl (.cons rfl (.cons rfl .nil)))))))))))))))))))))))))))))))))))))))))))))))) .nil (.cons rfl .nil)) ?_) trivial ⟨.inl rfl, trivial⟩
                    refine TL_nil ?_
                    refine z_nt ?_
                    refine T_region ?_
                    refine TL_y (y_move (e_t rfl)) ?_
                    refine TL_y (y_add (e_t rfl) (e_i (1))) ?_
                    refine TL_y (y_assign (e_t rfl)) ?_
                    refine TL_nil ?_
                    refine z_nb ?_
                    refine z_nl ?_
                    exact TW_le (le_k (ks := [0, 1, 2, 3, 4, 10, 11]) (bs := []) (gs := [5000]) (.cons rfl (.cons rfl (.cons rfl (.cons rfl (.cons rfl (.cons rfl (.cons rfl .nil))))))) .nil (.cons rfl .nil)) (ih _ h)
                  · replace h := cond_f hb41 h
                    refine T_seq ?_
                    refine T_region ?_
                    refine TL_y (y_move (e_t rfl)) ?_
                    refine TL_y (y_move (e_t rfl)) ?_
                    refine TL_y (y_geq (e_t rfl) (e_t rfl)) ?_
                    refine TL_y (y_assign (e_t rfl)) ?_
                    refine TL_nil ?_
                    refine z_nt ?_
                    refine T_seq ?_
                    refine T_region ?_
                    refine TL_y (y_move (e_t rfl)) ?_
                    refine TL_y (y_move (e_t rfl)) ?_
                    refine TL_y (y_add (e_t rfl) (e_i (1))) ?_
                    refine TL_y (y_move (e_t rfl)) ?_
                    refine TL_y (y_move (e_t rfl)) ?_
                    refine TL_y (y_move (e_t rfl)) ?_
                    obtain ⟨t43, ht43, h⟩ := bind_some h
                    have hct43 : FnL Try.prog 118 [.g 5000, .d ((w64 (t40.1 + 1)) : Int), .d (s1.2.2.1 : Int), .d (s10.2 : Int), .d (a4 : (Fn2 Member Member Int))] ⟨[], [(5000, ⟨39, (t40.2.2 : List Member)⟩)], []⟩ (.x (.tuple #[])) ⟨[], [(5000, ⟨39, (t43 : List Member)⟩)], []⟩ [] [5000] := (hk0 ht43)
                    refine TL_callL hct43 ⟨(e_t rfl), (e_t rfl), (e_t rfl), (e_t rfl), (e_t rfl), trivial⟩ c118 ⟨[], [], []⟩ [(0, .g 5000), (1, .d (s1.2.1 : Int)), (2, .d (s1.2.2.1 : Int)), (3, .d (s10.2 : Int)), (4, .d (a4 : (Fn2 Member Member Int))), (10, .d ((decide ((w64 (Int.tdiv (w64 (s1.2.2.1 - s1.2.1)) 8)) ≤ (w64 (s1.2.2.1 - t40.1)))) : Bool)), (11, .d (t40.2.1 : Bool)), (12, .d ((w64 (s1.2.2.1 - s1.2.1)) : Int)), (13, .d (s16.2.1 : Int)), (81, .d (s1.2.1 : Int)), (82, .d ((decide (0 < s1.2.1)) : Bool)), (83, .d ((decide (0 < s1.2.1)) : Bool)), (97, .d (t34 : Bool)), (106, .g 5000), (107, .d (s1.2.1 : Int)), (108, .d (s1.2.2.1 : Int)), (109, .d (s16.2.1 : Int)), (110, .d (a4 : (Fn2 Member Member Int))), (111, .t2 (.d (t40.1 : Int)) (.d (t40.2.1 : Bool))), (105, .t2 (.d (t40.1 : Int)) (.d (t40.2.1 : Bool))), (112, .d (t40.1 : Int)), (113, .d (t40.2.1 : Bool)), (16, .d (t40.1 : Int)), (17, .d (t40.2.1 : Bool)), (114, .d (t40.2.1 : Bool)), (115, .d (t40.1 : Int)), (116, .d (s1.2.1 : Int)), (117, .d ((w64 (t40.1 - s1.2.1)) : Int)), (118, .d (s1.2.2.1 : Int)), (119, .d (t40.1 : Int)), (120, .d ((w64 (s1.2.2.1 - t40.1)) : Int)), (18, .d ((w64 (t40.1 - s1.2.1)) : Int)), (19, .d ((w64 (s1.2.2.1 - t40.1)) : Int)), (121, .d ((w64 (s1.2.2.1 - s1.2.1)) : Int)), (122, .d ((w64 (Int.tdiv (w64 (s1.2.2.1 - s1.2.1)) 8)) : Int)), (20, .d ((w64 (Int.tdiv (w64 (s1.2.2.1 - s1.2.1)) 8)) : Int)), (123, .d ((w64 (t40.1 - s1.2.1)) : Int)), (124, .d ((w64 (s1.2.2.1 - t40.1)) : Int)), (125, .d ((decide ((w64 (t40.1 - s1.2.1)) < (w64 (s1.2.2.1 - t40.1)))) : Bool)), (137, .d ((w64 (s1.2.2.1 - t40.1)) : Int)), (138, .d ((w64 (Int.tdiv (w64 (s1.2.2.1 - s1.2.1)) 8)) : Int)), (139, .d ((decide ((w64 (Int.tdiv (w64 (s1.2.2.1 - s1.2.1)) 8)) ≤ (w64 (s1.2.2.1 - t40.1)))) : Bool)), (140, .g 5000), (141, .d (t40.1 : Int)), (142, .d ((w64 (t40.1 + 1)) : Int)), (143, .d (s1.2.2.1 : Int)), (144, .d (s10.2 : Int)), (145, .d (a4 : (Fn2 Member Member Int)))] (le_k (ks := []) (bs := []) (gs := [5000]) .nil .nil (.cons rfl .nil)) (le_k (ks := [0, 1, 2, 3, 4, 10, 11, 12, 13, 81, 82, 83, 97, 106, 107, 108, 109, 110, 111, 105, 112, 113, 16, 17, 114, 115, 116, 117, 118, 119, 120, 18, 19, 121, 122, 20, 123, 124, 125, 137, 138, 139, 140, 141, 142, 143, 144, 145]) (bs := []) (gs := []) (.cons rfl (.cons rfl (.cons rfl (.cons rfl (.cons rfl (.cons rfl (.cons rfl (.cons rfl (.cons rfl (.cons rfl (.cons rfl (.cons rfl (.cons rfl (.cons rfl (.cons rfl (.cons rfl (.cons rfl (.cons rfl (.cons rfl (.cons rfl (.cons rfl (.cons rfl (.cons rfl (.cons rfl (.cons rfl (.cons rfl (.cons rfl (.cons rfl (.cons rfl (.cons rfl (.cons rfl (.cons rfl (.cons rfl (.cons rfl (.cons rfl (.cons rfl (.cons rfl (.cons rfl (.cons rfl (.cons rfl (.cons rfl (.cons rfl (.cons rfl (.cons rfl (.cons rfl (.cons rfl (.cons rfl (.cons rfl .nil)))))))))))))))))))))))))))))))))))))))))))))))) .nil .nil) (TL_le (s' := ⟨[(0, .g 5000), (1, .d (s1.2.1 : Int)), (2, .d (s1.2.2.1 : Int)), (3, .d (s10.2 : Int)), (4, .d (a4 : (Fn2 Member Member Int))), (10, .d ((decide ((w64 (Int.tdiv (w64 (s1.2.2.1 - s1.2.1)) 8)) ≤ (w64 (s1.2.2.1 - t40.1)))) : Bool)), (11, .d (t40.2.1 : Bool)), (12, .d ((w64 (s1.2.2.1 - s1.2.1)) : Int)), (13, .d (s16.2.1 : Int)), (81, .d (s1.2.1 : Int)), (82, .d ((decide (0 < s1.2.1)) : Bool)), (83, .d ((decide (0 < s1.2.1)) : Bool)), (97, .d (t34 : Bool)), (106, .g 5000), (107, .d (s1.2.1 : Int)), (108, .d (s1.2.2.1 : Int)), (109, .d (s16.2.1 : Int)), (110, .d (a4 : (Fn2 Member Member Int))), (111, .t2 (.d (t40.1 : Int)) (.d (t40.2.1 : Bool))), (105, .t2 (.d (t40.1 : Int)) (.d (t40.2.1 : Bool))), (112, .d (t40.1 : Int)), (113, .d (t40.2.1 : Bool)), (16, .d (t40.1 : Int)), (17, .d (t40.2.1 : Bool)), (114, .d (t40.2.1 : Bool)), (115, .d (t40.1 : Int)), (116, .d (s1.2.1 : Int)), (117, .d ((w64 (t40.1 - s1.2.1)) : Int)), (118, .d (s1.2.2.1 : Int)), (119, .d (t40.1 : Int)), (120, .d ((w64 (s1.2.2.1 - t40.1)) : Int)), (18, .d ((w64 (t40.1 - s1.2.1)) : Int)), (19, .d ((w64 (s1.2.2.1 - t40.1)) : Int)), (121, .d ((w64 (s1.2.2.1 - s1.2.1)) : Int)), (122, .d ((w64 (Int.tdiv (w64 (s1.2.2.1 - s1.2.1)) 8)) : Int)), (20, .d ((w64 (Int.tdiv (w64 (s1.2.2.1 - s1.2.1)) 8)) : Int)), (123, .d ((w64 (t40.1 - s1.2.1)) : Int)), (124, .d ((w64 (s1.2.2.1 - t40.1)) : Int)), (125, .d ((decide ((w64 (t40.1 - s1.2.1)) < (w64 (s1.2.2.1 - t40.1)))) : Bool)), (137, .d ((w64 (s1.2.2.1 - t40.1)) : Int)), (138, .d ((w64 (Int.tdiv (w64 (s1.2.2.1 - s1.2.1)) 8)) : Int)), (139, .d ((decide ((w64 (Int.tdiv (w64 (s1.2.2.1 - s1.2.1)) 8)) ≤ (w64 (s1.2.2.1 - t40.1)))) : Bool)), (140, .g 5000), (141, .d (t40.1 : Int)), (142, .d ((w64 (t40.1 + 1)) : Int)), (143, .d (s1.2.2.1 : Int)), (144, .d (s10.2 : Int)), (145, .d (a4 : (Fn2 Member Member Int))), (146, .x (.tuple #[]))], ⟨[], [(5000, ⟨39, (t43 : List Member)⟩)], []⟩⟩) (le_k (ks := [0, 1, 2, 3, 4, 10, 11, 12, 13, 81, 82, 83, 97, 106, 107, 108, 109, 110, 111, 105, 112, 113, 16, 17, 114, 115, 116, 117, 118, 119, 120, 18, 19, 121, 122, 20, 123, 124, 125, 137, 138, 139, 140, 141, 142, 143, 144, 145, 146]) (bs := []) (gs := [5000]) (.cons rfl (.cons rfl (.cons rfl (.cons rfl (.cons rfl (.cons rfl (.cons rfl (.cons rfl (.cons rfl (.cons rfl (.cons rfl (.cons rfl (.cons rfl (.cons rfl (.cons rfl (.cons rfl (.cons rfl (.cons rfl (.cons rfl (.cons rfl (.cons rfl (.cons rfl (.cons rfl (.cons rfl (.cons rfl (.cons rfl (.cons rfl (.cons rfl (.cons rfl (.cons rfl (.cons rfl (.cons rfl (.cons rfl (.cons rfl (.cons rfl (.cons rfl (.cons rfl (.cons rfl (.cons rfl (.cons rfl (.cons rfl (.cons rfl (.cons rfl (.cons rfl (.cons rfl (.cons rfl (.cons rfl (.cons rfl (.cons rfl .nil))))))))))))))))))))))))))))))))))))))))))))))))) .nil (.cons rfl .nil)) ?_) trivial ⟨.inl rfl, trivial⟩
                    refine TL_nil ?_
                    refine z_nt ?_
                    refine T_region ?_
                    refine TL_y (y_move (e_t rfl)) ?_
                    refine TL_y (y_assign (e_t rfl)) ?_
                    refine TL_nil ?_
                    refine z_nb ?_
                    refine z_nl ?_
                    exact TW_le (le_k (ks := [0, 1, 2, 3, 4, 10, 11]) (bs := []) (gs := [5000]) (.cons rfl (.cons rfl (.cons rfl (.cons rfl (.cons rfl (.cons rfl (.cons rfl .nil))))))) .nil (.cons rfl .nil)) (ih _ h)
              · have hret24 : ∀ q, o22 = .ret q → q = r := fun q e => by
                  subst e
                  dsimp only at h
                  exact hret5 _ (Option.some.inj h).symm
                clear h
                have h := ho22
                refine T_seq ?_
                refine T_region ?_
                refine TL_y (y_move (e_t rfl)) ?_
                refine TL_y (y_move (e_t rfl)) ?_
                refine TL_and 2 71 (b := s1.2.2.2.2.1) (c := s1.2.2.2.2.2) ?_ (fun hb25 hk => ?_) (fun hb25 hk => ?_)
                rotate_left
                · refine TL_skip0 rfl hb25 ?_
                  refine TL_y (y_pick_f (e_t rfl) hb25 (e_b false)) ?_
                  exact TL_fr hk (.refl _)
                · refine TL_want rfl hb25 ?_
                  refine TL_y (y_move (e_t rfl)) ?_
                  refine TL_y (y_pick_t (e_t rfl) hb25 (e_t rfl)) ?_
                  exact TL_fr hk (.cons (.refl _) rfl)
                refine TL_y (y_move (e_t rfl)) ?_
                refine TL_and 3 75 (b := (s1.2.2.2.2.1 && s1.2.2.2.2.2)) (c := (decide (s16.2.2 = 1))) ?_ (fun hb26 hk => ?_) (fun hb26 hk => ?_)
                rotate_left
                · refine TL_skip0 rfl hb26 ?_
                  refine TL_skip0 rfl hb26 ?_
                  refine TL_y (y_pick_f (e_t rfl) hb26 (e_b false)) ?_
                  exact TL_fr hk (.refl _)
                · refine TL_want rfl hb26 ?_
                  refine TL_y (y_move (e_t rfl)) ?_
                  refine TL_want rfl hb26 ?_
                  refine TL_y (y_eql (e_t rfl) (e_i (1))) ?_
                  refine TL_y (y_pick_t (e_t rfl) hb26 (e_t rfl)) ?_
                  exact TL_fr hk (.cons (.cons (.refl _) rfl) rfl)
                refine TL_nil ?_
                refine z_nt ?_
                refine T_cond rfl (fun hb27 => ?_) (fun hb27 => ?_)
                · replace h := cond_t hb27 h
                  refine T_seq ?_
                  refine T_region ?_
                  refine TL_y (y_move (e_t rfl)) ?_
                  refine TL_y (y_move (e_t rfl)) ?_
                  refine TL_y (y_move (e_t rfl)) ?_
                  refine TL_y (y_move (e_t rfl)) ?_
                  obtain ⟨t28, ht28, h⟩ := bind_some h
                  have hct28 : FnL Try.prog 127 [.g 5000, .d (s1.2.1 : Int), .d (s1.2.2.1 : Int), .d (a4 : (Fn2 Member Member Int))] ⟨[], [(5000, ⟨39, (s16.1 : List Member)⟩)], []⟩ (.d t28.1) ⟨[], [(5000, ⟨39, (t28.2 : List Member)⟩)], []⟩ [] [5000] := (sl_partialInsertionSortCmpFunc_Member_ok ht28)
                  refine TL_callL hct28 ⟨(e_t rfl), (e_t rfl), (e_t rfl), (e_t rfl), trivial⟩ c127 ⟨[], [], []⟩ [(0, .g 5000), (1, .d (s1.2.1 : Int)), (2, .d (s1.2.2.1 : Int)), (3, .d (s10.2 : Int)), (4, .d (a4 : (Fn2 Member Member Int))), (10, .d (s1.2.2.2.2.1 : Bool)), (11, .d (s1.2.2.2.2.2 : Bool)), (12, .d ((w64 (s1.2.2.1 - s1.2.1)) : Int)), (13, .d (s16.2.1 : Int)), (14, .d (s16.2.2 : Int)), (68, .d (s1.2.2.2.2.1 : Bool)), (69, .d (s1.2.2.2.2.1 : Bool)), (71, .d ((s1.2.2.2.2.1 && s1.2.2.2.2.2) : Bool)), (72, .d ((s1.2.2.2.2.1 && s1.2.2.2.2.2) : Bool)), (75, .d (((s1.2.2.2.2.1 && s1.2.2.2.2.2) && (decide (s16.2.2 = 1))) : Bool)), (76, .g 5000), (77, .d (s1.2.1 : Int)), (78, .d (s1.2.2.1 : Int)), (79, .d (a4 : (Fn2 Member Member Int)))] (le_k (ks := []) (bs := []) (gs := [5000]) .nil .nil (.cons rfl .nil)) (le_k (ks := [0, 1, 2, 3, 4, 10, 11, 12, 13, 14, 68, 69, 71, 72, 75, 76, 77, 78, 79]) (bs := []) (gs := []) (.cons rfl (.cons rfl (.cons rfl (.cons rfl (.cons rfl (.cons rfl (.cons rfl (.cons rfl (.cons rfl (.cons rfl (.cons rfl (.cons rfl (.cons rfl (.cons rfl (.cons rfl (.cons rfl (.cons rfl (.cons rfl (.cons rfl .nil))))))))))))))))))) .nil .nil) (TL_le (s' := ⟨[(0, .g 5000), (1, .d (s1.2.1 : Int)), (2, .d (s1.2.2.1 : Int)), (3, .d (s10.2 : Int)), (4, .d (a4 : (Fn2 Member Member Int))), (10, .d (s1.2.2.2.2.1 : Bool)), (11, .d (s1.2.2.2.2.2 : Bool)), (12, .d ((w64 (s1.2.2.1 - s1.2.1)) : Int)), (13, .d (s16.2.1 : Int)), (14, .d (s16.2.2 : Int)), (68, .d (s1.2.2.2.2.1 : Bool)), (69, .d (s1.2.2.2.2.1 : Bool)), (71, .d ((s1.2.2.2.2.1 && s1.2.2.2.2.2) : Bool)), (72, .d ((s1.2.2.2.2.1 && s1.2.2.2.2.2) : Bool)), (75, .d (((s1.2.2.2.2.1 && s1.2.2.2.2.2) && (decide (s16.2.2 = 1))) : Bool)), (76, .g 5000), (77, .d (s1.2.1 : Int)), (78, .d (s1.2.2.1 : Int)), (79, .d (a4 : (Fn2 Member Member Int))), (80, .d (t28.1 : Bool))], ⟨[], [(5000, ⟨39, (t28.2 : List Member)⟩)], []⟩⟩) (le_k (ks := [0, 1, 2, 3, 4, 10, 11, 12, 13, 14, 68, 69, 71, 72, 75, 76, 77, 78, 79, 80]) (bs := []) (gs := [5000]) (.cons rfl (.cons rfl (.cons rfl (.cons rfl (.cons rfl (.cons rfl (.cons rfl (.cons rfl (.cons rfl (.cons rfl (.cons rfl (.cons rfl (.cons rfl (.cons rfl (.cons rfl (.cons rfl (.cons rfl (.cons rfl (.cons rfl (.cons rfl .nil)))))))))))))))))))) .nil (.cons rfl .nil)) ?_) trivial ⟨.inl rfl, trivial⟩
                  refine TL_nil ?_
                  refine z_nt ?_
                  refine T_cond rfl (fun hb29 => ?_) (fun hb29 => ?_)
                  · replace h := cond_t hb29 h
                    refine T_ret ?_
                    refine z_rt ?_
                    refine z_rb ?_
                    refine z_rt ?_
                    refine z_rb ?_
                    obtain rfl := hret24 _ (Option.some.inj h).symm
                    exact zl_ret0 (n := _) ok_base (fn := Try.f118) rfl (le_k (ks := []) (bs := []) (gs := [5000]) .nil .nil (.cons rfl .nil))
                  · replace h := cond_f hb29 h
                    refine T_skip ?_
                    exact Z_le (le_k (ks := [0, 1, 2, 3, 4, 10, 11, 12, 13]) (bs := []) (gs := [5000]) (.cons rfl (.cons rfl (.cons rfl (.cons rfl (.cons rfl (.cons rfl (.cons rfl (.cons rfl (.cons rfl .nil))))))))) .nil (.cons rfl .nil)) (hfall23 _ (Option.some.inj h).symm)
                · replace h := cond_f hb27 h
                  refine T_skip ?_
                  exact Z_le (le_k (ks := [0, 1, 2, 3, 4, 10, 11, 12, 13]) (bs := []) (gs := [5000]) (.cons rfl (.cons rfl (.cons rfl (.cons rfl (.cons rfl (.cons rfl (.cons rfl (.cons rfl (.cons rfl .nil))))))))) .nil (.cons rfl .nil)) (hfall23 _ (Option.some.inj h).symm)
            · clear h
              have h := hs16
              refine T_seq ?_
              refine T_region ?_
              refine TL_y (y_move (e_t rfl)) ?_
              refine TL_y (y_eql (e_t rfl) (e_i (2))) ?_
              refine TL_nil ?_
              refine z_nt ?_
              refine T_cond rfl (fun hb19 => ?_) (fun hb19 => ?_)
              · replace h := cond_t hb19 h
                refine T_seq ?_
                refine T_region ?_
                refine TL_y (y_move (e_t rfl)) ?_
                refine TL_y (y_move (e_t rfl)) ?_
                refine TL_y (y_move (e_t rfl)) ?_
                refine TL_y (y_move (e_t rfl)) ?_
                obtain ⟨t20, ht20, h⟩ := bind_some h
                have hct20 : FnL Try.prog 126 [.g 5000, .d (s1.2.1 : Int), .d (s1.2.2.1 : Int), .d (a4 : (Fn2 Member Member Int))] ⟨[], [(5000, ⟨39, (s10.1 : List Member)⟩)], []⟩ (.x (.tuple #[])) ⟨[], [(5000, ⟨39, (t20 : List Member)⟩)], []⟩ [] [5000] := (sl_reverseRangeCmpFunc_Member_ok ht20)
                refine TL_callL hct20 ⟨(e_t rfl), (e_t rfl), (e_t rfl), (e_t rfl), trivial⟩ c126 ⟨[], [], []⟩ [(0, .g 5000), (1, .d (s1.2.1 : Int)), (2, .d (s1.2.2.1 : Int)), (3, .d (s10.2 : Int)), (4, .d (a4 : (Fn2 Member Member Int))), (10, .d (s1.2.2.2.2.1 : Bool)), (11, .d (s1.2.2.2.2.2 : Bool)), (12, .d ((w64 (s1.2.2.1 - s1.2.1)) : Int)), (48, .g 5000), (49, .d (s1.2.1 : Int)), (50, .d (s1.2.2.1 : Int)), (51, .d (a4 : (Fn2 Member Member Int))), (52, .t2 (.d (t15.1 : Int)) (.d (t15.2 : Int))), (47, .t2 (.d (t15.1 : Int)) (.d (t15.2 : Int))), (53, .d (t15.1 : Int)), (54, .d (t15.2 : Int)), (13, .d (t15.1 : Int)), (14, .d (t15.2 : Int)), (55, .d (t15.2 : Int)), (56, .d ((decide (t15.2 = 2)) : Bool)), (57, .g 5000), (58, .d (s1.2.1 : Int)), (59, .d (s1.2.2.1 : Int)), (60, .d (a4 : (Fn2 Member Member Int)))] (le_k (ks := []) (bs := []) (gs := [5000]) .nil .nil (.cons rfl .nil)) (le_k (ks := [0, 1, 2, 3, 4, 10, 11, 12, 48, 49, 50, 51, 52, 47, 53, 54, 13, 14, 55, 56, 57, 58, 59, 60]) (bs := []) (gs := []) (.cons rfl (.cons rfl (.cons rfl (.cons rfl (.cons rfl (.cons rfl (.cons rfl (.cons rfl (.cons rfl (.cons rfl (.cons rfl (.cons rfl (.cons rfl (.cons rfl (.cons rfl (.cons rfl (.cons rfl (.cons rfl (.cons rfl (.cons rfl (.cons rfl (.cons rfl (.cons rfl (.cons rfl .nil)))))))))))))))))))))))) .nil .nil) (TL_le (s' := ⟨[(0, .g 5000), (1, .d (s1.2.1 : Int)), (2, .d (s1.2.2.1 : Int)), (3, .d (s10.2 : Int)), (4, .d (a4 : (Fn2 Member Member Int))), (10, .d (s1.2.2.2.2.1 : Bool)), (11, .d (s1.2.2.2.2.2 : Bool)), (12, .d ((w64 (s1.2.2.1 - s1.2.1)) : Int)), (48, .g 5000), (49, .d (s1.2.1 : Int)), (50, .d (s1.2.2.1 : Int)), (51, .d (a4 : (Fn2 Member Member Int))), (52, .t2 (.d (t15.1 : Int)) (.d (t15.2 : Int))), (47, .t2 (.d (t15.1 : Int)) (.d (t15.2 : Int))), (53, .d (t15.1 : Int)), (54, .d (t15.2 : Int)), (13, .d (t15.1 : Int)), (14, .d (t15.2 : Int)), (55, .d (t15.2 : Int)), (56, .d ((decide (t15.2 = 2)) : Bool)), (57, .g 5000), (58, .d (s1.2.1 : Int)), (59, .d (s1.2.2.1 : Int)), (60, .d (a4 : (Fn2 Member Member Int))), (61, .x (.tuple #[]))], ⟨[], [(5000, ⟨39, (t20 : List Member)⟩)], []⟩⟩) (le_k (ks := [0, 1, 2, 3, 4, 10, 11, 12, 48, 49, 50, 51, 52, 47, 53, 54, 13, 14, 55, 56, 57, 58, 59, 60, 61]) (bs := []) (gs := [5000]) (.cons rfl (.cons rfl (.cons rfl (.cons rfl (.cons rfl (.cons rfl (.cons rfl (.cons rfl (.cons rfl (.cons rfl (.cons rfl (.cons rfl (.cons rfl (.cons rfl (.cons rfl (.cons rfl (.cons rfl (.cons rfl (.cons rfl (.cons rfl (.cons rfl (.cons rfl (.cons rfl (.cons rfl (.cons rfl .nil))))))))))))))))))))))))) .nil (.cons rfl .nil)) ?_) trivial ⟨.inl rfl, trivial⟩
                refine TL_nil ?_
                refine z_nt ?_
                refine T_seq ?_
                refine T_region ?_
                refine TL_y (y_move (e_t rfl)) ?_
                refine TL_y (y_sub (e_t rfl) (e_i (1))) ?_
                refine TL_y (y_move (e_t rfl)) ?_
                refine TL_y (y_move (e_t rfl)) ?_
                refine TL_y (y_sub (e_t rfl) (e_t rfl)) ?_
                refine TL_y (y_sub (e_t rfl) (e_t rfl)) ?_
                refine TL_y (y_assign (e_t rfl)) ?_
                refine TL_nil ?_
                refine z_nt ?_
                refine T_region ?_
                refine TL_y (y_assign (e_i (1))) ?_
                refine TL_nil ?_
                exact Z_le (le_k (ks := [0, 1, 2, 3, 4, 10, 11, 12, 13, 14]) (bs := []) (gs := [5000]) (.cons rfl (.cons rfl (.cons rfl (.cons rfl (.cons rfl (.cons rfl (.cons rfl (.cons rfl (.cons rfl (.cons rfl .nil)))))))))) .nil (.cons rfl .nil)) (hfall17 _ (Option.some.inj h).symm)
              · replace h := cond_f hb19 h
                refine T_skip ?_
                exact Z_le (le_k (ks := [0, 1, 2, 3, 4, 10, 11, 12, 13, 14]) (bs := []) (gs := [5000]) (.cons rfl (.cons rfl (.cons rfl (.cons rfl (.cons rfl (.cons rfl (.cons rfl (.cons rfl (.cons rfl (.cons rfl .nil)))))))))) .nil (.cons rfl .nil)) (hfall17 _ (Option.some.inj h).symm)
          · clear h
            have h := hs10
            refine T_seq ?_
            refine T_region ?_
            refine TL_y (y_move (e_t rfl)) ?_
            refine TL_y (y_not (e_t rfl)) ?_
            refine TL_nil ?_
            refine z_nt ?_
            refine T_cond rfl (fun hb13 => ?_) (fun hb13 => ?_)
            · replace h := cond_t hb13 h
              refine T_seq ?_
              refine T_region ?_
              refine TL_y (y_move (e_t rfl)) ?_
              refine TL_y (y_move (e_t rfl)) ?_
              refine TL_y (y_move (e_t rfl)) ?_
              refine TL_y (y_move (e_t rfl)) ?_
              obtain ⟨t14, ht14, h⟩ := bind_some h
              have hct14 : FnL Try.prog 124 [.g 5000, .d (s1.2.1 : Int), .d (s1.2.2.1 : Int), .d (a4 : (Fn2 Member Member Int))] ⟨[], [(5000, ⟨39, (s1.1 : List Member)⟩)], []⟩ (.x (.tuple #[])) ⟨[], [(5000, ⟨39, (t14 : List Member)⟩)], []⟩ [] [5000] := (sl_breakPatternsCmpFunc_Member_ok ht14)
              refine TL_callL hct14 ⟨(e_t rfl), (e_t rfl), (e_t rfl), (e_t rfl), trivial⟩ c124 ⟨[], [], []⟩ [(0, .g 5000), (1, .d (s1.2.1 : Int)), (2, .d (s1.2.2.1 : Int)), (3, .d (s1.2.2.2.1 : Int)), (4, .d (a4 : (Fn2 Member Member Int))), (10, .d (s1.2.2.2.2.1 : Bool)), (11, .d (s1.2.2.2.2.2 : Bool)), (21, .d (s1.2.2.1 : Int)), (22, .d (s1.2.1 : Int)), (23, .d ((w64 (s1.2.2.1 - s1.2.1)) : Int)), (12, .d ((w64 (s1.2.2.1 - s1.2.1)) : Int)), (24, .d ((w64 (s1.2.2.1 - s1.2.1)) : Int)), (25, .d ((decide ((w64 (s1.2.2.1 - s1.2.1)) ≤ 12)) : Bool)), (31, .d (s1.2.2.2.1 : Int)), (32, .d ((decide (s1.2.2.2.1 = 0)) : Bool)), (38, .d (s1.2.2.2.2.1 : Bool)), (39, .d ((!s1.2.2.2.2.1) : Bool)), (40, .g 5000), (41, .d (s1.2.1 : Int)), (42, .d (s1.2.2.1 : Int)), (43, .d (a4 : (Fn2 Member Member Int)))] (le_k (ks := []) (bs := []) (gs := [5000]) .nil .nil (.cons rfl .nil)) (le_k (ks := [0, 1, 2, 3, 4, 10, 11, 21, 22, 23, 12, 24, 25, 31, 32, 38, 39, 40, 41, 42, 43]) (bs := []) (gs := []) (.cons rfl (.cons rfl (.cons rfl (.cons rfl (.cons rfl (.cons rfl (.cons rfl (.cons rfl (.cons rfl (.cons rfl (.cons rfl (.cons rfl (.cons rfl (.cons rfl (.cons rfl (.cons rfl (.cons rfl (.cons rfl (.cons rfl (.cons rfl (.cons rfl .nil))))))))))))))))))))) .nil .nil) (TL_le (s' := ⟨[(0, .g 5000), (1, .d (s1.2.1 : Int)), (2, .d (s1.2.2.1 : Int)), (3, .d (s1.2.2.2.1 : Int)), (4, .d (a4 : (Fn2 Member Member Int))), (10, .d (s1.2.2.2.2.1 : Bool)), (11, .d (s1.2.2.2.2.2 : Bool)), (21, .d (s1.2.2.1 : Int)), (22, .d (s1.2.1 : Int)), (23, .d ((w64 (s1.2.2.1 - s1.2.1)) : Int)), (12, .d ((w64 (s1.2.2.1 - s1.2.1)) : Int)), (24, .d ((w64 (s1.2.2.1 - s1.2.1)) : Int)), (25, .d ((decide ((w64 (s1.2.2.1 - s1.2.1)) ≤ 12)) : Bool)), (31, .d (s1.2.2.2.1 : Int)), (32, .d ((decide (s1.2.2.2.1 = 0)) : Bool)), (38, .d (s1.2.2.2.2.1 : Bool)), (39, .d ((!s1.2.2.2.2.1) : Bool)), (40, .g 5000), (41, .d (s1.2.1 : Int)), (42, .d (s1.2.2.1 : Int)), (43, .d (a4 : (Fn2 Member Member Int))), (44, .x (.tuple #[]))], ⟨[], [(5000, ⟨39, (t14 : List Member)⟩)], []⟩⟩) (le_k (ks := [0, 1, 2, 3, 4, 10, 11, 21, 22, 23, 12, 24, 25, 31, 32, 38, 39, 40, 41, 42, 43, 44]) (bs := []) (gs := [5000]) (.cons rfl (.cons rfl (.cons rfl (.cons rfl (.cons rfl (.cons rfl (.cons rfl (.cons rfl (.cons rfl (.cons rfl (.cons rfl (.cons rfl (.cons rfl (.cons rfl (.cons rfl (.cons rfl (.cons rfl (.cons rfl (.cons rfl (.cons rfl (.cons rfl (.cons rfl .nil)))))))))))))))))))))) .nil (.cons rfl .nil)) ?_) trivial ⟨.inl rfl, trivial⟩
              refine TL_nil ?_
              refine z_nt ?_
              refine T_region ?_
              refine TL_y (y_move (e_t rfl)) ?_
              refine TL_y (y_sub (e_t rfl) (e_i (1))) ?_
              refine TL_y (y_assign (e_t rfl)) ?_
              refine TL_nil ?_
              exact Z_le (le_k (ks := [0, 1, 2, 3, 4, 10, 11, 12]) (bs := []) (gs := [5000]) (.cons rfl (.cons rfl (.cons rfl (.cons rfl (.cons rfl (.cons rfl (.cons rfl (.cons rfl .nil)))))))) .nil (.cons rfl .nil)) (hfall11 _ (Option.some.inj h).symm)
            · replace h := cond_f hb13 h
              refine T_skip ?_
              exact Z_le (le_k (ks := [0, 1, 2, 3, 4, 10, 11, 12]) (bs := []) (gs := [5000]) (.cons rfl (.cons rfl (.cons rfl (.cons rfl (.cons rfl (.cons rfl (.cons rfl (.cons rfl .nil)))))))) .nil (.cons rfl .nil)) (hfall11 _ (Option.some.inj h).symm)
theorem sl_pdqsortCmpFunc_Member_f_ok : ∀ (k : Nat) {a0 : (List Member)} {a1 : Int} {a2 : Int} {a3 : Int} {a4 : (Fn2 Member Member Int)} {r : (List Member)} (_ : sl_pdqsortCmpFunc_Member_f k a0 a1 a2 a3 a4 = some r), FnL Try.prog 118 [.g 5000, .d a1, .d a2, .d a3, .d a4] ⟨[], [(5000, ⟨39, (a0 : List Member)⟩)], []⟩ (.x (.tuple #[])) ⟨[], [(5000, ⟨39, (r : List Member)⟩)], []⟩ [] [5000]
  | 0, _, _, _, _, _, _, h => by cases h
  | k + 1, _, _, _, _, _, _, h => sl_pdqsortCmpFunc_Member_b_ok (k0 := sl_pdqsortCmpFunc_Member_f k) (fun h => sl_pdqsortCmpFunc_Member_f_ok k h) h
theorem sl_pdqsortCmpFunc_Member_ok {a0 : (List Member)} {a1 : Int} {a2 : Int} {a3 : Int} {a4 : (Fn2 Member Member Int)} {r : (List Member)} (h : sl_pdqsortCmpFunc_Member a0 a1 a2 a3 a4 = some r) : FnL Try.prog 118 [.g 5000, .d a1, .d a2, .d a3, .d a4] ⟨[], [(5000, ⟨39, (a0 : List Member)⟩)], []⟩ (.x (.tuple #[])) ⟨[], [(5000, ⟨39, (r : List Member)⟩)], []⟩ [] [5000] := sl_pdqsortCmpFunc_Member_f_ok _ h
end Go.Ph
set_option maxRecDepth 4000
set_option maxHeartbeats 4000000
namespace Go.Ph
open Go.Proofs
def sl_SortFunc_Member (a0 : (List Member)) (a1 : (Fn2 Member Member Int)) : Option (List Member) := (math_bits_Len (toU64 (a0.length : Int))).bind fun t1 => (sl_pdqsortCmpFunc_Member a0 0 (a0.length : Int) t1 a1).bind fun t2 => some t2
theorem sl_SortFunc_Member_ok {a0 : (List Member)} {a1 : (Fn2 Member Member Int)} {r : (List Member)} (h : sl_SortFunc_Member a0 a1 = some r) : FnL Try.prog 113 [.g 5000, .d a1] ⟨[], [(5000, ⟨39, (a0 : List Member)⟩)], []⟩ (.x (.tuple #[])) ⟨[], [(5000, ⟨39, (r : List Member)⟩)], []⟩ [] [5000] := by
  refine FnL.of Try.func113 rfl fun w m S0 β γ => ?_
  unfold sl_SortFunc_Member at h
  refine T_seq ?_
  refine T_region ?_
  refine TL_y (y_move (e_t rfl)) ?_
  refine TL_y (y_len_g (e_t rfl) rfl (by rw [el28]; exact Try.underlying28)) ?_
  refine TL_y (y_assign (e_t rfl)) ?_
  refine TL_nil ?_
  refine z_nt ?_
  refine T_region ?_
  refine TL_y (y_move (e_t rfl)) ?_
  refine TL_y (y_move (e_t rfl)) ?_
  refine TL_y (y_move (e_t rfl)) ?_
  refine TL_y (y_conv_to_u64 (e_t rfl) (by simp [Try.underlying3]) Try.underlying135) ?_
  obtain ⟨t1, ht1, h⟩ := bind_some h
  refine TL_call (xs := [.d ((toU64 (a0.length : Int)) : UInt64)]) (math_bits_Len_ok ht1) ⟨(e_t rfl), trivial⟩ c119 ?_
  refine TL_y (y_move (e_t rfl)) ?_
  obtain ⟨t2, ht2, h⟩ := bind_some h
  have hct2 : FnL Try.prog 118 [.g 5000, .d (0 : Int), .d ((a0.length : Int) : Int), .d (t1 : Int), .d (a1 : (Fn2 Member Member Int))] ⟨[], [(5000, ⟨39, (a0 : List Member)⟩)], []⟩ (.x (.tuple #[])) ⟨[], [(5000, ⟨39, (t2 : List Member)⟩)], []⟩ [] [5000] := (sl_pdqsortCmpFunc_Member_ok ht2)
  refine TL_callL hct2 ⟨(e_t rfl), (e_i (0)), (e_t rfl), (e_t rfl), (e_t rfl), trivial⟩ c118 ⟨[], [], []⟩ [(0, .g 5000), (1, .d (a1 : (Fn2 Member Member Int))), (5, .g 5000), (6, .d ((a0.length : Int) : Int)), (4, .d ((a0.length : Int) : Int)), (7, .g 5000), (8, .d ((a0.length : Int) : Int)), (9, .d ((a0.length : Int) : Int)), (10, .d ((toU64 (a0.length : Int)) : UInt64)), (11, .d (t1 : Int)), (12, .d (a1 : (Fn2 Member Member Int)))] (le_k (ks := []) (bs := []) (gs := [5000]) .nil .nil (.cons rfl .nil)) (le_k (ks := [0, 1, 5, 6, 4, 7, 8, 9, 10, 11, 12]) (bs := []) (gs := []) (.cons rfl (.cons rfl (.cons rfl (.cons rfl (.cons rfl (.cons rfl (.cons rfl (.cons rfl (.cons rfl (.cons rfl (.cons rfl .nil))))))))))) .nil .nil) (TL_le (s' := ⟨[(0, .g 5000), (1, .d (a1 : (Fn2 Member Member Int))), (5, .g 5000), (6, .d ((a0.length : Int) : Int)), (4, .d ((a0.length : Int) : Int)), (7, .g 5000), (8, .d ((a0.length : Int) : Int)), (9, .d ((a0.length : Int) : Int)), (10, .d ((toU64 (a0.length : Int)) : UInt64)), (11, .d (t1 : Int)), (12, .d (a1 : (Fn2 Member Member Int))), (13, .x (.tuple #[]))], ⟨[], [(5000, ⟨39, (t2 : List Member)⟩)], []⟩⟩) (le_k (ks := [0, 1, 5, 6, 4, 7, 8, 9, 10, 11, 12, 13]) (bs := []) (gs := [5000]) (.cons rfl (.cons rfl (.cons rfl (.cons rfl (.cons rfl (.cons rfl (.cons rfl (.cons rfl (.cons rfl (.cons rfl (.cons rfl (.cons rfl .nil)))))))))))) .nil (.cons rfl .nil)) ?_) trivial ⟨.inl rfl, trivial⟩
  refine TL_nil ?_
  obtain rfl := Option.some.inj h
  exact zl_ret0 (n := _) ok_base (fn := Try.f113) rfl (le_k (ks := []) (bs := []) (gs := [5000]) .nil .nil (.cons rfl .nil))
def sl_SortedFunc_Member (a0 : (Sq Member)) (a1 : (Fn2 Member Member Int)) : Option (List Member) := (sl_Collect_Member a0).bind fun t1 => (sl_SortFunc_Member t1 a1).bind fun t2 => some t2
theorem sl_SortedFunc_Member_ok {a0 : (Sq Member)} {a1 : (Fn2 Member Member Int)} {r : (List Member)} (h : sl_SortedFunc_Member a0 a1 = some r) : Fn Try.prog 90 [.d a0, .d a1] (.d r) := by
  refine Fn.of Try.func90 rfl fun w m => ?_
  unfold sl_SortedFunc_Member at h
  refine T_seq ?_
  refine T_region ?_
  refine TL_y (y_assign (e_nil (α := Member))) ?_
  refine TL_nil ?_
  refine z_nt ?_
  refine T_seq ?_
  refine T_region ?_
  refine TL_y (y_move (e_t rfl)) ?_
  obtain ⟨t1, ht1, h⟩ := bind_some h
  have hct1 : FnL Try.prog 56 [.d (a0 : (Sq Member))] ⟨[], [], []⟩ (.g 5007) ⟨[], [(5007, ⟨39, (t1 : List Member)⟩)], []⟩ [] [] := (sl_Collect_Member_ok ht1).sw 3000 3000 5000 5007
  refine TL_callL hct1 ⟨(e_t rfl), trivial⟩ c56 ⟨[], [], []⟩ [(0, .d (a0 : (Sq Member))), (1, .d (a1 : (Fn2 Member Member Int))), (4, .d (([] : List Member) : (List Member))), (6, .d (a0 : (Sq Member)))] (le_k (ks := []) (bs := []) (gs := []) .nil .nil .nil) (le_k (ks := [0, 1, 4, 6]) (bs := []) (gs := []) (.cons rfl (.cons rfl (.cons rfl (.cons rfl .nil)))) .nil .nil) (TL_le (s' := ⟨[(0, .d (a0 : (Sq Member))), (1, .d (a1 : (Fn2 Member Member Int))), (4, .d (([] : List Member) : (List Member))), (6, .d (a0 : (Sq Member))), (7, .g 5007)], ⟨[], [(5007, ⟨39, (t1 : List Member)⟩)], []⟩⟩) (le_k (ks := [0, 1, 4, 6, 7]) (bs := []) (gs := [5007]) (.cons rfl (.cons rfl (.cons rfl (.cons rfl (.cons rfl .nil))))) .nil (.cons rfl .nil)) ?_) trivial ⟨.inr rfl, trivial⟩
  refine TL_y (y_assign (e_t rfl)) ?_
  refine TL_nil ?_
  refine z_nt ?_
  refine T_seq ?_
  refine T_region ?_
  refine TL_y (y_move (e_t rfl)) ?_
  refine TL_y (y_move (e_t rfl)) ?_
  obtain ⟨t2, ht2, h⟩ := bind_some h
  have hct2 : FnL Try.prog 113 [.g 5007, .d (a1 : (Fn2 Member Member Int))] ⟨[], [(5007, ⟨39, (t1 : List Member)⟩)], []⟩ (.x (.tuple #[])) ⟨[], [(5007, ⟨39, (t2 : List Member)⟩)], []⟩ [] [5007] := (sl_SortFunc_Member_ok ht2).sw 3000 3000 5000 5007
  refine TL_callL hct2 ⟨(e_t rfl), (e_t rfl), trivial⟩ c113 ⟨[], [], []⟩ [(0, .d (a0 : (Sq Member))), (1, .d (a1 : (Fn2 Member Member Int))), (4, .d (([] : List Member) : (List Member))), (6, .d (a0 : (Sq Member))), (7, .g 5007), (5, .g 5007), (8, .g 5007), (9, .d (a1 : (Fn2 Member Member Int)))] (le_k (ks := []) (bs := []) (gs := [5007]) .nil .nil (.cons rfl .nil)) (le_k (ks := [0, 1, 4, 6, 7, 5, 8, 9]) (bs := []) (gs := []) (.cons rfl (.cons rfl (.cons rfl (.cons rfl (.cons rfl (.cons rfl (.cons rfl (.cons rfl .nil)))))))) .nil .nil) (TL_le (s' := ⟨[(0, .d (a0 : (Sq Member))), (1, .d (a1 : (Fn2 Member Member Int))), (4, .d (([] : List Member) : (List Member))), (6, .d (a0 : (Sq Member))), (7, .g 5007), (5, .g 5007), (8, .g 5007), (9, .d (a1 : (Fn2 Member Member Int))), (10, .x (.tuple #[]))], ⟨[], [(5007, ⟨39, (t2 : List Member)⟩)], []⟩⟩) (le_k (ks := [0, 1, 4, 6, 7, 5, 8, 9, 10]) (bs := []) (gs := [5007]) (.cons rfl (.cons rfl (.cons rfl (.cons rfl (.cons rfl (.cons rfl (.cons rfl (.cons rfl (.cons rfl .nil))))))))) .nil (.cons rfl .nil)) ?_) trivial ⟨.inl rfl, trivial⟩
  refine TL_nil ?_
  refine z_nt ?_
  refine T_seq ?_
  refine T_region ?_
  refine TL_y (y_move (e_t rfl)) ?_
  refine TL_y (y_assign (e_t rfl)) ?_
  refine TL_nil ?_
  refine z_nt ?_
  refine T_ret ?_
  obtain rfl := Option.some.inj h
  refine Z_pub (q := 4) (nm := 5007) ⟨[(0, .d (a0 : (Sq Member))), (1, .d (a1 : (Fn2 Member Member Int))), (6, .d (a0 : (Sq Member))), (9, .d (a1 : (Fn2 Member Member Int))), (10, .x (.tuple #[]))], ⟨[], [], []⟩⟩ rfl rfl (le_k (ks := [0, 1, 6, 9, 10]) (bs := []) (gs := []) (.cons rfl (.cons rfl (.cons rfl (.cons rfl (.cons rfl .nil))))) .nil .nil) rfl ?_
  exact Z_ret1 (fn := Try.f90) rfl (rv_t rfl)
def ring_turned (a0 : (List Member)) (a1 : Int) : Option ((List Member) × Int) := (ring_Right a0).bind fun t1 => (bif (!t1) then some (([] : List Member), 1) else (sl_IndexFunc_Member a0 (⟨fun x => ring_turned_1 x a1⟩ : (Fn1 Member Bool))).bind fun t3 => (bif (decide (t3 < 0)) then some (([] : List Member), 6) else (sl_Values_Member a0).bind fun t5 => (ix a0 t3).bind fun t6 => (ring_from t6.id).bind fun t7 => (sl_SortedFunc_Member t5 t7).bind fun t8 => some (t8, 0)))
theorem ring_turned_ok {a0 : (List Member)} {a1 : Int} {r : ((List Member) × Int)} (h : ring_turned a0 a1 = some r) : Fn Try.prog 59 [.d a0, .d a1] (.t2 (.d r.1) (.d r.2)) := by
  refine Fn.of Try.func59 rfl fun w m => ?_
  unfold ring_turned at h
  refine T_seq ?_
  refine T_region ?_
  refine TL_box (e_t rfl) ?_
  refine TL_y (y_assign (e_nil (α := Member))) ?_
  refine TL_y (y_assign (e_i (0))) ?_
  refine TL_nil ?_
  refine z_nt ?_
  refine T_seq ?_
  refine T_seq ?_
  refine T_region ?_
  refine TL_y (y_move (e_t rfl)) ?_
  obtain ⟨t1, ht1, h⟩ := bind_some h
  refine TL_call (xs := [.d (a0 : (List Member))]) (ring_Right_ok ht1) ⟨(e_t rfl), trivial⟩ c38 ?_
  refine TL_y (y_not (e_t rfl)) ?_
  refine TL_nil ?_
  refine z_nt ?_
  refine T_cond rfl (fun hb2 => ?_) (fun hb2 => ?_)
  · replace h := cond_t hb2 h
    refine T_seq ?_
    refine T_region ?_
    refine TL_y (y_assign (e_nil (α := Member))) ?_
    refine TL_y (y_assign (e_i (1))) ?_
    refine TL_nil ?_
    refine z_nt ?_
    refine T_ret ?_
    refine z_rt ?_
    obtain rfl := Option.some.inj h
    exact Z_ret2 (fn := Try.f59) rfl (rv_t rfl) (rv_t rfl)
  · replace h := cond_f hb2 h
    refine T_skip ?_
    refine z_nt ?_
    refine T_seq ?_
    refine T_region ?_
    refine TL_y (y_move (e_t rfl)) ?_
    refine TL_le (le_k (ks := [3, 0, 1, 4, 5, 7, 8, 9, 10]) (bs := [3]) (gs := []) (ti := []) (.cons rfl (.cons rfl (.cons rfl (.cons rfl (.cons rfl (.cons rfl (.cons rfl (.cons rfl (.cons rfl .nil))))))))) (.cons rfl .nil) .nil) (TL_freeze ?_)
    refine TL_y (y_makeFunc1 (F := fun x => ring_turned_1 x a1) (caps := [.d (⟨a1⟩ : Ptr Int)]) (fun x r h => ring_turned_1_ok h) ⟨(e_t rfl), trivial⟩ c89) ?_
    obtain ⟨t3, ht3, h⟩ := bind_some h
    refine TL_call (xs := [.d (a0 : (List Member)), .d ((⟨fun x => ring_turned_1 x a1⟩ : (Fn1 Member Bool)) : (Fn1 Member Bool))]) (sl_IndexFunc_Member_ok ht3) ⟨(e_t rfl), (e_t rfl), trivial⟩ c82 ?_
    refine TL_y (y_assign (e_t rfl)) ?_
    refine TL_nil ?_
    refine z_nt ?_
    refine T_seq ?_
    refine T_seq ?_
    refine T_region ?_
    refine TL_y (y_move (e_t rfl)) ?_
    refine TL_y (y_lss (e_t rfl) (e_i (0))) ?_
    refine TL_nil ?_
    refine z_nt ?_
    refine T_cond rfl (fun hb4 => ?_) (fun hb4 => ?_)
    · replace h := cond_t hb4 h
      refine T_seq ?_
      refine T_region ?_
      refine TL_y (y_assign (e_nil (α := Member))) ?_
      refine TL_y (y_assign (e_i (6))) ?_
      refine TL_nil ?_
      refine z_nt ?_
      refine T_ret ?_
      refine z_rt ?_
      obtain rfl := Option.some.inj h
      exact Z_ret2 (fn := Try.f59) rfl (rv_t rfl) (rv_t rfl)
    · replace h := cond_f hb4 h
      refine T_skip ?_
      refine z_nt ?_
      refine T_seq ?_
      refine T_le (le_k (ks := [0, 1, 3, 7, 8, 9, 10, 11, 12, 6, 13, 14]) (bs := []) (gs := []) (ti := []) (.cons rfl (.cons rfl (.cons rfl (.cons rfl (.cons rfl (.cons rfl (.cons rfl (.cons rfl (.cons rfl (.cons rfl (.cons rfl (.cons rfl .nil)))))))))))) .nil .nil) ?_
      obtain ⟨t5, ht5, h⟩ := bind_some h
      obtain ⟨t6, ht6, h⟩ := bind_some h
      obtain ⟨t7, ht7, h⟩ := bind_some h
      obtain ⟨t8, ht8, h⟩ := bind_some h
      refine T_drawn hmix (by kernel_rfl) (by kernel_rfl) [some (.d (a0 : (List Member))), some (.d (t5 : (Sq Member))), some (.d (a0 : (List Member))), some (.d (t3 : Int)), some (.d (⟨t6⟩ : Ptr Member)), some (.d (⟨t6.id⟩ : Ptr Id)), some (.d (t6.id : Id)), some (.d (t7 : (Fn2 Member Member Int))), some (.d (t8 : (List Member))), some (.d (t8 : (List Member))), some (.d (0 : Int))] [] [] [] rfl trivial trivial rfl rfl rfl ⟨?_, ?_, ?_, ?_, ?_, ?_, ?_, ?_, ?_, ?_, ?_, trivial⟩ (Z_le (le_k (ks := [0, 1, 3, 7, 8, 9, 10, 11, 12, 6, 13, 14, 15, 16, 17, 18, 19, 20, 21, 22, 23, 4, 5]) (bs := []) (gs := []) (ti := []) (.cons rfl (.cons rfl (.cons rfl (.cons rfl (.cons rfl (.cons rfl (.cons rfl (.cons rfl (.cons rfl (.cons rfl (.cons rfl (.cons rfl (.cons rfl (.cons rfl (.cons rfl (.cons rfl (.cons rfl (.cons rfl (.cons rfl (.cons rfl (.cons rfl (.cons rfl (.cons rfl .nil))))))))))))))))))))))) .nil .nil) ?_)
      · refine d_put rfl rfl offs_d rfl (fun L s' H Q k => ?_)
        refine TL_y (y_move (e_t (H.p rfl))) ?_
        exact TL_nil k
      · refine d_put rfl rfl offs_d rfl (fun L s' H Q k => ?_)
        refine TL_call (xs := [.d (a0 : (List Member))]) (sl_Values_Member_ok ht5) ⟨(e_t (H.t 0 rfl)), trivial⟩ c80 ?_
        exact TL_nil k
      · refine d_put rfl rfl offs_d rfl (fun L s' H Q k => ?_)
        refine TL_y (y_move (e_t (H.p rfl))) ?_
        exact TL_nil k
      · refine d_put rfl rfl offs_d rfl (fun L s' H Q k => ?_)
        refine TL_y (y_move (e_t (H.p rfl))) ?_
        exact TL_nil k
      · refine d_put rfl rfl offs_d rfl (fun L s' H Q k => ?_)
        refine TL_y (y_indexIx (e_t (H.t 2 rfl)) (e_t (H.t 3 rfl)) ht6 tysl28) ?_
        exact TL_nil k
      · refine d_put rfl rfl offs_d rfl (fun L s' H Q k => ?_)
        refine TL_y (y_fieldAddr_ptr (e_t (H.t 4 rfl)) fo39_1 s_Member_id) ?_
        exact TL_nil k
      · refine d_put rfl rfl offs_d rfl (fun L s' H Q k => ?_)
        refine TL_y (y_load_ptr (e_t (H.t 5 rfl)) ty26) ?_
        exact TL_nil k
      · refine d_put rfl rfl offs_d rfl (fun L s' H Q k => ?_)
        refine TL_call (xs := [.d (t6.id : Id)]) (ring_from_ok ht7) ⟨(e_t (H.t 6 rfl)), trivial⟩ c40 ?_
        exact TL_nil k
      · refine d_put rfl rfl offs_d rfl (fun L s' H Q k => ?_)
        refine TL_call (xs := [.d (t5 : (Sq Member)), .d (t7 : (Fn2 Member Member Int))]) (sl_SortedFunc_Member_ok ht8) ⟨(e_t (H.t 1 rfl)), (e_t (H.t 7 rfl)), trivial⟩ c90 ?_
        exact TL_nil k
      · refine d_put rfl rfl offs_d rfl (fun L s' H Q k => ?_)
        refine TL_y (y_assign (e_t (H.t 8 rfl))) ?_
        exact TL_nil k
      · refine d_put rfl rfl offs_d rfl (fun L s' H Q k => ?_)
        refine TL_y (y_assign (e_i (0))) ?_
        exact TL_nil k
      refine z_nt ?_
      refine T_ret ?_
      obtain rfl := Option.some.inj h
      exact Z_ret2 (fn := Try.f59) rfl (rv_t rfl) (rv_t rfl)
def ring_After_l0 (t3 : ((List Member) × Int)) : Nat → Nat → (List Member) → Option ((List Member))
  | 0, _, s5 => some s5
  | kx10 + 1, i6, s5 => (drem ((i6 + 1 : Nat) : Int) (t3.1.length : Int)).bind fun t11 => (ix t3.1 t11).bind fun t12 => (app s5 ([t12] : List Member)).bind fun t13 => ring_After_l0 t3 kx10 (i6 + 1) t13
def ring_After (a0 : (List Member)) (a1 : Int) (a2 : Int) : Option ((List Member) × Int) := (bif ((decide (a2 < 0)) || (decide (16 < a2))) then some (([] : List Member), 1) else (ring_turned a0 a1).bind fun t3 => (bif (!decide (t3.2 = 0)) then some (([] : List Member), t3.2) else ((ring_After_l0 t3 a2.toNat 0 ([] : List Member)).bind fun s5 => some (s5, 0))))
theorem ring_After_ok {a0 : (List Member)} {a1 : Int} {a2 : Int} {r : ((List Member) × Int)} (h : ring_After a0 a1 a2 = some r) : Fn Try.prog 28 [.d a0, .d a1, .d a2] (.t2 (.d r.1) (.d r.2)) := by
  refine Fn.of Try.func28 rfl fun w m => ?_
  unfold ring_After at h
  refine T_seq ?_
  refine T_region ?_
  refine TL_y (y_assign (e_nil (α := Member))) ?_
  refine TL_y (y_assign (e_i (0))) ?_
  refine TL_nil ?_
  refine z_nt ?_
  refine T_seq ?_
  refine T_seq ?_
  refine T_region ?_
  refine TL_y (y_move (e_t rfl)) ?_
  refine TL_y (y_lss (e_t rfl) (e_i (0))) ?_
  refine TL_y (y_move (e_t rfl)) ?_
  refine TL_or 3 17 (b := (decide (a2 < 0))) (c := (decide (16 < a2))) ?_ (fun hb1 hk => ?_) (fun hb1 hk => ?_)
  rotate_left
  · refine TL_skip0 rfl hb1 ?_
    refine TL_skip0 rfl hb1 ?_
    refine TL_y (y_pick_t (e_t rfl) hb1 (e_b true)) ?_
    exact TL_fr hk (.refl _)
  · refine TL_want rfl hb1 ?_
    refine TL_y (y_move (e_t rfl)) ?_
    refine TL_want rfl hb1 ?_
    refine TL_y (y_gtr (e_t rfl) (e_i (16))) ?_
    refine TL_y (y_pick_f (e_t rfl) hb1 (e_t rfl)) ?_
    exact TL_fr hk (.cons (.cons (.refl _) rfl) rfl)
  refine TL_nil ?_
  refine z_nt ?_
  refine T_cond rfl (fun hb2 => ?_) (fun hb2 => ?_)
  · replace h := cond_t hb2 h
    refine T_seq ?_
    refine T_region ?_
    refine TL_y (y_assign (e_nil (α := Member))) ?_
    refine TL_y (y_assign (e_i (1))) ?_
    refine TL_nil ?_
    refine z_nt ?_
    refine T_ret ?_
    refine z_rt ?_
    obtain rfl := Option.some.inj h
    exact Z_ret2 (fn := Try.f28) rfl (rv_t rfl) (rv_t rfl)
  · replace h := cond_f hb2 h
    refine T_skip ?_
    refine z_nt ?_
    refine T_seq ?_
    refine T_region ?_
    refine TL_y (y_move (e_t rfl)) ?_
    refine TL_y (y_move (e_t rfl)) ?_
    obtain ⟨t3, ht3, h⟩ := bind_some h
    refine TL_call (xs := [.d (a0 : (List Member)), .d (a1 : Int)]) (ring_turned_ok ht3) ⟨(e_t rfl), (e_t rfl), trivial⟩ c59 ?_
    refine TL_y (y_move (e_t rfl)) ?_
    refine TL_y (y_extract2_0 (e_t rfl)) ?_
    refine TL_y (y_extract2_1 (e_t rfl)) ?_
    refine TL_y (y_assign (e_t rfl)) ?_
    refine TL_y (y_assign (e_t rfl)) ?_
    refine TL_nil ?_
    refine z_nt ?_
    refine T_seq ?_
    refine T_seq ?_
    refine T_region ?_
    refine TL_y (y_move (e_t rfl)) ?_
    refine TL_y (y_neq (e_t rfl) (e_i (0))) ?_
    refine TL_nil ?_
    refine z_nt ?_
    refine T_cond rfl (fun hb4 => ?_) (fun hb4 => ?_)
    · replace h := cond_t hb4 h
      refine T_seq ?_
      refine T_region ?_
      refine TL_y (y_move (e_t rfl)) ?_
      refine TL_y (y_assign (e_nil (α := Member))) ?_
      refine TL_y (y_assign (e_t rfl)) ?_
      refine TL_nil ?_
      refine z_nt ?_
      refine T_ret ?_
      refine z_rt ?_
      obtain rfl := Option.some.inj h
      exact Z_ret2 (fn := Try.f28) rfl (rv_t rfl) (rv_t rfl)
    · replace h := cond_f hb4 h
      refine T_skip ?_
      refine z_nt ?_
      refine T_seq ?_
      refine T_region ?_
      refine TL_nilg (α := Member) 39 ?_
      refine TL_nil ?_
      refine z_nt ?_
      refine T_seq ?_
      refine T_seq ?_
      refine T_region ?_
      refine TL_y (y_move (e_t rfl)) ?_
      refine TL_y (y_move (e_i (0))) ?_
      refine TL_nil ?_
      refine z_nt ?_
      obtain ⟨o7, ho7, h⟩ := bind_some h
      refine T_loopin (S := fun (s5 : (List Member)) => ⟨[(10, .g 10)], ⟨[], [(10, ⟨39, (s5 : List Member)⟩)], []⟩⟩) (fun z => z = o7) (fun s5 e => ?_) (fun hfall8 => ?_)
      · subst e
        refine z_nt ?_
        refine T_seq ?_
        refine T_region ?_
        refine TL_y (y_move (e_t rfl)) ?_
        refine TL_y (y_assign (e_t rfl)) ?_
        refine TL_y (y_assign (e_i (0))) ?_
        refine TL_nil ?_
        refine z_nt ?_
        refine T_ret ?_
        obtain rfl := Option.some.inj h
        refine Z_g2d (q := 6) rfl rfl ?_
        exact Z_ret2 (fn := Try.f28) rfl (rv_t rfl) (rv_t rfl)
      · clear h
        refine TW_le (le_k (ks := [8, 10, 27, 28]) (bs := []) (gs := [10]) (.cons rfl (.cons rfl (.cons rfl (.cons rfl .nil)))) .nil (.cons rfl .nil)) (nrange_ind a2 (fun (i6 : Nat) (s5 : (List Member)) => ⟨[(8, .d (t3.1 : (List Member))), (10, .g 10), (27, .d (a2 : Int)), (28, .d ((i6 : Int) : Int))], ⟨[], [(10, ⟨39, (s5 : List Member)⟩)], []⟩⟩) (fun k i s => ring_After_l0 t3 k i s = some o7) ?_ ?_ _ 0 ([] : List Member) (by omega) ho7)
        · intro i s hi h
          refine TW_round (T_seq (T_region ?_))
          refine TL_y (y_lss (e_t rfl) (e_t rfl)) (TL_nil (z_nt (T_seq (T_cond rfl (fun hb => absurd (of_decide_eq_true hb) (by omega)) (fun _ => T_exit ?_)))))
          refine z_et ?_
          refine z_et ?_
          refine z_ei ?_
          exact Z_le (le_k (ks := [10]) (bs := []) (gs := [10]) (.cons rfl .nil) .nil (.cons rfl .nil)) (hfall8 _ (Option.some.inj h))
        · intro kx10 i6 s5 hltx10 ih h
          replace h : ((drem ((i6 + 1 : Nat) : Int) (t3.1.length : Int)).bind fun t11 => (ix t3.1 t11).bind fun t12 => (app s5 ([t12] : List Member)).bind fun t13 => ring_After_l0 t3 kx10 (i6 + 1) t13) = some o7 := h
          refine TW_round ?_
          refine T_seq (T_region ?_)
          refine TL_y (y_lss (e_t rfl) (e_t rfl)) (TL_nil (z_nt (T_seq (T_cond rfl (fun _ => ?_) (fun hb => absurd (of_decide_eq_false hb) (by omega))))))
          refine T_skip ?_
          refine z_nt ?_
          refine T_seq ?_
          refine T_block ?_
          refine T_seq ?_
          refine T_region ?_
          refine TL_y (y_move (e_t rfl)) ?_
          refine TL_y (y_assign (e_t rfl)) ?_
          refine TL_nil ?_
          refine z_nt ?_
          refine T_region ?_
          refine TL_y (y_move (e_t rfl)) ?_
          refine TL_y (y_move (e_t rfl)) ?_
          refine TL_y (y_move (e_t rfl)) ?_
          refine TL_y (y_incn (q := 27) (e_t rfl) rfl hltx10) ?_
          refine TL_y (y_move (e_t rfl)) ?_
          refine TL_y (y_len (e_t rfl) (by rw [el28]; exact Try.underlying28)) ?_
          obtain ⟨t11, ht11, h⟩ := bind_some h
          refine TL_y (y_rem_p (e_t rfl) (e_t rfl) ht11) ?_
          obtain ⟨t12, ht12, h⟩ := bind_some h
          refine TL_y (y_indexIx (e_t rfl) (e_t rfl) ht12 tysl28) ?_
          refine TL_y (y_load_ptr (e_t rfl) ty39) ?_
          refine TL_buildSlice (xs := ([t12] : List Member)) (⟨rfl, (e_t rfl), trivial⟩) tyel28 rfl ?_
          obtain ⟨t13, ht13, h⟩ := bind_some h
          refine TL_g2d (q := 40) rfl rfl ?_
          refine TL_append (e_t rfl) rfl (e_t rfl) ht13 tyel28 ?_
          refine TL_y (y_assign (e_t rfl)) ?_
          refine TL_nil ?_
          refine z_nb ?_
          refine z_nt ?_
          refine T_region ?_
          refine TL_y (y_incn (q := 27) (e_t rfl) rfl hltx10) ?_
          refine TL_y (y_move (e_t rfl)) ?_
          refine TL_nil ?_
          refine z_nl ?_
          exact TW_le (le_k (ks := [8, 10, 27, 28]) (bs := []) (gs := [10]) (.cons rfl (.cons rfl (.cons rfl (.cons rfl .nil)))) .nil (.cons rfl .nil)) (ih _ h)
def lookup_Keeps (a0 : Overlay) (a1 : Id) (a2 : Int) : Option ((List Member) × Int) := (chord_Right a0).bind fun t1 => (bif (((!t1) || (decide (a2 < 1))) || (decide (4 < a2))) then some (([] : List Member), 1) else (chord_Members a0).bind fun t5 => (ring_Owner t5 a1).bind fun t6 => (bif (!decide (t6.2 = 0)) then some (([] : List Member), t6.2) else (ring_After t5 t6.1.no (w64 ((imin a2 (t5.length : Int)) - 1))).bind fun t8 => (bif (!decide (t8.2 = 0)) then some (([] : List Member), t8.2) else (app ([t6.1] : List Member) t8.1).bind fun t10 => some (t10, 0))))
theorem lookup_Keeps_ok {a0 : Overlay} {a1 : Id} {a2 : Int} {r : ((List Member) × Int)} (h : lookup_Keeps a0 a1 a2 = some r) : Fn Try.prog 8 [.d a0, .d a1, .d a2] (.t2 (.d r.1) (.d r.2)) := by
  refine Fn.of Try.func8 rfl fun w m => ?_
  unfold lookup_Keeps at h
  refine T_seq ?_
  refine T_region ?_
  refine TL_box (e_t rfl) ?_
  refine TL_box (e_t rfl) ?_
  refine TL_y (y_assign (e_nil (α := Member))) ?_
  refine TL_y (y_assign (e_i (0))) ?_
  refine TL_nil ?_
  refine z_nt ?_
  refine T_seq ?_
  refine T_seq ?_
  refine T_region ?_
  refine TL_y (y_load (e_t rfl) rfl Sub.self ty24) ?_
  obtain ⟨t1, ht1, h⟩ := bind_some h
  refine TL_call (xs := [.d (a0 : Overlay)]) (chord_Right_ok ht1) ⟨(e_t rfl), trivial⟩ c23 ?_
  refine TL_y (y_not (e_t rfl)) ?_
  refine TL_y (y_move (e_t rfl)) ?_
  refine TL_or 3 18 (b := (!t1)) (c := (decide (a2 < 1))) ?_ (fun hb2 hk => ?_) (fun hb2 hk => ?_)
  rotate_left
  · refine TL_skip0 rfl hb2 ?_
    refine TL_skip0 rfl hb2 ?_
    refine TL_y (y_pick_t (e_t rfl) hb2 (e_b true)) ?_
    exact TL_fr hk (.refl _)
  · refine TL_want rfl hb2 ?_
    refine TL_y (y_move (e_t rfl)) ?_
    refine TL_want rfl hb2 ?_
    refine TL_y (y_lss (e_t rfl) (e_i (1))) ?_
    refine TL_y (y_pick_f (e_t rfl) hb2 (e_t rfl)) ?_
    exact TL_fr hk (.cons (.cons (.refl _) rfl) rfl)
  refine TL_y (y_move (e_t rfl)) ?_
  refine TL_or 3 22 (b := ((!t1) || (decide (a2 < 1)))) (c := (decide (4 < a2))) ?_ (fun hb3 hk => ?_) (fun hb3 hk => ?_)
  rotate_left
  · refine TL_skip0 rfl hb3 ?_
    refine TL_skip0 rfl hb3 ?_
    refine TL_y (y_pick_t (e_t rfl) hb3 (e_b true)) ?_
    exact TL_fr hk (.refl _)
  · refine TL_want rfl hb3 ?_
    refine TL_y (y_move (e_t rfl)) ?_
    refine TL_want rfl hb3 ?_
    refine TL_y (y_gtr (e_t rfl) (e_i (4))) ?_
    refine TL_y (y_pick_f (e_t rfl) hb3 (e_t rfl)) ?_
    exact TL_fr hk (.cons (.cons (.refl _) rfl) rfl)
  refine TL_nil ?_
  refine z_nt ?_
  refine T_cond rfl (fun hb4 => ?_) (fun hb4 => ?_)
  · replace h := cond_t hb4 h
    refine T_seq ?_
    refine T_region ?_
    refine TL_y (y_assign (e_nil (α := Member))) ?_
    refine TL_y (y_assign (e_i (1))) ?_
    refine TL_nil ?_
    refine z_nt ?_
    refine T_ret ?_
    refine z_rt ?_
    obtain rfl := Option.some.inj h
    exact Z_ret2 (fn := Try.f8) rfl (rv_t rfl) (rv_t rfl)
  · replace h := cond_f hb4 h
    refine T_skip ?_
    refine z_nt ?_
    refine T_seq ?_
    refine T_region ?_
    refine TL_y (y_load (e_t rfl) rfl Sub.self ty24) ?_
    obtain ⟨t5, ht5, h⟩ := bind_some h
    refine TL_call (xs := [.d (a0 : Overlay)]) (chord_Members_ok ht5) ⟨(e_t rfl), trivial⟩ c14 ?_
    refine TL_y (y_assign (e_t rfl)) ?_
    refine TL_nil ?_
    refine z_nt ?_
    refine T_seq ?_
    refine T_region ?_
    refine TL_y (y_move (e_t rfl)) ?_
    refine TL_y (y_load (e_t rfl) rfl Sub.self ty26) ?_
    obtain ⟨t6, ht6, h⟩ := bind_some h
    refine TL_call (xs := [.d (t5 : (List Member)), .d (a1 : Id)]) (ring_Owner_ok ht6) ⟨(e_t rfl), (e_t rfl), trivial⟩ c15 ?_
    refine TL_y (y_move (e_t rfl)) ?_
    refine TL_y (y_extract2_0 (e_t rfl)) ?_
    refine TL_y (y_extract2_1 (e_t rfl)) ?_
    refine TL_alloc z39 ?_
    refine TL_store (e_t rfl) rfl (e_t rfl) Put.self ty39 (by decide) ?_
    refine TL_y (y_assign (e_t rfl)) ?_
    refine TL_nil ?_
    refine z_nt ?_
    refine T_seq ?_
    refine T_seq ?_
    refine T_region ?_
    refine TL_y (y_move (e_t rfl)) ?_
    refine TL_y (y_neq (e_t rfl) (e_i (0))) ?_
    refine TL_nil ?_
    refine z_nt ?_
    refine T_cond rfl (fun hb7 => ?_) (fun hb7 => ?_)
    · replace h := cond_t hb7 h
      refine T_seq ?_
      refine T_region ?_
      refine TL_y (y_move (e_t rfl)) ?_
      refine TL_y (y_assign (e_nil (α := Member))) ?_
      refine TL_y (y_assign (e_t rfl)) ?_
      refine TL_nil ?_
      refine z_nt ?_
      refine T_ret ?_
      refine z_rt ?_
      obtain rfl := Option.some.inj h
      exact Z_ret2 (fn := Try.f8) rfl (rv_t rfl) (rv_t rfl)
    · replace h := cond_f hb7 h
      refine T_skip ?_
      refine z_nt ?_
      refine T_seq ?_
      refine T_region ?_
      refine TL_y (y_move (e_t rfl)) ?_
      refine TL_y (y_fieldAddr (e_t rfl) fo39_0) ?_
      refine TL_y (y_load (e_t rfl) rfl s_Member_no ty3) ?_
      refine TL_y (y_move (e_t rfl)) ?_
      refine TL_y (y_move (e_t rfl)) ?_
      refine TL_y (y_len (e_t rfl) (by rw [el28]; exact Try.underlying28)) ?_
      refine TL_y (y_min (e_t rfl) (e_t rfl)) ?_
      refine TL_y (y_sub (e_t rfl) (e_i (1))) ?_
      obtain ⟨t8, ht8, h⟩ := bind_some h
      refine TL_call (xs := [.d (t5 : (List Member)), .d (t6.1.no : Int), .d ((w64 ((imin a2 (t5.length : Int)) - 1)) : Int)]) (ring_After_ok ht8) ⟨(e_t rfl), (e_t rfl), (e_t rfl), trivial⟩ c28 ?_
      refine TL_y (y_move (e_t rfl)) ?_
      refine TL_y (y_extract2_0 (e_t rfl)) ?_
      refine TL_y (y_extract2_1 (e_t rfl)) ?_
      refine TL_y (y_assign (e_t rfl)) ?_
      refine TL_y (y_assign (e_t rfl)) ?_
      refine TL_nil ?_
      refine z_nt ?_
      refine T_seq ?_
      refine T_seq ?_
      refine T_region ?_
      refine TL_y (y_move (e_t rfl)) ?_
      refine TL_y (y_neq (e_t rfl) (e_i (0))) ?_
      refine TL_nil ?_
      refine z_nt ?_
      refine T_cond rfl (fun hb9 => ?_) (fun hb9 => ?_)
      · replace h := cond_t hb9 h
        refine T_seq ?_
        refine T_region ?_
        refine TL_y (y_move (e_t rfl)) ?_
        refine TL_y (y_assign (e_nil (α := Member))) ?_
        refine TL_y (y_assign (e_t rfl)) ?_
        refine TL_nil ?_
        refine z_nt ?_
        refine T_ret ?_
        refine z_rt ?_
        obtain rfl := Option.some.inj h
        exact Z_ret2 (fn := Try.f8) rfl (rv_t rfl) (rv_t rfl)
      · replace h := cond_f hb9 h
        refine T_skip ?_
        refine z_nt ?_
        refine T_seq ?_
        refine T_region ?_
        refine TL_y (y_load (e_t rfl) rfl Sub.self ty39) ?_
        refine TL_buildSlice (xs := ([t6.1] : List Member)) (⟨rfl, (e_t rfl), trivial⟩) tyel28 rfl ?_
        refine TL_y (y_move (e_t rfl)) ?_
        obtain ⟨t10, ht10, h⟩ := bind_some h
        refine TL_appendC (e_t rfl) rfl (e_t rfl) ht10 tyel28 ?_
        refine TL_y (y_assign (e_t rfl)) ?_
        refine TL_y (y_assign (e_i (0))) ?_
        refine TL_nil ?_
        refine z_nt ?_
        refine T_ret ?_
        obtain rfl := Option.some.inj h
        refine Z_g2d (q := 6) rfl rfl ?_
        exact Z_ret2 (fn := Try.f8) rfl (rv_t rfl) (rv_t rfl)
def r10_Members_l0 : List Node → Nat → (List Member) → Option ((List Member))
  | [], _, s1 => some s1
  | x6 :: xsx6, i2, s1 => (app s1 ([x6.self] : List Member)).bind fun t7 => r10_Members_l0 xsx6 (i2 + 1) t7
def r10_Members (a0 : Overlay) : Option (List Member) := ((r10_Members_l0 a0.nodes 0 ([] : List Member)).bind fun s1 => some s1)
theorem r10_Members_ok {a0 : Overlay} {r : (List Member)} (h : r10_Members a0 = some r) : Fn Try.prog 29 [.d a0] (.d r) := by
  refine Fn.of Try.func29 rfl fun w m => ?_
  unfold r10_Members at h
  refine T_seq ?_
  refine T_region ?_
  refine TL_box (e_t rfl) ?_
  refine TL_y (y_assign (e_nil (α := Member))) ?_
  refine TL_nil ?_
  refine z_nt ?_
  refine T_seq ?_
  refine T_region ?_
  refine TL_buildSlice (xs := ([] : List Member)) (trivial) tyel28 rfl ?_
  refine TL_y (y_assign (e_t rfl)) ?_
  refine TL_nil ?_
  refine z_nt ?_
  refine T_seq ?_
  refine T_seq ?_
  refine T_region ?_
  refine TL_y (y_fieldAddr (e_t rfl) fo24_0) ?_
  refine TL_y (y_load (e_t rfl) rfl s_Overlay_nodes ty22) ?_
  refine TL_y (y_len (e_t rfl) (by rw [el22]; exact Try.underlying22)) ?_
  refine TL_y (y_move (e_i (0))) ?_
  refine TL_nil ?_
  refine z_nt ?_
  obtain ⟨o3, ho3, h⟩ := bind_some h
  refine T_loopin (S := fun (s1 : (List Member)) => ⟨[(3, .g 6)], ⟨[], [(6, ⟨39, (s1 : List Member)⟩)], []⟩⟩) (fun z => z = o3) (fun s1 e => ?_) (fun hfall4 => ?_)
  · subst e
    refine z_nt ?_
    refine T_seq ?_
    refine T_region ?_
    refine TL_y (y_move (e_t rfl)) ?_
    refine TL_y (y_assign (e_t rfl)) ?_
    refine TL_nil ?_
    refine z_nt ?_
    refine T_ret ?_
    obtain rfl := Option.some.inj h
    refine Z_g2d (q := 2) rfl rfl ?_
    exact Z_ret1 (fn := Try.f29) rfl (rv_t rfl)
  · clear h
    refine TW_le (le_k (ks := [3, 8, 9, 10]) (bs := []) (gs := [6]) (.cons rfl (.cons rfl (.cons rfl (.cons rfl .nil)))) .nil (.cons rfl .nil)) (range_ind a0.nodes (fun (i2 : Nat) (s1 : (List Member)) => ⟨[(3, .g 6), (8, .d (a0.nodes : (List Node))), (9, .d ((a0.nodes.length : Int) : Int)), (10, .d ((i2 : Int) : Int))], ⟨[], [(6, ⟨39, (s1 : List Member)⟩)], []⟩⟩) (fun xs i s => r10_Members_l0 xs i s = some o3) ?_ ?_ a0.nodes 0 ([] : List Member) rfl ho3)
    · intro i s hi h
      refine TW_round (T_seq (T_region ?_))
      refine TL_y (y_lss (e_t rfl) (e_t rfl)) (TL_nil (z_nt (T_seq (T_cond rfl (fun hb => (dec_lt hi hb).elim) (fun _ => T_exit ?_)))))
      refine z_et ?_
      refine z_et ?_
      refine z_ei ?_
      exact Z_le (le_k (ks := [3]) (bs := []) (gs := [6]) (.cons rfl .nil) .nil (.cons rfl .nil)) (hfall4 _ (Option.some.inj h))
    · intro x6 xsx6 i2 s1 hltx6 hx6 ih h
      replace h : ((app s1 ([x6.self] : List Member)).bind fun t7 => r10_Members_l0 xsx6 (i2 + 1) t7) = some o3 := h
      refine TW_round ?_
      refine T_seq (T_region ?_)
      refine TL_y (y_lss (e_t rfl) (e_t rfl)) (TL_nil (z_nt (T_seq (T_cond rfl (fun _ => ?_) (fun hb => (dec_ge hltx6 hb).elim)))))
      refine T_skip ?_
      refine z_nt ?_
      refine T_seq ?_
      refine T_block ?_
      refine T_seq ?_
      refine T_region ?_
      refine TL_y (y_indexNat (e_t rfl) (e_t rfl) hx6 tysl22) ?_
      refine TL_y (y_load_ptr (e_t rfl) ty44) ?_
      refine TL_alloc z44 ?_
      refine TL_store (e_t rfl) rfl (e_t rfl) Put.self ty44 (by decide) ?_
      refine TL_nil ?_
      refine z_nt ?_
      refine T_region ?_
      refine TL_y (y_move (e_t rfl)) ?_
      refine TL_y (y_fieldAddr (e_t rfl) fo44_0) ?_
      refine TL_y (y_load (e_t rfl) rfl s_Node_self ty39) ?_
      refine TL_buildSlice (xs := ([x6.self] : List Member)) (⟨rfl, (e_t rfl), trivial⟩) tyel28 rfl ?_
      obtain ⟨t7, ht7, h⟩ := bind_some h
      refine TL_g2d (q := 17) rfl rfl ?_
      refine TL_append (e_t rfl) rfl (e_t rfl) ht7 tyel28 ?_
      refine TL_y (y_assign (e_t rfl)) ?_
      refine TL_nil ?_
      refine z_nb ?_
      refine z_nt ?_
      refine T_region ?_
      refine TL_y (y_inc (q := 8) (e_t rfl) rfl hltx6) ?_
      refine TL_y (y_move (e_t rfl)) ?_
      refine TL_nil ?_
      refine z_nl ?_
      exact TW_le (le_k (ks := [3, 8, 9, 10]) (bs := []) (gs := [6]) (.cons rfl (.cons rfl (.cons rfl (.cons rfl .nil)))) .nil (.cons rfl .nil)) (ih _ h)
def r09_may (a0 : Member) : Option Bool := some ((decide (0 ≤ a0.no)) && (decide (a0.no ≤ 15)))
theorem r09_may_ok {a0 : Member} {r : Bool} (h : r09_may a0 = some r) : Fn Try.prog 60 [.d a0] (.d r) := by
  refine Fn.of Try.func60 rfl fun w m => ?_
  unfold r09_may at h
  refine T_seq ?_
  refine T_region ?_
  refine TL_box (e_t rfl) ?_
  refine TL_y (y_assign (e_b false)) ?_
  refine TL_nil ?_
  refine z_nt ?_
  refine T_seq ?_
  refine T_region ?_
  refine TL_y (y_fieldAddr (e_t rfl) fo39_0) ?_
  refine TL_y (y_load (e_t rfl) rfl s_Member_no ty3) ?_
  refine TL_y (y_geq (e_t rfl) (e_i (0))) ?_
  refine TL_y (y_move (e_t rfl)) ?_
  refine TL_and 4 10 (b := (decide (0 ≤ a0.no))) (c := (decide (a0.no ≤ 15))) ?_ (fun hb1 hk => ?_) (fun hb1 hk => ?_)
  rotate_left
  · refine TL_skip0 rfl hb1 ?_
    refine TL_skip0 rfl hb1 ?_
    refine TL_skip0 rfl hb1 ?_
    refine TL_y (y_pick_f (e_t rfl) hb1 (e_b false)) ?_
    exact TL_fr hk (.refl _)
  · refine TL_want rfl hb1 ?_
    refine TL_y (y_fieldAddr (e_t rfl) fo39_0) ?_
    refine TL_want rfl hb1 ?_
    refine TL_y (y_load (e_t rfl) rfl s_Member_no ty3) ?_
    refine TL_want rfl hb1 ?_
    refine TL_y (y_leq (e_t rfl) (e_i (15))) ?_
    refine TL_y (y_pick_t (e_t rfl) hb1 (e_t rfl)) ?_
    exact TL_fr hk (.cons (.cons (.cons (.refl _) rfl) rfl) rfl)
  refine TL_y (y_assign (e_t rfl)) ?_
  refine TL_nil ?_
  refine z_nt ?_
  refine T_ret ?_
  obtain rfl := Option.some.inj h
  exact Z_ret1 (fn := Try.f60) rfl (rv_t rfl)
def r09_None (a0 : Member) : Option Bool := some ((decide (a0.no = (-1))) && (decide (a0.id = (Id.zero : Id))))
theorem r09_None_ok {a0 : Member} {r : Bool} (h : r09_None a0 = some r) : Fn Try.prog 61 [.d a0] (.d r) := by
  refine Fn.of Try.func61 rfl fun w m => ?_
  unfold r09_None at h
  refine T_seq ?_
  refine T_region ?_
  refine TL_box (e_t rfl) ?_
  refine TL_y (y_assign (e_b false)) ?_
  refine TL_nil ?_
  refine z_nt ?_
  refine T_seq ?_
  refine T_region ?_
  refine TL_y (y_fieldAddr (e_t rfl) fo39_0) ?_
  refine TL_y (y_load (e_t rfl) rfl s_Member_no ty3) ?_
  refine TL_y (y_eql (e_t rfl) (e_i (-1))) ?_
  refine TL_y (y_move (e_t rfl)) ?_
  refine TL_and 5 11 (b := (decide (a0.no = (-1)))) (c := (decide (a0.id = (Id.zero : Id)))) ?_ (fun hb1 hk => ?_) (fun hb1 hk => ?_)
  rotate_left
  · refine TL_skip0 rfl hb1 ?_
    refine TL_skip0 rfl hb1 ?_
    refine TL_skip0 rfl hb1 ?_
    refine TL_skip0 rfl hb1 ?_
    refine TL_y (y_pick_f (e_t rfl) hb1 (e_b false)) ?_
    exact TL_fr hk (.refl _)
  · refine TL_want rfl hb1 ?_
    refine TL_y (y_fieldAddr (e_t rfl) fo39_1) ?_
    refine TL_want rfl hb1 ?_
    refine TL_y (y_load (e_t rfl) rfl s_Member_id ty26) ?_
    refine TL_want rfl hb1 ?_
    refine TL_y (y_build z26 pl26 (b_nil) rfl) ?_
    refine TL_want rfl hb1 ?_
    refine TL_y (y_eqlT (e_t rfl) (e_t rfl) eqT26 rfl eg26) ?_
    refine TL_y (y_pick_t (e_t rfl) hb1 (e_t rfl)) ?_
    exact TL_fr hk (.cons (.cons (.cons (.cons (.refl _) rfl) rfl) rfl) rfl)
  refine TL_y (y_assign (e_t rfl)) ?_
  refine TL_nil ?_
  refine z_nt ?_
  refine T_ret ?_
  obtain rfl := Option.some.inj h
  exact Z_ret1 (fn := Try.f61) rfl (rv_t rfl)
def r09_unlike_l1 (x6 : Member) : List Member → Nat → Unit → Option (Lo Bool (Unit))
  | [], _, _ => some (.fall ())
  | x16 :: xsx16, i12, _ => (bif (decide (x16.no = x6.no)) then some (.ret false) else r09_unlike_l1 x6 xsx16 (i12 + 1) ())
def r09_unlike_l0 (a1 : Int) (a0 : (List Member)) : List Member → Nat → Unit → Option (Lo Bool (Unit))
  | [], _, _ => some (.fall ())
  | x6 :: xsx6, i2, _ => (r09_may x6).bind fun t7 => (bif ((!t7) || (decide (x6.no = a1))) then some (.ret false) else (slh a0 (i2 : Int)).bind fun t10 => ((r09_unlike_l1 x6 t10 0 ()).bind fun o13 => match o13 with | .ret q => some (.ret q) | .fall _ => r09_unlike_l0 a1 a0 xsx6 (i2 + 1) ()))
def r09_unlike (a0 : (List Member)) (a1 : Int) : Option Bool := ((r09_unlike_l0 a1 a0 a0 0 ()).bind fun o3 => match o3 with | .ret q => some q | .fall _ => some true)
theorem r09_unlike_ok {a0 : (List Member)} {a1 : Int} {r : Bool} (h : r09_unlike a0 a1 = some r) : Fn Try.prog 62 [.d a0, .d a1] (.d r) := by
  refine Fn.of Try.func62 rfl fun w m => ?_
  unfold r09_unlike at h
  refine T_seq ?_
  refine T_region ?_
  refine TL_y (y_assign (e_b false)) ?_
  refine TL_nil ?_
  refine z_nt ?_
  refine T_seq ?_
  refine T_seq ?_
  refine T_region ?_
  refine TL_y (y_move (e_t rfl)) ?_
  refine TL_y (y_len (e_t rfl) (by rw [el28]; exact Try.underlying28)) ?_
  refine TL_y (y_move (e_i (0))) ?_
  refine TL_nil ?_
  refine z_nt ?_
  obtain ⟨o3, ho3, h⟩ := bind_some h
  refine T_loopin (S := fun (_ : Unit) => ⟨[], ⟨[], [], []⟩⟩) (fun s1 => o3 = .fall s1) (fun s1 e => ?_) (fun hfall4 => ?_)
  · subst e
    dsimp only at h
    refine z_nt ?_
    refine T_seq ?_
    refine T_region ?_
    refine TL_y (y_assign (e_b true)) ?_
    refine TL_nil ?_
    refine z_nt ?_
    refine T_ret ?_
    obtain rfl := Option.some.inj h
    exact Z_ret1 (fn := Try.f62) rfl (rv_t rfl)
  · have hret5 : ∀ q, o3 = .ret q → q = r := fun q e => by
      subst e
      dsimp only at h
      exact Option.some.inj h
    clear h
    refine TW_le (le_k (ks := [0, 1, 9, 10, 11]) (bs := []) (gs := []) (.cons rfl (.cons rfl (.cons rfl (.cons rfl (.cons rfl .nil))))) .nil .nil) (range_ind a0 (fun (i2 : Nat) (_ : Unit) => ⟨[(0, .d (a0 : (List Member))), (1, .d (a1 : Int)), (9, .d (a0 : (List Member))), (10, .d ((a0.length : Int) : Int)), (11, .d ((i2 : Int) : Int))], ⟨[], [], []⟩⟩) (fun xs i s => r09_unlike_l0 a1 a0 xs i s = some o3) ?_ ?_ a0 0 () rfl ho3)
    · intro i s hi h
      refine TW_round (T_seq (T_region ?_))
      refine TL_y (y_lss (e_t rfl) (e_t rfl)) (TL_nil (z_nt (T_seq (T_cond rfl (fun hb => (dec_lt hi hb).elim) (fun _ => T_exit ?_)))))
      refine z_et ?_
      refine z_et ?_
      refine z_ei ?_
      exact Z_le (le_k (ks := []) (bs := []) (gs := []) .nil .nil .nil) (hfall4 _ (Option.some.inj h).symm)
    · intro x6 xsx6 i2 s1 hltx6 hx6 ih h
      replace h : ((r09_may x6).bind fun t7 => (bif ((!t7) || (decide (x6.no = a1))) then some (.ret false) else (slh a0 (i2 : Int)).bind fun t10 => ((r09_unlike_l1 x6 t10 0 ()).bind fun o13 => match o13 with | .ret q => some (.ret q) | .fall _ => r09_unlike_l0 a1 a0 xsx6 (i2 + 1) ()))) = some o3 := h
      refine TW_round ?_
      refine T_seq (T_region ?_)
      refine TL_y (y_lss (e_t rfl) (e_t rfl)) (TL_nil (z_nt (T_seq (T_cond rfl (fun _ => ?_) (fun hb => (dec_ge hltx6 hb).elim)))))
      refine T_skip ?_
      refine z_nt ?_
      refine T_seq ?_
      refine T_block ?_
      refine T_seq ?_
      refine T_region ?_
      refine TL_y (y_move (e_t rfl)) ?_
      refine TL_y (y_indexNat (e_t rfl) (e_t rfl) hx6 tysl28) ?_
      refine TL_y (y_load_ptr (e_t rfl) ty39) ?_
      refine TL_alloc z39 ?_
      refine TL_y (y_assign (e_t rfl)) ?_
      refine TL_store (e_t rfl) rfl (e_t rfl) Put.self ty39 (by decide) ?_
      refine TL_nil ?_
      refine z_nt ?_
      refine T_seq ?_
      refine T_seq ?_
      refine T_region ?_
      refine TL_y (y_load (e_t rfl) rfl Sub.self ty39) ?_
      obtain ⟨t7, ht7, h⟩ := bind_some h
      refine TL_call (xs := [.d (x6 : Member)]) (r09_may_ok ht7) ⟨(e_t rfl), trivial⟩ c60 ?_
      refine TL_y (y_not (e_t rfl)) ?_
      refine TL_y (y_move (e_t rfl)) ?_
      refine TL_or 5 24 (b := (!t7)) (c := (decide (x6.no = a1))) ?_ (fun hb8 hk => ?_) (fun hb8 hk => ?_)
      rotate_left
      · refine TL_skip0 rfl hb8 ?_
        refine TL_skip0 rfl hb8 ?_
        refine TL_skip0 rfl hb8 ?_
        refine TL_skip0 rfl hb8 ?_
        refine TL_y (y_pick_t (e_t rfl) hb8 (e_b true)) ?_
        exact TL_fr hk (.refl _)
      · refine TL_want rfl hb8 ?_
        refine TL_y (y_fieldAddr (e_t rfl) fo39_0) ?_
        refine TL_want rfl hb8 ?_
        refine TL_y (y_load (e_t rfl) rfl s_Member_no ty3) ?_
        refine TL_want rfl hb8 ?_
        refine TL_y (y_move (e_t rfl)) ?_
        refine TL_want rfl hb8 ?_
        refine TL_y (y_eql (e_t rfl) (e_t rfl)) ?_
        refine TL_y (y_pick_f (e_t rfl) hb8 (e_t rfl)) ?_
        exact TL_fr hk (.cons (.cons (.cons (.cons (.refl _) rfl) rfl) rfl) rfl)
      refine TL_nil ?_
      refine z_nt ?_
      refine T_cond rfl (fun hb9 => ?_) (fun hb9 => ?_)
      · replace h := cond_t hb9 h
        refine T_seq ?_
        refine T_region ?_
        refine TL_y (y_assign (e_b false)) ?_
        refine TL_nil ?_
        refine z_nt ?_
        refine T_ret ?_
        refine z_rt ?_
        refine z_rb ?_
        refine z_rt ?_
        refine z_rt ?_
        refine z_rb ?_
        refine z_rt ?_
        obtain rfl := hret5 _ (Option.some.inj h).symm
        exact Z_ret1 (fn := Try.f62) rfl (rv_t rfl)
      · replace h := cond_f hb9 h
        refine T_skip ?_
        refine z_nt ?_
        refine T_seq ?_
        refine T_region ?_
        refine TL_y (y_move (e_t rfl)) ?_
        refine TL_y (y_move (e_t rfl)) ?_
        obtain ⟨t10, ht10, h⟩ := bind_some h
        refine TL_y (y_slh (e_t rfl) (e_t rfl) ht10 tysl28) ?_
        refine TL_y (y_len (e_t rfl) (by rw [el28]; exact Try.underlying28)) ?_
        refine TL_y (y_move (e_i (0))) ?_
        refine TL_nil ?_
        refine z_nt ?_
        obtain ⟨o13, ho13, h⟩ := bind_some h
        refine T_loopin (S := fun (_ : Unit) => ⟨[(0, .d (a0 : (List Member))), (1, .d (a1 : Int)), (9, .d (a0 : (List Member))), (10, .d ((a0.length : Int) : Int)), (11, .d ((i2 : Int) : Int))], ⟨[], [], []⟩⟩) (fun s11 => o13 = .fall s11) (fun s11 e => ?_) (fun hfall14 => ?_)
        · subst e
          dsimp only at h
          refine z_nb ?_
          refine z_nt ?_
          refine T_region ?_
          refine TL_y (y_inc (q := 0) (e_t rfl) rfl hltx6) ?_
          refine TL_y (y_move (e_t rfl)) ?_
          refine TL_nil ?_
          refine z_nl ?_
          exact TW_le (le_k (ks := [0, 1, 9, 10, 11]) (bs := []) (gs := []) (.cons rfl (.cons rfl (.cons rfl (.cons rfl (.cons rfl .nil))))) .nil .nil) (ih _ h)
        · have hret15 : ∀ q, o13 = .ret q → q = r := fun q e => by
            subst e
            dsimp only at h
            exact hret5 _ (Option.some.inj h).symm
          clear h
          refine TW_le (le_k (ks := [0, 1, 6, 9, 10, 11, 27, 28, 29]) (bs := [6]) (gs := []) (.cons rfl (.cons rfl (.cons rfl (.cons rfl (.cons rfl (.cons rfl (.cons rfl (.cons rfl (.cons rfl .nil))))))))) (.cons rfl .nil) .nil) (range_ind t10 (fun (i12 : Nat) (_ : Unit) => ⟨[(0, .d (a0 : (List Member))), (1, .d (a1 : Int)), (6, .p 6 0), (9, .d (a0 : (List Member))), (10, .d ((a0.length : Int) : Int)), (11, .d ((i2 : Int) : Int)), (27, .d (t10 : (List Member))), (28, .d ((t10.length : Int) : Int)), (29, .d ((i12 : Int) : Int))], ⟨[(6, ⟨(x6 : Member)⟩)], [], []⟩⟩) (fun xs i s => r09_unlike_l1 x6 xs i s = some o13) ?_ ?_ t10 0 () rfl ho13)
          · intro i s hi h
            refine TW_round (T_seq (T_region ?_))
            refine TL_y (y_lss (e_t rfl) (e_t rfl)) (TL_nil (z_nt (T_seq (T_cond rfl (fun hb => (dec_lt hi hb).elim) (fun _ => T_exit ?_)))))
            refine z_et ?_
            refine z_et ?_
            refine z_ei ?_
            exact Z_le (le_k (ks := [0, 1, 9, 10, 11]) (bs := []) (gs := []) (.cons rfl (.cons rfl (.cons rfl (.cons rfl (.cons rfl .nil))))) .nil .nil) (hfall14 _ (Option.some.inj h).symm)
          · intro x16 xsx16 i12 s11 hltx16 hx16 ih h
            replace h : ((bif (decide (x16.no = x6.no)) then some (.ret false) else r09_unlike_l1 x6 xsx16 (i12 + 1) ())) = some o13 := h
            refine TW_round ?_
            refine T_seq (T_region ?_)
            refine TL_y (y_lss (e_t rfl) (e_t rfl)) (TL_nil (z_nt (T_seq (T_cond rfl (fun _ => ?_) (fun hb => (dec_ge hltx16 hb).elim)))))
            refine T_skip ?_
            refine z_nt ?_
            refine T_seq ?_
            refine T_block ?_
            refine T_seq ?_
            refine T_region ?_
            refine TL_y (y_indexNat (e_t rfl) (e_t rfl) hx16 tysl28) ?_
            refine TL_y (y_load_ptr (e_t rfl) ty39) ?_
            refine TL_alloc z39 ?_
            refine TL_store (e_t rfl) rfl (e_t rfl) Put.self ty39 (by decide) ?_
            refine TL_nil ?_
            refine z_nt ?_
            refine T_seq ?_
            refine T_region ?_
            refine TL_y (y_fieldAddr (e_t rfl) fo39_0) ?_
            refine TL_y (y_load (e_t rfl) rfl s_Member_no ty3) ?_
            refine TL_y (y_fieldAddr (e_t rfl) fo39_0) ?_
            refine TL_y (y_load (e_t rfl) rfl s_Member_no ty3) ?_
            refine TL_y (y_eql (e_t rfl) (e_t rfl)) ?_
            refine TL_nil ?_
            refine z_nt ?_
            refine T_cond rfl (fun hb17 => ?_) (fun hb17 => ?_)
            · replace h := cond_t hb17 h
              refine T_seq ?_
              refine T_region ?_
              refine TL_y (y_assign (e_b false)) ?_
              refine TL_nil ?_
              refine z_nt ?_
              refine T_ret ?_
              refine z_rb ?_
              refine z_rt ?_
              refine z_rt ?_
              refine z_rb ?_
              refine z_rb ?_
              refine z_rt ?_
              refine z_rt ?_
              refine z_rb ?_
              refine z_rt ?_
              obtain rfl := hret15 _ (Option.some.inj h).symm
              exact Z_ret1 (fn := Try.f62) rfl (rv_t rfl)
            · replace h := cond_f hb17 h
              refine T_skip ?_
              refine z_nb ?_
              refine z_nt ?_
              refine T_region ?_
              refine TL_y (y_inc (q := 27) (e_t rfl) rfl hltx16) ?_
              refine TL_y (y_move (e_t rfl)) ?_
              refine TL_nil ?_
              refine z_nl ?_
              exact TW_le (le_k (ks := [0, 1, 6, 9, 10, 11, 27, 28, 29]) (bs := [6]) (gs := []) (.cons rfl (.cons rfl (.cons rfl (.cons rfl (.cons rfl (.cons rfl (.cons rfl (.cons rfl (.cons rfl .nil))))))))) (.cons rfl .nil) .nil) (ih _ h)
end Go.Ph
set_option maxRecDepth 4000
set_option maxHeartbeats 4000000
namespace Go.Ph
open Go.Proofs
def r09_Right (a0 : Node) : Option Bool := (r09_may a0.self).bind fun t1 => ((bif (!t1) then some true else (r09_None a0.pred).bind fun t11 => ((bif (!t11) then (r09_may a0.pred).bind fun t16 => some ((!t16) || (decide (a0.pred.no = a0.self.no))) else some false)).bind fun t15 => some t15)).bind fun t10 => (bif t10 then some false else ((bif (((decide ((a0.succs.length : Int) < 1)) || (decide (4 < (a0.succs.length : Int)))) || (decide (16 < (a0.fingers.length : Int)))) then some true else (r09_unlike a0.fingers a0.self.no).bind fun t24 => some (!t24))).bind fun t23 => (bif t23 then some false else ((bif (decide ((a0.succs.length : Int) = 1)) then (ix a0.succs 0).bind fun t29 => some (decide (t29 = a0.self)) else some false)).bind fun t28 => ((bif t28 then some true else (r09_unlike a0.succs a0.self.no).bind fun t33 => some t33)).bind fun t32 => some t32))
theorem r09_Right_ok {a0 : Node} {r : Bool} (h : r09_Right a0 = some r) : Fn Try.prog 30 [.d a0] (.d r) := by
  refine Fn.of Try.func30 rfl fun w m => ?_
  unfold r09_Right at h
  refine T_seq ?_
  refine T_region ?_
  refine TL_box (e_t rfl) ?_
  refine TL_y (y_assign (e_b false)) ?_
  refine TL_nil ?_
  refine z_nt ?_
  refine T_seq ?_
  refine T_seq ?_
  refine T_region ?_
  refine TL_y (y_fieldAddr (e_t rfl) fo44_0) ?_
  refine TL_y (y_load (e_t rfl) rfl s_Node_self ty39) ?_
  obtain ⟨t1, ht1, h⟩ := bind_some h
  refine TL_call (xs := [.d (a0.self : Member)]) (r09_may_ok ht1) ⟨(e_t rfl), trivial⟩ c60 ?_
  refine TL_y (y_not (e_t rfl)) ?_
  refine TL_y (y_move (e_t rfl)) ?_
  obtain ⟨t10, ht10, h⟩ := bind_some h
  refine TL_cut 20 27 (r := t10) (!t1) ?_ (fun hb2 hk => ?_) (fun hb2 hk => ?_)
  rotate_left
  · obtain rfl := Option.some.inj (cond_t hb2 ht10)
    refine TL_skip0 rfl hb2 ?_
    refine TL_skip0 rfl hb2 ?_
    refine TL_skip0 rfl hb2 ?_
    refine TL_skip0 rfl hb2 ?_
    refine TL_skips rfl hb2 ?_
    refine TL_skipu rfl ?_
    refine TL_skipu rfl ?_
    refine TL_skipu rfl ?_
    refine TL_skipu rfl ?_
    refine TL_skipus rfl ?_
    refine TL_skipu rfl ?_
    refine TL_skipu rfl ?_
    refine TL_skipu rfl ?_
    refine TL_skipu rfl ?_
    refine TL_skipu rfl ?_
    refine TL_skipu rfl ?_
    refine TL_skipu rfl ?_
    refine TL_skipu rfl ?_
    refine TL_skip0 rfl hb2 ?_
    refine TL_y (y_pick_t (e_t rfl) hb2 (e_b true)) ?_
    exact TL_fr hk (.cons (.cons (.refl _) rfl) rfl)
  · replace h := cond_f hb2 ht10
    refine TL_want rfl hb2 ?_
    refine TL_y (y_fieldAddr (e_t rfl) fo44_1) ?_
    refine TL_want rfl hb2 ?_
    refine TL_y (y_load (e_t rfl) rfl s_Node_pred ty39) ?_
    refine TL_want rfl hb2 ?_
    obtain ⟨t11, ht11, h⟩ := bind_some h
    refine TL_call (xs := [.d (a0.pred : Member)]) (r09_None_ok ht11) ⟨(e_t rfl), trivial⟩ c61 ?_
    refine TL_want rfl hb2 ?_
    refine TL_y (y_not (e_t rfl)) ?_
    refine TL_want rfl hb2 ?_
    refine TL_y (y_move (e_t rfl)) ?_
    obtain ⟨t15, ht15, h⟩ := bind_some h
    refine TL_cut 14 26 (r := t15) (!t11) ?_ (fun hb12 hk => ?_) (fun hb12 hk => ?_)
    rotate_left
    · replace h := cond_t hb12 ht15
      refine TL_want rfl hb12 ?_
      refine TL_y (y_fieldAddr (e_t rfl) fo44_1) ?_
      refine TL_want rfl hb12 ?_
      refine TL_y (y_load (e_t rfl) rfl s_Node_pred ty39) ?_
      refine TL_want rfl hb12 ?_
      obtain ⟨t16, ht16, h⟩ := bind_some h
      refine TL_call (xs := [.d (a0.pred : Member)]) (r09_may_ok ht16) ⟨(e_t rfl), trivial⟩ c60 ?_
      refine TL_want rfl hb12 ?_
      refine TL_y (y_not (e_t rfl)) ?_
      refine TL_want rfl hb12 ?_
      refine TL_y (y_move (e_t rfl)) ?_
      refine TL_or 8 25 (b := (!t16)) (c := (decide (a0.pred.no = a0.self.no))) ?_ (fun hb17 hk => ?_) (fun hb17 hk => ?_)
      rotate_left
      · refine TL_skip0 rfl hb17 ?_
        refine TL_skip0 rfl hb17 ?_
        refine TL_skip0 rfl hb17 ?_
        refine TL_skip0 rfl hb17 ?_
        refine TL_skip0 rfl hb17 ?_
        refine TL_skip0 rfl hb17 ?_
        refine TL_skip0 rfl hb17 ?_
        refine TL_want rfl hb12 ?_
        refine TL_y (y_pick_t (e_t rfl) hb17 (e_b true)) ?_
        exact TL_fr hk (.refl _)
      · refine TL_want rfl hb17 ?_
        refine TL_y (y_fieldAddr (e_t rfl) fo44_1) ?_
        refine TL_want rfl hb17 ?_
        refine TL_y (y_fieldAddr (e_t rfl) fo39_0) ?_
        refine TL_want rfl hb17 ?_
        refine TL_y (y_load (e_t rfl) rfl s_Node_pred_no ty3) ?_
        refine TL_want rfl hb17 ?_
        refine TL_y (y_fieldAddr (e_t rfl) fo44_0) ?_
        refine TL_want rfl hb17 ?_
        refine TL_y (y_fieldAddr (e_t rfl) fo39_0) ?_
        refine TL_want rfl hb17 ?_
        refine TL_y (y_load (e_t rfl) rfl s_Node_self_no ty3) ?_
        refine TL_want rfl hb17 ?_
        refine TL_y (y_eql (e_t rfl) (e_t rfl)) ?_
        refine TL_want rfl hb12 ?_
        refine TL_y (y_pick_f (e_t rfl) hb17 (e_t rfl)) ?_
        exact TL_fr hk (.cons (.cons (.cons (.cons (.cons (.cons (.cons (.refl _) rfl) rfl) rfl) rfl) rfl) rfl) rfl)
      obtain rfl := Option.some.inj h
      refine TL_want rfl hb2 ?_
      refine TL_y (y_pick_t (e_t rfl) hb12 (e_t rfl)) ?_
      exact TL_fr hk (.cons (.cons (.cons (.cons (.cons (.cons (.refl _) rfl) rfl) rfl) rfl) rfl) rfl)
    · obtain rfl := Option.some.inj (cond_f hb12 ht15)
      refine TL_skip0 rfl hb12 ?_
      refine TL_skip0 rfl hb12 ?_
      refine TL_skip0 rfl hb12 ?_
      refine TL_skip0 rfl hb12 ?_
      refine TL_skips rfl hb12 ?_
      refine TL_skipu rfl ?_
      refine TL_skipu rfl ?_
      refine TL_skipu rfl ?_
      refine TL_skipu rfl ?_
      refine TL_skipu rfl ?_
      refine TL_skipu rfl ?_
      refine TL_skipu rfl ?_
      refine TL_skip0 rfl hb12 ?_
      refine TL_want rfl hb2 ?_
      refine TL_y (y_pick_f (e_t rfl) hb12 (e_b false)) ?_
      exact TL_fr hk (.cons (.refl _) rfl)
    obtain rfl := Option.some.inj h
    refine TL_y (y_pick_f (e_t rfl) hb2 (e_t rfl)) ?_
    exact TL_fr hk (.cons (.cons (.cons (.cons (.cons (.cons (.refl _) rfl) rfl) rfl) rfl) rfl) rfl)
  refine TL_nil ?_
  refine z_nt ?_
  refine T_cond rfl (fun hb18 => ?_) (fun hb18 => ?_)
  · replace h := cond_t hb18 h
    refine T_seq ?_
    refine T_region ?_
    refine TL_y (y_assign (e_b false)) ?_
    refine TL_nil ?_
    refine z_nt ?_
    refine T_ret ?_
    refine z_rt ?_
    obtain rfl := Option.some.inj h
    exact Z_ret1 (fn := Try.f30) rfl (rv_t rfl)
  · replace h := cond_f hb18 h
    refine T_skip ?_
    refine z_nt ?_
    refine T_seq ?_
    refine T_seq ?_
    refine T_region ?_
    refine TL_y (y_fieldAddr (e_t rfl) fo44_2) ?_
    refine TL_y (y_load (e_t rfl) rfl s_Node_succs ty28) ?_
    refine TL_y (y_len (e_t rfl) (by rw [el28]; exact Try.underlying28)) ?_
    refine TL_y (y_lss (e_t rfl) (e_i (1))) ?_
    refine TL_y (y_move (e_t rfl)) ?_
    refine TL_or 5 37 (b := (decide ((a0.succs.length : Int) < 1))) (c := (decide (4 < (a0.succs.length : Int)))) ?_ (fun hb19 hk => ?_) (fun hb19 hk => ?_)
    rotate_left
    · refine TL_skip0 rfl hb19 ?_
      refine TL_skip0 rfl hb19 ?_
      refine TL_skip0 rfl hb19 ?_
      refine TL_skip0 rfl hb19 ?_
      refine TL_y (y_pick_t (e_t rfl) hb19 (e_b true)) ?_
      exact TL_fr hk (.refl _)
    · refine TL_want rfl hb19 ?_
      refine TL_y (y_fieldAddr (e_t rfl) fo44_2) ?_
      refine TL_want rfl hb19 ?_
      refine TL_y (y_load (e_t rfl) rfl s_Node_succs ty28) ?_
      refine TL_want rfl hb19 ?_
      refine TL_y (y_len (e_t rfl) (by rw [el28]; exact Try.underlying28)) ?_
      refine TL_want rfl hb19 ?_
      refine TL_y (y_gtr (e_t rfl) (e_i (4))) ?_
      refine TL_y (y_pick_f (e_t rfl) hb19 (e_t rfl)) ?_
      exact TL_fr hk (.cons (.cons (.cons (.cons (.refl _) rfl) rfl) rfl) rfl)
    refine TL_y (y_move (e_t rfl)) ?_
    refine TL_or 5 43 (b := ((decide ((a0.succs.length : Int) < 1)) || (decide (4 < (a0.succs.length : Int))))) (c := (decide (16 < (a0.fingers.length : Int)))) ?_ (fun hb20 hk => ?_) (fun hb20 hk => ?_)
    rotate_left
    · refine TL_skip0 rfl hb20 ?_
      refine TL_skip0 rfl hb20 ?_
      refine TL_skip0 rfl hb20 ?_
      refine TL_skip0 rfl hb20 ?_
      refine TL_y (y_pick_t (e_t rfl) hb20 (e_b true)) ?_
      exact TL_fr hk (.refl _)
    · refine TL_want rfl hb20 ?_
      refine TL_y (y_fieldAddr (e_t rfl) fo44_3) ?_
      refine TL_want rfl hb20 ?_
      refine TL_y (y_load (e_t rfl) rfl s_Node_fingers ty28) ?_
      refine TL_want rfl hb20 ?_
      refine TL_y (y_len (e_t rfl) (by rw [el28]; exact Try.underlying28)) ?_
      refine TL_want rfl hb20 ?_
      refine TL_y (y_gtr (e_t rfl) (e_i (16))) ?_
      refine TL_y (y_pick_f (e_t rfl) hb20 (e_t rfl)) ?_
      exact TL_fr hk (.cons (.cons (.cons (.cons (.refl _) rfl) rfl) rfl) rfl)
    refine TL_y (y_move (e_t rfl)) ?_
    obtain ⟨t23, ht23, h⟩ := bind_some h
    refine TL_cut 8 52 (r := t23) (((decide ((a0.succs.length : Int) < 1)) || (decide (4 < (a0.succs.length : Int)))) || (decide (16 < (a0.fingers.length : Int)))) ?_ (fun hb21 hk => ?_) (fun hb21 hk => ?_)
    rotate_left
    · obtain rfl := Option.some.inj (cond_t hb21 ht23)
      refine TL_skip0 rfl hb21 ?_
      refine TL_skip0 rfl hb21 ?_
      refine TL_skip0 rfl hb21 ?_
      refine TL_skip0 rfl hb21 ?_
      refine TL_skip0 rfl hb21 ?_
      refine TL_skip0 rfl hb21 ?_
      refine TL_skip0 rfl hb21 ?_
      refine TL_y (y_pick_t (e_t rfl) hb21 (e_b true)) ?_
      exact TL_fr hk (.refl _)
    · replace h := cond_f hb21 ht23
      refine TL_want rfl hb21 ?_
      refine TL_y (y_fieldAddr (e_t rfl) fo44_3) ?_
      refine TL_want rfl hb21 ?_
      refine TL_y (y_load (e_t rfl) rfl s_Node_fingers ty28) ?_
      refine TL_want rfl hb21 ?_
      refine TL_y (y_fieldAddr (e_t rfl) fo44_0) ?_
      refine TL_want rfl hb21 ?_
      refine TL_y (y_fieldAddr (e_t rfl) fo39_0) ?_
      refine TL_want rfl hb21 ?_
      refine TL_y (y_load (e_t rfl) rfl s_Node_self_no ty3) ?_
      refine TL_want rfl hb21 ?_
      obtain ⟨t24, ht24, h⟩ := bind_some h
      refine TL_call (xs := [.d (a0.fingers : (List Member)), .d (a0.self.no : Int)]) (r09_unlike_ok ht24) ⟨(e_t rfl), (e_t rfl), trivial⟩ c62 ?_
      refine TL_want rfl hb21 ?_
      refine TL_y (y_not (e_t rfl)) ?_
      obtain rfl := Option.some.inj h
      refine TL_y (y_pick_f (e_t rfl) hb21 (e_t rfl)) ?_
      exact TL_fr hk (.cons (.cons (.cons (.cons (.cons (.cons (.cons (.refl _) rfl) rfl) rfl) rfl) rfl) rfl) rfl)
    refine TL_nil ?_
    refine z_nt ?_
    refine T_cond rfl (fun hb25 => ?_) (fun hb25 => ?_)
    · replace h := cond_t hb25 h
      refine T_seq ?_
      refine T_region ?_
      refine TL_y (y_assign (e_b false)) ?_
      refine TL_nil ?_
      refine z_nt ?_
      refine T_ret ?_
      refine z_rt ?_
      obtain rfl := Option.some.inj h
      exact Z_ret1 (fn := Try.f30) rfl (rv_t rfl)
    · replace h := cond_f hb25 h
      refine T_skip ?_
      refine z_nt ?_
      refine T_seq ?_
      refine T_draw hmix (by kernel_rfl) ?_
      refine TQ_y (y_fieldAddr (e_t rfl) fo44_2) ?_
      refine TQ_y (y_load (e_t rfl) rfl s_Node_succs ty28) ?_
      refine TQ_y (y_len (e_t rfl) (by rw [el28]; exact Try.underlying28)) ?_
      refine TQ_y (y_eql (e_t rfl) (e_i (1))) ?_
      refine TQ_y (y_move (e_t rfl)) ?_
      obtain ⟨t28, ht28, h⟩ := bind_some h
      refine TQ_cut 8 65 (r := t28) (decide ((a0.succs.length : Int) = 1)) ?_ (fun hb26 hk => ?_) (fun hb26 hk => ?_)
      rotate_left
      · replace h := cond_t hb26 ht28
        refine TQ_want rfl hb26 ?_
        refine TQ_y (y_fieldAddr (e_t rfl) fo44_2) ?_
        refine TQ_want rfl hb26 ?_
        refine TQ_y (y_load (e_t rfl) rfl s_Node_succs ty28) ?_
        refine TQ_want rfl hb26 ?_
        obtain ⟨t29, ht29, h⟩ := bind_some h
        refine TQ_y (y_indexIx (e_t rfl) (e_i (0)) ht29 tysl28) ?_
        refine TQ_want rfl hb26 ?_
        refine TQ_y (y_load_ptr (e_t rfl) ty39) ?_
        refine TQ_want rfl hb26 ?_
        refine TQ_y (y_fieldAddr (e_t rfl) fo44_0) ?_
        refine TQ_want rfl hb26 ?_
        refine TQ_y (y_load (e_t rfl) rfl s_Node_self ty39) ?_
        refine TQ_want rfl hb26 ?_
        refine TQ_y (y_eqlT (e_t rfl) (e_t rfl) eqT39 rfl eg39) ?_
        obtain rfl := Option.some.inj h
        refine TQ_y (y_pick_t (e_t rfl) hb26 (e_t rfl)) ?_
        exact TQ_fr hk (.cons (.cons (.cons (.cons (.cons (.cons (.cons (.refl _) rfl) rfl) rfl) rfl) rfl) rfl) rfl)
      · obtain rfl := Option.some.inj (cond_f hb26 ht28)
        refine TQ_skip0 rfl hb26 ?_
        refine TQ_skip0 rfl hb26 ?_
        refine TQ_skip0 rfl hb26 ?_
        refine TQ_skip0 rfl hb26 ?_
        refine TQ_skip0 rfl hb26 ?_
        refine TQ_skip0 rfl hb26 ?_
        refine TQ_skip0 rfl hb26 ?_
        refine TQ_y (y_pick_f (e_t rfl) hb26 (e_b false)) ?_
        exact TQ_fr hk (.refl _)
      refine TQ_y (y_move (e_t rfl)) ?_
      obtain ⟨t32, ht32, h⟩ := bind_some h
      refine TQ_cut 7 73 (r := t32) t28 ?_ (fun hb30 hk => ?_) (fun hb30 hk => ?_)
      rotate_left
      · obtain rfl := Option.some.inj (cond_t hb30 ht32)
        refine TQ_skip0 rfl hb30 ?_
        refine TQ_skip0 rfl hb30 ?_
        refine TQ_skip0 rfl hb30 ?_
        refine TQ_skip0 rfl hb30 ?_
        refine TQ_skip0 rfl hb30 ?_
        refine TQ_skip0 rfl hb30 ?_
        refine TQ_y (y_pick_t (e_t rfl) hb30 (e_b true)) ?_
        exact TQ_fr hk (.refl _)
      · replace h := cond_f hb30 ht32
        refine TQ_want rfl hb30 ?_
        refine TQ_y (y_fieldAddr (e_t rfl) fo44_2) ?_
        refine TQ_want rfl hb30 ?_
        refine TQ_y (y_load (e_t rfl) rfl s_Node_succs ty28) ?_
        refine TQ_want rfl hb30 ?_
        refine TQ_y (y_fieldAddr (e_t rfl) fo44_0) ?_
        refine TQ_want rfl hb30 ?_
        refine TQ_y (y_fieldAddr (e_t rfl) fo39_0) ?_
        refine TQ_want rfl hb30 ?_
        refine TQ_y (y_load (e_t rfl) rfl s_Node_self_no ty3) ?_
        refine TQ_want rfl hb30 ?_
        obtain ⟨t33, ht33, h⟩ := bind_some h
        refine TQ_y (y_call (xs := [.d (a0.succs : (List Member)), .d (a0.self.no : Int)]) (r09_unlike_ok ht33) ⟨(e_t rfl), (e_t rfl), trivial⟩ c62) ?_
        obtain rfl := Option.some.inj h
        refine TQ_y (y_pick_f (e_t rfl) hb30 (e_t rfl)) ?_
        exact TQ_fr hk (.cons (.cons (.cons (.cons (.cons (.cons (.refl _) rfl) rfl) rfl) rfl) rfl) rfl)
      refine TQ_y (y_assign (e_t rfl)) ?_
      refine TQ_nil ?_
      refine z_nt ?_
      refine T_ret ?_
      obtain rfl := Option.some.inj h
      exact Z_ret1 (fn := Try.f30) rfl (rv_t rfl)
def r10_Known (a0 : Node) : Option (List Member) := (app ([a0.pred] : List Member) a0.succs).bind fun t1 => (app t1 a0.fingers).bind fun t2 => some t2
theorem r10_Known_ok {a0 : Node} {r : (List Member)} (h : r10_Known a0 = some r) : Fn Try.prog 31 [.d a0] (.d r) := by
  refine Fn.of Try.func31 rfl fun w m => ?_
  unfold r10_Known at h
  refine T_seq ?_
  refine T_region ?_
  refine TL_box (e_t rfl) ?_
  refine TL_y (y_assign (e_nil (α := Member))) ?_
  refine TL_nil ?_
  refine z_nt ?_
  refine T_seq ?_
  refine T_region ?_
  refine TL_y (y_fieldAddr (e_t rfl) fo44_1) ?_
  refine TL_y (y_load (e_t rfl) rfl s_Node_pred ty39) ?_
  refine TL_buildSlice (xs := ([a0.pred] : List Member)) (⟨rfl, (e_t rfl), trivial⟩) tyel28 rfl ?_
  refine TL_y (y_assign (e_t rfl)) ?_
  refine TL_nil ?_
  refine z_nt ?_
  refine T_seq ?_
  refine T_region ?_
  refine TL_y (y_move (e_t rfl)) ?_
  refine TL_y (y_fieldAddr (e_t rfl) fo44_2) ?_
  refine TL_y (y_load (e_t rfl) rfl s_Node_succs ty28) ?_
  obtain ⟨t1, ht1, h⟩ := bind_some h
  refine TL_append (e_t rfl) rfl (e_t rfl) ht1 tyel28 ?_
  refine TL_y (y_assign (e_t rfl)) ?_
  refine TL_nil ?_
  refine z_nt ?_
  refine T_seq ?_
  refine T_region ?_
  refine TL_y (y_move (e_t rfl)) ?_
  refine TL_y (y_fieldAddr (e_t rfl) fo44_3) ?_
  refine TL_y (y_load (e_t rfl) rfl s_Node_fingers ty28) ?_
  obtain ⟨t2, ht2, h⟩ := bind_some h
  refine TL_append (e_t rfl) rfl (e_t rfl) ht2 tyel28 ?_
  refine TL_y (y_assign (e_t rfl)) ?_
  refine TL_nil ?_
  refine z_nt ?_
  refine T_seq ?_
  refine T_region ?_
  refine TL_y (y_move (e_t rfl)) ?_
  refine TL_y (y_assign (e_t rfl)) ?_
  refine TL_nil ?_
  refine z_nt ?_
  refine T_ret ?_
  obtain rfl := Option.some.inj h
  refine Z_g2d (q := 2) rfl rfl ?_
  exact Z_ret1 (fn := Try.f31) rfl (rv_t rfl)
def r07_Find_l0 (a1 : Int) : List Member → Nat → Member → Option (Lo Member (Member))
  | [], _, s1 => some (.fall s1)
  | x6 :: xsx6, i2, s1 => (bif (decide (x6.no = a1)) then some (.ret x6) else r07_Find_l0 a1 xsx6 (i2 + 1) s1)
def r07_Find (a0 : (List Member)) (a1 : Int) : Option Member := ((r07_Find_l0 a1 a0 0 Member.zero).bind fun o3 => match o3 with | .ret q => some q | .fall _ => some ({ Member.zero with no := (-1) } : Member))
theorem r07_Find_ok {a0 : (List Member)} {a1 : Int} {r : Member} (h : r07_Find a0 a1 = some r) : Fn Try.prog 32 [.d a0, .d a1] (.d r) := by
  refine Fn.of Try.func32 rfl fun w m => ?_
  unfold r07_Find at h
  refine T_seq ?_
  refine T_region ?_
  refine TL_alloc z39 ?_
  refine TL_nil ?_
  refine z_nt ?_
  refine T_seq ?_
  refine T_seq ?_
  refine T_region ?_
  refine TL_y (y_move (e_t rfl)) ?_
  refine TL_y (y_len (e_t rfl) (by rw [el28]; exact Try.underlying28)) ?_
  refine TL_y (y_move (e_i (0))) ?_
  refine TL_nil ?_
  refine z_nt ?_
  obtain ⟨o3, ho3, h⟩ := bind_some h
  refine T_loopin (S := fun (s1 : Member) => ⟨[(4, .p 4 0)], ⟨[(4, ⟨(s1 : Member)⟩)], [], []⟩⟩) (fun s1 => o3 = .fall s1) (fun s1 e => ?_) (fun hfall4 => ?_)
  · subst e
    dsimp only at h
    refine z_nt ?_
    refine T_seq ?_
    refine T_region ?_
    refine TL_y (y_build z39 pl39 (b_cons (e_i (-1)) p_Member_no (b_nil)) rfl) ?_
    refine TL_store (e_t rfl) rfl (e_t rfl) Put.self ty39 (by decide) ?_
    refine TL_nil ?_
    refine z_nt ?_
    refine T_ret ?_
    obtain rfl := Option.some.inj h
    exact Z_ret1 (fn := Try.f32) rfl (rv_c rfl rfl ty39)
  · have hret5 : ∀ q, o3 = .ret q → q = r := fun q e => by
      subst e
      dsimp only at h
      exact Option.some.inj h
    clear h
    refine TW_le (le_k (ks := [1, 4, 7, 8, 9]) (bs := [4]) (gs := []) (.cons rfl (.cons rfl (.cons rfl (.cons rfl (.cons rfl .nil))))) (.cons rfl .nil) .nil) (range_ind a0 (fun (i2 : Nat) (s1 : Member) => ⟨[(1, .d (a1 : Int)), (4, .p 4 0), (7, .d (a0 : (List Member))), (8, .d ((a0.length : Int) : Int)), (9, .d ((i2 : Int) : Int))], ⟨[(4, ⟨(s1 : Member)⟩)], [], []⟩⟩) (fun xs i s => r07_Find_l0 a1 xs i s = some o3) ?_ ?_ a0 0 Member.zero rfl ho3)
    · intro i s hi h
      refine TW_round (T_seq (T_region ?_))
      refine TL_y (y_lss (e_t rfl) (e_t rfl)) (TL_nil (z_nt (T_seq (T_cond rfl (fun hb => (dec_lt hi hb).elim) (fun _ => T_exit ?_)))))
      refine z_et ?_
      refine z_et ?_
      refine z_ei ?_
      exact Z_le (le_k (ks := [4]) (bs := [4]) (gs := []) (.cons rfl .nil) (.cons rfl .nil) .nil) (hfall4 _ (Option.some.inj h).symm)
    · intro x6 xsx6 i2 s1 hltx6 hx6 ih h
      replace h : ((bif (decide (x6.no = a1)) then some (.ret x6) else r07_Find_l0 a1 xsx6 (i2 + 1) s1)) = some o3 := h
      refine TW_round ?_
      refine T_seq (T_region ?_)
      refine TL_y (y_lss (e_t rfl) (e_t rfl)) (TL_nil (z_nt (T_seq (T_cond rfl (fun _ => ?_) (fun hb => (dec_ge hltx6 hb).elim)))))
      refine T_skip ?_
      refine z_nt ?_
      refine T_seq ?_
      refine T_block ?_
      refine T_seq ?_
      refine T_region ?_
      refine TL_y (y_indexNat (e_t rfl) (e_t rfl) hx6 tysl28) ?_
      refine TL_y (y_load_ptr (e_t rfl) ty39) ?_
      refine TL_alloc z39 ?_
      refine TL_store (e_t rfl) rfl (e_t rfl) Put.self ty39 (by decide) ?_
      refine TL_nil ?_
      refine z_nt ?_
      refine T_seq ?_
      refine T_region ?_
      refine TL_y (y_fieldAddr (e_t rfl) fo39_0) ?_
      refine TL_y (y_load (e_t rfl) rfl s_Member_no ty3) ?_
      refine TL_y (y_move (e_t rfl)) ?_
      refine TL_y (y_eql (e_t rfl) (e_t rfl)) ?_
      refine TL_nil ?_
      refine z_nt ?_
      refine T_cond rfl (fun hb7 => ?_) (fun hb7 => ?_)
      · replace h := cond_t hb7 h
        refine T_seq ?_
        refine T_region ?_
        refine TL_y (y_load (e_t rfl) rfl Sub.self ty39) ?_
        refine TL_store (e_t rfl) rfl (e_t rfl) Put.self ty39 (by decide) ?_
        refine TL_nil ?_
        refine z_nt ?_
        refine T_ret ?_
        refine z_rb ?_
        refine z_rt ?_
        refine z_rt ?_
        refine z_rb ?_
        refine z_rt ?_
        obtain rfl := hret5 _ (Option.some.inj h).symm
        exact Z_ret1 (fn := Try.f32) rfl (rv_c rfl rfl ty39)
      · replace h := cond_f hb7 h
        refine T_skip ?_
        refine z_nb ?_
        refine z_nt ?_
        refine T_region ?_
        refine TL_y (y_inc (q := 7) (e_t rfl) rfl hltx6) ?_
        refine TL_y (y_move (e_t rfl)) ?_
        refine TL_nil ?_
        refine z_nl ?_
        exact TW_le (le_k (ks := [1, 4, 7, 8, 9]) (bs := [4]) (gs := []) (.cons rfl (.cons rfl (.cons rfl (.cons rfl (.cons rfl .nil))))) (.cons rfl .nil) .nil) (ih _ h)
def r07_Right_l1 (x6 : Member) : List Member → Nat → Unit → Option (Lo Bool (Unit))
  | [], _, _ => some (.fall ())
  | x15 :: xsx15, i11, _ => (bif ((decide (x15.no = x6.no)) || (decide (x15.id = x6.id))) then some (.ret false) else r07_Right_l1 x6 xsx15 (i11 + 1) ())
def r07_Right_l0 (a0 : (List Member)) : List Member → Nat → Unit → Option (Lo Bool (Unit))
  | [], _, _ => some (.fall ())
  | x6 :: xsx6, i2, _ => (bif ((decide (x6.no < 0)) || (decide (15 < x6.no))) then some (.ret false) else (slh a0 (i2 : Int)).bind fun t9 => ((r07_Right_l1 x6 t9 0 ()).bind fun o12 => match o12 with | .ret q => some (.ret q) | .fall _ => r07_Right_l0 a0 xsx6 (i2 + 1) ()))
def r07_Right (a0 : (List Member)) : Option Bool := ((r07_Right_l0 a0 a0 0 ()).bind fun o3 => match o3 with | .ret q => some q | .fall _ => some (decide ((a0.length : Int) ≤ 16)))
theorem r07_Right_ok {a0 : (List Member)} {r : Bool} (h : r07_Right a0 = some r) : Fn Try.prog 33 [.d a0] (.d r) := by
  refine Fn.of Try.func33 rfl fun w m => ?_
  unfold r07_Right at h
  refine T_seq ?_
  refine T_region ?_
  refine TL_y (y_assign (e_b false)) ?_
  refine TL_nil ?_
  refine z_nt ?_
  refine T_seq ?_
  refine T_seq ?_
  refine T_region ?_
  refine TL_y (y_move (e_t rfl)) ?_
  refine TL_y (y_len (e_t rfl) (by rw [el28]; exact Try.underlying28)) ?_
  refine TL_y (y_move (e_i (0))) ?_
  refine TL_nil ?_
  refine z_nt ?_
  obtain ⟨o3, ho3, h⟩ := bind_some h
  refine T_loopin (S := fun (_ : Unit) => ⟨[(0, .d (a0 : (List Member)))], ⟨[], [], []⟩⟩) (fun s1 => o3 = .fall s1) (fun s1 e => ?_) (fun hfall4 => ?_)
  · subst e
    dsimp only at h
    refine z_nt ?_
    refine T_seq ?_
    refine T_region ?_
    refine TL_y (y_move (e_t rfl)) ?_
    refine TL_y (y_len (e_t rfl) (by rw [el28]; exact Try.underlying28)) ?_
    refine TL_y (y_leq (e_t rfl) (e_i (16))) ?_
    refine TL_y (y_assign (e_t rfl)) ?_
    refine TL_nil ?_
    refine z_nt ?_
    refine T_ret ?_
    obtain rfl := Option.some.inj h
    exact Z_ret1 (fn := Try.f33) rfl (rv_t rfl)
  · have hret5 : ∀ q, o3 = .ret q → q = r := fun q e => by
      subst e
      dsimp only at h
      exact Option.some.inj h
    clear h
    refine TW_le (le_k (ks := [0, 7, 8, 9]) (bs := []) (gs := []) (.cons rfl (.cons rfl (.cons rfl (.cons rfl .nil)))) .nil .nil) (range_ind a0 (fun (i2 : Nat) (_ : Unit) => ⟨[(0, .d (a0 : (List Member))), (7, .d (a0 : (List Member))), (8, .d ((a0.length : Int) : Int)), (9, .d ((i2 : Int) : Int))], ⟨[], [], []⟩⟩) (fun xs i s => r07_Right_l0 a0 xs i s = some o3) ?_ ?_ a0 0 () rfl ho3)
    · intro i s hi h
      refine TW_round (T_seq (T_region ?_))
      refine TL_y (y_lss (e_t rfl) (e_t rfl)) (TL_nil (z_nt (T_seq (T_cond rfl (fun hb => (dec_lt hi hb).elim) (fun _ => T_exit ?_)))))
      refine z_et ?_
      refine z_et ?_
      refine z_ei ?_
      exact Z_le (le_k (ks := [0]) (bs := []) (gs := []) (.cons rfl .nil) .nil .nil) (hfall4 _ (Option.some.inj h).symm)
    · intro x6 xsx6 i2 s1 hltx6 hx6 ih h
      replace h : ((bif ((decide (x6.no < 0)) || (decide (15 < x6.no))) then some (.ret false) else (slh a0 (i2 : Int)).bind fun t9 => ((r07_Right_l1 x6 t9 0 ()).bind fun o12 => match o12 with | .ret q => some (.ret q) | .fall _ => r07_Right_l0 a0 xsx6 (i2 + 1) ()))) = some o3 := h
      refine TW_round ?_
      refine T_seq (T_region ?_)
      refine TL_y (y_lss (e_t rfl) (e_t rfl)) (TL_nil (z_nt (T_seq (T_cond rfl (fun _ => ?_) (fun hb => (dec_ge hltx6 hb).elim)))))
      refine T_skip ?_
      refine z_nt ?_
      refine T_seq ?_
      refine T_block ?_
      refine T_seq ?_
      refine T_region ?_
      refine TL_y (y_move (e_t rfl)) ?_
      refine TL_y (y_indexNat (e_t rfl) (e_t rfl) hx6 tysl28) ?_
      refine TL_y (y_load_ptr (e_t rfl) ty39) ?_
      refine TL_alloc z39 ?_
      refine TL_y (y_assign (e_t rfl)) ?_
      refine TL_store (e_t rfl) rfl (e_t rfl) Put.self ty39 (by decide) ?_
      refine TL_nil ?_
      refine z_nt ?_
      refine T_seq ?_
      refine T_seq ?_
      refine T_region ?_
      refine TL_y (y_fieldAddr (e_t rfl) fo39_0) ?_
      refine TL_y (y_load (e_t rfl) rfl s_Member_no ty3) ?_
      refine TL_y (y_lss (e_t rfl) (e_i (0))) ?_
      refine TL_y (y_move (e_t rfl)) ?_
      refine TL_or 4 21 (b := (decide (x6.no < 0))) (c := (decide (15 < x6.no))) ?_ (fun hb7 hk => ?_) (fun hb7 hk => ?_)
      rotate_left
      · refine TL_skip0 rfl hb7 ?_
        refine TL_skip0 rfl hb7 ?_
        refine TL_skip0 rfl hb7 ?_
        refine TL_y (y_pick_t (e_t rfl) hb7 (e_b true)) ?_
        exact TL_fr hk (.refl _)
      · refine TL_want rfl hb7 ?_
        refine TL_y (y_fieldAddr (e_t rfl) fo39_0) ?_
        refine TL_want rfl hb7 ?_
        refine TL_y (y_load (e_t rfl) rfl s_Member_no ty3) ?_
        refine TL_want rfl hb7 ?_
        refine TL_y (y_gtr (e_t rfl) (e_i (15))) ?_
        refine TL_y (y_pick_f (e_t rfl) hb7 (e_t rfl)) ?_
        exact TL_fr hk (.cons (.cons (.cons (.refl _) rfl) rfl) rfl)
      refine TL_nil ?_
      refine z_nt ?_
      refine T_cond rfl (fun hb8 => ?_) (fun hb8 => ?_)
      · replace h := cond_t hb8 h
        refine T_seq ?_
        refine T_region ?_
        refine TL_y (y_assign (e_b false)) ?_
        refine TL_nil ?_
        refine z_nt ?_
        refine T_ret ?_
        refine z_rt ?_
        refine z_rb ?_
        refine z_rt ?_
        refine z_rt ?_
        refine z_rb ?_
        refine z_rt ?_
        obtain rfl := hret5 _ (Option.some.inj h).symm
        exact Z_ret1 (fn := Try.f33) rfl (rv_t rfl)
      · replace h := cond_f hb8 h
        refine T_skip ?_
        refine z_nt ?_
        refine T_seq ?_
        refine T_region ?_
        refine TL_y (y_move (e_t rfl)) ?_
        refine TL_y (y_move (e_t rfl)) ?_
        obtain ⟨t9, ht9, h⟩ := bind_some h
        refine TL_y (y_slh (e_t rfl) (e_t rfl) ht9 tysl28) ?_
        refine TL_y (y_len (e_t rfl) (by rw [el28]; exact Try.underlying28)) ?_
        refine TL_y (y_move (e_i (0))) ?_
        refine TL_nil ?_
        refine z_nt ?_
        obtain ⟨o12, ho12, h⟩ := bind_some h
        refine T_loopin (S := fun (_ : Unit) => ⟨[(0, .d (a0 : (List Member))), (7, .d (a0 : (List Member))), (8, .d ((a0.length : Int) : Int)), (9, .d ((i2 : Int) : Int))], ⟨[], [], []⟩⟩) (fun s10 => o12 = .fall s10) (fun s10 e => ?_) (fun hfall13 => ?_)
        · subst e
          dsimp only at h
          refine z_nb ?_
          refine z_nt ?_
          refine T_region ?_
          refine TL_y (y_inc (q := 0) (e_t rfl) rfl hltx6) ?_
          refine TL_y (y_move (e_t rfl)) ?_
          refine TL_nil ?_
          refine z_nl ?_
          exact TW_le (le_k (ks := [0, 7, 8, 9]) (bs := []) (gs := []) (.cons rfl (.cons rfl (.cons rfl (.cons rfl .nil)))) .nil .nil) (ih _ h)
        · have hret14 : ∀ q, o12 = .ret q → q = r := fun q e => by
            subst e
            dsimp only at h
            exact hret5 _ (Option.some.inj h).symm
          clear h
          refine TW_le (le_k (ks := [0, 4, 7, 8, 9, 24, 25, 26]) (bs := [4]) (gs := []) (.cons rfl (.cons rfl (.cons rfl (.cons rfl (.cons rfl (.cons rfl (.cons rfl (.cons rfl .nil)))))))) (.cons rfl .nil) .nil) (range_ind t9 (fun (i11 : Nat) (_ : Unit) => ⟨[(0, .d (a0 : (List Member))), (4, .p 4 0), (7, .d (a0 : (List Member))), (8, .d ((a0.length : Int) : Int)), (9, .d ((i2 : Int) : Int)), (24, .d (t9 : (List Member))), (25, .d ((t9.length : Int) : Int)), (26, .d ((i11 : Int) : Int))], ⟨[(4, ⟨(x6 : Member)⟩)], [], []⟩⟩) (fun xs i s => r07_Right_l1 x6 xs i s = some o12) ?_ ?_ t9 0 () rfl ho12)
          · intro i s hi h
            refine TW_round (T_seq (T_region ?_))
            refine TL_y (y_lss (e_t rfl) (e_t rfl)) (TL_nil (z_nt (T_seq (T_cond rfl (fun hb => (dec_lt hi hb).elim) (fun _ => T_exit ?_)))))
            refine z_et ?_
            refine z_et ?_
            refine z_ei ?_
            exact Z_le (le_k (ks := [0, 7, 8, 9]) (bs := []) (gs := []) (.cons rfl (.cons rfl (.cons rfl (.cons rfl .nil)))) .nil .nil) (hfall13 _ (Option.some.inj h).symm)
          · intro x15 xsx15 i11 s10 hltx15 hx15 ih h
            replace h : ((bif ((decide (x15.no = x6.no)) || (decide (x15.id = x6.id))) then some (.ret false) else r07_Right_l1 x6 xsx15 (i11 + 1) ())) = some o12 := h
            refine TW_round ?_
            refine T_seq (T_region ?_)
            refine TL_y (y_lss (e_t rfl) (e_t rfl)) (TL_nil (z_nt (T_seq (T_cond rfl (fun _ => ?_) (fun hb => (dec_ge hltx15 hb).elim)))))
            refine T_skip ?_
            refine z_nt ?_
            refine T_seq ?_
            refine T_block ?_
            refine T_seq ?_
            refine T_region ?_
            refine TL_y (y_indexNat (e_t rfl) (e_t rfl) hx15 tysl28) ?_
            refine TL_y (y_load_ptr (e_t rfl) ty39) ?_
            refine TL_alloc z39 ?_
            refine TL_store (e_t rfl) rfl (e_t rfl) Put.self ty39 (by decide) ?_
            refine TL_nil ?_
            refine z_nt ?_
            refine T_seq ?_
            refine T_region ?_
            refine TL_y (y_fieldAddr (e_t rfl) fo39_0) ?_
            refine TL_y (y_load (e_t rfl) rfl s_Member_no ty3) ?_
            refine TL_y (y_fieldAddr (e_t rfl) fo39_0) ?_
            refine TL_y (y_load (e_t rfl) rfl s_Member_no ty3) ?_
            refine TL_y (y_eql (e_t rfl) (e_t rfl)) ?_
            refine TL_y (y_move (e_t rfl)) ?_
            refine TL_or 6 41 (b := (decide (x15.no = x6.no))) (c := (decide (x15.id = x6.id))) ?_ (fun hb16 hk => ?_) (fun hb16 hk => ?_)
            rotate_left
            · refine TL_skip0 rfl hb16 ?_
              refine TL_skip0 rfl hb16 ?_
              refine TL_skip0 rfl hb16 ?_
              refine TL_skip0 rfl hb16 ?_
              refine TL_skip0 rfl hb16 ?_
              refine TL_y (y_pick_t (e_t rfl) hb16 (e_b true)) ?_
              exact TL_fr hk (.refl _)
            · refine TL_want rfl hb16 ?_
              refine TL_y (y_fieldAddr (e_t rfl) fo39_1) ?_
              refine TL_want rfl hb16 ?_
              refine TL_y (y_load (e_t rfl) rfl s_Member_id ty26) ?_
              refine TL_want rfl hb16 ?_
              refine TL_y (y_fieldAddr (e_t rfl) fo39_1) ?_
              refine TL_want rfl hb16 ?_
              refine TL_y (y_load (e_t rfl) rfl s_Member_id ty26) ?_
              refine TL_want rfl hb16 ?_
              refine TL_y (y_eqlT (e_t rfl) (e_t rfl) eqT26 rfl eg26) ?_
              refine TL_y (y_pick_f (e_t rfl) hb16 (e_t rfl)) ?_
              exact TL_fr hk (.cons (.cons (.cons (.cons (.cons (.refl _) rfl) rfl) rfl) rfl) rfl)
            refine TL_nil ?_
            refine z_nt ?_
            refine T_cond rfl (fun hb17 => ?_) (fun hb17 => ?_)
            · replace h := cond_t hb17 h
              refine T_seq ?_
              refine T_region ?_
              refine TL_y (y_assign (e_b false)) ?_
              refine TL_nil ?_
              refine z_nt ?_
              refine T_ret ?_
              refine z_rb ?_
              refine z_rt ?_
              refine z_rt ?_
              refine z_rb ?_
              refine z_rb ?_
              refine z_rt ?_
              refine z_rt ?_
              refine z_rb ?_
              refine z_rt ?_
              obtain rfl := hret14 _ (Option.some.inj h).symm
              exact Z_ret1 (fn := Try.f33) rfl (rv_t rfl)
            · replace h := cond_f hb17 h
              refine T_skip ?_
              refine z_nb ?_
              refine z_nt ?_
              refine T_region ?_
              refine TL_y (y_inc (q := 24) (e_t rfl) rfl hltx15) ?_
              refine TL_y (y_move (e_t rfl)) ?_
              refine TL_nil ?_
              refine z_nl ?_
              exact TW_le (le_k (ks := [0, 4, 7, 8, 9, 24, 25, 26]) (bs := [4]) (gs := []) (.cons rfl (.cons rfl (.cons rfl (.cons rfl (.cons rfl (.cons rfl (.cons rfl (.cons rfl .nil)))))))) (.cons rfl .nil) .nil) (ih _ h)
def r10_Right_l1 (t1 : (List Member)) : List Member → Nat → Unit → Option (Lo Bool (Unit))
  | [], _, _ => some (.fall ())
  | x26 :: xsx26, i22, _ => (r07_Find t1 x26.no).bind fun t27 => (bif ((decide (0 ≤ t27.no)) && (!decide (t27 = x26))) then some (.ret false) else r10_Right_l1 t1 xsx26 (i22 + 1) ())
def r10_Right_l0 (a0 : Overlay) (t1 : (List Member)) : List Node → Nat → Unit → Option (Lo Bool (Unit))
  | [], _, _ => some (.fall ())
  | x7 :: xsx7, i3, _ => (r09_Right x7).bind fun t8 => ((bif (!t8) then some true else ((bif (decide (0 < (i3 : Int))) then (ix a0.nodes (w64 ((i3 : Int) - 1))).bind fun t18 => some (decide (x7.self.no ≤ t18.self.no)) else some false)).bind fun t17 => some t17)).bind fun t14 => (bif t14 then some (.ret false) else (r10_Known x7).bind fun t20 => ((r10_Right_l1 t1 t20 0 ()).bind fun o23 => match o23 with | .ret q => some (.ret q) | .fall _ => r10_Right_l0 a0 t1 xsx7 (i3 + 1) ()))
def r10_Right (a0 : Overlay) : Option Bool := (r10_Members a0).bind fun t1 => ((r10_Right_l0 a0 t1 a0.nodes 0 ()).bind fun o4 => match o4 with | .ret q => some q | .fall _ => (r07_Right t1).bind fun t30 => some t30)
theorem r10_Right_ok {a0 : Overlay} {r : Bool} (h : r10_Right a0 = some r) : Fn Try.prog 9 [.d a0] (.d r) := by
  refine Fn.of Try.func9 rfl fun w m => ?_
  unfold r10_Right at h
  refine T_seq ?_
  refine T_region ?_
  refine TL_box (e_t rfl) ?_
  refine TL_y (y_assign (e_b false)) ?_
  refine TL_nil ?_
  refine z_nt ?_
  refine T_seq ?_
  refine T_region ?_
  refine TL_y (y_load (e_t rfl) rfl Sub.self ty24) ?_
  obtain ⟨t1, ht1, h⟩ := bind_some h
  refine TL_call (xs := [.d (a0 : Overlay)]) (r10_Members_ok ht1) ⟨(e_t rfl), trivial⟩ c29 ?_
  refine TL_y (y_assign (e_t rfl)) ?_
  refine TL_nil ?_
  refine z_nt ?_
  refine T_seq ?_
  refine T_seq ?_
  refine T_region ?_
  refine TL_y (y_fieldAddr (e_t rfl) fo24_0) ?_
  refine TL_y (y_load (e_t rfl) rfl s_Overlay_nodes ty22) ?_
  refine TL_y (y_len (e_t rfl) (by rw [el22]; exact Try.underlying22)) ?_
  refine TL_y (y_move (e_i (0))) ?_
  refine TL_nil ?_
  refine z_nt ?_
  obtain ⟨o4, ho4, h⟩ := bind_some h
  refine T_loopin (S := fun (_ : Unit) => ⟨[(3, .d (t1 : (List Member)))], ⟨[], [], []⟩⟩) (fun s2 => o4 = .fall s2) (fun s2 e => ?_) (fun hfall5 => ?_)
  · subst e
    dsimp only at h
    refine z_nt ?_
    refine T_seq ?_
    refine T_region ?_
    refine TL_y (y_move (e_t rfl)) ?_
    obtain ⟨t30, ht30, h⟩ := bind_some h
    refine TL_call (xs := [.d (t1 : (List Member))]) (r07_Right_ok ht30) ⟨(e_t rfl), trivial⟩ c33 ?_
    refine TL_y (y_assign (e_t rfl)) ?_
    refine TL_nil ?_
    refine z_nt ?_
    refine T_ret ?_
    obtain rfl := Option.some.inj h
    exact Z_ret1 (fn := Try.f9) rfl (rv_t rfl)
  · have hret6 : ∀ q, o4 = .ret q → q = r := fun q e => by
      subst e
      dsimp only at h
      exact Option.some.inj h
    clear h
    refine TW_le (le_k (ks := [1, 3, 12, 13, 14]) (bs := [1]) (gs := []) (.cons rfl (.cons rfl (.cons rfl (.cons rfl (.cons rfl .nil))))) (.cons rfl .nil) .nil) (range_ind a0.nodes (fun (i3 : Nat) (_ : Unit) => ⟨[(1, .p 1 0), (3, .d (t1 : (List Member))), (12, .d (a0.nodes : (List Node))), (13, .d ((a0.nodes.length : Int) : Int)), (14, .d ((i3 : Int) : Int))], ⟨[(1, ⟨(a0 : Overlay)⟩)], [], []⟩⟩) (fun xs i s => r10_Right_l0 a0 t1 xs i s = some o4) ?_ ?_ a0.nodes 0 () rfl ho4)
    · intro i s hi h
      refine TW_round (T_seq (T_region ?_))
      refine TL_y (y_lss (e_t rfl) (e_t rfl)) (TL_nil (z_nt (T_seq (T_cond rfl (fun hb => (dec_lt hi hb).elim) (fun _ => T_exit ?_)))))
      refine z_et ?_
      refine z_et ?_
      refine z_ei ?_
      exact Z_le (le_k (ks := [3]) (bs := []) (gs := []) (.cons rfl .nil) .nil .nil) (hfall5 _ (Option.some.inj h).symm)
    · intro x7 xsx7 i3 s2 hltx7 hx7 ih h
      replace h : ((r09_Right x7).bind fun t8 => ((bif (!t8) then some true else ((bif (decide (0 < (i3 : Int))) then (ix a0.nodes (w64 ((i3 : Int) - 1))).bind fun t18 => some (decide (x7.self.no ≤ t18.self.no)) else some false)).bind fun t17 => some t17)).bind fun t14 => (bif t14 then some (.ret false) else (r10_Known x7).bind fun t20 => ((r10_Right_l1 t1 t20 0 ()).bind fun o23 => match o23 with | .ret q => some (.ret q) | .fall _ => r10_Right_l0 a0 t1 xsx7 (i3 + 1) ()))) = some o4 := h
      refine TW_round ?_
      refine T_seq (T_region ?_)
      refine TL_y (y_lss (e_t rfl) (e_t rfl)) (TL_nil (z_nt (T_seq (T_cond rfl (fun _ => ?_) (fun hb => (dec_ge hltx7 hb).elim)))))
      refine T_skip ?_
      refine z_nt ?_
      refine T_seq ?_
      refine T_block ?_
      refine T_seq ?_
      refine T_region ?_
      refine TL_y (y_move (e_t rfl)) ?_
      refine TL_y (y_indexNat (e_t rfl) (e_t rfl) hx7 tysl22) ?_
      refine TL_y (y_load_ptr (e_t rfl) ty44) ?_
      refine TL_alloc z44 ?_
      refine TL_y (y_assign (e_t rfl)) ?_
      refine TL_store (e_t rfl) rfl (e_t rfl) Put.self ty44 (by decide) ?_
      refine TL_nil ?_
      refine z_nt ?_
      refine T_seq ?_
      refine T_seq ?_
      refine T_draw hmix (by kernel_rfl) ?_
      refine TQ_y (y_load (e_t rfl) rfl Sub.self ty44) ?_
      obtain ⟨t8, ht8, h⟩ := bind_some h
      refine TQ_y (y_call (xs := [.d (x7 : Node)]) (r09_Right_ok ht8) ⟨(e_t rfl), trivial⟩ c30) ?_
      refine TQ_y (y_not (e_t rfl)) ?_
      refine TQ_y (y_move (e_t rfl)) ?_
      obtain ⟨t14, ht14, h⟩ := bind_some h
      refine TQ_cut 17 39 (r := t14) (!t8) ?_ (fun hb9 hk => ?_) (fun hb9 hk => ?_)
      rotate_left
      · obtain rfl := Option.some.inj (cond_t hb9 ht14)
        refine TQ_skip0 rfl hb9 ?_
        refine TQ_skip0 rfl hb9 ?_
        refine TQ_skips rfl hb9 ?_
        refine TQ_skipu rfl ?_
        refine TQ_skipu rfl ?_
        refine TQ_skipu rfl ?_
        refine TQ_skipu rfl ?_
        refine TQ_skipu rfl ?_
        refine TQ_skipu rfl ?_
        refine TQ_skipu rfl ?_
        refine TQ_skipu rfl ?_
        refine TQ_skipu rfl ?_
        refine TQ_skipu rfl ?_
        refine TQ_skipu rfl ?_
        refine TQ_skipu rfl ?_
        refine TQ_skip0 rfl hb9 ?_
        refine TQ_y (y_pick_t (e_t rfl) hb9 (e_b true)) ?_
        exact TQ_fr hk (.cons (.refl _) rfl)
      · replace h := cond_f hb9 ht14
        refine TQ_want rfl hb9 ?_
        refine TQ_y (y_move (e_t rfl)) ?_
        refine TQ_want rfl hb9 ?_
        refine TQ_y (y_gtr (e_t rfl) (e_i (0))) ?_
        refine TQ_want rfl hb9 ?_
        refine TQ_y (y_move (e_t rfl)) ?_
        obtain ⟨t17, ht17, h⟩ := bind_some h
        refine TQ_cut 13 38 (r := t17) (decide (0 < (i3 : Int))) ?_ (fun hb15 hk => ?_) (fun hb15 hk => ?_)
        rotate_left
        · replace h := cond_t hb15 ht17
          refine TQ_want rfl hb15 ?_
          refine TQ_y (y_fieldAddr (e_t rfl) fo24_0) ?_
          refine TQ_want rfl hb15 ?_
          refine TQ_y (y_load (e_t rfl) rfl s_Overlay_nodes ty22) ?_
          refine TQ_want rfl hb15 ?_
          refine TQ_y (y_move (e_t rfl)) ?_
          refine TQ_want rfl hb15 ?_
          refine TQ_y (y_sub (e_t rfl) (e_i (1))) ?_
          refine TQ_want rfl hb15 ?_
          obtain ⟨t18, ht18, h⟩ := bind_some h
          refine TQ_y (y_indexIx (e_t rfl) (e_t rfl) ht18 tysl22) ?_
          refine TQ_want rfl hb15 ?_
          refine TQ_y (y_fieldAddr_ptr (e_t rfl) fo44_0 s_Node_self) ?_
          refine TQ_want rfl hb15 ?_
          refine TQ_y (y_fieldAddr_ptr (e_t rfl) fo39_0 s_Member_no) ?_
          refine TQ_want rfl hb15 ?_
          refine TQ_y (y_load_ptr (e_t rfl) ty3) ?_
          refine TQ_want rfl hb15 ?_
          refine TQ_y (y_fieldAddr (e_t rfl) fo44_0) ?_
          refine TQ_want rfl hb15 ?_
          refine TQ_y (y_fieldAddr (e_t rfl) fo39_0) ?_
          refine TQ_want rfl hb15 ?_
          refine TQ_y (y_load (e_t rfl) rfl s_Node_self_no ty3) ?_
          refine TQ_want rfl hb15 ?_
          refine TQ_y (y_geq (e_t rfl) (e_t rfl)) ?_
          obtain rfl := Option.some.inj h
          refine TQ_want rfl hb9 ?_
          refine TQ_y (y_pick_t (e_t rfl) hb15 (e_t rfl)) ?_
          exact TQ_fr hk (.cons (.cons (.cons (.cons (.cons (.cons (.cons (.cons (.cons (.cons (.cons (.cons (.refl _) rfl) rfl) rfl) rfl) rfl) rfl) rfl) rfl) rfl) rfl) rfl) rfl)
        · obtain rfl := Option.some.inj (cond_f hb15 ht17)
          refine TQ_skip0 rfl hb15 ?_
          refine TQ_skip0 rfl hb15 ?_
          refine TQ_skip0 rfl hb15 ?_
          refine TQ_skip0 rfl hb15 ?_
          refine TQ_skip0 rfl hb15 ?_
          refine TQ_skip0 rfl hb15 ?_
          refine TQ_skip0 rfl hb15 ?_
          refine TQ_skip0 rfl hb15 ?_
          refine TQ_skip0 rfl hb15 ?_
          refine TQ_skip0 rfl hb15 ?_
          refine TQ_skip0 rfl hb15 ?_
          refine TQ_skip0 rfl hb15 ?_
          refine TQ_want rfl hb9 ?_
          refine TQ_y (y_pick_f (e_t rfl) hb15 (e_b false)) ?_
          exact TQ_fr hk (.refl _)
        obtain rfl := Option.some.inj h
        refine TQ_y (y_pick_f (e_t rfl) hb9 (e_t rfl)) ?_
        exact TQ_fr hk (.cons (.cons (.cons (.cons (.refl _) rfl) rfl) rfl) rfl)
      refine TQ_nil ?_
      refine z_nt ?_
      refine T_cond rfl (fun hb19 => ?_) (fun hb19 => ?_)
      · replace h := cond_t hb19 h
        refine T_seq ?_
        refine T_region ?_
        refine TL_y (y_assign (e_b false)) ?_
        refine TL_nil ?_
        refine z_nt ?_
        refine T_ret ?_
        refine z_rt ?_
        refine z_rb ?_
        refine z_rt ?_
        refine z_rt ?_
        refine z_rb ?_
        refine z_rt ?_
        obtain rfl := hret6 _ (Option.some.inj h).symm
        exact Z_ret1 (fn := Try.f9) rfl (rv_t rfl)
      · replace h := cond_f hb19 h
        refine T_skip ?_
        refine z_nt ?_
        refine T_seq ?_
        refine T_region ?_
        refine TL_y (y_load (e_t rfl) rfl Sub.self ty44) ?_
        obtain ⟨t20, ht20, h⟩ := bind_some h
        refine TL_call (xs := [.d (x7 : Node)]) (r10_Known_ok ht20) ⟨(e_t rfl), trivial⟩ c31 ?_
        refine TL_y (y_len (e_t rfl) (by rw [el28]; exact Try.underlying28)) ?_
        refine TL_y (y_move (e_i (0))) ?_
        refine TL_nil ?_
        refine z_nt ?_
        obtain ⟨o23, ho23, h⟩ := bind_some h
        refine T_loopin (S := fun (_ : Unit) => ⟨[(1, .p 1 0), (3, .d (t1 : (List Member))), (12, .d (a0.nodes : (List Node))), (13, .d ((a0.nodes.length : Int) : Int)), (14, .d ((i3 : Int) : Int))], ⟨[(1, ⟨(a0 : Overlay)⟩)], [], []⟩⟩) (fun s21 => o23 = .fall s21) (fun s21 e => ?_) (fun hfall24 => ?_)
        · subst e
          dsimp only at h
          refine z_nb ?_
          refine z_nt ?_
          refine T_region ?_
          refine TL_y (y_inc (q := 12) (e_t rfl) rfl hltx7) ?_
          refine TL_y (y_move (e_t rfl)) ?_
          refine TL_nil ?_
          refine z_nl ?_
          exact TW_le (le_k (ks := [1, 3, 12, 13, 14]) (bs := [1]) (gs := []) (.cons rfl (.cons rfl (.cons rfl (.cons rfl (.cons rfl .nil))))) (.cons rfl .nil) .nil) (ih _ h)
        · have hret25 : ∀ q, o23 = .ret q → q = r := fun q e => by
            subst e
            dsimp only at h
            exact hret6 _ (Option.some.inj h).symm
          clear h
          refine TW_le (le_k (ks := [1, 3, 12, 13, 14, 41, 42, 43]) (bs := [1]) (gs := []) (.cons rfl (.cons rfl (.cons rfl (.cons rfl (.cons rfl (.cons rfl (.cons rfl (.cons rfl .nil)))))))) (.cons rfl .nil) .nil) (range_ind t20 (fun (i22 : Nat) (_ : Unit) => ⟨[(1, .p 1 0), (3, .d (t1 : (List Member))), (12, .d (a0.nodes : (List Node))), (13, .d ((a0.nodes.length : Int) : Int)), (14, .d ((i3 : Int) : Int)), (41, .d (t20 : (List Member))), (42, .d ((t20.length : Int) : Int)), (43, .d ((i22 : Int) : Int))], ⟨[(1, ⟨(a0 : Overlay)⟩)], [], []⟩⟩) (fun xs i s => r10_Right_l1 t1 xs i s = some o23) ?_ ?_ t20 0 () rfl ho23)
          · intro i s hi h
            refine TW_round (T_seq (T_region ?_))
            refine TL_y (y_lss (e_t rfl) (e_t rfl)) (TL_nil (z_nt (T_seq (T_cond rfl (fun hb => (dec_lt hi hb).elim) (fun _ => T_exit ?_)))))
            refine z_et ?_
            refine z_et ?_
            refine z_ei ?_
            exact Z_le (le_k (ks := [1, 3, 12, 13, 14]) (bs := [1]) (gs := []) (.cons rfl (.cons rfl (.cons rfl (.cons rfl (.cons rfl .nil))))) (.cons rfl .nil) .nil) (hfall24 _ (Option.some.inj h).symm)
          · intro x26 xsx26 i22 s21 hltx26 hx26 ih h
            replace h : ((r07_Find t1 x26.no).bind fun t27 => (bif ((decide (0 ≤ t27.no)) && (!decide (t27 = x26))) then some (.ret false) else r10_Right_l1 t1 xsx26 (i22 + 1) ())) = some o23 := h
            refine TW_round ?_
            refine T_seq (T_region ?_)
            refine TL_y (y_lss (e_t rfl) (e_t rfl)) (TL_nil (z_nt (T_seq (T_cond rfl (fun _ => ?_) (fun hb => (dec_ge hltx26 hb).elim)))))
            refine T_skip ?_
            refine z_nt ?_
            refine T_seq ?_
            refine T_block ?_
            refine T_seq ?_
            refine T_region ?_
            refine TL_y (y_indexNat (e_t rfl) (e_t rfl) hx26 tysl28) ?_
            refine TL_y (y_load_ptr (e_t rfl) ty39) ?_
            refine TL_alloc z39 ?_
            refine TL_store (e_t rfl) rfl (e_t rfl) Put.self ty39 (by decide) ?_
            refine TL_nil ?_
            refine z_nt ?_
            refine T_seq ?_
            refine T_region ?_
            refine TL_y (y_move (e_t rfl)) ?_
            refine TL_y (y_fieldAddr (e_t rfl) fo39_0) ?_
            refine TL_y (y_load (e_t rfl) rfl s_Member_no ty3) ?_
            obtain ⟨t27, ht27, h⟩ := bind_some h
            refine TL_call (xs := [.d (t1 : (List Member)), .d (x26.no : Int)]) (r07_Find_ok ht27) ⟨(e_t rfl), (e_t rfl), trivial⟩ c32 ?_
            refine TL_alloc z39 ?_
            refine TL_store (e_t rfl) rfl (e_t rfl) Put.self ty39 (by decide) ?_
            refine TL_nil ?_
            refine z_nt ?_
            refine T_seq ?_
            refine T_region ?_
            refine TL_y (y_fieldAddr (e_t rfl) fo39_0) ?_
            refine TL_y (y_load (e_t rfl) rfl s_Member_no ty3) ?_
            refine TL_y (y_geq (e_t rfl) (e_i (0))) ?_
            refine TL_y (y_move (e_t rfl)) ?_
            refine TL_and 4 58 (b := (decide (0 ≤ t27.no))) (c := (!decide (t27 = x26))) ?_ (fun hb28 hk => ?_) (fun hb28 hk => ?_)
            rotate_left
            · refine TL_skip0 rfl hb28 ?_
              refine TL_skip0 rfl hb28 ?_
              refine TL_skip0 rfl hb28 ?_
              refine TL_y (y_pick_f (e_t rfl) hb28 (e_b false)) ?_
              exact TL_fr hk (.refl _)
            · refine TL_want rfl hb28 ?_
              refine TL_y (y_load (e_t rfl) rfl Sub.self ty39) ?_
              refine TL_want rfl hb28 ?_
              refine TL_y (y_load (e_t rfl) rfl Sub.self ty39) ?_
              refine TL_want rfl hb28 ?_
              refine TL_y (y_neqT (e_t rfl) (e_t rfl) eqT39 rfl eg39) ?_
              refine TL_y (y_pick_t (e_t rfl) hb28 (e_t rfl)) ?_
              exact TL_fr hk (.cons (.cons (.cons (.refl _) rfl) rfl) rfl)
            refine TL_nil ?_
            refine z_nt ?_
            refine T_cond rfl (fun hb29 => ?_) (fun hb29 => ?_)
            · replace h := cond_t hb29 h
              refine T_seq ?_
              refine T_region ?_
              refine TL_y (y_assign (e_b false)) ?_
              refine TL_nil ?_
              refine z_nt ?_
              refine T_ret ?_
              refine z_rb ?_
              refine z_rt ?_
              refine z_rt ?_
              refine z_rb ?_
              refine z_rb ?_
              refine z_rt ?_
              refine z_rt ?_
              refine z_rb ?_
              refine z_rt ?_
              obtain rfl := hret25 _ (Option.some.inj h).symm
              exact Z_ret1 (fn := Try.f9) rfl (rv_t rfl)
            · replace h := cond_f hb29 h
              refine T_skip ?_
              refine z_nb ?_
              refine z_nt ?_
              refine T_region ?_
              refine TL_y (y_inc (q := 41) (e_t rfl) rfl hltx26) ?_
              refine TL_y (y_move (e_t rfl)) ?_
              refine TL_nil ?_
              refine z_nl ?_
              exact TW_le (le_k (ks := [1, 3, 12, 13, 14, 41, 42, 43]) (bs := [1]) (gs := []) (.cons rfl (.cons rfl (.cons rfl (.cons rfl (.cons rfl (.cons rfl (.cons rfl (.cons rfl .nil)))))))) (.cons rfl .nil) .nil) (ih _ h)
def lookup_asks_1 (a0 : Node) (a1 : Int) : Option Bool := some (decide (a0.self.no = a1))
theorem lookup_asks_1_ok {a0 : Node} {a1 : Int} {r : Bool} (h : lookup_asks_1 a0 a1 = some r) : Fn Try.prog 96 [.d a0, .d (⟨a1⟩ : Ptr Int)] (.d r) := by
  refine Fn.of Try.func96 rfl fun w m => ?_
  unfold lookup_asks_1 at h
  refine T_seq ?_
  refine T_region ?_
  refine TL_box (e_t rfl) ?_
  refine TL_y (y_assign (e_b false)) ?_
  refine TL_nil ?_
  refine z_nt ?_
  refine T_seq ?_
  refine T_region ?_
  refine TL_y (y_fieldAddr (e_t rfl) fo44_0) ?_
  refine TL_y (y_fieldAddr (e_t rfl) fo39_0) ?_
  refine TL_y (y_load (e_t rfl) rfl s_Node_self_no ty3) ?_
  refine TL_y (y_load_ptr (e_t rfl) ty3) ?_
  refine TL_y (y_eql (e_t rfl) (e_t rfl)) ?_
  refine TL_y (y_assign (e_t rfl)) ?_
  refine TL_nil ?_
  refine z_nt ?_
  refine T_ret ?_
  obtain rfl := Option.some.inj h
  exact Z_ret1 (fn := Try.f96) rfl (rv_t rfl)
def sl_IndexFunc_Node_l0 (a1 : (Fn1 Node Bool)) : List Node → Nat → Unit → Option (Lo Int (Unit))
  | [], _, _ => some (.fall ())
  | x6 :: xsx6, i2, _ => (a1.f x6).bind fun t7 => (bif t7 then some (.ret (i2 : Int)) else sl_IndexFunc_Node_l0 a1 xsx6 (i2 + 1) ())
def sl_IndexFunc_Node (a0 : (List Node)) (a1 : (Fn1 Node Bool)) : Option Int := ((sl_IndexFunc_Node_l0 a1 a0 0 ()).bind fun o3 => match o3 with | .ret q => some q | .fall _ => some (-1))
theorem sl_IndexFunc_Node_ok {a0 : (List Node)} {a1 : (Fn1 Node Bool)} {r : Int} (h : sl_IndexFunc_Node a0 a1 = some r) : Fn Try.prog 95 [.d a0, .d a1] (.d r) := by
  refine Fn.of Try.func95 rfl fun w m => ?_
  unfold sl_IndexFunc_Node at h
  refine T_seq ?_
  refine T_region ?_
  refine TL_y (y_assign (e_i (0))) ?_
  refine TL_nil ?_
  refine z_nt ?_
  refine T_seq ?_
  refine T_seq ?_
  refine T_region ?_
  refine TL_y (y_move (e_t rfl)) ?_
  refine TL_y (y_len (e_t rfl) (by rw [el22]; exact Try.underlying22)) ?_
  refine TL_y (y_move (e_i (0))) ?_
  refine TL_nil ?_
  refine z_nt ?_
  obtain ⟨o3, ho3, h⟩ := bind_some h
  refine T_loopin (S := fun (_ : Unit) => ⟨[], ⟨[], [], []⟩⟩) (fun s1 => o3 = .fall s1) (fun s1 e => ?_) (fun hfall4 => ?_)
  · subst e
    dsimp only at h
    refine z_nt ?_
    refine T_seq ?_
    refine T_region ?_
    refine TL_y (y_assign (e_i (-1))) ?_
    refine TL_nil ?_
    refine z_nt ?_
    refine T_ret ?_
    obtain rfl := Option.some.inj h
    exact Z_ret1 (fn := Try.f95) rfl (rv_t rfl)
  · have hret5 : ∀ q, o3 = .ret q → q = r := fun q e => by
      subst e
      dsimp only at h
      exact Option.some.inj h
    clear h
    refine TW_le (le_k (ks := [0, 1, 7, 8]) (bs := []) (gs := []) (.cons rfl (.cons rfl (.cons rfl (.cons rfl .nil)))) .nil .nil) (range_ind a0 (fun (i2 : Nat) (_ : Unit) => ⟨[(0, .d (a0 : (List Node))), (1, .d (a1 : (Fn1 Node Bool))), (7, .d ((a0.length : Int) : Int)), (8, .d ((i2 : Int) : Int))], ⟨[], [], []⟩⟩) (fun xs i s => sl_IndexFunc_Node_l0 a1 xs i s = some o3) ?_ ?_ a0 0 () rfl ho3)
    · intro i s hi h
      refine TW_round (T_seq (T_region ?_))
      refine TL_y (y_lss (e_t rfl) (e_t rfl)) (TL_nil (z_nt (T_seq (T_cond rfl (fun hb => (dec_lt hi hb).elim) (fun _ => T_exit ?_)))))
      refine z_et ?_
      refine z_et ?_
      refine z_ei ?_
      exact Z_le (le_k (ks := []) (bs := []) (gs := []) .nil .nil .nil) (hfall4 _ (Option.some.inj h).symm)
    · intro x6 xsx6 i2 s1 hltx6 hx6 ih h
      replace h : ((a1.f x6).bind fun t7 => (bif t7 then some (.ret (i2 : Int)) else sl_IndexFunc_Node_l0 a1 xsx6 (i2 + 1) ())) = some o3 := h
      refine TW_round ?_
      refine T_seq (T_region ?_)
      refine TL_y (y_lss (e_t rfl) (e_t rfl)) (TL_nil (z_nt (T_seq (T_cond rfl (fun _ => ?_) (fun hb => (dec_ge hltx6 hb).elim)))))
      refine T_skip ?_
      refine z_nt ?_
      refine T_seq ?_
      refine T_block ?_
      refine T_seq ?_
      refine T_region ?_
      refine TL_y (y_move (e_t rfl)) ?_
      refine TL_y (y_assign (e_t rfl)) ?_
      refine TL_nil ?_
      refine z_nt ?_
      refine T_seq ?_
      refine T_region ?_
      refine TL_y (y_move (e_t rfl)) ?_
      refine TL_y (y_move (e_t rfl)) ?_
      refine TL_y (y_move (e_t rfl)) ?_
      refine TL_y (y_indexNat (e_t rfl) (e_t rfl) hx6 tysl22) ?_
      refine TL_y (y_load_ptr (e_t rfl) ty44) ?_
      obtain ⟨t7, ht7, h⟩ := bind_some h
      refine TL_callv1 (e_t rfl) (e_t rfl) ht7 ?_
      refine TL_nil ?_
      refine z_nt ?_
      refine T_cond rfl (fun hb8 => ?_) (fun hb8 => ?_)
      · replace h := cond_t hb8 h
        refine T_seq ?_
        refine T_region ?_
        refine TL_y (y_move (e_t rfl)) ?_
        refine TL_y (y_assign (e_t rfl)) ?_
        refine TL_nil ?_
        refine z_nt ?_
        refine T_ret ?_
        refine z_rb ?_
        refine z_rt ?_
        refine z_rt ?_
        refine z_rb ?_
        refine z_rt ?_
        obtain rfl := hret5 _ (Option.some.inj h).symm
        exact Z_ret1 (fn := Try.f95) rfl (rv_t rfl)
      · replace h := cond_f hb8 h
        refine T_skip ?_
        refine z_nb ?_
        refine z_nt ?_
        refine T_region ?_
        refine TL_y (y_inc (q := 0) (e_t rfl) rfl hltx6) ?_
        refine TL_y (y_move (e_t rfl)) ?_
        refine TL_nil ?_
        refine z_nl ?_
        exact TW_le (le_k (ks := [0, 1, 7, 8]) (bs := []) (gs := []) (.cons rfl (.cons rfl (.cons rfl (.cons rfl .nil)))) .nil .nil) (ih _ h)
def lookup_asks_2 (a0 : Node) (a1 : Member) : Option Bool := some (decide (a0.self.no = a1.no))
theorem lookup_asks_2_ok {a0 : Node} {a1 : Member} {r : Bool} (h : lookup_asks_2 a0 a1 = some r) : Fn Try.prog 98 [.d a0, .d (⟨a1⟩ : Ptr Member)] (.d r) := by
  refine Fn.of Try.func98 rfl fun w m => ?_
  unfold lookup_asks_2 at h
  refine T_seq ?_
  refine T_region ?_
  refine TL_box (e_t rfl) ?_
  refine TL_y (y_assign (e_b false)) ?_
  refine TL_nil ?_
  refine z_nt ?_
  refine T_seq ?_
  refine T_region ?_
  refine TL_y (y_fieldAddr (e_t rfl) fo44_0) ?_
  refine TL_y (y_fieldAddr (e_t rfl) fo39_0) ?_
  refine TL_y (y_load (e_t rfl) rfl s_Node_self_no ty3) ?_
  refine TL_y (y_fieldAddr_ptr (e_t rfl) fo39_0 s_Member_no) ?_
  refine TL_y (y_load_ptr (e_t rfl) ty3) ?_
  refine TL_y (y_eql (e_t rfl) (e_t rfl)) ?_
  refine TL_y (y_assign (e_t rfl)) ?_
  refine TL_nil ?_
  refine z_nt ?_
  refine T_ret ?_
  obtain rfl := Option.some.inj h
  exact Z_ret1 (fn := Try.f98) rfl (rv_t rfl)
def sl_ContainsFunc_Node (a0 : (List Node)) (a1 : (Fn1 Node Bool)) : Option Bool := (sl_IndexFunc_Node a0 a1).bind fun t1 => some (decide (0 ≤ t1))
theorem sl_ContainsFunc_Node_ok {a0 : (List Node)} {a1 : (Fn1 Node Bool)} {r : Bool} (h : sl_ContainsFunc_Node a0 a1 = some r) : Fn Try.prog 97 [.d a0, .d a1] (.d r) := by
  refine Fn.of Try.func97 rfl fun w m => ?_
  unfold sl_ContainsFunc_Node at h
  refine T_seq ?_
  refine T_region ?_
  refine TL_y (y_assign (e_b false)) ?_
  refine TL_nil ?_
  refine z_nt ?_
  refine T_seq ?_
  refine T_region ?_
  refine TL_y (y_move (e_t rfl)) ?_
  refine TL_y (y_move (e_t rfl)) ?_
  obtain ⟨t1, ht1, h⟩ := bind_some h
  refine TL_call (xs := [.d (a0 : (List Node)), .d (a1 : (Fn1 Node Bool))]) (sl_IndexFunc_Node_ok ht1) ⟨(e_t rfl), (e_t rfl), trivial⟩ c95 ?_
  refine TL_y (y_geq (e_t rfl) (e_i (0))) ?_
  refine TL_y (y_assign (e_t rfl)) ?_
  refine TL_nil ?_
  refine z_nt ?_
  refine T_ret ?_
  obtain rfl := Option.some.inj h
  exact Z_ret1 (fn := Try.f97) rfl (rv_t rfl)
end Go.Ph
set_option maxRecDepth 4000
set_option maxHeartbeats 4000000
namespace Go.Ph
open Go.Proofs
def sl_Index_int_l0 (a1 : Int) : List Int → Nat → Unit → Option (Lo Int (Unit))
  | [], _, _ => some (.fall ())
  | x6 :: xsx6, i2, _ => (bif (decide (a1 = x6)) then some (.ret (i2 : Int)) else sl_Index_int_l0 a1 xsx6 (i2 + 1) ())
def sl_Index_int (a0 : (List Int)) (a1 : Int) : Option Int := ((sl_Index_int_l0 a1 a0 0 ()).bind fun o3 => match o3 with | .ret q => some q | .fall _ => some (-1))
theorem sl_Index_int_ok {a0 : (List Int)} {a1 : Int} {r : Int} (h : sl_Index_int a0 a1 = some r) : Fn Try.prog 115 [.d a0, .d a1] (.d r) := by
  refine Fn.of Try.func115 rfl fun w m => ?_
  unfold sl_Index_int at h
  refine T_seq ?_
  refine T_region ?_
  refine TL_y (y_assign (e_i (0))) ?_
  refine TL_nil ?_
  refine z_nt ?_
  refine T_seq ?_
  refine T_seq ?_
  refine T_region ?_
  refine TL_y (y_move (e_t rfl)) ?_
  refine TL_y (y_len (e_t rfl) (by rw [el45]; exact Try.underlying45)) ?_
  refine TL_y (y_move (e_i (0))) ?_
  refine TL_nil ?_
  refine z_nt ?_
  obtain ⟨o3, ho3, h⟩ := bind_some h
  refine T_loopin (S := fun (_ : Unit) => ⟨[], ⟨[], [], []⟩⟩) (fun s1 => o3 = .fall s1) (fun s1 e => ?_) (fun hfall4 => ?_)
  · subst e
    dsimp only at h
    refine z_nt ?_
    refine T_seq ?_
    refine T_region ?_
    refine TL_y (y_assign (e_i (-1))) ?_
    refine TL_nil ?_
    refine z_nt ?_
    refine T_ret ?_
    obtain rfl := Option.some.inj h
    exact Z_ret1 (fn := Try.f115) rfl (rv_t rfl)
  · have hret5 : ∀ q, o3 = .ret q → q = r := fun q e => by
      subst e
      dsimp only at h
      exact Option.some.inj h
    clear h
    refine TW_le (le_k (ks := [0, 1, 7, 8]) (bs := []) (gs := []) (.cons rfl (.cons rfl (.cons rfl (.cons rfl .nil)))) .nil .nil) (range_ind a0 (fun (i2 : Nat) (_ : Unit) => ⟨[(0, .d (a0 : (List Int))), (1, .d (a1 : Int)), (7, .d ((a0.length : Int) : Int)), (8, .d ((i2 : Int) : Int))], ⟨[], [], []⟩⟩) (fun xs i s => sl_Index_int_l0 a1 xs i s = some o3) ?_ ?_ a0 0 () rfl ho3)
    · intro i s hi h
      refine TW_round (T_seq (T_region ?_))
      refine TL_y (y_lss (e_t rfl) (e_t rfl)) (TL_nil (z_nt (T_seq (T_cond rfl (fun hb => (dec_lt hi hb).elim) (fun _ => T_exit ?_)))))
      refine z_et ?_
      refine z_et ?_
      refine z_ei ?_
      exact Z_le (le_k (ks := []) (bs := []) (gs := []) .nil .nil .nil) (hfall4 _ (Option.some.inj h).symm)
    · intro x6 xsx6 i2 s1 hltx6 hx6 ih h
      replace h : ((bif (decide (a1 = x6)) then some (.ret (i2 : Int)) else sl_Index_int_l0 a1 xsx6 (i2 + 1) ())) = some o3 := h
      refine TW_round ?_
      refine T_seq (T_region ?_)
      refine TL_y (y_lss (e_t rfl) (e_t rfl)) (TL_nil (z_nt (T_seq (T_cond rfl (fun _ => ?_) (fun hb => (dec_ge hltx6 hb).elim)))))
      refine T_skip ?_
      refine z_nt ?_
      refine T_seq ?_
      refine T_block ?_
      refine T_seq ?_
      refine T_region ?_
      refine TL_y (y_move (e_t rfl)) ?_
      refine TL_y (y_assign (e_t rfl)) ?_
      refine TL_nil ?_
      refine z_nt ?_
      refine T_seq ?_
      refine T_region ?_
      refine TL_y (y_move (e_t rfl)) ?_
      refine TL_y (y_move (e_t rfl)) ?_
      refine TL_y (y_move (e_t rfl)) ?_
      refine TL_y (y_indexNat (e_t rfl) (e_t rfl) hx6 tysl45) ?_
      refine TL_y (y_load_ptr (e_t rfl) ty3) ?_
      refine TL_y (y_eql (e_t rfl) (e_t rfl)) ?_
      refine TL_nil ?_
      refine z_nt ?_
      refine T_cond rfl (fun hb7 => ?_) (fun hb7 => ?_)
      · replace h := cond_t hb7 h
        refine T_seq ?_
        refine T_region ?_
        refine TL_y (y_move (e_t rfl)) ?_
        refine TL_y (y_assign (e_t rfl)) ?_
        refine TL_nil ?_
        refine z_nt ?_
        refine T_ret ?_
        refine z_rb ?_
        refine z_rt ?_
        refine z_rt ?_
        refine z_rb ?_
        refine z_rt ?_
        obtain rfl := hret5 _ (Option.some.inj h).symm
        exact Z_ret1 (fn := Try.f115) rfl (rv_t rfl)
      · replace h := cond_f hb7 h
        refine T_skip ?_
        refine z_nb ?_
        refine z_nt ?_
        refine T_region ?_
        refine TL_y (y_inc (q := 0) (e_t rfl) rfl hltx6) ?_
        refine TL_y (y_move (e_t rfl)) ?_
        refine TL_nil ?_
        refine z_nl ?_
        exact TW_le (le_k (ks := [0, 1, 7, 8]) (bs := []) (gs := []) (.cons rfl (.cons rfl (.cons rfl (.cons rfl .nil)))) .nil .nil) (ih _ h)
def sl_Contains_int (a0 : (List Int)) (a1 : Int) : Option Bool := (sl_Index_int a0 a1).bind fun t1 => some (decide (0 ≤ t1))
theorem sl_Contains_int_ok {a0 : (List Int)} {a1 : Int} {r : Bool} (h : sl_Contains_int a0 a1 = some r) : Fn Try.prog 104 [.d a0, .d a1] (.d r) := by
  refine Fn.of Try.func104 rfl fun w m => ?_
  unfold sl_Contains_int at h
  refine T_seq ?_
  refine T_region ?_
  refine TL_y (y_assign (e_b false)) ?_
  refine TL_nil ?_
  refine z_nt ?_
  refine T_seq ?_
  refine T_region ?_
  refine TL_y (y_move (e_t rfl)) ?_
  refine TL_y (y_move (e_t rfl)) ?_
  obtain ⟨t1, ht1, h⟩ := bind_some h
  refine TL_call (xs := [.d (a0 : (List Int)), .d (a1 : Int)]) (sl_Index_int_ok ht1) ⟨(e_t rfl), (e_t rfl), trivial⟩ c115 ?_
  refine TL_y (y_geq (e_t rfl) (e_i (0))) ?_
  refine TL_y (y_assign (e_t rfl)) ?_
  refine TL_nil ?_
  refine z_nt ?_
  refine T_ret ?_
  obtain rfl := Option.some.inj h
  exact Z_ret1 (fn := Try.f104) rfl (rv_t rfl)
def node_Drop_1 (a0 : Member) (a1 : Node) (a2 : (List Int)) : Option Bool := ((bif (!decide (a0.no = a1.self.no)) then (sl_Contains_int a2 a0.no).bind fun t4 => some t4 else some false)).bind fun t3 => some t3
theorem node_Drop_1_ok {a0 : Member} {a1 : Node} {a2 : (List Int)} {r : Bool} (h : node_Drop_1 a0 a1 a2 = some r) : Fn Try.prog 103 [.d a0, .d (⟨a1⟩ : Ptr Node), .d (⟨a2⟩ : Ptr (List Int))] (.d r) := by
  refine Fn.of Try.func103 rfl fun w m => ?_
  unfold node_Drop_1 at h
  refine T_seq ?_
  refine T_region ?_
  refine TL_box (e_t rfl) ?_
  refine TL_y (y_assign (e_b false)) ?_
  refine TL_nil ?_
  refine z_nt ?_
  refine T_seq ?_
  refine T_region ?_
  refine TL_y (y_fieldAddr (e_t rfl) fo39_0) ?_
  refine TL_y (y_load (e_t rfl) rfl s_Member_no ty3) ?_
  refine TL_y (y_fieldAddr_ptr (e_t rfl) fo44_0 s_Node_self) ?_
  refine TL_y (y_fieldAddr_ptr (e_t rfl) fo39_0 s_Member_no) ?_
  refine TL_y (y_load_ptr (e_t rfl) ty3) ?_
  refine TL_y (y_neq (e_t rfl) (e_t rfl)) ?_
  refine TL_y (y_move (e_t rfl)) ?_
  obtain ⟨t3, ht3, h⟩ := bind_some h
  refine TL_cut 5 16 (r := t3) (!decide (a0.no = a1.self.no)) ?_ (fun hb1 hk => ?_) (fun hb1 hk => ?_)
  rotate_left
  · replace h := cond_t hb1 ht3
    refine TL_want rfl hb1 ?_
    refine TL_y (y_load_ptr (e_t rfl) ty45) ?_
    refine TL_want rfl hb1 ?_
    refine TL_y (y_fieldAddr (e_t rfl) fo39_0) ?_
    refine TL_want rfl hb1 ?_
    refine TL_y (y_load (e_t rfl) rfl s_Member_no ty3) ?_
    refine TL_want rfl hb1 ?_
    obtain ⟨t4, ht4, h⟩ := bind_some h
    refine TL_call (xs := [.d (a2 : (List Int)), .d (a0.no : Int)]) (sl_Contains_int_ok ht4) ⟨(e_t rfl), (e_t rfl), trivial⟩ c104 ?_
    obtain rfl := Option.some.inj h
    refine TL_y (y_pick_t (e_t rfl) hb1 (e_t rfl)) ?_
    exact TL_fr hk (.cons (.cons (.cons (.cons (.refl _) rfl) rfl) rfl) rfl)
  · obtain rfl := Option.some.inj (cond_f hb1 ht3)
    refine TL_skip0 rfl hb1 ?_
    refine TL_skip0 rfl hb1 ?_
    refine TL_skip0 rfl hb1 ?_
    refine TL_skip0 rfl hb1 ?_
    refine TL_y (y_pick_f (e_t rfl) hb1 (e_b false)) ?_
    exact TL_fr hk (.refl _)
  refine TL_y (y_assign (e_t rfl)) ?_
  refine TL_nil ?_
  refine z_nt ?_
  refine T_ret ?_
  obtain rfl := Option.some.inj h
  exact Z_ret1 (fn := Try.f103) rfl (rv_t rfl)
def sl_Clone_Member (a0 : (List Member)) : Option (List Member) := app ([] : List Member) a0
theorem sl_Clone_Member_ok {a0 : (List Member)} {r : (List Member)} (h : sl_Clone_Member a0 = some r) : FnL Try.prog 106 [.d a0] ⟨[], [], []⟩ (.g 5000) ⟨[], [(5000, ⟨39, (r : List Member)⟩)], []⟩ [] [] := by
  refine FnL.ofO Try.func106 rfl fun w m V hl => ?_
  unfold sl_Clone_Member at h
  refine T_seq ?_
  refine T_region ?_
  refine TL_y (y_assign (e_nil (α := Member))) ?_
  refine TL_nil ?_
  refine z_nt ?_
  refine T_seq ?_
  refine T_seq ?_
  refine T_region ?_
  refine TL_y (y_move (e_t rfl)) ?_
  refine (TL_isnil (e_t rfl) (by rw [el28]; exact Try.underlying28) (fun he => ?_) ?_)
  · subst he
    refine TL_nil ?_
    obtain ⟨rfl, _⟩ := app_some h
    refine z_nt ?_
    refine T_cond (b := true) rfl (fun _ => ?_) (fun hb => absurd hb (by decide))
    refine T_seq ?_
    refine T_region ?_
    refine TL_nilg (α := Member) 39 ?_
    refine TL_nil ?_
    refine z_nt ?_
    refine T_ret ?_
    refine z_rt ?_
    exact zo_ret1 (n := _) hl (fn := Try.f106) rfl rfl rfl
  · refine TL_nil ?_
    refine z_nt ?_
    refine T_cond (b := false) rfl (fun hb => absurd hb (by decide)) (fun _ => ?_)
    refine T_skip ?_
    refine z_nt ?_
    refine T_seq ?_
    refine T_region ?_
    refine TL_buildSlice (xs := ([] : List Member)) trivial tyel28 rfl ?_
    refine TL_y (y_move (e_t rfl)) ?_
    refine TL_append (e_t rfl) rfl (e_t rfl) h tyel28 ?_
    refine TL_y (y_assign (e_t rfl)) ?_
    refine TL_nil ?_
    refine z_nt ?_
    refine T_ret ?_
    exact zo_ret1 (n := _) hl (fn := Try.f106) rfl rfl rfl
def sl_DeleteFunc_Member_l0 (a1 : (Fn1 Member Bool)) : Nat → (List Member) × Int × Int → Option ((List Member) × Int × Int)
  | 0, _ => none
  | ks3 + 1, s3 => (bif (decide (s3.2.2 < (s3.1.length : Int))) then (((ix s3.1 s3.2.2).bind fun t12 => (a1.f t12).bind fun t13 => (bif (!t13) then (ix s3.1 s3.2.1).bind fun t15 => some ((s3.1.set s3.2.1.toNat t12), (w64 (s3.2.1 + 1))) else some (s3.1, s3.2.1)) : Option ((List Member) × Int)).bind fun s9 => sl_DeleteFunc_Member_l0 a1 ks3 (s9.1, s9.2, (w64 (s3.2.2 + 1)))) else some (s3.1, s3.2.1, s3.2.2))
def sl_DeleteFunc_Member (a0 : (List Member)) (a1 : (Fn1 Member Bool)) : Option (List Member) := (sl_IndexFunc_Member a0 a1).bind fun t1 => (bif (decide (t1 = (-1))) then some a0 else ((sl_DeleteFunc_Member_l0 a1 FUEL (a0, t1, (w64 (t1 + 1)))).bind fun s3 => (clr s3.1 s3.2.1 Member.zero).bind fun t16 => (slh t16 s3.2.1).bind fun t17 => some t17))
theorem sl_DeleteFunc_Member_ok {a0 : (List Member)} {a1 : (Fn1 Member Bool)} {r : (List Member)} (h : sl_DeleteFunc_Member a0 a1 = some r) : FnL Try.prog 105 [.g 5000, .d a1] ⟨[], [(5000, ⟨39, (a0 : List Member)⟩)], []⟩ (.g 5000) ⟨[], [(5000, ⟨39, (r : List Member)⟩)], []⟩ [] [] := by
  refine FnL.of Try.func105 rfl fun w m S0 β γ => ?_
  unfold sl_DeleteFunc_Member at h
  refine T_seq ?_
  refine T_region ?_
  refine TL_y (y_assign (e_nil (α := Member))) ?_
  refine TL_nil ?_
  refine z_nt ?_
  refine T_seq ?_
  refine T_region ?_
  refine TL_y (y_move (e_t rfl)) ?_
  refine TL_y (y_move (e_t rfl)) ?_
  obtain ⟨t1, ht1, h⟩ := bind_some h
  refine TL_call_ro (xs := [.d (a0 : (List Member)), .d (a1 : (Fn1 Member Bool))]) (sl_IndexFunc_Member_ok ht1) ⟨.inr ⟨5000, _, (e_t rfl), rfl, rfl⟩, .inl (e_t rfl), trivial⟩ c82 ?_
  refine TL_y (y_assign (e_t rfl)) ?_
  refine TL_nil ?_
  refine z_nt ?_
  refine T_seq ?_
  refine T_seq ?_
  refine T_region ?_
  refine TL_y (y_move (e_t rfl)) ?_
  refine TL_y (y_eql (e_t rfl) (e_i (-1))) ?_
  refine TL_nil ?_
  refine z_nt ?_
  refine T_cond rfl (fun hb2 => ?_) (fun hb2 => ?_)
  · replace h := cond_t hb2 h
    refine T_seq ?_
    refine T_region ?_
    refine TL_y (y_move (e_t rfl)) ?_
    refine TL_y (y_assign (e_t rfl)) ?_
    refine TL_nil ?_
    refine z_nt ?_
    refine T_ret ?_
    refine z_rt ?_
    obtain rfl := Option.some.inj h
    exact zl_ret1 (n := _) ok_base (fn := Try.f105) rfl (rl_t rfl) (le_k (ks := []) (bs := []) (gs := [5000]) .nil .nil (.cons rfl .nil))
  · replace h := cond_f hb2 h
    refine T_skip ?_
    refine z_nt ?_
    refine T_seq ?_
    refine T_seq ?_
    refine T_region ?_
    refine TL_y (y_move (e_t rfl)) ?_
    refine TL_y (y_add (e_t rfl) (e_i (1))) ?_
    refine TL_y (y_assign (e_t rfl)) ?_
    refine TL_nil ?_
    refine z_nt ?_
    obtain ⟨o5, ho5, h⟩ := bind_some h
    refine T_loopin (S := fun (s3 : (List Member) × Int × Int) => ⟨[(0, .g 5000), (5, .d (s3.2.1 : Int)), (6, .d (s3.2.2 : Int))], ⟨[], [(5000, ⟨39, (s3.1 : List Member)⟩)], []⟩⟩) (fun z => z = o5) (fun s3 e => ?_) (fun hfall6 => ?_)
    · subst e
      refine z_nt ?_
      refine T_seq ?_
      refine T_region ?_
      refine TL_y (y_move (e_t rfl)) ?_
      refine TL_y (y_move (e_t rfl)) ?_
      obtain ⟨t16, ht16, h⟩ := bind_some h
      refine TL_clear (e_t rfl) (e_t rfl) rfl ht16 tysl28 (by rw [el28]; exact z39) ?_
      refine TL_nil ?_
      refine z_nt ?_
      refine T_seq ?_
      refine T_region ?_
      refine TL_y (y_move (e_t rfl)) ?_
      refine TL_y (y_move (e_t rfl)) ?_
      obtain ⟨t17, ht17, h⟩ := bind_some h
      refine TL_rcut (e_t rfl) (e_t rfl) rfl ht17 tysl28 ?_
      refine TL_y (y_assign (e_t rfl)) ?_
      refine TL_nil ?_
      refine z_nt ?_
      refine T_ret ?_
      obtain rfl := Option.some.inj h
      exact zl_ret1 (n := _) ok_base (fn := Try.f105) rfl (rl_t rfl) (le_k (ks := []) (bs := []) (gs := [5000]) .nil .nil (.cons rfl .nil))
    · clear h
      refine TW_le (le_k (ks := [0, 1, 5, 6]) (bs := []) (gs := [5000]) (.cons rfl (.cons rfl (.cons rfl (.cons rfl .nil)))) .nil (.cons rfl .nil)) (fuel_ind (fun (s3 : (List Member) × Int × Int) => ⟨[(0, .g 5000), (1, .d (a1 : (Fn1 Member Bool))), (5, .d (s3.2.1 : Int)), (6, .d (s3.2.2 : Int))], ⟨[], [(5000, ⟨39, (s3.1 : List Member)⟩)], []⟩⟩) (fun k s => sl_DeleteFunc_Member_l0 a1 k s = some o5) ?_ ?_ _ (a0, t1, (w64 (t1 + 1))) ho5)
      · intro s h
        cases h
      · intro ks3 s3 ih h
        replace h : ((bif (decide (s3.2.2 < (s3.1.length : Int))) then (((ix s3.1 s3.2.2).bind fun t12 => (a1.f t12).bind fun t13 => (bif (!t13) then (ix s3.1 s3.2.1).bind fun t15 => some ((s3.1.set s3.2.1.toNat t12), (w64 (s3.2.1 + 1))) else some (s3.1, s3.2.1)) : Option ((List Member) × Int)).bind fun s9 => sl_DeleteFunc_Member_l0 a1 ks3 (s9.1, s9.2, (w64 (s3.2.2 + 1)))) else some (s3.1, s3.2.1, s3.2.2))) = some o5 := h
        refine TW_round ?_
        refine T_seq ?_
        refine T_seq ?_
        refine T_region ?_
        refine TL_y (y_move (e_t rfl)) ?_
        refine TL_y (y_move (e_t rfl)) ?_
        refine TL_y (y_len_g (e_t rfl) rfl (by rw [el28]; exact Try.underlying28)) ?_
        refine TL_y (y_lss (e_t rfl) (e_t rfl)) ?_
        refine TL_nil ?_
        refine z_nt ?_
        refine T_cond rfl (fun hb8 => ?_) (fun hb8 => ?_)
        · replace h := cond_t hb8 h
          refine T_skip ?_
          refine z_nt ?_
          obtain ⟨s9, hs9, h⟩ := bind_some h
          refine T_join (S := fun (s9 : (List Member) × Int) => ⟨[(0, .g 5000), (1, .d (a1 : (Fn1 Member Bool))), (5, .d (s9.2 : Int)), (6, .d (s3.2.2 : Int))], ⟨[], [(5000, ⟨39, (s9.1 : List Member)⟩)], []⟩⟩) (fun z => s9 = z) (fun z e => ?_) (fun hfall10 => ?_)
          · subst e
            refine T_region ?_
            refine TL_y (y_move (e_t rfl)) ?_
            refine TL_y (y_add (e_t rfl) (e_i (1))) ?_
            refine TL_y (y_assign (e_t rfl)) ?_
            refine TL_nil ?_
            refine z_nl ?_
            exact TW_le (le_k (ks := [0, 1, 5, 6]) (bs := []) (gs := [5000]) (.cons rfl (.cons rfl (.cons rfl (.cons rfl .nil)))) .nil (.cons rfl .nil)) (ih _ h)
          · clear h
            have h := hs9
            refine T_block ?_
            refine T_seq ?_
            refine T_region ?_
            refine TL_y (y_move (e_t rfl)) ?_
            refine TL_y (y_move (e_t rfl)) ?_
            obtain ⟨t12, ht12, h⟩ := bind_some h
            refine TL_y (y_index_ge (e_t rfl) (e_t rfl) rfl (ix_some ht12).1 (ix_lt ht12) tysl28) ?_
            refine TL_load_ge (i := s3.2.2.toNat) (off := 0) (e_t rfl) rfl (ix_some ht12).2 Sub.self ty39 ?_
            refine TL_alloc z39 ?_
            refine TL_store (e_t rfl) rfl (e_t rfl) Put.self ty39 (by decide) ?_
            refine TL_nil ?_
            refine z_nt ?_
            refine T_seq ?_
            refine T_region ?_
            refine TL_y (y_move (e_t rfl)) ?_
            refine TL_y (y_load (e_t rfl) rfl Sub.self ty39) ?_
            obtain ⟨t13, ht13, h⟩ := bind_some h
            refine TL_callv1 (e_t rfl) (e_t rfl) ht13 ?_
            refine TL_y (y_not (e_t rfl)) ?_
            refine TL_nil ?_
            refine z_nt ?_
            refine T_cond rfl (fun hb14 => ?_) (fun hb14 => ?_)
            · replace h := cond_t hb14 h
              refine T_seq ?_
              refine T_region ?_
              refine TL_y (y_move (e_t rfl)) ?_
              refine TL_y (y_move (e_t rfl)) ?_
              refine TL_y (y_load (e_t rfl) rfl Sub.self ty39) ?_
              obtain ⟨t15, ht15, h⟩ := bind_some h
              refine TL_y (y_index_ge (e_t rfl) (e_t rfl) rfl (ix_some ht15).1 (ix_lt ht15) tysl28) ?_
              refine TL_store_ge (i := s3.2.1.toNat) (e_t rfl) rfl (ix_lt ht15) (e_t rfl) ty39 ?_
              refine TL_nil ?_
              refine z_nt ?_
              refine T_region ?_
              refine TL_y (y_move (e_t rfl)) ?_
              refine TL_y (y_add (e_t rfl) (e_i (1))) ?_
              refine TL_y (y_assign (e_t rfl)) ?_
              refine TL_nil ?_
              refine z_nb ?_
              exact Z_le (le_k (ks := [0, 1, 5, 6]) (bs := []) (gs := [5000]) (.cons rfl (.cons rfl (.cons rfl (.cons rfl .nil)))) .nil (.cons rfl .nil)) (hfall10 _ (Option.some.inj h).symm)
            · replace h := cond_f hb14 h
              refine T_skip ?_
              refine z_nb ?_
              exact Z_le (le_k (ks := [0, 1, 5, 6]) (bs := []) (gs := [5000]) (.cons rfl (.cons rfl (.cons rfl (.cons rfl .nil)))) .nil (.cons rfl .nil)) (hfall10 _ (Option.some.inj h).symm)
        · replace h := cond_f hb8 h
          refine T_exit ?_
          refine z_et ?_
          refine z_et ?_
          refine z_ei ?_
          exact Z_le (le_k (ks := [0, 5, 6]) (bs := []) (gs := [5000]) (.cons rfl (.cons rfl (.cons rfl .nil))) .nil (.cons rfl .nil)) (hfall6 _ (Option.some.inj h))
def node_Drop (a0 : Node) (a1 : (List Int)) : Option (Node × Int) := (node_Right a0).bind fun t1 => (bif (!t1) then some ((Node.zero : Node), 1) else (sl_Clone_Member a0.succs).bind fun t3 => (sl_DeleteFunc_Member t3 (⟨fun x => node_Drop_1 x a0 a1⟩ : (Fn1 Member Bool))).bind fun t4 => (sl_Clone_Member (({ a0 with succs := t4 }).fingers)).bind fun t5 => (sl_DeleteFunc_Member t5 (⟨fun x => node_Drop_1 x ({ a0 with succs := t4 }) a1⟩ : (Fn1 Member Bool))).bind fun t6 => (((bif (decide (((({ ({ a0 with succs := t4 }) with fingers := t6 }).succs).length : Int) = 0)) then some ({ ({ ({ a0 with succs := t4 }) with fingers := t6 }) with succs := ([({ ({ a0 with succs := t4 }) with fingers := t6 }).self] : List Member) }) else some ({ ({ a0 with succs := t4 }) with fingers := t6 })) : Option (Node)).bind fun s7 => (((node_none).bind fun t14 => ((bif (!decide (s7.pred = t14)) then (node_Drop_1 s7.pred s7 a1).bind fun t18 => some t18 else some false)).bind fun t17 => (bif t17 then (node_none).bind fun t20 => some ({ s7 with pred := t20 }) else some s7) : Option (Node)).bind fun s11 => some (s11, 0))))
theorem node_Drop_ok {a0 : Node} {a1 : (List Int)} {r : (Node × Int)} (h : node_Drop a0 a1 = some r) : Fn Try.prog 74 [.d a0, .d a1] (.t2 (.d r.1) (.d r.2)) := by
  refine Fn.of Try.func74 rfl fun w m => ?_
  unfold node_Drop at h
  refine T_seq ?_
  refine T_region ?_
  refine TL_box (e_t rfl) ?_
  refine TL_box (e_t rfl) ?_
  refine TL_alloc z44 ?_
  refine TL_y (y_assign (e_i (0))) ?_
  refine TL_nil ?_
  refine z_nt ?_
  refine T_seq ?_
  refine T_seq ?_
  refine T_region ?_
  refine TL_y (y_load (e_t rfl) rfl Sub.self ty44) ?_
  obtain ⟨t1, ht1, h⟩ := bind_some h
  refine TL_call (xs := [.d (a0 : Node)]) (node_Right_ok ht1) ⟨(e_t rfl), trivial⟩ c48 ?_
  refine TL_y (y_not (e_t rfl)) ?_
  refine TL_nil ?_
  refine z_nt ?_
  refine T_cond rfl (fun hb2 => ?_) (fun hb2 => ?_)
  · replace h := cond_t hb2 h
    refine T_seq ?_
    refine T_region ?_
    refine TL_y (y_build z44 pl44 (b_nil) rfl) ?_
    refine TL_store (e_t rfl) rfl (e_t rfl) Put.self ty44 (by decide) ?_
    refine TL_y (y_assign (e_i (1))) ?_
    refine TL_nil ?_
    refine z_nt ?_
    refine T_ret ?_
    refine z_rt ?_
    obtain rfl := Option.some.inj h
    exact Z_ret2 (fn := Try.f74) rfl (rv_c rfl rfl ty44) (rv_t rfl)
  · replace h := cond_f hb2 h
    refine T_skip ?_
    refine z_nt ?_
    refine T_seq ?_
    refine T_region ?_
    refine TL_y (y_makeCl (bs := [2, 3]) ⟨(e_t rfl), (e_t rfl), trivial⟩) ?_
    refine TL_y (y_assign (e_t rfl)) ?_
    refine TL_nil ?_
    refine z_nt ?_
    refine T_seq ?_
    refine T_region ?_
    refine TL_y (y_fieldAddr (e_t rfl) fo44_2) ?_
    refine TL_y (y_load (e_t rfl) rfl s_Node_succs ty28) ?_
    obtain ⟨t3, ht3, h⟩ := bind_some h
    have hct3 : FnL Try.prog 106 [.d (a0.succs : (List Member))] ⟨[], [], []⟩ (.g 5014) ⟨[], [(5014, ⟨39, (t3 : List Member)⟩)], []⟩ [] [] := (sl_Clone_Member_ok ht3).sw 3000 3000 5000 5014
    refine TL_callL hct3 ⟨(e_t rfl), trivial⟩ c106 ⟨[(2, ⟨(a0 : Node)⟩), (3, ⟨(a1 : (List Int))⟩), (4, ⟨(Node.zero : Node)⟩)], [], []⟩ [(0, .d (a0 : Node)), (1, .d (a1 : (List Int))), (2, .p 2 0), (3, .p 3 0), (4, .p 4 0), (5, .d (0 : Int)), (7, .d (a0 : Node)), (8, .d (t1 : Bool)), (9, .d ((!t1) : Bool)), (11, .cl 103 [2, 3]), (6, .cl 103 [2, 3]), (12, .p 2 66), (13, .d (a0.succs : (List Member)))] (le_k (ks := []) (bs := []) (gs := []) .nil .nil .nil) (le_k (ks := [0, 1, 2, 3, 4, 5, 7, 8, 9, 11, 6, 12, 13]) (bs := [2, 3, 4]) (gs := []) (.cons rfl (.cons rfl (.cons rfl (.cons rfl (.cons rfl (.cons rfl (.cons rfl (.cons rfl (.cons rfl (.cons rfl (.cons rfl (.cons rfl (.cons rfl .nil))))))))))))) (.cons rfl (.cons rfl (.cons rfl .nil))) .nil) (TL_le (s' := ⟨[(0, .d (a0 : Node)), (1, .d (a1 : (List Int))), (2, .p 2 0), (3, .p 3 0), (4, .p 4 0), (5, .d (0 : Int)), (7, .d (a0 : Node)), (8, .d (t1 : Bool)), (9, .d ((!t1) : Bool)), (11, .cl 103 [2, 3]), (6, .cl 103 [2, 3]), (12, .p 2 66), (13, .d (a0.succs : (List Member))), (14, .g 5014)], ⟨[(2, ⟨(a0 : Node)⟩), (3, ⟨(a1 : (List Int))⟩), (4, ⟨(Node.zero : Node)⟩)], [(5014, ⟨39, (t3 : List Member)⟩)], []⟩⟩) (le_k (ks := [0, 1, 2, 3, 4, 5, 7, 8, 9, 11, 6, 12, 13, 14]) (bs := [2, 3, 4]) (gs := [5014]) (.cons rfl (.cons rfl (.cons rfl (.cons rfl (.cons rfl (.cons rfl (.cons rfl (.cons rfl (.cons rfl (.cons rfl (.cons rfl (.cons rfl (.cons rfl (.cons rfl .nil)))))))))))))) (.cons rfl (.cons rfl (.cons rfl .nil))) (.cons rfl .nil)) ?_) trivial ⟨.inr rfl, trivial⟩
    refine TL_y (y_move (e_t rfl)) ?_
    obtain ⟨t4, ht4, h⟩ := bind_some h
    refine TL_callDel (caps := [.d (⟨a0⟩ : Ptr Node), .d (⟨a1⟩ : Ptr (List Int))]) (F := fun x => node_Drop_1 x a0 a1) (e_t rfl) (e_t rfl) rfl ⟨⟨_, rfl, rfl⟩, ⟨_, rfl, rfl⟩, trivial⟩ (fun x r h => node_Drop_1_ok h) c103 ((sl_DeleteFunc_Member_ok ht4).sw 3000 3000 5000 5014) c105 ?_
    refine TL_y (y_fieldAddr (e_t rfl) fo44_2) ?_
    refine TL_pub (q := 16) (nm := 5014) ⟨[(0, .d (a0 : Node)), (1, .d (a1 : (List Int))), (2, .p 2 0), (3, .p 3 0), (4, .p 4 0), (5, .d (0 : Int)), (7, .d (a0 : Node)), (8, .d (t1 : Bool)), (9, .d ((!t1) : Bool)), (11, .cl 103 [2, 3]), (6, .cl 103 [2, 3]), (12, .p 2 66), (13, .d (a0.succs : (List Member))), (15, .cl 103 [2, 3]), (17, .p 2 66)], ⟨[(2, ⟨(a0 : Node)⟩), (3, ⟨(a1 : (List Int))⟩), (4, ⟨(Node.zero : Node)⟩)], [], []⟩⟩ rfl rfl (le_k (ks := [0, 1, 2, 3, 4, 5, 7, 8, 9, 11, 6, 12, 13, 15, 17]) (bs := [2, 3, 4]) (gs := []) (.cons rfl (.cons rfl (.cons rfl (.cons rfl (.cons rfl (.cons rfl (.cons rfl (.cons rfl (.cons rfl (.cons rfl (.cons rfl (.cons rfl (.cons rfl (.cons rfl (.cons rfl .nil))))))))))))))) (.cons rfl (.cons rfl (.cons rfl .nil))) .nil) rfl ?_
    refine TL_store (e_t rfl) rfl (e_t rfl) p_Node_succs ty28 (Nat.le_of_ble_eq_true rfl) ?_
    refine TL_nil ?_
    refine z_nt ?_
    refine T_seq ?_
    refine T_region ?_
    refine TL_y (y_fieldAddr (e_t rfl) fo44_3) ?_
    refine TL_y (y_load (e_t rfl) rfl s_Node_fingers ty28) ?_
    obtain ⟨t5, ht5, h⟩ := bind_some h
    have hct5 : FnL Try.prog 106 [.d (({ a0 with succs := t4 }).fingers : (List Member))] ⟨[], [], []⟩ (.g 5020) ⟨[], [(5020, ⟨39, (t5 : List Member)⟩)], []⟩ [] [] := (sl_Clone_Member_ok ht5).sw 3000 3000 5000 5020
    refine TL_callL hct5 ⟨(e_t rfl), trivial⟩ c106 ⟨[(2, ⟨({ a0 with succs := t4 } : Node)⟩), (3, ⟨(a1 : (List Int))⟩), (4, ⟨(Node.zero : Node)⟩)], [], []⟩ [(0, .d (a0 : Node)), (1, .d (a1 : (List Int))), (2, .p 2 0), (3, .p 3 0), (4, .p 4 0), (5, .d (0 : Int)), (7, .d (a0 : Node)), (8, .d (t1 : Bool)), (9, .d ((!t1) : Bool)), (11, .cl 103 [2, 3]), (6, .cl 103 [2, 3]), (12, .p 2 66), (13, .d (a0.succs : (List Member))), (15, .cl 103 [2, 3]), (16, .d (t4 : (List Member))), (17, .p 2 66), (18, .p 2 67), (19, .d (({ a0 with succs := t4 }).fingers : (List Member)))] (le_k (ks := []) (bs := []) (gs := []) .nil .nil .nil) (le_k (ks := [0, 1, 2, 3, 4, 5, 7, 8, 9, 11, 6, 12, 13, 15, 16, 17, 18, 19]) (bs := [2, 3, 4]) (gs := []) (.cons rfl (.cons rfl (.cons rfl (.cons rfl (.cons rfl (.cons rfl (.cons rfl (.cons rfl (.cons rfl (.cons rfl (.cons rfl (.cons rfl (.cons rfl (.cons rfl (.cons rfl (.cons rfl (.cons rfl (.cons rfl .nil)))))))))))))))))) (.cons rfl (.cons rfl (.cons rfl .nil))) .nil) (TL_le (s' := ⟨[(0, .d (a0 : Node)), (1, .d (a1 : (List Int))), (2, .p 2 0), (3, .p 3 0), (4, .p 4 0), (5, .d (0 : Int)), (7, .d (a0 : Node)), (8, .d (t1 : Bool)), (9, .d ((!t1) : Bool)), (11, .cl 103 [2, 3]), (6, .cl 103 [2, 3]), (12, .p 2 66), (13, .d (a0.succs : (List Member))), (15, .cl 103 [2, 3]), (16, .d (t4 : (List Member))), (17, .p 2 66), (18, .p 2 67), (19, .d (({ a0 with succs := t4 }).fingers : (List Member))), (20, .g 5020)], ⟨[(2, ⟨({ a0 with succs := t4 } : Node)⟩), (3, ⟨(a1 : (List Int))⟩), (4, ⟨(Node.zero : Node)⟩)], [(5020, ⟨39, (t5 : List Member)⟩)], []⟩⟩) (le_k (ks := [0, 1, 2, 3, 4, 5, 7, 8, 9, 11, 6, 12, 13, 15, 16, 17, 18, 19, 20]) (bs := [2, 3, 4]) (gs := [5020]) (.cons rfl (.cons rfl (.cons rfl (.cons rfl (.cons rfl (.cons rfl (.cons rfl (.cons rfl (.cons rfl (.cons rfl (.cons rfl (.cons rfl (.cons rfl (.cons rfl (.cons rfl (.cons rfl (.cons rfl (.cons rfl (.cons rfl .nil))))))))))))))))))) (.cons rfl (.cons rfl (.cons rfl .nil))) (.cons rfl .nil)) ?_) trivial ⟨.inr rfl, trivial⟩
    refine TL_y (y_move (e_t rfl)) ?_
    obtain ⟨t6, ht6, h⟩ := bind_some h
    refine TL_callDel (caps := [.d (⟨{ a0 with succs := t4 }⟩ : Ptr Node), .d (⟨a1⟩ : Ptr (List Int))]) (F := fun x => node_Drop_1 x ({ a0 with succs := t4 }) a1) (e_t rfl) (e_t rfl) rfl ⟨⟨_, rfl, rfl⟩, ⟨_, rfl, rfl⟩, trivial⟩ (fun x r h => node_Drop_1_ok h) c103 ((sl_DeleteFunc_Member_ok ht6).sw 3000 3000 5000 5020) c105 ?_
    refine TL_y (y_fieldAddr (e_t rfl) fo44_3) ?_
    refine TL_pub (q := 22) (nm := 5020) ⟨[(0, .d (a0 : Node)), (1, .d (a1 : (List Int))), (2, .p 2 0), (3, .p 3 0), (4, .p 4 0), (5, .d (0 : Int)), (7, .d (a0 : Node)), (8, .d (t1 : Bool)), (9, .d ((!t1) : Bool)), (11, .cl 103 [2, 3]), (6, .cl 103 [2, 3]), (12, .p 2 66), (13, .d (a0.succs : (List Member))), (15, .cl 103 [2, 3]), (16, .d (t4 : (List Member))), (17, .p 2 66), (18, .p 2 67), (19, .d (({ a0 with succs := t4 }).fingers : (List Member))), (21, .cl 103 [2, 3]), (23, .p 2 67)], ⟨[(2, ⟨({ a0 with succs := t4 } : Node)⟩), (3, ⟨(a1 : (List Int))⟩), (4, ⟨(Node.zero : Node)⟩)], [], []⟩⟩ rfl rfl (le_k (ks := [0, 1, 2, 3, 4, 5, 7, 8, 9, 11, 6, 12, 13, 15, 16, 17, 18, 19, 21, 23]) (bs := [2, 3, 4]) (gs := []) (.cons rfl (.cons rfl (.cons rfl (.cons rfl (.cons rfl (.cons rfl (.cons rfl (.cons rfl (.cons rfl (.cons rfl (.cons rfl (.cons rfl (.cons rfl (.cons rfl (.cons rfl (.cons rfl (.cons rfl (.cons rfl (.cons rfl (.cons rfl .nil)))))))))))))))))))) (.cons rfl (.cons rfl (.cons rfl .nil))) .nil) rfl ?_
    refine TL_store (e_t rfl) rfl (e_t rfl) p_Node_fingers ty28 (Nat.le_of_ble_eq_true rfl) ?_
    refine TL_nil ?_
    refine z_nt ?_
    obtain ⟨s7, hs7, h⟩ := bind_some h
    refine T_join (S := fun (s7 : Node) => ⟨[(2, .p 2 0), (3, .p 3 0), (4, .p 4 0), (6, .cl 103 [2, 3])], ⟨[(2, ⟨(s7 : Node)⟩), (3, ⟨(a1 : (List Int))⟩), (4, ⟨(Node.zero : Node)⟩)], [], []⟩⟩) (fun z => s7 = z) (fun z e => ?_) (fun hfall8 => ?_)
    · subst e
      obtain ⟨s11, hs11, h⟩ := bind_some h
      refine T_join (S := fun (s11 : Node) => ⟨[(2, .p 2 0), (4, .p 4 0)], ⟨[(2, ⟨(s11 : Node)⟩), (4, ⟨(Node.zero : Node)⟩)], [], []⟩⟩) (fun z => s11 = z) (fun z e => ?_) (fun hfall12 => ?_)
      · subst e
        refine T_seq ?_
        refine T_region ?_
        refine TL_y (y_load (e_t rfl) rfl Sub.self ty44) ?_
        refine TL_store (e_t rfl) rfl (e_t rfl) Put.self ty44 (by decide) ?_
        refine TL_y (y_assign (e_i (0))) ?_
        refine TL_nil ?_
        refine z_nt ?_
        refine T_ret ?_
        obtain rfl := Option.some.inj h
        exact Z_ret2 (fn := Try.f74) rfl (rv_c rfl rfl ty44) (rv_t rfl)
      · clear h
        have h := hs11
        refine T_seq ?_
        refine T_draw hmix (by kernel_rfl) ?_
        refine TQ_y (y_fieldAddr (e_t rfl) fo44_1) ?_
        refine TQ_y (y_load (e_t rfl) rfl s_Node_pred ty39) ?_
        obtain ⟨t14, ht14, h⟩ := bind_some h
        refine TQ_y (y_call (xs := []) (node_none_ok ht14) trivial c78) ?_
        refine TQ_y (y_neqT (e_t rfl) (e_t rfl) eqT39 rfl eg39) ?_
        refine TQ_y (y_move (e_t rfl)) ?_
        obtain ⟨t17, ht17, h⟩ := bind_some h
        refine TQ_cut 5 41 (r := t17) (!decide (s7.pred = t14)) ?_ (fun hb15 hk => ?_) (fun hb15 hk => ?_)
        rotate_left
        · replace h := cond_t hb15 ht17
          refine TQ_want rfl hb15 ?_
          refine TQ_y (y_move (e_t rfl)) ?_
          refine TQ_want rfl hb15 ?_
          refine TQ_y (y_fieldAddr (e_t rfl) fo44_1) ?_
          refine TQ_want rfl hb15 ?_
          refine TQ_y (y_load (e_t rfl) rfl s_Node_pred ty39) ?_
          refine TQ_want rfl hb15 ?_
          obtain ⟨t18, ht18, h⟩ := bind_some h
          refine TQ_y (y_callcl (caps := [.d (⟨s7⟩ : Ptr Node), .d (⟨a1⟩ : Ptr (List Int))]) (e_t rfl) ⟨⟨_, rfl, rfl⟩, ⟨_, rfl, rfl⟩, trivial⟩ (e_t rfl) (node_Drop_1_ok ht18) c103) ?_
          obtain rfl := Option.some.inj h
          refine TQ_y (y_pick_t (e_t rfl) hb15 (e_t rfl)) ?_
          exact TQ_fr hk (.cons (.cons (.cons (.cons (.refl _) rfl) rfl) rfl) rfl)
        · obtain rfl := Option.some.inj (cond_f hb15 ht17)
          refine TQ_skip0 rfl hb15 ?_
          refine TQ_skip0 rfl hb15 ?_
          refine TQ_skip0 rfl hb15 ?_
          refine TQ_skip0 rfl hb15 ?_
          refine TQ_y (y_pick_f (e_t rfl) hb15 (e_b false)) ?_
          exact TQ_fr hk (.refl _)
        refine TQ_nil ?_
        refine z_nt ?_
        refine T_cond rfl (fun hb19 => ?_) (fun hb19 => ?_)
        · replace h := cond_t hb19 h
          refine T_region ?_
          obtain ⟨t20, ht20, h⟩ := bind_some h
          refine TL_call (xs := []) (node_none_ok ht20) trivial c78 ?_
          refine TL_y (y_fieldAddr (e_t rfl) fo44_1) ?_
          refine TL_store (e_t rfl) rfl (e_t rfl) p_Node_pred ty39 (by decide) ?_
          refine TL_nil ?_
          exact Z_le (le_k (ks := [2, 4]) (bs := [2, 4]) (gs := []) (.cons rfl (.cons rfl .nil)) (.cons rfl (.cons rfl .nil)) .nil) (hfall12 _ (Option.some.inj h).symm)
        · replace h := cond_f hb19 h
          refine T_skip ?_
          exact Z_le (le_k (ks := [2, 4]) (bs := [2, 4]) (gs := []) (.cons rfl (.cons rfl .nil)) (.cons rfl (.cons rfl .nil)) .nil) (hfall12 _ (Option.some.inj h).symm)
    · clear h
      have h := hs7
      refine T_seq ?_
      refine T_region ?_
      refine TL_y (y_fieldAddr (e_t rfl) fo44_2) ?_
      refine TL_y (y_load (e_t rfl) rfl s_Node_succs ty28) ?_
      refine TL_y (y_len (e_t rfl) (by rw [el28]; exact Try.underlying28)) ?_
      refine TL_y (y_eql (e_t rfl) (e_i (0))) ?_
      refine TL_nil ?_
      refine z_nt ?_
      refine T_cond rfl (fun hb10 => ?_) (fun hb10 => ?_)
      · replace h := cond_t hb10 h
        refine T_region ?_
        refine TL_y (y_fieldAddr (e_t rfl) fo44_0) ?_
        refine TL_y (y_load (e_t rfl) rfl s_Node_self ty39) ?_
        refine TL_buildSlice (xs := ([({ ({ a0 with succs := t4 }) with fingers := t6 }).self] : List Member)) (⟨rfl, (e_t rfl), trivial⟩) tyel28 rfl ?_
        refine TL_y (y_fieldAddr (e_t rfl) fo44_2) ?_
        refine TL_store_g (e_t rfl) rfl (e_t rfl) rfl p_Node_succs ty28 (by decide) ?_
        refine TL_nil ?_
        exact Z_le (le_k (ks := [2, 3, 4, 6]) (bs := [2, 3, 4]) (gs := []) (.cons rfl (.cons rfl (.cons rfl (.cons rfl .nil)))) (.cons rfl (.cons rfl (.cons rfl .nil))) .nil) (hfall8 _ (Option.some.inj h).symm)
      · replace h := cond_f hb10 h
        refine T_skip ?_
        exact Z_le (le_k (ks := [2, 3, 4, 6]) (bs := [2, 3, 4]) (gs := []) (.cons rfl (.cons rfl (.cons rfl (.cons rfl .nil)))) (.cons rfl (.cons rfl (.cons rfl .nil))) .nil) (hfall8 _ (Option.some.inj h).symm)
def ident_In (a0 : Id) (a1 : Id) (a2 : Id) : Option Bool := (bif (decide (a1 = a2)) then some true else (ident_Far a1 a0).bind fun t2 => ((bif (!decide (t2 = (Id.zero : Id))) then (ident_Far a1 a2).bind fun t7 => (ident_Compare t2 t7).bind fun t8 => some (decide (t8 ≤ 0)) else some false)).bind fun t6 => some t6)
theorem ident_In_ok {a0 : Id} {a1 : Id} {a2 : Id} {r : Bool} (h : ident_In a0 a1 a2 = some r) : Fn Try.prog 107 [.d a0, .d a1, .d a2] (.d r) := by
  refine Fn.of Try.func107 rfl fun w m => ?_
  unfold ident_In at h
  refine T_seq ?_
  refine T_region ?_
  refine TL_box (e_t rfl) ?_
  refine TL_box (e_t rfl) ?_
  refine TL_box (e_t rfl) ?_
  refine TL_y (y_assign (e_b false)) ?_
  refine TL_nil ?_
  refine z_nt ?_
  refine T_seq ?_
  refine T_seq ?_
  refine T_region ?_
  refine TL_y (y_load (e_t rfl) rfl Sub.self ty26) ?_
  refine TL_y (y_load (e_t rfl) rfl Sub.self ty26) ?_
  refine TL_y (y_eqlT (e_t rfl) (e_t rfl) eqT26 rfl eg26) ?_
  refine TL_nil ?_
  refine z_nt ?_
  refine T_cond rfl (fun hb1 => ?_) (fun hb1 => ?_)
  · replace h := cond_t hb1 h
    refine T_seq ?_
    refine T_region ?_
    refine TL_y (y_assign (e_b true)) ?_
    refine TL_nil ?_
    refine z_nt ?_
    refine T_ret ?_
    refine z_rt ?_
    obtain rfl := Option.some.inj h
    exact Z_ret1 (fn := Try.f107) rfl (rv_t rfl)
  · replace h := cond_f hb1 h
    refine T_skip ?_
    refine z_nt ?_
    refine T_seq ?_
    refine T_region ?_
    refine TL_y (y_load (e_t rfl) rfl Sub.self ty26) ?_
    refine TL_y (y_load (e_t rfl) rfl Sub.self ty26) ?_
    obtain ⟨t2, ht2, h⟩ := bind_some h
    refine TL_call (xs := [.d (a1 : Id), .d (a0 : Id)]) (ident_Far_ok ht2) ⟨(e_t rfl), (e_t rfl), trivial⟩ c18 ?_
    refine TL_alloc z26 ?_
    refine TL_store (e_t rfl) rfl (e_t rfl) Put.self ty26 (by decide) ?_
    refine TL_nil ?_
    refine z_nt ?_
    refine T_seq ?_
    refine T_draw hmix (by kernel_rfl) ?_
    refine TQ_y (y_load (e_t rfl) rfl Sub.self ty26) ?_
    refine TQ_y (y_build z26 pl26 (b_nil) rfl) ?_
    refine TQ_y (y_neqT (e_t rfl) (e_t rfl) eqT26 rfl eg26) ?_
    refine TQ_y (y_move (e_t rfl)) ?_
    obtain ⟨t6, ht6, h⟩ := bind_some h
    refine TQ_cut 7 24 (r := t6) (!decide (t2 = (Id.zero : Id))) ?_ (fun hb3 hk => ?_) (fun hb3 hk => ?_)
    rotate_left
    · replace h := cond_t hb3 ht6
      refine TQ_want rfl hb3 ?_
      refine TQ_y (y_load (e_t rfl) rfl Sub.self ty26) ?_
      refine TQ_want rfl hb3 ?_
      refine TQ_y (y_load (e_t rfl) rfl Sub.self ty26) ?_
      refine TQ_want rfl hb3 ?_
      refine TQ_y (y_load (e_t rfl) rfl Sub.self ty26) ?_
      refine TQ_want rfl hb3 ?_
      obtain ⟨t7, ht7, h⟩ := bind_some h
      refine TQ_y (y_call (xs := [.d (a1 : Id), .d (a2 : Id)]) (ident_Far_ok ht7) ⟨(e_t rfl), (e_t rfl), trivial⟩ c18) ?_
      refine TQ_want rfl hb3 ?_
      obtain ⟨t8, ht8, h⟩ := bind_some h
      refine TQ_y (y_call (xs := [.d (t2 : Id), .d (t7 : Id)]) (ident_Compare_ok ht8) ⟨(e_t rfl), (e_t rfl), trivial⟩ c17) ?_
      refine TQ_want rfl hb3 ?_
      refine TQ_y (y_leq (e_t rfl) (e_i (0))) ?_
      obtain rfl := Option.some.inj h
      refine TQ_y (y_pick_t (e_t rfl) hb3 (e_t rfl)) ?_
      exact TQ_fr hk (.cons (.cons (.cons (.cons (.cons (.cons (.refl _) rfl) rfl) rfl) rfl) rfl) rfl)
    · obtain rfl := Option.some.inj (cond_f hb3 ht6)
      refine TQ_skip0 rfl hb3 ?_
      refine TQ_skip0 rfl hb3 ?_
      refine TQ_skip0 rfl hb3 ?_
      refine TQ_skip0 rfl hb3 ?_
      refine TQ_skip0 rfl hb3 ?_
      refine TQ_skip0 rfl hb3 ?_
      refine TQ_y (y_pick_f (e_t rfl) hb3 (e_b false)) ?_
      exact TQ_fr hk (.refl _)
    refine TQ_y (y_assign (e_t rfl)) ?_
    refine TQ_nil ?_
    refine z_nt ?_
    refine T_ret ?_
    obtain rfl := Option.some.inj h
    exact Z_ret1 (fn := Try.f107) rfl (rv_t rfl)
def node_Owns (a0 : Node) (a1 : Id) : Option Bool := (node_Right a0).bind fun t1 => ((bif t1 then (node_none).bind fun t5 => some (!decide (a0.pred = t5)) else some false)).bind fun t4 => ((bif t4 then (ident_In a1 a0.pred.id a0.self.id).bind fun t9 => some t9 else some false)).bind fun t8 => some t8
theorem node_Owns_ok {a0 : Node} {a1 : Id} {r : Bool} (h : node_Owns a0 a1 = some r) : Fn Try.prog 99 [.d a0, .d a1] (.d r) := by
  refine Fn.of Try.func99 rfl fun w m => ?_
  unfold node_Owns at h
  refine T_seq ?_
  refine T_region ?_
  refine TL_box (e_t rfl) ?_
  refine TL_box (e_t rfl) ?_
  refine TL_y (y_assign (e_b false)) ?_
  refine TL_nil ?_
  refine z_nt ?_
  refine T_seq ?_
  refine T_draw hmix (by kernel_rfl) ?_
  refine TQ_y (y_load (e_t rfl) rfl Sub.self ty44) ?_
  obtain ⟨t1, ht1, h⟩ := bind_some h
  refine TQ_y (y_call (xs := [.d (a0 : Node)]) (node_Right_ok ht1) ⟨(e_t rfl), trivial⟩ c48) ?_
  refine TQ_y (y_move (e_t rfl)) ?_
  obtain ⟨t4, ht4, h⟩ := bind_some h
  refine TQ_cut 5 12 (r := t4) t1 ?_ (fun hb2 hk => ?_) (fun hb2 hk => ?_)
  rotate_left
  · replace h := cond_t hb2 ht4
    refine TQ_want rfl hb2 ?_
    refine TQ_y (y_fieldAddr (e_t rfl) fo44_1) ?_
    refine TQ_want rfl hb2 ?_
    refine TQ_y (y_load (e_t rfl) rfl s_Node_pred ty39) ?_
    refine TQ_want rfl hb2 ?_
    obtain ⟨t5, ht5, h⟩ := bind_some h
    refine TQ_y (y_call (xs := []) (node_none_ok ht5) trivial c78) ?_
    refine TQ_want rfl hb2 ?_
    refine TQ_y (y_neqT (e_t rfl) (e_t rfl) eqT39 rfl eg39) ?_
    obtain rfl := Option.some.inj h
    refine TQ_y (y_pick_t (e_t rfl) hb2 (e_t rfl)) ?_
    exact TQ_fr hk (.cons (.cons (.cons (.cons (.refl _) rfl) rfl) rfl) rfl)
  · obtain rfl := Option.some.inj (cond_f hb2 ht4)
    refine TQ_skip0 rfl hb2 ?_
    refine TQ_skip0 rfl hb2 ?_
    refine TQ_skip0 rfl hb2 ?_
    refine TQ_skip0 rfl hb2 ?_
    refine TQ_y (y_pick_f (e_t rfl) hb2 (e_b false)) ?_
    exact TQ_fr hk (.refl _)
  refine TQ_y (y_move (e_t rfl)) ?_
  obtain ⟨t8, ht8, h⟩ := bind_some h
  refine TQ_cut 9 22 (r := t8) t4 ?_ (fun hb6 hk => ?_) (fun hb6 hk => ?_)
  rotate_left
  · replace h := cond_t hb6 ht8
    refine TQ_want rfl hb6 ?_
    refine TQ_y (y_load (e_t rfl) rfl Sub.self ty26) ?_
    refine TQ_want rfl hb6 ?_
    refine TQ_y (y_fieldAddr (e_t rfl) fo44_1) ?_
    refine TQ_want rfl hb6 ?_
    refine TQ_y (y_fieldAddr (e_t rfl) fo39_1) ?_
    refine TQ_want rfl hb6 ?_
    refine TQ_y (y_load (e_t rfl) rfl s_Node_pred_id ty26) ?_
    refine TQ_want rfl hb6 ?_
    refine TQ_y (y_fieldAddr (e_t rfl) fo44_0) ?_
    refine TQ_want rfl hb6 ?_
    refine TQ_y (y_fieldAddr (e_t rfl) fo39_1) ?_
    refine TQ_want rfl hb6 ?_
    refine TQ_y (y_load (e_t rfl) rfl s_Node_self_id ty26) ?_
    refine TQ_want rfl hb6 ?_
    obtain ⟨t9, ht9, h⟩ := bind_some h
    refine TQ_y (y_call (xs := [.d (a1 : Id), .d (a0.pred.id : Id), .d (a0.self.id : Id)]) (ident_In_ok ht9) ⟨(e_t rfl), (e_t rfl), (e_t rfl), trivial⟩ c107) ?_
    obtain rfl := Option.some.inj h
    refine TQ_y (y_pick_t (e_t rfl) hb6 (e_t rfl)) ?_
    exact TQ_fr hk (.cons (.cons (.cons (.cons (.cons (.cons (.cons (.cons (.refl _) rfl) rfl) rfl) rfl) rfl) rfl) rfl) rfl)
  · obtain rfl := Option.some.inj (cond_f hb6 ht8)
    refine TQ_skip0 rfl hb6 ?_
    refine TQ_skip0 rfl hb6 ?_
    refine TQ_skip0 rfl hb6 ?_
    refine TQ_skip0 rfl hb6 ?_
    refine TQ_skip0 rfl hb6 ?_
    refine TQ_skip0 rfl hb6 ?_
    refine TQ_skip0 rfl hb6 ?_
    refine TQ_skip0 rfl hb6 ?_
    refine TQ_y (y_pick_f (e_t rfl) hb6 (e_b false)) ?_
    exact TQ_fr hk (.refl _)
  refine TQ_y (y_assign (e_t rfl)) ?_
  refine TQ_nil ?_
  refine z_nt ?_
  refine T_ret ?_
  obtain rfl := Option.some.inj h
  exact Z_ret1 (fn := Try.f99) rfl (rv_t rfl)
def finger_Closest_1 (a0 : Member) (a1 : Id) (a2 : Id) : Option Bool := ((bif ((!decide (a0.id = a1)) && (!decide (a0.id = a2))) then (ident_In a0.id a1 a2).bind fun t5 => some t5 else some false)).bind fun t4 => some t4
theorem finger_Closest_1_ok {a0 : Member} {a1 : Id} {a2 : Id} {r : Bool} (h : finger_Closest_1 a0 a1 a2 = some r) : Fn Try.prog 120 [.d a0, .d (⟨a1⟩ : Ptr Id), .d (⟨a2⟩ : Ptr Id)] (.d r) := by
  refine Fn.of Try.func120 rfl fun w m => ?_
  unfold finger_Closest_1 at h
  refine T_seq ?_
  refine T_region ?_
  refine TL_box (e_t rfl) ?_
  refine TL_y (y_assign (e_b false)) ?_
  refine TL_nil ?_
  refine z_nt ?_
  refine T_seq ?_
  refine T_region ?_
  refine TL_y (y_fieldAddr (e_t rfl) fo39_1) ?_
  refine TL_y (y_load (e_t rfl) rfl s_Member_id ty26) ?_
  refine TL_y (y_load_ptr (e_t rfl) ty26) ?_
  refine TL_y (y_neqT (e_t rfl) (e_t rfl) eqT26 rfl eg26) ?_
  refine TL_y (y_move (e_t rfl)) ?_
  refine TL_and 5 14 (b := (!decide (a0.id = a1))) (c := (!decide (a0.id = a2))) ?_ (fun hb1 hk => ?_) (fun hb1 hk => ?_)
  rotate_left
  · refine TL_skip0 rfl hb1 ?_
    refine TL_skip0 rfl hb1 ?_
    refine TL_skip0 rfl hb1 ?_
    refine TL_skip0 rfl hb1 ?_
    refine TL_y (y_pick_f (e_t rfl) hb1 (e_b false)) ?_
    exact TL_fr hk (.refl _)
  · refine TL_want rfl hb1 ?_
    refine TL_y (y_fieldAddr (e_t rfl) fo39_1) ?_
    refine TL_want rfl hb1 ?_
    refine TL_y (y_load (e_t rfl) rfl s_Member_id ty26) ?_
    refine TL_want rfl hb1 ?_
    refine TL_y (y_load_ptr (e_t rfl) ty26) ?_
    refine TL_want rfl hb1 ?_
    refine TL_y (y_neqT (e_t rfl) (e_t rfl) eqT26 rfl eg26) ?_
    refine TL_y (y_pick_t (e_t rfl) hb1 (e_t rfl)) ?_
    exact TL_fr hk (.cons (.cons (.cons (.cons (.refl _) rfl) rfl) rfl) rfl)
  refine TL_y (y_move (e_t rfl)) ?_
  obtain ⟨t4, ht4, h⟩ := bind_some h
  refine TL_cut 6 21 (r := t4) ((!decide (a0.id = a1)) && (!decide (a0.id = a2))) ?_ (fun hb2 hk => ?_) (fun hb2 hk => ?_)
  rotate_left
  · replace h := cond_t hb2 ht4
    refine TL_want rfl hb2 ?_
    refine TL_y (y_fieldAddr (e_t rfl) fo39_1) ?_
    refine TL_want rfl hb2 ?_
    refine TL_y (y_load (e_t rfl) rfl s_Member_id ty26) ?_
    refine TL_want rfl hb2 ?_
    refine TL_y (y_load_ptr (e_t rfl) ty26) ?_
    refine TL_want rfl hb2 ?_
    refine TL_y (y_load_ptr (e_t rfl) ty26) ?_
    refine TL_want rfl hb2 ?_
    obtain ⟨t5, ht5, h⟩ := bind_some h
    refine TL_call (xs := [.d (a0.id : Id), .d (a1 : Id), .d (a2 : Id)]) (ident_In_ok ht5) ⟨(e_t rfl), (e_t rfl), (e_t rfl), trivial⟩ c107 ?_
    obtain rfl := Option.some.inj h
    refine TL_y (y_pick_t (e_t rfl) hb2 (e_t rfl)) ?_
    exact TL_fr hk (.cons (.cons (.cons (.cons (.cons (.refl _) rfl) rfl) rfl) rfl) rfl)
  · obtain rfl := Option.some.inj (cond_f hb2 ht4)
    refine TL_skip0 rfl hb2 ?_
    refine TL_skip0 rfl hb2 ?_
    refine TL_skip0 rfl hb2 ?_
    refine TL_skip0 rfl hb2 ?_
    refine TL_skip0 rfl hb2 ?_
    refine TL_y (y_pick_f (e_t rfl) hb2 (e_b false)) ?_
    exact TL_fr hk (.refl _)
  refine TL_y (y_assign (e_t rfl)) ?_
  refine TL_nil ?_
  refine z_nt ?_
  refine T_ret ?_
  obtain rfl := Option.some.inj h
  exact Z_ret1 (fn := Try.f120) rfl (rv_t rfl)
def finger_filter_Member_1_l0 (a2 : (Fn1 Member Bool)) : List Member → Nat → Unit → Option (List Member × Bool)
  | [], _, _ => some ([], true)
  | x3 :: xsx3, i2, _ => (a2.f x3).bind fun t4 => (bif t4 then (finger_filter_Member_1_l0 a2 xsx3 (i2 + 1) ()).bind fun out8 => some (x3 :: out8.1, out8.2) else finger_filter_Member_1_l0 a2 xsx3 (i2 + 1) ())
def finger_filter_Member_1_sq (a1 : (List Member)) (a2 : (Fn1 Member Bool)) : Option (Sq Member) := (finger_filter_Member_1_l0 a2 a1 0 ()).bind fun r => some ⟨r.1, r.2⟩
theorem finger_filter_Member_1_ok {a1 : (List Member)} {a2 : (Fn1 Member Bool)} {q : (Sq Member)} (h : finger_filter_Member_1_sq a1 a2 = some q) : ∀ (m0 : Snap) (vs : Array Value), AllHold (P := Try.prog) m0 vs.toList [.d (⟨a1⟩ : Ptr (List Member)), .d (⟨a2⟩ : Ptr (Fn1 Member Bool))] → SeqOk Try.prog (args1 (P := Try.prog)) 132 vs m0 q.xs q.fin := by
  intro m0 vs hh
  unfold finger_filter_Member_1_sq at h
  obtain ⟨⟨ys, fin⟩, h1, h2⟩ := bind_some h
  obtain rfl := Option.some.inj h2
  change SeqOk _ _ _ _ _ ys fin
  clear h h2
  refine SeqOk.of Try.func132 rfl hh fun l J Jx hJ hJx hY hfin w m => ?_
  have h := h1
  have hp : ys = [] ++ ys := rfl
  clear h1
  refine T_seq ?_
  refine T_region ?_
  refine TL_y (y_load_ptr (e_t rfl) ty28) ?_
  refine TL_y (y_len (e_t rfl) (by rw [el28]; exact Try.underlying28)) ?_
  refine TL_y (y_move (e_i (0))) ?_
  refine TL_nil ?_
  refine z_nt ?_
  refine T_block (T_loop ?_)
  refine TW_le (le_k (ks := [0, 2, 6, 7, 8]) (bs := []) (gs := []) (.cons rfl (.cons rfl (.cons rfl (.cons rfl (.cons rfl .nil))))) .nil .nil) (it_range a1 (fun (i2 : Nat) (_ : Unit) => ⟨[(0, .x (.func (.yield l) #[] #[])), (2, .d (⟨a2⟩ : Ptr (Fn1 Member Bool))), (6, .d (a1 : (List Member))), (7, .d ((a1.length : Int) : Int)), (8, .d ((i2 : Int) : Int))], ⟨[], [], []⟩⟩) hJ (fun xs i s out => finger_filter_Member_1_l0 a2 xs i s = some (out, fin)) ?_ ?_ a1 _ _ 0 () _ rfl hp h)
  · clear h hp
    intro m0 pre i2 s1 out hi hp h
    replace h : (some ([], true)) = some (out, fin) := h
    refine TW_round (T_seq (T_region ?_))
    refine TL_y (y_lss (e_t rfl) (e_t rfl)) (TL_nil (z_nt (T_seq (T_cond rfl (fun hb => (dec_lt hi hb).elim) (fun _ => T_exit ?_)))))
    refine z_et ?_
    refine z_et ?_
    refine z_ei ?_
    exact it_end h hp (fn := Try.f132) rfl
  · clear h hp
    intro m0 pre x3 xsx3 i2 s1 out hltx3 hx3 ih hp h
    replace h : ((a2.f x3).bind fun t4 => (bif t4 then (finger_filter_Member_1_l0 a2 xsx3 (i2 + 1) ()).bind fun out8 => some (x3 :: out8.1, out8.2) else finger_filter_Member_1_l0 a2 xsx3 (i2 + 1) ())) = some (out, fin) := h
    refine TW_round ?_
    refine T_seq (T_region ?_)
    refine TL_y (y_lss (e_t rfl) (e_t rfl)) (TL_nil (z_nt (T_seq (T_cond rfl (fun _ => ?_) (fun hb => (dec_ge hltx3 hb).elim)))))
    refine T_skip ?_
    refine z_nt ?_
    refine T_seq ?_
    refine T_block ?_
    refine T_seq ?_
    refine T_region ?_
    refine TL_y (y_indexNat (e_t rfl) (e_t rfl) hx3 tysl28) ?_
    refine TL_y (y_load_ptr (e_t rfl) ty39) ?_
    refine TL_alloc z39 ?_
    refine TL_store (e_t rfl) rfl (e_t rfl) Put.self ty39 (by decide) ?_
    refine TL_nil ?_
    refine z_nt ?_
    refine T_seq ?_
    refine T_region ?_
    refine TL_y (y_load_ptr (e_t rfl) ty90) ?_
    refine TL_y (y_load (e_t rfl) rfl Sub.self ty39) ?_
    obtain ⟨t4, ht4, h⟩ := bind_some h
    refine TL_callv1 (e_t rfl) (e_t rfl) ht4 ?_
    refine TL_y (y_move (e_t rfl)) ?_
    refine TL_split t4 (fun hb5 => ?_) (fun hb5 => ?_)
    · replace h := cond_t hb5 h
      refine TL_want rfl hb5 ?_
      refine TL_y (y_move (e_t rfl)) ?_
      refine TL_want rfl hb5 ?_
      refine TL_y (y_load (e_t rfl) rfl Sub.self ty39) ?_
      refine TL_want rfl hb5 ?_
      obtain ⟨⟨out8, fin2⟩, h2, h0⟩ := bind_some h
      obtain ⟨e0, hp1, hp2⟩ := it_step h0 hp
      subst e0
      refine TL_yield1 hY hp1 hJ hJx (e_t rfl) (e_t rfl) (fun m1 => ?_) (fun m1 => ?_)
      · clear h
        have h := h2
        have hp := hp2
        refine TL_want rfl hb5 ?_
        refine TL_y (y_not (e_t rfl)) ?_
        refine TL_y (y_pick_t (e_t rfl) hb5 (e_t rfl)) ?_
        refine TL_nil ?_
        refine z_nt ?_
        refine T_cond rfl (fun hb => absurd hb (by decide)) (fun hb => ?_)
        refine T_skip ?_
        refine z_nb ?_
        refine z_nt ?_
        refine T_region ?_
        refine TL_y (y_inc (q := 6) (e_t rfl) rfl hltx3) ?_
        refine TL_y (y_move (e_t rfl)) ?_
        refine TL_nil ?_
        refine z_nl ?_
        exact TW_le (le_k (ks := [0, 2, 6, 7, 8]) (bs := []) (gs := []) (.cons rfl (.cons rfl (.cons rfl (.cons rfl (.cons rfl .nil))))) .nil .nil) (ih _ _ _ _ hp h)
      · refine TL_want rfl hb5 ?_
        refine TL_y (y_not (e_t rfl)) ?_
        refine TL_y (y_pick_t (e_t rfl) hb5 (e_t rfl)) ?_
        refine TL_nil ?_
        refine z_nt ?_
        refine T_cond rfl (fun hb => ?_) (fun hb => absurd hb (by decide))
        refine T_ret ?_
        refine z_rb ?_
        refine z_rt ?_
        refine z_rt ?_
        refine z_rb ?_
        exact Z_seqx (fn := Try.f132) rfl
    · replace h := cond_f hb5 h
      refine TL_skip0 rfl hb5 ?_
      refine TL_skip0 rfl hb5 ?_
      refine TL_skip0 rfl hb5 ?_
      refine TL_skip0 rfl hb5 ?_
      refine TL_y (y_pick_f (e_t rfl) hb5 (e_b false)) ?_
      refine TL_nil ?_
      refine z_nt ?_
      refine T_cond rfl (fun hb => absurd hb (by decide)) (fun hb => ?_)
      refine T_skip ?_
      refine z_nb ?_
      refine z_nt ?_
      refine T_region ?_
      refine TL_y (y_inc (q := 6) (e_t rfl) rfl hltx3) ?_
      refine TL_y (y_move (e_t rfl)) ?_
      refine TL_nil ?_
      refine z_nl ?_
      exact TW_le (le_k (ks := [0, 2, 6, 7, 8]) (bs := []) (gs := []) (.cons rfl (.cons rfl (.cons rfl (.cons rfl (.cons rfl .nil))))) .nil .nil) (ih _ _ _ _ hp h)
def finger_filter_Member (a0 : (List Member)) (a1 : (Fn1 Member Bool)) : Option (Sq Member) := (finger_filter_Member_1_sq a0 a1).bind fun t1 => some t1
theorem finger_filter_Member_ok {a0 : (List Member)} {a1 : (Fn1 Member Bool)} {r : (Sq Member)} (h : finger_filter_Member a0 a1 = some r) : Fn Try.prog 121 [.d a0, .d a1] (.d r) := by
  refine Fn.of Try.func121 rfl fun w m => ?_
  unfold finger_filter_Member at h
  refine T_seq ?_
  refine T_region ?_
  refine TL_box (e_t rfl) ?_
  refine TL_box (e_t rfl) ?_
  refine TL_y (y_assign (e_x .nilFunc)) ?_
  refine TL_nil ?_
  refine z_nt ?_
  refine T_seq ?_
  refine T_region ?_
  obtain ⟨t1, ht1, h⟩ := bind_some h
  refine TL_le (le_k (ks := [2, 0, 1, 3, 4]) (bs := [2, 3]) (gs := []) (ti := []) (.cons rfl (.cons rfl (.cons rfl (.cons rfl (.cons rfl .nil))))) (.cons rfl (.cons rfl .nil)) .nil) (TL_freeze ?_)
  refine TL_le (le_k (ks := [3, 0, 1, 2, 4]) (bs := [3]) (gs := []) (ti := []) (.cons rfl (.cons rfl (.cons rfl (.cons rfl (.cons rfl .nil))))) (.cons rfl .nil) .nil) (TL_freeze ?_)
  refine TL_y (y_makeSeq (caps := [.d (⟨a0⟩ : Ptr (List Member)), .d (⟨a1⟩ : Ptr (Fn1 Member Bool))]) (finger_filter_Member_1_ok ht1) ⟨(e_t rfl), (e_t rfl), trivial⟩ c132) ?_
  refine TL_y (y_assign (e_t rfl)) ?_
  refine TL_nil ?_
  refine z_nt ?_
  refine T_ret ?_
  obtain rfl := Option.some.inj h
  exact Z_ret1 (fn := Try.f121) rfl (rv_t rfl)
def finger_Closest_l0 (a1 : Id) (fin : Bool) : List Member → Member × Int → Option (Member × Int)
  | [], s2 => bif fin then some s2 else none
  | x4 :: xsx4, s2 => ((bif (!decide (s2.2 = 0)) then some true else (ident_Far a1 s2.1.id).bind fun t10 => (ident_Far a1 x4.id).bind fun t11 => (ident_Compare t10 t11).bind fun t12 => some (decide (t12 < 0)))).bind fun t9 => (bif t9 then finger_Closest_l0 a1 fin xsx4 (x4, 0) else finger_Closest_l0 a1 fin xsx4 (s2.1, s2.2))
def finger_Closest (a0 : Id) (a1 : Id) (a2 : (List Member)) : Option (Member × Int) := (finger_filter_Member a2 (⟨fun x => finger_Closest_1 x a1 a0⟩ : (Fn1 Member Bool))).bind fun t1 => ((finger_Closest_l0 a1 t1.fin t1.xs ((Member.zero : Member), 6)).bind fun s2 => some (s2.1, s2.2))
theorem finger_Closest_ok {a0 : Id} {a1 : Id} {a2 : (List Member)} {r : (Member × Int)} (h : finger_Closest a0 a1 a2 = some r) : Fn Try.prog 114 [.d a0, .d a1, .d a2] (.t2 (.d r.1) (.d r.2)) := by
  refine Fn.ofV Try.func114 rfl fun w m V hl => ?_
  unfold finger_Closest at h
  refine T_seq ?_
  refine T_region ?_
  refine TL_box (e_t rfl) ?_
  refine TL_box (e_t rfl) ?_
  refine TL_alloc z39 ?_
  refine TL_y (y_assign (e_i (0))) ?_
  refine TL_nil ?_
  refine z_nt ?_
  refine T_seq ?_
  refine T_region ?_
  refine TL_y (y_build z39 pl39 (b_nil) rfl) ?_
  refine TL_alloc z39 ?_
  refine TL_alloc z29 ?_
  refine TL_store (e_t rfl) rfl (e_t rfl) Put.self ty39 (by decide) ?_
  refine TL_store (e_t rfl) rfl (e_i (6)) Put.self ty29 (by decide) ?_
  refine TL_nil ?_
  refine z_nt ?_
  refine T_seq ?_
  refine T_region ?_
  refine TL_le (le_k (ks := [4, 0, 1, 2, 3, 6, 7, 12, 8, 9]) (bs := [4, 3, 6, 8, 9]) (gs := []) (ti := []) (.cons rfl (.cons rfl (.cons rfl (.cons rfl (.cons rfl (.cons rfl (.cons rfl (.cons rfl (.cons rfl (.cons rfl .nil)))))))))) (.cons rfl (.cons rfl (.cons rfl (.cons rfl (.cons rfl .nil))))) .nil) (TL_freeze ?_)
  refine TL_le (le_k (ks := [3, 0, 1, 2, 4, 6, 7, 12, 8, 9]) (bs := [3, 6, 8, 9]) (gs := []) (ti := []) (.cons rfl (.cons rfl (.cons rfl (.cons rfl (.cons rfl (.cons rfl (.cons rfl (.cons rfl (.cons rfl (.cons rfl .nil)))))))))) (.cons rfl (.cons rfl (.cons rfl (.cons rfl .nil)))) .nil) (TL_freeze ?_)
  refine TL_y (y_makeFunc1 (F := fun x => finger_Closest_1 x a1 a0) (caps := [.d (⟨a1⟩ : Ptr Id), .d (⟨a0⟩ : Ptr Id)]) (fun x r h => finger_Closest_1_ok h) ⟨(e_t rfl), (e_t rfl), trivial⟩ c120) ?_
  refine TL_y (y_assign (e_t rfl)) ?_
  refine TL_nil ?_
  refine z_nt ?_
  refine T_seq ?_
  refine T_seq ?_
  refine T_region ?_
  refine TL_y (y_move (e_t rfl)) ?_
  refine TL_y (y_move (e_t rfl)) ?_
  obtain ⟨t1, ht1, h⟩ := bind_some h
  refine TL_call (xs := [.d (a2 : (List Member)), .d ((⟨fun x => finger_Closest_1 x a1 a0⟩ : (Fn1 Member Bool)) : (Fn1 Member Bool))]) (finger_filter_Member_ok ht1) ⟨(e_t rfl), (e_t rfl), trivial⟩ c121 ?_
  refine TL_nil ?_
  refine z_nt ?_
  refine T_block ?_
  obtain ⟨o3, ho3, h⟩ := bind_some h
  refine T_range1 (F := t1) [6, 8, 9] [(4, .d (⟨a1⟩ : Ptr Id)), (6, .p 6 0), (8, .p 8 0), (9, .p 9 0)] (fun (s2 : Member × Int) => ⟨[(6, ⟨(Member.zero : Member)⟩), (8, ⟨(s2.1 : Member)⟩), (9, ⟨(s2.2 : Int)⟩)], [], []⟩) (fun (_ : Unit) => ⟨[], [], []⟩) (fun _ => .ret) (fun xs s => finger_Closest_l0 a1 t1.fin xs s = some o3) (fun _ => False) ((Member.zero : Member), 6) hl (ordJ_law w) (e_t rfl) (le_k (ks := [4, 6, 8, 9]) (bs := [6, 8, 9]) (gs := []) (.cons rfl (.cons rfl (.cons rfl (.cons rfl .nil)))) (.cons rfl (.cons rfl (.cons rfl .nil))) .nil) ho3 (fun hf s hg => fin_no hg hf) ?_ ?_ ?_
  · intro x4 xsx4 s2 hgx4 D l lr cs mr mk wr R hmk hrs hn hx
    clear h
    have h : (((bif (!decide (s2.2 = 0)) then some true else (ident_Far a1 s2.1.id).bind fun t10 => (ident_Far a1 x4.id).bind fun t11 => (ident_Compare t10 t11).bind fun t12 => some (decide (t12 < 0)))).bind fun t9 => (bif t9 then finger_Closest_l0 a1 t1.fin xsx4 (x4, 0) else finger_Closest_l0 a1 t1.fin xsx4 (s2.1, s2.2))) = some o3 := hgx4
    refine T_region ?_
    refine TL_alloc z39 ?_
    refine TL_store (e_t rfl) rfl (e_t rfl) Put.self ty39 (by decide) ?_
    refine TL_nil ?_
    refine Z_begin hrs hmk ?_
    refine T_block ?_
    refine T_seq ?_
    refine T_draw hmix (by kernel_rfl) ?_
    refine TQ_y (y_load (e_t rfl) rfl Sub.self ty29) ?_
    refine TQ_y (y_neq (e_t rfl) (e_i (0))) ?_
    refine TQ_y (y_move (e_t rfl)) ?_
    obtain ⟨t9, ht9, h⟩ := bind_some h
    refine TQ_cut 11 31 (r := t9) (!decide (s2.2 = 0)) ?_ (fun hb5 hk => ?_) (fun hb5 hk => ?_)
    rotate_left
    · obtain rfl := Option.some.inj (cond_t hb5 ht9)
      refine TQ_skip0 rfl hb5 ?_
      refine TQ_skip0 rfl hb5 ?_
      refine TQ_skip0 rfl hb5 ?_
      refine TQ_skip0 rfl hb5 ?_
      refine TQ_skip0 rfl hb5 ?_
      refine TQ_skip0 rfl hb5 ?_
      refine TQ_skip0 rfl hb5 ?_
      refine TQ_skip0 rfl hb5 ?_
      refine TQ_skip0 rfl hb5 ?_
      refine TQ_skip0 rfl hb5 ?_
      refine TQ_y (y_pick_t (e_t rfl) hb5 (e_b true)) ?_
      exact TQ_fr hk (.refl _)
    · replace h := cond_f hb5 ht9
      refine TQ_want rfl hb5 ?_
      refine TQ_y (y_load_ptr (e_t rfl) ty26) ?_
      refine TQ_want rfl hb5 ?_
      refine TQ_y (y_fieldAddr (e_t rfl) fo39_1) ?_
      refine TQ_want rfl hb5 ?_
      refine TQ_y (y_load (e_t rfl) rfl s_Member_id ty26) ?_
      refine TQ_want rfl hb5 ?_
      obtain ⟨t10, ht10, h⟩ := bind_some h
      refine TQ_y (y_call (xs := [.d (a1 : Id), .d (s2.1.id : Id)]) (ident_Far_ok ht10) ⟨(e_t rfl), (e_t rfl), trivial⟩ c18) ?_
      refine TQ_want rfl hb5 ?_
      refine TQ_y (y_load_ptr (e_t rfl) ty26) ?_
      refine TQ_want rfl hb5 ?_
      refine TQ_y (y_fieldAddr (e_t rfl) fo39_1) ?_
      refine TQ_want rfl hb5 ?_
      refine TQ_y (y_load (e_t rfl) rfl s_Member_id ty26) ?_
      refine TQ_want rfl hb5 ?_
      obtain ⟨t11, ht11, h⟩ := bind_some h
      refine TQ_y (y_call (xs := [.d (a1 : Id), .d (x4.id : Id)]) (ident_Far_ok ht11) ⟨(e_t rfl), (e_t rfl), trivial⟩ c18) ?_
      refine TQ_want rfl hb5 ?_
      obtain ⟨t12, ht12, h⟩ := bind_some h
      refine TQ_y (y_call (xs := [.d (t10 : Id), .d (t11 : Id)]) (ident_Compare_ok ht12) ⟨(e_t rfl), (e_t rfl), trivial⟩ c17) ?_
      refine TQ_want rfl hb5 ?_
      refine TQ_y (y_lss (e_t rfl) (e_i (0))) ?_
      obtain rfl := Option.some.inj h
      refine TQ_y (y_pick_f (e_t rfl) hb5 (e_t rfl)) ?_
      exact TQ_fr hk (.cons (.cons (.cons (.cons (.cons (.cons (.cons (.cons (.cons (.cons (.refl _) rfl) rfl) rfl) rfl) rfl) rfl) rfl) rfl) rfl) rfl)
    refine TQ_nil ?_
    refine z_nt ?_
    refine T_cond rfl (fun hb13 => ?_) (fun hb13 => ?_)
    · replace h := cond_t hb13 h
      refine T_region ?_
      refine TL_y (y_load (e_t rfl) rfl Sub.self ty39) ?_
      refine TL_store (e_t rfl) rfl (e_t rfl) Put.self ty39 (by decide) ?_
      refine TL_store (e_t rfl) rfl (e_i (0)) Put.self ty29 (by decide) ?_
      refine TL_nil ?_
      refine z_nb ?_
      exact Z_le (le_k (ks := []) (bs := [6, 8, 9]) (gs := []) .nil (.cons rfl (.cons rfl (.cons rfl .nil))) .nil) (hn _ _ h)
    · replace h := cond_f hb13 h
      refine T_skip ?_
      refine z_nb ?_
      exact Z_le (le_k (ks := []) (bs := [6, 8, 9]) (gs := []) .nil (.cons rfl (.cons rfl (.cons rfl .nil))) .nil) (hn _ _ h)
  · intro V hl s2 hg
    have e := fin_some hg
    subst e
    refine z_nb ?_
    refine z_nt ?_
    refine T_seq ?_
    refine T_le (le_k (ks := [6, 8, 9]) (bs := [6, 8, 9]) (gs := []) (ti := []) (.cons rfl (.cons rfl (.cons rfl .nil))) (.cons rfl (.cons rfl (.cons rfl .nil))) .nil) ?_
    refine T_drawn hmix (by kernel_rfl) (by kernel_rfl) [some (.d (s2.1 : Member)), some (.d (s2.2 : Int)), none, some (.d (s2.2 : Int))] [(none, some 2, 6, (⟨(Member.zero : Member)⟩ : BV _)), (none, none, 8, (⟨(s2.1 : Member)⟩ : BV _)), (none, none, 9, (⟨(s2.2 : Int)⟩ : BV _)), (some 2, none, 6, (⟨(s2.1 : Member)⟩ : BV _))] [] [] rfl ⟨rfl, rfl, rfl, trivial⟩ trivial rfl rfl rfl ⟨?_, ?_, ?_, ?_, trivial⟩ (Z_le (le_k (ks := [6, 8, 9, 33, 34, 7]) (bs := [6, 8, 9]) (gs := []) (ti := []) (.cons rfl (.cons rfl (.cons rfl (.cons rfl (.cons rfl (.cons rfl .nil)))))) (.cons rfl (.cons rfl (.cons rfl .nil))) .nil) ?_)
    · refine d_put rfl rfl offs_d rfl (fun L s' H Q k => ?_)
      refine TL_y (y_load (e_t (H.p rfl)) (H.b 1 rfl) Sub.self ty39) ?_
      exact TL_nil k
    · refine d_put rfl rfl offs_d rfl (fun L s' H Q k => ?_)
      refine TL_y (y_load (e_t (H.p rfl)) (H.b 2 rfl) Sub.self ty29) ?_
      exact TL_nil k
    · refine d_store 0 33 rfl rfl rfl rfl (fun L s' H Q k => ?_)
      refine TL_store (e_t (H.p rfl)) (H.b 0 rfl) (e_t (H.t 0 rfl)) Put.self ty39 (by decide) ?_
      exact TL_nil k
    · refine d_put rfl rfl offs_d rfl (fun L s' H Q k => ?_)
      refine TL_y (y_assign (e_t (H.t 1 rfl))) ?_
      exact TL_nil k
    refine z_nt ?_
    refine T_ret ?_
    obtain rfl := Option.some.inj h
    exact zv_ret2 hl (fn := Try.f114) rfl (rv_c rfl rfl ty39) (rv_t rfl)
  · intro V hl t e
    exact e.elim
end Go.Ph
