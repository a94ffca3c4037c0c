/- WHAT IS PROVED: part of the proof that posthouselaw11.LookupKeeps returns true at every input and leaves its arguments alone. CONDITIONS: none beyond the row. -/
import Derived.Test.YtcjpoiepdnkgoaaBaseA
import Derived.Test.YtcjpoiepdnkgoaaPA
set_option maxRecDepth 4000
set_option maxHeartbeats 4000000
namespace Go.Ph
open Go.Proofs
def slices_xorshift_Next (a0 : UInt64) : Option (UInt64 × UInt64) := some ((((a0 ^^^ (ushl a0 ((UInt64.ofNat 13)).toNat)) ^^^ (ushr (a0 ^^^ (ushl a0 ((UInt64.ofNat 13)).toNat)) ((UInt64.ofNat 7)).toNat)) ^^^ (ushl ((a0 ^^^ (ushl a0 ((UInt64.ofNat 13)).toNat)) ^^^ (ushr (a0 ^^^ (ushl a0 ((UInt64.ofNat 13)).toNat)) ((UInt64.ofNat 7)).toNat)) ((UInt64.ofNat 17)).toNat)), (((a0 ^^^ (ushl a0 ((UInt64.ofNat 13)).toNat)) ^^^ (ushr (a0 ^^^ (ushl a0 ((UInt64.ofNat 13)).toNat)) ((UInt64.ofNat 7)).toNat)) ^^^ (ushl ((a0 ^^^ (ushl a0 ((UInt64.ofNat 13)).toNat)) ^^^ (ushr (a0 ^^^ (ushl a0 ((UInt64.ofNat 13)).toNat)) ((UInt64.ofNat 7)).toNat)) ((UInt64.ofNat 17)).toNat)))
theorem slices_xorshift_Next_ok {a0 : UInt64} {r : (UInt64 × UInt64)} (h : slices_xorshift_Next a0 = some r) : FnL Try.prog 135 [.p 3000 0] ⟨[(3000, ⟨(a0 : UInt64)⟩)], [], []⟩ (.d r.1) ⟨[(3000, ⟨(r.2 : UInt64)⟩)], [], []⟩ [3000] [] := by
  refine FnL.of Try.func135 rfl fun w m S0 β γ => ?_
  unfold slices_xorshift_Next at h
  refine T_seq ?_
  refine T_region ?_
  refine TL_y (y_assign (e_u64 0)) ?_
  refine TL_nil ?_
  refine z_nt ?_
  refine T_seq ?_
  refine T_le (le_k (ks := [0, 2]) (bs := [3000]) (gs := []) (ti := []) (.cons rfl (.cons rfl .nil)) (.cons rfl .nil) .nil) ?_
  refine T_drawn hmix (by kernel_rfl) (by kernel_rfl) [some (.p 3000 0), some (.p 3000 0), some (.d (a0 : UInt64)), some (.p 3000 0), some (.p 3000 0), some (.d (a0 : UInt64)), some (.d ((ushl a0 ((UInt64.ofNat 13)).toNat) : UInt64)), some (.d ((a0 ^^^ (ushl a0 ((UInt64.ofNat 13)).toNat)) : UInt64)), some (.p 3000 0), none] [(none, some 9, 3000, (⟨(a0 : UInt64)⟩ : BV _)), (some 9, none, 3000, (⟨((a0 ^^^ (ushl a0 ((UInt64.ofNat 13)).toNat)) : UInt64)⟩ : BV _))] [] [] rfl ⟨rfl, trivial⟩ trivial rfl rfl rfl ⟨?_, ?_, ?_, ?_, ?_, ?_, ?_, ?_, ?_, ?_, trivial⟩ (Z_le (le_k (ks := [0, 2, 3, 4, 5, 6, 7, 8, 9, 10, 11]) (bs := [3000]) (gs := []) (ti := []) (.cons rfl (.cons rfl (.cons rfl (.cons rfl (.cons rfl (.cons rfl (.cons rfl (.cons rfl (.cons rfl (.cons rfl (.cons rfl .nil))))))))))) (.cons rfl .nil) .nil) ?_)
  · refine d_put rfl rfl rfl rfl (fun L s' H Q k => ?_)
    refine TL_y (y_move (e_t (H.p rfl))) ?_
    exact TL_nil k
  · refine d_put rfl rfl rfl rfl (fun L s' H Q k => ?_)
    refine TL_y (y_nilCheck (e_t (H.t 0 rfl))) ?_
    exact TL_nil k
  · refine d_put rfl rfl offs_d rfl (fun L s' H Q k => ?_)
    refine TL_y (y_load (e_t (H.t 1 rfl)) (H.b 0 rfl) Sub.self ty155) ?_
    exact TL_nil k
  · refine d_put rfl rfl rfl rfl (fun L s' H Q k => ?_)
    refine TL_y (y_move (e_t (H.p rfl))) ?_
    exact TL_nil k
  · refine d_put rfl rfl rfl rfl (fun L s' H Q k => ?_)
    refine TL_y (y_nilCheck (e_t (H.t 3 rfl))) ?_
    exact TL_nil k
  · refine d_put rfl rfl offs_d rfl (fun L s' H Q k => ?_)
    refine TL_y (y_load (e_t (H.t 4 rfl)) (H.b 0 rfl) Sub.self ty155) ?_
    exact TL_nil k
  · refine d_put rfl rfl offs_d rfl (fun L s' H Q k => ?_)
    refine TL_y (y64_shl (e_t (H.t 5 rfl)) (e_u64 13)) ?_
    exact TL_nil k
  · refine d_put rfl rfl offs_d rfl (fun L s' H Q k => ?_)
    refine TL_y (y64_xor (e_t (H.t 2 rfl)) (e_t (H.t 6 rfl))) ?_
    exact TL_nil k
  · refine d_put rfl rfl rfl rfl (fun L s' H Q k => ?_)
    refine TL_y (y_nilCheck (e_t (H.t 0 rfl))) ?_
    exact TL_nil k
  · refine d_store 0 1 rfl rfl rfl rfl (fun L s' H Q k => ?_)
    refine TL_store (e_t (H.t 8 rfl)) (H.b 0 rfl) (e_t (H.t 7 rfl)) Put.self ty155 (by decide) ?_
    exact TL_nil k
  refine z_nt ?_
  refine T_seq ?_
  refine T_le (le_k (ks := [0, 2, 3, 4, 5, 6, 7, 8, 9, 10, 11]) (bs := [3000]) (gs := []) (ti := []) (.cons rfl (.cons rfl (.cons rfl (.cons rfl (.cons rfl (.cons rfl (.cons rfl (.cons rfl (.cons rfl (.cons rfl (.cons rfl .nil))))))))))) (.cons rfl .nil) .nil) ?_
  refine T_drawn hmix (by kernel_rfl) (by kernel_rfl) [some (.p 3000 0), some (.p 3000 0), some (.d ((a0 ^^^ (ushl a0 ((UInt64.ofNat 13)).toNat)) : UInt64)), some (.p 3000 0), some (.p 3000 0), some (.d ((a0 ^^^ (ushl a0 ((UInt64.ofNat 13)).toNat)) : UInt64)), some (.d ((ushr (a0 ^^^ (ushl a0 ((UInt64.ofNat 13)).toNat)) ((UInt64.ofNat 7)).toNat) : UInt64)), some (.d (((a0 ^^^ (ushl a0 ((UInt64.ofNat 13)).toNat)) ^^^ (ushr (a0 ^^^ (ushl a0 ((UInt64.ofNat 13)).toNat)) ((UInt64.ofNat 7)).toNat)) : UInt64)), some (.p 3000 0), none] [(none, some 9, 3000, (⟨((a0 ^^^ (ushl a0 ((UInt64.ofNat 13)).toNat)) : UInt64)⟩ : BV _)), (some 9, none, 3000, (⟨(((a0 ^^^ (ushl a0 ((UInt64.ofNat 13)).toNat)) ^^^ (ushr (a0 ^^^ (ushl a0 ((UInt64.ofNat 13)).toNat)) ((UInt64.ofNat 7)).toNat)) : UInt64)⟩ : BV _))] [] [] rfl ⟨rfl, trivial⟩ trivial rfl rfl rfl ⟨?_, ?_, ?_, ?_, ?_, ?_, ?_, ?_, ?_, ?_, trivial⟩ (Z_le (le_k (ks := [0, 2, 3, 4, 5, 6, 7, 8, 9, 10, 11, 12, 13, 14, 15, 16, 17, 18, 19, 20]) (bs := [3000]) (gs := []) (ti := []) (.cons rfl (.cons rfl (.cons rfl (.cons rfl (.cons rfl (.cons rfl (.cons rfl (.cons rfl (.cons rfl (.cons rfl (.cons rfl (.cons rfl (.cons rfl (.cons rfl (.cons rfl (.cons rfl (.cons rfl (.cons rfl (.cons rfl (.cons rfl .nil)))))))))))))))))))) (.cons rfl .nil) .nil) ?_)
  · refine d_put rfl rfl rfl rfl (fun L s' H Q k => ?_)
    refine TL_y (y_move (e_t (H.p rfl))) ?_
    exact TL_nil k
  · refine d_put rfl rfl rfl rfl (fun L s' H Q k => ?_)
    refine TL_y (y_nilCheck (e_t (H.t 0 rfl))) ?_
    exact TL_nil k
  · refine d_put rfl rfl offs_d rfl (fun L s' H Q k => ?_)
    refine TL_y (y_load (e_t (H.t 1 rfl)) (H.b 0 rfl) Sub.self ty155) ?_
    exact TL_nil k
  · refine d_put rfl rfl rfl rfl (fun L s' H Q k => ?_)
    refine TL_y (y_move (e_t (H.p rfl))) ?_
    exact TL_nil k
  · refine d_put rfl rfl rfl rfl (fun L s' H Q k => ?_)
    refine TL_y (y_nilCheck (e_t (H.t 3 rfl))) ?_
    exact TL_nil k
  · refine d_put rfl rfl offs_d rfl (fun L s' H Q k => ?_)
    refine TL_y (y_load (e_t (H.t 4 rfl)) (H.b 0 rfl) Sub.self ty155) ?_
    exact TL_nil k
  · refine d_put rfl rfl offs_d rfl (fun L s' H Q k => ?_)
    refine TL_y (y64_shr (e_t (H.t 5 rfl)) (e_u64 7)) ?_
    exact TL_nil k
  · refine d_put rfl rfl offs_d rfl (fun L s' H Q k => ?_)
    refine TL_y (y64_xor (e_t (H.t 2 rfl)) (e_t (H.t 6 rfl))) ?_
    exact TL_nil k
  · refine d_put rfl rfl rfl rfl (fun L s' H Q k => ?_)
    refine TL_y (y_nilCheck (e_t (H.t 0 rfl))) ?_
    exact TL_nil k
  · refine d_store 0 1 rfl rfl rfl rfl (fun L s' H Q k => ?_)
    refine TL_store (e_t (H.t 8 rfl)) (H.b 0 rfl) (e_t (H.t 7 rfl)) Put.self ty155 (by decide) ?_
    exact TL_nil k
  refine z_nt ?_
  refine T_seq ?_
  refine T_le (le_k (ks := [0, 2, 3, 4, 5, 6, 7, 8, 9, 10, 11, 12, 13, 14, 15, 16, 17, 18, 19, 20]) (bs := [3000]) (gs := []) (ti := []) (.cons rfl (.cons rfl (.cons rfl (.cons rfl (.cons rfl (.cons rfl (.cons rfl (.cons rfl (.cons rfl (.cons rfl (.cons rfl (.cons rfl (.cons rfl (.cons rfl (.cons rfl (.cons rfl (.cons rfl (.cons rfl (.cons rfl (.cons rfl .nil)))))))))))))))))))) (.cons rfl .nil) .nil) ?_
  refine T_drawn hmix (by kernel_rfl) (by kernel_rfl) [some (.p 3000 0), some (.p 3000 0), some (.d (((a0 ^^^ (ushl a0 ((UInt64.ofNat 13)).toNat)) ^^^ (ushr (a0 ^^^ (ushl a0 ((UInt64.ofNat 13)).toNat)) ((UInt64.ofNat 7)).toNat)) : UInt64)), some (.p 3000 0), some (.p 3000 0), some (.d (((a0 ^^^ (ushl a0 ((UInt64.ofNat 13)).toNat)) ^^^ (ushr (a0 ^^^ (ushl a0 ((UInt64.ofNat 13)).toNat)) ((UInt64.ofNat 7)).toNat)) : UInt64)), some (.d ((ushl ((a0 ^^^ (ushl a0 ((UInt64.ofNat 13)).toNat)) ^^^ (ushr (a0 ^^^ (ushl a0 ((UInt64.ofNat 13)).toNat)) ((UInt64.ofNat 7)).toNat)) ((UInt64.ofNat 17)).toNat) : UInt64)), some (.d ((((a0 ^^^ (ushl a0 ((UInt64.ofNat 13)).toNat)) ^^^ (ushr (a0 ^^^ (ushl a0 ((UInt64.ofNat 13)).toNat)) ((UInt64.ofNat 7)).toNat)) ^^^ (ushl ((a0 ^^^ (ushl a0 ((UInt64.ofNat 13)).toNat)) ^^^ (ushr (a0 ^^^ (ushl a0 ((UInt64.ofNat 13)).toNat)) ((UInt64.ofNat 7)).toNat)) ((UInt64.ofNat 17)).toNat)) : UInt64)), some (.p 3000 0), none] [(none, some 9, 3000, (⟨(((a0 ^^^ (ushl a0 ((UInt64.ofNat 13)).toNat)) ^^^ (ushr (a0 ^^^ (ushl a0 ((UInt64.ofNat 13)).toNat)) ((UInt64.ofNat 7)).toNat)) : UInt64)⟩ : BV _)), (some 9, none, 3000, (⟨((((a0 ^^^ (ushl a0 ((UInt64.ofNat 13)).toNat)) ^^^ (ushr (a0 ^^^ (ushl a0 ((UInt64.ofNat 13)).toNat)) ((UInt64.ofNat 7)).toNat)) ^^^ (ushl ((a0 ^^^ (ushl a0 ((UInt64.ofNat 13)).toNat)) ^^^ (ushr (a0 ^^^ (ushl a0 ((UInt64.ofNat 13)).toNat)) ((UInt64.ofNat 7)).toNat)) ((UInt64.ofNat 17)).toNat)) : UInt64)⟩ : BV _))] [] [] rfl ⟨rfl, trivial⟩ trivial rfl rfl rfl ⟨?_, ?_, ?_, ?_, ?_, ?_, ?_, ?_, ?_, ?_, trivial⟩ (Z_le (le_k (ks := [0, 2, 3, 4, 5, 6, 7, 8, 9, 10, 11, 12, 13, 14, 15, 16, 17, 18, 19, 20, 21, 22, 23, 24, 25, 26, 27, 28, 29]) (bs := [3000]) (gs := []) (ti := []) (.cons rfl (.cons rfl (.cons rfl (.cons rfl (.cons rfl (.cons rfl (.cons rfl (.cons rfl (.cons rfl (.cons rfl (.cons rfl (.cons rfl (.cons rfl (.cons rfl (.cons rfl (.cons rfl (.cons rfl (.cons rfl (.cons rfl (.cons rfl (.cons rfl (.cons rfl (.cons rfl (.cons rfl (.cons rfl (.cons rfl (.cons rfl (.cons rfl (.cons rfl .nil))))))))))))))))))))))))))))) (.cons rfl .nil) .nil) ?_)
  · refine d_put rfl rfl rfl rfl (fun L s' H Q k => ?_)
    refine TL_y (y_move (e_t (H.p rfl))) ?_
    exact TL_nil k
  · refine d_put rfl rfl rfl rfl (fun L s' H Q k => ?_)
    refine TL_y (y_nilCheck (e_t (H.t 0 rfl))) ?_
    exact TL_nil k
  · refine d_put rfl rfl offs_d rfl (fun L s' H Q k => ?_)
    refine TL_y (y_load (e_t (H.t 1 rfl)) (H.b 0 rfl) Sub.self ty155) ?_
    exact TL_nil k
  · refine d_put rfl rfl rfl rfl (fun L s' H Q k => ?_)
    refine TL_y (y_move (e_t (H.p rfl))) ?_
    exact TL_nil k
  · refine d_put rfl rfl rfl rfl (fun L s' H Q k => ?_)
    refine TL_y (y_nilCheck (e_t (H.t 3 rfl))) ?_
    exact TL_nil k
  · refine d_put rfl rfl offs_d rfl (fun L s' H Q k => ?_)
    refine TL_y (y_load (e_t (H.t 4 rfl)) (H.b 0 rfl) Sub.self ty155) ?_
    exact TL_nil k
  · refine d_put rfl rfl offs_d rfl (fun L s' H Q k => ?_)
    refine TL_y (y64_shl (e_t (H.t 5 rfl)) (e_u64 17)) ?_
    exact TL_nil k
  · refine d_put rfl rfl offs_d rfl (fun L s' H Q k => ?_)
    refine TL_y (y64_xor (e_t (H.t 2 rfl)) (e_t (H.t 6 rfl))) ?_
    exact TL_nil k
  · refine d_put rfl rfl rfl rfl (fun L s' H Q k => ?_)
    refine TL_y (y_nilCheck (e_t (H.t 0 rfl))) ?_
    exact TL_nil k
  · refine d_store 0 1 rfl rfl rfl rfl (fun L s' H Q k => ?_)
    refine TL_store (e_t (H.t 8 rfl)) (H.b 0 rfl) (e_t (H.t 7 rfl)) Put.self ty155 (by decide) ?_
    exact TL_nil k
  refine z_nt ?_
  refine T_seq ?_
  refine T_region ?_
  refine TL_y (y_move (e_t rfl)) ?_
  refine TL_y (y_nilCheck (e_t rfl)) ?_
  refine TL_y (y_load (e_t rfl) rfl Sub.self ty155) ?_
  refine TL_y (y_assign (e_t rfl)) ?_
  refine TL_nil ?_
  refine z_nt ?_
  refine T_ret ?_
  obtain rfl := Option.some.inj h
  exact zl_ret1 (n := _) ok_base (fn := Try.f135) rfl (rl_t rfl) (le_k (ks := []) (bs := [3000]) (gs := []) .nil (.cons rfl .nil) .nil)
def sl_breakPatternsCmpFunc_Member_l0 (a1 : Int) (a2 : Int) (t2 : UInt64) : Nat → (List Member) × UInt64 × Int → Option ((List Member) × UInt64 × Int)
  | 0, _ => none
  | ks3 + 1, s3 => (bif (decide (s3.2.2 ≤ (w64 ((w64 (a1 + (w64 ((w64 (Int.tdiv (w64 (a2 - a1)) 4)) * 2)))) + 1)))) then (slices_xorshift_Next s3.2.1).bind fun t9 => (((bif (decide ((w64 (a2 - a1)) ≤ (w64 ((t9.1 &&& (t2 - (UInt64.ofNat 1))).toNat : Int)))) then some (w64 ((w64 ((t9.1 &&& (t2 - (UInt64.ofNat 1))).toNat : Int)) - (w64 (a2 - a1)))) else some (w64 ((t9.1 &&& (t2 - (UInt64.ofNat 1))).toNat : Int))) : Option (Int)).bind fun s10 => (ix s3.1 (w64 (a1 + s10))).bind fun t14 => (ix s3.1 s3.2.2).bind fun t15 => (ix s3.1 s3.2.2).bind fun t16 => (ix (s3.1.set s3.2.2.toNat t14) (w64 (a1 + s10))).bind fun t17 => sl_breakPatternsCmpFunc_Member_l0 a1 a2 t2 ks3 (((s3.1.set s3.2.2.toNat t14).set (w64 (a1 + s10)).toNat t15), t9.2, (w64 (s3.2.2 + 1)))) else some (s3.1, s3.2.1, s3.2.2))
def sl_breakPatternsCmpFunc_Member (a0 : (List Member)) (a1 : Int) (a2 : Int) (a3 : (Fn2 Member Member Int)) : Option (List Member) := (bif (decide (8 ≤ (w64 (a2 - a1)))) then (slices_nextPowerOfTwo (w64 (a2 - a1))).bind fun t2 => ((sl_breakPatternsCmpFunc_Member_l0 a1 a2 t2 FUEL (a0, (toU64 (w64 (a2 - a1))), (w64 ((w64 (a1 + (w64 ((w64 (Int.tdiv (w64 (a2 - a1)) 4)) * 2)))) - 1)))).bind fun s3 => some s3.1) else some a0)
theorem sl_breakPatternsCmpFunc_Member_ok {a0 : (List Member)} {a1 : Int} {a2 : Int} {a3 : (Fn2 Member Member Int)} {r : (List Member)} (h : sl_breakPatternsCmpFunc_Member a0 a1 a2 a3 = some r) : FnL Try.prog 124 [.g 5000, .d a1, .d a2, .d a3] ⟨[], [(5000, ⟨39, (a0 : List Member)⟩)], []⟩ (.x (.tuple #[])) ⟨[], [(5000, ⟨39, (r : List Member)⟩)], []⟩ [] [5000] := by
  refine FnL.of Try.func124 rfl fun w m S0 β γ => ?_
  unfold sl_breakPatternsCmpFunc_Member at h
  refine T_seq ?_
  refine T_region ?_
  refine TL_y (y_move (e_t rfl)) ?_
  refine TL_y (y_move (e_t rfl)) ?_
  refine TL_y (y_sub (e_t rfl) (e_t rfl)) ?_
  refine TL_y (y_assign (e_t rfl)) ?_
  refine TL_nil ?_
  refine z_nt ?_
  refine T_seq ?_
  refine T_region ?_
  refine TL_y (y_move (e_t rfl)) ?_
  refine TL_y (y_geq (e_t rfl) (e_i (8))) ?_
  refine TL_nil ?_
  refine z_nt ?_
  refine T_cond rfl (fun hb1 => ?_) (fun hb1 => ?_)
  · replace h := cond_t hb1 h
    refine T_seq ?_
    refine T_region ?_
    refine TL_y (y_move (e_t rfl)) ?_
    refine TL_y (y_conv_to_u64 (e_t rfl) (by simp [Try.underlying3]) Try.underlying155) ?_
    refine TL_alloc z155 ?_
    refine TL_store (e_t rfl) rfl (e_t rfl) Put.self ty155 (by decide) ?_
    refine TL_nil ?_
    refine z_nt ?_
    refine T_seq ?_
    refine T_region ?_
    refine TL_y (y_move (e_t rfl)) ?_
    obtain ⟨t2, ht2, h⟩ := bind_some h
    refine TL_call (xs := [.d ((w64 (a2 - a1)) : Int)]) (slices_nextPowerOfTwo_ok ht2) ⟨(e_t rfl), trivial⟩ c134 ?_
    refine TL_y (y_assign (e_t rfl)) ?_
    refine TL_nil ?_
    refine z_nt ?_
    refine T_seq ?_
    refine T_region ?_
    refine TL_y (y_move (e_t rfl)) ?_
    refine TL_y (y_move (e_t rfl)) ?_
    refine TL_y (y_quo (e_t rfl) (e_i (4)) (by decide)) ?_
    refine TL_y (y_mul (e_t rfl) (e_i (2))) ?_
    refine TL_y (y_add (e_t rfl) (e_t rfl)) ?_
    refine TL_y (y_sub (e_t rfl) (e_i (1))) ?_
    refine TL_y (y_assign (e_t rfl)) ?_
    refine TL_nil ?_
    refine z_nt ?_
    obtain ⟨o5, ho5, h⟩ := bind_some h
    refine T_loopin (S := fun (s3 : (List Member) × UInt64 × Int) => ⟨[(0, .g 5000), (9, .p 9 0), (11, .d (s3.2.2 : Int))], ⟨[(9, ⟨(s3.2.1 : UInt64)⟩)], [(5000, ⟨39, (s3.1 : List Member)⟩)], []⟩⟩) (fun z => z = o5) (fun s3 e => ?_) (fun hfall6 => ?_)
    · subst e
      obtain rfl := Option.some.inj h
      exact zl_ret0 (n := _) ok_base (fn := Try.f124) rfl (le_k (ks := []) (bs := []) (gs := [5000]) .nil .nil (.cons rfl .nil))
    · clear h
      refine TW_le (le_k (ks := [0, 1, 8, 9, 10, 11]) (bs := [9]) (gs := [5000]) (.cons rfl (.cons rfl (.cons rfl (.cons rfl (.cons rfl (.cons rfl .nil)))))) (.cons rfl .nil) (.cons rfl .nil)) (fuel_ind (fun (s3 : (List Member) × UInt64 × Int) => ⟨[(0, .g 5000), (1, .d (a1 : Int)), (8, .d ((w64 (a2 - a1)) : Int)), (9, .p 9 0), (10, .d (t2 : UInt64)), (11, .d (s3.2.2 : Int))], ⟨[(9, ⟨(s3.2.1 : UInt64)⟩)], [(5000, ⟨39, (s3.1 : List Member)⟩)], []⟩⟩) (fun k s => sl_breakPatternsCmpFunc_Member_l0 a1 a2 t2 k s = some o5) ?_ ?_ _ (a0, (toU64 (w64 (a2 - a1))), (w64 ((w64 (a1 + (w64 ((w64 (Int.tdiv (w64 (a2 - a1)) 4)) * 2)))) - 1))) ho5)
      · intro s h
        cases h
      · intro ks3 s3 ih h
        replace h : ((bif (decide (s3.2.2 ≤ (w64 ((w64 (a1 + (w64 ((w64 (Int.tdiv (w64 (a2 - a1)) 4)) * 2)))) + 1)))) then (slices_xorshift_Next s3.2.1).bind fun t9 => (((bif (decide ((w64 (a2 - a1)) ≤ (w64 ((t9.1 &&& (t2 - (UInt64.ofNat 1))).toNat : Int)))) then some (w64 ((w64 ((t9.1 &&& (t2 - (UInt64.ofNat 1))).toNat : Int)) - (w64 (a2 - a1)))) else some (w64 ((t9.1 &&& (t2 - (UInt64.ofNat 1))).toNat : Int))) : Option (Int)).bind fun s10 => (ix s3.1 (w64 (a1 + s10))).bind fun t14 => (ix s3.1 s3.2.2).bind fun t15 => (ix s3.1 s3.2.2).bind fun t16 => (ix (s3.1.set s3.2.2.toNat t14) (w64 (a1 + s10))).bind fun t17 => sl_breakPatternsCmpFunc_Member_l0 a1 a2 t2 ks3 (((s3.1.set s3.2.2.toNat t14).set (w64 (a1 + s10)).toNat t15), t9.2, (w64 (s3.2.2 + 1)))) else some (s3.1, s3.2.1, s3.2.2))) = some o5 := h
        refine TW_round ?_
        refine T_seq ?_
        refine T_seq ?_
        refine T_region ?_
        refine TL_y (y_move (e_t rfl)) ?_
        refine TL_y (y_move (e_t rfl)) ?_
        refine TL_y (y_move (e_t rfl)) ?_
        refine TL_y (y_quo (e_t rfl) (e_i (4)) (by decide)) ?_
        refine TL_y (y_mul (e_t rfl) (e_i (2))) ?_
        refine TL_y (y_add (e_t rfl) (e_t rfl)) ?_
        refine TL_y (y_add (e_t rfl) (e_i (1))) ?_
        refine TL_y (y_leq (e_t rfl) (e_t rfl)) ?_
        refine TL_nil ?_
        refine z_nt ?_
        refine T_cond rfl (fun hb8 => ?_) (fun hb8 => ?_)
        · replace h := cond_t hb8 h
          refine T_skip ?_
          refine z_nt ?_
          refine T_seq ?_
          refine T_block ?_
          refine T_seq ?_
          refine T_region ?_
          obtain ⟨t9, ht9, h⟩ := bind_some h
          have hct9 : FnL Try.prog 135 [.p 9 0] ⟨[(9, ⟨(s3.2.1 : UInt64)⟩)], [], []⟩ (.d t9.1) ⟨[(9, ⟨(t9.2 : UInt64)⟩)], [], []⟩ [9] [] := (slices_xorshift_Next_ok ht9).sw 3000 9 5000 5000
          refine TL_callL hct9 ⟨(e_t rfl), trivial⟩ c135 ⟨[], [(5000, ⟨39, (s3.1 : List Member)⟩)], []⟩ [(0, .g 5000), (1, .d (a1 : Int)), (8, .d ((w64 (a2 - a1)) : Int)), (9, .p 9 0), (10, .d (t2 : UInt64)), (11, .d (s3.2.2 : Int)), (28, .d (s3.2.2 : Int)), (29, .d (a1 : Int)), (30, .d ((w64 (a2 - a1)) : Int)), (31, .d ((w64 (Int.tdiv (w64 (a2 - a1)) 4)) : Int)), (32, .d ((w64 ((w64 (Int.tdiv (w64 (a2 - a1)) 4)) * 2)) : Int)), (33, .d ((w64 (a1 + (w64 ((w64 (Int.tdiv (w64 (a2 - a1)) 4)) * 2)))) : Int)), (34, .d ((w64 ((w64 (a1 + (w64 ((w64 (Int.tdiv (w64 (a2 - a1)) 4)) * 2)))) + 1)) : Int)), (35, .d ((decide (s3.2.2 ≤ (w64 ((w64 (a1 + (w64 ((w64 (Int.tdiv (w64 (a2 - a1)) 4)) * 2)))) + 1)))) : Bool))] (le_k (ks := []) (bs := [9]) (gs := []) .nil (.cons rfl .nil) .nil) (le_k (ks := [0, 1, 8, 9, 10, 11, 28, 29, 30, 31, 32, 33, 34, 35]) (bs := []) (gs := [5000]) (.cons rfl (.cons rfl (.cons rfl (.cons rfl (.cons rfl (.cons rfl (.cons rfl (.cons rfl (.cons rfl (.cons rfl (.cons rfl (.cons rfl (.cons rfl (.cons rfl .nil)))))))))))))) .nil (.cons rfl .nil)) (TL_le (s' := ⟨[(0, .g 5000), (1, .d (a1 : Int)), (8, .d ((w64 (a2 - a1)) : Int)), (9, .p 9 0), (10, .d (t2 : UInt64)), (11, .d (s3.2.2 : Int)), (28, .d (s3.2.2 : Int)), (29, .d (a1 : Int)), (30, .d ((w64 (a2 - a1)) : Int)), (31, .d ((w64 (Int.tdiv (w64 (a2 - a1)) 4)) : Int)), (32, .d ((w64 ((w64 (Int.tdiv (w64 (a2 - a1)) 4)) * 2)) : Int)), (33, .d ((w64 (a1 + (w64 ((w64 (Int.tdiv (w64 (a2 - a1)) 4)) * 2)))) : Int)), (34, .d ((w64 ((w64 (a1 + (w64 ((w64 (Int.tdiv (w64 (a2 - a1)) 4)) * 2)))) + 1)) : Int)), (35, .d ((decide (s3.2.2 ≤ (w64 ((w64 (a1 + (w64 ((w64 (Int.tdiv (w64 (a2 - a1)) 4)) * 2)))) + 1)))) : Bool)), (38, .d (t9.1 : UInt64))], ⟨[(9, ⟨(t9.2 : UInt64)⟩)], [(5000, ⟨39, (s3.1 : List Member)⟩)], []⟩⟩) (le_k (ks := [0, 1, 8, 9, 10, 11, 28, 29, 30, 31, 32, 33, 34, 35, 38]) (bs := [9]) (gs := [5000]) (.cons rfl (.cons rfl (.cons rfl (.cons rfl (.cons rfl (.cons rfl (.cons rfl (.cons rfl (.cons rfl (.cons rfl (.cons rfl (.cons rfl (.cons rfl (.cons rfl (.cons rfl .nil))))))))))))))) (.cons rfl .nil) (.cons rfl .nil)) ?_) ⟨.inl rfl, trivial⟩ trivial
          refine TL_y (y_move (e_t rfl)) ?_
          refine TL_y (y64_sub (e_t rfl) (e_u64 1)) ?_
          refine TL_y (y64_and (e_t rfl) (e_t rfl)) ?_
          refine TL_y (y_conv_u64_int (e_t rfl) (by simp [Try.underlying135]) Try.underlying3) ?_
          refine TL_y (y_assign (e_t rfl)) ?_
          refine TL_nil ?_
          refine z_nt ?_
          obtain ⟨s10, hs10, h⟩ := bind_some h
          refine T_join (S := fun (s10 : Int) => ⟨[(0, .g 5000), (1, .d (a1 : Int)), (8, .d ((w64 (a2 - a1)) : Int)), (9, .p 9 0), (10, .d (t2 : UInt64)), (11, .d (s3.2.2 : Int)), (12, .d (s10 : Int))], ⟨[(9, ⟨(t9.2 : UInt64)⟩)], [(5000, ⟨39, (s3.1 : List Member)⟩)], []⟩⟩) (fun z => s10 = z) (fun z e => ?_) (fun hfall11 => ?_)
          · subst e
            refine T_le (le_k (ks := [0, 1, 8, 9, 10, 11, 12]) (bs := [9]) (gs := [5000]) (ti := []) (.cons rfl (.cons rfl (.cons rfl (.cons rfl (.cons rfl (.cons rfl (.cons rfl .nil))))))) (.cons rfl .nil) (.cons rfl .nil)) ?_
            obtain ⟨t14, ht14, h⟩ := bind_some h
            obtain ⟨t15, ht15, h⟩ := bind_some h
            obtain ⟨t16, ht16, h⟩ := bind_some h
            obtain ⟨t17, ht17, h⟩ := bind_some h
            refine T_drawn hmix (by kernel_rfl) (by kernel_rfl) [some (.g 5000), some (.d (s3.2.2 : Int)), some (.g 5000), some (.d (a1 : Int)), some (.d (s10 : Int)), some (.d ((w64 (a1 + s10)) : Int)), some (.g 5000), some (.d (a1 : Int)), some (.d (s10 : Int)), some (.d ((w64 (a1 + s10)) : Int)), some (.ge 5000 ((w64 (a1 + s10)).toNat * 33 + 0)), some (.d (t14 : Member)), some (.g 5000), some (.d (s3.2.2 : Int)), some (.ge 5000 (s3.2.2.toNat * 33 + 0)), some (.d (t15 : Member)), some (.ge 5000 (s3.2.2.toNat * 33 + 0)), none, some (.ge 5000 ((w64 (a1 + s10)).toNat * 33 + 0)), none] [(none, none, 9, (⟨(t9.2 : UInt64)⟩ : BV _))] [(none, some 17, 5000, (⟨39, (s3.1 : List Member)⟩ : GV _)), (some 17, some 19, 5000, (⟨39, ((s3.1.set s3.2.2.toNat t14) : List Member)⟩ : GV _)), (some 19, none, 5000, (⟨39, (((s3.1.set s3.2.2.toNat t14).set (w64 (a1 + s10)).toNat t15) : List Member)⟩ : GV _))] [] rfl ⟨rfl, trivial⟩ ⟨rfl, trivial⟩ rfl rfl rfl ⟨?_, ?_, ?_, ?_, ?_, ?_, ?_, ?_, ?_, ?_, ?_, ?_, ?_, ?_, ?_, ?_, ?_, ?_, ?_, ?_, trivial⟩ (Z_le (le_k (ks := [0, 1, 8, 9, 10, 11, 12, 49, 50, 51, 52, 53, 54, 55, 56, 57, 58, 59, 60, 61, 62, 63, 64, 65, 66]) (bs := [9]) (gs := [5000]) (ti := []) (.cons rfl (.cons rfl (.cons rfl (.cons rfl (.cons rfl (.cons rfl (.cons rfl (.cons rfl (.cons rfl (.cons rfl (.cons rfl (.cons rfl (.cons rfl (.cons rfl (.cons rfl (.cons rfl (.cons rfl (.cons rfl (.cons rfl (.cons rfl (.cons rfl (.cons rfl (.cons rfl (.cons rfl (.cons rfl .nil))))))))))))))))))))))))) (.cons rfl .nil) (.cons rfl .nil)) ?_)
            · refine d_put rfl rfl rfl rfl (fun L s' H Q k => ?_)
              refine TL_y (y_move (e_t (H.p rfl))) ?_
              exact TL_nil k
            · refine d_put rfl rfl offs_d rfl (fun L s' H Q k => ?_)
              refine TL_y (y_move (e_t (H.p rfl))) ?_
              exact TL_nil k
            · refine d_put rfl rfl rfl rfl (fun L s' H Q k => ?_)
              refine TL_y (y_move (e_t (H.p rfl))) ?_
              exact TL_nil k
            · refine d_put rfl rfl offs_d rfl (fun L s' H Q k => ?_)
              refine TL_y (y_move (e_t (H.p rfl))) ?_
              exact TL_nil k
            · refine d_put rfl rfl offs_d rfl (fun L s' H Q k => ?_)
              refine TL_y (y_move (e_t (H.p rfl))) ?_
              exact TL_nil k
            · refine d_put rfl rfl offs_d rfl (fun L s' H Q k => ?_)
              refine TL_y (y_add (e_t (H.t 3 rfl)) (e_t (H.t 4 rfl))) ?_
              exact TL_nil k
            · refine d_put rfl rfl rfl rfl (fun L s' H Q k => ?_)
              refine TL_y (y_move (e_t (H.p rfl))) ?_
              exact TL_nil k
            · refine d_put rfl rfl offs_d rfl (fun L s' H Q k => ?_)
              refine TL_y (y_move (e_t (H.p rfl))) ?_
              exact TL_nil k
            · refine d_put rfl rfl offs_d rfl (fun L s' H Q k => ?_)
              refine TL_y (y_move (e_t (H.p rfl))) ?_
              exact TL_nil k
            · refine d_put rfl rfl offs_d rfl (fun L s' H Q k => ?_)
              refine TL_y (y_add (e_t (H.t 7 rfl)) (e_t (H.t 8 rfl))) ?_
              exact TL_nil k
            · refine d_put rfl rfl rfl rfl (fun L s' H Q k => ?_)
              refine TL_y (y_index_ge (e_t (H.t 6 rfl)) (e_t (H.t 9 rfl)) (H.g 0 rfl) (ix_some ht14).1 (ix_lt ht14) tysl28) ?_
              exact TL_nil k
            · refine d_put rfl rfl offs_d rfl (fun L s' H Q k => ?_)
              refine TL_load_ge (i := (w64 (a1 + s10)).toNat) (off := 0) (e_t (H.t 10 rfl)) (H.g 0 rfl) (ix_some ht14).2 Sub.self ty39 ?_
              exact TL_nil k
            · refine d_put rfl rfl rfl rfl (fun L s' H Q k => ?_)
              refine TL_y (y_move (e_t (H.p rfl))) ?_
              exact TL_nil k
            · refine d_put rfl rfl offs_d rfl (fun L s' H Q k => ?_)
              refine TL_y (y_move (e_t (H.p rfl))) ?_
              exact TL_nil k
            · refine d_put rfl rfl rfl rfl (fun L s' H Q k => ?_)
              refine TL_y (y_index_ge (e_t (H.t 12 rfl)) (e_t (H.t 13 rfl)) (H.g 0 rfl) (ix_some ht15).1 (ix_lt ht15) tysl28) ?_
              exact TL_nil k
            · refine d_put rfl rfl offs_d rfl (fun L s' H Q k => ?_)
              refine TL_load_ge (i := s3.2.2.toNat) (off := 0) (e_t (H.t 14 rfl)) (H.g 0 rfl) (ix_some ht15).2 Sub.self ty39 ?_
              exact TL_nil k
            · refine d_put rfl rfl rfl rfl (fun L s' H Q k => ?_)
              refine TL_y (y_index_ge (e_t (H.t 0 rfl)) (e_t (H.t 1 rfl)) (H.g 0 rfl) (ix_some ht16).1 (ix_lt ht16) tysl28) ?_
              exact TL_nil k
            · refine d_rstore rfl rfl rfl rfl rfl (fun L s' H Q k => ?_)
              refine TL_store_ge (i := s3.2.2.toNat) (e_t (H.t 16 rfl)) (H.g 0 rfl) (ix_lt ht16) (e_t (H.t 11 rfl)) ty39 ?_
              exact TL_nil k
            · refine d_put rfl rfl rfl rfl (fun L s' H Q k => ?_)
              refine TL_y (y_index_ge (e_t (H.t 2 rfl)) (e_t (H.t 5 rfl)) (H.g 1 rfl) (ix_some ht17).1 (ix_lt ht17) tysl28) ?_
              exact TL_nil k
            · refine d_rstore rfl rfl rfl rfl rfl (fun L s' H Q k => ?_)
              refine TL_store_ge (i := (w64 (a1 + s10)).toNat) (e_t (H.t 18 rfl)) (H.g 1 rfl) (ix_lt ht17) (e_t (H.t 15 rfl)) ty39 ?_
              exact TL_nil k
            refine z_nb ?_
            refine z_nt ?_
            refine T_region ?_
            refine TL_y (y_move (e_t rfl)) ?_
            refine TL_y (y_add (e_t rfl) (e_i (1))) ?_
            refine TL_y (y_assign (e_t rfl)) ?_
            refine TL_nil ?_
            refine z_nl ?_
            exact TW_le (le_k (ks := [0, 1, 8, 9, 10, 11]) (bs := [9]) (gs := [5000]) (.cons rfl (.cons rfl (.cons rfl (.cons rfl (.cons rfl (.cons rfl .nil)))))) (.cons rfl .nil) (.cons rfl .nil)) (ih _ h)
          · clear h
            have h := hs10
            refine T_seq ?_
            refine T_region ?_
            refine TL_y (y_move (e_t rfl)) ?_
            refine TL_y (y_move (e_t rfl)) ?_
            refine TL_y (y_geq (e_t rfl) (e_t rfl)) ?_
            refine TL_nil ?_
            refine z_nt ?_
            refine T_cond rfl (fun hb13 => ?_) (fun hb13 => ?_)
            · replace h := cond_t hb13 h
              refine T_region ?_
              refine TL_y (y_move (e_t rfl)) ?_
              refine TL_y (y_move (e_t rfl)) ?_
              refine TL_y (y_sub (e_t rfl) (e_t rfl)) ?_
              refine TL_y (y_assign (e_t rfl)) ?_
              refine TL_nil ?_
              exact Z_le (le_k (ks := [0, 1, 8, 9, 10, 11, 12]) (bs := [9]) (gs := [5000]) (.cons rfl (.cons rfl (.cons rfl (.cons rfl (.cons rfl (.cons rfl (.cons rfl .nil))))))) (.cons rfl .nil) (.cons rfl .nil)) (hfall11 _ (Option.some.inj h).symm)
            · replace h := cond_f hb13 h
              refine T_skip ?_
              exact Z_le (le_k (ks := [0, 1, 8, 9, 10, 11, 12]) (bs := [9]) (gs := [5000]) (.cons rfl (.cons rfl (.cons rfl (.cons rfl (.cons rfl (.cons rfl (.cons rfl .nil))))))) (.cons rfl .nil) (.cons rfl .nil)) (hfall11 _ (Option.some.inj h).symm)
        · replace h := cond_f hb8 h
          refine T_exit ?_
          refine z_et ?_
          refine z_et ?_
          refine z_ei ?_
          exact Z_le (le_k (ks := [0, 9, 11]) (bs := [9]) (gs := [5000]) (.cons rfl (.cons rfl (.cons rfl .nil))) (.cons rfl .nil) (.cons rfl .nil)) (hfall6 _ (Option.some.inj h))
  · replace h := cond_f hb1 h
    refine T_skip ?_
    obtain rfl := Option.some.inj h
    exact zl_ret0 (n := _) ok_base (fn := Try.f124) rfl (le_k (ks := []) (bs := []) (gs := [5000]) .nil .nil (.cons rfl .nil))
def sl_order2CmpFunc_Member (a0 : (List Member)) (a1 : Int) (a2 : Int) (a3 : Int) (a4 : (Fn2 Member Member Int)) : Option (Int × Int × Int) := (ix a0 a2).bind fun t1 => (ix a0 a1).bind fun t2 => (a4.f t1 t2).bind fun t3 => (bif (decide (t3 < 0)) then some (a2, a1, (w64 (a3 + 1))) else some (a1, a2, a3))
theorem sl_order2CmpFunc_Member_ok {a0 : (List Member)} {a1 : Int} {a2 : Int} {a3 : Int} {a4 : (Fn2 Member Member Int)} {r : (Int × Int × Int)} (h : sl_order2CmpFunc_Member a0 a1 a2 a3 a4 = some r) : FnL Try.prog 138 [.g 5000, .d a1, .d a2, .p 3000 0, .d a4] ⟨[(3000, ⟨(a3 : Int)⟩)], [(5000, ⟨39, (a0 : List Member)⟩)], []⟩ (.t2 (.d r.1) (.d r.2.1)) ⟨[(3000, ⟨(r.2.2 : Int)⟩)], [(5000, ⟨39, (a0 : List Member)⟩)], []⟩ [3000] [5000] := by
  refine FnL.of Try.func138 rfl fun w m S0 β γ => ?_
  unfold sl_order2CmpFunc_Member at h
  refine T_seq ?_
  refine T_region ?_
  refine TL_y (y_assign (e_i (0))) ?_
  refine TL_y (y_assign (e_i (0))) ?_
  refine TL_nil ?_
  refine z_nt ?_
  refine T_seq ?_
  refine T_seq ?_
  refine T_draw hmix (by kernel_rfl) ?_
  refine TQ_y (y_move (e_t rfl)) ?_
  refine TQ_y (y_move (e_t rfl)) ?_
  refine TQ_y (y_move (e_t rfl)) ?_
  obtain ⟨t1, ht1, h⟩ := bind_some h
  refine TQ_y (y_index_ge (e_t rfl) (e_t rfl) rfl (ix_some ht1).1 (ix_lt ht1) tysl28) ?_
  refine TQ_y (y_load_ge (i := a2.toNat) (off := 0) (e_t rfl) rfl (ix_some ht1).2 Sub.self ty39) ?_
  refine TQ_y (y_move (e_t rfl)) ?_
  refine TQ_y (y_move (e_t rfl)) ?_
  obtain ⟨t2, ht2, h⟩ := bind_some h
  refine TQ_y (y_index_ge (e_t rfl) (e_t rfl) rfl (ix_some ht2).1 (ix_lt ht2) tysl28) ?_
  refine TQ_y (y_load_ge (i := a1.toNat) (off := 0) (e_t rfl) rfl (ix_some ht2).2 Sub.self ty39) ?_
  obtain ⟨t3, ht3, h⟩ := bind_some h
  refine TQ_y (y_callv2 (e_t rfl) (e_t rfl) (e_t rfl) ht3) ?_
  refine TQ_y (y_lss (e_t rfl) (e_i (0))) ?_
  refine TQ_nil ?_
  refine z_nt ?_
  refine T_cond rfl (fun hb4 => ?_) (fun hb4 => ?_)
  · replace h := cond_t hb4 h
    refine T_seq ?_
    refine T_region ?_
    refine TL_y (y_move (e_t rfl)) ?_
    refine TL_y (y_nilCheck (e_t rfl)) ?_
    refine TL_y (y_load (e_t rfl) rfl Sub.self ty3) ?_
    refine TL_y (y_add (e_t rfl) (e_i (1))) ?_
    refine TL_y (y_nilCheck (e_t rfl)) ?_
    refine TL_store (e_t rfl) rfl (e_t rfl) Put.self ty3 (by decide) ?_
    refine TL_nil ?_
    refine z_nt ?_
    refine T_seq ?_
    refine T_region ?_
    refine TL_y (y_move (e_t rfl)) ?_
    refine TL_y (y_move (e_t rfl)) ?_
    refine TL_y (y_assign (e_t rfl)) ?_
    refine TL_y (y_assign (e_t rfl)) ?_
    refine TL_nil ?_
    refine z_nt ?_
    refine T_ret ?_
    refine z_rt ?_
    obtain rfl := Option.some.inj h
    exact zl_ret2 (n := _) ok_base (fn := Try.f138) rfl (rl_t rfl) (rl_t rfl) (le_k (ks := []) (bs := [3000]) (gs := [5000]) .nil (.cons rfl .nil) (.cons rfl .nil))
  · replace h := cond_f hb4 h
    refine T_skip ?_
    refine z_nt ?_
    refine T_seq ?_
    refine T_region ?_
    refine TL_y (y_move (e_t rfl)) ?_
    refine TL_y (y_move (e_t rfl)) ?_
    refine TL_y (y_assign (e_t rfl)) ?_
    refine TL_y (y_assign (e_t rfl)) ?_
    refine TL_nil ?_
    refine z_nt ?_
    refine T_ret ?_
    obtain rfl := Option.some.inj h
    exact zl_ret2 (n := _) ok_base (fn := Try.f138) rfl (rl_t rfl) (rl_t rfl) (le_k (ks := []) (bs := [3000]) (gs := [5000]) .nil (.cons rfl .nil) (.cons rfl .nil))
def sl_medianCmpFunc_Member (a0 : (List Member)) (a1 : Int) (a2 : Int) (a3 : Int) (a4 : Int) (a5 : (Fn2 Member Member Int)) : Option (Int × Int) := (sl_order2CmpFunc_Member a0 a1 a2 a4 a5).bind fun t1 => (sl_order2CmpFunc_Member a0 t1.2.1 a3 t1.2.2 a5).bind fun t2 => (sl_order2CmpFunc_Member a0 t1.1 t2.1 t2.2.2 a5).bind fun t3 => some (t3.2.1, t3.2.2)
theorem sl_medianCmpFunc_Member_ok {a0 : (List Member)} {a1 : Int} {a2 : Int} {a3 : Int} {a4 : Int} {a5 : (Fn2 Member Member Int)} {r : (Int × Int)} (h : sl_medianCmpFunc_Member a0 a1 a2 a3 a4 a5 = some r) : FnL Try.prog 137 [.g 5000, .d a1, .d a2, .d a3, .p 3000 0, .d a5] ⟨[(3000, ⟨(a4 : Int)⟩)], [(5000, ⟨39, (a0 : List Member)⟩)], []⟩ (.d r.1) ⟨[(3000, ⟨(r.2 : Int)⟩)], [(5000, ⟨39, (a0 : List Member)⟩)], []⟩ [3000] [5000] := by
  refine FnL.of Try.func137 rfl fun w m S0 β γ => ?_
  unfold sl_medianCmpFunc_Member at h
  refine T_seq ?_
  refine T_region ?_
  refine TL_y (y_assign (e_i (0))) ?_
  refine TL_nil ?_
  refine z_nt ?_
  refine T_seq ?_
  refine T_region ?_
  refine TL_y (y_move (e_t rfl)) ?_
  refine TL_y (y_move (e_t rfl)) ?_
  refine TL_y (y_move (e_t rfl)) ?_
  refine TL_y (y_move (e_t rfl)) ?_
  refine TL_y (y_move (e_t rfl)) ?_
  obtain ⟨t1, ht1, h⟩ := bind_some h
  have hct1 : FnL Try.prog 138 [.g 5000, .d (a1 : Int), .d (a2 : Int), .p 3000 0, .d (a5 : (Fn2 Member Member Int))] ⟨[(3000, ⟨(a4 : Int)⟩)], [(5000, ⟨39, (a0 : List Member)⟩)], []⟩ (.t2 (.d t1.1) (.d t1.2.1)) ⟨[(3000, ⟨(t1.2.2 : Int)⟩)], [(5000, ⟨39, (a0 : List Member)⟩)], []⟩ [3000] [5000] := (sl_order2CmpFunc_Member_ok ht1)
  refine TL_callL hct1 ⟨(e_t rfl), (e_t rfl), (e_t rfl), (e_t rfl), (e_t rfl), trivial⟩ c138 ⟨[], [], []⟩ [(0, .g 5000), (1, .d (a1 : Int)), (2, .d (a2 : Int)), (3, .d (a3 : Int)), (4, .p 3000 0), (5, .d (a5 : (Fn2 Member Member Int))), (12, .d (0 : Int)), (14, .g 5000), (15, .d (a1 : Int)), (16, .d (a2 : Int)), (17, .p 3000 0), (18, .d (a5 : (Fn2 Member Member Int)))] (le_k (ks := []) (bs := [3000]) (gs := [5000]) .nil (.cons rfl .nil) (.cons rfl .nil)) (le_k (ks := [0, 1, 2, 3, 4, 5, 12, 14, 15, 16, 17, 18]) (bs := []) (gs := []) (.cons rfl (.cons rfl (.cons rfl (.cons rfl (.cons rfl (.cons rfl (.cons rfl (.cons rfl (.cons rfl (.cons rfl (.cons rfl (.cons rfl .nil)))))))))))) .nil .nil) (TL_le (s' := ⟨[(0, .g 5000), (1, .d (a1 : Int)), (2, .d (a2 : Int)), (3, .d (a3 : Int)), (4, .p 3000 0), (5, .d (a5 : (Fn2 Member Member Int))), (12, .d (0 : Int)), (14, .g 5000), (15, .d (a1 : Int)), (16, .d (a2 : Int)), (17, .p 3000 0), (18, .d (a5 : (Fn2 Member Member Int))), (19, .t2 (.d (t1.1 : Int)) (.d (t1.2.1 : Int)))], ⟨[(3000, ⟨(t1.2.2 : Int)⟩)], [(5000, ⟨39, (a0 : List Member)⟩)], []⟩⟩) (le_k (ks := [0, 1, 2, 3, 4, 5, 12, 14, 15, 16, 17, 18, 19]) (bs := [3000]) (gs := [5000]) (.cons rfl (.cons rfl (.cons rfl (.cons rfl (.cons rfl (.cons rfl (.cons rfl (.cons rfl (.cons rfl (.cons rfl (.cons rfl (.cons rfl (.cons rfl .nil))))))))))))) (.cons rfl .nil) (.cons rfl .nil)) ?_) ⟨.inl rfl, trivial⟩ ⟨.inl rfl, trivial⟩
  refine TL_y (y_move (e_t rfl)) ?_
  refine TL_y (y_extract2_0 (e_t rfl)) ?_
  refine TL_y (y_extract2_1 (e_t rfl)) ?_
  refine TL_y (y_assign (e_t rfl)) ?_
  refine TL_y (y_assign (e_t rfl)) ?_
  refine TL_nil ?_
  refine z_nt ?_
  refine T_seq ?_
  refine T_region ?_
  refine TL_y (y_move (e_t rfl)) ?_
  refine TL_y (y_move (e_t rfl)) ?_
  refine TL_y (y_move (e_t rfl)) ?_
  refine TL_y (y_move (e_t rfl)) ?_
  refine TL_y (y_move (e_t rfl)) ?_
  obtain ⟨t2, ht2, h⟩ := bind_some h
  have hct2 : FnL Try.prog 138 [.g 5000, .d (t1.2.1 : Int), .d (a3 : Int), .p 3000 0, .d (a5 : (Fn2 Member Member Int))] ⟨[(3000, ⟨(t1.2.2 : Int)⟩)], [(5000, ⟨39, (a0 : List Member)⟩)], []⟩ (.t2 (.d t2.1) (.d t2.2.1)) ⟨[(3000, ⟨(t2.2.2 : Int)⟩)], [(5000, ⟨39, (a0 : List Member)⟩)], []⟩ [3000] [5000] := (sl_order2CmpFunc_Member_ok ht2)
  refine TL_callL hct2 ⟨(e_t rfl), (e_t rfl), (e_t rfl), (e_t rfl), (e_t rfl), trivial⟩ c138 ⟨[], [], []⟩ [(0, .g 5000), (1, .d (t1.1 : Int)), (2, .d (t1.2.1 : Int)), (3, .d (a3 : Int)), (4, .p 3000 0), (5, .d (a5 : (Fn2 Member Member Int))), (12, .d (0 : Int)), (14, .g 5000), (15, .d (a1 : Int)), (16, .d (a2 : Int)), (17, .p 3000 0), (18, .d (a5 : (Fn2 Member Member Int))), (19, .t2 (.d (t1.1 : Int)) (.d (t1.2.1 : Int))), (13, .t2 (.d (t1.1 : Int)) (.d (t1.2.1 : Int))), (20, .d (t1.1 : Int)), (21, .d (t1.2.1 : Int)), (23, .g 5000), (24, .d (t1.2.1 : Int)), (25, .d (a3 : Int)), (26, .p 3000 0), (27, .d (a5 : (Fn2 Member Member Int)))] (le_k (ks := []) (bs := [3000]) (gs := [5000]) .nil (.cons rfl .nil) (.cons rfl .nil)) (le_k (ks := [0, 1, 2, 3, 4, 5, 12, 14, 15, 16, 17, 18, 19, 13, 20, 21, 23, 24, 25, 26, 27]) (bs := []) (gs := []) (.cons rfl (.cons rfl (.cons rfl (.cons rfl (.cons rfl (.cons rfl (.cons rfl (.cons rfl (.cons rfl (.cons rfl (.cons rfl (.cons rfl (.cons rfl (.cons rfl (.cons rfl (.cons rfl (.cons rfl (.cons rfl (.cons rfl (.cons rfl (.cons rfl .nil))))))))))))))))))))) .nil .nil) (TL_le (s' := ⟨[(0, .g 5000), (1, .d (t1.1 : Int)), (2, .d (t1.2.1 : Int)), (3, .d (a3 : Int)), (4, .p 3000 0), (5, .d (a5 : (Fn2 Member Member Int))), (12, .d (0 : Int)), (14, .g 5000), (15, .d (a1 : Int)), (16, .d (a2 : Int)), (17, .p 3000 0), (18, .d (a5 : (Fn2 Member Member Int))), (19, .t2 (.d (t1.1 : Int)) (.d (t1.2.1 : Int))), (13, .t2 (.d (t1.1 : Int)) (.d (t1.2.1 : Int))), (20, .d (t1.1 : Int)), (21, .d (t1.2.1 : Int)), (23, .g 5000), (24, .d (t1.2.1 : Int)), (25, .d (a3 : Int)), (26, .p 3000 0), (27, .d (a5 : (Fn2 Member Member Int))), (28, .t2 (.d (t2.1 : Int)) (.d (t2.2.1 : Int)))], ⟨[(3000, ⟨(t2.2.2 : Int)⟩)], [(5000, ⟨39, (a0 : List Member)⟩)], []⟩⟩) (le_k (ks := [0, 1, 2, 3, 4, 5, 12, 14, 15, 16, 17, 18, 19, 13, 20, 21, 23, 24, 25, 26, 27, 28]) (bs := [3000]) (gs := [5000]) (.cons rfl (.cons rfl (.cons rfl (.cons rfl (.cons rfl (.cons rfl (.cons rfl (.cons rfl (.cons rfl (.cons rfl (.cons rfl (.cons rfl (.cons rfl (.cons rfl (.cons rfl (.cons rfl (.cons rfl (.cons rfl (.cons rfl (.cons rfl (.cons rfl (.cons rfl .nil)))))))))))))))))))))) (.cons rfl .nil) (.cons rfl .nil)) ?_) ⟨.inl rfl, trivial⟩ ⟨.inl rfl, trivial⟩
  refine TL_y (y_move (e_t rfl)) ?_
  refine TL_y (y_extract2_0 (e_t rfl)) ?_
  refine TL_y (y_extract2_1 (e_t rfl)) ?_
  refine TL_y (y_assign (e_t rfl)) ?_
  refine TL_y (y_assign (e_t rfl)) ?_
  refine TL_nil ?_
  refine z_nt ?_
  refine T_seq ?_
  refine T_region ?_
  refine TL_y (y_move (e_t rfl)) ?_
  refine TL_y (y_move (e_t rfl)) ?_
  refine TL_y (y_move (e_t rfl)) ?_
  refine TL_y (y_move (e_t rfl)) ?_
  refine TL_y (y_move (e_t rfl)) ?_
  obtain ⟨t3, ht3, h⟩ := bind_some h
  have hct3 : FnL Try.prog 138 [.g 5000, .d (t1.1 : Int), .d (t2.1 : Int), .p 3000 0, .d (a5 : (Fn2 Member Member Int))] ⟨[(3000, ⟨(t2.2.2 : Int)⟩)], [(5000, ⟨39, (a0 : List Member)⟩)], []⟩ (.t2 (.d t3.1) (.d t3.2.1)) ⟨[(3000, ⟨(t3.2.2 : Int)⟩)], [(5000, ⟨39, (a0 : List Member)⟩)], []⟩ [3000] [5000] := (sl_order2CmpFunc_Member_ok ht3)
  refine TL_callL hct3 ⟨(e_t rfl), (e_t rfl), (e_t rfl), (e_t rfl), (e_t rfl), trivial⟩ c138 ⟨[], [], []⟩ [(0, .g 5000), (1, .d (t1.1 : Int)), (2, .d (t2.1 : Int)), (3, .d (t2.2.1 : Int)), (4, .p 3000 0), (5, .d (a5 : (Fn2 Member Member Int))), (12, .d (0 : Int)), (14, .g 5000), (15, .d (a1 : Int)), (16, .d (a2 : Int)), (17, .p 3000 0), (18, .d (a5 : (Fn2 Member Member Int))), (19, .t2 (.d (t1.1 : Int)) (.d (t1.2.1 : Int))), (13, .t2 (.d (t1.1 : Int)) (.d (t1.2.1 : Int))), (20, .d (t1.1 : Int)), (21, .d (t1.2.1 : Int)), (23, .g 5000), (24, .d (t1.2.1 : Int)), (25, .d (a3 : Int)), (26, .p 3000 0), (27, .d (a5 : (Fn2 Member Member Int))), (28, .t2 (.d (t2.1 : Int)) (.d (t2.2.1 : Int))), (22, .t2 (.d (t2.1 : Int)) (.d (t2.2.1 : Int))), (29, .d (t2.1 : Int)), (30, .d (t2.2.1 : Int)), (32, .g 5000), (33, .d (t1.1 : Int)), (34, .d (t2.1 : Int)), (35, .p 3000 0), (36, .d (a5 : (Fn2 Member Member Int)))] (le_k (ks := []) (bs := [3000]) (gs := [5000]) .nil (.cons rfl .nil) (.cons rfl .nil)) (le_k (ks := [0, 1, 2, 3, 4, 5, 12, 14, 15, 16, 17, 18, 19, 13, 20, 21, 23, 24, 25, 26, 27, 28, 22, 29, 30, 32, 33, 34, 35, 36]) (bs := []) (gs := []) (.cons rfl (.cons rfl (.cons rfl (.cons rfl (.cons rfl (.cons rfl (.cons rfl (.cons rfl (.cons rfl (.cons rfl (.cons rfl (.cons rfl (.cons rfl (.cons rfl (.cons rfl (.cons rfl (.cons rfl (.cons rfl (.cons rfl (.cons rfl (.cons rfl (.cons rfl (.cons rfl (.cons rfl (.cons rfl (.cons rfl (.cons rfl (.cons rfl (.cons rfl (.cons rfl .nil)))))))))))))))))))))))))))))) .nil .nil) (TL_le (s' := ⟨[(0, .g 5000), (1, .d (t1.1 : Int)), (2, .d (t2.1 : Int)), (3, .d (t2.2.1 : Int)), (4, .p 3000 0), (5, .d (a5 : (Fn2 Member Member Int))), (12, .d (0 : Int)), (14, .g 5000), (15, .d (a1 : Int)), (16, .d (a2 : Int)), (17, .p 3000 0), (18, .d (a5 : (Fn2 Member Member Int))), (19, .t2 (.d (t1.1 : Int)) (.d (t1.2.1 : Int))), (13, .t2 (.d (t1.1 : Int)) (.d (t1.2.1 : Int))), (20, .d (t1.1 : Int)), (21, .d (t1.2.1 : Int)), (23, .g 5000), (24, .d (t1.2.1 : Int)), (25, .d (a3 : Int)), (26, .p 3000 0), (27, .d (a5 : (Fn2 Member Member Int))), (28, .t2 (.d (t2.1 : Int)) (.d (t2.2.1 : Int))), (22, .t2 (.d (t2.1 : Int)) (.d (t2.2.1 : Int))), (29, .d (t2.1 : Int)), (30, .d (t2.2.1 : Int)), (32, .g 5000), (33, .d (t1.1 : Int)), (34, .d (t2.1 : Int)), (35, .p 3000 0), (36, .d (a5 : (Fn2 Member Member Int))), (37, .t2 (.d (t3.1 : Int)) (.d (t3.2.1 : Int)))], ⟨[(3000, ⟨(t3.2.2 : Int)⟩)], [(5000, ⟨39, (a0 : List Member)⟩)], []⟩⟩) (le_k (ks := [0, 1, 2, 3, 4, 5, 12, 14, 15, 16, 17, 18, 19, 13, 20, 21, 23, 24, 25, 26, 27, 28, 22, 29, 30, 32, 33, 34, 35, 36, 37]) (bs := [3000]) (gs := [5000]) (.cons rfl (.cons rfl (.cons rfl (.cons rfl (.cons rfl (.cons rfl (.cons rfl (.cons rfl (.cons rfl (.cons rfl (.cons rfl (.cons rfl (.cons rfl (.cons rfl (.cons rfl (.cons rfl (.cons rfl (.cons rfl (.cons rfl (.cons rfl (.cons rfl (.cons rfl (.cons rfl (.cons rfl (.cons rfl (.cons rfl (.cons rfl (.cons rfl (.cons rfl (.cons rfl (.cons rfl .nil))))))))))))))))))))))))))))))) (.cons rfl .nil) (.cons rfl .nil)) ?_) ⟨.inl rfl, trivial⟩ ⟨.inl rfl, trivial⟩
  refine TL_y (y_move (e_t rfl)) ?_
  refine TL_y (y_extract2_0 (e_t rfl)) ?_
  refine TL_y (y_extract2_1 (e_t rfl)) ?_
  refine TL_y (y_assign (e_t rfl)) ?_
  refine TL_y (y_assign (e_t rfl)) ?_
  refine TL_nil ?_
  refine z_nt ?_
  refine T_seq ?_
  refine T_region ?_
  refine TL_y (y_move (e_t rfl)) ?_
  refine TL_y (y_assign (e_t rfl)) ?_
  refine TL_nil ?_
  refine z_nt ?_
  refine T_ret ?_
  obtain rfl := Option.some.inj h
  exact zl_ret1 (n := _) ok_base (fn := Try.f137) rfl (rl_t rfl) (le_k (ks := []) (bs := [3000]) (gs := [5000]) .nil (.cons rfl .nil) (.cons rfl .nil))
def sl_medianAdjacentCmpFunc_Member (a0 : (List Member)) (a1 : Int) (a2 : Int) (a3 : (Fn2 Member Member Int)) : Option (Int × Int) := (sl_medianCmpFunc_Member a0 (w64 (a1 - 1)) a1 (w64 (a1 + 1)) a2 a3).bind fun t1 => some (t1.1, t1.2)
theorem sl_medianAdjacentCmpFunc_Member_ok {a0 : (List Member)} {a1 : Int} {a2 : Int} {a3 : (Fn2 Member Member Int)} {r : (Int × Int)} (h : sl_medianAdjacentCmpFunc_Member a0 a1 a2 a3 = some r) : FnL Try.prog 136 [.g 5000, .d a1, .p 3000 0, .d a3] ⟨[(3000, ⟨(a2 : Int)⟩)], [(5000, ⟨39, (a0 : List Member)⟩)], []⟩ (.d r.1) ⟨[(3000, ⟨(r.2 : Int)⟩)], [(5000, ⟨39, (a0 : List Member)⟩)], []⟩ [3000] [5000] := by
  refine FnL.of Try.func136 rfl fun w m S0 β γ => ?_
  unfold sl_medianAdjacentCmpFunc_Member at h
  refine T_seq ?_
  refine T_region ?_
  refine TL_y (y_assign (e_i (0))) ?_
  refine TL_nil ?_
  refine z_nt ?_
  refine T_seq ?_
  refine T_region ?_
  refine TL_y (y_move (e_t rfl)) ?_
  refine TL_y (y_move (e_t rfl)) ?_
  refine TL_y (y_sub (e_t rfl) (e_i (1))) ?_
  refine TL_y (y_move (e_t rfl)) ?_
  refine TL_y (y_move (e_t rfl)) ?_
  refine TL_y (y_add (e_t rfl) (e_i (1))) ?_
  refine TL_y (y_move (e_t rfl)) ?_
  refine TL_y (y_move (e_t rfl)) ?_
  obtain ⟨t1, ht1, h⟩ := bind_some h
  have hct1 : FnL Try.prog 137 [.g 5000, .d ((w64 (a1 - 1)) : Int), .d (a1 : Int), .d ((w64 (a1 + 1)) : Int), .p 3000 0, .d (a3 : (Fn2 Member Member Int))] ⟨[(3000, ⟨(a2 : Int)⟩)], [(5000, ⟨39, (a0 : List Member)⟩)], []⟩ (.d t1.1) ⟨[(3000, ⟨(t1.2 : Int)⟩)], [(5000, ⟨39, (a0 : List Member)⟩)], []⟩ [3000] [5000] := (sl_medianCmpFunc_Member_ok ht1)
  refine TL_callL hct1 ⟨(e_t rfl), (e_t rfl), (e_t rfl), (e_t rfl), (e_t rfl), (e_t rfl), trivial⟩ c137 ⟨[], [], []⟩ [(0, .g 5000), (1, .d (a1 : Int)), (2, .p 3000 0), (3, .d (a3 : (Fn2 Member Member Int))), (8, .d (0 : Int)), (9, .g 5000), (10, .d (a1 : Int)), (11, .d ((w64 (a1 - 1)) : Int)), (12, .d (a1 : Int)), (13, .d (a1 : Int)), (14, .d ((w64 (a1 + 1)) : Int)), (15, .p 3000 0), (16, .d (a3 : (Fn2 Member Member Int)))] (le_k (ks := []) (bs := [3000]) (gs := [5000]) .nil (.cons rfl .nil) (.cons rfl .nil)) (le_k (ks := [0, 1, 2, 3, 8, 9, 10, 11, 12, 13, 14, 15, 16]) (bs := []) (gs := []) (.cons rfl (.cons rfl (.cons rfl (.cons rfl (.cons rfl (.cons rfl (.cons rfl (.cons rfl (.cons rfl (.cons rfl (.cons rfl (.cons rfl (.cons rfl .nil))))))))))))) .nil .nil) (TL_le (s' := ⟨[(0, .g 5000), (1, .d (a1 : Int)), (2, .p 3000 0), (3, .d (a3 : (Fn2 Member Member Int))), (8, .d (0 : Int)), (9, .g 5000), (10, .d (a1 : Int)), (11, .d ((w64 (a1 - 1)) : Int)), (12, .d (a1 : Int)), (13, .d (a1 : Int)), (14, .d ((w64 (a1 + 1)) : Int)), (15, .p 3000 0), (16, .d (a3 : (Fn2 Member Member Int))), (17, .d (t1.1 : Int))], ⟨[(3000, ⟨(t1.2 : Int)⟩)], [(5000, ⟨39, (a0 : List Member)⟩)], []⟩⟩) (le_k (ks := [0, 1, 2, 3, 8, 9, 10, 11, 12, 13, 14, 15, 16, 17]) (bs := [3000]) (gs := [5000]) (.cons rfl (.cons rfl (.cons rfl (.cons rfl (.cons rfl (.cons rfl (.cons rfl (.cons rfl (.cons rfl (.cons rfl (.cons rfl (.cons rfl (.cons rfl (.cons rfl .nil)))))))))))))) (.cons rfl .nil) (.cons rfl .nil)) ?_) ⟨.inl rfl, trivial⟩ ⟨.inl rfl, trivial⟩
  refine TL_y (y_assign (e_t rfl)) ?_
  refine TL_nil ?_
  refine z_nt ?_
  refine T_ret ?_
  obtain rfl := Option.some.inj h
  exact zl_ret1 (n := _) ok_base (fn := Try.f136) rfl (rl_t rfl) (le_k (ks := []) (bs := [3000]) (gs := [5000]) .nil (.cons rfl .nil) (.cons rfl .nil))
end Go.Ph
set_option maxRecDepth 4000
set_option maxHeartbeats 4000000
namespace Go.Ph
open Go.Proofs
def sl_choosePivotCmpFunc_Member (a0 : (List Member)) (a1 : Int) (a2 : Int) (a3 : (Fn2 Member Member Int)) : Option (Int × Int) := (((bif (decide (8 ≤ (w64 (a2 - a1)))) then (((bif (decide (50 ≤ (w64 (a2 - a1)))) then (sl_medianAdjacentCmpFunc_Member a0 (w64 (a1 + (w64 ((w64 (Int.tdiv (w64 (a2 - a1)) 4)) * 1)))) (0 : Int) a3).bind fun t9 => (sl_medianAdjacentCmpFunc_Member a0 (w64 (a1 + (w64 ((w64 (Int.tdiv (w64 (a2 - a1)) 4)) * 2)))) t9.2 a3).bind fun t10 => (sl_medianAdjacentCmpFunc_Member a0 (w64 (a1 + (w64 ((w64 (Int.tdiv (w64 (a2 - a1)) 4)) * 3)))) t10.2 a3).bind fun t11 => some (t11.2, t9.1, t10.1, t11.1) else some ((0 : Int), (w64 (a1 + (w64 ((w64 (Int.tdiv (w64 (a2 - a1)) 4)) * 1)))), (w64 (a1 + (w64 ((w64 (Int.tdiv (w64 (a2 - a1)) 4)) * 2)))), (w64 (a1 + (w64 ((w64 (Int.tdiv (w64 (a2 - a1)) 4)) * 3)))))) : Option (Int × Int × Int × Int)).bind fun s5 => (sl_medianCmpFunc_Member a0 s5.2.1 s5.2.2.1 s5.2.2.2 s5.1 a3).bind fun t12 => some (t12.2, t12.1)) else some ((0 : Int), (w64 (a1 + (w64 ((w64 (Int.tdiv (w64 (a2 - a1)) 4)) * 2)))))) : Option (Int × Int)).bind fun s1 => (bif (decide (s1.1 = 0)) then some (s1.2, 1) else (bif (decide (s1.1 = 12)) then some (s1.2, 2) else some (s1.2, 0))))
theorem sl_choosePivotCmpFunc_Member_ok {a0 : (List Member)} {a1 : Int} {a2 : Int} {a3 : (Fn2 Member Member Int)} {r : (Int × Int)} (h : sl_choosePivotCmpFunc_Member a0 a1 a2 a3 = some r) : FnL Try.prog 125 [.g 5000, .d a1, .d a2, .d a3] ⟨[], [(5000, ⟨39, (a0 : List Member)⟩)], []⟩ (.t2 (.d r.1) (.d r.2)) ⟨[], [(5000, ⟨39, (a0 : List Member)⟩)], []⟩ [] [5000] := by
  refine FnL.of Try.func125 rfl fun w m S0 β γ => ?_
  unfold sl_choosePivotCmpFunc_Member at h
  refine T_seq ?_
  refine T_region ?_
  refine TL_y (y_assign (e_i (0))) ?_
  refine TL_y (y_assign (e_i (0))) ?_
  refine TL_nil ?_
  refine z_nt ?_
  refine T_seq ?_
  refine T_region ?_
  refine TL_y (y_move (e_t rfl)) ?_
  refine TL_y (y_move (e_t rfl)) ?_
  refine TL_y (y_sub (e_t rfl) (e_t rfl)) ?_
  refine TL_y (y_assign (e_t rfl)) ?_
  refine TL_nil ?_
  refine z_nt ?_
  refine T_seq ?_
  refine T_region ?_
  refine TL_alloc z3 ?_
  refine TL_nil ?_
  refine z_nt ?_
  refine T_seq ?_
  refine T_region ?_
  refine TL_y (y_move (e_t rfl)) ?_
  refine TL_y (y_move (e_t rfl)) ?_
  refine TL_y (y_quo (e_t rfl) (e_i (4)) (by decide)) ?_
  refine TL_y (y_mul (e_t rfl) (e_i (1))) ?_
  refine TL_y (y_add (e_t rfl) (e_t rfl)) ?_
  refine TL_y (y_assign (e_t rfl)) ?_
  refine TL_nil ?_
  refine z_nt ?_
  refine T_seq ?_
  refine T_region ?_
  refine TL_y (y_move (e_t rfl)) ?_
  refine TL_y (y_move (e_t rfl)) ?_
  refine TL_y (y_quo (e_t rfl) (e_i (4)) (by decide)) ?_
  refine TL_y (y_mul (e_t rfl) (e_i (2))) ?_
  refine TL_y (y_add (e_t rfl) (e_t rfl)) ?_
  refine TL_y (y_assign (e_t rfl)) ?_
  refine TL_nil ?_
  refine z_nt ?_
  refine T_seq ?_
  refine T_region ?_
  refine TL_y (y_move (e_t rfl)) ?_
  refine TL_y (y_move (e_t rfl)) ?_
  refine TL_y (y_quo (e_t rfl) (e_i (4)) (by decide)) ?_
  refine TL_y (y_mul (e_t rfl) (e_i (3))) ?_
  refine TL_y (y_add (e_t rfl) (e_t rfl)) ?_
  refine TL_y (y_assign (e_t rfl)) ?_
  refine TL_nil ?_
  refine z_nt ?_
  obtain ⟨s1, hs1, h⟩ := bind_some h
  refine T_join (S := fun (s1 : Int × Int) => ⟨[(0, .g 5000), (11, .p 11 0), (13, .d (s1.2 : Int))], ⟨[(11, ⟨(s1.1 : Int)⟩)], [(5000, ⟨39, (a0 : List Member)⟩)], []⟩⟩) (fun z => s1 = z) (fun z e => ?_) (fun hfall2 => ?_)
  · subst e
    refine T_seq ?_
    refine T_region ?_
    refine TL_y (y_load (e_t rfl) rfl Sub.self ty3) ?_
    refine TL_nil ?_
    refine z_nt ?_
    refine T_block ?_
    refine T_seq ?_
    refine T_region ?_
    refine TL_y (y_eql (e_t rfl) (e_i (0))) ?_
    refine TL_y (y_assign (e_t rfl)) ?_
    refine TL_nil ?_
    refine z_nt ?_
    refine T_cond rfl (fun hb13 => ?_) (fun hb13 => ?_)
    · replace h := cond_t hb13 h
      refine T_seq ?_
      refine T_region ?_
      refine TL_y (y_move (e_t rfl)) ?_
      refine TL_y (y_assign (e_t rfl)) ?_
      refine TL_y (y_assign (e_i (1))) ?_
      refine TL_nil ?_
      refine z_nt ?_
      refine T_ret ?_
      refine z_rb ?_
      obtain rfl := Option.some.inj h
      exact zl_ret2 (n := _) ok_base (fn := Try.f125) rfl (rl_t rfl) (rl_t rfl) (le_k (ks := []) (bs := []) (gs := [5000]) .nil .nil (.cons rfl .nil))
    · replace h := cond_f hb13 h
      refine T_seq ?_
      refine T_region ?_
      refine TL_y (y_eql (e_t rfl) (e_i (12))) ?_
      refine TL_y (y_assign (e_t rfl)) ?_
      refine TL_nil ?_
      refine z_nt ?_
      refine T_cond rfl (fun hb14 => ?_) (fun hb14 => ?_)
      · replace h := cond_t hb14 h
        refine T_seq ?_
        refine T_region ?_
        refine TL_y (y_move (e_t rfl)) ?_
        refine TL_y (y_assign (e_t rfl)) ?_
        refine TL_y (y_assign (e_i (2))) ?_
        refine TL_nil ?_
        refine z_nt ?_
        refine T_ret ?_
        refine z_rb ?_
        obtain rfl := Option.some.inj h
        exact zl_ret2 (n := _) ok_base (fn := Try.f125) rfl (rl_t rfl) (rl_t rfl) (le_k (ks := []) (bs := []) (gs := [5000]) .nil .nil (.cons rfl .nil))
      · replace h := cond_f hb14 h
        refine T_seq ?_
        refine T_region ?_
        refine TL_y (y_move (e_t rfl)) ?_
        refine TL_y (y_assign (e_t rfl)) ?_
        refine TL_y (y_assign (e_i (0))) ?_
        refine TL_nil ?_
        refine z_nt ?_
        refine T_ret ?_
        refine z_rb ?_
        obtain rfl := Option.some.inj h
        exact zl_ret2 (n := _) ok_base (fn := Try.f125) rfl (rl_t rfl) (rl_t rfl) (le_k (ks := []) (bs := []) (gs := [5000]) .nil .nil (.cons rfl .nil))
  · clear h
    have h := hs1
    refine T_seq ?_
    refine T_region ?_
    refine TL_y (y_move (e_t rfl)) ?_
    refine TL_y (y_geq (e_t rfl) (e_i (8))) ?_
    refine TL_nil ?_
    refine z_nt ?_
    refine T_cond rfl (fun hb4 => ?_) (fun hb4 => ?_)
    · replace h := cond_t hb4 h
      obtain ⟨s5, hs5, h⟩ := bind_some h
      refine T_join (S := fun (s5 : Int × Int × Int × Int) => ⟨[(0, .g 5000), (3, .d (a3 : (Fn2 Member Member Int))), (11, .p 11 0), (12, .d (s5.2.1 : Int)), (13, .d (s5.2.2.1 : Int)), (14, .d (s5.2.2.2 : Int))], ⟨[(11, ⟨(s5.1 : Int)⟩)], [(5000, ⟨39, (a0 : List Member)⟩)], []⟩⟩) (fun z => s5 = z) (fun z e => ?_) (fun hfall6 => ?_)
      · subst e
        refine T_region ?_
        refine TL_y (y_move (e_t rfl)) ?_
        refine TL_y (y_move (e_t rfl)) ?_
        refine TL_y (y_move (e_t rfl)) ?_
        refine TL_y (y_move (e_t rfl)) ?_
        refine TL_y (y_move (e_t rfl)) ?_
        obtain ⟨t12, ht12, h⟩ := bind_some h
        have hct12 : FnL Try.prog 137 [.g 5000, .d (s5.2.1 : Int), .d (s5.2.2.1 : Int), .d (s5.2.2.2 : Int), .p 11 0, .d (a3 : (Fn2 Member Member Int))] ⟨[(11, ⟨(s5.1 : Int)⟩)], [(5000, ⟨39, (a0 : List Member)⟩)], []⟩ (.d t12.1) ⟨[(11, ⟨(t12.2 : Int)⟩)], [(5000, ⟨39, (a0 : List Member)⟩)], []⟩ [11] [5000] := (sl_medianCmpFunc_Member_ok ht12).sw 3000 11 5000 5000
        refine TL_callL hct12 ⟨(e_t rfl), (e_t rfl), (e_t rfl), (e_t rfl), (e_t rfl), (e_t rfl), trivial⟩ c137 ⟨[], [], []⟩ [(0, .g 5000), (3, .d (a3 : (Fn2 Member Member Int))), (11, .p 11 0), (12, .d (s5.2.1 : Int)), (13, .d (s5.2.2.1 : Int)), (14, .d (s5.2.2.2 : Int)), (49, .g 5000), (50, .d (s5.2.1 : Int)), (51, .d (s5.2.2.1 : Int)), (52, .d (s5.2.2.2 : Int)), (53, .d (a3 : (Fn2 Member Member Int)))] (le_k (ks := []) (bs := [11]) (gs := [5000]) .nil (.cons rfl .nil) (.cons rfl .nil)) (le_k (ks := [0, 3, 11, 12, 13, 14, 49, 50, 51, 52, 53]) (bs := []) (gs := []) (.cons rfl (.cons rfl (.cons rfl (.cons rfl (.cons rfl (.cons rfl (.cons rfl (.cons rfl (.cons rfl (.cons rfl (.cons rfl .nil))))))))))) .nil .nil) (TL_le (s' := ⟨[(0, .g 5000), (3, .d (a3 : (Fn2 Member Member Int))), (11, .p 11 0), (12, .d (s5.2.1 : Int)), (13, .d (s5.2.2.1 : Int)), (14, .d (s5.2.2.2 : Int)), (49, .g 5000), (50, .d (s5.2.1 : Int)), (51, .d (s5.2.2.1 : Int)), (52, .d (s5.2.2.2 : Int)), (53, .d (a3 : (Fn2 Member Member Int))), (54, .d (t12.1 : Int))], ⟨[(11, ⟨(t12.2 : Int)⟩)], [(5000, ⟨39, (a0 : List Member)⟩)], []⟩⟩) (le_k (ks := [0, 3, 11, 12, 13, 14, 49, 50, 51, 52, 53, 54]) (bs := [11]) (gs := [5000]) (.cons rfl (.cons rfl (.cons rfl (.cons rfl (.cons rfl (.cons rfl (.cons rfl (.cons rfl (.cons rfl (.cons rfl (.cons rfl (.cons rfl .nil)))))))))))) (.cons rfl .nil) (.cons rfl .nil)) ?_) ⟨.inl rfl, trivial⟩ ⟨.inl rfl, trivial⟩
        refine TL_y (y_assign (e_t rfl)) ?_
        refine TL_nil ?_
        exact Z_le (le_k (ks := [0, 11, 13]) (bs := [11]) (gs := [5000]) (.cons rfl (.cons rfl (.cons rfl .nil))) (.cons rfl .nil) (.cons rfl .nil)) (hfall2 _ (Option.some.inj h).symm)
      · clear h
        have h := hs5
        refine T_seq ?_
        refine T_region ?_
        refine TL_y (y_move (e_t rfl)) ?_
        refine TL_y (y_geq (e_t rfl) (e_i (50))) ?_
        refine TL_nil ?_
        refine z_nt ?_
        refine T_cond rfl (fun hb8 => ?_) (fun hb8 => ?_)
        · replace h := cond_t hb8 h
          refine T_seq ?_
          refine T_region ?_
          refine TL_y (y_move (e_t rfl)) ?_
          refine TL_y (y_move (e_t rfl)) ?_
          refine TL_y (y_move (e_t rfl)) ?_
          obtain ⟨t9, ht9, h⟩ := bind_some h
          have hct9 : FnL Try.prog 136 [.g 5000, .d ((w64 (a1 + (w64 ((w64 (Int.tdiv (w64 (a2 - a1)) 4)) * 1)))) : Int), .p 11 0, .d (a3 : (Fn2 Member Member Int))] ⟨[(11, ⟨((0 : Int) : Int)⟩)], [(5000, ⟨39, (a0 : List Member)⟩)], []⟩ (.d t9.1) ⟨[(11, ⟨(t9.2 : Int)⟩)], [(5000, ⟨39, (a0 : List Member)⟩)], []⟩ [11] [5000] := (sl_medianAdjacentCmpFunc_Member_ok ht9).sw 3000 11 5000 5000
          refine TL_callL hct9 ⟨(e_t rfl), (e_t rfl), (e_t rfl), (e_t rfl), trivial⟩ c136 ⟨[], [], []⟩ [(0, .g 5000), (1, .d (a1 : Int)), (2, .d (a2 : Int)), (3, .d (a3 : (Fn2 Member Member Int))), (8, .d (0 : Int)), (9, .d (0 : Int)), (15, .d (a2 : Int)), (16, .d (a1 : Int)), (17, .d ((w64 (a2 - a1)) : Int)), (10, .d ((w64 (a2 - a1)) : Int)), (11, .p 11 0), (18, .d (a1 : Int)), (19, .d ((w64 (a2 - a1)) : Int)), (20, .d ((w64 (Int.tdiv (w64 (a2 - a1)) 4)) : Int)), (21, .d ((w64 ((w64 (Int.tdiv (w64 (a2 - a1)) 4)) * 1)) : Int)), (22, .d ((w64 (a1 + (w64 ((w64 (Int.tdiv (w64 (a2 - a1)) 4)) * 1)))) : Int)), (12, .d ((w64 (a1 + (w64 ((w64 (Int.tdiv (w64 (a2 - a1)) 4)) * 1)))) : Int)), (23, .d (a1 : Int)), (24, .d ((w64 (a2 - a1)) : Int)), (25, .d ((w64 (Int.tdiv (w64 (a2 - a1)) 4)) : Int)), (26, .d ((w64 ((w64 (Int.tdiv (w64 (a2 - a1)) 4)) * 2)) : Int)), (27, .d ((w64 (a1 + (w64 ((w64 (Int.tdiv (w64 (a2 - a1)) 4)) * 2)))) : Int)), (13, .d ((w64 (a1 + (w64 ((w64 (Int.tdiv (w64 (a2 - a1)) 4)) * 2)))) : Int)), (28, .d (a1 : Int)), (29, .d ((w64 (a2 - a1)) : Int)), (30, .d ((w64 (Int.tdiv (w64 (a2 - a1)) 4)) : Int)), (31, .d ((w64 ((w64 (Int.tdiv (w64 (a2 - a1)) 4)) * 3)) : Int)), (32, .d ((w64 (a1 + (w64 ((w64 (Int.tdiv (w64 (a2 - a1)) 4)) * 3)))) : Int)), (14, .d ((w64 (a1 + (w64 ((w64 (Int.tdiv (w64 (a2 - a1)) 4)) * 3)))) : Int)), (33, .d ((w64 (a2 - a1)) : Int)), (34, .d ((decide (8 ≤ (w64 (a2 - a1)))) : Bool)), (35, .d ((w64 (a2 - a1)) : Int)), (36, .d ((decide (50 ≤ (w64 (a2 - a1)))) : Bool)), (37, .g 5000), (38, .d ((w64 (a1 + (w64 ((w64 (Int.tdiv (w64 (a2 - a1)) 4)) * 1)))) : Int)), (39, .d (a3 : (Fn2 Member Member Int)))] (le_k (ks := []) (bs := [11]) (gs := [5000]) .nil (.cons rfl .nil) (.cons rfl .nil)) (le_k (ks := [0, 1, 2, 3, 8, 9, 15, 16, 17, 10, 11, 18, 19, 20, 21, 22, 12, 23, 24, 25, 26, 27, 13, 28, 29, 30, 31, 32, 14, 33, 34, 35, 36, 37, 38, 39]) (bs := []) (gs := []) (.cons rfl (.cons rfl (.cons rfl (.cons rfl (.cons rfl (.cons rfl (.cons rfl (.cons rfl (.cons rfl (.cons rfl (.cons rfl (.cons rfl (.cons rfl (.cons rfl (.cons rfl (.cons rfl (.cons rfl (.cons rfl (.cons rfl (.cons rfl (.cons rfl (.cons rfl (.cons rfl (.cons rfl (.cons rfl (.cons rfl (.cons rfl (.cons rfl (.cons rfl (.cons rfl (.cons rfl (.cons rfl (.cons rfl (.cons rfl (.cons rfl (.cons rfl .nil)))))))))))))))))))))))))))))))))))) .nil .nil) (TL_le (s' := ⟨[(0, .g 5000), (1, .d (a1 : Int)), (2, .d (a2 : Int)), (3, .d (a3 : (Fn2 Member Member Int))), (8, .d (0 : Int)), (9, .d (0 : Int)), (15, .d (a2 : Int)), (16, .d (a1 : Int)), (17, .d ((w64 (a2 - a1)) : Int)), (10, .d ((w64 (a2 - a1)) : Int)), (11, .p 11 0), (18, .d (a1 : Int)), (19, .d ((w64 (a2 - a1)) : Int)), (20, .d ((w64 (Int.tdiv (w64 (a2 - a1)) 4)) : Int)), (21, .d ((w64 ((w64 (Int.tdiv (w64 (a2 - a1)) 4)) * 1)) : Int)), (22, .d ((w64 (a1 + (w64 ((w64 (Int.tdiv (w64 (a2 - a1)) 4)) * 1)))) : Int)), (12, .d ((w64 (a1 + (w64 ((w64 (Int.tdiv (w64 (a2 - a1)) 4)) * 1)))) : Int)), (23, .d (a1 : Int)), (24, .d ((w64 (a2 - a1)) : Int)), (25, .d ((w64 (Int.tdiv (w64 (a2 - a1)) 4)) : Int)), (26, .d ((w64 ((w64 (Int.tdiv (w64 (a2 - a1)) 4)) * 2)) : Int)), (27, .d ((w64 (a1 + (w64 ((w64 (Int.tdiv (w64 (a2 - a1)) 4)) * 2)))) : Int)), (13, .d ((w64 (a1 + (w64 ((w64 (Int.tdiv (w64 (a2 - a1)) 4)) * 2)))) : Int)), (28, .d (a1 : Int)), (29, .d ((w64 (a2 - a1)) : Int)), (30, .d ((w64 (Int.tdiv (w64 (a2 - a1)) 4)) : Int)), (31, .d ((w64 ((w64 (Int.tdiv (w64 (a2 - a1)) 4)) * 3)) : Int)), (32, .d ((w64 (a1 + (w64 ((w64 (Int.tdiv (w64 (a2 - a1)) 4)) * 3)))) : Int)), (14, .d ((w64 (a1 + (w64 ((w64 (Int.tdiv (w64 (a2 - a1)) 4)) * 3)))) : Int)), (33, .d ((w64 (a2 - a1)) : Int)), (34, .d ((decide (8 ≤ (w64 (a2 - a1)))) : Bool)), (35, .d ((w64 (a2 - a1)) : Int)), (36, .d ((decide (50 ≤ (w64 (a2 - a1)))) : Bool)), (37, .g 5000), (38, .d ((w64 (a1 + (w64 ((w64 (Int.tdiv (w64 (a2 - a1)) 4)) * 1)))) : Int)), (39, .d (a3 : (Fn2 Member Member Int))), (40, .d (t9.1 : Int))], ⟨[(11, ⟨(t9.2 : Int)⟩)], [(5000, ⟨39, (a0 : List Member)⟩)], []⟩⟩) (le_k (ks := [0, 1, 2, 3, 8, 9, 15, 16, 17, 10, 11, 18, 19, 20, 21, 22, 12, 23, 24, 25, 26, 27, 13, 28, 29, 30, 31, 32, 14, 33, 34, 35, 36, 37, 38, 39, 40]) (bs := [11]) (gs := [5000]) (.cons rfl (.cons rfl (.cons rfl (.cons rfl (.cons rfl (.cons rfl (.cons rfl (.cons rfl (.cons rfl (.cons rfl (.cons rfl (.cons rfl (.cons rfl (.cons rfl (.cons rfl (.cons rfl (.cons rfl (.cons rfl (.cons rfl (.cons rfl (.cons rfl (.cons rfl (.cons rfl (.cons rfl (.cons rfl (.cons rfl (.cons rfl (.cons rfl (.cons rfl (.cons rfl (.cons rfl (.cons rfl (.cons rfl (.cons rfl (.cons rfl (.cons rfl (.cons rfl .nil))))))))))))))))))))))))))))))))))))) (.cons rfl .nil) (.cons rfl .nil)) ?_) ⟨.inl rfl, trivial⟩ ⟨.inl rfl, trivial⟩
          refine TL_y (y_assign (e_t rfl)) ?_
          refine TL_nil ?_
          refine z_nt ?_
          refine T_seq ?_
          refine T_region ?_
          refine TL_y (y_move (e_t rfl)) ?_
          refine TL_y (y_move (e_t rfl)) ?_
          refine TL_y (y_move (e_t rfl)) ?_
          obtain ⟨t10, ht10, h⟩ := bind_some h
          have hct10 : FnL Try.prog 136 [.g 5000, .d ((w64 (a1 + (w64 ((w64 (Int.tdiv (w64 (a2 - a1)) 4)) * 2)))) : Int), .p 11 0, .d (a3 : (Fn2 Member Member Int))] ⟨[(11, ⟨(t9.2 : Int)⟩)], [(5000, ⟨39, (a0 : List Member)⟩)], []⟩ (.d t10.1) ⟨[(11, ⟨(t10.2 : Int)⟩)], [(5000, ⟨39, (a0 : List Member)⟩)], []⟩ [11] [5000] := (sl_medianAdjacentCmpFunc_Member_ok ht10).sw 3000 11 5000 5000
          refine TL_callL hct10 ⟨(e_t rfl), (e_t rfl), (e_t rfl), (e_t rfl), trivial⟩ c136 ⟨[], [], []⟩ [(0, .g 5000), (1, .d (a1 : Int)), (2, .d (a2 : Int)), (3, .d (a3 : (Fn2 Member Member Int))), (8, .d (0 : Int)), (9, .d (0 : Int)), (15, .d (a2 : Int)), (16, .d (a1 : Int)), (17, .d ((w64 (a2 - a1)) : Int)), (10, .d ((w64 (a2 - a1)) : Int)), (11, .p 11 0), (18, .d (a1 : Int)), (19, .d ((w64 (a2 - a1)) : Int)), (20, .d ((w64 (Int.tdiv (w64 (a2 - a1)) 4)) : Int)), (21, .d ((w64 ((w64 (Int.tdiv (w64 (a2 - a1)) 4)) * 1)) : Int)), (22, .d ((w64 (a1 + (w64 ((w64 (Int.tdiv (w64 (a2 - a1)) 4)) * 1)))) : Int)), (12, .d (t9.1 : Int)), (23, .d (a1 : Int)), (24, .d ((w64 (a2 - a1)) : Int)), (25, .d ((w64 (Int.tdiv (w64 (a2 - a1)) 4)) : Int)), (26, .d ((w64 ((w64 (Int.tdiv (w64 (a2 - a1)) 4)) * 2)) : Int)), (27, .d ((w64 (a1 + (w64 ((w64 (Int.tdiv (w64 (a2 - a1)) 4)) * 2)))) : Int)), (13, .d ((w64 (a1 + (w64 ((w64 (Int.tdiv (w64 (a2 - a1)) 4)) * 2)))) : Int)), (28, .d (a1 : Int)), (29, .d ((w64 (a2 - a1)) : Int)), (30, .d ((w64 (Int.tdiv (w64 (a2 - a1)) 4)) : Int)), (31, .d ((w64 ((w64 (Int.tdiv (w64 (a2 - a1)) 4)) * 3)) : Int)), (32, .d ((w64 (a1 + (w64 ((w64 (Int.tdiv (w64 (a2 - a1)) 4)) * 3)))) : Int)), (14, .d ((w64 (a1 + (w64 ((w64 (Int.tdiv (w64 (a2 - a1)) 4)) * 3)))) : Int)), (33, .d ((w64 (a2 - a1)) : Int)), (34, .d ((decide (8 ≤ (w64 (a2 - a1)))) : Bool)), (35, .d ((w64 (a2 - a1)) : Int)), (36, .d ((decide (50 ≤ (w64 (a2 - a1)))) : Bool)), (37, .g 5000), (38, .d ((w64 (a1 + (w64 ((w64 (Int.tdiv (w64 (a2 - a1)) 4)) * 1)))) : Int)), (39, .d (a3 : (Fn2 Member Member Int))), (40, .d (t9.1 : Int)), (41, .g 5000), (42, .d ((w64 (a1 + (w64 ((w64 (Int.tdiv (w64 (a2 - a1)) 4)) * 2)))) : Int)), (43, .d (a3 : (Fn2 Member Member Int)))] (le_k (ks := []) (bs := [11]) (gs := [5000]) .nil (.cons rfl .nil) (.cons rfl .nil)) (le_k (ks := [0, 1, 2, 3, 8, 9, 15, 16, 17, 10, 11, 18, 19, 20, 21, 22, 12, 23, 24, 25, 26, 27, 13, 28, 29, 30, 31, 32, 14, 33, 34, 35, 36, 37, 38, 39, 40, 41, 42, 43]) (bs := []) (gs := []) (.cons rfl (.cons rfl (.cons rfl (.cons rfl (.cons rfl (.cons rfl (.cons rfl (.cons rfl (.cons rfl (.cons rfl (.cons rfl (.cons rfl (.cons rfl (.cons rfl (.cons rfl (.cons rfl (.cons rfl (.cons rfl (.cons rfl (.cons rfl (.cons rfl (.cons rfl (.cons rfl (.cons rfl (.cons rfl (.cons rfl (.cons rfl (.cons rfl (.cons rfl (.cons rfl (.cons rfl (.cons rfl (.cons rfl (.cons rfl (.cons rfl (.cons rfl (.cons rfl (.cons rfl (.cons rfl (.cons rfl .nil)))))))))))))))))))))))))))))))))))))))) .nil .nil) (TL_le (s' := ⟨[(0, .g 5000), (1, .d (a1 : Int)), (2, .d (a2 : Int)), (3, .d (a3 : (Fn2 Member Member Int))), (8, .d (0 : Int)), (9, .d (0 : Int)), (15, .d (a2 : Int)), (16, .d (a1 : Int)), (17, .d ((w64 (a2 - a1)) : Int)), (10, .d ((w64 (a2 - a1)) : Int)), (11, .p 11 0), (18, .d (a1 : Int)), (19, .d ((w64 (a2 - a1)) : Int)), (20, .d ((w64 (Int.tdiv (w64 (a2 - a1)) 4)) : Int)), (21, .d ((w64 ((w64 (Int.tdiv (w64 (a2 - a1)) 4)) * 1)) : Int)), (22, .d ((w64 (a1 + (w64 ((w64 (Int.tdiv (w64 (a2 - a1)) 4)) * 1)))) : Int)), (12, .d (t9.1 : Int)), (23, .d (a1 : Int)), (24, .d ((w64 (a2 - a1)) : Int)), (25, .d ((w64 (Int.tdiv (w64 (a2 - a1)) 4)) : Int)), (26, .d ((w64 ((w64 (Int.tdiv (w64 (a2 - a1)) 4)) * 2)) : Int)), (27, .d ((w64 (a1 + (w64 ((w64 (Int.tdiv (w64 (a2 - a1)) 4)) * 2)))) : Int)), (13, .d ((w64 (a1 + (w64 ((w64 (Int.tdiv (w64 (a2 - a1)) 4)) * 2)))) : Int)), (28, .d (a1 : Int)), (29, .d ((w64 (a2 - a1)) : Int)), (30, .d ((w64 (Int.tdiv (w64 (a2 - a1)) 4)) : Int)), (31, .d ((w64 ((w64 (Int.tdiv (w64 (a2 - a1)) 4)) * 3)) : Int)), (32, .d ((w64 (a1 + (w64 ((w64 (Int.tdiv (w64 (a2 - a1)) 4)) * 3)))) : Int)), (14, .d ((w64 (a1 + (w64 ((w64 (Int.tdiv (w64 (a2 - a1)) 4)) * 3)))) : Int)), (33, .d ((w64 (a2 - a1)) : Int)), (34, .d ((decide (8 ≤ (w64 (a2 - a1)))) : Bool)), (35, .d ((w64 (a2 - a1)) : Int)), (36, .d ((decide (50 ≤ (w64 (a2 - a1)))) : Bool)), (37, .g 5000), (38, .d ((w64 (a1 + (w64 ((w64 (Int.tdiv (w64 (a2 - a1)) 4)) * 1)))) : Int)), (39, .d (a3 : (Fn2 Member Member Int))), (40, .d (t9.1 : Int)), (41, .g 5000), (42, .d ((w64 (a1 + (w64 ((w64 (Int.tdiv (w64 (a2 - a1)) 4)) * 2)))) : Int)), (43, .d (a3 : (Fn2 Member Member Int))), (44, .d (t10.1 : Int))], ⟨[(11, ⟨(t10.2 : Int)⟩)], [(5000, ⟨39, (a0 : List Member)⟩)], []⟩⟩) (le_k (ks := [0, 1, 2, 3, 8, 9, 15, 16, 17, 10, 11, 18, 19, 20, 21, 22, 12, 23, 24, 25, 26, 27, 13, 28, 29, 30, 31, 32, 14, 33, 34, 35, 36, 37, 38, 39, 40, 41, 42, 43, 44]) (bs := [11]) (gs := [5000]) (.cons rfl (.cons rfl (.cons rfl (.cons rfl (.cons rfl (.cons rfl (.cons rfl (.cons rfl (.cons rfl (.cons rfl (.cons rfl (.cons rfl (.cons rfl (.cons rfl (.cons rfl (.cons rfl (.cons rfl (.cons rfl (.cons rfl (.cons rfl (.cons rfl (.cons rfl (.cons rfl (.cons rfl (.cons rfl (.cons rfl (.cons rfl (.cons rfl (.cons rfl (.cons rfl (.cons rfl (.cons rfl (.cons rfl (.cons rfl (.cons rfl (.cons rfl (.cons rfl (.cons rfl (.cons rfl (.cons rfl (.cons rfl .nil))))))))))))))))))))))))))))))))))))))))) (.cons rfl .nil) (.cons rfl .nil)) ?_) ⟨.inl rfl, trivial⟩ ⟨.inl rfl, trivial⟩
          refine TL_y (y_assign (e_t rfl)) ?_
          refine TL_nil ?_
          refine z_nt ?_
          refine T_region ?_
          refine TL_y (y_move (e_t rfl)) ?_
          refine TL_y (y_move (e_t rfl)) ?_
          refine TL_y (y_move (e_t rfl)) ?_
          obtain ⟨t11, ht11, h⟩ := bind_some h
          have hct11 : FnL Try.prog 136 [.g 5000, .d ((w64 (a1 + (w64 ((w64 (Int.tdiv (w64 (a2 - a1)) 4)) * 3)))) : Int), .p 11 0, .d (a3 : (Fn2 Member Member Int))] ⟨[(11, ⟨(t10.2 : Int)⟩)], [(5000, ⟨39, (a0 : List Member)⟩)], []⟩ (.d t11.1) ⟨[(11, ⟨(t11.2 : Int)⟩)], [(5000, ⟨39, (a0 : List Member)⟩)], []⟩ [11] [5000] := (sl_medianAdjacentCmpFunc_Member_ok ht11).sw 3000 11 5000 5000
          refine TL_callL hct11 ⟨(e_t rfl), (e_t rfl), (e_t rfl), (e_t rfl), trivial⟩ c136 ⟨[], [], []⟩ [(0, .g 5000), (1, .d (a1 : Int)), (2, .d (a2 : Int)), (3, .d (a3 : (Fn2 Member Member Int))), (8, .d (0 : Int)), (9, .d (0 : Int)), (15, .d (a2 : Int)), (16, .d (a1 : Int)), (17, .d ((w64 (a2 - a1)) : Int)), (10, .d ((w64 (a2 - a1)) : Int)), (11, .p 11 0), (18, .d (a1 : Int)), (19, .d ((w64 (a2 - a1)) : Int)), (20, .d ((w64 (Int.tdiv (w64 (a2 - a1)) 4)) : Int)), (21, .d ((w64 ((w64 (Int.tdiv (w64 (a2 - a1)) 4)) * 1)) : Int)), (22, .d ((w64 (a1 + (w64 ((w64 (Int.tdiv (w64 (a2 - a1)) 4)) * 1)))) : Int)), (12, .d (t9.1 : Int)), (23, .d (a1 : Int)), (24, .d ((w64 (a2 - a1)) : Int)), (25, .d ((w64 (Int.tdiv (w64 (a2 - a1)) 4)) : Int)), (26, .d ((w64 ((w64 (Int.tdiv (w64 (a2 - a1)) 4)) * 2)) : Int)), (27, .d ((w64 (a1 + (w64 ((w64 (Int.tdiv (w64 (a2 - a1)) 4)) * 2)))) : Int)), (13, .d (t10.1 : Int)), (28, .d (a1 : Int)), (29, .d ((w64 (a2 - a1)) : Int)), (30, .d ((w64 (Int.tdiv (w64 (a2 - a1)) 4)) : Int)), (31, .d ((w64 ((w64 (Int.tdiv (w64 (a2 - a1)) 4)) * 3)) : Int)), (32, .d ((w64 (a1 + (w64 ((w64 (Int.tdiv (w64 (a2 - a1)) 4)) * 3)))) : Int)), (14, .d ((w64 (a1 + (w64 ((w64 (Int.tdiv (w64 (a2 - a1)) 4)) * 3)))) : Int)), (33, .d ((w64 (a2 - a1)) : Int)), (34, .d ((decide (8 ≤ (w64 (a2 - a1)))) : Bool)), (35, .d ((w64 (a2 - a1)) : Int)), (36, .d ((decide (50 ≤ (w64 (a2 - a1)))) : Bool)), (37, .g 5000), (38, .d ((w64 (a1 + (w64 ((w64 (Int.tdiv (w64 (a2 - a1)) 4)) * 1)))) : Int)), (39, .d (a3 : (Fn2 Member Member Int))), (40, .d (t9.1 : Int)), (41, .g 5000), (42, .d ((w64 (a1 + (w64 ((w64 (Int.tdiv (w64 (a2 - a1)) 4)) * 2)))) : Int)), (43, .d (a3 : (Fn2 Member Member Int))), (44, .d (t10.1 : Int)), (45, .g 5000), (46, .d ((w64 (a1 + (w64 ((w64 (Int.tdiv (w64 (a2 - a1)) 4)) * 3)))) : Int)), (47, .d (a3 : (Fn2 Member Member Int)))] (le_k (ks := []) (bs := [11]) (gs := [5000]) .nil (.cons rfl .nil) (.cons rfl .nil)) (le_k (ks := [0, 1, 2, 3, 8, 9, 15, 16, 17, 10, 11, 18, 19, 20, 21, 22, 12, 23, 24, 25, 26, 27, 13, 28, 29, 30, 31, 32, 14, 33, 34, 35, 36, 37, 38, 39, 40, 41, 42, 43, 44, 45, 46, 47]) (bs := []) (gs := []) (.cons rfl (.cons rfl (.cons rfl (.cons rfl (.cons rfl (.cons rfl (.cons rfl (.cons rfl (.cons rfl (.cons rfl (.cons rfl (.cons rfl (.cons rfl (.cons rfl (.cons rfl (.cons rfl (.cons rfl (.cons rfl (.cons rfl (.cons rfl (.cons rfl (.cons rfl (.cons rfl (.cons rfl (.cons rfl (.cons rfl (.cons rfl (.cons rfl (.cons rfl (.cons rfl (.cons rfl (.cons rfl (.cons rfl (.cons rfl (.cons rfl (.cons rfl (.cons rfl (.cons rfl (.cons rfl (.cons rfl (.cons rfl (.cons rfl (.cons rfl (.cons rfl .nil)))))))))))))))))))))))))))))))))))))))))))) .nil .nil) (TL_le (s' := ⟨[(0, .g 5000), (1, .d (a1 : Int)), (2, .d (a2 : Int)), (3, .d (a3 : (Fn2 Member Member Int))), (8, .d (0 : Int)), (9, .d (0 : Int)), (15, .d (a2 : Int)), (16, .d (a1 : Int)), (17, .d ((w64 (a2 - a1)) : Int)), (10, .d ((w64 (a2 - a1)) : Int)), (11, .p 11 0), (18, .d (a1 : Int)), (19, .d ((w64 (a2 - a1)) : Int)), (20, .d ((w64 (Int.tdiv (w64 (a2 - a1)) 4)) : Int)), (21, .d ((w64 ((w64 (Int.tdiv (w64 (a2 - a1)) 4)) * 1)) : Int)), (22, .d ((w64 (a1 + (w64 ((w64 (Int.tdiv (w64 (a2 - a1)) 4)) * 1)))) : Int)), (12, .d (t9.1 : Int)), (23, .d (a1 : Int)), (24, .d ((w64 (a2 - a1)) : Int)), (25, .d ((w64 (Int.tdiv (w64 (a2 - a1)) 4)) : Int)), (26, .d ((w64 ((w64 (Int.tdiv (w64 (a2 - a1)) 4)) * 2)) : Int)), (27, .d ((w64 (a1 + (w64 ((w64 (Int.tdiv (w64 (a2 - a1)) 4)) * 2)))) : Int)), (13, .d (t10.1 : Int)), (28, .d (a1 : Int)), (29, .d ((w64 (a2 - a1)) : Int)), (30, .d ((w64 (Int.tdiv (w64 (a2 - a1)) 4)) : Int)), (31, .d ((w64 ((w64 (Int.tdiv (w64 (a2 - a1)) 4)) * 3)) : Int)), (32, .d ((w64 (a1 + (w64 ((w64 (Int.tdiv (w64 (a2 - a1)) 4)) * 3)))) : Int)), (14, .d ((w64 (a1 + (w64 ((w64 (Int.tdiv (w64 (a2 - a1)) 4)) * 3)))) : Int)), (33, .d ((w64 (a2 - a1)) : Int)), (34, .d ((decide (8 ≤ (w64 (a2 - a1)))) : Bool)), (35, .d ((w64 (a2 - a1)) : Int)), (36, .d ((decide (50 ≤ (w64 (a2 - a1)))) : Bool)), (37, .g 5000), (38, .d ((w64 (a1 + (w64 ((w64 (Int.tdiv (w64 (a2 - a1)) 4)) * 1)))) : Int)), (39, .d (a3 : (Fn2 Member Member Int))), (40, .d (t9.1 : Int)), (41, .g 5000), (42, .d ((w64 (a1 + (w64 ((w64 (Int.tdiv (w64 (a2 - a1)) 4)) * 2)))) : Int)), (43, .d (a3 : (Fn2 Member Member Int))), (44, .d (t10.1 : Int)), (45, .g 5000), (46, .d ((w64 (a1 + (w64 ((w64 (Int.tdiv (w64 (a2 - a1)) 4)) * 3)))) : Int)), (47, .d (a3 : (Fn2 Member Member Int))), (48, .d (t11.1 : Int))], ⟨[(11, ⟨(t11.2 : Int)⟩)], [(5000, ⟨39, (a0 : List Member)⟩)], []⟩⟩) (le_k (ks := [0, 1, 2, 3, 8, 9, 15, 16, 17, 10, 11, 18, 19, 20, 21, 22, 12, 23, 24, 25, 26, 27, 13, 28, 29, 30, 31, 32, 14, 33, 34, 35, 36, 37, 38, 39, 40, 41, 42, 43, 44, 45, 46, 47, 48]) (bs := [11]) (gs := [5000]) (.cons rfl (.cons rfl (.cons rfl (.cons rfl (.cons rfl (.cons rfl (.cons rfl (.cons rfl (.cons rfl (.cons rfl (.cons rfl (.cons rfl (.cons rfl (.cons rfl (.cons rfl (.cons rfl (.cons rfl (.cons rfl (.cons rfl (.cons rfl (.cons rfl (.cons rfl (.cons rfl (.cons rfl (.cons rfl (.cons rfl (.cons rfl (.cons rfl (.cons rfl (.cons rfl (.cons rfl (.cons rfl (.cons rfl (.cons rfl (.cons rfl (.cons rfl (.cons rfl (.cons rfl (.cons rfl (.cons rfl (.cons rfl (.cons rfl (.cons rfl (.cons rfl (.cons rfl .nil))))))))))))))))))))))))))))))))))))))))))))) (.cons rfl .nil) (.cons rfl .nil)) ?_) ⟨.inl rfl, trivial⟩ ⟨.inl rfl, trivial⟩
          refine TL_y (y_assign (e_t rfl)) ?_
          refine TL_nil ?_
          exact Z_le (le_k (ks := [0, 3, 11, 12, 13, 14]) (bs := [11]) (gs := [5000]) (.cons rfl (.cons rfl (.cons rfl (.cons rfl (.cons rfl (.cons rfl .nil)))))) (.cons rfl .nil) (.cons rfl .nil)) (hfall6 _ (Option.some.inj h).symm)
        · replace h := cond_f hb8 h
          refine T_skip ?_
          exact Z_le (le_k (ks := [0, 3, 11, 12, 13, 14]) (bs := [11]) (gs := [5000]) (.cons rfl (.cons rfl (.cons rfl (.cons rfl (.cons rfl (.cons rfl .nil)))))) (.cons rfl .nil) (.cons rfl .nil)) (hfall6 _ (Option.some.inj h).symm)
    · replace h := cond_f hb4 h
      refine T_skip ?_
      exact Z_le (le_k (ks := [0, 11, 13]) (bs := [11]) (gs := [5000]) (.cons rfl (.cons rfl (.cons rfl .nil))) (.cons rfl .nil) (.cons rfl .nil)) (hfall2 _ (Option.some.inj h).symm)
def sl_reverseRangeCmpFunc_Member_l0 : Nat → (List Member) × Int × Int → Option ((List Member) × Int × Int)
  | 0, _ => none
  | ks1 + 1, s1 => (bif (decide (s1.2.1 < s1.2.2)) then (ix s1.1 s1.2.2).bind fun t7 => (ix s1.1 s1.2.1).bind fun t8 => (ix s1.1 s1.2.1).bind fun t9 => (ix (s1.1.set s1.2.1.toNat t7) s1.2.2).bind fun t10 => sl_reverseRangeCmpFunc_Member_l0 ks1 (((s1.1.set s1.2.1.toNat t7).set s1.2.2.toNat t8), (w64 (s1.2.1 + 1)), (w64 (s1.2.2 - 1))) else some (s1.1, s1.2.1, s1.2.2))
def sl_reverseRangeCmpFunc_Member (a0 : (List Member)) (a1 : Int) (a2 : Int) (a3 : (Fn2 Member Member Int)) : Option (List Member) := ((sl_reverseRangeCmpFunc_Member_l0 FUEL (a0, a1, (w64 (a2 - 1)))).bind fun s1 => some s1.1)
theorem sl_reverseRangeCmpFunc_Member_ok {a0 : (List Member)} {a1 : Int} {a2 : Int} {a3 : (Fn2 Member Member Int)} {r : (List Member)} (h : sl_reverseRangeCmpFunc_Member a0 a1 a2 a3 = some r) : FnL Try.prog 126 [.g 5000, .d a1, .d a2, .d a3] ⟨[], [(5000, ⟨39, (a0 : List Member)⟩)], []⟩ (.x (.tuple #[])) ⟨[], [(5000, ⟨39, (r : List Member)⟩)], []⟩ [] [5000] := by
  refine FnL.of Try.func126 rfl fun w m S0 β γ => ?_
  unfold sl_reverseRangeCmpFunc_Member at h
  refine T_seq ?_
  refine T_region ?_
  refine TL_y (y_move (e_t rfl)) ?_
  refine TL_y (y_assign (e_t rfl)) ?_
  refine TL_nil ?_
  refine z_nt ?_
  refine T_seq ?_
  refine T_region ?_
  refine TL_y (y_move (e_t rfl)) ?_
  refine TL_y (y_sub (e_t rfl) (e_i (1))) ?_
  refine TL_y (y_assign (e_t rfl)) ?_
  refine TL_nil ?_
  refine z_nt ?_
  obtain ⟨o3, ho3, h⟩ := bind_some h
  refine T_loopin (S := fun (s1 : (List Member) × Int × Int) => ⟨[(0, .g 5000), (8, .d (s1.2.1 : Int)), (9, .d (s1.2.2 : Int))], ⟨[], [(5000, ⟨39, (s1.1 : List Member)⟩)], []⟩⟩) (fun z => z = o3) (fun s1 e => ?_) (fun hfall4 => ?_)
  · subst e
    obtain rfl := Option.some.inj h
    exact zl_ret0 (n := _) ok_base (fn := Try.f126) rfl (le_k (ks := []) (bs := []) (gs := [5000]) .nil .nil (.cons rfl .nil))
  · clear h
    refine TW_le (le_k (ks := [0, 8, 9]) (bs := []) (gs := [5000]) (.cons rfl (.cons rfl (.cons rfl .nil))) .nil (.cons rfl .nil)) (fuel_ind (fun (s1 : (List Member) × Int × Int) => ⟨[(0, .g 5000), (8, .d (s1.2.1 : Int)), (9, .d (s1.2.2 : Int))], ⟨[], [(5000, ⟨39, (s1.1 : List Member)⟩)], []⟩⟩) (fun k s => sl_reverseRangeCmpFunc_Member_l0 k s = some o3) ?_ ?_ _ (a0, a1, (w64 (a2 - 1))) ho3)
    · intro s h
      cases h
    · intro ks1 s1 ih h
      replace h : ((bif (decide (s1.2.1 < s1.2.2)) then (ix s1.1 s1.2.2).bind fun t7 => (ix s1.1 s1.2.1).bind fun t8 => (ix s1.1 s1.2.1).bind fun t9 => (ix (s1.1.set s1.2.1.toNat t7) s1.2.2).bind fun t10 => sl_reverseRangeCmpFunc_Member_l0 ks1 (((s1.1.set s1.2.1.toNat t7).set s1.2.2.toNat t8), (w64 (s1.2.1 + 1)), (w64 (s1.2.2 - 1))) else some (s1.1, s1.2.1, s1.2.2))) = some o3 := h
      refine TW_round ?_
      refine T_seq ?_
      refine T_seq ?_
      refine T_region ?_
      refine TL_y (y_move (e_t rfl)) ?_
      refine TL_y (y_move (e_t rfl)) ?_
      refine TL_y (y_lss (e_t rfl) (e_t rfl)) ?_
      refine TL_nil ?_
      refine z_nt ?_
      refine T_cond rfl (fun hb6 => ?_) (fun hb6 => ?_)
      · replace h := cond_t hb6 h
        refine T_skip ?_
        refine z_nt ?_
        refine T_block ?_
        refine T_seq ?_
        refine T_le (le_k (ks := [0, 8, 9, 13, 14, 15]) (bs := []) (gs := [5000]) (ti := []) (.cons rfl (.cons rfl (.cons rfl (.cons rfl (.cons rfl (.cons rfl .nil)))))) .nil (.cons rfl .nil)) ?_
        obtain ⟨t7, ht7, h⟩ := bind_some h
        obtain ⟨t8, ht8, h⟩ := bind_some h
        obtain ⟨t9, ht9, h⟩ := bind_some h
        obtain ⟨t10, ht10, h⟩ := bind_some h
        refine T_drawn hmix (by kernel_rfl) (by kernel_rfl) [some (.g 5000), some (.d (s1.2.1 : Int)), some (.g 5000), some (.d (s1.2.2 : Int)), some (.g 5000), some (.d (s1.2.2 : Int)), some (.ge 5000 (s1.2.2.toNat * 33 + 0)), some (.d (t7 : Member)), some (.g 5000), some (.d (s1.2.1 : Int)), some (.ge 5000 (s1.2.1.toNat * 33 + 0)), some (.d (t8 : Member)), some (.ge 5000 (s1.2.1.toNat * 33 + 0)), none, some (.ge 5000 (s1.2.2.toNat * 33 + 0)), none] [] [(none, some 13, 5000, (⟨39, (s1.1 : List Member)⟩ : GV _)), (some 13, some 15, 5000, (⟨39, ((s1.1.set s1.2.1.toNat t7) : List Member)⟩ : GV _)), (some 15, none, 5000, (⟨39, (((s1.1.set s1.2.1.toNat t7).set s1.2.2.toNat t8) : List Member)⟩ : GV _))] [] rfl trivial ⟨rfl, trivial⟩ rfl rfl rfl ⟨?_, ?_, ?_, ?_, ?_, ?_, ?_, ?_, ?_, ?_, ?_, ?_, ?_, ?_, ?_, ?_, trivial⟩ (Z_le (le_k (ks := [0, 8, 9, 13, 14, 15, 16, 17, 18, 19, 20, 21, 22, 23, 24, 25, 26, 27, 28, 29]) (bs := []) (gs := [5000]) (ti := []) (.cons rfl (.cons rfl (.cons rfl (.cons rfl (.cons rfl (.cons rfl (.cons rfl (.cons rfl (.cons rfl (.cons rfl (.cons rfl (.cons rfl (.cons rfl (.cons rfl (.cons rfl (.cons rfl (.cons rfl (.cons rfl (.cons rfl (.cons rfl .nil)))))))))))))))))))) .nil (.cons rfl .nil)) ?_)
        · refine d_put rfl rfl rfl rfl (fun L s' H Q k => ?_)
          refine TL_y (y_move (e_t (H.p rfl))) ?_
          exact TL_nil k
        · refine d_put rfl rfl offs_d rfl (fun L s' H Q k => ?_)
          refine TL_y (y_move (e_t (H.p rfl))) ?_
          exact TL_nil k
        · refine d_put rfl rfl rfl rfl (fun L s' H Q k => ?_)
          refine TL_y (y_move (e_t (H.p rfl))) ?_
          exact TL_nil k
        · refine d_put rfl rfl offs_d rfl (fun L s' H Q k => ?_)
          refine TL_y (y_move (e_t (H.p rfl))) ?_
          exact TL_nil k
        · refine d_put rfl rfl rfl rfl (fun L s' H Q k => ?_)
          refine TL_y (y_move (e_t (H.p rfl))) ?_
          exact TL_nil k
        · refine d_put rfl rfl offs_d rfl (fun L s' H Q k => ?_)
          refine TL_y (y_move (e_t (H.p rfl))) ?_
          exact TL_nil k
        · refine d_put rfl rfl rfl rfl (fun L s' H Q k => ?_)
          refine TL_y (y_index_ge (e_t (H.t 4 rfl)) (e_t (H.t 5 rfl)) (H.g 0 rfl) (ix_some ht7).1 (ix_lt ht7) tysl28) ?_
          exact TL_nil k
        · refine d_put rfl rfl offs_d rfl (fun L s' H Q k => ?_)
          refine TL_load_ge (i := s1.2.2.toNat) (off := 0) (e_t (H.t 6 rfl)) (H.g 0 rfl) (ix_some ht7).2 Sub.self ty39 ?_
          exact TL_nil k
        · refine d_put rfl rfl rfl rfl (fun L s' H Q k => ?_)
          refine TL_y (y_move (e_t (H.p rfl))) ?_
          exact TL_nil k
        · refine d_put rfl rfl offs_d rfl (fun L s' H Q k => ?_)
          refine TL_y (y_move (e_t (H.p rfl))) ?_
          exact TL_nil k
        · refine d_put rfl rfl rfl rfl (fun L s' H Q k => ?_)
          refine TL_y (y_index_ge (e_t (H.t 8 rfl)) (e_t (H.t 9 rfl)) (H.g 0 rfl) (ix_some ht8).1 (ix_lt ht8) tysl28) ?_
          exact TL_nil k
        · refine d_put rfl rfl offs_d rfl (fun L s' H Q k => ?_)
          refine TL_load_ge (i := s1.2.1.toNat) (off := 0) (e_t (H.t 10 rfl)) (H.g 0 rfl) (ix_some ht8).2 Sub.self ty39 ?_
          exact TL_nil k
        · refine d_put rfl rfl rfl rfl (fun L s' H Q k => ?_)
          refine TL_y (y_index_ge (e_t (H.t 0 rfl)) (e_t (H.t 1 rfl)) (H.g 0 rfl) (ix_some ht9).1 (ix_lt ht9) tysl28) ?_
          exact TL_nil k
        · refine d_rstore rfl rfl rfl rfl rfl (fun L s' H Q k => ?_)
          refine TL_store_ge (i := s1.2.1.toNat) (e_t (H.t 12 rfl)) (H.g 0 rfl) (ix_lt ht9) (e_t (H.t 7 rfl)) ty39 ?_
          exact TL_nil k
        · refine d_put rfl rfl rfl rfl (fun L s' H Q k => ?_)
          refine TL_y (y_index_ge (e_t (H.t 2 rfl)) (e_t (H.t 3 rfl)) (H.g 1 rfl) (ix_some ht10).1 (ix_lt ht10) tysl28) ?_
          exact TL_nil k
        · refine d_rstore rfl rfl rfl rfl rfl (fun L s' H Q k => ?_)
          refine TL_store_ge (i := s1.2.2.toNat) (e_t (H.t 14 rfl)) (H.g 1 rfl) (ix_lt ht10) (e_t (H.t 11 rfl)) ty39 ?_
          exact TL_nil k
        refine z_nt ?_
        refine T_seq ?_
        refine T_region ?_
        refine TL_y (y_move (e_t rfl)) ?_
        refine TL_y (y_add (e_t rfl) (e_i (1))) ?_
        refine TL_y (y_assign (e_t rfl)) ?_
        refine TL_nil ?_
        refine z_nt ?_
        refine T_region ?_
        refine TL_y (y_move (e_t rfl)) ?_
        refine TL_y (y_sub (e_t rfl) (e_i (1))) ?_
        refine TL_y (y_assign (e_t rfl)) ?_
        refine TL_nil ?_
        refine z_nb ?_
        refine z_nl ?_
        exact TW_le (le_k (ks := [0, 8, 9]) (bs := []) (gs := [5000]) (.cons rfl (.cons rfl (.cons rfl .nil))) .nil (.cons rfl .nil)) (ih _ h)
      · replace h := cond_f hb6 h
        refine T_exit ?_
        refine z_et ?_
        refine z_et ?_
        refine z_ei ?_
        exact Z_le (le_k (ks := [0, 8, 9]) (bs := []) (gs := [5000]) (.cons rfl (.cons rfl (.cons rfl .nil))) .nil (.cons rfl .nil)) (hfall4 _ (Option.some.inj h))
end Go.Ph
set_option maxRecDepth 4000
set_option maxHeartbeats 4000000
namespace Go.Ph
open Go.Proofs
def sl_partialInsertionSortCmpFunc_Member_l2 (a3 : (Fn2 Member Member Int)) : Nat → (List Member) × Int → Option ((List Member) × Int)
  | 0, _ => none
  | ks35 + 1, s35 => (bif (decide (1 ≤ s35.2)) then (ix s35.1 s35.2).bind fun t41 => (ix s35.1 (w64 (s35.2 - 1))).bind fun t42 => (a3.f t41 t42).bind fun t43 => (bif (!(decide (t43 < 0))) then some (s35.1, s35.2) else (ix s35.1 (w64 (s35.2 - 1))).bind fun t45 => (ix s35.1 s35.2).bind fun t46 => (ix s35.1 s35.2).bind fun t47 => (ix (s35.1.set s35.2.toNat t45) (w64 (s35.2 - 1))).bind fun t48 => sl_partialInsertionSortCmpFunc_Member_l2 a3 ks35 (((s35.1.set s35.2.toNat t45).set (w64 (s35.2 - 1)).toNat t46), (w64 (s35.2 - 1)))) else some (s35.1, s35.2))
def sl_partialInsertionSortCmpFunc_Member_l3 (a2 : Int) (a3 : (Fn2 Member Member Int)) : Nat → (List Member) × Int → Option ((List Member) × Int)
  | 0, _ => none
  | ks50 + 1, s50 => (bif (decide (s50.2 < a2)) then (ix s50.1 s50.2).bind fun t56 => (ix s50.1 (w64 (s50.2 - 1))).bind fun t57 => (a3.f t56 t57).bind fun t58 => (bif (!(decide (t58 < 0))) then some (s50.1, s50.2) else (ix s50.1 (w64 (s50.2 - 1))).bind fun t60 => (ix s50.1 s50.2).bind fun t61 => (ix s50.1 s50.2).bind fun t62 => (ix (s50.1.set s50.2.toNat t60) (w64 (s50.2 - 1))).bind fun t63 => sl_partialInsertionSortCmpFunc_Member_l3 a2 a3 ks50 (((s50.1.set s50.2.toNat t60).set (w64 (s50.2 - 1)).toNat t61), (w64 (s50.2 + 1)))) else some (s50.1, s50.2))
def sl_partialInsertionSortCmpFunc_Member_l1 (a2 : Int) (s1 : (List Member) × Int × Int) (a3 : (Fn2 Member Member Int)) : Nat → Int → Option (Int)
  | 0, _ => none
  | ks11 + 1, s11 => ((bif (decide (s11 < a2)) then (ix s1.1 s11).bind fun t21 => (ix s1.1 (w64 (s11 - 1))).bind fun t22 => (a3.f t21 t22).bind fun t23 => some (!(decide (t23 < 0))) else some false)).bind fun t20 => (bif t20 then sl_partialInsertionSortCmpFunc_Member_l1 a2 s1 a3 ks11 (w64 (s11 + 1)) else some s11)
def sl_partialInsertionSortCmpFunc_Member_l0 (a2 : Int) (a3 : (Fn2 Member Member Int)) (a1 : Int) : Nat → (List Member) × Int × Int → Option (Lo (Bool × (List Member)) ((List Member) × Int × Int))
  | 0, _ => none
  | ks1 + 1, s1 => (bif (decide (s1.2.2 < 5)) then ((((sl_partialInsertionSortCmpFunc_Member_l1 a2 s1 a3 FUEL s1.2.1).bind fun s11 => (bif (decide (s11 = a2)) then some (.ret (true, s1.1)) else (bif (decide ((w64 (a2 - a1)) < 50)) then some (.ret (false, s1.1)) else (ix s1.1 (w64 (s11 - 1))).bind fun t27 => (ix s1.1 s11).bind fun t28 => (ix s1.1 s11).bind fun t29 => (ix (s1.1.set s11.toNat t27) (w64 (s11 - 1))).bind fun t30 => (((bif (decide (2 ≤ (w64 (s11 - a1)))) then ((sl_partialInsertionSortCmpFunc_Member_l2 a3 FUEL (((s1.1.set s11.toNat t27).set (w64 (s11 - 1)).toNat t28), (w64 (s11 - 1)))).bind fun s35 => some s35.1) else some ((s1.1.set s11.toNat t27).set (w64 (s11 - 1)).toNat t28)) : Option ((List Member))).bind fun s31 => (bif (decide (2 ≤ (w64 (a2 - s11)))) then ((sl_partialInsertionSortCmpFunc_Member_l3 a2 a3 FUEL (s31, (w64 (s11 + 1)))).bind fun s50 => some (.fall (s50.1, s11))) else some (.fall (s31, s11))))))) : Option (Lo (Bool × (List Member)) ((List Member) × Int))).bind fun o8 => match o8 with | .ret q => some (.ret q) | .fall s7 => sl_partialInsertionSortCmpFunc_Member_l0 a2 a3 a1 ks1 (s7.1, s7.2, (w64 (s1.2.2 + 1)))) else some (.fall (s1.1, s1.2.1, s1.2.2)))
def sl_partialInsertionSortCmpFunc_Member (a0 : (List Member)) (a1 : Int) (a2 : Int) (a3 : (Fn2 Member Member Int)) : Option (Bool × (List Member)) := ((sl_partialInsertionSortCmpFunc_Member_l0 a2 a3 a1 FUEL (a0, (w64 (a1 + 1)), 0)).bind fun o3 => match o3 with | .ret q => some q | .fall s1 => some (false, s1.1))
theorem sl_partialInsertionSortCmpFunc_Member_ok {a0 : (List Member)} {a1 : Int} {a2 : Int} {a3 : (Fn2 Member Member Int)} {r : (Bool × (List Member))} (h : sl_partialInsertionSortCmpFunc_Member a0 a1 a2 a3 = some r) : FnL Try.prog 127 [.g 5000, .d a1, .d a2, .d a3] ⟨[], [(5000, ⟨39, (a0 : List Member)⟩)], []⟩ (.d r.1) ⟨[], [(5000, ⟨39, (r.2 : List Member)⟩)], []⟩ [] [5000] := by
  refine FnL.of Try.func127 rfl fun w m S0 β γ => ?_
  unfold sl_partialInsertionSortCmpFunc_Member at h
  refine T_seq ?_
  refine T_region ?_
  refine TL_y (y_assign (e_b false)) ?_
  refine TL_nil ?_
  refine z_nt ?_
  refine T_seq ?_
  refine T_region ?_
  refine TL_y (y_move (e_t rfl)) ?_
  refine TL_y (y_add (e_t rfl) (e_i (1))) ?_
  refine TL_y (y_assign (e_t rfl)) ?_
  refine TL_nil ?_
  refine z_nt ?_
  refine T_seq ?_
  refine T_seq ?_
  refine T_region ?_
  refine TL_y (y_assign (e_i (0))) ?_
  refine TL_nil ?_
  refine z_nt ?_
  obtain ⟨o3, ho3, h⟩ := bind_some h
  refine T_loopin (S := fun (s1 : (List Member) × Int × Int) => ⟨[(0, .g 5000), (9, .d (s1.2.1 : Int)), (10, .d (s1.2.2 : Int))], ⟨[], [(5000, ⟨39, (s1.1 : List Member)⟩)], []⟩⟩) (fun s1 => o3 = .fall s1) (fun s1 e => ?_) (fun hfall4 => ?_)
  · subst e
    dsimp only at h
    refine z_nt ?_
    refine T_seq ?_
    refine T_region ?_
    refine TL_y (y_assign (e_b false)) ?_
    refine TL_nil ?_
    refine z_nt ?_
    refine T_ret ?_
    obtain rfl := Option.some.inj h
    exact zl_ret1 (n := _) ok_base (fn := Try.f127) rfl (rl_t rfl) (le_k (ks := []) (bs := []) (gs := [5000]) .nil .nil (.cons rfl .nil))
  · have hret5 : ∀ q, o3 = .ret q → q = r := fun q e => by
      subst e
      dsimp only at h
      exact Option.some.inj h
    clear h
    refine TW_le (le_k (ks := [0, 1, 2, 3, 9, 10]) (bs := []) (gs := [5000]) (.cons rfl (.cons rfl (.cons rfl (.cons rfl (.cons rfl (.cons rfl .nil)))))) .nil (.cons rfl .nil)) (fuel_ind (fun (s1 : (List Member) × Int × Int) => ⟨[(0, .g 5000), (1, .d (a1 : Int)), (2, .d (a2 : Int)), (3, .d (a3 : (Fn2 Member Member Int))), (9, .d (s1.2.1 : Int)), (10, .d (s1.2.2 : Int))], ⟨[], [(5000, ⟨39, (s1.1 : List Member)⟩)], []⟩⟩) (fun k s => sl_partialInsertionSortCmpFunc_Member_l0 a2 a3 a1 k s = some o3) ?_ ?_ _ (a0, (w64 (a1 + 1)), 0) ho3)
    · intro s h
      cases h
    · intro ks1 s1 ih h
      replace h : ((bif (decide (s1.2.2 < 5)) then ((((sl_partialInsertionSortCmpFunc_Member_l1 a2 s1 a3 FUEL s1.2.1).bind fun s11 => (bif (decide (s11 = a2)) then some (.ret (true, s1.1)) else (bif (decide ((w64 (a2 - a1)) < 50)) then some (.ret (false, s1.1)) else (ix s1.1 (w64 (s11 - 1))).bind fun t27 => (ix s1.1 s11).bind fun t28 => (ix s1.1 s11).bind fun t29 => (ix (s1.1.set s11.toNat t27) (w64 (s11 - 1))).bind fun t30 => (((bif (decide (2 ≤ (w64 (s11 - a1)))) then ((sl_partialInsertionSortCmpFunc_Member_l2 a3 FUEL (((s1.1.set s11.toNat t27).set (w64 (s11 - 1)).toNat t28), (w64 (s11 - 1)))).bind fun s35 => some s35.1) else some ((s1.1.set s11.toNat t27).set (w64 (s11 - 1)).toNat t28)) : Option ((List Member))).bind fun s31 => (bif (decide (2 ≤ (w64 (a2 - s11)))) then ((sl_partialInsertionSortCmpFunc_Member_l3 a2 a3 FUEL (s31, (w64 (s11 + 1)))).bind fun s50 => some (.fall (s50.1, s11))) else some (.fall (s31, s11))))))) : Option (Lo (Bool × (List Member)) ((List Member) × Int))).bind fun o8 => match o8 with | .ret q => some (.ret q) | .fall s7 => sl_partialInsertionSortCmpFunc_Member_l0 a2 a3 a1 ks1 (s7.1, s7.2, (w64 (s1.2.2 + 1)))) else some (.fall (s1.1, s1.2.1, s1.2.2)))) = some o3 := h
      refine TW_round ?_
      refine T_seq ?_
      refine T_seq ?_
      refine T_region ?_
      refine TL_y (y_move (e_t rfl)) ?_
      refine TL_y (y_lss (e_t rfl) (e_i (5))) ?_
      refine TL_nil ?_
      refine z_nt ?_
      refine T_cond rfl (fun hb6 => ?_) (fun hb6 => ?_)
      · replace h := cond_t hb6 h
        refine T_skip ?_
        refine z_nt ?_
        obtain ⟨o8, ho8, h⟩ := bind_some h
        refine T_join (S := fun (s7 : (List Member) × Int) => ⟨[(0, .g 5000), (1, .d (a1 : Int)), (2, .d (a2 : Int)), (3, .d (a3 : (Fn2 Member Member Int))), (9, .d (s7.2 : Int)), (10, .d (s1.2.2 : Int))], ⟨[], [(5000, ⟨39, (s7.1 : List Member)⟩)], []⟩⟩) (fun s7 => o8 = .fall s7) (fun s7 e => ?_) (fun hfall9 => ?_)
        · subst e
          dsimp only at h
          refine T_region ?_
          refine TL_y (y_move (e_t rfl)) ?_
          refine TL_y (y_add (e_t rfl) (e_i (1))) ?_
          refine TL_y (y_assign (e_t rfl)) ?_
          refine TL_nil ?_
          refine z_nl ?_
          exact TW_le (le_k (ks := [0, 1, 2, 3, 9, 10]) (bs := []) (gs := [5000]) (.cons rfl (.cons rfl (.cons rfl (.cons rfl (.cons rfl (.cons rfl .nil)))))) .nil (.cons rfl .nil)) (ih _ h)
        · have hret10 : ∀ q, o8 = .ret q → q = r := fun q e => by
            subst e
            dsimp only at h
            exact hret5 _ (Option.some.inj h).symm
          clear h
          have h := ho8
          refine T_block ?_
          refine T_seq ?_
          obtain ⟨o13, ho13, h⟩ := bind_some h
          refine T_loopin (S := fun (s11 : Int) => ⟨[(0, .g 5000), (1, .d (a1 : Int)), (2, .d (a2 : Int)), (3, .d (a3 : (Fn2 Member Member Int))), (9, .d (s11 : Int)), (10, .d (s1.2.2 : Int))], ⟨[], [(5000, ⟨39, (s1.1 : List Member)⟩)], []⟩⟩) (fun z => z = o13) (fun s11 e => ?_) (fun hfall14 => ?_)
          · subst e
            refine z_nt ?_
            refine T_seq ?_
            refine T_seq ?_
            refine T_region ?_
            refine TL_y (y_move (e_t rfl)) ?_
            refine TL_y (y_move (e_t rfl)) ?_
            refine TL_y (y_eql (e_t rfl) (e_t rfl)) ?_
            refine TL_nil ?_
            refine z_nt ?_
            refine T_cond rfl (fun hb25 => ?_) (fun hb25 => ?_)
            · replace h := cond_t hb25 h
              refine T_seq ?_
              refine T_region ?_
              refine TL_y (y_assign (e_b true)) ?_
              refine TL_nil ?_
              refine z_nt ?_
              refine T_ret ?_
              refine z_rt ?_
              refine z_rb ?_
              refine z_rt ?_
              refine z_rt ?_
              refine z_rb ?_
              refine z_rt ?_
              obtain rfl := hret10 _ (Option.some.inj h).symm
              exact zl_ret1 (n := _) ok_base (fn := Try.f127) rfl (rl_t rfl) (le_k (ks := []) (bs := []) (gs := [5000]) .nil .nil (.cons rfl .nil))
            · replace h := cond_f hb25 h
              refine T_skip ?_
              refine z_nt ?_
              refine T_seq ?_
              refine T_seq ?_
              refine T_region ?_
              refine TL_y (y_move (e_t rfl)) ?_
              refine TL_y (y_move (e_t rfl)) ?_
              refine TL_y (y_sub (e_t rfl) (e_t rfl)) ?_
              refine TL_y (y_lss (e_t rfl) (e_i (50))) ?_
              refine TL_nil ?_
              refine z_nt ?_
              refine T_cond rfl (fun hb26 => ?_) (fun hb26 => ?_)
              · replace h := cond_t hb26 h
                refine T_seq ?_
                refine T_region ?_
                refine TL_y (y_assign (e_b false)) ?_
                refine TL_nil ?_
                refine z_nt ?_
                refine T_ret ?_
                refine z_rt ?_
                refine z_rb ?_
                refine z_rt ?_
                refine z_rt ?_
                refine z_rb ?_
                refine z_rt ?_
                obtain rfl := hret10 _ (Option.some.inj h).symm
                exact zl_ret1 (n := _) ok_base (fn := Try.f127) rfl (rl_t rfl) (le_k (ks := []) (bs := []) (gs := [5000]) .nil .nil (.cons rfl .nil))
              · replace h := cond_f hb26 h
                refine T_skip ?_
                refine z_nt ?_
                refine T_seq ?_
                refine T_le (le_k (ks := [0, 1, 2, 3, 9, 10, 39, 40, 41, 42, 43, 44, 45]) (bs := []) (gs := [5000]) (ti := []) (.cons rfl (.cons rfl (.cons rfl (.cons rfl (.cons rfl (.cons rfl (.cons rfl (.cons rfl (.cons rfl (.cons rfl (.cons rfl (.cons rfl (.cons rfl .nil))))))))))))) .nil (.cons rfl .nil)) ?_
                obtain ⟨t27, ht27, h⟩ := bind_some h
                obtain ⟨t28, ht28, h⟩ := bind_some h
                obtain ⟨t29, ht29, h⟩ := bind_some h
                obtain ⟨t30, ht30, h⟩ := bind_some h
                refine T_drawn hmix (by kernel_rfl) (by kernel_rfl) [some (.g 5000), some (.d (s11 : Int)), some (.g 5000), some (.d (s11 : Int)), some (.d ((w64 (s11 - 1)) : Int)), some (.g 5000), some (.d (s11 : Int)), some (.d ((w64 (s11 - 1)) : Int)), some (.ge 5000 ((w64 (s11 - 1)).toNat * 33 + 0)), some (.d (t27 : Member)), some (.g 5000), some (.d (s11 : Int)), some (.ge 5000 (s11.toNat * 33 + 0)), some (.d (t28 : Member)), some (.ge 5000 (s11.toNat * 33 + 0)), none, some (.ge 5000 ((w64 (s11 - 1)).toNat * 33 + 0)), none] [] [(none, some 15, 5000, (⟨39, (s1.1 : List Member)⟩ : GV _)), (some 15, some 17, 5000, (⟨39, ((s1.1.set s11.toNat t27) : List Member)⟩ : GV _)), (some 17, none, 5000, (⟨39, (((s1.1.set s11.toNat t27).set (w64 (s11 - 1)).toNat t28) : List Member)⟩ : GV _))] [] rfl trivial ⟨rfl, trivial⟩ rfl rfl rfl ⟨?_, ?_, ?_, ?_, ?_, ?_, ?_, ?_, ?_, ?_, ?_, ?_, ?_, ?_, ?_, ?_, ?_, ?_, trivial⟩ (Z_le (le_k (ks := [0, 1, 2, 3, 9, 10, 39, 40, 41, 42, 43, 44, 45, 46, 47, 48, 49, 50, 51, 52, 53, 54, 55, 56, 57, 58, 59, 60, 61]) (bs := []) (gs := [5000]) (ti := []) (.cons rfl (.cons rfl (.cons rfl (.cons rfl (.cons rfl (.cons rfl (.cons rfl (.cons rfl (.cons rfl (.cons rfl (.cons rfl (.cons rfl (.cons rfl (.cons rfl (.cons rfl (.cons rfl (.cons rfl (.cons rfl (.cons rfl (.cons rfl (.cons rfl (.cons rfl (.cons rfl (.cons rfl (.cons rfl (.cons rfl (.cons rfl (.cons rfl (.cons rfl .nil))))))))))))))))))))))))))))) .nil (.cons rfl .nil)) ?_)
                · refine d_put rfl rfl rfl rfl (fun L s' H Q k => ?_)
                  refine TL_y (y_move (e_t (H.p rfl))) ?_
                  exact TL_nil k
                · refine d_put rfl rfl offs_d rfl (fun L s' H Q k => ?_)
                  refine TL_y (y_move (e_t (H.p rfl))) ?_
                  exact TL_nil k
                · refine d_put rfl rfl rfl rfl (fun L s' H Q k => ?_)
                  refine TL_y (y_move (e_t (H.p rfl))) ?_
                  exact TL_nil k
                · refine d_put rfl rfl offs_d rfl (fun L s' H Q k => ?_)
                  refine TL_y (y_move (e_t (H.p rfl))) ?_
                  exact TL_nil k
                · refine d_put rfl rfl offs_d rfl (fun L s' H Q k => ?_)
                  refine TL_y (y_sub (e_t (H.t 3 rfl)) (e_i (1))) ?_
                  exact TL_nil k
                · refine d_put rfl rfl rfl rfl (fun L s' H Q k => ?_)
                  refine TL_y (y_move (e_t (H.p rfl))) ?_
                  exact TL_nil k
                · refine d_put rfl rfl offs_d rfl (fun L s' H Q k => ?_)
                  refine TL_y (y_move (e_t (H.p rfl))) ?_
                  exact TL_nil k
                · refine d_put rfl rfl offs_d rfl (fun L s' H Q k => ?_)
                  refine TL_y (y_sub (e_t (H.t 6 rfl)) (e_i (1))) ?_
                  exact TL_nil k
                · refine d_put rfl rfl rfl rfl (fun L s' H Q k => ?_)
                  refine TL_y (y_index_ge (e_t (H.t 5 rfl)) (e_t (H.t 7 rfl)) (H.g 0 rfl) (ix_some ht27).1 (ix_lt ht27) tysl28) ?_
                  exact TL_nil k
                · refine d_put rfl rfl offs_d rfl (fun L s' H Q k => ?_)
                  refine TL_load_ge (i := (w64 (s11 - 1)).toNat) (off := 0) (e_t (H.t 8 rfl)) (H.g 0 rfl) (ix_some ht27).2 Sub.self ty39 ?_
                  exact TL_nil k
                · refine d_put rfl rfl rfl rfl (fun L s' H Q k => ?_)
                  refine TL_y (y_move (e_t (H.p rfl))) ?_
                  exact TL_nil k
                · refine d_put rfl rfl offs_d rfl (fun L s' H Q k => ?_)
                  refine TL_y (y_move (e_t (H.p rfl))) ?_
                  exact TL_nil k
                · refine d_put rfl rfl rfl rfl (fun L s' H Q k => ?_)
                  refine TL_y (y_index_ge (e_t (H.t 10 rfl)) (e_t (H.t 11 rfl)) (H.g 0 rfl) (ix_some ht28).1 (ix_lt ht28) tysl28) ?_
                  exact TL_nil k
                · refine d_put rfl rfl offs_d rfl (fun L s' H Q k => ?_)
                  refine TL_load_ge (i := s11.toNat) (off := 0) (e_t (H.t 12 rfl)) (H.g 0 rfl) (ix_some ht28).2 Sub.self ty39 ?_
                  exact TL_nil k
                · refine d_put rfl rfl rfl rfl (fun L s' H Q k => ?_)
                  refine TL_y (y_index_ge (e_t (H.t 0 rfl)) (e_t (H.t 1 rfl)) (H.g 0 rfl) (ix_some ht29).1 (ix_lt ht29) tysl28) ?_
                  exact TL_nil k
                · refine d_rstore rfl rfl rfl rfl rfl (fun L s' H Q k => ?_)
                  refine TL_store_ge (i := s11.toNat) (e_t (H.t 14 rfl)) (H.g 0 rfl) (ix_lt ht29) (e_t (H.t 9 rfl)) ty39 ?_
                  exact TL_nil k
                · refine d_put rfl rfl rfl rfl (fun L s' H Q k => ?_)
                  refine TL_y (y_index_ge (e_t (H.t 2 rfl)) (e_t (H.t 4 rfl)) (H.g 1 rfl) (ix_some ht30).1 (ix_lt ht30) tysl28) ?_
                  exact TL_nil k
                · refine d_rstore rfl rfl rfl rfl rfl (fun L s' H Q k => ?_)
                  refine TL_store_ge (i := (w64 (s11 - 1)).toNat) (e_t (H.t 16 rfl)) (H.g 1 rfl) (ix_lt ht30) (e_t (H.t 13 rfl)) ty39 ?_
                  exact TL_nil k
                refine z_nt ?_
                obtain ⟨s31, hs31, h⟩ := bind_some h
                refine T_join (S := fun (s31 : (List Member)) => ⟨[(0, .g 5000), (1, .d (a1 : Int)), (2, .d (a2 : Int)), (3, .d (a3 : (Fn2 Member Member Int))), (9, .d (s11 : Int)), (10, .d (s1.2.2 : Int))], ⟨[], [(5000, ⟨39, (s31 : List Member)⟩)], []⟩⟩) (fun z => s31 = z) (fun z e => ?_) (fun hfall32 => ?_)
                · subst e
                  refine T_seq ?_
                  refine T_region ?_
                  refine TL_y (y_move (e_t rfl)) ?_
                  refine TL_y (y_move (e_t rfl)) ?_
                  refine TL_y (y_sub (e_t rfl) (e_t rfl)) ?_
                  refine TL_y (y_geq (e_t rfl) (e_i (2))) ?_
                  refine TL_nil ?_
                  refine z_nt ?_
                  refine T_cond rfl (fun hb49 => ?_) (fun hb49 => ?_)
                  · replace h := cond_t hb49 h
                    refine T_seq ?_
                    refine T_region ?_
                    refine TL_y (y_move (e_t rfl)) ?_
                    refine TL_y (y_add (e_t rfl) (e_i (1))) ?_
                    refine TL_y (y_assign (e_t rfl)) ?_
                    refine TL_nil ?_
                    refine z_nt ?_
                    obtain ⟨o52, ho52, h⟩ := bind_some h
                    refine T_loopin (S := fun (s50 : (List Member) × Int) => ⟨[(0, .g 5000), (1, .d (a1 : Int)), (2, .d (a2 : Int)), (3, .d (a3 : (Fn2 Member Member Int))), (9, .d (s11 : Int)), (10, .d (s1.2.2 : Int)), (12, .d (s50.2 : Int))], ⟨[], [(5000, ⟨39, (s50.1 : List Member)⟩)], []⟩⟩) (fun z => z = o52) (fun s50 e => ?_) (fun hfall53 => ?_)
                    · subst e
                      refine z_nb ?_
                      exact Z_le (le_k (ks := [0, 1, 2, 3, 9, 10]) (bs := []) (gs := [5000]) (.cons rfl (.cons rfl (.cons rfl (.cons rfl (.cons rfl (.cons rfl .nil)))))) .nil (.cons rfl .nil)) (hfall9 _ (Option.some.inj h).symm)
                    · clear h
                      refine TW_le (le_k (ks := [0, 1, 2, 3, 9, 10, 12]) (bs := []) (gs := [5000]) (.cons rfl (.cons rfl (.cons rfl (.cons rfl (.cons rfl (.cons rfl (.cons rfl .nil))))))) .nil (.cons rfl .nil)) (fuel_ind (fun (s50 : (List Member) × Int) => ⟨[(0, .g 5000), (1, .d (a1 : Int)), (2, .d (a2 : Int)), (3, .d (a3 : (Fn2 Member Member Int))), (9, .d (s11 : Int)), (10, .d (s1.2.2 : Int)), (12, .d (s50.2 : Int))], ⟨[], [(5000, ⟨39, (s50.1 : List Member)⟩)], []⟩⟩) (fun k s => sl_partialInsertionSortCmpFunc_Member_l3 a2 a3 k s = some o52) ?_ ?_ _ (s31, (w64 (s11 + 1))) ho52)
                      · intro s h
                        cases h
                      · intro ks50 s50 ih h
                        replace h : ((bif (decide (s50.2 < a2)) then (ix s50.1 s50.2).bind fun t56 => (ix s50.1 (w64 (s50.2 - 1))).bind fun t57 => (a3.f t56 t57).bind fun t58 => (bif (!(decide (t58 < 0))) then some (s50.1, s50.2) else (ix s50.1 (w64 (s50.2 - 1))).bind fun t60 => (ix s50.1 s50.2).bind fun t61 => (ix s50.1 s50.2).bind fun t62 => (ix (s50.1.set s50.2.toNat t60) (w64 (s50.2 - 1))).bind fun t63 => sl_partialInsertionSortCmpFunc_Member_l3 a2 a3 ks50 (((s50.1.set s50.2.toNat t60).set (w64 (s50.2 - 1)).toNat t61), (w64 (s50.2 + 1)))) else some (s50.1, s50.2))) = some o52 := h
                        refine TW_round ?_
                        refine T_seq ?_
                        refine T_seq ?_
                        refine T_region ?_
                        refine TL_y (y_move (e_t rfl)) ?_
                        refine TL_y (y_move (e_t rfl)) ?_
                        refine TL_y (y_lss (e_t rfl) (e_t rfl)) ?_
                        refine TL_nil ?_
                        refine z_nt ?_
                        refine T_cond rfl (fun hb55 => ?_) (fun hb55 => ?_)
                        · replace h := cond_t hb55 h
                          refine T_skip ?_
                          refine z_nt ?_
                          refine T_seq ?_
                          refine T_block ?_
                          refine T_seq ?_
                          refine T_seq ?_
                          refine T_draw hmix (by kernel_rfl) ?_
                          refine TQ_y (y_move (e_t rfl)) ?_
                          refine TQ_y (y_move (e_t rfl)) ?_
                          refine TQ_y (y_move (e_t rfl)) ?_
                          obtain ⟨t56, ht56, h⟩ := bind_some h
                          refine TQ_y (y_index_ge (e_t rfl) (e_t rfl) rfl (ix_some ht56).1 (ix_lt ht56) tysl28) ?_
                          refine TQ_y (y_load_ge (i := s50.2.toNat) (off := 0) (e_t rfl) rfl (ix_some ht56).2 Sub.self ty39) ?_
                          refine TQ_y (y_move (e_t rfl)) ?_
                          refine TQ_y (y_move (e_t rfl)) ?_
                          refine TQ_y (y_sub (e_t rfl) (e_i (1))) ?_
                          obtain ⟨t57, ht57, h⟩ := bind_some h
                          refine TQ_y (y_index_ge (e_t rfl) (e_t rfl) rfl (ix_some ht57).1 (ix_lt ht57) tysl28) ?_
                          refine TQ_y (y_load_ge (i := (w64 (s50.2 - 1)).toNat) (off := 0) (e_t rfl) rfl (ix_some ht57).2 Sub.self ty39) ?_
                          obtain ⟨t58, ht58, h⟩ := bind_some h
                          refine TQ_y (y_callv2 (e_t rfl) (e_t rfl) (e_t rfl) ht58) ?_
                          refine TQ_y (y_lss (e_t rfl) (e_i (0))) ?_
                          refine TQ_y (y_not (e_t rfl)) ?_
                          refine TQ_nil ?_
                          refine z_nt ?_
                          refine T_cond rfl (fun hb59 => ?_) (fun hb59 => ?_)
                          · replace h := cond_t hb59 h
                            refine T_exit ?_
                            refine z_et ?_
                            refine z_eo ?_
                            refine z_et ?_
                            refine z_et ?_
                            refine z_ei ?_
                            exact Z_le (le_k (ks := [0, 1, 2, 3, 9, 10, 12]) (bs := []) (gs := [5000]) (.cons rfl (.cons rfl (.cons rfl (.cons rfl (.cons rfl (.cons rfl (.cons rfl .nil))))))) .nil (.cons rfl .nil)) (hfall53 _ (Option.some.inj h))
                          · replace h := cond_f hb59 h
                            refine T_skip ?_
                            refine z_nt ?_
                            refine T_le (le_k (ks := [0, 1, 2, 3, 9, 10, 12, 107, 108, 109, 112, 113, 114, 115, 116, 117, 118, 119, 120, 121, 122, 123, 124]) (bs := []) (gs := [5000]) (ti := []) (.cons rfl (.cons rfl (.cons rfl (.cons rfl (.cons rfl (.cons rfl (.cons rfl (.cons rfl (.cons rfl (.cons rfl (.cons rfl (.cons rfl (.cons rfl (.cons rfl (.cons rfl (.cons rfl (.cons rfl (.cons rfl (.cons rfl (.cons rfl (.cons rfl (.cons rfl (.cons rfl .nil))))))))))))))))))))))) .nil (.cons rfl .nil)) ?_
                            obtain ⟨t60, ht60, h⟩ := bind_some h
                            obtain ⟨t61, ht61, h⟩ := bind_some h
                            obtain ⟨t62, ht62, h⟩ := bind_some h
                            obtain ⟨t63, ht63, h⟩ := bind_some h
                            refine T_drawn hmix (by kernel_rfl) (by kernel_rfl) [some (.g 5000), some (.d (s50.2 : Int)), some (.g 5000), some (.d (s50.2 : Int)), some (.d ((w64 (s50.2 - 1)) : Int)), some (.g 5000), some (.d (s50.2 : Int)), some (.d ((w64 (s50.2 - 1)) : Int)), some (.ge 5000 ((w64 (s50.2 - 1)).toNat * 33 + 0)), some (.d (t60 : Member)), some (.g 5000), some (.d (s50.2 : Int)), some (.ge 5000 (s50.2.toNat * 33 + 0)), some (.d (t61 : Member)), some (.ge 5000 (s50.2.toNat * 33 + 0)), none, some (.ge 5000 ((w64 (s50.2 - 1)).toNat * 33 + 0)), none] [] [(none, some 15, 5000, (⟨39, (s50.1 : List Member)⟩ : GV _)), (some 15, some 17, 5000, (⟨39, ((s50.1.set s50.2.toNat t60) : List Member)⟩ : GV _)), (some 17, none, 5000, (⟨39, (((s50.1.set s50.2.toNat t60).set (w64 (s50.2 - 1)).toNat t61) : List Member)⟩ : GV _))] [] rfl trivial ⟨rfl, trivial⟩ rfl rfl rfl ⟨?_, ?_, ?_, ?_, ?_, ?_, ?_, ?_, ?_, ?_, ?_, ?_, ?_, ?_, ?_, ?_, ?_, ?_, trivial⟩ (Z_le (le_k (ks := [0, 1, 2, 3, 9, 10, 12, 107, 108, 109, 112, 113, 114, 115, 116, 117, 118, 119, 120, 121, 122, 123, 124, 125, 126, 127, 128, 129, 130, 131, 132, 133, 134, 135, 136, 137, 138, 139, 140]) (bs := []) (gs := [5000]) (ti := []) (.cons rfl (.cons rfl (.cons rfl (.cons rfl (.cons rfl (.cons rfl (.cons rfl (.cons rfl (.cons rfl (.cons rfl (.cons rfl (.cons rfl (.cons rfl (.cons rfl (.cons rfl (.cons rfl (.cons rfl (.cons rfl (.cons rfl (.cons rfl (.cons rfl (.cons rfl (.cons rfl (.cons rfl (.cons rfl (.cons rfl (.cons rfl (.cons rfl (.cons rfl (.cons rfl (.cons rfl (.cons rfl (.cons rfl (.cons rfl (.cons rfl (.cons rfl (.cons rfl (.cons rfl (.cons rfl .nil))))))))))))))))))))))))))))))))))))))) .nil (.cons rfl .nil)) ?_)
                            · refine d_put rfl rfl rfl rfl (fun L s' H Q k => ?_)
                              refine TL_y (y_move (e_t (H.p rfl))) ?_
                              exact TL_nil k
                            · refine d_put rfl rfl offs_d rfl (fun L s' H Q k => ?_)
                              refine TL_y (y_move (e_t (H.p rfl))) ?_
                              exact TL_nil k
                            · refine d_put rfl rfl rfl rfl (fun L s' H Q k => ?_)
                              refine TL_y (y_move (e_t (H.p rfl))) ?_
                              exact TL_nil k
                            · refine d_put rfl rfl offs_d rfl (fun L s' H Q k => ?_)
                              refine TL_y (y_move (e_t (H.p rfl))) ?_
                              exact TL_nil k
                            · refine d_put rfl rfl offs_d rfl (fun L s' H Q k => ?_)
                              refine TL_y (y_sub (e_t (H.t 3 rfl)) (e_i (1))) ?_
                              exact TL_nil k
                            · refine d_put rfl rfl rfl rfl (fun L s' H Q k => ?_)
                              refine TL_y (y_move (e_t (H.p rfl))) ?_
                              exact TL_nil k
                            · refine d_put rfl rfl offs_d rfl (fun L s' H Q k => ?_)
                              refine TL_y (y_move (e_t (H.p rfl))) ?_
                              exact TL_nil k
                            · refine d_put rfl rfl offs_d rfl (fun L s' H Q k => ?_)
                              refine TL_y (y_sub (e_t (H.t 6 rfl)) (e_i (1))) ?_
                              exact TL_nil k
                            · refine d_put rfl rfl rfl rfl (fun L s' H Q k => ?_)
                              refine TL_y (y_index_ge (e_t (H.t 5 rfl)) (e_t (H.t 7 rfl)) (H.g 0 rfl) (ix_some ht60).1 (ix_lt ht60) tysl28) ?_
                              exact TL_nil k
                            · refine d_put rfl rfl offs_d rfl (fun L s' H Q k => ?_)
                              refine TL_load_ge (i := (w64 (s50.2 - 1)).toNat) (off := 0) (e_t (H.t 8 rfl)) (H.g 0 rfl) (ix_some ht60).2 Sub.self ty39 ?_
                              exact TL_nil k
                            · refine d_put rfl rfl rfl rfl (fun L s' H Q k => ?_)
                              refine TL_y (y_move (e_t (H.p rfl))) ?_
                              exact TL_nil k
                            · refine d_put rfl rfl offs_d rfl (fun L s' H Q k => ?_)
                              refine TL_y (y_move (e_t (H.p rfl))) ?_
                              exact TL_nil k
                            · refine d_put rfl rfl rfl rfl (fun L s' H Q k => ?_)
                              refine TL_y (y_index_ge (e_t (H.t 10 rfl)) (e_t (H.t 11 rfl)) (H.g 0 rfl) (ix_some ht61).1 (ix_lt ht61) tysl28) ?_
                              exact TL_nil k
                            · refine d_put rfl rfl offs_d rfl (fun L s' H Q k => ?_)
                              refine TL_load_ge (i := s50.2.toNat) (off := 0) (e_t (H.t 12 rfl)) (H.g 0 rfl) (ix_some ht61).2 Sub.self ty39 ?_
                              exact TL_nil k
                            · refine d_put rfl rfl rfl rfl (fun L s' H Q k => ?_)
                              refine TL_y (y_index_ge (e_t (H.t 0 rfl)) (e_t (H.t 1 rfl)) (H.g 0 rfl) (ix_some ht62).1 (ix_lt ht62) tysl28) ?_
                              exact TL_nil k
                            · refine d_rstore rfl rfl rfl rfl rfl (fun L s' H Q k => ?_)
                              refine TL_store_ge (i := s50.2.toNat) (e_t (H.t 14 rfl)) (H.g 0 rfl) (ix_lt ht62) (e_t (H.t 9 rfl)) ty39 ?_
                              exact TL_nil k
                            · refine d_put rfl rfl rfl rfl (fun L s' H Q k => ?_)
                              refine TL_y (y_index_ge (e_t (H.t 2 rfl)) (e_t (H.t 4 rfl)) (H.g 1 rfl) (ix_some ht63).1 (ix_lt ht63) tysl28) ?_
                              exact TL_nil k
                            · refine d_rstore rfl rfl rfl rfl rfl (fun L s' H Q k => ?_)
                              refine TL_store_ge (i := (w64 (s50.2 - 1)).toNat) (e_t (H.t 16 rfl)) (H.g 1 rfl) (ix_lt ht63) (e_t (H.t 13 rfl)) ty39 ?_
                              exact TL_nil k
                            refine z_nb ?_
                            refine z_nt ?_
                            refine T_region ?_
                            refine TL_y (y_move (e_t rfl)) ?_
                            refine TL_y (y_add (e_t rfl) (e_i (1))) ?_
                            refine TL_y (y_assign (e_t rfl)) ?_
                            refine TL_nil ?_
                            refine z_nl ?_
                            exact TW_le (le_k (ks := [0, 1, 2, 3, 9, 10, 12]) (bs := []) (gs := [5000]) (.cons rfl (.cons rfl (.cons rfl (.cons rfl (.cons rfl (.cons rfl (.cons rfl .nil))))))) .nil (.cons rfl .nil)) (ih _ h)
                        · replace h := cond_f hb55 h
                          refine T_exit ?_
                          refine z_et ?_
                          refine z_et ?_
                          refine z_ei ?_
                          exact Z_le (le_k (ks := [0, 1, 2, 3, 9, 10, 12]) (bs := []) (gs := [5000]) (.cons rfl (.cons rfl (.cons rfl (.cons rfl (.cons rfl (.cons rfl (.cons rfl .nil))))))) .nil (.cons rfl .nil)) (hfall53 _ (Option.some.inj h))
                  · replace h := cond_f hb49 h
                    refine T_skip ?_
                    refine z_nb ?_
                    exact Z_le (le_k (ks := [0, 1, 2, 3, 9, 10]) (bs := []) (gs := [5000]) (.cons rfl (.cons rfl (.cons rfl (.cons rfl (.cons rfl (.cons rfl .nil)))))) .nil (.cons rfl .nil)) (hfall9 _ (Option.some.inj h).symm)
                · clear h
                  have h := hs31
                  refine T_seq ?_
                  refine T_region ?_
                  refine TL_y (y_move (e_t rfl)) ?_
                  refine TL_y (y_move (e_t rfl)) ?_
                  refine TL_y (y_sub (e_t rfl) (e_t rfl)) ?_
                  refine TL_y (y_geq (e_t rfl) (e_i (2))) ?_
                  refine TL_nil ?_
                  refine z_nt ?_
                  refine T_cond rfl (fun hb34 => ?_) (fun hb34 => ?_)
                  · replace h := cond_t hb34 h
                    refine T_seq ?_
                    refine T_region ?_
                    refine TL_y (y_move (e_t rfl)) ?_
                    refine TL_y (y_sub (e_t rfl) (e_i (1))) ?_
                    refine TL_y (y_assign (e_t rfl)) ?_
                    refine TL_nil ?_
                    refine z_nt ?_
                    obtain ⟨o37, ho37, h⟩ := bind_some h
                    refine T_loopin (S := fun (s35 : (List Member) × Int) => ⟨[(0, .g 5000), (1, .d (a1 : Int)), (2, .d (a2 : Int)), (3, .d (a3 : (Fn2 Member Member Int))), (9, .d (s11 : Int)), (10, .d (s1.2.2 : Int)), (11, .d (s35.2 : Int))], ⟨[], [(5000, ⟨39, (s35.1 : List Member)⟩)], []⟩⟩) (fun z => z = o37) (fun s35 e => ?_) (fun hfall38 => ?_)
                    · subst e
                      exact Z_le (le_k (ks := [0, 1, 2, 3, 9, 10]) (bs := []) (gs := [5000]) (.cons rfl (.cons rfl (.cons rfl (.cons rfl (.cons rfl (.cons rfl .nil)))))) .nil (.cons rfl .nil)) (hfall32 _ (Option.some.inj h).symm)
                    · clear h
                      refine TW_le (le_k (ks := [0, 1, 2, 3, 9, 10, 11]) (bs := []) (gs := [5000]) (.cons rfl (.cons rfl (.cons rfl (.cons rfl (.cons rfl (.cons rfl (.cons rfl .nil))))))) .nil (.cons rfl .nil)) (fuel_ind (fun (s35 : (List Member) × Int) => ⟨[(0, .g 5000), (1, .d (a1 : Int)), (2, .d (a2 : Int)), (3, .d (a3 : (Fn2 Member Member Int))), (9, .d (s11 : Int)), (10, .d (s1.2.2 : Int)), (11, .d (s35.2 : Int))], ⟨[], [(5000, ⟨39, (s35.1 : List Member)⟩)], []⟩⟩) (fun k s => sl_partialInsertionSortCmpFunc_Member_l2 a3 k s = some o37) ?_ ?_ _ (((s1.1.set s11.toNat t27).set (w64 (s11 - 1)).toNat t28), (w64 (s11 - 1))) ho37)
                      · intro s h
                        cases h
                      · intro ks35 s35 ih h
                        replace h : ((bif (decide (1 ≤ s35.2)) then (ix s35.1 s35.2).bind fun t41 => (ix s35.1 (w64 (s35.2 - 1))).bind fun t42 => (a3.f t41 t42).bind fun t43 => (bif (!(decide (t43 < 0))) then some (s35.1, s35.2) else (ix s35.1 (w64 (s35.2 - 1))).bind fun t45 => (ix s35.1 s35.2).bind fun t46 => (ix s35.1 s35.2).bind fun t47 => (ix (s35.1.set s35.2.toNat t45) (w64 (s35.2 - 1))).bind fun t48 => sl_partialInsertionSortCmpFunc_Member_l2 a3 ks35 (((s35.1.set s35.2.toNat t45).set (w64 (s35.2 - 1)).toNat t46), (w64 (s35.2 - 1)))) else some (s35.1, s35.2))) = some o37 := h
                        refine TW_round ?_
                        refine T_seq ?_
                        refine T_seq ?_
                        refine T_region ?_
                        refine TL_y (y_move (e_t rfl)) ?_
                        refine TL_y (y_geq (e_t rfl) (e_i (1))) ?_
                        refine TL_nil ?_
                        refine z_nt ?_
                        refine T_cond rfl (fun hb40 => ?_) (fun hb40 => ?_)
                        · replace h := cond_t hb40 h
                          refine T_skip ?_
                          refine z_nt ?_
                          refine T_seq ?_
                          refine T_block ?_
                          refine T_seq ?_
                          refine T_seq ?_
                          refine T_draw hmix (by kernel_rfl) ?_
                          refine TQ_y (y_move (e_t rfl)) ?_
                          refine TQ_y (y_move (e_t rfl)) ?_
                          refine TQ_y (y_move (e_t rfl)) ?_
                          obtain ⟨t41, ht41, h⟩ := bind_some h
                          refine TQ_y (y_index_ge (e_t rfl) (e_t rfl) rfl (ix_some ht41).1 (ix_lt ht41) tysl28) ?_
                          refine TQ_y (y_load_ge (i := s35.2.toNat) (off := 0) (e_t rfl) rfl (ix_some ht41).2 Sub.self ty39) ?_
                          refine TQ_y (y_move (e_t rfl)) ?_
                          refine TQ_y (y_move (e_t rfl)) ?_
                          refine TQ_y (y_sub (e_t rfl) (e_i (1))) ?_
                          obtain ⟨t42, ht42, h⟩ := bind_some h
                          refine TQ_y (y_index_ge (e_t rfl) (e_t rfl) rfl (ix_some ht42).1 (ix_lt ht42) tysl28) ?_
                          refine TQ_y (y_load_ge (i := (w64 (s35.2 - 1)).toNat) (off := 0) (e_t rfl) rfl (ix_some ht42).2 Sub.self ty39) ?_
                          obtain ⟨t43, ht43, h⟩ := bind_some h
                          refine TQ_y (y_callv2 (e_t rfl) (e_t rfl) (e_t rfl) ht43) ?_
                          refine TQ_y (y_lss (e_t rfl) (e_i (0))) ?_
                          refine TQ_y (y_not (e_t rfl)) ?_
                          refine TQ_nil ?_
                          refine z_nt ?_
                          refine T_cond rfl (fun hb44 => ?_) (fun hb44 => ?_)
                          · replace h := cond_t hb44 h
                            refine T_exit ?_
                            refine z_et ?_
                            refine z_eo ?_
                            refine z_et ?_
                            refine z_et ?_
                            refine z_ei ?_
                            exact Z_le (le_k (ks := [0, 1, 2, 3, 9, 10, 11]) (bs := []) (gs := [5000]) (.cons rfl (.cons rfl (.cons rfl (.cons rfl (.cons rfl (.cons rfl (.cons rfl .nil))))))) .nil (.cons rfl .nil)) (hfall38 _ (Option.some.inj h))
                          · replace h := cond_f hb44 h
                            refine T_skip ?_
                            refine z_nt ?_
                            refine T_le (le_k (ks := [0, 1, 2, 3, 9, 10, 11, 68, 69, 72, 73, 74, 75, 76, 77, 78, 79, 80, 81, 82, 83, 84]) (bs := []) (gs := [5000]) (ti := []) (.cons rfl (.cons rfl (.cons rfl (.cons rfl (.cons rfl (.cons rfl (.cons rfl (.cons rfl (.cons rfl (.cons rfl (.cons rfl (.cons rfl (.cons rfl (.cons rfl (.cons rfl (.cons rfl (.cons rfl (.cons rfl (.cons rfl (.cons rfl (.cons rfl (.cons rfl .nil)))))))))))))))))))))) .nil (.cons rfl .nil)) ?_
                            obtain ⟨t45, ht45, h⟩ := bind_some h
                            obtain ⟨t46, ht46, h⟩ := bind_some h
                            obtain ⟨t47, ht47, h⟩ := bind_some h
                            obtain ⟨t48, ht48, h⟩ := bind_some h
                            refine T_drawn hmix (by kernel_rfl) (by kernel_rfl) [some (.g 5000), some (.d (s35.2 : Int)), some (.g 5000), some (.d (s35.2 : Int)), some (.d ((w64 (s35.2 - 1)) : Int)), some (.g 5000), some (.d (s35.2 : Int)), some (.d ((w64 (s35.2 - 1)) : Int)), some (.ge 5000 ((w64 (s35.2 - 1)).toNat * 33 + 0)), some (.d (t45 : Member)), some (.g 5000), some (.d (s35.2 : Int)), some (.ge 5000 (s35.2.toNat * 33 + 0)), some (.d (t46 : Member)), some (.ge 5000 (s35.2.toNat * 33 + 0)), none, some (.ge 5000 ((w64 (s35.2 - 1)).toNat * 33 + 0)), none] [] [(none, some 15, 5000, (⟨39, (s35.1 : List Member)⟩ : GV _)), (some 15, some 17, 5000, (⟨39, ((s35.1.set s35.2.toNat t45) : List Member)⟩ : GV _)), (some 17, none, 5000, (⟨39, (((s35.1.set s35.2.toNat t45).set (w64 (s35.2 - 1)).toNat t46) : List Member)⟩ : GV _))] [] rfl trivial ⟨rfl, trivial⟩ rfl rfl rfl ⟨?_, ?_, ?_, ?_, ?_, ?_, ?_, ?_, ?_, ?_, ?_, ?_, ?_, ?_, ?_, ?_, ?_, ?_, trivial⟩ (Z_le (le_k (ks := [0, 1, 2, 3, 9, 10, 11, 68, 69, 72, 73, 74, 75, 76, 77, 78, 79, 80, 81, 82, 83, 84, 85, 86, 87, 88, 89, 90, 91, 92, 93, 94, 95, 96, 97, 98, 99, 100]) (bs := []) (gs := [5000]) (ti := []) (.cons rfl (.cons rfl (.cons rfl (.cons rfl (.cons rfl (.cons rfl (.cons rfl (.cons rfl (.cons rfl (.cons rfl (.cons rfl (.cons rfl (.cons rfl (.cons rfl (.cons rfl (.cons rfl (.cons rfl (.cons rfl (.cons rfl (.cons rfl (.cons rfl (.cons rfl (.cons rfl (.cons rfl (.cons rfl (.cons rfl (.cons rfl (.cons rfl (.cons rfl (.cons rfl (.cons rfl (.cons rfl (.cons rfl (.cons rfl (.cons rfl (.cons rfl (.cons rfl (.cons rfl .nil)))))))))))))))))))))))))))))))))))))) .nil (.cons rfl .nil)) ?_)
                            · refine d_put rfl rfl rfl rfl (fun L s' H Q k => ?_)
                              refine TL_y (y_move (e_t (H.p rfl))) ?_
                              exact TL_nil k
                            · refine d_put rfl rfl offs_d rfl (fun L s' H Q k => ?_)
                              refine TL_y (y_move (e_t (H.p rfl))) ?_
                              exact TL_nil k
                            · refine d_put rfl rfl rfl rfl (fun L s' H Q k => ?_)
                              refine TL_y (y_move (e_t (H.p rfl))) ?_
                              exact TL_nil k
                            · refine d_put rfl rfl offs_d rfl (fun L s' H Q k => ?_)
                              refine TL_y (y_move (e_t (H.p rfl))) ?_
                              exact TL_nil k
                            · refine d_put rfl rfl offs_d rfl (fun L s' H Q k => ?_)
                              refine TL_y (y_sub (e_t (H.t 3 rfl)) (e_i (1))) ?_
                              exact TL_nil k
                            · refine d_put rfl rfl rfl rfl (fun L s' H Q k => ?_)
                              refine TL_y (y_move (e_t (H.p rfl))) ?_
                              exact TL_nil k
                            · refine d_put rfl rfl offs_d rfl (fun L s' H Q k => ?_)
                              refine TL_y (y_move (e_t (H.p rfl))) ?_
                              exact TL_nil k
                            · refine d_put rfl rfl offs_d rfl (fun L s' H Q k => ?_)
                              refine TL_y (y_sub (e_t (H.t 6 rfl)) (e_i (1))) ?_
                              exact TL_nil k
                            · refine d_put rfl rfl rfl rfl (fun L s' H Q k => ?_)
                              refine TL_y (y_index_ge (e_t (H.t 5 rfl)) (e_t (H.t 7 rfl)) (H.g 0 rfl) (ix_some ht45).1 (ix_lt ht45) tysl28) ?_
                              exact TL_nil k
                            · refine d_put rfl rfl offs_d rfl (fun L s' H Q k => ?_)
                              refine TL_load_ge (i := (w64 (s35.2 - 1)).toNat) (off := 0) (e_t (H.t 8 rfl)) (H.g 0 rfl) (ix_some ht45).2 Sub.self ty39 ?_
                              exact TL_nil k
                            · refine d_put rfl rfl rfl rfl (fun L s' H Q k => ?_)
                              refine TL_y (y_move (e_t (H.p rfl))) ?_
                              exact TL_nil k
                            · refine d_put rfl rfl offs_d rfl (fun L s' H Q k => ?_)
                              refine TL_y (y_move (e_t (H.p rfl))) ?_
                              exact TL_nil k
                            · refine d_put rfl rfl rfl rfl (fun L s' H Q k => ?_)
                              refine TL_y (y_index_ge (e_t (H.t 10 rfl)) (e_t (H.t 11 rfl)) (H.g 0 rfl) (ix_some ht46).1 (ix_lt ht46) tysl28) ?_
                              exact TL_nil k
                            · refine d_put rfl rfl offs_d rfl (fun L s' H Q k => ?_)
                              refine TL_load_ge (i := s35.2.toNat) (off := 0) (e_t (H.t 12 rfl)) (H.g 0 rfl) (ix_some ht46).2 Sub.self ty39 ?_
                              exact TL_nil k
                            · refine d_put rfl rfl rfl rfl (fun L s' H Q k => ?_)
                              refine TL_y (y_index_ge (e_t (H.t 0 rfl)) (e_t (H.t 1 rfl)) (H.g 0 rfl) (ix_some ht47).1 (ix_lt ht47) tysl28) ?_
                              exact TL_nil k
                            · refine d_rstore rfl rfl rfl rfl rfl (fun L s' H Q k => ?_)
                              refine TL_store_ge (i := s35.2.toNat) (e_t (H.t 14 rfl)) (H.g 0 rfl) (ix_lt ht47) (e_t (H.t 9 rfl)) ty39 ?_
                              exact TL_nil k
                            · refine d_put rfl rfl rfl rfl (fun L s' H Q k => ?_)
                              refine TL_y (y_index_ge (e_t (H.t 2 rfl)) (e_t (H.t 4 rfl)) (H.g 1 rfl) (ix_some ht48).1 (ix_lt ht48) tysl28) ?_
                              exact TL_nil k
                            · refine d_rstore rfl rfl rfl rfl rfl (fun L s' H Q k => ?_)
                              refine TL_store_ge (i := (w64 (s35.2 - 1)).toNat) (e_t (H.t 16 rfl)) (H.g 1 rfl) (ix_lt ht48) (e_t (H.t 13 rfl)) ty39 ?_
                              exact TL_nil k
                            refine z_nb ?_
                            refine z_nt ?_
                            refine T_region ?_
                            refine TL_y (y_move (e_t rfl)) ?_
                            refine TL_y (y_sub (e_t rfl) (e_i (1))) ?_
                            refine TL_y (y_assign (e_t rfl)) ?_
                            refine TL_nil ?_
                            refine z_nl ?_
                            exact TW_le (le_k (ks := [0, 1, 2, 3, 9, 10, 11]) (bs := []) (gs := [5000]) (.cons rfl (.cons rfl (.cons rfl (.cons rfl (.cons rfl (.cons rfl (.cons rfl .nil))))))) .nil (.cons rfl .nil)) (ih _ h)
                        · replace h := cond_f hb40 h
                          refine T_exit ?_
                          refine z_et ?_
                          refine z_et ?_
                          refine z_ei ?_
                          exact Z_le (le_k (ks := [0, 1, 2, 3, 9, 10, 11]) (bs := []) (gs := [5000]) (.cons rfl (.cons rfl (.cons rfl (.cons rfl (.cons rfl (.cons rfl (.cons rfl .nil))))))) .nil (.cons rfl .nil)) (hfall38 _ (Option.some.inj h))
                  · replace h := cond_f hb34 h
                    refine T_skip ?_
                    exact Z_le (le_k (ks := [0, 1, 2, 3, 9, 10]) (bs := []) (gs := [5000]) (.cons rfl (.cons rfl (.cons rfl (.cons rfl (.cons rfl (.cons rfl .nil)))))) .nil (.cons rfl .nil)) (hfall32 _ (Option.some.inj h).symm)
          · clear h
            refine TW_le (le_k (ks := [0, 1, 2, 3, 9, 10]) (bs := []) (gs := [5000]) (.cons rfl (.cons rfl (.cons rfl (.cons rfl (.cons rfl (.cons rfl .nil)))))) .nil (.cons rfl .nil)) (fuel_ind (fun (s11 : Int) => ⟨[(0, .g 5000), (1, .d (a1 : Int)), (2, .d (a2 : Int)), (3, .d (a3 : (Fn2 Member Member Int))), (9, .d (s11 : Int)), (10, .d (s1.2.2 : Int))], ⟨[], [(5000, ⟨39, (s1.1 : List Member)⟩)], []⟩⟩) (fun k s => sl_partialInsertionSortCmpFunc_Member_l1 a2 s1 a3 k s = some o13) ?_ ?_ _ s1.2.1 ho13)
            · intro s h
              cases h
            · intro ks11 s11 ih h
              replace h : (((bif (decide (s11 < a2)) then (ix s1.1 s11).bind fun t21 => (ix s1.1 (w64 (s11 - 1))).bind fun t22 => (a3.f t21 t22).bind fun t23 => some (!(decide (t23 < 0))) else some false)).bind fun t20 => (bif t20 then sl_partialInsertionSortCmpFunc_Member_l1 a2 s1 a3 ks11 (w64 (s11 + 1)) else some s11)) = some o13 := h
              refine TW_round ?_
              refine T_seq ?_
              refine T_seq ?_
              refine T_draw hmix (by kernel_rfl) ?_
              refine TQ_y (y_move (e_t rfl)) ?_
              refine TQ_y (y_move (e_t rfl)) ?_
              refine TQ_y (y_lss (e_t rfl) (e_t rfl)) ?_
              refine TQ_y (y_move (e_t rfl)) ?_
              obtain ⟨t20, ht20, h⟩ := bind_some h
              refine TQ_cut 14 36 (r := t20) (decide (s11 < a2)) ?_ (fun hb16 hk => ?_) (fun hb16 hk => ?_)
              rotate_left
              · replace h := cond_t hb16 ht20
                refine TQ_want rfl hb16 ?_
                refine TQ_y (y_move (e_t rfl)) ?_
                refine TQ_want rfl hb16 ?_
                refine TQ_y (y_move (e_t rfl)) ?_
                refine TQ_want rfl hb16 ?_
                refine TQ_y (y_move (e_t rfl)) ?_
                refine TQ_want rfl hb16 ?_
                obtain ⟨t21, ht21, h⟩ := bind_some h
                refine TQ_y (y_index_ge (e_t rfl) (e_t rfl) rfl (ix_some ht21).1 (ix_lt ht21) tysl28) ?_
                refine TQ_want rfl hb16 ?_
                refine TQ_y (y_load_ge (i := s11.toNat) (off := 0) (e_t rfl) rfl (ix_some ht21).2 Sub.self ty39) ?_
                refine TQ_want rfl hb16 ?_
                refine TQ_y (y_move (e_t rfl)) ?_
                refine TQ_want rfl hb16 ?_
                refine TQ_y (y_move (e_t rfl)) ?_
                refine TQ_want rfl hb16 ?_
                refine TQ_y (y_sub (e_t rfl) (e_i (1))) ?_
                refine TQ_want rfl hb16 ?_
                obtain ⟨t22, ht22, h⟩ := bind_some h
                refine TQ_y (y_index_ge (e_t rfl) (e_t rfl) rfl (ix_some ht22).1 (ix_lt ht22) tysl28) ?_
                refine TQ_want rfl hb16 ?_
                refine TQ_y (y_load_ge (i := (w64 (s11 - 1)).toNat) (off := 0) (e_t rfl) rfl (ix_some ht22).2 Sub.self ty39) ?_
                refine TQ_want rfl hb16 ?_
                obtain ⟨t23, ht23, h⟩ := bind_some h
                refine TQ_y (y_callv2 (e_t rfl) (e_t rfl) (e_t rfl) ht23) ?_
                refine TQ_want rfl hb16 ?_
                refine TQ_y (y_lss (e_t rfl) (e_i (0))) ?_
                refine TQ_want rfl hb16 ?_
                refine TQ_y (y_not (e_t rfl)) ?_
                obtain rfl := Option.some.inj h
                refine TQ_y (y_pick_t (e_t rfl) hb16 (e_t rfl)) ?_
                exact TQ_fr hk (.cons (.cons (.cons (.cons (.cons (.cons (.cons (.cons (.cons (.cons (.cons (.cons (.cons (.refl _) rfl) rfl) rfl) rfl) rfl) rfl) rfl) rfl) rfl) rfl) rfl) rfl) rfl)
              · obtain rfl := Option.some.inj (cond_f hb16 ht20)
                refine TQ_skip0 rfl hb16 ?_
                refine TQ_skip0 rfl hb16 ?_
                refine TQ_skip0 rfl hb16 ?_
                refine TQ_skip0 rfl hb16 ?_
                refine TQ_skip0 rfl hb16 ?_
                refine TQ_skip0 rfl hb16 ?_
                refine TQ_skip0 rfl hb16 ?_
                refine TQ_skip0 rfl hb16 ?_
                refine TQ_skip0 rfl hb16 ?_
                refine TQ_skip0 rfl hb16 ?_
                refine TQ_skip0 rfl hb16 ?_
                refine TQ_skip0 rfl hb16 ?_
                refine TQ_skip0 rfl hb16 ?_
                refine TQ_y (y_pick_f (e_t rfl) hb16 (e_b false)) ?_
                exact TQ_fr hk (.refl _)
              refine TQ_nil ?_
              refine z_nt ?_
              refine T_cond rfl (fun hb24 => ?_) (fun hb24 => ?_)
              · replace h := cond_t hb24 h
                refine T_skip ?_
                refine z_nt ?_
                refine T_block ?_
                refine T_region ?_
                refine TL_y (y_move (e_t rfl)) ?_
                refine TL_y (y_add (e_t rfl) (e_i (1))) ?_
                refine TL_y (y_assign (e_t rfl)) ?_
                refine TL_nil ?_
                refine z_nb ?_
                refine z_nl ?_
                exact TW_le (le_k (ks := [0, 1, 2, 3, 9, 10]) (bs := []) (gs := [5000]) (.cons rfl (.cons rfl (.cons rfl (.cons rfl (.cons rfl (.cons rfl .nil)))))) .nil (.cons rfl .nil)) (ih _ h)
              · replace h := cond_f hb24 h
                refine T_exit ?_
                refine z_et ?_
                refine z_et ?_
                refine z_ei ?_
                exact Z_le (le_k (ks := [0, 1, 2, 3, 9, 10]) (bs := []) (gs := [5000]) (.cons rfl (.cons rfl (.cons rfl (.cons rfl (.cons rfl (.cons rfl .nil)))))) .nil (.cons rfl .nil)) (hfall14 _ (Option.some.inj h))
      · replace h := cond_f hb6 h
        refine T_exit ?_
        refine z_et ?_
        refine z_et ?_
        refine z_ei ?_
        exact Z_le (le_k (ks := [0, 9, 10]) (bs := []) (gs := [5000]) (.cons rfl (.cons rfl (.cons rfl .nil))) .nil (.cons rfl .nil)) (hfall4 _ (Option.some.inj h).symm)
end Go.Ph
set_option maxRecDepth 4000
set_option maxHeartbeats 4000000
namespace Go.Ph
open Go.Proofs
def sl_partitionEqualCmpFunc_Member_l2 (s10 : Int) (s5 : (List Member) × Int × Int) (a1 : Int) (a4 : (Fn2 Member Member Int)) : Nat → Int → Option (Int)
  | 0, _ => none
  | ks24 + 1, s24 => ((bif (decide (s10 ≤ s24)) then (ix s5.1 a1).bind fun t34 => (ix s5.1 s24).bind fun t35 => (a4.f t34 t35).bind fun t36 => some (decide (t36 < 0)) else some false)).bind fun t33 => (bif t33 then sl_partitionEqualCmpFunc_Member_l2 s10 s5 a1 a4 ks24 (w64 (s24 - 1)) else some s24)
def sl_partitionEqualCmpFunc_Member_l1 (s5 : (List Member) × Int × Int) (a1 : Int) (a4 : (Fn2 Member Member Int)) : Nat → Int → Option (Int)
  | 0, _ => none
  | ks10 + 1, s10 => ((bif (decide (s10 ≤ s5.2.2)) then (ix s5.1 a1).bind fun t20 => (ix s5.1 s10).bind fun t21 => (a4.f t20 t21).bind fun t22 => some (!(decide (t22 < 0))) else some false)).bind fun t19 => (bif t19 then sl_partitionEqualCmpFunc_Member_l1 s5 a1 a4 ks10 (w64 (s10 + 1)) else some s10)
def sl_partitionEqualCmpFunc_Member_l0 (a1 : Int) (a4 : (Fn2 Member Member Int)) : Nat → (List Member) × Int × Int → Option ((List Member) × Int × Int)
  | 0, _ => none
  | ks5 + 1, s5 => ((sl_partitionEqualCmpFunc_Member_l1 s5 a1 a4 FUEL s5.2.1).bind fun s10 => ((sl_partitionEqualCmpFunc_Member_l2 s10 s5 a1 a4 FUEL s5.2.2).bind fun s24 => (bif (decide (s24 < s10)) then some (s5.1, s10, s24) else (ix s5.1 s24).bind fun t39 => (ix s5.1 s10).bind fun t40 => (ix s5.1 s10).bind fun t41 => (ix (s5.1.set s10.toNat t39) s24).bind fun t42 => sl_partitionEqualCmpFunc_Member_l0 a1 a4 ks5 (((s5.1.set s10.toNat t39).set s24.toNat t40), (w64 (s10 + 1)), (w64 (s24 - 1))))))
def sl_partitionEqualCmpFunc_Member (a0 : (List Member)) (a1 : Int) (a2 : Int) (a3 : Int) (a4 : (Fn2 Member Member Int)) : Option (Int × (List Member)) := (ix a0 a3).bind fun t1 => (ix a0 a1).bind fun t2 => (ix a0 a1).bind fun t3 => (ix (a0.set a1.toNat t1) a3).bind fun t4 => ((sl_partitionEqualCmpFunc_Member_l0 a1 a4 FUEL (((a0.set a1.toNat t1).set a3.toNat t2), (w64 (a1 + 1)), (w64 (a2 - 1)))).bind fun s5 => some (s5.2.1, s5.1))
theorem sl_partitionEqualCmpFunc_Member_ok {a0 : (List Member)} {a1 : Int} {a2 : Int} {a3 : Int} {a4 : (Fn2 Member Member Int)} {r : (Int × (List Member))} (h : sl_partitionEqualCmpFunc_Member a0 a1 a2 a3 a4 = some r) : FnL Try.prog 128 [.g 5000, .d a1, .d a2, .d a3, .d a4] ⟨[], [(5000, ⟨39, (a0 : List Member)⟩)], []⟩ (.d r.1) ⟨[], [(5000, ⟨39, (r.2 : List Member)⟩)], []⟩ [] [5000] := by
  refine FnL.of Try.func128 rfl fun w m S0 β γ => ?_
  unfold sl_partitionEqualCmpFunc_Member at h
  refine T_seq ?_
  refine T_region ?_
  refine TL_y (y_assign (e_i (0))) ?_
  refine TL_nil ?_
  refine z_nt ?_
  refine T_seq ?_
  refine T_le (le_k (ks := [0, 1, 2, 3, 4, 10]) (bs := []) (gs := [5000]) (ti := []) (.cons rfl (.cons rfl (.cons rfl (.cons rfl (.cons rfl (.cons rfl .nil)))))) .nil (.cons rfl .nil)) ?_
  obtain ⟨t1, ht1, h⟩ := bind_some h
  obtain ⟨t2, ht2, h⟩ := bind_some h
  obtain ⟨t3, ht3, h⟩ := bind_some h
  obtain ⟨t4, ht4, h⟩ := bind_some h
  refine T_drawn hmix (by kernel_rfl) (by kernel_rfl) [some (.g 5000), some (.d (a1 : Int)), some (.g 5000), some (.d (a3 : Int)), some (.g 5000), some (.d (a3 : Int)), some (.ge 5000 (a3.toNat * 33 + 0)), some (.d (t1 : Member)), some (.g 5000), some (.d (a1 : Int)), some (.ge 5000 (a1.toNat * 33 + 0)), some (.d (t2 : Member)), some (.ge 5000 (a1.toNat * 33 + 0)), none, some (.ge 5000 (a3.toNat * 33 + 0)), none] [] [(none, some 13, 5000, (⟨39, (a0 : List Member)⟩ : GV _)), (some 13, some 15, 5000, (⟨39, ((a0.set a1.toNat t1) : List Member)⟩ : GV _)), (some 15, none, 5000, (⟨39, (((a0.set a1.toNat t1).set a3.toNat t2) : List Member)⟩ : GV _))] [] rfl trivial ⟨rfl, trivial⟩ rfl rfl rfl ⟨?_, ?_, ?_, ?_, ?_, ?_, ?_, ?_, ?_, ?_, ?_, ?_, ?_, ?_, ?_, ?_, trivial⟩ (Z_le (le_k (ks := [0, 1, 2, 3, 4, 10, 13, 14, 15, 16, 17, 18, 19, 20, 21, 22, 23, 24, 25, 26]) (bs := []) (gs := [5000]) (ti := []) (.cons rfl (.cons rfl (.cons rfl (.cons rfl (.cons rfl (.cons rfl (.cons rfl (.cons rfl (.cons rfl (.cons rfl (.cons rfl (.cons rfl (.cons rfl (.cons rfl (.cons rfl (.cons rfl (.cons rfl (.cons rfl (.cons rfl (.cons rfl .nil)))))))))))))))))))) .nil (.cons rfl .nil)) ?_)
  · refine d_put rfl rfl rfl rfl (fun L s' H Q k => ?_)
    refine TL_y (y_move (e_t (H.p rfl))) ?_
    exact TL_nil k
  · refine d_put rfl rfl offs_d rfl (fun L s' H Q k => ?_)
    refine TL_y (y_move (e_t (H.p rfl))) ?_
    exact TL_nil k
  · refine d_put rfl rfl rfl rfl (fun L s' H Q k => ?_)
    refine TL_y (y_move (e_t (H.p rfl))) ?_
    exact TL_nil k
  · refine d_put rfl rfl offs_d rfl (fun L s' H Q k => ?_)
    refine TL_y (y_move (e_t (H.p rfl))) ?_
    exact TL_nil k
  · refine d_put rfl rfl rfl rfl (fun L s' H Q k => ?_)
    refine TL_y (y_move (e_t (H.p rfl))) ?_
    exact TL_nil k
  · refine d_put rfl rfl offs_d rfl (fun L s' H Q k => ?_)
    refine TL_y (y_move (e_t (H.p rfl))) ?_
    exact TL_nil k
  · refine d_put rfl rfl rfl rfl (fun L s' H Q k => ?_)
    refine TL_y (y_index_ge (e_t (H.t 4 rfl)) (e_t (H.t 5 rfl)) (H.g 0 rfl) (ix_some ht1).1 (ix_lt ht1) tysl28) ?_
    exact TL_nil k
  · refine d_put rfl rfl offs_d rfl (fun L s' H Q k => ?_)
    refine TL_load_ge (i := a3.toNat) (off := 0) (e_t (H.t 6 rfl)) (H.g 0 rfl) (ix_some ht1).2 Sub.self ty39 ?_
    exact TL_nil k
  · refine d_put rfl rfl rfl rfl (fun L s' H Q k => ?_)
    refine TL_y (y_move (e_t (H.p rfl))) ?_
    exact TL_nil k
  · refine d_put rfl rfl offs_d rfl (fun L s' H Q k => ?_)
    refine TL_y (y_move (e_t (H.p rfl))) ?_
    exact TL_nil k
  · refine d_put rfl rfl rfl rfl (fun L s' H Q k => ?_)
    refine TL_y (y_index_ge (e_t (H.t 8 rfl)) (e_t (H.t 9 rfl)) (H.g 0 rfl) (ix_some ht2).1 (ix_lt ht2) tysl28) ?_
    exact TL_nil k
  · refine d_put rfl rfl offs_d rfl (fun L s' H Q k => ?_)
    refine TL_load_ge (i := a1.toNat) (off := 0) (e_t (H.t 10 rfl)) (H.g 0 rfl) (ix_some ht2).2 Sub.self ty39 ?_
    exact TL_nil k
  · refine d_put rfl rfl rfl rfl (fun L s' H Q k => ?_)
    refine TL_y (y_index_ge (e_t (H.t 0 rfl)) (e_t (H.t 1 rfl)) (H.g 0 rfl) (ix_some ht3).1 (ix_lt ht3) tysl28) ?_
    exact TL_nil k
  · refine d_rstore rfl rfl rfl rfl rfl (fun L s' H Q k => ?_)
    refine TL_store_ge (i := a1.toNat) (e_t (H.t 12 rfl)) (H.g 0 rfl) (ix_lt ht3) (e_t (H.t 7 rfl)) ty39 ?_
    exact TL_nil k
  · refine d_put rfl rfl rfl rfl (fun L s' H Q k => ?_)
    refine TL_y (y_index_ge (e_t (H.t 2 rfl)) (e_t (H.t 3 rfl)) (H.g 1 rfl) (ix_some ht4).1 (ix_lt ht4) tysl28) ?_
    exact TL_nil k
  · refine d_rstore rfl rfl rfl rfl rfl (fun L s' H Q k => ?_)
    refine TL_store_ge (i := a3.toNat) (e_t (H.t 14 rfl)) (H.g 1 rfl) (ix_lt ht4) (e_t (H.t 11 rfl)) ty39 ?_
    exact TL_nil k
  refine z_nt ?_
  refine T_seq ?_
  refine T_region ?_
  refine TL_y (y_move (e_t rfl)) ?_
  refine TL_y (y_add (e_t rfl) (e_i (1))) ?_
  refine TL_y (y_move (e_t rfl)) ?_
  refine TL_y (y_sub (e_t rfl) (e_i (1))) ?_
  refine TL_y (y_assign (e_t rfl)) ?_
  refine TL_y (y_assign (e_t rfl)) ?_
  refine TL_nil ?_
  refine z_nt ?_
  refine T_seq ?_
  obtain ⟨o7, ho7, h⟩ := bind_some h
  refine T_loopin (S := fun (s5 : (List Member) × Int × Int) => ⟨[(0, .g 5000), (11, .d (s5.2.1 : Int)), (12, .d (s5.2.2 : Int))], ⟨[], [(5000, ⟨39, (s5.1 : List Member)⟩)], []⟩⟩) (fun z => z = o7) (fun s5 e => ?_) (fun hfall8 => ?_)
  · subst e
    refine z_nt ?_
    refine T_seq ?_
    refine T_region ?_
    refine TL_y (y_move (e_t rfl)) ?_
    refine TL_y (y_assign (e_t rfl)) ?_
    refine TL_nil ?_
    refine z_nt ?_
    refine T_ret ?_
    obtain rfl := Option.some.inj h
    exact zl_ret1 (n := _) ok_base (fn := Try.f128) rfl (rl_t rfl) (le_k (ks := []) (bs := []) (gs := [5000]) .nil .nil (.cons rfl .nil))
  · clear h
    refine TW_le (le_k (ks := [0, 1, 4, 11, 12]) (bs := []) (gs := [5000]) (.cons rfl (.cons rfl (.cons rfl (.cons rfl (.cons rfl .nil))))) .nil (.cons rfl .nil)) (fuel_ind (fun (s5 : (List Member) × Int × Int) => ⟨[(0, .g 5000), (1, .d (a1 : Int)), (4, .d (a4 : (Fn2 Member Member Int))), (11, .d (s5.2.1 : Int)), (12, .d (s5.2.2 : Int))], ⟨[], [(5000, ⟨39, (s5.1 : List Member)⟩)], []⟩⟩) (fun k s => sl_partitionEqualCmpFunc_Member_l0 a1 a4 k s = some o7) ?_ ?_ _ (((a0.set a1.toNat t1).set a3.toNat t2), (w64 (a1 + 1)), (w64 (a2 - 1))) ho7)
    · intro s h
      cases h
    · intro ks5 s5 ih h
      replace h : (((sl_partitionEqualCmpFunc_Member_l1 s5 a1 a4 FUEL s5.2.1).bind fun s10 => ((sl_partitionEqualCmpFunc_Member_l2 s10 s5 a1 a4 FUEL s5.2.2).bind fun s24 => (bif (decide (s24 < s10)) then some (s5.1, s10, s24) else (ix s5.1 s24).bind fun t39 => (ix s5.1 s10).bind fun t40 => (ix s5.1 s10).bind fun t41 => (ix (s5.1.set s10.toNat t39) s24).bind fun t42 => sl_partitionEqualCmpFunc_Member_l0 a1 a4 ks5 (((s5.1.set s10.toNat t39).set s24.toNat t40), (w64 (s10 + 1)), (w64 (s24 - 1))))))) = some o7 := h
      refine TW_round ?_
      refine T_block ?_
      refine T_seq ?_
      obtain ⟨o12, ho12, h⟩ := bind_some h
      refine T_loopin (S := fun (s10 : Int) => ⟨[(0, .g 5000), (1, .d (a1 : Int)), (4, .d (a4 : (Fn2 Member Member Int))), (11, .d (s10 : Int)), (12, .d (s5.2.2 : Int))], ⟨[], [(5000, ⟨39, (s5.1 : List Member)⟩)], []⟩⟩) (fun z => z = o12) (fun s10 e => ?_) (fun hfall13 => ?_)
      · subst e
        refine z_nt ?_
        refine T_seq ?_
        obtain ⟨o26, ho26, h⟩ := bind_some h
        refine T_loopin (S := fun (s24 : Int) => ⟨[(0, .g 5000), (1, .d (a1 : Int)), (4, .d (a4 : (Fn2 Member Member Int))), (11, .d (s10 : Int)), (12, .d (s24 : Int))], ⟨[], [(5000, ⟨39, (s5.1 : List Member)⟩)], []⟩⟩) (fun z => z = o26) (fun s24 e => ?_) (fun hfall27 => ?_)
        · subst e
          refine z_nt ?_
          refine T_seq ?_
          refine T_seq ?_
          refine T_region ?_
          refine TL_y (y_move (e_t rfl)) ?_
          refine TL_y (y_move (e_t rfl)) ?_
          refine TL_y (y_gtr (e_t rfl) (e_t rfl)) ?_
          refine TL_nil ?_
          refine z_nt ?_
          refine T_cond rfl (fun hb38 => ?_) (fun hb38 => ?_)
          · replace h := cond_t hb38 h
            refine T_exit ?_
            refine z_et ?_
            refine z_eo ?_
            refine z_et ?_
            refine z_ei ?_
            exact Z_le (le_k (ks := [0, 11, 12]) (bs := []) (gs := [5000]) (.cons rfl (.cons rfl (.cons rfl .nil))) .nil (.cons rfl .nil)) (hfall8 _ (Option.some.inj h))
          · replace h := cond_f hb38 h
            refine T_skip ?_
            refine z_nt ?_
            refine T_seq ?_
            refine T_le (le_k (ks := [0, 1, 4, 11, 12, 68, 69, 70]) (bs := []) (gs := [5000]) (ti := []) (.cons rfl (.cons rfl (.cons rfl (.cons rfl (.cons rfl (.cons rfl (.cons rfl (.cons rfl .nil)))))))) .nil (.cons rfl .nil)) ?_
            obtain ⟨t39, ht39, h⟩ := bind_some h
            obtain ⟨t40, ht40, h⟩ := bind_some h
            obtain ⟨t41, ht41, h⟩ := bind_some h
            obtain ⟨t42, ht42, h⟩ := bind_some h
            refine T_drawn hmix (by kernel_rfl) (by kernel_rfl) [some (.g 5000), some (.d (s10 : Int)), some (.g 5000), some (.d (s24 : Int)), some (.g 5000), some (.d (s24 : Int)), some (.ge 5000 (s24.toNat * 33 + 0)), some (.d (t39 : Member)), some (.g 5000), some (.d (s10 : Int)), some (.ge 5000 (s10.toNat * 33 + 0)), some (.d (t40 : Member)), some (.ge 5000 (s10.toNat * 33 + 0)), none, some (.ge 5000 (s24.toNat * 33 + 0)), none] [] [(none, some 13, 5000, (⟨39, (s5.1 : List Member)⟩ : GV _)), (some 13, some 15, 5000, (⟨39, ((s5.1.set s10.toNat t39) : List Member)⟩ : GV _)), (some 15, none, 5000, (⟨39, (((s5.1.set s10.toNat t39).set s24.toNat t40) : List Member)⟩ : GV _))] [] rfl trivial ⟨rfl, trivial⟩ rfl rfl rfl ⟨?_, ?_, ?_, ?_, ?_, ?_, ?_, ?_, ?_, ?_, ?_, ?_, ?_, ?_, ?_, ?_, trivial⟩ (Z_le (le_k (ks := [0, 1, 4, 11, 12, 68, 69, 70, 71, 72, 73, 74, 75, 76, 77, 78, 79, 80, 81, 82, 83, 84]) (bs := []) (gs := [5000]) (ti := []) (.cons rfl (.cons rfl (.cons rfl (.cons rfl (.cons rfl (.cons rfl (.cons rfl (.cons rfl (.cons rfl (.cons rfl (.cons rfl (.cons rfl (.cons rfl (.cons rfl (.cons rfl (.cons rfl (.cons rfl (.cons rfl (.cons rfl (.cons rfl (.cons rfl (.cons rfl .nil)))))))))))))))))))))) .nil (.cons rfl .nil)) ?_)
            · refine d_put rfl rfl rfl rfl (fun L s' H Q k => ?_)
              refine TL_y (y_move (e_t (H.p rfl))) ?_
              exact TL_nil k
            · refine d_put rfl rfl offs_d rfl (fun L s' H Q k => ?_)
              refine TL_y (y_move (e_t (H.p rfl))) ?_
              exact TL_nil k
            · refine d_put rfl rfl rfl rfl (fun L s' H Q k => ?_)
              refine TL_y (y_move (e_t (H.p rfl))) ?_
              exact TL_nil k
            · refine d_put rfl rfl offs_d rfl (fun L s' H Q k => ?_)
              refine TL_y (y_move (e_t (H.p rfl))) ?_
              exact TL_nil k
            · refine d_put rfl rfl rfl rfl (fun L s' H Q k => ?_)
              refine TL_y (y_move (e_t (H.p rfl))) ?_
              exact TL_nil k
            · refine d_put rfl rfl offs_d rfl (fun L s' H Q k => ?_)
              refine TL_y (y_move (e_t (H.p rfl))) ?_
              exact TL_nil k
            · refine d_put rfl rfl rfl rfl (fun L s' H Q k => ?_)
              refine TL_y (y_index_ge (e_t (H.t 4 rfl)) (e_t (H.t 5 rfl)) (H.g 0 rfl) (ix_some ht39).1 (ix_lt ht39) tysl28) ?_
              exact TL_nil k
            · refine d_put rfl rfl offs_d rfl (fun L s' H Q k => ?_)
              refine TL_load_ge (i := s24.toNat) (off := 0) (e_t (H.t 6 rfl)) (H.g 0 rfl) (ix_some ht39).2 Sub.self ty39 ?_
              exact TL_nil k
            · refine d_put rfl rfl rfl rfl (fun L s' H Q k => ?_)
              refine TL_y (y_move (e_t (H.p rfl))) ?_
              exact TL_nil k
            · refine d_put rfl rfl offs_d rfl (fun L s' H Q k => ?_)
              refine TL_y (y_move (e_t (H.p rfl))) ?_
              exact TL_nil k
            · refine d_put rfl rfl rfl rfl (fun L s' H Q k => ?_)
              refine TL_y (y_index_ge (e_t (H.t 8 rfl)) (e_t (H.t 9 rfl)) (H.g 0 rfl) (ix_some ht40).1 (ix_lt ht40) tysl28) ?_
              exact TL_nil k
            · refine d_put rfl rfl offs_d rfl (fun L s' H Q k => ?_)
              refine TL_load_ge (i := s10.toNat) (off := 0) (e_t (H.t 10 rfl)) (H.g 0 rfl) (ix_some ht40).2 Sub.self ty39 ?_
              exact TL_nil k
            · refine d_put rfl rfl rfl rfl (fun L s' H Q k => ?_)
              refine TL_y (y_index_ge (e_t (H.t 0 rfl)) (e_t (H.t 1 rfl)) (H.g 0 rfl) (ix_some ht41).1 (ix_lt ht41) tysl28) ?_
              exact TL_nil k
            · refine d_rstore rfl rfl rfl rfl rfl (fun L s' H Q k => ?_)
              refine TL_store_ge (i := s10.toNat) (e_t (H.t 12 rfl)) (H.g 0 rfl) (ix_lt ht41) (e_t (H.t 7 rfl)) ty39 ?_
              exact TL_nil k
            · refine d_put rfl rfl rfl rfl (fun L s' H Q k => ?_)
              refine TL_y (y_index_ge (e_t (H.t 2 rfl)) (e_t (H.t 3 rfl)) (H.g 1 rfl) (ix_some ht42).1 (ix_lt ht42) tysl28) ?_
              exact TL_nil k
            · refine d_rstore rfl rfl rfl rfl rfl (fun L s' H Q k => ?_)
              refine TL_store_ge (i := s24.toNat) (e_t (H.t 14 rfl)) (H.g 1 rfl) (ix_lt ht42) (e_t (H.t 11 rfl)) ty39 ?_
              exact TL_nil k
            refine z_nt ?_
            refine T_seq ?_
            refine T_region ?_
            refine TL_y (y_move (e_t rfl)) ?_
            refine TL_y (y_add (e_t rfl) (e_i (1))) ?_
            refine TL_y (y_assign (e_t rfl)) ?_
            refine TL_nil ?_
            refine z_nt ?_
            refine T_region ?_
            refine TL_y (y_move (e_t rfl)) ?_
            refine TL_y (y_sub (e_t rfl) (e_i (1))) ?_
            refine TL_y (y_assign (e_t rfl)) ?_
            refine TL_nil ?_
            refine z_nb ?_
            refine z_nl ?_
            exact TW_le (le_k (ks := [0, 1, 4, 11, 12]) (bs := []) (gs := [5000]) (.cons rfl (.cons rfl (.cons rfl (.cons rfl (.cons rfl .nil))))) .nil (.cons rfl .nil)) (ih _ h)
        · clear h
          refine TW_le (le_k (ks := [0, 1, 4, 11, 12]) (bs := []) (gs := [5000]) (.cons rfl (.cons rfl (.cons rfl (.cons rfl (.cons rfl .nil))))) .nil (.cons rfl .nil)) (fuel_ind (fun (s24 : Int) => ⟨[(0, .g 5000), (1, .d (a1 : Int)), (4, .d (a4 : (Fn2 Member Member Int))), (11, .d (s10 : Int)), (12, .d (s24 : Int))], ⟨[], [(5000, ⟨39, (s5.1 : List Member)⟩)], []⟩⟩) (fun k s => sl_partitionEqualCmpFunc_Member_l2 s10 s5 a1 a4 k s = some o26) ?_ ?_ _ s5.2.2 ho26)
          · intro s h
            cases h
          · intro ks24 s24 ih h
            replace h : (((bif (decide (s10 ≤ s24)) then (ix s5.1 a1).bind fun t34 => (ix s5.1 s24).bind fun t35 => (a4.f t34 t35).bind fun t36 => some (decide (t36 < 0)) else some false)).bind fun t33 => (bif t33 then sl_partitionEqualCmpFunc_Member_l2 s10 s5 a1 a4 ks24 (w64 (s24 - 1)) else some s24)) = some o26 := h
            refine TW_round ?_
            refine T_seq ?_
            refine T_seq ?_
            refine T_draw hmix (by kernel_rfl) ?_
            refine TQ_y (y_move (e_t rfl)) ?_
            refine TQ_y (y_move (e_t rfl)) ?_
            refine TQ_y (y_leq (e_t rfl) (e_t rfl)) ?_
            refine TQ_y (y_move (e_t rfl)) ?_
            obtain ⟨t33, ht33, h⟩ := bind_some h
            refine TQ_cut 12 65 (r := t33) (decide (s10 ≤ s24)) ?_ (fun hb29 hk => ?_) (fun hb29 hk => ?_)
            rotate_left
            · replace h := cond_t hb29 ht33
              refine TQ_want rfl hb29 ?_
              refine TQ_y (y_move (e_t rfl)) ?_
              refine TQ_want rfl hb29 ?_
              refine TQ_y (y_move (e_t rfl)) ?_
              refine TQ_want rfl hb29 ?_
              refine TQ_y (y_move (e_t rfl)) ?_
              refine TQ_want rfl hb29 ?_
              obtain ⟨t34, ht34, h⟩ := bind_some h
              refine TQ_y (y_index_ge (e_t rfl) (e_t rfl) rfl (ix_some ht34).1 (ix_lt ht34) tysl28) ?_
              refine TQ_want rfl hb29 ?_
              refine TQ_y (y_load_ge (i := a1.toNat) (off := 0) (e_t rfl) rfl (ix_some ht34).2 Sub.self ty39) ?_
              refine TQ_want rfl hb29 ?_
              refine TQ_y (y_move (e_t rfl)) ?_
              refine TQ_want rfl hb29 ?_
              refine TQ_y (y_move (e_t rfl)) ?_
              refine TQ_want rfl hb29 ?_
              obtain ⟨t35, ht35, h⟩ := bind_some h
              refine TQ_y (y_index_ge (e_t rfl) (e_t rfl) rfl (ix_some ht35).1 (ix_lt ht35) tysl28) ?_
              refine TQ_want rfl hb29 ?_
              refine TQ_y (y_load_ge (i := s24.toNat) (off := 0) (e_t rfl) rfl (ix_some ht35).2 Sub.self ty39) ?_
              refine TQ_want rfl hb29 ?_
              obtain ⟨t36, ht36, h⟩ := bind_some h
              refine TQ_y (y_callv2 (e_t rfl) (e_t rfl) (e_t rfl) ht36) ?_
              refine TQ_want rfl hb29 ?_
              refine TQ_y (y_lss (e_t rfl) (e_i (0))) ?_
              obtain rfl := Option.some.inj h
              refine TQ_y (y_pick_t (e_t rfl) hb29 (e_t rfl)) ?_
              exact TQ_fr hk (.cons (.cons (.cons (.cons (.cons (.cons (.cons (.cons (.cons (.cons (.cons (.refl _) rfl) rfl) rfl) rfl) rfl) rfl) rfl) rfl) rfl) rfl) rfl)
            · obtain rfl := Option.some.inj (cond_f hb29 ht33)
              refine TQ_skip0 rfl hb29 ?_
              refine TQ_skip0 rfl hb29 ?_
              refine TQ_skip0 rfl hb29 ?_
              refine TQ_skip0 rfl hb29 ?_
              refine TQ_skip0 rfl hb29 ?_
              refine TQ_skip0 rfl hb29 ?_
              refine TQ_skip0 rfl hb29 ?_
              refine TQ_skip0 rfl hb29 ?_
              refine TQ_skip0 rfl hb29 ?_
              refine TQ_skip0 rfl hb29 ?_
              refine TQ_skip0 rfl hb29 ?_
              refine TQ_y (y_pick_f (e_t rfl) hb29 (e_b false)) ?_
              exact TQ_fr hk (.refl _)
            refine TQ_nil ?_
            refine z_nt ?_
            refine T_cond rfl (fun hb37 => ?_) (fun hb37 => ?_)
            · replace h := cond_t hb37 h
              refine T_skip ?_
              refine z_nt ?_
              refine T_block ?_
              refine T_region ?_
              refine TL_y (y_move (e_t rfl)) ?_
              refine TL_y (y_sub (e_t rfl) (e_i (1))) ?_
              refine TL_y (y_assign (e_t rfl)) ?_
              refine TL_nil ?_
              refine z_nb ?_
              refine z_nl ?_
              exact TW_le (le_k (ks := [0, 1, 4, 11, 12]) (bs := []) (gs := [5000]) (.cons rfl (.cons rfl (.cons rfl (.cons rfl (.cons rfl .nil))))) .nil (.cons rfl .nil)) (ih _ h)
            · replace h := cond_f hb37 h
              refine T_exit ?_
              refine z_et ?_
              refine z_et ?_
              refine z_ei ?_
              exact Z_le (le_k (ks := [0, 1, 4, 11, 12]) (bs := []) (gs := [5000]) (.cons rfl (.cons rfl (.cons rfl (.cons rfl (.cons rfl .nil))))) .nil (.cons rfl .nil)) (hfall27 _ (Option.some.inj h))
      · clear h
        refine TW_le (le_k (ks := [0, 1, 4, 11, 12]) (bs := []) (gs := [5000]) (.cons rfl (.cons rfl (.cons rfl (.cons rfl (.cons rfl .nil))))) .nil (.cons rfl .nil)) (fuel_ind (fun (s10 : Int) => ⟨[(0, .g 5000), (1, .d (a1 : Int)), (4, .d (a4 : (Fn2 Member Member Int))), (11, .d (s10 : Int)), (12, .d (s5.2.2 : Int))], ⟨[], [(5000, ⟨39, (s5.1 : List Member)⟩)], []⟩⟩) (fun k s => sl_partitionEqualCmpFunc_Member_l1 s5 a1 a4 k s = some o12) ?_ ?_ _ s5.2.1 ho12)
        · intro s h
          cases h
        · intro ks10 s10 ih h
          replace h : (((bif (decide (s10 ≤ s5.2.2)) then (ix s5.1 a1).bind fun t20 => (ix s5.1 s10).bind fun t21 => (a4.f t20 t21).bind fun t22 => some (!(decide (t22 < 0))) else some false)).bind fun t19 => (bif t19 then sl_partitionEqualCmpFunc_Member_l1 s5 a1 a4 ks10 (w64 (s10 + 1)) else some s10)) = some o12 := h
          refine TW_round ?_
          refine T_seq ?_
          refine T_seq ?_
          refine T_draw hmix (by kernel_rfl) ?_
          refine TQ_y (y_move (e_t rfl)) ?_
          refine TQ_y (y_move (e_t rfl)) ?_
          refine TQ_y (y_leq (e_t rfl) (e_t rfl)) ?_
          refine TQ_y (y_move (e_t rfl)) ?_
          obtain ⟨t19, ht19, h⟩ := bind_some h
          refine TQ_cut 13 47 (r := t19) (decide (s10 ≤ s5.2.2)) ?_ (fun hb15 hk => ?_) (fun hb15 hk => ?_)
          rotate_left
          · replace h := cond_t hb15 ht19
            refine TQ_want rfl hb15 ?_
            refine TQ_y (y_move (e_t rfl)) ?_
            refine TQ_want rfl hb15 ?_
            refine TQ_y (y_move (e_t rfl)) ?_
            refine TQ_want rfl hb15 ?_
            refine TQ_y (y_move (e_t rfl)) ?_
            refine TQ_want rfl hb15 ?_
            obtain ⟨t20, ht20, h⟩ := bind_some h
            refine TQ_y (y_index_ge (e_t rfl) (e_t rfl) rfl (ix_some ht20).1 (ix_lt ht20) tysl28) ?_
            refine TQ_want rfl hb15 ?_
            refine TQ_y (y_load_ge (i := a1.toNat) (off := 0) (e_t rfl) rfl (ix_some ht20).2 Sub.self ty39) ?_
            refine TQ_want rfl hb15 ?_
            refine TQ_y (y_move (e_t rfl)) ?_
            refine TQ_want rfl hb15 ?_
            refine TQ_y (y_move (e_t rfl)) ?_
            refine TQ_want rfl hb15 ?_
            obtain ⟨t21, ht21, h⟩ := bind_some h
            refine TQ_y (y_index_ge (e_t rfl) (e_t rfl) rfl (ix_some ht21).1 (ix_lt ht21) tysl28) ?_
            refine TQ_want rfl hb15 ?_
            refine TQ_y (y_load_ge (i := s10.toNat) (off := 0) (e_t rfl) rfl (ix_some ht21).2 Sub.self ty39) ?_
            refine TQ_want rfl hb15 ?_
            obtain ⟨t22, ht22, h⟩ := bind_some h
            refine TQ_y (y_callv2 (e_t rfl) (e_t rfl) (e_t rfl) ht22) ?_
            refine TQ_want rfl hb15 ?_
            refine TQ_y (y_lss (e_t rfl) (e_i (0))) ?_
            refine TQ_want rfl hb15 ?_
            refine TQ_y (y_not (e_t rfl)) ?_
            obtain rfl := Option.some.inj h
            refine TQ_y (y_pick_t (e_t rfl) hb15 (e_t rfl)) ?_
            exact TQ_fr hk (.cons (.cons (.cons (.cons (.cons (.cons (.cons (.cons (.cons (.cons (.cons (.cons (.refl _) rfl) rfl) rfl) rfl) rfl) rfl) rfl) rfl) rfl) rfl) rfl) rfl)
          · obtain rfl := Option.some.inj (cond_f hb15 ht19)
            refine TQ_skip0 rfl hb15 ?_
            refine TQ_skip0 rfl hb15 ?_
            refine TQ_skip0 rfl hb15 ?_
            refine TQ_skip0 rfl hb15 ?_
            refine TQ_skip0 rfl hb15 ?_
            refine TQ_skip0 rfl hb15 ?_
            refine TQ_skip0 rfl hb15 ?_
            refine TQ_skip0 rfl hb15 ?_
            refine TQ_skip0 rfl hb15 ?_
            refine TQ_skip0 rfl hb15 ?_
            refine TQ_skip0 rfl hb15 ?_
            refine TQ_skip0 rfl hb15 ?_
            refine TQ_y (y_pick_f (e_t rfl) hb15 (e_b false)) ?_
            exact TQ_fr hk (.refl _)
          refine TQ_nil ?_
          refine z_nt ?_
          refine T_cond rfl (fun hb23 => ?_) (fun hb23 => ?_)
          · replace h := cond_t hb23 h
            refine T_skip ?_
            refine z_nt ?_
            refine T_block ?_
            refine T_region ?_
            refine TL_y (y_move (e_t rfl)) ?_
            refine TL_y (y_add (e_t rfl) (e_i (1))) ?_
            refine TL_y (y_assign (e_t rfl)) ?_
            refine TL_nil ?_
            refine z_nb ?_
            refine z_nl ?_
            exact TW_le (le_k (ks := [0, 1, 4, 11, 12]) (bs := []) (gs := [5000]) (.cons rfl (.cons rfl (.cons rfl (.cons rfl (.cons rfl .nil))))) .nil (.cons rfl .nil)) (ih _ h)
          · replace h := cond_f hb23 h
            refine T_exit ?_
            refine z_et ?_
            refine z_et ?_
            refine z_ei ?_
            exact Z_le (le_k (ks := [0, 1, 4, 11, 12]) (bs := []) (gs := [5000]) (.cons rfl (.cons rfl (.cons rfl (.cons rfl (.cons rfl .nil))))) .nil (.cons rfl .nil)) (hfall13 _ (Option.some.inj h))
end Go.Ph
set_option maxRecDepth 4000
set_option maxHeartbeats 4000000
namespace Go.Ph
open Go.Proofs
def sl_partitionCmpFunc_Member_l4 (s47 : Int) (s42 : (List Member) × Int × Int) (a1 : Int) (a4 : (Fn2 Member Member Int)) : Nat → Int → Option (Int)
  | 0, _ => none
  | ks61 + 1, s61 => ((bif (decide (s47 ≤ s61)) then (ix s42.1 s61).bind fun t71 => (ix s42.1 a1).bind fun t72 => (a4.f t71 t72).bind fun t73 => some (!(decide (t73 < 0))) else some false)).bind fun t70 => (bif t70 then sl_partitionCmpFunc_Member_l4 s47 s42 a1 a4 ks61 (w64 (s61 - 1)) else some s61)
def sl_partitionCmpFunc_Member_l3 (s42 : (List Member) × Int × Int) (a1 : Int) (a4 : (Fn2 Member Member Int)) : Nat → Int → Option (Int)
  | 0, _ => none
  | ks47 + 1, s47 => ((bif (decide (s47 ≤ s42.2.2)) then (ix s42.1 s47).bind fun t57 => (ix s42.1 a1).bind fun t58 => (a4.f t57 t58).bind fun t59 => some (decide (t59 < 0)) else some false)).bind fun t56 => (bif t56 then sl_partitionCmpFunc_Member_l3 s42 a1 a4 ks47 (w64 (s47 + 1)) else some s47)
def sl_partitionCmpFunc_Member_l2 (a1 : Int) (a4 : (Fn2 Member Member Int)) : Nat → (List Member) × Int × Int → Option ((List Member) × Int × Int)
  | 0, _ => none
  | ks42 + 1, s42 => ((sl_partitionCmpFunc_Member_l3 s42 a1 a4 FUEL s42.2.1).bind fun s47 => ((sl_partitionCmpFunc_Member_l4 s47 s42 a1 a4 FUEL s42.2.2).bind fun s61 => (bif (decide (s61 < s47)) then some (s42.1, s47, s61) else (ix s42.1 s61).bind fun t76 => (ix s42.1 s47).bind fun t77 => (ix s42.1 s47).bind fun t78 => (ix (s42.1.set s47.toNat t76) s61).bind fun t79 => sl_partitionCmpFunc_Member_l2 a1 a4 ks42 (((s42.1.set s47.toNat t76).set s61.toNat t77), (w64 (s47 + 1)), (w64 (s61 - 1))))))
def sl_partitionCmpFunc_Member_l1 (s5 : Int) (a0 : (List Member)) (a1 : Int) (t1 : Member) (a3 : Int) (t2 : Member) (a4 : (Fn2 Member Member Int)) : Nat → Int → Option (Int)
  | 0, _ => none
  | ks19 + 1, s19 => ((bif (decide (s5 ≤ s19)) then (ix ((a0.set a1.toNat t1).set a3.toNat t2) s19).bind fun t29 => (ix ((a0.set a1.toNat t1).set a3.toNat t2) a1).bind fun t30 => (a4.f t29 t30).bind fun t31 => some (!(decide (t31 < 0))) else some false)).bind fun t28 => (bif t28 then sl_partitionCmpFunc_Member_l1 s5 a0 a1 t1 a3 t2 a4 ks19 (w64 (s19 - 1)) else some s19)
def sl_partitionCmpFunc_Member_l0 (a2 : Int) (a0 : (List Member)) (a1 : Int) (t1 : Member) (a3 : Int) (t2 : Member) (a4 : (Fn2 Member Member Int)) : Nat → Int → Option (Int)
  | 0, _ => none
  | ks5 + 1, s5 => ((bif (decide (s5 ≤ (w64 (a2 - 1)))) then (ix ((a0.set a1.toNat t1).set a3.toNat t2) s5).bind fun t15 => (ix ((a0.set a1.toNat t1).set a3.toNat t2) a1).bind fun t16 => (a4.f t15 t16).bind fun t17 => some (decide (t17 < 0)) else some false)).bind fun t14 => (bif t14 then sl_partitionCmpFunc_Member_l0 a2 a0 a1 t1 a3 t2 a4 ks5 (w64 (s5 + 1)) else some s5)
def sl_partitionCmpFunc_Member (a0 : (List Member)) (a1 : Int) (a2 : Int) (a3 : Int) (a4 : (Fn2 Member Member Int)) : Option (Int × Bool × (List Member)) := (ix a0 a3).bind fun t1 => (ix a0 a1).bind fun t2 => (ix a0 a1).bind fun t3 => (ix (a0.set a1.toNat t1) a3).bind fun t4 => ((sl_partitionCmpFunc_Member_l0 a2 a0 a1 t1 a3 t2 a4 FUEL (w64 (a1 + 1))).bind fun s5 => ((sl_partitionCmpFunc_Member_l1 s5 a0 a1 t1 a3 t2 a4 FUEL (w64 (a2 - 1))).bind fun s19 => (bif (decide (s19 < s5)) then (ix ((a0.set a1.toNat t1).set a3.toNat t2) a1).bind fun t34 => (ix ((a0.set a1.toNat t1).set a3.toNat t2) s19).bind fun t35 => (ix ((a0.set a1.toNat t1).set a3.toNat t2) s19).bind fun t36 => (ix (((a0.set a1.toNat t1).set a3.toNat t2).set s19.toNat t34) a1).bind fun t37 => some (s19, true, ((((a0.set a1.toNat t1).set a3.toNat t2).set s19.toNat t34).set a1.toNat t35)) else (ix ((a0.set a1.toNat t1).set a3.toNat t2) s19).bind fun t38 => (ix ((a0.set a1.toNat t1).set a3.toNat t2) s5).bind fun t39 => (ix ((a0.set a1.toNat t1).set a3.toNat t2) s5).bind fun t40 => (ix (((a0.set a1.toNat t1).set a3.toNat t2).set s5.toNat t38) s19).bind fun t41 => ((sl_partitionCmpFunc_Member_l2 a1 a4 FUEL (((((a0.set a1.toNat t1).set a3.toNat t2).set s5.toNat t38).set s19.toNat t39), (w64 (s5 + 1)), (w64 (s19 - 1)))).bind fun s42 => (ix s42.1 a1).bind fun t80 => (ix s42.1 s42.2.2).bind fun t81 => (ix s42.1 s42.2.2).bind fun t82 => (ix (s42.1.set s42.2.2.toNat t80) a1).bind fun t83 => some (s42.2.2, false, ((s42.1.set s42.2.2.toNat t80).set a1.toNat t81))))))
theorem sl_partitionCmpFunc_Member_ok {a0 : (List Member)} {a1 : Int} {a2 : Int} {a3 : Int} {a4 : (Fn2 Member Member Int)} {r : (Int × Bool × (List Member))} (h : sl_partitionCmpFunc_Member a0 a1 a2 a3 a4 = some r) : FnL Try.prog 129 [.g 5000, .d a1, .d a2, .d a3, .d a4] ⟨[], [(5000, ⟨39, (a0 : List Member)⟩)], []⟩ (.t2 (.d r.1) (.d r.2.1)) ⟨[], [(5000, ⟨39, (r.2.2 : List Member)⟩)], []⟩ [] [5000] := by
  refine FnL.of Try.func129 rfl fun w m S0 β γ => ?_
  unfold sl_partitionCmpFunc_Member at h
  refine T_seq ?_
  refine T_region ?_
  refine TL_y (y_assign (e_i (0))) ?_
  refine TL_y (y_assign (e_b false)) ?_
  refine TL_nil ?_
  refine z_nt ?_
  refine T_seq ?_
  refine T_le (le_k (ks := [0, 1, 2, 3, 4, 10, 11]) (bs := []) (gs := [5000]) (ti := []) (.cons rfl (.cons rfl (.cons rfl (.cons rfl (.cons rfl (.cons rfl (.cons rfl .nil))))))) .nil (.cons rfl .nil)) ?_
  obtain ⟨t1, ht1, h⟩ := bind_some h
  obtain ⟨t2, ht2, h⟩ := bind_some h
  obtain ⟨t3, ht3, h⟩ := bind_some h
  obtain ⟨t4, ht4, h⟩ := bind_some h
  refine T_drawn hmix (by kernel_rfl) (by kernel_rfl) [some (.g 5000), some (.d (a1 : Int)), some (.g 5000), some (.d (a3 : Int)), some (.g 5000), some (.d (a3 : Int)), some (.ge 5000 (a3.toNat * 33 + 0)), some (.d (t1 : Member)), some (.g 5000), some (.d (a1 : Int)), some (.ge 5000 (a1.toNat * 33 + 0)), some (.d (t2 : Member)), some (.ge 5000 (a1.toNat * 33 + 0)), none, some (.ge 5000 (a3.toNat * 33 + 0)), none] [] [(none, some 13, 5000, (⟨39, (a0 : List Member)⟩ : GV _)), (some 13, some 15, 5000, (⟨39, ((a0.set a1.toNat t1) : List Member)⟩ : GV _)), (some 15, none, 5000, (⟨39, (((a0.set a1.toNat t1).set a3.toNat t2) : List Member)⟩ : GV _))] [] rfl trivial ⟨rfl, trivial⟩ rfl rfl rfl ⟨?_, ?_, ?_, ?_, ?_, ?_, ?_, ?_, ?_, ?_, ?_, ?_, ?_, ?_, ?_, ?_, trivial⟩ (Z_le (le_k (ks := [0, 1, 2, 3, 4, 10, 11, 14, 15, 16, 17, 18, 19, 20, 21, 22, 23, 24, 25, 26, 27]) (bs := []) (gs := [5000]) (ti := []) (.cons rfl (.cons rfl (.cons rfl (.cons rfl (.cons rfl (.cons rfl (.cons rfl (.cons rfl (.cons rfl (.cons rfl (.cons rfl (.cons rfl (.cons rfl (.cons rfl (.cons rfl (.cons rfl (.cons rfl (.cons rfl (.cons rfl (.cons rfl (.cons rfl .nil))))))))))))))))))))) .nil (.cons rfl .nil)) ?_)
  · refine d_put rfl rfl rfl rfl (fun L s' H Q k => ?_)
    refine TL_y (y_move (e_t (H.p rfl))) ?_
    exact TL_nil k
  · refine d_put rfl rfl offs_d rfl (fun L s' H Q k => ?_)
    refine TL_y (y_move (e_t (H.p rfl))) ?_
    exact TL_nil k
  · refine d_put rfl rfl rfl rfl (fun L s' H Q k => ?_)
    refine TL_y (y_move (e_t (H.p rfl))) ?_
    exact TL_nil k
  · refine d_put rfl rfl offs_d rfl (fun L s' H Q k => ?_)
    refine TL_y (y_move (e_t (H.p rfl))) ?_
    exact TL_nil k
  · refine d_put rfl rfl rfl rfl (fun L s' H Q k => ?_)
    refine TL_y (y_move (e_t (H.p rfl))) ?_
    exact TL_nil k
  · refine d_put rfl rfl offs_d rfl (fun L s' H Q k => ?_)
    refine TL_y (y_move (e_t (H.p rfl))) ?_
    exact TL_nil k
  · refine d_put rfl rfl rfl rfl (fun L s' H Q k => ?_)
    refine TL_y (y_index_ge (e_t (H.t 4 rfl)) (e_t (H.t 5 rfl)) (H.g 0 rfl) (ix_some ht1).1 (ix_lt ht1) tysl28) ?_
    exact TL_nil k
  · refine d_put rfl rfl offs_d rfl (fun L s' H Q k => ?_)
    refine TL_load_ge (i := a3.toNat) (off := 0) (e_t (H.t 6 rfl)) (H.g 0 rfl) (ix_some ht1).2 Sub.self ty39 ?_
    exact TL_nil k
  · refine d_put rfl rfl rfl rfl (fun L s' H Q k => ?_)
    refine TL_y (y_move (e_t (H.p rfl))) ?_
    exact TL_nil k
  · refine d_put rfl rfl offs_d rfl (fun L s' H Q k => ?_)
    refine TL_y (y_move (e_t (H.p rfl))) ?_
    exact TL_nil k
  · refine d_put rfl rfl rfl rfl (fun L s' H Q k => ?_)
    refine TL_y (y_index_ge (e_t (H.t 8 rfl)) (e_t (H.t 9 rfl)) (H.g 0 rfl) (ix_some ht2).1 (ix_lt ht2) tysl28) ?_
    exact TL_nil k
  · refine d_put rfl rfl offs_d rfl (fun L s' H Q k => ?_)
    refine TL_load_ge (i := a1.toNat) (off := 0) (e_t (H.t 10 rfl)) (H.g 0 rfl) (ix_some ht2).2 Sub.self ty39 ?_
    exact TL_nil k
  · refine d_put rfl rfl rfl rfl (fun L s' H Q k => ?_)
    refine TL_y (y_index_ge (e_t (H.t 0 rfl)) (e_t (H.t 1 rfl)) (H.g 0 rfl) (ix_some ht3).1 (ix_lt ht3) tysl28) ?_
    exact TL_nil k
  · refine d_rstore rfl rfl rfl rfl rfl (fun L s' H Q k => ?_)
    refine TL_store_ge (i := a1.toNat) (e_t (H.t 12 rfl)) (H.g 0 rfl) (ix_lt ht3) (e_t (H.t 7 rfl)) ty39 ?_
    exact TL_nil k
  · refine d_put rfl rfl rfl rfl (fun L s' H Q k => ?_)
    refine TL_y (y_index_ge (e_t (H.t 2 rfl)) (e_t (H.t 3 rfl)) (H.g 1 rfl) (ix_some ht4).1 (ix_lt ht4) tysl28) ?_
    exact TL_nil k
  · refine d_rstore rfl rfl rfl rfl rfl (fun L s' H Q k => ?_)
    refine TL_store_ge (i := a3.toNat) (e_t (H.t 14 rfl)) (H.g 1 rfl) (ix_lt ht4) (e_t (H.t 11 rfl)) ty39 ?_
    exact TL_nil k
  refine z_nt ?_
  refine T_seq ?_
  refine T_region ?_
  refine TL_y (y_move (e_t rfl)) ?_
  refine TL_y (y_add (e_t rfl) (e_i (1))) ?_
  refine TL_y (y_move (e_t rfl)) ?_
  refine TL_y (y_sub (e_t rfl) (e_i (1))) ?_
  refine TL_y (y_assign (e_t rfl)) ?_
  refine TL_y (y_assign (e_t rfl)) ?_
  refine TL_nil ?_
  refine z_nt ?_
  refine T_seq ?_
  obtain ⟨o7, ho7, h⟩ := bind_some h
  refine T_loopin (S := fun (s5 : Int) => ⟨[(0, .g 5000), (1, .d (a1 : Int)), (4, .d (a4 : (Fn2 Member Member Int))), (12, .d (s5 : Int)), (13, .d ((w64 (a2 - 1)) : Int))], ⟨[], [(5000, ⟨39, (((a0.set a1.toNat t1).set a3.toNat t2) : List Member)⟩)], []⟩⟩) (fun z => z = o7) (fun s5 e => ?_) (fun hfall8 => ?_)
  · subst e
    refine z_nt ?_
    refine T_seq ?_
    obtain ⟨o21, ho21, h⟩ := bind_some h
    refine T_loopin (S := fun (s19 : Int) => ⟨[(0, .g 5000), (1, .d (a1 : Int)), (4, .d (a4 : (Fn2 Member Member Int))), (12, .d (s5 : Int)), (13, .d (s19 : Int))], ⟨[], [(5000, ⟨39, (((a0.set a1.toNat t1).set a3.toNat t2) : List Member)⟩)], []⟩⟩) (fun z => z = o21) (fun s19 e => ?_) (fun hfall22 => ?_)
    · subst e
      refine z_nt ?_
      refine T_seq ?_
      refine T_seq ?_
      refine T_region ?_
      refine TL_y (y_move (e_t rfl)) ?_
      refine TL_y (y_move (e_t rfl)) ?_
      refine TL_y (y_gtr (e_t rfl) (e_t rfl)) ?_
      refine TL_nil ?_
      refine z_nt ?_
      refine T_cond rfl (fun hb33 => ?_) (fun hb33 => ?_)
      · replace h := cond_t hb33 h
        refine T_seq ?_
        refine T_le (le_k (ks := [0, 1, 4, 12, 13, 69, 70, 71]) (bs := []) (gs := [5000]) (ti := []) (.cons rfl (.cons rfl (.cons rfl (.cons rfl (.cons rfl (.cons rfl (.cons rfl (.cons rfl .nil)))))))) .nil (.cons rfl .nil)) ?_
        obtain ⟨t34, ht34, h⟩ := bind_some h
        obtain ⟨t35, ht35, h⟩ := bind_some h
        obtain ⟨t36, ht36, h⟩ := bind_some h
        obtain ⟨t37, ht37, h⟩ := bind_some h
        refine T_drawn hmix (by kernel_rfl) (by kernel_rfl) [some (.g 5000), some (.d (s19 : Int)), some (.g 5000), some (.d (a1 : Int)), some (.g 5000), some (.d (a1 : Int)), some (.ge 5000 (a1.toNat * 33 + 0)), some (.d (t34 : Member)), some (.g 5000), some (.d (s19 : Int)), some (.ge 5000 (s19.toNat * 33 + 0)), some (.d (t35 : Member)), some (.ge 5000 (s19.toNat * 33 + 0)), none, some (.ge 5000 (a1.toNat * 33 + 0)), none] [] [(none, some 13, 5000, (⟨39, (((a0.set a1.toNat t1).set a3.toNat t2) : List Member)⟩ : GV _)), (some 13, some 15, 5000, (⟨39, ((((a0.set a1.toNat t1).set a3.toNat t2).set s19.toNat t34) : List Member)⟩ : GV _)), (some 15, none, 5000, (⟨39, (((((a0.set a1.toNat t1).set a3.toNat t2).set s19.toNat t34).set a1.toNat t35) : List Member)⟩ : GV _))] [] rfl trivial ⟨rfl, trivial⟩ rfl rfl rfl ⟨?_, ?_, ?_, ?_, ?_, ?_, ?_, ?_, ?_, ?_, ?_, ?_, ?_, ?_, ?_, ?_, trivial⟩ (Z_le (le_k (ks := [0, 1, 4, 12, 13, 69, 70, 71, 72, 73, 74, 75, 76, 77, 78, 79, 80, 81, 82, 83, 84, 85]) (bs := []) (gs := [5000]) (ti := []) (.cons rfl (.cons rfl (.cons rfl (.cons rfl (.cons rfl (.cons rfl (.cons rfl (.cons rfl (.cons rfl (.cons rfl (.cons rfl (.cons rfl (.cons rfl (.cons rfl (.cons rfl (.cons rfl (.cons rfl (.cons rfl (.cons rfl (.cons rfl (.cons rfl (.cons rfl .nil)))))))))))))))))))))) .nil (.cons rfl .nil)) ?_)
        · refine d_put rfl rfl rfl rfl (fun L s' H Q k => ?_)
          refine TL_y (y_move (e_t (H.p rfl))) ?_
          exact TL_nil k
        · refine d_put rfl rfl offs_d rfl (fun L s' H Q k => ?_)
          refine TL_y (y_move (e_t (H.p rfl))) ?_
          exact TL_nil k
        · refine d_put rfl rfl rfl rfl (fun L s' H Q k => ?_)
          refine TL_y (y_move (e_t (H.p rfl))) ?_
          exact TL_nil k
        · refine d_put rfl rfl offs_d rfl (fun L s' H Q k => ?_)
          refine TL_y (y_move (e_t (H.p rfl))) ?_
          exact TL_nil k
        · refine d_put rfl rfl rfl rfl (fun L s' H Q k => ?_)
          refine TL_y (y_move (e_t (H.p rfl))) ?_
          exact TL_nil k
        · refine d_put rfl rfl offs_d rfl (fun L s' H Q k => ?_)
          refine TL_y (y_move (e_t (H.p rfl))) ?_
          exact TL_nil k
        · refine d_put rfl rfl rfl rfl (fun L s' H Q k => ?_)
          refine TL_y (y_index_ge (e_t (H.t 4 rfl)) (e_t (H.t 5 rfl)) (H.g 0 rfl) (ix_some ht34).1 (ix_lt ht34) tysl28) ?_
          exact TL_nil k
        · refine d_put rfl rfl offs_d rfl (fun L s' H Q k => ?_)
          refine TL_load_ge (i := a1.toNat) (off := 0) (e_t (H.t 6 rfl)) (H.g 0 rfl) (ix_some ht34).2 Sub.self ty39 ?_
          exact TL_nil k
        · refine d_put rfl rfl rfl rfl (fun L s' H Q k => ?_)
          refine TL_y (y_move (e_t (H.p rfl))) ?_
          exact TL_nil k
        · refine d_put rfl rfl offs_d rfl (fun L s' H Q k => ?_)
          refine TL_y (y_move (e_t (H.p rfl))) ?_
          exact TL_nil k
        · refine d_put rfl rfl rfl rfl (fun L s' H Q k => ?_)
          refine TL_y (y_index_ge (e_t (H.t 8 rfl)) (e_t (H.t 9 rfl)) (H.g 0 rfl) (ix_some ht35).1 (ix_lt ht35) tysl28) ?_
          exact TL_nil k
        · refine d_put rfl rfl offs_d rfl (fun L s' H Q k => ?_)
          refine TL_load_ge (i := s19.toNat) (off := 0) (e_t (H.t 10 rfl)) (H.g 0 rfl) (ix_some ht35).2 Sub.self ty39 ?_
          exact TL_nil k
        · refine d_put rfl rfl rfl rfl (fun L s' H Q k => ?_)
          refine TL_y (y_index_ge (e_t (H.t 0 rfl)) (e_t (H.t 1 rfl)) (H.g 0 rfl) (ix_some ht36).1 (ix_lt ht36) tysl28) ?_
          exact TL_nil k
        · refine d_rstore rfl rfl rfl rfl rfl (fun L s' H Q k => ?_)
          refine TL_store_ge (i := s19.toNat) (e_t (H.t 12 rfl)) (H.g 0 rfl) (ix_lt ht36) (e_t (H.t 7 rfl)) ty39 ?_
          exact TL_nil k
        · refine d_put rfl rfl rfl rfl (fun L s' H Q k => ?_)
          refine TL_y (y_index_ge (e_t (H.t 2 rfl)) (e_t (H.t 3 rfl)) (H.g 1 rfl) (ix_some ht37).1 (ix_lt ht37) tysl28) ?_
          exact TL_nil k
        · refine d_rstore rfl rfl rfl rfl rfl (fun L s' H Q k => ?_)
          refine TL_store_ge (i := a1.toNat) (e_t (H.t 14 rfl)) (H.g 1 rfl) (ix_lt ht37) (e_t (H.t 11 rfl)) ty39 ?_
          exact TL_nil k
        refine z_nt ?_
        refine T_seq ?_
        refine T_region ?_
        refine TL_y (y_move (e_t rfl)) ?_
        refine TL_y (y_assign (e_t rfl)) ?_
        refine TL_y (y_assign (e_b true)) ?_
        refine TL_nil ?_
        refine z_nt ?_
        refine T_ret ?_
        refine z_rt ?_
        obtain rfl := Option.some.inj h
        exact zl_ret2 (n := _) ok_base (fn := Try.f129) rfl (rl_t rfl) (rl_t rfl) (le_k (ks := []) (bs := []) (gs := [5000]) .nil .nil (.cons rfl .nil))
      · replace h := cond_f hb33 h
        refine T_skip ?_
        refine z_nt ?_
        refine T_seq ?_
        refine T_le (le_k (ks := [0, 1, 4, 12, 13, 69, 70, 71]) (bs := []) (gs := [5000]) (ti := []) (.cons rfl (.cons rfl (.cons rfl (.cons rfl (.cons rfl (.cons rfl (.cons rfl (.cons rfl .nil)))))))) .nil (.cons rfl .nil)) ?_
        obtain ⟨t38, ht38, h⟩ := bind_some h
        obtain ⟨t39, ht39, h⟩ := bind_some h
        obtain ⟨t40, ht40, h⟩ := bind_some h
        obtain ⟨t41, ht41, h⟩ := bind_some h
        refine T_drawn hmix (by kernel_rfl) (by kernel_rfl) [some (.g 5000), some (.d (s5 : Int)), some (.g 5000), some (.d (s19 : Int)), some (.g 5000), some (.d (s19 : Int)), some (.ge 5000 (s19.toNat * 33 + 0)), some (.d (t38 : Member)), some (.g 5000), some (.d (s5 : Int)), some (.ge 5000 (s5.toNat * 33 + 0)), some (.d (t39 : Member)), some (.ge 5000 (s5.toNat * 33 + 0)), none, some (.ge 5000 (s19.toNat * 33 + 0)), none] [] [(none, some 13, 5000, (⟨39, (((a0.set a1.toNat t1).set a3.toNat t2) : List Member)⟩ : GV _)), (some 13, some 15, 5000, (⟨39, ((((a0.set a1.toNat t1).set a3.toNat t2).set s5.toNat t38) : List Member)⟩ : GV _)), (some 15, none, 5000, (⟨39, (((((a0.set a1.toNat t1).set a3.toNat t2).set s5.toNat t38).set s19.toNat t39) : List Member)⟩ : GV _))] [] rfl trivial ⟨rfl, trivial⟩ rfl rfl rfl ⟨?_, ?_, ?_, ?_, ?_, ?_, ?_, ?_, ?_, ?_, ?_, ?_, ?_, ?_, ?_, ?_, trivial⟩ (Z_le (le_k (ks := [0, 1, 4, 12, 13, 69, 70, 71, 87, 88, 89, 90, 91, 92, 93, 94, 95, 96, 97, 98, 99, 100]) (bs := []) (gs := [5000]) (ti := []) (.cons rfl (.cons rfl (.cons rfl (.cons rfl (.cons rfl (.cons rfl (.cons rfl (.cons rfl (.cons rfl (.cons rfl (.cons rfl (.cons rfl (.cons rfl (.cons rfl (.cons rfl (.cons rfl (.cons rfl (.cons rfl (.cons rfl (.cons rfl (.cons rfl (.cons rfl .nil)))))))))))))))))))))) .nil (.cons rfl .nil)) ?_)
        · refine d_put rfl rfl rfl rfl (fun L s' H Q k => ?_)
          refine TL_y (y_move (e_t (H.p rfl))) ?_
          exact TL_nil k
        · refine d_put rfl rfl offs_d rfl (fun L s' H Q k => ?_)
          refine TL_y (y_move (e_t (H.p rfl))) ?_
          exact TL_nil k
        · refine d_put rfl rfl rfl rfl (fun L s' H Q k => ?_)
          refine TL_y (y_move (e_t (H.p rfl))) ?_
          exact TL_nil k
        · refine d_put rfl rfl offs_d rfl (fun L s' H Q k => ?_)
          refine TL_y (y_move (e_t (H.p rfl))) ?_
          exact TL_nil k
        · refine d_put rfl rfl rfl rfl (fun L s' H Q k => ?_)
          refine TL_y (y_move (e_t (H.p rfl))) ?_
          exact TL_nil k
        · refine d_put rfl rfl offs_d rfl (fun L s' H Q k => ?_)
          refine TL_y (y_move (e_t (H.p rfl))) ?_
          exact TL_nil k
        · refine d_put rfl rfl rfl rfl (fun L s' H Q k => ?_)
          refine TL_y (y_index_ge (e_t (H.t 4 rfl)) (e_t (H.t 5 rfl)) (H.g 0 rfl) (ix_some ht38).1 (ix_lt ht38) tysl28) ?_
          exact TL_nil k
        · refine d_put rfl rfl offs_d rfl (fun L s' H Q k => ?_)
          refine TL_load_ge (i := s19.toNat) (off := 0) (e_t (H.t 6 rfl)) (H.g 0 rfl) (ix_some ht38).2 Sub.self ty39 ?_
          exact TL_nil k
        · refine d_put rfl rfl rfl rfl (fun L s' H Q k => ?_)
          refine TL_y (y_move (e_t (H.p rfl))) ?_
          exact TL_nil k
        · refine d_put rfl rfl offs_d rfl (fun L s' H Q k => ?_)
          refine TL_y (y_move (e_t (H.p rfl))) ?_
          exact TL_nil k
        · refine d_put rfl rfl rfl rfl (fun L s' H Q k => ?_)
          refine TL_y (y_index_ge (e_t (H.t 8 rfl)) (e_t (H.t 9 rfl)) (H.g 0 rfl) (ix_some ht39).1 (ix_lt ht39) tysl28) ?_
          exact TL_nil k
        · refine d_put rfl rfl offs_d rfl (fun L s' H Q k => ?_)
          refine TL_load_ge (i := s5.toNat) (off := 0) (e_t (H.t 10 rfl)) (H.g 0 rfl) (ix_some ht39).2 Sub.self ty39 ?_
          exact TL_nil k
        · refine d_put rfl rfl rfl rfl (fun L s' H Q k => ?_)
          refine TL_y (y_index_ge (e_t (H.t 0 rfl)) (e_t (H.t 1 rfl)) (H.g 0 rfl) (ix_some ht40).1 (ix_lt ht40) tysl28) ?_
          exact TL_nil k
        · refine d_rstore rfl rfl rfl rfl rfl (fun L s' H Q k => ?_)
          refine TL_store_ge (i := s5.toNat) (e_t (H.t 12 rfl)) (H.g 0 rfl) (ix_lt ht40) (e_t (H.t 7 rfl)) ty39 ?_
          exact TL_nil k
        · refine d_put rfl rfl rfl rfl (fun L s' H Q k => ?_)
          refine TL_y (y_index_ge (e_t (H.t 2 rfl)) (e_t (H.t 3 rfl)) (H.g 1 rfl) (ix_some ht41).1 (ix_lt ht41) tysl28) ?_
          exact TL_nil k
        · refine d_rstore rfl rfl rfl rfl rfl (fun L s' H Q k => ?_)
          refine TL_store_ge (i := s19.toNat) (e_t (H.t 14 rfl)) (H.g 1 rfl) (ix_lt ht41) (e_t (H.t 11 rfl)) ty39 ?_
          exact TL_nil k
        refine z_nt ?_
        refine T_seq ?_
        refine T_region ?_
        refine TL_y (y_move (e_t rfl)) ?_
        refine TL_y (y_add (e_t rfl) (e_i (1))) ?_
        refine TL_y (y_assign (e_t rfl)) ?_
        refine TL_nil ?_
        refine z_nt ?_
        refine T_seq ?_
        refine T_region ?_
        refine TL_y (y_move (e_t rfl)) ?_
        refine TL_y (y_sub (e_t rfl) (e_i (1))) ?_
        refine TL_y (y_assign (e_t rfl)) ?_
        refine TL_nil ?_
        refine z_nt ?_
        refine T_seq ?_
        obtain ⟨o44, ho44, h⟩ := bind_some h
        refine T_loopin (S := fun (s42 : (List Member) × Int × Int) => ⟨[(0, .g 5000), (1, .d (a1 : Int)), (13, .d (s42.2.2 : Int)), (12, .d (s42.2.1 : Int))], ⟨[], [(5000, ⟨39, (s42.1 : List Member)⟩)], []⟩⟩) (fun z => z = o44) (fun s42 e => ?_) (fun hfall45 => ?_)
        · subst e
          refine z_nt ?_
          refine T_seq ?_
          refine T_le (le_k (ks := [0, 1, 13, 12]) (bs := []) (gs := [5000]) (ti := []) (.cons rfl (.cons rfl (.cons rfl (.cons rfl .nil)))) .nil (.cons rfl .nil)) ?_
          obtain ⟨t80, ht80, h⟩ := bind_some h
          obtain ⟨t81, ht81, h⟩ := bind_some h
          obtain ⟨t82, ht82, h⟩ := bind_some h
          obtain ⟨t83, ht83, h⟩ := bind_some h
          refine T_drawn hmix (by kernel_rfl) (by kernel_rfl) [some (.g 5000), some (.d (s42.2.2 : Int)), some (.g 5000), some (.d (a1 : Int)), some (.g 5000), some (.d (a1 : Int)), some (.ge 5000 (a1.toNat * 33 + 0)), some (.d (t80 : Member)), some (.g 5000), some (.d (s42.2.2 : Int)), some (.ge 5000 (s42.2.2.toNat * 33 + 0)), some (.d (t81 : Member)), some (.ge 5000 (s42.2.2.toNat * 33 + 0)), none, some (.ge 5000 (a1.toNat * 33 + 0)), none] [] [(none, some 13, 5000, (⟨39, (s42.1 : List Member)⟩ : GV _)), (some 13, some 15, 5000, (⟨39, ((s42.1.set s42.2.2.toNat t80) : List Member)⟩ : GV _)), (some 15, none, 5000, (⟨39, (((s42.1.set s42.2.2.toNat t80).set a1.toNat t81) : List Member)⟩ : GV _))] [] rfl trivial ⟨rfl, trivial⟩ rfl rfl rfl ⟨?_, ?_, ?_, ?_, ?_, ?_, ?_, ?_, ?_, ?_, ?_, ?_, ?_, ?_, ?_, ?_, trivial⟩ (Z_le (le_k (ks := [0, 1, 13, 12, 163, 164, 165, 166, 167, 168, 169, 170, 171, 172, 173, 174, 175, 176]) (bs := []) (gs := [5000]) (ti := []) (.cons rfl (.cons rfl (.cons rfl (.cons rfl (.cons rfl (.cons rfl (.cons rfl (.cons rfl (.cons rfl (.cons rfl (.cons rfl (.cons rfl (.cons rfl (.cons rfl (.cons rfl (.cons rfl (.cons rfl (.cons rfl .nil)))))))))))))))))) .nil (.cons rfl .nil)) ?_)
          · refine d_put rfl rfl rfl rfl (fun L s' H Q k => ?_)
            refine TL_y (y_move (e_t (H.p rfl))) ?_
            exact TL_nil k
          · refine d_put rfl rfl offs_d rfl (fun L s' H Q k => ?_)
            refine TL_y (y_move (e_t (H.p rfl))) ?_
            exact TL_nil k
          · refine d_put rfl rfl rfl rfl (fun L s' H Q k => ?_)
            refine TL_y (y_move (e_t (H.p rfl))) ?_
            exact TL_nil k
          · refine d_put rfl rfl offs_d rfl (fun L s' H Q k => ?_)
            refine TL_y (y_move (e_t (H.p rfl))) ?_
            exact TL_nil k
          · refine d_put rfl rfl rfl rfl (fun L s' H Q k => ?_)
            refine TL_y (y_move (e_t (H.p rfl))) ?_
            exact TL_nil k
          · refine d_put rfl rfl offs_d rfl (fun L s' H Q k => ?_)
            refine TL_y (y_move (e_t (H.p rfl))) ?_
            exact TL_nil k
          · refine d_put rfl rfl rfl rfl (fun L s' H Q k => ?_)
            refine TL_y (y_index_ge (e_t (H.t 4 rfl)) (e_t (H.t 5 rfl)) (H.g 0 rfl) (ix_some ht80).1 (ix_lt ht80) tysl28) ?_
            exact TL_nil k
          · refine d_put rfl rfl offs_d rfl (fun L s' H Q k => ?_)
            refine TL_load_ge (i := a1.toNat) (off := 0) (e_t (H.t 6 rfl)) (H.g 0 rfl) (ix_some ht80).2 Sub.self ty39 ?_
            exact TL_nil k
          · refine d_put rfl rfl rfl rfl (fun L s' H Q k => ?_)
            refine TL_y (y_move (e_t (H.p rfl))) ?_
            exact TL_nil k
          · refine d_put rfl rfl offs_d rfl (fun L s' H Q k => ?_)
            refine TL_y (y_move (e_t (H.p rfl))) ?_
            exact TL_nil k
          · refine d_put rfl rfl rfl rfl (fun L s' H Q k => ?_)
            refine TL_y (y_index_ge (e_t (H.t 8 rfl)) (e_t (H.t 9 rfl)) (H.g 0 rfl) (ix_some ht81).1 (ix_lt ht81) tysl28) ?_
            exact TL_nil k
          · refine d_put rfl rfl offs_d rfl (fun L s' H Q k => ?_)
            refine TL_load_ge (i := s42.2.2.toNat) (off := 0) (e_t (H.t 10 rfl)) (H.g 0 rfl) (ix_some ht81).2 Sub.self ty39 ?_
            exact TL_nil k
          · refine d_put rfl rfl rfl rfl (fun L s' H Q k => ?_)
            refine TL_y (y_index_ge (e_t (H.t 0 rfl)) (e_t (H.t 1 rfl)) (H.g 0 rfl) (ix_some ht82).1 (ix_lt ht82) tysl28) ?_
            exact TL_nil k
          · refine d_rstore rfl rfl rfl rfl rfl (fun L s' H Q k => ?_)
            refine TL_store_ge (i := s42.2.2.toNat) (e_t (H.t 12 rfl)) (H.g 0 rfl) (ix_lt ht82) (e_t (H.t 7 rfl)) ty39 ?_
            exact TL_nil k
          · refine d_put rfl rfl rfl rfl (fun L s' H Q k => ?_)
            refine TL_y (y_index_ge (e_t (H.t 2 rfl)) (e_t (H.t 3 rfl)) (H.g 1 rfl) (ix_some ht83).1 (ix_lt ht83) tysl28) ?_
            exact TL_nil k
          · refine d_rstore rfl rfl rfl rfl rfl (fun L s' H Q k => ?_)
            refine TL_store_ge (i := a1.toNat) (e_t (H.t 14 rfl)) (H.g 1 rfl) (ix_lt ht83) (e_t (H.t 11 rfl)) ty39 ?_
            exact TL_nil k
          refine z_nt ?_
          refine T_seq ?_
          refine T_region ?_
          refine TL_y (y_move (e_t rfl)) ?_
          refine TL_y (y_assign (e_t rfl)) ?_
          refine TL_y (y_assign (e_b false)) ?_
          refine TL_nil ?_
          refine z_nt ?_
          refine T_ret ?_
          obtain rfl := Option.some.inj h
          exact zl_ret2 (n := _) ok_base (fn := Try.f129) rfl (rl_t rfl) (rl_t rfl) (le_k (ks := []) (bs := []) (gs := [5000]) .nil .nil (.cons rfl .nil))
        · clear h
          refine TW_le (le_k (ks := [0, 1, 4, 12, 13]) (bs := []) (gs := [5000]) (.cons rfl (.cons rfl (.cons rfl (.cons rfl (.cons rfl .nil))))) .nil (.cons rfl .nil)) (fuel_ind (fun (s42 : (List Member) × Int × Int) => ⟨[(0, .g 5000), (1, .d (a1 : Int)), (4, .d (a4 : (Fn2 Member Member Int))), (12, .d (s42.2.1 : Int)), (13, .d (s42.2.2 : Int))], ⟨[], [(5000, ⟨39, (s42.1 : List Member)⟩)], []⟩⟩) (fun k s => sl_partitionCmpFunc_Member_l2 a1 a4 k s = some o44) ?_ ?_ _ (((((a0.set a1.toNat t1).set a3.toNat t2).set s5.toNat t38).set s19.toNat t39), (w64 (s5 + 1)), (w64 (s19 - 1))) ho44)
          · intro s h
            cases h
          · intro ks42 s42 ih h
            replace h : (((sl_partitionCmpFunc_Member_l3 s42 a1 a4 FUEL s42.2.1).bind fun s47 => ((sl_partitionCmpFunc_Member_l4 s47 s42 a1 a4 FUEL s42.2.2).bind fun s61 => (bif (decide (s61 < s47)) then some (s42.1, s47, s61) else (ix s42.1 s61).bind fun t76 => (ix s42.1 s47).bind fun t77 => (ix s42.1 s47).bind fun t78 => (ix (s42.1.set s47.toNat t76) s61).bind fun t79 => sl_partitionCmpFunc_Member_l2 a1 a4 ks42 (((s42.1.set s47.toNat t76).set s61.toNat t77), (w64 (s47 + 1)), (w64 (s61 - 1))))))) = some o44 := h
            refine TW_round ?_
            refine T_block ?_
            refine T_seq ?_
            obtain ⟨o49, ho49, h⟩ := bind_some h
            refine T_loopin (S := fun (s47 : Int) => ⟨[(0, .g 5000), (1, .d (a1 : Int)), (4, .d (a4 : (Fn2 Member Member Int))), (12, .d (s47 : Int)), (13, .d (s42.2.2 : Int))], ⟨[], [(5000, ⟨39, (s42.1 : List Member)⟩)], []⟩⟩) (fun z => z = o49) (fun s47 e => ?_) (fun hfall50 => ?_)
            · subst e
              refine z_nt ?_
              refine T_seq ?_
              obtain ⟨o63, ho63, h⟩ := bind_some h
              refine T_loopin (S := fun (s61 : Int) => ⟨[(0, .g 5000), (1, .d (a1 : Int)), (4, .d (a4 : (Fn2 Member Member Int))), (12, .d (s47 : Int)), (13, .d (s61 : Int))], ⟨[], [(5000, ⟨39, (s42.1 : List Member)⟩)], []⟩⟩) (fun z => z = o63) (fun s61 e => ?_) (fun hfall64 => ?_)
              · subst e
                refine z_nt ?_
                refine T_seq ?_
                refine T_seq ?_
                refine T_region ?_
                refine TL_y (y_move (e_t rfl)) ?_
                refine TL_y (y_move (e_t rfl)) ?_
                refine TL_y (y_gtr (e_t rfl) (e_t rfl)) ?_
                refine TL_nil ?_
                refine z_nt ?_
                refine T_cond rfl (fun hb75 => ?_) (fun hb75 => ?_)
                · replace h := cond_t hb75 h
                  refine T_exit ?_
                  refine z_et ?_
                  refine z_eo ?_
                  refine z_et ?_
                  refine z_ei ?_
                  exact Z_le (le_k (ks := [0, 1, 13, 12]) (bs := []) (gs := [5000]) (.cons rfl (.cons rfl (.cons rfl (.cons rfl .nil)))) .nil (.cons rfl .nil)) (hfall45 _ (Option.some.inj h))
                · replace h := cond_f hb75 h
                  refine T_skip ?_
                  refine z_nt ?_
                  refine T_seq ?_
                  refine T_le (le_k (ks := [0, 1, 4, 12, 13, 142, 143, 144]) (bs := []) (gs := [5000]) (ti := []) (.cons rfl (.cons rfl (.cons rfl (.cons rfl (.cons rfl (.cons rfl (.cons rfl (.cons rfl .nil)))))))) .nil (.cons rfl .nil)) ?_
                  obtain ⟨t76, ht76, h⟩ := bind_some h
                  obtain ⟨t77, ht77, h⟩ := bind_some h
                  obtain ⟨t78, ht78, h⟩ := bind_some h
                  obtain ⟨t79, ht79, h⟩ := bind_some h
                  refine T_drawn hmix (by kernel_rfl) (by kernel_rfl) [some (.g 5000), some (.d (s47 : Int)), some (.g 5000), some (.d (s61 : Int)), some (.g 5000), some (.d (s61 : Int)), some (.ge 5000 (s61.toNat * 33 + 0)), some (.d (t76 : Member)), some (.g 5000), some (.d (s47 : Int)), some (.ge 5000 (s47.toNat * 33 + 0)), some (.d (t77 : Member)), some (.ge 5000 (s47.toNat * 33 + 0)), none, some (.ge 5000 (s61.toNat * 33 + 0)), none] [] [(none, some 13, 5000, (⟨39, (s42.1 : List Member)⟩ : GV _)), (some 13, some 15, 5000, (⟨39, ((s42.1.set s47.toNat t76) : List Member)⟩ : GV _)), (some 15, none, 5000, (⟨39, (((s42.1.set s47.toNat t76).set s61.toNat t77) : List Member)⟩ : GV _))] [] rfl trivial ⟨rfl, trivial⟩ rfl rfl rfl ⟨?_, ?_, ?_, ?_, ?_, ?_, ?_, ?_, ?_, ?_, ?_, ?_, ?_, ?_, ?_, ?_, trivial⟩ (Z_le (le_k (ks := [0, 1, 4, 12, 13, 142, 143, 144, 145, 146, 147, 148, 149, 150, 151, 152, 153, 154, 155, 156, 157, 158]) (bs := []) (gs := [5000]) (ti := []) (.cons rfl (.cons rfl (.cons rfl (.cons rfl (.cons rfl (.cons rfl (.cons rfl (.cons rfl (.cons rfl (.cons rfl (.cons rfl (.cons rfl (.cons rfl (.cons rfl (.cons rfl (.cons rfl (.cons rfl (.cons rfl (.cons rfl (.cons rfl (.cons rfl (.cons rfl .nil)))))))))))))))))))))) .nil (.cons rfl .nil)) ?_)
                  · refine d_put rfl rfl rfl rfl (fun L s' H Q k => ?_)
                    refine TL_y (y_move (e_t (H.p rfl))) ?_
                    exact TL_nil k
                  · refine d_put rfl rfl offs_d rfl (fun L s' H Q k => ?_)
                    refine TL_y (y_move (e_t (H.p rfl))) ?_
                    exact TL_nil k
                  · refine d_put rfl rfl rfl rfl (fun L s' H Q k => ?_)
                    refine TL_y (y_move (e_t (H.p rfl))) ?_
                    exact TL_nil k
                  · refine d_put rfl rfl offs_d rfl (fun L s' H Q k => ?_)
                    refine TL_y (y_move (e_t (H.p rfl))) ?_
                    exact TL_nil k
                  · refine d_put rfl rfl rfl rfl (fun L s' H Q k => ?_)
                    refine TL_y (y_move (e_t (H.p rfl))) ?_
                    exact TL_nil k
                  · refine d_put rfl rfl offs_d rfl (fun L s' H Q k => ?_)
                    refine TL_y (y_move (e_t (H.p rfl))) ?_
                    exact TL_nil k
                  · refine d_put rfl rfl rfl rfl (fun L s' H Q k => ?_)
                    refine TL_y (y_index_ge (e_t (H.t 4 rfl)) (e_t (H.t 5 rfl)) (H.g 0 rfl) (ix_some ht76).1 (ix_lt ht76) tysl28) ?_
                    exact TL_nil k
                  · refine d_put rfl rfl offs_d rfl (fun L s' H Q k => ?_)
                    refine TL_load_ge (i := s61.toNat) (off := 0) (e_t (H.t 6 rfl)) (H.g 0 rfl) (ix_some ht76).2 Sub.self ty39 ?_
                    exact TL_nil k
                  · refine d_put rfl rfl rfl rfl (fun L s' H Q k => ?_)
                    refine TL_y (y_move (e_t (H.p rfl))) ?_
                    exact TL_nil k
                  · refine d_put rfl rfl offs_d rfl (fun L s' H Q k => ?_)
                    refine TL_y (y_move (e_t (H.p rfl))) ?_
                    exact TL_nil k
                  · refine d_put rfl rfl rfl rfl (fun L s' H Q k => ?_)
                    refine TL_y (y_index_ge (e_t (H.t 8 rfl)) (e_t (H.t 9 rfl)) (H.g 0 rfl) (ix_some ht77).1 (ix_lt ht77) tysl28) ?_
                    exact TL_nil k
                  · refine d_put rfl rfl offs_d rfl (fun L s' H Q k => ?_)
                    refine TL_load_ge (i := s47.toNat) (off := 0) (e_t (H.t 10 rfl)) (H.g 0 rfl) (ix_some ht77).2 Sub.self ty39 ?_
                    exact TL_nil k
                  · refine d_put rfl rfl rfl rfl (fun L s' H Q k => ?_)
                    refine TL_y (y_index_ge (e_t (H.t 0 rfl)) (e_t (H.t 1 rfl)) (H.g 0 rfl) (ix_some ht78).1 (ix_lt ht78) tysl28) ?_
                    exact TL_nil k
                  · refine d_rstore rfl rfl rfl rfl rfl (fun L s' H Q k => ?_)
                    refine TL_store_ge (i := s47.toNat) (e_t (H.t 12 rfl)) (H.g 0 rfl) (ix_lt ht78) (e_t (H.t 7 rfl)) ty39 ?_
                    exact TL_nil k
                  · refine d_put rfl rfl rfl rfl (fun L s' H Q k => ?_)
                    refine TL_y (y_index_ge (e_t (H.t 2 rfl)) (e_t (H.t 3 rfl)) (H.g 1 rfl) (ix_some ht79).1 (ix_lt ht79) tysl28) ?_
                    exact TL_nil k
                  · refine d_rstore rfl rfl rfl rfl rfl (fun L s' H Q k => ?_)
                    refine TL_store_ge (i := s61.toNat) (e_t (H.t 14 rfl)) (H.g 1 rfl) (ix_lt ht79) (e_t (H.t 11 rfl)) ty39 ?_
                    exact TL_nil k
                  refine z_nt ?_
                  refine T_seq ?_
                  refine T_region ?_
                  refine TL_y (y_move (e_t rfl)) ?_
                  refine TL_y (y_add (e_t rfl) (e_i (1))) ?_
                  refine TL_y (y_assign (e_t rfl)) ?_
                  refine TL_nil ?_
                  refine z_nt ?_
                  refine T_region ?_
                  refine TL_y (y_move (e_t rfl)) ?_
                  refine TL_y (y_sub (e_t rfl) (e_i (1))) ?_
                  refine TL_y (y_assign (e_t rfl)) ?_
                  refine TL_nil ?_
                  refine z_nb ?_
                  refine z_nl ?_
                  exact TW_le (le_k (ks := [0, 1, 4, 12, 13]) (bs := []) (gs := [5000]) (.cons rfl (.cons rfl (.cons rfl (.cons rfl (.cons rfl .nil))))) .nil (.cons rfl .nil)) (ih _ h)
              · clear h
                refine TW_le (le_k (ks := [0, 1, 4, 12, 13]) (bs := []) (gs := [5000]) (.cons rfl (.cons rfl (.cons rfl (.cons rfl (.cons rfl .nil))))) .nil (.cons rfl .nil)) (fuel_ind (fun (s61 : Int) => ⟨[(0, .g 5000), (1, .d (a1 : Int)), (4, .d (a4 : (Fn2 Member Member Int))), (12, .d (s47 : Int)), (13, .d (s61 : Int))], ⟨[], [(5000, ⟨39, (s42.1 : List Member)⟩)], []⟩⟩) (fun k s => sl_partitionCmpFunc_Member_l4 s47 s42 a1 a4 k s = some o63) ?_ ?_ _ s42.2.2 ho63)
                · intro s h
                  cases h
                · intro ks61 s61 ih h
                  replace h : (((bif (decide (s47 ≤ s61)) then (ix s42.1 s61).bind fun t71 => (ix s42.1 a1).bind fun t72 => (a4.f t71 t72).bind fun t73 => some (!(decide (t73 < 0))) else some false)).bind fun t70 => (bif t70 then sl_partitionCmpFunc_Member_l4 s47 s42 a1 a4 ks61 (w64 (s61 - 1)) else some s61)) = some o63 := h
                  refine TW_round ?_
                  refine T_seq ?_
                  refine T_seq ?_
                  refine T_draw hmix (by kernel_rfl) ?_
                  refine TQ_y (y_move (e_t rfl)) ?_
                  refine TQ_y (y_move (e_t rfl)) ?_
                  refine TQ_y (y_leq (e_t rfl) (e_t rfl)) ?_
                  refine TQ_y (y_move (e_t rfl)) ?_
                  obtain ⟨t70, ht70, h⟩ := bind_some h
                  refine TQ_cut 13 139 (r := t70) (decide (s47 ≤ s61)) ?_ (fun hb66 hk => ?_) (fun hb66 hk => ?_)
                  rotate_left
                  · replace h := cond_t hb66 ht70
                    refine TQ_want rfl hb66 ?_
                    refine TQ_y (y_move (e_t rfl)) ?_
                    refine TQ_want rfl hb66 ?_
                    refine TQ_y (y_move (e_t rfl)) ?_
                    refine TQ_want rfl hb66 ?_
                    refine TQ_y (y_move (e_t rfl)) ?_
                    refine TQ_want rfl hb66 ?_
                    obtain ⟨t71, ht71, h⟩ := bind_some h
                    refine TQ_y (y_index_ge (e_t rfl) (e_t rfl) rfl (ix_some ht71).1 (ix_lt ht71) tysl28) ?_
                    refine TQ_want rfl hb66 ?_
                    refine TQ_y (y_load_ge (i := s61.toNat) (off := 0) (e_t rfl) rfl (ix_some ht71).2 Sub.self ty39) ?_
                    refine TQ_want rfl hb66 ?_
                    refine TQ_y (y_move (e_t rfl)) ?_
                    refine TQ_want rfl hb66 ?_
                    refine TQ_y (y_move (e_t rfl)) ?_
                    refine TQ_want rfl hb66 ?_
                    obtain ⟨t72, ht72, h⟩ := bind_some h
                    refine TQ_y (y_index_ge (e_t rfl) (e_t rfl) rfl (ix_some ht72).1 (ix_lt ht72) tysl28) ?_
                    refine TQ_want rfl hb66 ?_
                    refine TQ_y (y_load_ge (i := a1.toNat) (off := 0) (e_t rfl) rfl (ix_some ht72).2 Sub.self ty39) ?_
                    refine TQ_want rfl hb66 ?_
                    obtain ⟨t73, ht73, h⟩ := bind_some h
                    refine TQ_y (y_callv2 (e_t rfl) (e_t rfl) (e_t rfl) ht73) ?_
                    refine TQ_want rfl hb66 ?_
                    refine TQ_y (y_lss (e_t rfl) (e_i (0))) ?_
                    refine TQ_want rfl hb66 ?_
                    refine TQ_y (y_not (e_t rfl)) ?_
                    obtain rfl := Option.some.inj h
                    refine TQ_y (y_pick_t (e_t rfl) hb66 (e_t rfl)) ?_
                    exact TQ_fr hk (.cons (.cons (.cons (.cons (.cons (.cons (.cons (.cons (.cons (.cons (.cons (.cons (.refl _) rfl) rfl) rfl) rfl) rfl) rfl) rfl) rfl) rfl) rfl) rfl) rfl)
                  · obtain rfl := Option.some.inj (cond_f hb66 ht70)
                    refine TQ_skip0 rfl hb66 ?_
                    refine TQ_skip0 rfl hb66 ?_
                    refine TQ_skip0 rfl hb66 ?_
                    refine TQ_skip0 rfl hb66 ?_
                    refine TQ_skip0 rfl hb66 ?_
                    refine TQ_skip0 rfl hb66 ?_
                    refine TQ_skip0 rfl hb66 ?_
                    refine TQ_skip0 rfl hb66 ?_
                    refine TQ_skip0 rfl hb66 ?_
                    refine TQ_skip0 rfl hb66 ?_
                    refine TQ_skip0 rfl hb66 ?_
                    refine TQ_skip0 rfl hb66 ?_
                    refine TQ_y (y_pick_f (e_t rfl) hb66 (e_b false)) ?_
                    exact TQ_fr hk (.refl _)
                  refine TQ_nil ?_
                  refine z_nt ?_
                  refine T_cond rfl (fun hb74 => ?_) (fun hb74 => ?_)
                  · replace h := cond_t hb74 h
                    refine T_skip ?_
                    refine z_nt ?_
                    refine T_block ?_
                    refine T_region ?_
                    refine TL_y (y_move (e_t rfl)) ?_
                    refine TL_y (y_sub (e_t rfl) (e_i (1))) ?_
                    refine TL_y (y_assign (e_t rfl)) ?_
                    refine TL_nil ?_
                    refine z_nb ?_
                    refine z_nl ?_
                    exact TW_le (le_k (ks := [0, 1, 4, 12, 13]) (bs := []) (gs := [5000]) (.cons rfl (.cons rfl (.cons rfl (.cons rfl (.cons rfl .nil))))) .nil (.cons rfl .nil)) (ih _ h)
                  · replace h := cond_f hb74 h
                    refine T_exit ?_
                    refine z_et ?_
                    refine z_et ?_
                    refine z_ei ?_
                    exact Z_le (le_k (ks := [0, 1, 4, 12, 13]) (bs := []) (gs := [5000]) (.cons rfl (.cons rfl (.cons rfl (.cons rfl (.cons rfl .nil))))) .nil (.cons rfl .nil)) (hfall64 _ (Option.some.inj h))
            · clear h
              refine TW_le (le_k (ks := [0, 1, 4, 12, 13]) (bs := []) (gs := [5000]) (.cons rfl (.cons rfl (.cons rfl (.cons rfl (.cons rfl .nil))))) .nil (.cons rfl .nil)) (fuel_ind (fun (s47 : Int) => ⟨[(0, .g 5000), (1, .d (a1 : Int)), (4, .d (a4 : (Fn2 Member Member Int))), (12, .d (s47 : Int)), (13, .d (s42.2.2 : Int))], ⟨[], [(5000, ⟨39, (s42.1 : List Member)⟩)], []⟩⟩) (fun k s => sl_partitionCmpFunc_Member_l3 s42 a1 a4 k s = some o49) ?_ ?_ _ s42.2.1 ho49)
              · intro s h
                cases h
              · intro ks47 s47 ih h
                replace h : (((bif (decide (s47 ≤ s42.2.2)) then (ix s42.1 s47).bind fun t57 => (ix s42.1 a1).bind fun t58 => (a4.f t57 t58).bind fun t59 => some (decide (t59 < 0)) else some false)).bind fun t56 => (bif t56 then sl_partitionCmpFunc_Member_l3 s42 a1 a4 ks47 (w64 (s47 + 1)) else some s47)) = some o49 := h
                refine TW_round ?_
                refine T_seq ?_
                refine T_seq ?_
                refine T_draw hmix (by kernel_rfl) ?_
                refine TQ_y (y_move (e_t rfl)) ?_
                refine TQ_y (y_move (e_t rfl)) ?_
                refine TQ_y (y_leq (e_t rfl) (e_t rfl)) ?_
                refine TQ_y (y_move (e_t rfl)) ?_
                obtain ⟨t56, ht56, h⟩ := bind_some h
                refine TQ_cut 12 120 (r := t56) (decide (s47 ≤ s42.2.2)) ?_ (fun hb52 hk => ?_) (fun hb52 hk => ?_)
                rotate_left
                · replace h := cond_t hb52 ht56
                  refine TQ_want rfl hb52 ?_
                  refine TQ_y (y_move (e_t rfl)) ?_
                  refine TQ_want rfl hb52 ?_
                  refine TQ_y (y_move (e_t rfl)) ?_
                  refine TQ_want rfl hb52 ?_
                  refine TQ_y (y_move (e_t rfl)) ?_
                  refine TQ_want rfl hb52 ?_
                  obtain ⟨t57, ht57, h⟩ := bind_some h
                  refine TQ_y (y_index_ge (e_t rfl) (e_t rfl) rfl (ix_some ht57).1 (ix_lt ht57) tysl28) ?_
                  refine TQ_want rfl hb52 ?_
                  refine TQ_y (y_load_ge (i := s47.toNat) (off := 0) (e_t rfl) rfl (ix_some ht57).2 Sub.self ty39) ?_
                  refine TQ_want rfl hb52 ?_
                  refine TQ_y (y_move (e_t rfl)) ?_
                  refine TQ_want rfl hb52 ?_
                  refine TQ_y (y_move (e_t rfl)) ?_
                  refine TQ_want rfl hb52 ?_
                  obtain ⟨t58, ht58, h⟩ := bind_some h
                  refine TQ_y (y_index_ge (e_t rfl) (e_t rfl) rfl (ix_some ht58).1 (ix_lt ht58) tysl28) ?_
                  refine TQ_want rfl hb52 ?_
                  refine TQ_y (y_load_ge (i := a1.toNat) (off := 0) (e_t rfl) rfl (ix_some ht58).2 Sub.self ty39) ?_
                  refine TQ_want rfl hb52 ?_
                  obtain ⟨t59, ht59, h⟩ := bind_some h
                  refine TQ_y (y_callv2 (e_t rfl) (e_t rfl) (e_t rfl) ht59) ?_
                  refine TQ_want rfl hb52 ?_
                  refine TQ_y (y_lss (e_t rfl) (e_i (0))) ?_
                  obtain rfl := Option.some.inj h
                  refine TQ_y (y_pick_t (e_t rfl) hb52 (e_t rfl)) ?_
                  exact TQ_fr hk (.cons (.cons (.cons (.cons (.cons (.cons (.cons (.cons (.cons (.cons (.cons (.refl _) rfl) rfl) rfl) rfl) rfl) rfl) rfl) rfl) rfl) rfl) rfl)
                · obtain rfl := Option.some.inj (cond_f hb52 ht56)
                  refine TQ_skip0 rfl hb52 ?_
                  refine TQ_skip0 rfl hb52 ?_
                  refine TQ_skip0 rfl hb52 ?_
                  refine TQ_skip0 rfl hb52 ?_
                  refine TQ_skip0 rfl hb52 ?_
                  refine TQ_skip0 rfl hb52 ?_
                  refine TQ_skip0 rfl hb52 ?_
                  refine TQ_skip0 rfl hb52 ?_
                  refine TQ_skip0 rfl hb52 ?_
                  refine TQ_skip0 rfl hb52 ?_
                  refine TQ_skip0 rfl hb52 ?_
                  refine TQ_y (y_pick_f (e_t rfl) hb52 (e_b false)) ?_
                  exact TQ_fr hk (.refl _)
                refine TQ_nil ?_
                refine z_nt ?_
                refine T_cond rfl (fun hb60 => ?_) (fun hb60 => ?_)
                · replace h := cond_t hb60 h
                  refine T_skip ?_
                  refine z_nt ?_
                  refine T_block ?_
                  refine T_region ?_
                  refine TL_y (y_move (e_t rfl)) ?_
                  refine TL_y (y_add (e_t rfl) (e_i (1))) ?_
                  refine TL_y (y_assign (e_t rfl)) ?_
                  refine TL_nil ?_
                  refine z_nb ?_
                  refine z_nl ?_
                  exact TW_le (le_k (ks := [0, 1, 4, 12, 13]) (bs := []) (gs := [5000]) (.cons rfl (.cons rfl (.cons rfl (.cons rfl (.cons rfl .nil))))) .nil (.cons rfl .nil)) (ih _ h)
                · replace h := cond_f hb60 h
                  refine T_exit ?_
                  refine z_et ?_
                  refine z_et ?_
                  refine z_ei ?_
                  exact Z_le (le_k (ks := [0, 1, 4, 12, 13]) (bs := []) (gs := [5000]) (.cons rfl (.cons rfl (.cons rfl (.cons rfl (.cons rfl .nil))))) .nil (.cons rfl .nil)) (hfall50 _ (Option.some.inj h))
    · clear h
      refine TW_le (le_k (ks := [0, 1, 4, 12, 13]) (bs := []) (gs := [5000]) (.cons rfl (.cons rfl (.cons rfl (.cons rfl (.cons rfl .nil))))) .nil (.cons rfl .nil)) (fuel_ind (fun (s19 : Int) => ⟨[(0, .g 5000), (1, .d (a1 : Int)), (4, .d (a4 : (Fn2 Member Member Int))), (12, .d (s5 : Int)), (13, .d (s19 : Int))], ⟨[], [(5000, ⟨39, (((a0.set a1.toNat t1).set a3.toNat t2) : List Member)⟩)], []⟩⟩) (fun k s => sl_partitionCmpFunc_Member_l1 s5 a0 a1 t1 a3 t2 a4 k s = some o21) ?_ ?_ _ (w64 (a2 - 1)) ho21)
      · intro s h
        cases h
      · intro ks19 s19 ih h
        replace h : (((bif (decide (s5 ≤ s19)) then (ix ((a0.set a1.toNat t1).set a3.toNat t2) s19).bind fun t29 => (ix ((a0.set a1.toNat t1).set a3.toNat t2) a1).bind fun t30 => (a4.f t29 t30).bind fun t31 => some (!(decide (t31 < 0))) else some false)).bind fun t28 => (bif t28 then sl_partitionCmpFunc_Member_l1 s5 a0 a1 t1 a3 t2 a4 ks19 (w64 (s19 - 1)) else some s19)) = some o21 := h
        refine TW_round ?_
        refine T_seq ?_
        refine T_seq ?_
        refine T_draw hmix (by kernel_rfl) ?_
        refine TQ_y (y_move (e_t rfl)) ?_
        refine TQ_y (y_move (e_t rfl)) ?_
        refine TQ_y (y_leq (e_t rfl) (e_t rfl)) ?_
        refine TQ_y (y_move (e_t rfl)) ?_
        obtain ⟨t28, ht28, h⟩ := bind_some h
        refine TQ_cut 13 66 (r := t28) (decide (s5 ≤ s19)) ?_ (fun hb24 hk => ?_) (fun hb24 hk => ?_)
        rotate_left
        · replace h := cond_t hb24 ht28
          refine TQ_want rfl hb24 ?_
          refine TQ_y (y_move (e_t rfl)) ?_
          refine TQ_want rfl hb24 ?_
          refine TQ_y (y_move (e_t rfl)) ?_
          refine TQ_want rfl hb24 ?_
          refine TQ_y (y_move (e_t rfl)) ?_
          refine TQ_want rfl hb24 ?_
          obtain ⟨t29, ht29, h⟩ := bind_some h
          refine TQ_y (y_index_ge (e_t rfl) (e_t rfl) rfl (ix_some ht29).1 (ix_lt ht29) tysl28) ?_
          refine TQ_want rfl hb24 ?_
          refine TQ_y (y_load_ge (i := s19.toNat) (off := 0) (e_t rfl) rfl (ix_some ht29).2 Sub.self ty39) ?_
          refine TQ_want rfl hb24 ?_
          refine TQ_y (y_move (e_t rfl)) ?_
          refine TQ_want rfl hb24 ?_
          refine TQ_y (y_move (e_t rfl)) ?_
          refine TQ_want rfl hb24 ?_
          obtain ⟨t30, ht30, h⟩ := bind_some h
          refine TQ_y (y_index_ge (e_t rfl) (e_t rfl) rfl (ix_some ht30).1 (ix_lt ht30) tysl28) ?_
          refine TQ_want rfl hb24 ?_
          refine TQ_y (y_load_ge (i := a1.toNat) (off := 0) (e_t rfl) rfl (ix_some ht30).2 Sub.self ty39) ?_
          refine TQ_want rfl hb24 ?_
          obtain ⟨t31, ht31, h⟩ := bind_some h
          refine TQ_y (y_callv2 (e_t rfl) (e_t rfl) (e_t rfl) ht31) ?_
          refine TQ_want rfl hb24 ?_
          refine TQ_y (y_lss (e_t rfl) (e_i (0))) ?_
          refine TQ_want rfl hb24 ?_
          refine TQ_y (y_not (e_t rfl)) ?_
          obtain rfl := Option.some.inj h
          refine TQ_y (y_pick_t (e_t rfl) hb24 (e_t rfl)) ?_
          exact TQ_fr hk (.cons (.cons (.cons (.cons (.cons (.cons (.cons (.cons (.cons (.cons (.cons (.cons (.refl _) rfl) rfl) rfl) rfl) rfl) rfl) rfl) rfl) rfl) rfl) rfl) rfl)
        · obtain rfl := Option.some.inj (cond_f hb24 ht28)
          refine TQ_skip0 rfl hb24 ?_
          refine TQ_skip0 rfl hb24 ?_
          refine TQ_skip0 rfl hb24 ?_
          refine TQ_skip0 rfl hb24 ?_
          refine TQ_skip0 rfl hb24 ?_
          refine TQ_skip0 rfl hb24 ?_
          refine TQ_skip0 rfl hb24 ?_
          refine TQ_skip0 rfl hb24 ?_
          refine TQ_skip0 rfl hb24 ?_
          refine TQ_skip0 rfl hb24 ?_
          refine TQ_skip0 rfl hb24 ?_
          refine TQ_skip0 rfl hb24 ?_
          refine TQ_y (y_pick_f (e_t rfl) hb24 (e_b false)) ?_
          exact TQ_fr hk (.refl _)
        refine TQ_nil ?_
        refine z_nt ?_
        refine T_cond rfl (fun hb32 => ?_) (fun hb32 => ?_)
        · replace h := cond_t hb32 h
          refine T_skip ?_
          refine z_nt ?_
          refine T_block ?_
          refine T_region ?_
          refine TL_y (y_move (e_t rfl)) ?_
          refine TL_y (y_sub (e_t rfl) (e_i (1))) ?_
          refine TL_y (y_assign (e_t rfl)) ?_
          refine TL_nil ?_
          refine z_nb ?_
          refine z_nl ?_
          exact TW_le (le_k (ks := [0, 1, 4, 12, 13]) (bs := []) (gs := [5000]) (.cons rfl (.cons rfl (.cons rfl (.cons rfl (.cons rfl .nil))))) .nil (.cons rfl .nil)) (ih _ h)
        · replace h := cond_f hb32 h
          refine T_exit ?_
          refine z_et ?_
          refine z_et ?_
          refine z_ei ?_
          exact Z_le (le_k (ks := [0, 1, 4, 12, 13]) (bs := []) (gs := [5000]) (.cons rfl (.cons rfl (.cons rfl (.cons rfl (.cons rfl .nil))))) .nil (.cons rfl .nil)) (hfall22 _ (Option.some.inj h))
  · clear h
    refine TW_le (le_k (ks := [0, 1, 4, 12, 13]) (bs := []) (gs := [5000]) (.cons rfl (.cons rfl (.cons rfl (.cons rfl (.cons rfl .nil))))) .nil (.cons rfl .nil)) (fuel_ind (fun (s5 : Int) => ⟨[(0, .g 5000), (1, .d (a1 : Int)), (4, .d (a4 : (Fn2 Member Member Int))), (12, .d (s5 : Int)), (13, .d ((w64 (a2 - 1)) : Int))], ⟨[], [(5000, ⟨39, (((a0.set a1.toNat t1).set a3.toNat t2) : List Member)⟩)], []⟩⟩) (fun k s => sl_partitionCmpFunc_Member_l0 a2 a0 a1 t1 a3 t2 a4 k s = some o7) ?_ ?_ _ (w64 (a1 + 1)) ho7)
    · intro s h
      cases h
    · intro ks5 s5 ih h
      replace h : (((bif (decide (s5 ≤ (w64 (a2 - 1)))) then (ix ((a0.set a1.toNat t1).set a3.toNat t2) s5).bind fun t15 => (ix ((a0.set a1.toNat t1).set a3.toNat t2) a1).bind fun t16 => (a4.f t15 t16).bind fun t17 => some (decide (t17 < 0)) else some false)).bind fun t14 => (bif t14 then sl_partitionCmpFunc_Member_l0 a2 a0 a1 t1 a3 t2 a4 ks5 (w64 (s5 + 1)) else some s5)) = some o7 := h
      refine TW_round ?_
      refine T_seq ?_
      refine T_seq ?_
      refine T_draw hmix (by kernel_rfl) ?_
      refine TQ_y (y_move (e_t rfl)) ?_
      refine TQ_y (y_move (e_t rfl)) ?_
      refine TQ_y (y_leq (e_t rfl) (e_t rfl)) ?_
      refine TQ_y (y_move (e_t rfl)) ?_
      obtain ⟨t14, ht14, h⟩ := bind_some h
      refine TQ_cut 12 47 (r := t14) (decide (s5 ≤ (w64 (a2 - 1)))) ?_ (fun hb10 hk => ?_) (fun hb10 hk => ?_)
      rotate_left
      · replace h := cond_t hb10 ht14
        refine TQ_want rfl hb10 ?_
        refine TQ_y (y_move (e_t rfl)) ?_
        refine TQ_want rfl hb10 ?_
        refine TQ_y (y_move (e_t rfl)) ?_
        refine TQ_want rfl hb10 ?_
        refine TQ_y (y_move (e_t rfl)) ?_
        refine TQ_want rfl hb10 ?_
        obtain ⟨t15, ht15, h⟩ := bind_some h
        refine TQ_y (y_index_ge (e_t rfl) (e_t rfl) rfl (ix_some ht15).1 (ix_lt ht15) tysl28) ?_
        refine TQ_want rfl hb10 ?_
        refine TQ_y (y_load_ge (i := s5.toNat) (off := 0) (e_t rfl) rfl (ix_some ht15).2 Sub.self ty39) ?_
        refine TQ_want rfl hb10 ?_
        refine TQ_y (y_move (e_t rfl)) ?_
        refine TQ_want rfl hb10 ?_
        refine TQ_y (y_move (e_t rfl)) ?_
        refine TQ_want rfl hb10 ?_
        obtain ⟨t16, ht16, h⟩ := bind_some h
        refine TQ_y (y_index_ge (e_t rfl) (e_t rfl) rfl (ix_some ht16).1 (ix_lt ht16) tysl28) ?_
        refine TQ_want rfl hb10 ?_
        refine TQ_y (y_load_ge (i := a1.toNat) (off := 0) (e_t rfl) rfl (ix_some ht16).2 Sub.self ty39) ?_
        refine TQ_want rfl hb10 ?_
        obtain ⟨t17, ht17, h⟩ := bind_some h
        refine TQ_y (y_callv2 (e_t rfl) (e_t rfl) (e_t rfl) ht17) ?_
        refine TQ_want rfl hb10 ?_
        refine TQ_y (y_lss (e_t rfl) (e_i (0))) ?_
        obtain rfl := Option.some.inj h
        refine TQ_y (y_pick_t (e_t rfl) hb10 (e_t rfl)) ?_
        exact TQ_fr hk (.cons (.cons (.cons (.cons (.cons (.cons (.cons (.cons (.cons (.cons (.cons (.refl _) rfl) rfl) rfl) rfl) rfl) rfl) rfl) rfl) rfl) rfl) rfl)
      · obtain rfl := Option.some.inj (cond_f hb10 ht14)
        refine TQ_skip0 rfl hb10 ?_
        refine TQ_skip0 rfl hb10 ?_
        refine TQ_skip0 rfl hb10 ?_
        refine TQ_skip0 rfl hb10 ?_
        refine TQ_skip0 rfl hb10 ?_
        refine TQ_skip0 rfl hb10 ?_
        refine TQ_skip0 rfl hb10 ?_
        refine TQ_skip0 rfl hb10 ?_
        refine TQ_skip0 rfl hb10 ?_
        refine TQ_skip0 rfl hb10 ?_
        refine TQ_skip0 rfl hb10 ?_
        refine TQ_y (y_pick_f (e_t rfl) hb10 (e_b false)) ?_
        exact TQ_fr hk (.refl _)
      refine TQ_nil ?_
      refine z_nt ?_
      refine T_cond rfl (fun hb18 => ?_) (fun hb18 => ?_)
      · replace h := cond_t hb18 h
        refine T_skip ?_
        refine z_nt ?_
        refine T_block ?_
        refine T_region ?_
        refine TL_y (y_move (e_t rfl)) ?_
        refine TL_y (y_add (e_t rfl) (e_i (1))) ?_
        refine TL_y (y_assign (e_t rfl)) ?_
        refine TL_nil ?_
        refine z_nb ?_
        refine z_nl ?_
        exact TW_le (le_k (ks := [0, 1, 4, 12, 13]) (bs := []) (gs := [5000]) (.cons rfl (.cons rfl (.cons rfl (.cons rfl (.cons rfl .nil))))) .nil (.cons rfl .nil)) (ih _ h)
      · replace h := cond_f hb18 h
        refine T_exit ?_
        refine z_et ?_
        refine z_et ?_
        refine z_ei ?_
        exact Z_le (le_k (ks := [0, 1, 4, 12, 13]) (bs := []) (gs := [5000]) (.cons rfl (.cons rfl (.cons rfl (.cons rfl (.cons rfl .nil))))) .nil (.cons rfl .nil)) (hfall8 _ (Option.some.inj h))
end Go.Ph
