/- WHAT IS PROVED: part of the proof that posthouselaw11.LookupKeeps returns true at every input and leaves its arguments alone. CONDITIONS: none beyond the row. -/
import Derived.Test.YtcjpoiepdnkgoaaBaseA
import Derived.Test.YtcjpoiepdnkgoaaPA
import Derived.Test.YtcjpoiepdnkgoaaPC
set_option maxRecDepth 4000
set_option maxHeartbeats 4000000
namespace Go.Ph
open Go.Proofs
def node_Next (a0 : Node) (a1 : Id) : Option (Member × Bool × Int) := (node_Right a0).bind fun t1 => (bif (!t1) then some ((Member.zero : Member), false, 1) else (ix a0.succs 0).bind fun t3 => (ident_In a1 a0.self.id t3.id).bind fun t4 => (bif t4 then some (t3, true, 0) else (sl_Concat_Member ([a0.fingers, a0.succs] : List (List Member))).bind fun t6 => (finger_Closest a1 a0.self.id t6).bind fun t7 => (bif (!decide (t7.2 = 0)) then (ix a0.succs 0).bind fun t9 => some (t9, false, 0) else some (t7.1, false, 0))))
theorem node_Next_ok {a0 : Node} {a1 : Id} {r : (Member × Bool × Int)} (h : node_Next a0 a1 = some r) : Fn Try.prog 100 [.d a0, .d a1] (.t3 (.d r.1) (.d r.2.1) (.d r.2.2)) := by
  refine Fn.of Try.func100 rfl fun w m => ?_
  unfold node_Next at h
  refine T_seq ?_
  refine T_region ?_
  refine TL_box (e_t rfl) ?_
  refine TL_box (e_t rfl) ?_
  refine TL_alloc z39 ?_
  refine TL_y (y_assign (e_b false)) ?_
  refine TL_y (y_assign (e_i (0))) ?_
  refine TL_nil ?_
  refine z_nt ?_
  refine T_seq ?_
  refine T_seq ?_
  refine T_region ?_
  refine TL_y (y_load (e_t rfl) rfl Sub.self ty44) ?_
  obtain ⟨t1, ht1, h⟩ := bind_some h
  refine TL_call (xs := [.d (a0 : Node)]) (node_Right_ok ht1) ⟨(e_t rfl), trivial⟩ c48 ?_
  refine TL_y (y_not (e_t rfl)) ?_
  refine TL_nil ?_
  refine z_nt ?_
  refine T_cond rfl (fun hb2 => ?_) (fun hb2 => ?_)
  · replace h := cond_t hb2 h
    refine T_seq ?_
    refine T_region ?_
    refine TL_y (y_build z39 pl39 (b_nil) rfl) ?_
    refine TL_store (e_t rfl) rfl (e_t rfl) Put.self ty39 (by decide) ?_
    refine TL_y (y_assign (e_b false)) ?_
    refine TL_y (y_assign (e_i (1))) ?_
    refine TL_nil ?_
    refine z_nt ?_
    refine T_ret ?_
    refine z_rt ?_
    obtain rfl := Option.some.inj h
    exact Z_ret3 (fn := Try.f100) rfl (rv_c rfl rfl ty39) (rv_t rfl) (rv_t rfl)
  · replace h := cond_f hb2 h
    refine T_skip ?_
    refine z_nt ?_
    refine T_seq ?_
    refine T_seq ?_
    refine T_region ?_
    refine TL_y (y_fieldAddr (e_t rfl) fo44_2) ?_
    refine TL_y (y_load (e_t rfl) rfl s_Node_succs ty28) ?_
    obtain ⟨t3, ht3, h⟩ := bind_some h
    refine TL_y (y_indexIx (e_t rfl) (e_i (0)) ht3 tysl28) ?_
    refine TL_y (y_load_ptr (e_t rfl) ty39) ?_
    refine TL_alloc z39 ?_
    refine TL_store (e_t rfl) rfl (e_t rfl) Put.self ty39 (by decide) ?_
    refine TL_nil ?_
    refine z_nt ?_
    refine T_seq ?_
    refine T_region ?_
    refine TL_y (y_load (e_t rfl) rfl Sub.self ty26) ?_
    refine TL_y (y_fieldAddr (e_t rfl) fo44_0) ?_
    refine TL_y (y_fieldAddr (e_t rfl) fo39_1) ?_
    refine TL_y (y_load (e_t rfl) rfl s_Node_self_id ty26) ?_
    refine TL_y (y_fieldAddr (e_t rfl) fo39_1) ?_
    refine TL_y (y_load (e_t rfl) rfl s_Member_id ty26) ?_
    obtain ⟨t4, ht4, h⟩ := bind_some h
    refine TL_call (xs := [.d (a1 : Id), .d (a0.self.id : Id), .d (t3.id : Id)]) (ident_In_ok ht4) ⟨(e_t rfl), (e_t rfl), (e_t rfl), trivial⟩ c107 ?_
    refine TL_nil ?_
    refine z_nt ?_
    refine T_cond rfl (fun hb5 => ?_) (fun hb5 => ?_)
    · replace h := cond_t hb5 h
      refine T_seq ?_
      refine T_region ?_
      refine TL_y (y_load (e_t rfl) rfl Sub.self ty39) ?_
      refine TL_store (e_t rfl) rfl (e_t rfl) Put.self ty39 (by decide) ?_
      refine TL_y (y_assign (e_b true)) ?_
      refine TL_y (y_assign (e_i (0))) ?_
      refine TL_nil ?_
      refine z_nt ?_
      refine T_ret ?_
      refine z_rt ?_
      obtain rfl := Option.some.inj h
      exact Z_ret3 (fn := Try.f100) rfl (rv_c rfl rfl ty39) (rv_t rfl) (rv_t rfl)
    · replace h := cond_f hb5 h
      refine T_skip ?_
      refine z_nt ?_
      refine T_seq ?_
      refine T_le (le_k (ks := [0, 1, 2, 3, 4, 5, 6, 10, 11, 12, 14, 15, 16, 17, 7, 18, 19, 20, 21, 22, 23, 24]) (bs := [2, 3, 4, 7]) (gs := []) (ti := []) (.cons rfl (.cons rfl (.cons rfl (.cons rfl (.cons rfl (.cons rfl (.cons rfl (.cons rfl (.cons rfl (.cons rfl (.cons rfl (.cons rfl (.cons rfl (.cons rfl (.cons rfl (.cons rfl (.cons rfl (.cons rfl (.cons rfl (.cons rfl (.cons rfl (.cons rfl .nil)))))))))))))))))))))) (.cons rfl (.cons rfl (.cons rfl (.cons rfl .nil)))) .nil) ?_
      obtain ⟨t6, ht6, h⟩ := bind_some h
      obtain ⟨t7, ht7, h⟩ := bind_some h
      refine T_drawn hmix (by kernel_rfl) (by kernel_rfl) [some (.d (a1 : Id)), some (.p 2 0), some (.p 2 1), some (.d (a0.self.id : Id)), some (.p 2 67), some (.d (a0.fingers : (List Member))), some (.p 2 66), some (.d (a0.succs : (List Member))), some (.d (([a0.fingers, a0.succs] : List (List Member)) : (List (List Member)))), some (.d (t6 : (List Member))), some (.t2 (.d (t7.1 : Member)) (.d (t7.2 : Int))), some (.t2 (.d (t7.1 : Member)) (.d (t7.2 : Int))), some (.d (t7.1 : Member)), some (.d (t7.2 : Int)), some (.p 8 0), none, some (.d (t7.2 : Int))] [(none, none, 2, (⟨(a0 : Node)⟩ : BV _)), (none, none, 3, (⟨(a1 : Id)⟩ : BV _)), (none, none, 4, (⟨(Member.zero : Member)⟩ : BV _)), (none, none, 7, (⟨(t3 : Member)⟩ : BV _)), (some 14, some 15, 8, (⟨(Member.zero : Member)⟩ : BV _)), (some 15, none, 8, (⟨(t7.1 : Member)⟩ : BV _))] [] [] rfl ⟨rfl, rfl, rfl, rfl, trivial⟩ trivial rfl rfl rfl ⟨?_, ?_, ?_, ?_, ?_, ?_, ?_, ?_, ?_, ?_, ?_, ?_, ?_, ?_, ?_, ?_, ?_, trivial⟩ (Z_le (le_k (ks := [0, 1, 2, 3, 4, 5, 6, 10, 11, 12, 14, 15, 16, 17, 7, 18, 19, 20, 21, 22, 23, 24, 27, 28, 29, 30, 31, 32, 33, 34, 35, 36, 37, 26, 38, 39, 8, 9]) (bs := [2, 3, 4, 7, 8]) (gs := []) (ti := []) (.cons rfl (.cons rfl (.cons rfl (.cons rfl (.cons rfl (.cons rfl (.cons rfl (.cons rfl (.cons rfl (.cons rfl (.cons rfl (.cons rfl (.cons rfl (.cons rfl (.cons rfl (.cons rfl (.cons rfl (.cons rfl (.cons rfl (.cons rfl (.cons rfl (.cons rfl (.cons rfl (.cons rfl (.cons rfl (.cons rfl (.cons rfl (.cons rfl (.cons rfl (.cons rfl (.cons rfl (.cons rfl (.cons rfl (.cons rfl (.cons rfl (.cons rfl (.cons rfl (.cons rfl .nil)))))))))))))))))))))))))))))))))))))) (.cons rfl (.cons rfl (.cons rfl (.cons rfl (.cons rfl .nil))))) .nil) ?_)
      · refine d_put rfl rfl offs_d rfl (fun L s' H Q k => ?_)
        refine TL_y (y_load (e_t (H.p rfl)) (H.b 1 rfl) Sub.self ty26) ?_
        exact TL_nil k
      · refine d_put rfl rfl rfl rfl (fun L s' H Q k => ?_)
        refine TL_y (y_fieldAddr (e_t (H.p rfl)) fo44_0) ?_
        exact TL_nil k
      · refine d_put rfl rfl rfl rfl (fun L s' H Q k => ?_)
        refine TL_y (y_fieldAddr (e_t (H.t 1 rfl)) fo39_1) ?_
        exact TL_nil k
      · refine d_put rfl rfl offs_d rfl (fun L s' H Q k => ?_)
        refine TL_y (y_load (e_t (H.t 2 rfl)) (H.b 0 rfl) s_Node_self_id ty26) ?_
        exact TL_nil k
      · refine d_put rfl rfl rfl rfl (fun L s' H Q k => ?_)
        refine TL_y (y_fieldAddr (e_t (H.p rfl)) fo44_3) ?_
        exact TL_nil k
      · refine d_put rfl rfl offs_d rfl (fun L s' H Q k => ?_)
        refine TL_y (y_load (e_t (H.t 4 rfl)) (H.b 0 rfl) s_Node_fingers ty28) ?_
        exact TL_nil k
      · refine d_put rfl rfl rfl rfl (fun L s' H Q k => ?_)
        refine TL_y (y_fieldAddr (e_t (H.p rfl)) fo44_2) ?_
        exact TL_nil k
      · refine d_put rfl rfl offs_d rfl (fun L s' H Q k => ?_)
        refine TL_y (y_load (e_t (H.t 6 rfl)) (H.b 0 rfl) s_Node_succs ty28) ?_
        exact TL_nil k
      · refine d_putN rfl rfl offs_d rfl rfl (fun L s' H hgo hgr Q k => ?_)
        refine TL_buildSlice_d (xs := ([a0.fingers, a0.succs] : List (List Member))) (⟨rfl, (e_t (H.t 5 rfl)), ⟨rfl, (e_t (H.t 7 rfl)), trivial⟩⟩) tyel133 rfl hgo hgr ?_
        exact TL_nil k
      · refine d_put rfl rfl offs_d rfl (fun L s' H Q k => ?_)
        refine TL_call (xs := [.d (([a0.fingers, a0.succs] : List (List Member)) : (List (List Member)))]) (sl_Concat_Member_ok ht6) ⟨(e_t (H.t 8 rfl)), trivial⟩ c81 ?_
        exact TL_nil k
      · refine d_put rfl rfl offs_t2 rfl (fun L s' H Q k => ?_)
        refine TL_call (xs := [.d (a1 : Id), .d (a0.self.id : Id), .d (t6 : (List Member))]) (finger_Closest_ok ht7) ⟨(e_t (H.t 0 rfl)), (e_t (H.t 3 rfl)), (e_t (H.t 9 rfl)), trivial⟩ c114 ?_
        exact TL_nil k
      · refine d_put rfl rfl offs_t2 rfl (fun L s' H Q k => ?_)
        refine TL_y (y_move (e_t (H.t 10 rfl))) ?_
        exact TL_nil k
      · refine d_put rfl rfl offs_d rfl (fun L s' H Q k => ?_)
        refine TL_y (y_extract2_0 (e_t (H.t 11 rfl))) ?_
        exact TL_nil k
      · refine d_put rfl rfl offs_d rfl (fun L s' H Q k => ?_)
        refine TL_y (y_extract2_1 (e_t (H.t 11 rfl))) ?_
        exact TL_nil k
      · refine d_box rfl rfl rfl rfl rfl (fun L s' H ho Q k => ?_)
        refine TL_alloc z39 ?_ ho
        exact TL_nil k
      · refine d_store 0 33 rfl rfl rfl rfl (fun L s' H Q k => ?_)
        refine TL_store (e_t (H.t 14 rfl)) (H.b 4 rfl) (e_t (H.t 12 rfl)) Put.self ty39 (by decide) ?_
        exact TL_nil k
      · refine d_put rfl rfl offs_d rfl (fun L s' H Q k => ?_)
        refine TL_y (y_assign (e_t (H.t 13 rfl))) ?_
        exact TL_nil k
      refine z_nt ?_
      refine T_seq ?_
      refine T_seq ?_
      refine T_region ?_
      refine TL_y (y_move (e_t rfl)) ?_
      refine TL_y (y_neq (e_t rfl) (e_i (0))) ?_
      refine TL_nil ?_
      refine z_nt ?_
      refine T_cond rfl (fun hb8 => ?_) (fun hb8 => ?_)
      · replace h := cond_t hb8 h
        refine T_seq ?_
        refine T_region ?_
        refine TL_y (y_fieldAddr (e_t rfl) fo44_2) ?_
        refine TL_y (y_load (e_t rfl) rfl s_Node_succs ty28) ?_
        obtain ⟨t9, ht9, h⟩ := bind_some h
        refine TL_y (y_indexIx (e_t rfl) (e_i (0)) ht9 tysl28) ?_
        refine TL_y (y_load_ptr (e_t rfl) ty39) ?_
        refine TL_store (e_t rfl) rfl (e_t rfl) Put.self ty39 (by decide) ?_
        refine TL_y (y_assign (e_b false)) ?_
        refine TL_y (y_assign (e_i (0))) ?_
        refine TL_nil ?_
        refine z_nt ?_
        refine T_ret ?_
        refine z_rt ?_
        obtain rfl := Option.some.inj h
        exact Z_ret3 (fn := Try.f100) rfl (rv_c rfl rfl ty39) (rv_t rfl) (rv_t rfl)
      · replace h := cond_f hb8 h
        refine T_skip ?_
        refine z_nt ?_
        refine T_seq ?_
        refine T_region ?_
        refine TL_y (y_load (e_t rfl) rfl Sub.self ty39) ?_
        refine TL_store (e_t rfl) rfl (e_t rfl) Put.self ty39 (by decide) ?_
        refine TL_y (y_assign (e_b false)) ?_
        refine TL_y (y_assign (e_i (0))) ?_
        refine TL_nil ?_
        refine z_nt ?_
        refine T_ret ?_
        obtain rfl := Option.some.inj h
        exact Z_ret3 (fn := Try.f100) rfl (rv_c rfl rfl ty39) (rv_t rfl) (rv_t rfl)
def lookup_asks_l0 (a0 : Overlay) : List Member → Nat → (List Int) → Option ((List Int))
  | [], _, s5 => some s5
  | x10 :: xsx10, i6, s5 => (((sl_ContainsFunc_Node a0.nodes (⟨fun x => lookup_asks_2 x x10⟩ : (Fn1 Node Bool))).bind fun t14 => (bif (!t14) then (app s5 ([x10.no] : List Int)).bind fun t16 => some t16 else some s5) : Option ((List Int))).bind fun s11 => lookup_asks_l0 a0 xsx10 (i6 + 1) s11)
def lookup_asks (a0 : Overlay) (a1 : Int) (a2 : Id) : Option (LookupAnswer × Bool) := (sl_IndexFunc_Node a0.nodes (⟨fun x => lookup_asks_1 x a1⟩ : (Fn1 Node Bool))).bind fun t1 => (bif (decide (t1 < 0)) then some ((LookupAnswer.zero : LookupAnswer), false) else (ix a0.nodes t1).bind fun t3 => (sl_Concat_Member ([([t3.pred] : List Member), t3.succs, t3.fingers] : List (List Member))).bind fun t4 => ((lookup_asks_l0 a0 t4 0 ([] : List Int)).bind fun s5 => (node_Drop t3 s5).bind fun t17 => (node_Owns t17.1 a2).bind fun t18 => (bif t18 then some (({ { LookupAnswer.zero with who := t17.1.self } with owner := true } : LookupAnswer), true) else (node_Next t17.1 a2).bind fun t20 => some (({ { LookupAnswer.zero with who := t20.1 } with owner := t20.2.1 } : LookupAnswer), true))))
theorem lookup_asks_ok {a0 : Overlay} {a1 : Int} {a2 : Id} {r : (LookupAnswer × Bool)} (h : lookup_asks a0 a1 a2 = some r) : Fn Try.prog 69 [.d a0, .d a1, .d a2] (.t2 (.d r.1) (.d r.2)) := by
  refine Fn.of Try.func69 rfl fun w m => ?_
  unfold lookup_asks at h
  refine T_seq ?_
  refine T_region ?_
  refine TL_box (e_t rfl) ?_
  refine TL_box (e_t rfl) ?_
  refine TL_box (e_t rfl) ?_
  refine TL_alloc z73 ?_
  refine TL_y (y_assign (e_b false)) ?_
  refine TL_nil ?_
  refine z_nt ?_
  refine T_seq ?_
  refine T_region ?_
  refine TL_y (y_fieldAddr (e_t rfl) fo24_0) ?_
  refine TL_y (y_load (e_t rfl) rfl s_Overlay_nodes ty22) ?_
  refine TL_le (le_k (ks := [4, 0, 1, 2, 3, 5, 6, 7, 16, 17]) (bs := [4, 3, 5, 6]) (gs := []) (ti := []) (.cons rfl (.cons rfl (.cons rfl (.cons rfl (.cons rfl (.cons rfl (.cons rfl (.cons rfl (.cons rfl (.cons rfl .nil)))))))))) (.cons rfl (.cons rfl (.cons rfl (.cons rfl .nil)))) .nil) (TL_freeze ?_)
  refine TL_y (y_makeFunc1 (F := fun x => lookup_asks_1 x a1) (caps := [.d (⟨a1⟩ : Ptr Int)]) (fun x r h => lookup_asks_1_ok h) ⟨(e_t rfl), trivial⟩ c96) ?_
  obtain ⟨t1, ht1, h⟩ := bind_some h
  refine TL_call (xs := [.d (a0.nodes : (List Node)), .d ((⟨fun x => lookup_asks_1 x a1⟩ : (Fn1 Node Bool)) : (Fn1 Node Bool))]) (sl_IndexFunc_Node_ok ht1) ⟨(e_t rfl), (e_t rfl), trivial⟩ c95 ?_
  refine TL_y (y_assign (e_t rfl)) ?_
  refine TL_nil ?_
  refine z_nt ?_
  refine T_seq ?_
  refine T_seq ?_
  refine T_region ?_
  refine TL_y (y_move (e_t rfl)) ?_
  refine TL_y (y_lss (e_t rfl) (e_i (0))) ?_
  refine TL_nil ?_
  refine z_nt ?_
  refine T_cond rfl (fun hb2 => ?_) (fun hb2 => ?_)
  · replace h := cond_t hb2 h
    refine T_seq ?_
    refine T_region ?_
    refine TL_y (y_build z73 pl73 (b_nil) rfl) ?_
    refine TL_store (e_t rfl) rfl (e_t rfl) Put.self ty73 (by decide) ?_
    refine TL_y (y_assign (e_b false)) ?_
    refine TL_nil ?_
    refine z_nt ?_
    refine T_ret ?_
    refine z_rt ?_
    obtain rfl := Option.some.inj h
    exact Z_ret2 (fn := Try.f69) rfl (rv_c rfl rfl ty73) (rv_t rfl)
  · replace h := cond_f hb2 h
    refine T_skip ?_
    refine z_nt ?_
    refine T_seq ?_
    refine T_region ?_
    refine TL_y (y_fieldAddr (e_t rfl) fo24_0) ?_
    refine TL_y (y_load (e_t rfl) rfl s_Overlay_nodes ty22) ?_
    refine TL_y (y_move (e_t rfl)) ?_
    obtain ⟨t3, ht3, h⟩ := bind_some h
    refine TL_y (y_indexIx (e_t rfl) (e_t rfl) ht3 tysl22) ?_
    refine TL_y (y_load_ptr (e_t rfl) ty44) ?_
    refine TL_alloc z44 ?_
    refine TL_store (e_t rfl) rfl (e_t rfl) Put.self ty44 (by decide) ?_
    refine TL_nil ?_
    refine z_nt ?_
    refine T_seq ?_
    refine T_region ?_
    refine TL_nilg (α := Int) 3 ?_
    refine TL_nil ?_
    refine z_nt ?_
    refine T_seq ?_
    refine T_seq ?_
    refine T_region ?_
    refine TL_y (y_fieldAddr (e_t rfl) fo44_1) ?_
    refine TL_y (y_load (e_t rfl) rfl s_Node_pred ty39) ?_
    refine TL_buildSlice (xs := ([t3.pred] : List Member)) (⟨rfl, (e_t rfl), trivial⟩) tyel28 rfl ?_
    refine TL_y (y_fieldAddr (e_t rfl) fo44_2) ?_
    refine TL_y (y_load (e_t rfl) rfl s_Node_succs ty28) ?_
    refine TL_y (y_fieldAddr (e_t rfl) fo44_3) ?_
    refine TL_y (y_load (e_t rfl) rfl s_Node_fingers ty28) ?_
    refine TL_g2d (q := 30) rfl rfl ?_
    refine TL_buildSlice (xs := ([([t3.pred] : List Member), t3.succs, t3.fingers] : List (List Member))) (⟨rfl, (e_t rfl), ⟨rfl, (e_t rfl), ⟨rfl, (e_t rfl), trivial⟩⟩⟩) tyel133 rfl ?_
    obtain ⟨t4, ht4, h⟩ := bind_some h
    refine TL_g2d (q := 35) rfl rfl ?_
    refine TL_call (xs := [.d (([([t3.pred] : List Member), t3.succs, t3.fingers] : List (List Member)) : (List (List Member)))]) (sl_Concat_Member_ok ht4) ⟨(e_t rfl), trivial⟩ c81 ?_
    refine TL_y (y_len (e_t rfl) (by rw [el28]; exact Try.underlying28)) ?_
    refine TL_y (y_move (e_i (0))) ?_
    refine TL_nil ?_
    refine z_nt ?_
    obtain ⟨o7, ho7, h⟩ := bind_some h
    refine T_loopin (S := fun (s5 : (List Int)) => ⟨[(5, .p 5 0), (6, .p 6 0), (9, .p 9 0), (10, .g 10)], ⟨[(5, ⟨(a2 : Id)⟩), (6, ⟨(LookupAnswer.zero : LookupAnswer)⟩), (9, ⟨(t3 : Node)⟩)], [(10, ⟨3, (s5 : List Int)⟩)], []⟩⟩) (fun z => z = o7) (fun s5 e => ?_) (fun hfall8 => ?_)
    · subst e
      refine z_nt ?_
      refine T_seq ?_
      refine T_region ?_
      refine TL_y (y_load (e_t rfl) rfl Sub.self ty44) ?_
      refine TL_y (y_move (e_t rfl)) ?_
      obtain ⟨t17, ht17, h⟩ := bind_some h
      refine TL_g2d (q := 55) rfl rfl ?_
      refine TL_call (xs := [.d (t3 : Node), .d (s5 : (List Int))]) (node_Drop_ok ht17) ⟨(e_t rfl), (e_t rfl), trivial⟩ c74 ?_
      refine TL_y (y_move (e_t rfl)) ?_
      refine TL_y (y_extract2_0 (e_t rfl)) ?_
      refine TL_y (y_extract2_1 (e_t rfl)) ?_
      refine TL_store (e_t rfl) rfl (e_t rfl) Put.self ty44 (by decide) ?_
      refine TL_nil ?_
      refine z_nt ?_
      refine T_seq ?_
      refine T_seq ?_
      refine T_region ?_
      refine TL_y (y_load (e_t rfl) rfl Sub.self ty44) ?_
      refine TL_y (y_load (e_t rfl) rfl Sub.self ty26) ?_
      obtain ⟨t18, ht18, h⟩ := bind_some h
      refine TL_call (xs := [.d (t17.1 : Node), .d (a2 : Id)]) (node_Owns_ok ht18) ⟨(e_t rfl), (e_t rfl), trivial⟩ c99 ?_
      refine TL_nil ?_
      refine z_nt ?_
      refine T_cond rfl (fun hb19 => ?_) (fun hb19 => ?_)
      · replace h := cond_t hb19 h
        refine T_seq ?_
        refine T_region ?_
        refine TL_y (y_fieldAddr (e_t rfl) fo44_0) ?_
        refine TL_y (y_load (e_t rfl) rfl s_Node_self ty39) ?_
        refine TL_y (y_build z73 pl73 (b_cons (e_t rfl) p_LookupAnswer_who (b_cons (e_b true) p_LookupAnswer_owner (b_nil))) rfl) ?_
        refine TL_store (e_t rfl) rfl (e_t rfl) Put.self ty73 (by decide) ?_
        refine TL_y (y_assign (e_b true)) ?_
        refine TL_nil ?_
        refine z_nt ?_
        refine T_ret ?_
        refine z_rt ?_
        obtain rfl := Option.some.inj h
        exact Z_ret2 (fn := Try.f69) rfl (rv_c rfl rfl ty73) (rv_t rfl)
      · replace h := cond_f hb19 h
        refine T_skip ?_
        refine z_nt ?_
        refine T_seq ?_
        refine T_region ?_
        refine TL_y (y_load (e_t rfl) rfl Sub.self ty44) ?_
        refine TL_y (y_load (e_t rfl) rfl Sub.self ty26) ?_
        obtain ⟨t20, ht20, h⟩ := bind_some h
        refine TL_call (xs := [.d (t17.1 : Node), .d (a2 : Id)]) (node_Next_ok ht20) ⟨(e_t rfl), (e_t rfl), trivial⟩ c100 ?_
        refine TL_y (y_move (e_t rfl)) ?_
        refine TL_y (y_extract3_0 (e_t rfl)) ?_
        refine TL_y (y_extract3_1 (e_t rfl)) ?_
        refine TL_y (y_extract3_2 (e_t rfl)) ?_
        refine TL_alloc z39 ?_
        refine TL_store (e_t rfl) rfl (e_t rfl) Put.self ty39 (by decide) ?_
        refine TL_y (y_assign (e_t rfl)) ?_
        refine TL_y (y_assign (e_t rfl)) ?_
        refine TL_nil ?_
        refine z_nt ?_
        refine T_seq ?_
        refine T_region ?_
        refine TL_y (y_load (e_t rfl) rfl Sub.self ty39) ?_
        refine TL_y (y_move (e_t rfl)) ?_
        refine TL_y (y_build z73 pl73 (b_cons (e_t rfl) p_LookupAnswer_who (b_cons (e_t rfl) p_LookupAnswer_owner (b_nil))) rfl) ?_
        refine TL_store (e_t rfl) rfl (e_t rfl) Put.self ty73 (by decide) ?_
        refine TL_y (y_assign (e_b true)) ?_
        refine TL_nil ?_
        refine z_nt ?_
        refine T_ret ?_
        obtain rfl := Option.some.inj h
        exact Z_ret2 (fn := Try.f69) rfl (rv_c rfl rfl ty73) (rv_t rfl)
    · clear h
      refine TW_le (le_k (ks := [3, 5, 6, 9, 10, 36, 37, 38]) (bs := [3, 5, 6, 9]) (gs := [10]) (.cons rfl (.cons rfl (.cons rfl (.cons rfl (.cons rfl (.cons rfl (.cons rfl (.cons rfl .nil)))))))) (.cons rfl (.cons rfl (.cons rfl (.cons rfl .nil)))) (.cons rfl .nil)) (range_ind t4 (fun (i6 : Nat) (s5 : (List Int)) => ⟨[(3, .p 3 0), (5, .p 5 0), (6, .p 6 0), (9, .p 9 0), (10, .g 10), (36, .d (t4 : (List Member))), (37, .d ((t4.length : Int) : Int)), (38, .d ((i6 : Int) : Int))], ⟨[(3, ⟨(a0 : Overlay)⟩), (5, ⟨(a2 : Id)⟩), (6, ⟨(LookupAnswer.zero : LookupAnswer)⟩), (9, ⟨(t3 : Node)⟩)], [(10, ⟨3, (s5 : List Int)⟩)], []⟩⟩) (fun xs i s => lookup_asks_l0 a0 xs i s = some o7) ?_ ?_ t4 0 ([] : List Int) rfl ho7)
      · intro i s hi h
        refine TW_round (T_seq (T_region ?_))
        refine TL_y (y_lss (e_t rfl) (e_t rfl)) (TL_nil (z_nt (T_seq (T_cond rfl (fun hb => (dec_lt hi hb).elim) (fun _ => T_exit ?_)))))
        refine z_et ?_
        refine z_et ?_
        refine z_ei ?_
        exact Z_le (le_k (ks := [5, 6, 9, 10]) (bs := [5, 6, 9]) (gs := [10]) (.cons rfl (.cons rfl (.cons rfl (.cons rfl .nil)))) (.cons rfl (.cons rfl (.cons rfl .nil))) (.cons rfl .nil)) (hfall8 _ (Option.some.inj h))
      · intro x10 xsx10 i6 s5 hltx10 hx10 ih h
        replace h : ((((sl_ContainsFunc_Node a0.nodes (⟨fun x => lookup_asks_2 x x10⟩ : (Fn1 Node Bool))).bind fun t14 => (bif (!t14) then (app s5 ([x10.no] : List Int)).bind fun t16 => some t16 else some s5) : Option ((List Int))).bind fun s11 => lookup_asks_l0 a0 xsx10 (i6 + 1) s11)) = some o7 := h
        refine TW_round ?_
        refine T_seq (T_region ?_)
        refine TL_y (y_lss (e_t rfl) (e_t rfl)) (TL_nil (z_nt (T_seq (T_cond rfl (fun _ => ?_) (fun hb => (dec_ge hltx10 hb).elim)))))
        refine T_skip ?_
        refine z_nt ?_
        obtain ⟨s11, hs11, h⟩ := bind_some h
        refine T_join (S := fun (s11 : (List Int)) => ⟨[(3, .p 3 0), (5, .p 5 0), (6, .p 6 0), (9, .p 9 0), (10, .g 10), (36, .d (t4 : (List Member))), (37, .d ((t4.length : Int) : Int)), (38, .d ((i6 : Int) : Int))], ⟨[(3, ⟨(a0 : Overlay)⟩), (5, ⟨(a2 : Id)⟩), (6, ⟨(LookupAnswer.zero : LookupAnswer)⟩), (9, ⟨(t3 : Node)⟩)], [(10, ⟨3, (s11 : List Int)⟩)], []⟩⟩) (fun z => s11 = z) (fun z e => ?_) (fun hfall12 => ?_)
        · subst e
          refine T_region ?_
          refine TL_y (y_inc (q := 36) (e_t rfl) rfl hltx10) ?_
          refine TL_y (y_move (e_t rfl)) ?_
          refine TL_nil ?_
          refine z_nl ?_
          exact TW_le (le_k (ks := [3, 5, 6, 9, 10, 36, 37, 38]) (bs := [3, 5, 6, 9]) (gs := [10]) (.cons rfl (.cons rfl (.cons rfl (.cons rfl (.cons rfl (.cons rfl (.cons rfl (.cons rfl .nil)))))))) (.cons rfl (.cons rfl (.cons rfl (.cons rfl .nil)))) (.cons rfl .nil)) (ih _ h)
        · clear h
          have h := hs11
          refine T_block ?_
          refine T_seq ?_
          refine T_region ?_
          refine TL_y (y_indexNat (e_t rfl) (e_t rfl) hx10 tysl28) ?_
          refine TL_y (y_load_ptr (e_t rfl) ty39) ?_
          refine TL_alloc z39 ?_
          refine TL_store (e_t rfl) rfl (e_t rfl) Put.self ty39 (by decide) ?_
          refine TL_nil ?_
          refine z_nt ?_
          refine T_seq ?_
          refine T_region ?_
          refine TL_y (y_fieldAddr (e_t rfl) fo24_0) ?_
          refine TL_y (y_load (e_t rfl) rfl s_Overlay_nodes ty22) ?_
          refine TL_le (le_k (ks := [12, 3, 5, 6, 9, 10, 36, 37, 38, 39, 40, 41, 42, 43]) (bs := [12, 3, 5, 6, 9]) (gs := [10]) (ti := []) (.cons rfl (.cons rfl (.cons rfl (.cons rfl (.cons rfl (.cons rfl (.cons rfl (.cons rfl (.cons rfl (.cons rfl (.cons rfl (.cons rfl (.cons rfl (.cons rfl .nil)))))))))))))) (.cons rfl (.cons rfl (.cons rfl (.cons rfl (.cons rfl .nil))))) (.cons rfl .nil)) (TL_freeze ?_)
          refine TL_y (y_makeFunc1 (F := fun x => lookup_asks_2 x x10) (caps := [.d (⟨x10⟩ : Ptr Member)]) (fun x r h => lookup_asks_2_ok h) ⟨(e_t rfl), trivial⟩ c98) ?_
          obtain ⟨t14, ht14, h⟩ := bind_some h
          refine TL_call (xs := [.d (a0.nodes : (List Node)), .d ((⟨fun x => lookup_asks_2 x x10⟩ : (Fn1 Node Bool)) : (Fn1 Node Bool))]) (sl_ContainsFunc_Node_ok ht14) ⟨(e_t rfl), (e_t rfl), trivial⟩ c97 ?_
          refine TL_y (y_not (e_t rfl)) ?_
          refine TL_nil ?_
          refine z_nt ?_
          refine T_cond rfl (fun hb15 => ?_) (fun hb15 => ?_)
          · replace h := cond_t hb15 h
            refine T_region ?_
            refine TL_y (y_move (e_t rfl)) ?_
            refine TL_y (y_fieldAddr_ptr (e_t rfl) fo39_0 s_Member_no) ?_
            refine TL_y (y_load_ptr (e_t rfl) ty3) ?_
            refine TL_buildSlice (xs := ([x10.no] : List Int)) (⟨rfl, (e_t rfl), trivial⟩) tyel45 rfl ?_
            obtain ⟨t16, ht16, h⟩ := bind_some h
            refine TL_g2d (q := 50) rfl rfl ?_
            refine TL_append (e_t rfl) rfl (e_t rfl) ht16 tyel45 ?_
            refine TL_y (y_assign (e_t rfl)) ?_
            refine TL_nil ?_
            refine z_nb ?_
            exact Z_le (le_k (ks := [3, 5, 6, 9, 10, 36, 37, 38]) (bs := [3, 5, 6, 9]) (gs := [10]) (.cons rfl (.cons rfl (.cons rfl (.cons rfl (.cons rfl (.cons rfl (.cons rfl (.cons rfl .nil)))))))) (.cons rfl (.cons rfl (.cons rfl (.cons rfl .nil)))) (.cons rfl .nil)) (hfall12 _ (Option.some.inj h).symm)
          · replace h := cond_f hb15 h
            refine T_skip ?_
            refine z_nb ?_
            exact Z_le (le_k (ks := [3, 5, 6, 9, 10, 36, 37, 38]) (bs := [3, 5, 6, 9]) (gs := [10]) (.cons rfl (.cons rfl (.cons rfl (.cons rfl (.cons rfl (.cons rfl (.cons rfl (.cons rfl .nil)))))))) (.cons rfl (.cons rfl (.cons rfl (.cons rfl .nil)))) (.cons rfl .nil)) (hfall12 _ (Option.some.inj h).symm)
def lookup_steps_1_l0 (a2 : Overlay) (a3 : Id) : Nat → Int → Option (List (Int × LookupAnswer) × Bool)
  | 0, _ => some ([], false)
  | ks1 + 1, s1 => (lookup_asks a2 s1 a3).bind fun t3 => (bif (!t3.2) then some ([], true) else ((bif t3.1.owner then some ([], true) else (bif (decide (t3.1 = ({ LookupAnswer.zero with who := ({ { Member.zero with no := s1 } with id := t3.1.who.id } : Member) } : LookupAnswer))) then some ([], true) else lookup_steps_1_l0 a2 a3 ks1 t3.1.who.no))).bind fun out10 => some ((s1, t3.1) :: out10.1, out10.2))
def lookup_steps_1_sq (a1 : Int) (a2 : Overlay) (a3 : Id) : Option (Sq2 Int LookupAnswer) := (lookup_steps_1_l0 a2 a3 FUEL a1).bind fun r => some ⟨r.1, r.2⟩
theorem lookup_steps_1_ok {a1 : Int} {a2 : Overlay} {a3 : Id} {q : (Sq2 Int LookupAnswer)} (h : lookup_steps_1_sq a1 a2 a3 = some q) : ∀ (m0 : Snap) (vs : Array Value), AllHold (P := Try.prog) m0 vs.toList [.d (⟨a1⟩ : Ptr Int), .d (⟨a2⟩ : Ptr Overlay), .d (⟨a3⟩ : Ptr Id)] → SeqOk Try.prog (args2 (P := Try.prog)) 68 vs m0 q.xs q.fin := by
  intro m0 vs hh
  unfold lookup_steps_1_sq at h
  obtain ⟨⟨ys, fin⟩, h1, h2⟩ := bind_some h
  obtain rfl := Option.some.inj h2
  change SeqOk _ _ _ _ _ ys fin
  clear h h2
  refine SeqOk.of Try.func68 rfl hh fun l J Jx hJ hJx hY hfin w m => ?_
  have h := h1
  have hp : ys = [] ++ ys := rfl
  clear h1
  refine T_seq ?_
  refine T_region ?_
  refine TL_y (y_load_ptr (e_t rfl) ty3) ?_
  refine TL_y (y_assign (e_t rfl)) ?_
  refine TL_nil ?_
  refine z_nt ?_
  refine T_block (T_loop ?_)
  refine TW_le (le_k (ks := [0, 2, 3, 5]) (bs := []) (gs := []) (.cons rfl (.cons rfl (.cons rfl (.cons rfl .nil)))) .nil .nil) (it_fuel (fun (s1 : Int) => ⟨[(0, .x (.func (.yield l) #[] #[])), (2, .d (⟨a2⟩ : Ptr Overlay)), (3, .d (⟨a3⟩ : Ptr Id)), (5, .d (s1 : Int))], ⟨[], [], []⟩⟩) hJ (fun k s out => lookup_steps_1_l0 a2 a3 k s = some (out, fin)) ?_ ?_ _ _ _ a1 _ hp h)
  · clear h hp
    intro m0 pre s out hp h
    exact it_stuck hfin h hp
  · clear h hp
    intro m0 pre ks1 s1 out ih hp h
    replace h : ((lookup_asks a2 s1 a3).bind fun t3 => (bif (!t3.2) then some ([], true) else ((bif t3.1.owner then some ([], true) else (bif (decide (t3.1 = ({ LookupAnswer.zero with who := ({ { Member.zero with no := s1 } with id := t3.1.who.id } : Member) } : LookupAnswer))) then some ([], true) else lookup_steps_1_l0 a2 a3 ks1 t3.1.who.no))).bind fun out10 => some ((s1, t3.1) :: out10.1, out10.2))) = some (out, fin) := h
    refine TW_round ?_
    refine T_block ?_
    refine T_seq ?_
    refine T_region ?_
    refine TL_y (y_load_ptr (e_t rfl) ty24) ?_
    refine TL_y (y_move (e_t rfl)) ?_
    refine TL_y (y_load_ptr (e_t rfl) ty26) ?_
    obtain ⟨t3, ht3, h⟩ := bind_some h
    refine TL_call (xs := [.d (a2 : Overlay), .d (s1 : Int), .d (a3 : Id)]) (lookup_asks_ok ht3) ⟨(e_t rfl), (e_t rfl), (e_t rfl), trivial⟩ c69 ?_
    refine TL_y (y_move (e_t rfl)) ?_
    refine TL_y (y_extract2_0 (e_t rfl)) ?_
    refine TL_y (y_extract2_1 (e_t rfl)) ?_
    refine TL_alloc z73 ?_
    refine TL_store (e_t rfl) rfl (e_t rfl) Put.self ty73 (by decide) ?_
    refine TL_y (y_assign (e_t rfl)) ?_
    refine TL_nil ?_
    refine z_nt ?_
    refine T_seq ?_
    refine T_seq ?_
    refine T_region ?_
    refine TL_y (y_move (e_t rfl)) ?_
    refine TL_y (y_not (e_t rfl)) ?_
    refine TL_y (y_move (e_t rfl)) ?_
    refine TL_split (!t3.2) (fun hb4 => ?_) (fun hb4 => ?_)
    · replace h := cond_t hb4 h
      refine TL_skip0 rfl hb4 ?_
      refine TL_skip0 rfl hb4 ?_
      refine TL_skip0 rfl hb4 ?_
      refine TL_skip0 rfl hb4 ?_
      refine TL_skip0 rfl hb4 ?_
      refine TL_y (y_pick_t (e_t rfl) hb4 (e_b true)) ?_
      refine TL_y (y_move (e_t rfl)) ?_
      refine TL_skip0 rfl rfl ?_
      refine TL_skip0 rfl rfl ?_
      refine TL_y (y_pick_t (e_t rfl) rfl (e_b true)) ?_
      refine TL_y (y_move (e_t rfl)) ?_
      refine TL_skip0 rfl rfl ?_
      refine TL_skip0 rfl rfl ?_
      refine TL_skip0 rfl rfl ?_
      refine TL_skip0 rfl rfl ?_
      refine TL_skip0 rfl rfl ?_
      refine TL_skip0 rfl rfl ?_
      refine TL_skip0 rfl rfl ?_
      refine TL_skip0 rfl rfl ?_
      refine TL_y (y_pick_t (e_t rfl) rfl (e_b true)) ?_
      refine TL_nil ?_
      refine z_nt ?_
      refine T_cond rfl (fun hb => ?_) (fun hb => absurd hb (by decide))
      refine T_ret ?_
      refine z_rt ?_
      refine z_rb ?_
      refine z_rt ?_
      refine z_rb ?_
      exact it_end h hp (fn := Try.f68) rfl
    · replace h := cond_f hb4 h
      refine TL_want rfl hb4 ?_
      refine TL_y (y_move (e_t rfl)) ?_
      refine TL_want rfl hb4 ?_
      refine TL_y (y_move (e_t rfl)) ?_
      refine TL_want rfl hb4 ?_
      refine TL_y (y_load (e_t rfl) rfl Sub.self ty73) ?_
      refine TL_want rfl hb4 ?_
      obtain ⟨⟨out10, fin2⟩, h2, h0⟩ := bind_some h
      obtain ⟨e0, hp1, hp2⟩ := it_step h0 hp
      subst e0
      refine TL_yield2 hY hp1 hJ hJx (e_t rfl) (e_t rfl) (e_t rfl) (fun m1 => ?_) (fun m1 => ?_)
      · clear h
        have h := h2
        have hp := hp2
        refine TL_want rfl hb4 ?_
        refine TL_y (y_not (e_t rfl)) ?_
        refine TL_y (y_pick_f (e_t rfl) hb4 (e_t rfl)) ?_
        refine TL_y (y_move (e_t rfl)) ?_
        refine TL_want rfl rfl ?_
        refine TL_y (y_fieldAddr (e_t rfl) fo73_1) ?_
        refine TL_want rfl rfl ?_
        refine TL_y (y_load (e_t rfl) rfl s_LookupAnswer_owner ty4) ?_
        refine TL_y (y_pick_f (e_t rfl) rfl (e_t rfl)) ?_
        refine TL_y (y_move (e_t rfl)) ?_
        refine TL_split t3.1.owner (fun hb6 => ?_) (fun hb6 => ?_)
        · replace h := cond_t hb6 h
          refine TL_skip0 rfl hb6 ?_
          refine TL_skip0 rfl hb6 ?_
          refine TL_skip0 rfl hb6 ?_
          refine TL_skip0 rfl hb6 ?_
          refine TL_skip0 rfl hb6 ?_
          refine TL_skip0 rfl hb6 ?_
          refine TL_skip0 rfl hb6 ?_
          refine TL_skip0 rfl hb6 ?_
          refine TL_y (y_pick_t (e_t rfl) hb6 (e_b true)) ?_
          refine TL_nil ?_
          refine z_nt ?_
          refine T_cond rfl (fun hb => ?_) (fun hb => absurd hb (by decide))
          refine T_ret ?_
          refine z_rt ?_
          refine z_rb ?_
          refine z_rt ?_
          refine z_rb ?_
          exact it_end h hp (fn := Try.f68) rfl
        · replace h := cond_f hb6 h
          refine TL_want rfl hb6 ?_
          refine TL_y (y_load (e_t rfl) rfl Sub.self ty73) ?_
          refine TL_want rfl hb6 ?_
          refine TL_y (y_move (e_t rfl)) ?_
          refine TL_want rfl hb6 ?_
          refine TL_y (y_fieldAddr (e_t rfl) fo73_0) ?_
          refine TL_want rfl hb6 ?_
          refine TL_y (y_fieldAddr (e_t rfl) fo39_1) ?_
          refine TL_want rfl hb6 ?_
          refine TL_y (y_load (e_t rfl) rfl s_LookupAnswer_who_id ty26) ?_
          refine TL_want rfl hb6 ?_
          refine TL_y (y_build z39 pl39 (b_cons (e_t rfl) p_Member_no (b_cons (e_t rfl) p_Member_id (b_nil))) rfl) ?_
          refine TL_want rfl hb6 ?_
          refine TL_y (y_build z73 pl73 (b_cons (e_t rfl) p_LookupAnswer_who (b_nil)) rfl) ?_
          refine TL_want rfl hb6 ?_
          refine TL_y (y_eqlT (e_t rfl) (e_t rfl) eqT73 rfl eg73) ?_
          refine TL_y (y_pick_f (e_t rfl) hb6 (e_t rfl)) ?_
          refine TL_nil ?_
          refine z_nt ?_
          refine T_cond rfl (fun hb8 => ?_) (fun hb8 => ?_)
          · replace h := cond_t hb8 h
            refine T_ret ?_
            refine z_rt ?_
            refine z_rb ?_
            refine z_rt ?_
            refine z_rb ?_
            exact it_end h hp (fn := Try.f68) rfl
          · replace h := cond_f hb8 h
            refine T_skip ?_
            refine z_nt ?_
            refine T_region ?_
            refine TL_y (y_fieldAddr (e_t rfl) fo73_0) ?_
            refine TL_y (y_fieldAddr (e_t rfl) fo39_0) ?_
            refine TL_y (y_load (e_t rfl) rfl s_LookupAnswer_who_no ty3) ?_
            refine TL_y (y_assign (e_t rfl)) ?_
            refine TL_nil ?_
            refine z_nb ?_
            refine z_nl ?_
            exact TW_le (le_k (ks := [0, 2, 3, 5]) (bs := []) (gs := []) (.cons rfl (.cons rfl (.cons rfl (.cons rfl .nil)))) .nil .nil) (ih _ _ _ _ hp h)
      · refine TL_want rfl hb4 ?_
        refine TL_y (y_not (e_t rfl)) ?_
        refine TL_y (y_pick_f (e_t rfl) hb4 (e_t rfl)) ?_
        refine TL_y (y_move (e_t rfl)) ?_
        refine TL_skip0 rfl rfl ?_
        refine TL_skip0 rfl rfl ?_
        refine TL_y (y_pick_t (e_t rfl) rfl (e_b true)) ?_
        refine TL_y (y_move (e_t rfl)) ?_
        refine TL_skip0 rfl rfl ?_
        refine TL_skip0 rfl rfl ?_
        refine TL_skip0 rfl rfl ?_
        refine TL_skip0 rfl rfl ?_
        refine TL_skip0 rfl rfl ?_
        refine TL_skip0 rfl rfl ?_
        refine TL_skip0 rfl rfl ?_
        refine TL_skip0 rfl rfl ?_
        refine TL_y (y_pick_t (e_t rfl) rfl (e_b true)) ?_
        refine TL_nil ?_
        refine z_nt ?_
        refine T_cond rfl (fun hb => ?_) (fun hb => absurd hb (by decide))
        refine T_ret ?_
        refine z_rt ?_
        refine z_rb ?_
        refine z_rt ?_
        refine z_rb ?_
        exact Z_seqx (fn := Try.f68) rfl
def lookup_steps (a0 : Overlay) (a1 : Int) (a2 : Id) : Option (Sq2 Int LookupAnswer) := (lookup_steps_1_sq a1 a0 a2).bind fun t1 => some t1
theorem lookup_steps_ok {a0 : Overlay} {a1 : Int} {a2 : Id} {r : (Sq2 Int LookupAnswer)} (h : lookup_steps a0 a1 a2 = some r) : Fn Try.prog 41 [.d a0, .d a1, .d a2] (.d r) := by
  refine Fn.of Try.func41 rfl fun w m => ?_
  unfold lookup_steps at h
  refine T_seq ?_
  refine T_region ?_
  refine TL_box (e_t rfl) ?_
  refine TL_box (e_t rfl) ?_
  refine TL_box (e_t rfl) ?_
  refine TL_y (y_assign (e_x .nilFunc)) ?_
  refine TL_nil ?_
  refine z_nt ?_
  refine T_seq ?_
  refine T_region ?_
  obtain ⟨t1, ht1, h⟩ := bind_some h
  refine TL_le (le_k (ks := [4, 0, 1, 2, 3, 5, 6]) (bs := [4, 3, 5]) (gs := []) (ti := []) (.cons rfl (.cons rfl (.cons rfl (.cons rfl (.cons rfl (.cons rfl (.cons rfl .nil))))))) (.cons rfl (.cons rfl (.cons rfl .nil))) .nil) (TL_freeze ?_)
  refine TL_le (le_k (ks := [3, 0, 1, 2, 4, 5, 6]) (bs := [3, 5]) (gs := []) (ti := []) (.cons rfl (.cons rfl (.cons rfl (.cons rfl (.cons rfl (.cons rfl (.cons rfl .nil))))))) (.cons rfl (.cons rfl .nil)) .nil) (TL_freeze ?_)
  refine TL_le (le_k (ks := [5, 0, 1, 2, 3, 4, 6]) (bs := [5]) (gs := []) (ti := []) (.cons rfl (.cons rfl (.cons rfl (.cons rfl (.cons rfl (.cons rfl (.cons rfl .nil))))))) (.cons rfl .nil) .nil) (TL_freeze ?_)
  refine TL_y (y_makeSeq2 (caps := [.d (⟨a1⟩ : Ptr Int), .d (⟨a0⟩ : Ptr Overlay), .d (⟨a2⟩ : Ptr Id)]) (lookup_steps_1_ok ht1) ⟨(e_t rfl), (e_t rfl), (e_t rfl), trivial⟩ c68) ?_
  refine TL_y (y_assign (e_t rfl)) ?_
  refine TL_nil ?_
  refine z_nt ?_
  refine T_ret ?_
  obtain rfl := Option.some.inj h
  exact Z_ret1 (fn := Try.f41) rfl (rv_t rfl)
def lookup_Walk_l0 (a3 : Int) (fin : Bool) : List (Int × LookupAnswer) → (List Int) × Member × Int × (List Int) → Option (Lo ((List Int) × Member × Int) ((List Int) × Member × Int × (List Int)))
  | [], s6 => bif fin then some (.fall s6) else none
  | x8 :: xsx8, s6 => (bif (decide (a3 < (s6.2.2.2.length : Int))) then some (.ret (([] : List Int), (Member.zero : Member), 9)) else (app s6.2.2.2 ([x8.1] : List Int)).bind fun t10 => (bif (x8.2.owner && (decide (x8.2.who.no = x8.1))) then some (.ret (t10, x8.2.who, 0)) else (bif x8.2.owner then (app t10 ([x8.2.who.no] : List Int)).bind fun t14 => some (.ret (t14, x8.2.who, 0)) else (bif (decide (x8.2.who.no = x8.1)) then some (.ret (([] : List Int), (Member.zero : Member), 13)) else lookup_Walk_l0 a3 fin xsx8 (s6.1, s6.2.1, s6.2.2.1, t10)))))
def lookup_Walk (a0 : Overlay) (a1 : Int) (a2 : Id) (a3 : Int) : Option ((List Int) × Member × Int) := (chord_Right a0).bind fun t1 => (bif (((!t1) || (decide (a3 < 0))) || (decide (16 < a3))) then some (([] : List Int), (Member.zero : Member), 1) else (lookup_steps a0 a1 a2).bind fun t5 => ((lookup_Walk_l0 a3 t5.fin t5.xs (([] : List Int), Member.zero, (0 : Int), ([] : List Int))).bind fun o7 => match o7 with | .ret q => some q | .fall _ => some (([] : List Int), (Member.zero : Member), 10)))
theorem lookup_Walk_ok {a0 : Overlay} {a1 : Int} {a2 : Id} {a3 : Int} {r : ((List Int) × Member × Int)} (h : lookup_Walk a0 a1 a2 a3 = some r) : Fn Try.prog 16 [.d a0, .d a1, .d a2, .d a3] (.t3 (.d r.1) (.d r.2.1) (.d r.2.2)) := by
  refine Fn.ofV Try.func16 rfl fun w m V hl => ?_
  unfold lookup_Walk at h
  refine T_seq ?_
  refine T_region ?_
  refine TL_box (e_t rfl) ?_
  refine TL_box (e_t rfl) ?_
  refine TL_box (e_t rfl) ?_
  refine TL_alloc z45 ?_
  refine TL_alloc z39 ?_
  refine TL_alloc z29 ?_
  refine TL_nil ?_
  refine z_nt ?_
  refine T_seq ?_
  refine T_seq ?_
  refine T_region ?_
  refine TL_y (y_load (e_t rfl) rfl Sub.self ty24) ?_
  obtain ⟨t1, ht1, h⟩ := bind_some h
  refine TL_call (xs := [.d (a0 : Overlay)]) (chord_Right_ok ht1) ⟨(e_t rfl), trivial⟩ c23 ?_
  refine TL_y (y_not (e_t rfl)) ?_
  refine TL_y (y_move (e_t rfl)) ?_
  refine TL_or 3 20 (b := (!t1)) (c := (decide (a3 < 0))) ?_ (fun hb2 hk => ?_) (fun hb2 hk => ?_)
  rotate_left
  · refine TL_skip0 rfl hb2 ?_
    refine TL_skip0 rfl hb2 ?_
    refine TL_y (y_pick_t (e_t rfl) hb2 (e_b true)) ?_
    exact TL_fr hk (.refl _)
  · refine TL_want rfl hb2 ?_
    refine TL_y (y_load (e_t rfl) rfl Sub.self ty3) ?_
    refine TL_want rfl hb2 ?_
    refine TL_y (y_lss (e_t rfl) (e_i (0))) ?_
    refine TL_y (y_pick_f (e_t rfl) hb2 (e_t rfl)) ?_
    exact TL_fr hk (.cons (.cons (.refl _) rfl) rfl)
  refine TL_y (y_move (e_t rfl)) ?_
  refine TL_or 3 24 (b := ((!t1) || (decide (a3 < 0)))) (c := (decide (16 < a3))) ?_ (fun hb3 hk => ?_) (fun hb3 hk => ?_)
  rotate_left
  · refine TL_skip0 rfl hb3 ?_
    refine TL_skip0 rfl hb3 ?_
    refine TL_y (y_pick_t (e_t rfl) hb3 (e_b true)) ?_
    exact TL_fr hk (.refl _)
  · refine TL_want rfl hb3 ?_
    refine TL_y (y_load (e_t rfl) rfl Sub.self ty3) ?_
    refine TL_want rfl hb3 ?_
    refine TL_y (y_gtr (e_t rfl) (e_i (16))) ?_
    refine TL_y (y_pick_f (e_t rfl) hb3 (e_t rfl)) ?_
    exact TL_fr hk (.cons (.cons (.refl _) rfl) rfl)
  refine TL_nil ?_
  refine z_nt ?_
  refine T_cond rfl (fun hb4 => ?_) (fun hb4 => ?_)
  · replace h := cond_t hb4 h
    refine T_seq ?_
    refine T_region ?_
    refine TL_y (y_build z39 pl39 (b_nil) rfl) ?_
    refine TL_store (e_t rfl) rfl (e_nil (α := Int)) Put.self ty45 (by decide) ?_
    refine TL_store (e_t rfl) rfl (e_t rfl) Put.self ty39 (by decide) ?_
    refine TL_store (e_t rfl) rfl (e_i (1)) Put.self ty29 (by decide) ?_
    refine TL_nil ?_
    refine z_nt ?_
    refine T_ret ?_
    refine z_rt ?_
    obtain rfl := Option.some.inj h
    exact zv_ret3 hl (fn := Try.f16) rfl (rv_c rfl rfl ty45) (rv_c rfl rfl ty39) (rv_c rfl rfl ty29)
  · replace h := cond_f hb4 h
    refine T_skip ?_
    refine z_nt ?_
    refine T_seq ?_
    refine T_region ?_
    refine TL_alloc_g (δ := Int) 1011 0 3 Try.zeroValue45 z45 (by kernel_rfl) ?_
    refine TL_nil ?_
    refine z_nt ?_
    refine T_seq ?_
    refine T_seq ?_
    refine T_region ?_
    refine TL_y (y_load (e_t rfl) rfl Sub.self ty24) ?_
    refine TL_y (y_move (e_t rfl)) ?_
    refine TL_y (y_load (e_t rfl) rfl Sub.self ty26) ?_
    obtain ⟨t5, ht5, h⟩ := bind_some h
    refine TL_call (xs := [.d (a0 : Overlay), .d (a1 : Int), .d (a2 : Id)]) (lookup_steps_ok ht5) ⟨(e_t rfl), (e_t rfl), (e_t rfl), trivial⟩ c41 ?_
    refine TL_nil ?_
    refine z_nt ?_
    refine T_block ?_
    obtain ⟨o7, ho7, h⟩ := bind_some h
    refine T_range2 (F := t5) [7, 8, 9, 10, 11] [(7, .p 7 0), (8, .p 8 0), (9, .p 9 0), (10, .p 10 0), (11, .p 11 0)] (fun (s6 : (List Int) × Member × Int × (List Int)) => ⟨[(7, ⟨(a3 : Int)⟩), (8, ⟨(s6.1 : (List Int))⟩), (9, ⟨(s6.2.1 : Member)⟩), (10, ⟨(s6.2.2.1 : Int)⟩), (11, ⟨(s6.2.2.2 : (List Int))⟩)], [(1011, ⟨3, (s6.2.2.2 : List Int)⟩)], [((11, 0), 1011)]⟩) (fun (t : ((List Int) × Member × Int)) => ⟨[(8, ⟨(t.1 : (List Int))⟩), (9, ⟨(t.2.1 : Member)⟩), (10, ⟨(t.2.2 : Int)⟩)], [], []⟩) (fun _ => .ret) (fun xs s => lookup_Walk_l0 a3 t5.fin xs s = some o7) (fun t => o7 = .ret t) (([] : List Int), Member.zero, (0 : Int), ([] : List Int)) hl (ordJ_law w) (e_t rfl) (le_k (ks := [7, 8, 9, 10, 11]) (bs := [7, 8, 9, 10, 11]) (gs := [1011]) (.cons rfl (.cons rfl (.cons rfl (.cons rfl (.cons rfl .nil))))) (.cons rfl (.cons rfl (.cons rfl (.cons rfl (.cons rfl .nil))))) (.cons rfl .nil)) ho7 (fun hf s hg => fin_no hg hf) ?_ ?_ ?_
    · intro x8 xsx8 s6 hgx8 D l lr cs mr mk wr R hmk hrs hn hx
      clear h
      have h : ((bif (decide (a3 < (s6.2.2.2.length : Int))) then some (.ret (([] : List Int), (Member.zero : Member), 9)) else (app s6.2.2.2 ([x8.1] : List Int)).bind fun t10 => (bif (x8.2.owner && (decide (x8.2.who.no = x8.1))) then some (.ret (t10, x8.2.who, 0)) else (bif x8.2.owner then (app t10 ([x8.2.who.no] : List Int)).bind fun t14 => some (.ret (t14, x8.2.who, 0)) else (bif (decide (x8.2.who.no = x8.1)) then some (.ret (([] : List Int), (Member.zero : Member), 13)) else lookup_Walk_l0 a3 t5.fin xsx8 (s6.1, s6.2.1, s6.2.2.1, t10)))))) = some o7 := hgx8
      refine T_seq ?_
      refine T_region ?_
      refine TL_y (y_assign (e_t rfl)) ?_
      refine TL_nil ?_
      refine z_nt ?_
      refine T_region ?_
      refine TL_alloc z73 ?_
      refine TL_store (e_t rfl) rfl (e_t rfl) Put.self ty73 (by decide) ?_
      refine TL_nil ?_
      refine Z_begin hrs hmk ?_
      refine T_block ?_
      refine T_seq ?_
      refine T_seq ?_
      refine T_region ?_
      refine TL_y (y_load_tied (nm := 1011) (e_t rfl) (ti_in rfl) Try.isAgg45 ⟨_, rfl⟩) ?_
      refine TL_g2d (q := 32) rfl rfl ?_
      refine TL_y (y_len (e_t rfl) (by rw [el45]; exact Try.underlying45)) ?_
      refine TL_y (y_load (e_t rfl) rfl Sub.self ty3) ?_
      refine TL_y (y_gtr (e_t rfl) (e_t rfl)) ?_
      refine TL_nil ?_
      refine z_nt ?_
      refine T_cond rfl (fun hb9 => ?_) (fun hb9 => ?_)
      · replace h := cond_t hb9 h
        refine T_seq ?_
        refine T_region ?_
        refine TL_y (y_build z39 pl39 (b_nil) rfl) ?_
        refine TL_store (e_t rfl) rfl (e_nil (α := Int)) Put.self ty45 (by decide) ?_
        refine TL_store (e_t rfl) rfl (e_t rfl) Put.self ty39 (by decide) ?_
        refine TL_store (e_t rfl) rfl (e_i (9)) Put.self ty29 (by decide) ?_
        refine TL_nil ?_
        refine z_nt ?_
        refine T_ret ?_
        refine z_rt ?_
        refine z_rb ?_
        have hx0 := (Option.some.inj h).symm
        exact Z_le (le_k (ks := []) (bs := [8, 9, 10]) (gs := []) .nil (.cons rfl (.cons rfl (.cons rfl .nil))) .nil) (hx _ _ hx0)
      · replace h := cond_f hb9 h
        refine T_skip ?_
        refine z_nt ?_
        refine T_seq ?_
        refine T_region ?_
        refine TL_y (y_load_tied (nm := 1011) (e_t rfl) (ti_in rfl) Try.isAgg45 ⟨_, rfl⟩) ?_
        refine TL_y (y_move (e_t rfl)) ?_
        refine TL_buildSlice (xs := ([x8.1] : List Int)) (⟨rfl, (e_t rfl), trivial⟩) tyel45 rfl ?_
        obtain ⟨t10, ht10, h⟩ := bind_some h
        refine TL_g2d (q := 39) rfl rfl ?_
        refine TL_append (e_t rfl) rfl (e_t rfl) ht10 tyel45 ?_
        refine TL_store_g (e_t rfl) rfl (e_t rfl) rfl Put.self ty45 (by decide) ?_
        refine TL_nil ?_
        refine z_nt ?_
        refine T_block ?_
        refine T_seq ?_
        refine T_region ?_
        refine TL_y (y_fieldAddr (e_t rfl) fo73_1) ?_
        refine TL_y (y_load (e_t rfl) rfl s_LookupAnswer_owner ty4) ?_
        refine TL_y (y_move (e_t rfl)) ?_
        refine TL_and 6 50 (b := x8.2.owner) (c := (decide (x8.2.who.no = x8.1))) ?_ (fun hb11 hk => ?_) (fun hb11 hk => ?_)
        rotate_left
        · refine TL_skip0 rfl hb11 ?_
          refine TL_skip0 rfl hb11 ?_
          refine TL_skip0 rfl hb11 ?_
          refine TL_skip0 rfl hb11 ?_
          refine TL_skip0 rfl hb11 ?_
          refine TL_y (y_pick_f (e_t rfl) hb11 (e_b false)) ?_
          exact TL_fr hk (.refl _)
        · refine TL_want rfl hb11 ?_
          refine TL_y (y_fieldAddr (e_t rfl) fo73_0) ?_
          refine TL_want rfl hb11 ?_
          refine TL_y (y_fieldAddr (e_t rfl) fo39_0) ?_
          refine TL_want rfl hb11 ?_
          refine TL_y (y_load (e_t rfl) rfl s_LookupAnswer_who_no ty3) ?_
          refine TL_want rfl hb11 ?_
          refine TL_y (y_move (e_t rfl)) ?_
          refine TL_want rfl hb11 ?_
          refine TL_y (y_eql (e_t rfl) (e_t rfl)) ?_
          refine TL_y (y_pick_t (e_t rfl) hb11 (e_t rfl)) ?_
          exact TL_fr hk (.cons (.cons (.cons (.cons (.cons (.refl _) rfl) rfl) rfl) rfl) rfl)
        refine TL_y (y_assign (e_t rfl)) ?_
        refine TL_nil ?_
        refine z_nt ?_
        refine T_cond rfl (fun hb12 => ?_) (fun hb12 => ?_)
        · replace h := cond_t hb12 h
          refine T_seq ?_
          refine T_le (le_k (ks := [30, 31, 7, 8, 9, 10, 11, 12, 13, 32, 33, 34, 35, 37, 38, 39, 40, 42, 43, 44, 50, 41]) (bs := [7, 8, 9, 10, 11, 13]) (gs := [1011, 39]) (ti := [((11, 0), 1011)]) (.cons rfl (.cons rfl (.cons rfl (.cons rfl (.cons rfl (.cons rfl (.cons rfl (.cons rfl (.cons rfl (.cons rfl (.cons rfl (.cons rfl (.cons rfl (.cons rfl (.cons rfl (.cons rfl (.cons rfl (.cons rfl (.cons rfl (.cons rfl (.cons rfl (.cons rfl .nil)))))))))))))))))))))) (.cons rfl (.cons rfl (.cons rfl (.cons rfl (.cons rfl (.cons rfl .nil)))))) (.cons rfl (.cons rfl .nil))) ?_
          refine T_drawn hmix (by kernel_rfl) (by kernel_rfl) [some (.d (t10 : (List Int))), some (.p 13 0), some (.d (x8.2.who : Member)), none, none, none] [(none, none, 7, (⟨(a3 : Int)⟩ : BV _)), (none, some 3, 8, (⟨(s6.1 : (List Int))⟩ : BV _)), (none, some 4, 9, (⟨(s6.2.1 : Member)⟩ : BV _)), (none, some 5, 10, (⟨(s6.2.2.1 : Int)⟩ : BV _)), (none, none, 11, (⟨(t10 : (List Int))⟩ : BV _)), (none, none, 13, (⟨(x8.2 : LookupAnswer)⟩ : BV _)), (some 3, none, 8, (⟨(t10 : (List Int))⟩ : BV _)), (some 4, none, 9, (⟨(x8.2.who : Member)⟩ : BV _)), (some 5, none, 10, (⟨(0 : Int)⟩ : BV _))] [(none, none, 1011, (⟨3, (t10 : List Int)⟩ : GV _)), (none, none, 39, (⟨3, (([x8.1] : List Int) : List Int)⟩ : GV _))] [((11, 0), 1011)] rfl ⟨rfl, rfl, rfl, rfl, rfl, rfl, trivial⟩ ⟨rfl, rfl, trivial⟩ rfl rfl rfl ⟨?_, ?_, ?_, ?_, ?_, ?_, trivial⟩ (Z_le (le_k (ks := [30, 31, 7, 8, 9, 10, 11, 12, 13, 32, 33, 34, 35, 37, 38, 39, 40, 42, 43, 44, 50, 41, 51, 52, 53]) (bs := [7, 8, 9, 10, 11, 13]) (gs := [1011, 39]) (ti := [((11, 0), 1011)]) (.cons rfl (.cons rfl (.cons rfl (.cons rfl (.cons rfl (.cons rfl (.cons rfl (.cons rfl (.cons rfl (.cons rfl (.cons rfl (.cons rfl (.cons rfl (.cons rfl (.cons rfl (.cons rfl (.cons rfl (.cons rfl (.cons rfl (.cons rfl (.cons rfl (.cons rfl (.cons rfl (.cons rfl (.cons rfl .nil))))))))))))))))))))))))) (.cons rfl (.cons rfl (.cons rfl (.cons rfl (.cons rfl (.cons rfl .nil)))))) (.cons rfl (.cons rfl .nil))) ?_)
          · refine d_put rfl rfl offs_d rfl (fun L s' H Q k => ?_)
            refine TL_y (y_load (e_t (H.p rfl)) (H.b 4 rfl) Sub.self ty45) ?_
            exact TL_nil k
          · refine d_put rfl rfl rfl rfl (fun L s' H Q k => ?_)
            refine TL_y (y_fieldAddr (e_t (H.p rfl)) fo73_0) ?_
            exact TL_nil k
          · refine d_put rfl rfl offs_d rfl (fun L s' H Q k => ?_)
            refine TL_y (y_load (e_t (H.t 1 rfl)) (H.b 5 rfl) s_LookupAnswer_who ty39) ?_
            exact TL_nil k
          · refine d_store 0 1 rfl rfl rfl rfl (fun L s' H Q k => ?_)
            refine TL_store (e_t (H.p rfl)) (H.b 1 rfl) (e_t (H.t 0 rfl)) Put.self ty45 (by decide) ?_
            exact TL_nil k
          · refine d_store 0 33 rfl rfl rfl rfl (fun L s' H Q k => ?_)
            refine TL_store (e_t (H.p rfl)) (H.b 2 rfl) (e_t (H.t 2 rfl)) Put.self ty39 (by decide) ?_
            exact TL_nil k
          · refine d_store 0 1 rfl rfl rfl rfl (fun L s' H Q k => ?_)
            refine TL_store (e_t (H.p rfl)) (H.b 3 rfl) (e_i (0)) Put.self ty29 (by decide) ?_
            exact TL_nil k
          refine z_nt ?_
          refine T_ret ?_
          refine z_rb ?_
          refine z_rb ?_
          have hx0 := (Option.some.inj h).symm
          exact Z_le (le_k (ks := []) (bs := [8, 9, 10]) (gs := []) .nil (.cons rfl (.cons rfl (.cons rfl .nil))) .nil) (hx _ _ hx0)
        · replace h := cond_f hb12 h
          refine T_seq ?_
          refine T_region ?_
          refine TL_y (y_fieldAddr (e_t rfl) fo73_1) ?_
          refine TL_y (y_load (e_t rfl) rfl s_LookupAnswer_owner ty4) ?_
          refine TL_y (y_assign (e_t rfl)) ?_
          refine TL_nil ?_
          refine z_nt ?_
          refine T_cond rfl (fun hb13 => ?_) (fun hb13 => ?_)
          · replace h := cond_t hb13 h
            refine T_seq ?_
            refine T_le (le_k (ks := [30, 31, 7, 8, 9, 10, 11, 12, 13, 32, 33, 34, 35, 37, 38, 39, 40, 42, 43, 44, 50, 41, 55, 56, 54]) (bs := [7, 8, 9, 10, 11, 13]) (gs := [1011, 39]) (ti := [((11, 0), 1011)]) (.cons rfl (.cons rfl (.cons rfl (.cons rfl (.cons rfl (.cons rfl (.cons rfl (.cons rfl (.cons rfl (.cons rfl (.cons rfl (.cons rfl (.cons rfl (.cons rfl (.cons rfl (.cons rfl (.cons rfl (.cons rfl (.cons rfl (.cons rfl (.cons rfl (.cons rfl (.cons rfl (.cons rfl (.cons rfl .nil))))))))))))))))))))))))) (.cons rfl (.cons rfl (.cons rfl (.cons rfl (.cons rfl (.cons rfl .nil)))))) (.cons rfl (.cons rfl .nil))) ?_
            obtain ⟨t14, ht14, h⟩ := bind_some h
            refine T_drawnC hmix (by kernel_rfl) (by kernel_rfl) [some (.g 1011), some (.p 13 0), some (.p 13 0), some (.d (x8.2.who.no : Int)), some (.d (([x8.2.who.no] : List Int) : (List Int))), some (.d (t14 : (List Int))), some (.p 13 0), some (.d (x8.2.who : Member)), none, none, none] [(none, none, 7, (⟨(a3 : Int)⟩ : BV _)), (none, some 8, 8, (⟨(s6.1 : (List Int))⟩ : BV _)), (none, some 9, 9, (⟨(s6.2.1 : Member)⟩ : BV _)), (none, some 10, 10, (⟨(s6.2.2.1 : Int)⟩ : BV _)), (none, none, 11, (⟨(t10 : (List Int))⟩ : BV _)), (none, none, 13, (⟨(x8.2 : LookupAnswer)⟩ : BV _)), (some 8, none, 8, (⟨(t14 : (List Int))⟩ : BV _)), (some 9, none, 9, (⟨(x8.2.who : Member)⟩ : BV _)), (some 10, none, 10, (⟨(0 : Int)⟩ : BV _))] [(none, some 5, 1011, (⟨3, (t10 : List Int)⟩ : GV _)), (none, none, 39, (⟨3, (([x8.1] : List Int) : List Int)⟩ : GV _))] (some (1011, 5)) [((11, 0), 1011)] rfl ⟨rfl, rfl, rfl, rfl, rfl, rfl, trivial⟩ ⟨rfl, rfl, trivial⟩ rfl rfl rfl ⟨?_, ?_, ?_, ?_, ?_, ?_, ?_, ?_, ?_, ?_, ?_, trivial⟩ ⟨[(30, .d (x8.1 : Int)), (31, .d (x8.2 : LookupAnswer)), (7, .p 7 0), (8, .p 8 0), (9, .p 9 0), (10, .p 10 0), (11, .p 11 0), (12, .d (x8.1 : Int)), (13, .p 13 0), (32, .d (s6.2.2.2 : (List Int))), (33, .d ((s6.2.2.2.length : Int) : Int)), (34, .d (a3 : Int)), (35, .d ((decide (a3 < (s6.2.2.2.length : Int))) : Bool)), (37, .d (s6.2.2.2 : (List Int))), (38, .d (x8.1 : Int)), (39, .d (([x8.1] : List Int) : (List Int))), (42, .p 13 33), (43, .d (x8.2.owner : Bool)), (44, .d (x8.2.owner : Bool)), (50, .d ((x8.2.owner && (decide (x8.2.who.no = x8.1))) : Bool)), (41, .d ((x8.2.owner && (decide (x8.2.who.no = x8.1))) : Bool)), (55, .p 13 33), (56, .d (x8.2.owner : Bool)), (54, .d (x8.2.owner : Bool)), (58, .p 13 0), (59, .p 13 0), (60, .d (x8.2.who.no : Int)), (61, .d (([x8.2.who.no] : List Int) : (List Int))), (62, .d (t14 : (List Int))), (63, .p 13 0), (64, .d (x8.2.who : Member))], ⟨[(7, ⟨(a3 : Int)⟩), (8, ⟨(t14 : (List Int))⟩), (9, ⟨(x8.2.who : Member)⟩), (10, ⟨(0 : Int)⟩), (11, ⟨(t10 : (List Int))⟩), (13, ⟨(x8.2 : LookupAnswer)⟩)], [(39, ⟨3, (([x8.1] : List Int) : List Int)⟩)], []⟩⟩ ?_ ?_ ?_ ?_ ?_
            · refine d_put rfl rfl rfl rfl (fun L s' H Q k => ?_)
              refine TL_y (y_load_tied (nm := 1011) (e_t (H.p rfl)) (H.tie rfl) Try.isAgg45 ⟨_, (H.b 4 rfl)⟩) ?_
              exact TL_nil k
            · refine d_put rfl rfl rfl rfl (fun L s' H Q k => ?_)
              refine TL_y (y_fieldAddr (e_t (H.p rfl)) fo73_0) ?_
              exact TL_nil k
            · refine d_put rfl rfl rfl rfl (fun L s' H Q k => ?_)
              refine TL_y (y_fieldAddr (e_t (H.t 1 rfl)) fo39_0) ?_
              exact TL_nil k
            · refine d_put rfl rfl offs_d rfl (fun L s' H Q k => ?_)
              refine TL_y (y_load (e_t (H.t 2 rfl)) (H.b 5 rfl) s_LookupAnswer_who_no ty3) ?_
              exact TL_nil k
            · refine d_putN rfl rfl offs_d rfl rfl (fun L s' H hgo hgr Q k => ?_)
              refine TL_buildSlice_d (xs := ([x8.2.who.no] : List Int)) (⟨rfl, (e_t (H.t 3 rfl)), trivial⟩) tyel45 rfl hgo hgr ?_
              exact TL_nil k
            · refine d_take (nm := 1011) rfl rfl rfl rfl rfl rfl rfl ⟨3, (t14 : List Int)⟩ (fun L s' H Q k => ?_)
              refine TL_append_t (e_t (H.t 0 rfl)) (H.g 0 rfl) (e_t (H.t 4 rfl)) ht14 tyel45 ?_
              exact TL_nil k
            · refine d_put rfl rfl rfl rfl (fun L s' H Q k => ?_)
              refine TL_y (y_fieldAddr (e_t (H.p rfl)) fo73_0) ?_
              exact TL_nil k
            · refine d_put rfl rfl offs_d rfl (fun L s' H Q k => ?_)
              refine TL_y (y_load (e_t (H.t 6 rfl)) (H.b 5 rfl) s_LookupAnswer_who ty39) ?_
              exact TL_nil k
            · refine d_store 0 1 rfl rfl rfl rfl (fun L s' H Q k => ?_)
              refine TL_store (e_t (H.p rfl)) (H.b 1 rfl) (e_t (H.t 5 rfl)) Put.self ty45 (by decide) ?_
              exact TL_nil k
            · refine d_store 0 33 rfl rfl rfl rfl (fun L s' H Q k => ?_)
              refine TL_store (e_t (H.p rfl)) (H.b 2 rfl) (e_t (H.t 7 rfl)) Put.self ty39 (by decide) ?_
              exact TL_nil k
            · refine d_store 0 1 rfl rfl rfl rfl (fun L s' H Q k => ?_)
              refine TL_store (e_t (H.p rfl)) (H.b 3 rfl) (e_i (0)) Put.self ty29 (by decide) ?_
              exact TL_nil k
            · refine z_nt ?_
              refine T_ret ?_
              refine z_rb ?_
              refine z_rb ?_
              have hx0 := (Option.some.inj h).symm
              exact Z_le (le_k (ks := []) (bs := [8, 9, 10]) (gs := []) .nil (.cons rfl (.cons rfl (.cons rfl .nil))) .nil) (hx _ _ hx0)
            · intro t x h; exact ⟨(show Keep [30, 31, 7, 8, 9, 10, 11, 12, 13, 32, 33, 34, 35, 37, 38, 39, 42, 43, 44, 50, 41, 55, 56, 54, 58, 59, 60, 61, 62, 63, 64] _ _ from (.cons rfl (.cons rfl (.cons rfl (.cons rfl (.cons rfl (.cons rfl (.cons rfl (.cons rfl (.cons rfl (.cons rfl (.cons rfl (.cons rfl (.cons rfl (.cons rfl (.cons rfl (.cons rfl (.cons rfl (.cons rfl (.cons rfl (.cons rfl (.cons rfl (.cons rfl (.cons rfl (.cons rfl (.cons rfl (.cons rfl (.cons rfl (.cons rfl (.cons rfl (.cons rfl (.cons rfl .nil)))))))))))))))))))))))))))))))).le t x h, fun _ _ e => by cases e; exact lk_goff (by rfl) h⟩
            · exact (show Keep [7, 8, 9, 10, 11, 13] _ _ from (.cons rfl (.cons rfl (.cons rfl (.cons rfl (.cons rfl (.cons rfl .nil))))))).le
            · exact (show Keep [39] _ _ from (.cons rfl .nil)).le
            · intro e he; cases he
          · replace h := cond_f hb13 h
            refine T_seq ?_
            refine T_region ?_
            refine TL_y (y_fieldAddr (e_t rfl) fo73_0) ?_
            refine TL_y (y_fieldAddr (e_t rfl) fo39_0) ?_
            refine TL_y (y_load (e_t rfl) rfl s_LookupAnswer_who_no ty3) ?_
            refine TL_y (y_move (e_t rfl)) ?_
            refine TL_y (y_eql (e_t rfl) (e_t rfl)) ?_
            refine TL_y (y_assign (e_t rfl)) ?_
            refine TL_nil ?_
            refine z_nt ?_
            refine T_cond rfl (fun hb15 => ?_) (fun hb15 => ?_)
            · replace h := cond_t hb15 h
              refine T_seq ?_
              refine T_region ?_
              refine TL_y (y_build z39 pl39 (b_nil) rfl) ?_
              refine TL_store (e_t rfl) rfl (e_nil (α := Int)) Put.self ty45 (by decide) ?_
              refine TL_store (e_t rfl) rfl (e_t rfl) Put.self ty39 (by decide) ?_
              refine TL_store (e_t rfl) rfl (e_i (13)) Put.self ty29 (by decide) ?_
              refine TL_nil ?_
              refine z_nt ?_
              refine T_ret ?_
              refine z_rb ?_
              refine z_rb ?_
              have hx0 := (Option.some.inj h).symm
              exact Z_le (le_k (ks := []) (bs := [8, 9, 10]) (gs := []) .nil (.cons rfl (.cons rfl (.cons rfl .nil))) .nil) (hx _ _ hx0)
            · replace h := cond_f hb15 h
              refine T_skip ?_
              refine z_nb ?_
              refine z_nb ?_
              exact Z_le (le_k (ks := []) (bs := [7, 8, 9, 10, 11]) (gs := [1011]) .nil (.cons rfl (.cons rfl (.cons rfl (.cons rfl (.cons rfl .nil))))) (.cons rfl .nil)) (hn _ _ h)
    · intro V hl s6 hg
      have e := (fin_some hg).symm
      subst e
      dsimp only at h
      refine z_nb ?_
      refine z_nt ?_
      refine T_seq ?_
      refine T_region ?_
      refine TL_y (y_build z39 pl39 (b_nil) rfl) ?_
      refine TL_store (e_t rfl) rfl (e_nil (α := Int)) Put.self ty45 (by decide) ?_
      refine TL_store (e_t rfl) rfl (e_t rfl) Put.self ty39 (by decide) ?_
      refine TL_store (e_t rfl) rfl (e_i (10)) Put.self ty29 (by decide) ?_
      refine TL_nil ?_
      refine z_nt ?_
      refine T_ret ?_
      obtain rfl := Option.some.inj h
      exact zv_ret3 hl (fn := Try.f16) rfl (rv_c rfl rfl ty45) (rv_c rfl rfl ty39) (rv_c rfl rfl ty29)
    · intro V hl t e
      subst e
      dsimp only at h
      refine z_rb ?_
      refine z_rt ?_
      obtain rfl := Option.some.inj h
      exact zv_ret3 hl (fn := Try.f16) rfl (rv_c rfl rfl ty45) (rv_c rfl rfl ty39) (rv_c rfl rfl ty29)
end Go.Ph
set_option maxRecDepth 4000
set_option maxHeartbeats 4000000
namespace Go.Ph
open Go.Proofs
def law11_alive : Option Bool := (lookup_Walk ({ Overlay.zero with nodes := ([({ { { Node.zero with self := ({ Member.zero with no := 3 } : Member) } with pred := ({ Member.zero with no := (-1) } : Member) } with succs := ([({ Member.zero with no := 3 } : Member)] : List Member) } : Node)] : List Node) } : Overlay) 3 ((Id.zero.set 31 (UInt8.ofNat 7)) : Id) 0).bind fun t1 => ((bif (((decide (t1.2.2 = 0)) && (decide (t1.2.1 = ({ Member.zero with no := 3 } : Member)))) && (decide ((t1.1.length : Int) = 1))) then (ix t1.1 0).bind fun t7 => some (decide (t7 = 3)) else some false)).bind fun t6 => some t6
theorem law11_alive_ok {r : Bool} (h : law11_alive = some r) : Fn Try.prog 10 [] (.d r) := by
  refine Fn.of Try.func10 rfl fun w m => ?_
  unfold law11_alive at h
  refine T_seq ?_
  refine T_region ?_
  refine TL_y (y_assign (e_b false)) ?_
  refine TL_nil ?_
  refine z_nt ?_
  refine T_seq ?_
  refine T_region ?_
  refine TL_y (y_build z39 pl39 (b_cons (e_i (3)) p_Member_no (b_nil)) rfl) ?_
  refine TL_alloc z39 ?_
  refine TL_store (e_t rfl) rfl (e_t rfl) Put.self ty39 (by decide) ?_
  refine TL_nil ?_
  refine z_nt ?_
  refine T_seq ?_
  refine T_region ?_
  refine TL_y (y_load (e_t rfl) rfl Sub.self ty39) ?_
  refine TL_y (y_build z39 pl39 (b_cons (e_i (-1)) p_Member_no (b_nil)) rfl) ?_
  refine TL_y (y_load (e_t rfl) rfl Sub.self ty39) ?_
  refine TL_buildSlice (xs := ([({ Member.zero with no := 3 } : Member)] : List Member)) (⟨rfl, (e_t rfl), trivial⟩) tyel28 rfl ?_
  refine TL_g2d (q := 10) rfl rfl ?_
  refine TL_y (y_build z44 pl44 (b_cons (e_t rfl) p_Node_self (b_cons (e_t rfl) p_Node_pred (b_cons (e_t rfl) p_Node_succs (b_nil)))) rfl) ?_
  refine TL_buildSlice (xs := ([({ { { Node.zero with self := ({ Member.zero with no := 3 } : Member) } with pred := ({ Member.zero with no := (-1) } : Member) } with succs := ([({ Member.zero with no := 3 } : Member)] : List Member) } : Node)] : List Node)) (⟨rfl, (e_t rfl), trivial⟩) tyel22 rfl ?_
  refine TL_g2d (q := 12) rfl rfl ?_
  refine TL_y (y_build z24 pl24 (b_cons (e_t rfl) p_Overlay_nodes (b_nil)) rfl) ?_
  refine TL_y (y_build z26 pl26 (b_cons (e_u8 7) (put_vec (i := 31) (by decide)) (b_nil)) rfl) ?_
  obtain ⟨t1, ht1, h⟩ := bind_some h
  refine TL_call (xs := [.d (({ Overlay.zero with nodes := ([({ { { Node.zero with self := ({ Member.zero with no := 3 } : Member) } with pred := ({ Member.zero with no := (-1) } : Member) } with succs := ([({ Member.zero with no := 3 } : Member)] : List Member) } : Node)] : List Node) } : Overlay) : Overlay), .d (3 : Int), .d (((Id.zero.set 31 (UInt8.ofNat 7)) : Id) : Id), .d (0 : Int)]) (lookup_Walk_ok ht1) ⟨(e_t rfl), (e_i (3)), (e_t rfl), (e_i (0)), trivial⟩ c16 ?_
  refine TL_y (y_move (e_t rfl)) ?_
  refine TL_y (y_extract3_0 (e_t rfl)) ?_
  refine TL_y (y_extract3_1 (e_t rfl)) ?_
  refine TL_y (y_extract3_2 (e_t rfl)) ?_
  refine TL_alloc z39 ?_
  refine TL_y (y_assign (e_t rfl)) ?_
  refine TL_store (e_t rfl) rfl (e_t rfl) Put.self ty39 (by decide) ?_
  refine TL_y (y_assign (e_t rfl)) ?_
  refine TL_nil ?_
  refine z_nt ?_
  refine T_seq ?_
  refine T_region ?_
  refine TL_y (y_move (e_t rfl)) ?_
  refine TL_y (y_eql (e_t rfl) (e_i (0))) ?_
  refine TL_y (y_move (e_t rfl)) ?_
  refine TL_and 4 25 (b := (decide (t1.2.2 = 0))) (c := (decide (t1.2.1 = ({ Member.zero with no := 3 } : Member)))) ?_ (fun hb2 hk => ?_) (fun hb2 hk => ?_)
  rotate_left
  · refine TL_skip0 rfl hb2 ?_
    refine TL_skip0 rfl hb2 ?_
    refine TL_skip0 rfl hb2 ?_
    refine TL_y (y_pick_f (e_t rfl) hb2 (e_b false)) ?_
    exact TL_fr hk (.refl _)
  · refine TL_want rfl hb2 ?_
    refine TL_y (y_load (e_t rfl) rfl Sub.self ty39) ?_
    refine TL_want rfl hb2 ?_
    refine TL_y (y_load (e_t rfl) rfl Sub.self ty39) ?_
    refine TL_want rfl hb2 ?_
    refine TL_y (y_eqlT (e_t rfl) (e_t rfl) eqT39 rfl eg39) ?_
    refine TL_y (y_pick_t (e_t rfl) hb2 (e_t rfl)) ?_
    exact TL_fr hk (.cons (.cons (.cons (.refl _) rfl) rfl) rfl)
  refine TL_y (y_move (e_t rfl)) ?_
  refine TL_and 4 30 (b := ((decide (t1.2.2 = 0)) && (decide (t1.2.1 = ({ Member.zero with no := 3 } : Member))))) (c := (decide ((t1.1.length : Int) = 1))) ?_ (fun hb3 hk => ?_) (fun hb3 hk => ?_)
  rotate_left
  · refine TL_skip0 rfl hb3 ?_
    refine TL_skip0 rfl hb3 ?_
    refine TL_skip0 rfl hb3 ?_
    refine TL_y (y_pick_f (e_t rfl) hb3 (e_b false)) ?_
    exact TL_fr hk (.refl _)
  · refine TL_want rfl hb3 ?_
    refine TL_y (y_move (e_t rfl)) ?_
    refine TL_want rfl hb3 ?_
    refine TL_y (y_len (e_t rfl) (by rw [el45]; exact Try.underlying45)) ?_
    refine TL_want rfl hb3 ?_
    refine TL_y (y_eql (e_t rfl) (e_i (1))) ?_
    refine TL_y (y_pick_t (e_t rfl) hb3 (e_t rfl)) ?_
    exact TL_fr hk (.cons (.cons (.cons (.refl _) rfl) rfl) rfl)
  refine TL_y (y_move (e_t rfl)) ?_
  obtain ⟨t6, ht6, h⟩ := bind_some h
  refine TL_cut 5 36 (r := t6) (((decide (t1.2.2 = 0)) && (decide (t1.2.1 = ({ Member.zero with no := 3 } : Member)))) && (decide ((t1.1.length : Int) = 1))) ?_ (fun hb4 hk => ?_) (fun hb4 hk => ?_)
  rotate_left
  · replace h := cond_t hb4 ht6
    refine TL_want rfl hb4 ?_
    refine TL_y (y_move (e_t rfl)) ?_
    refine TL_want rfl hb4 ?_
    obtain ⟨t7, ht7, h⟩ := bind_some h
    refine TL_y (y_indexIx (e_t rfl) (e_i (0)) ht7 tysl45) ?_
    refine TL_want rfl hb4 ?_
    refine TL_y (y_load_ptr (e_t rfl) ty3) ?_
    refine TL_want rfl hb4 ?_
    refine TL_y (y_eql (e_t rfl) (e_i (3))) ?_
    obtain rfl := Option.some.inj h
    refine TL_y (y_pick_t (e_t rfl) hb4 (e_t rfl)) ?_
    exact TL_fr hk (.cons (.cons (.cons (.cons (.refl _) rfl) rfl) rfl) rfl)
  · obtain rfl := Option.some.inj (cond_f hb4 ht6)
    refine TL_skip0 rfl hb4 ?_
    refine TL_skip0 rfl hb4 ?_
    refine TL_skip0 rfl hb4 ?_
    refine TL_skip0 rfl hb4 ?_
    refine TL_y (y_pick_f (e_t rfl) hb4 (e_b false)) ?_
    exact TL_fr hk (.refl _)
  refine TL_y (y_assign (e_t rfl)) ?_
  refine TL_nil ?_
  refine z_nt ?_
  refine T_ret ?_
  obtain rfl := Option.some.inj h
  exact Z_ret1 (fn := Try.f10) rfl (rv_t rfl)
def r01_Not_l0 (a0 : Id) : Nat → Id × Int → Option (Id × Int)
  | 0, _ => none
  | ks1 + 1, s1 => (bif (decide (s1.2 < 32)) then (vix a0 s1.2).bind fun t7 => (vchk 32 s1.2).bind fun t8 => r01_Not_l0 a0 ks1 ((vput s1.1 s1.2 ((UInt8.ofNat 255) - t7)), (w64 (s1.2 + 1))) else some (s1.1, s1.2))
def r01_Not (a0 : Id) : Option Id := ((r01_Not_l0 a0 FUEL ((Id.zero : Id), 0)).bind fun s1 => some s1.1)
theorem r01_Not_ok {a0 : Id} {r : Id} (h : r01_Not a0 = some r) : Fn Try.prog 93 [.d a0] (.d r) := by
  refine Fn.of Try.func93 rfl fun w m => ?_
  unfold r01_Not at h
  refine T_seq ?_
  refine T_region ?_
  refine TL_box (e_t rfl) ?_
  refine TL_alloc z26 ?_
  refine TL_nil ?_
  refine z_nt ?_
  refine T_seq ?_
  refine T_region ?_
  refine TL_y (y_build z26 pl26 (b_nil) rfl) ?_
  refine TL_alloc z26 ?_
  refine TL_store (e_t rfl) rfl (e_t rfl) Put.self ty26 (by decide) ?_
  refine TL_nil ?_
  refine z_nt ?_
  refine T_seq ?_
  refine T_seq ?_
  refine T_region ?_
  refine TL_y (y_assign (e_i (0))) ?_
  refine TL_nil ?_
  refine z_nt ?_
  obtain ⟨o3, ho3, h⟩ := bind_some h
  refine T_loopin (S := fun (s1 : Id × Int) => ⟨[(2, .p 2 0), (3, .p 3 0), (4, .d (s1.2 : Int))], ⟨[(2, ⟨(Id.zero : Id)⟩), (3, ⟨(s1.1 : Id)⟩)], [], []⟩⟩) (fun z => z = o3) (fun s1 e => ?_) (fun hfall4 => ?_)
  · subst e
    refine z_nt ?_
    refine T_seq ?_
    refine T_region ?_
    refine TL_y (y_load (e_t rfl) rfl Sub.self ty26) ?_
    refine TL_store (e_t rfl) rfl (e_t rfl) Put.self ty26 (by decide) ?_
    refine TL_nil ?_
    refine z_nt ?_
    refine T_ret ?_
    obtain rfl := Option.some.inj h
    exact Z_ret1 (fn := Try.f93) rfl (rv_c rfl rfl ty26)
  · clear h
    refine TW_le (le_k (ks := [1, 2, 3, 4]) (bs := [1, 2, 3]) (gs := []) (.cons rfl (.cons rfl (.cons rfl (.cons rfl .nil)))) (.cons rfl (.cons rfl (.cons rfl .nil))) .nil) (fuel_ind (fun (s1 : Id × Int) => ⟨[(1, .p 1 0), (2, .p 2 0), (3, .p 3 0), (4, .d (s1.2 : Int))], ⟨[(1, ⟨(a0 : Id)⟩), (2, ⟨(Id.zero : Id)⟩), (3, ⟨(s1.1 : Id)⟩)], [], []⟩⟩) (fun k s => r01_Not_l0 a0 k s = some o3) ?_ ?_ _ ((Id.zero : Id), 0) ho3)
    · intro s h
      cases h
    · intro ks1 s1 ih h
      replace h : ((bif (decide (s1.2 < 32)) then (vix a0 s1.2).bind fun t7 => (vchk 32 s1.2).bind fun t8 => r01_Not_l0 a0 ks1 ((vput s1.1 s1.2 ((UInt8.ofNat 255) - t7)), (w64 (s1.2 + 1))) else some (s1.1, s1.2))) = some o3 := h
      refine TW_round ?_
      refine T_seq ?_
      refine T_seq ?_
      refine T_region ?_
      refine TL_y (y_move (e_t rfl)) ?_
      refine TL_y (y_lss (e_t rfl) (e_i (32))) ?_
      refine TL_nil ?_
      refine z_nt ?_
      refine T_cond rfl (fun hb6 => ?_) (fun hb6 => ?_)
      · replace h := cond_t hb6 h
        refine T_skip ?_
        refine z_nt ?_
        refine T_seq ?_
        refine T_block ?_
        refine T_region ?_
        refine TL_y (y_move (e_t rfl)) ?_
        refine TL_y (y_move (e_t rfl)) ?_
        obtain ⟨t7, ht7, h⟩ := bind_some h
        obtain ⟨ht7_1, ht7_0, ht7_2⟩ := vix_get ht7
        refine TL_y (y_indexArr0 (e_t rfl) (e_t rfl) ht7_0 ht7_1 tyar26) ?_
        refine TL_y (y_load_vec (e_t rfl) rfl ht7 ty5) ?_
        refine TL_y (y8_sub (e_u8 255) (e_t rfl)) ?_
        obtain ⟨t8, ht8, h⟩ := bind_some h
        obtain ⟨ht8_0, ht8_1⟩ := vchk_some ht8
        refine TL_y (y_indexArr0 (e_t rfl) (e_t rfl) ht8_0 ht8_1 tyar26) ?_
        refine TL_store_vec (e_t rfl) rfl (e_t rfl) ht8_0 ht8_1 ty5 ?_
        refine TL_nil ?_
        refine z_nb ?_
        refine z_nt ?_
        refine T_region ?_
        refine TL_y (y_move (e_t rfl)) ?_
        refine TL_y (y_add (e_t rfl) (e_i (1))) ?_
        refine TL_y (y_assign (e_t rfl)) ?_
        refine TL_nil ?_
        refine z_nl ?_
        exact TW_le (le_k (ks := [1, 2, 3, 4]) (bs := [1, 2, 3]) (gs := []) (.cons rfl (.cons rfl (.cons rfl (.cons rfl .nil)))) (.cons rfl (.cons rfl (.cons rfl .nil))) .nil) (ih _ h)
      · replace h := cond_f hb6 h
        refine T_exit ?_
        refine z_et ?_
        refine z_et ?_
        refine z_ei ?_
        exact Z_le (le_k (ks := [2, 3, 4]) (bs := [2, 3]) (gs := []) (.cons rfl (.cons rfl (.cons rfl .nil))) (.cons rfl (.cons rfl .nil)) .nil) (hfall4 _ (Option.some.inj h))
def r01_Add_l0 (a0 : Id) (a1 : Id) : Nat → Id × Int × Int → Option (Id × Int × Int)
  | 0, _ => none
  | ks1 + 1, s1 => (bif (decide (0 ≤ s1.2.2)) then (vix a0 s1.2.2).bind fun t7 => (vix a1 s1.2.2).bind fun t8 => (vchk 32 s1.2.2).bind fun t9 => r01_Add_l0 a0 a1 ks1 ((vput s1.1 s1.2.2 (toU8 (Int.tmod (w64 ((w64 ((t7.toNat : Int) + (t8.toNat : Int))) + s1.2.1)) 256))), (w64 (Int.tdiv (w64 ((w64 ((t7.toNat : Int) + (t8.toNat : Int))) + s1.2.1)) 256)), (w64 (s1.2.2 - 1))) else some (s1.1, s1.2.1, s1.2.2))
def r01_Add (a0 : Id) (a1 : Id) : Option Id := ((r01_Add_l0 a0 a1 FUEL ((Id.zero : Id), 0, 31)).bind fun s1 => some s1.1)
theorem r01_Add_ok {a0 : Id} {a1 : Id} {r : Id} (h : r01_Add a0 a1 = some r) : Fn Try.prog 92 [.d a0, .d a1] (.d r) := by
  refine Fn.of Try.func92 rfl fun w m => ?_
  unfold r01_Add at h
  refine T_seq ?_
  refine T_region ?_
  refine TL_box (e_t rfl) ?_
  refine TL_box (e_t rfl) ?_
  refine TL_alloc z26 ?_
  refine TL_nil ?_
  refine z_nt ?_
  refine T_seq ?_
  refine T_region ?_
  refine TL_y (y_build z26 pl26 (b_nil) rfl) ?_
  refine TL_alloc z26 ?_
  refine TL_store (e_t rfl) rfl (e_t rfl) Put.self ty26 (by decide) ?_
  refine TL_nil ?_
  refine z_nt ?_
  refine T_seq ?_
  refine T_region ?_
  refine TL_y (y_assign (e_i (0))) ?_
  refine TL_nil ?_
  refine z_nt ?_
  refine T_seq ?_
  refine T_seq ?_
  refine T_region ?_
  refine TL_y (y_assign (e_i (31))) ?_
  refine TL_nil ?_
  refine z_nt ?_
  obtain ⟨o3, ho3, h⟩ := bind_some h
  refine T_loopin (S := fun (s1 : Id × Int × Int) => ⟨[(4, .p 4 0), (5, .p 5 0), (6, .d (s1.2.1 : Int)), (7, .d (s1.2.2 : Int))], ⟨[(4, ⟨(Id.zero : Id)⟩), (5, ⟨(s1.1 : Id)⟩)], [], []⟩⟩) (fun z => z = o3) (fun s1 e => ?_) (fun hfall4 => ?_)
  · subst e
    refine z_nt ?_
    refine T_seq ?_
    refine T_region ?_
    refine TL_y (y_load (e_t rfl) rfl Sub.self ty26) ?_
    refine TL_store (e_t rfl) rfl (e_t rfl) Put.self ty26 (by decide) ?_
    refine TL_nil ?_
    refine z_nt ?_
    refine T_ret ?_
    obtain rfl := Option.some.inj h
    exact Z_ret1 (fn := Try.f92) rfl (rv_c rfl rfl ty26)
  · clear h
    refine TW_le (le_k (ks := [2, 3, 4, 5, 6, 7]) (bs := [2, 3, 4, 5]) (gs := []) (.cons rfl (.cons rfl (.cons rfl (.cons rfl (.cons rfl (.cons rfl .nil)))))) (.cons rfl (.cons rfl (.cons rfl (.cons rfl .nil)))) .nil) (fuel_ind (fun (s1 : Id × Int × Int) => ⟨[(2, .p 2 0), (3, .p 3 0), (4, .p 4 0), (5, .p 5 0), (6, .d (s1.2.1 : Int)), (7, .d (s1.2.2 : Int))], ⟨[(2, ⟨(a0 : Id)⟩), (3, ⟨(a1 : Id)⟩), (4, ⟨(Id.zero : Id)⟩), (5, ⟨(s1.1 : Id)⟩)], [], []⟩⟩) (fun k s => r01_Add_l0 a0 a1 k s = some o3) ?_ ?_ _ ((Id.zero : Id), 0, 31) ho3)
    · intro s h
      cases h
    · intro ks1 s1 ih h
      replace h : ((bif (decide (0 ≤ s1.2.2)) then (vix a0 s1.2.2).bind fun t7 => (vix a1 s1.2.2).bind fun t8 => (vchk 32 s1.2.2).bind fun t9 => r01_Add_l0 a0 a1 ks1 ((vput s1.1 s1.2.2 (toU8 (Int.tmod (w64 ((w64 ((t7.toNat : Int) + (t8.toNat : Int))) + s1.2.1)) 256))), (w64 (Int.tdiv (w64 ((w64 ((t7.toNat : Int) + (t8.toNat : Int))) + s1.2.1)) 256)), (w64 (s1.2.2 - 1))) else some (s1.1, s1.2.1, s1.2.2))) = some o3 := h
      refine TW_round ?_
      refine T_seq ?_
      refine T_seq ?_
      refine T_region ?_
      refine TL_y (y_move (e_t rfl)) ?_
      refine TL_y (y_geq (e_t rfl) (e_i (0))) ?_
      refine TL_nil ?_
      refine z_nt ?_
      refine T_cond rfl (fun hb6 => ?_) (fun hb6 => ?_)
      · replace h := cond_t hb6 h
        refine T_skip ?_
        refine z_nt ?_
        refine T_seq ?_
        refine T_block ?_
        refine T_seq ?_
        refine T_draw hmix (by kernel_rfl) ?_
        refine TQ_y (y_move (e_t rfl)) ?_
        obtain ⟨t7, ht7, h⟩ := bind_some h
        obtain ⟨ht7_1, ht7_0, ht7_2⟩ := vix_get ht7
        refine TQ_y (y_indexArr0 (e_t rfl) (e_t rfl) ht7_0 ht7_1 tyar26) ?_
        refine TQ_y (y_load_vec (e_t rfl) rfl ht7 ty5) ?_
        refine TQ_y (y_conv_u8 (e_t rfl) (by simp [Try.underlying5]) Try.underlying3) ?_
        refine TQ_y (y_move (e_t rfl)) ?_
        obtain ⟨t8, ht8, h⟩ := bind_some h
        obtain ⟨ht8_1, ht8_0, ht8_2⟩ := vix_get ht8
        refine TQ_y (y_indexArr0 (e_t rfl) (e_t rfl) ht8_0 ht8_1 tyar26) ?_
        refine TQ_y (y_load_vec (e_t rfl) rfl ht8 ty5) ?_
        refine TQ_y (y_conv_u8 (e_t rfl) (by simp [Try.underlying5]) Try.underlying3) ?_
        refine TQ_y (y_add (e_t rfl) (e_t rfl)) ?_
        refine TQ_y (y_move (e_t rfl)) ?_
        refine TQ_y (y_add (e_t rfl) (e_t rfl)) ?_
        refine TQ_y (y_assign (e_t rfl)) ?_
        refine TQ_nil ?_
        refine z_nt ?_
        refine T_seq ?_
        refine T_region ?_
        refine TL_y (y_move (e_t rfl)) ?_
        refine TL_y (y_move (e_t rfl)) ?_
        refine TL_y (y_rem (e_t rfl) (e_i (256)) (by decide)) ?_
        refine TL_y (y_conv_to_u8 (e_t rfl) (by simp [Try.underlying3]) Try.underlying5) ?_
        obtain ⟨t9, ht9, h⟩ := bind_some h
        obtain ⟨ht9_0, ht9_1⟩ := vchk_some ht9
        refine TL_y (y_indexArr0 (e_t rfl) (e_t rfl) ht9_0 ht9_1 tyar26) ?_
        refine TL_store_vec (e_t rfl) rfl (e_t rfl) ht9_0 ht9_1 ty5 ?_
        refine TL_nil ?_
        refine z_nt ?_
        refine T_region ?_
        refine TL_y (y_move (e_t rfl)) ?_
        refine TL_y (y_quo (e_t rfl) (e_i (256)) (by decide)) ?_
        refine TL_y (y_assign (e_t rfl)) ?_
        refine TL_nil ?_
        refine z_nb ?_
        refine z_nt ?_
        refine T_region ?_
        refine TL_y (y_move (e_t rfl)) ?_
        refine TL_y (y_sub (e_t rfl) (e_i (1))) ?_
        refine TL_y (y_assign (e_t rfl)) ?_
        refine TL_nil ?_
        refine z_nl ?_
        exact TW_le (le_k (ks := [2, 3, 4, 5, 6, 7]) (bs := [2, 3, 4, 5]) (gs := []) (.cons rfl (.cons rfl (.cons rfl (.cons rfl (.cons rfl (.cons rfl .nil)))))) (.cons rfl (.cons rfl (.cons rfl (.cons rfl .nil)))) .nil) (ih _ h)
      · replace h := cond_f hb6 h
        refine T_exit ?_
        refine z_et ?_
        refine z_et ?_
        refine z_ei ?_
        exact Z_le (le_k (ks := [4, 5, 6, 7]) (bs := [4, 5]) (gs := []) (.cons rfl (.cons rfl (.cons rfl (.cons rfl .nil)))) (.cons rfl (.cons rfl .nil)) .nil) (hfall4 _ (Option.some.inj h))
def r01_Power_l0 (a0 : Int) : Nat → UInt8 × Int → Option (UInt8 × Int)
  | 0, _ => none
  | ks1 + 1, s1 => (bif (decide (s1.2 < (Int.tmod a0 8))) then r01_Power_l0 a0 ks1 (((UInt8.ofNat 2) * s1.1), (w64 (s1.2 + 1))) else some (s1.1, s1.2))
def r01_Power (a0 : Int) : Option Id := ((r01_Power_l0 a0 FUEL ((UInt8.ofNat 1), 0)).bind fun s1 => (vchk 32 (w64 (31 - (w64 (Int.tdiv a0 8))))).bind fun t7 => some (vput (Id.zero : Id) (w64 (31 - (w64 (Int.tdiv a0 8)))) s1.1))
theorem r01_Power_ok {a0 : Int} {r : Id} (h : r01_Power a0 = some r) : Fn Try.prog 94 [.d a0] (.d r) := by
  refine Fn.of Try.func94 rfl fun w m => ?_
  unfold r01_Power at h
  refine T_seq ?_
  refine T_region ?_
  refine TL_alloc z26 ?_
  refine TL_nil ?_
  refine z_nt ?_
  refine T_seq ?_
  refine T_region ?_
  refine TL_y (y_build z26 pl26 (b_nil) rfl) ?_
  refine TL_alloc z26 ?_
  refine TL_store (e_t rfl) rfl (e_t rfl) Put.self ty26 (by decide) ?_
  refine TL_nil ?_
  refine z_nt ?_
  refine T_seq ?_
  refine T_region ?_
  refine TL_y (y_assign (e_u8 1)) ?_
  refine TL_nil ?_
  refine z_nt ?_
  refine T_seq ?_
  refine T_seq ?_
  refine T_region ?_
  refine TL_y (y_assign (e_i (0))) ?_
  refine TL_nil ?_
  refine z_nt ?_
  obtain ⟨o3, ho3, h⟩ := bind_some h
  refine T_loopin (S := fun (s1 : UInt8 × Int) => ⟨[(0, .d (a0 : Int)), (2, .p 2 0), (3, .p 3 0), (4, .d (s1.1 : UInt8)), (5, .d (s1.2 : Int))], ⟨[(2, ⟨(Id.zero : Id)⟩), (3, ⟨((Id.zero : Id) : Id)⟩)], [], []⟩⟩) (fun z => z = o3) (fun s1 e => ?_) (fun hfall4 => ?_)
  · subst e
    refine z_nt ?_
    refine T_seq ?_
    refine T_region ?_
    refine TL_y (y_move (e_t rfl)) ?_
    refine TL_y (y_quo (e_t rfl) (e_i (8)) (by decide)) ?_
    refine TL_y (y_sub (e_i (31)) (e_t rfl)) ?_
    refine TL_y (y_move (e_t rfl)) ?_
    obtain ⟨t7, ht7, h⟩ := bind_some h
    obtain ⟨ht7_0, ht7_1⟩ := vchk_some ht7
    refine TL_y (y_indexArr0 (e_t rfl) (e_t rfl) ht7_0 ht7_1 tyar26) ?_
    refine TL_store_vec (e_t rfl) rfl (e_t rfl) ht7_0 ht7_1 ty5 ?_
    refine TL_nil ?_
    refine z_nt ?_
    refine T_seq ?_
    refine T_region ?_
    refine TL_y (y_load (e_t rfl) rfl Sub.self ty26) ?_
    refine TL_store (e_t rfl) rfl (e_t rfl) Put.self ty26 (by decide) ?_
    refine TL_nil ?_
    refine z_nt ?_
    refine T_ret ?_
    obtain rfl := Option.some.inj h
    exact Z_ret1 (fn := Try.f94) rfl (rv_c rfl rfl ty26)
  · clear h
    refine TW_le (le_k (ks := [0, 2, 3, 4, 5]) (bs := [2, 3]) (gs := []) (.cons rfl (.cons rfl (.cons rfl (.cons rfl (.cons rfl .nil))))) (.cons rfl (.cons rfl .nil)) .nil) (fuel_ind (fun (s1 : UInt8 × Int) => ⟨[(0, .d (a0 : Int)), (2, .p 2 0), (3, .p 3 0), (4, .d (s1.1 : UInt8)), (5, .d (s1.2 : Int))], ⟨[(2, ⟨(Id.zero : Id)⟩), (3, ⟨((Id.zero : Id) : Id)⟩)], [], []⟩⟩) (fun k s => r01_Power_l0 a0 k s = some o3) ?_ ?_ _ ((UInt8.ofNat 1), 0) ho3)
    · intro s h
      cases h
    · intro ks1 s1 ih h
      replace h : ((bif (decide (s1.2 < (Int.tmod a0 8))) then r01_Power_l0 a0 ks1 (((UInt8.ofNat 2) * s1.1), (w64 (s1.2 + 1))) else some (s1.1, s1.2))) = some o3 := h
      refine TW_round ?_
      refine T_seq ?_
      refine T_seq ?_
      refine T_region ?_
      refine TL_y (y_move (e_t rfl)) ?_
      refine TL_y (y_move (e_t rfl)) ?_
      refine TL_y (y_rem (e_t rfl) (e_i (8)) (by decide)) ?_
      refine TL_y (y_lss (e_t rfl) (e_t rfl)) ?_
      refine TL_nil ?_
      refine z_nt ?_
      refine T_cond rfl (fun hb6 => ?_) (fun hb6 => ?_)
      · replace h := cond_t hb6 h
        refine T_skip ?_
        refine z_nt ?_
        refine T_seq ?_
        refine T_block ?_
        refine T_region ?_
        refine TL_y (y_move (e_t rfl)) ?_
        refine TL_y (y8_mul (e_u8 2) (e_t rfl)) ?_
        refine TL_y (y_assign (e_t rfl)) ?_
        refine TL_nil ?_
        refine z_nb ?_
        refine z_nt ?_
        refine T_region ?_
        refine TL_y (y_move (e_t rfl)) ?_
        refine TL_y (y_add (e_t rfl) (e_i (1))) ?_
        refine TL_y (y_assign (e_t rfl)) ?_
        refine TL_nil ?_
        refine z_nl ?_
        exact TW_le (le_k (ks := [0, 2, 3, 4, 5]) (bs := [2, 3]) (gs := []) (.cons rfl (.cons rfl (.cons rfl (.cons rfl (.cons rfl .nil))))) (.cons rfl (.cons rfl .nil)) .nil) (ih _ h)
      · replace h := cond_f hb6 h
        refine T_exit ?_
        refine z_et ?_
        refine z_et ?_
        refine z_ei ?_
        exact Z_le (le_k (ks := [0, 2, 3, 4, 5]) (bs := [2, 3]) (gs := []) (.cons rfl (.cons rfl (.cons rfl (.cons rfl (.cons rfl .nil))))) (.cons rfl (.cons rfl .nil)) .nil) (hfall4 _ (Option.some.inj h))
def r01_Far (a0 : Id) (a1 : Id) : Option Id := (r01_Not a0).bind fun t1 => (r01_Add a1 t1).bind fun t2 => (r01_Power 0).bind fun t3 => (r01_Add t2 t3).bind fun t4 => some t4
theorem r01_Far_ok {a0 : Id} {a1 : Id} {r : Id} (h : r01_Far a0 a1 = some r) : Fn Try.prog 64 [.d a0, .d a1] (.d r) := by
  refine Fn.of Try.func64 rfl fun w m => ?_
  unfold r01_Far at h
  refine T_seq ?_
  refine T_region ?_
  refine TL_box (e_t rfl) ?_
  refine TL_box (e_t rfl) ?_
  refine TL_alloc z26 ?_
  refine TL_nil ?_
  refine z_nt ?_
  refine T_seq ?_
  refine T_le (le_k (ks := [0, 1, 2, 3, 4]) (bs := [2, 3, 4]) (gs := []) (ti := []) (.cons rfl (.cons rfl (.cons rfl (.cons rfl (.cons rfl .nil))))) (.cons rfl (.cons rfl (.cons rfl .nil))) .nil) ?_
  obtain ⟨t1, ht1, h⟩ := bind_some h
  obtain ⟨t2, ht2, h⟩ := bind_some h
  obtain ⟨t3, ht3, h⟩ := bind_some h
  obtain ⟨t4, ht4, h⟩ := bind_some h
  refine T_drawn hmix (by kernel_rfl) (by kernel_rfl) [some (.d (a1 : Id)), some (.d (a0 : Id)), some (.d (t1 : Id)), some (.d (t2 : Id)), some (.d (t3 : Id)), some (.d (t4 : Id)), none] [(none, none, 2, (⟨(a0 : Id)⟩ : BV _)), (none, none, 3, (⟨(a1 : Id)⟩ : BV _)), (none, some 6, 4, (⟨(Id.zero : Id)⟩ : BV _)), (some 6, none, 4, (⟨(t4 : Id)⟩ : BV _))] [] [] rfl ⟨rfl, rfl, rfl, trivial⟩ trivial rfl rfl rfl ⟨?_, ?_, ?_, ?_, ?_, ?_, ?_, trivial⟩ (Z_le (le_k (ks := [0, 1, 2, 3, 4, 5, 6, 7, 8, 9, 10]) (bs := [2, 3, 4]) (gs := []) (ti := []) (.cons rfl (.cons rfl (.cons rfl (.cons rfl (.cons rfl (.cons rfl (.cons rfl (.cons rfl (.cons rfl (.cons rfl (.cons rfl .nil))))))))))) (.cons rfl (.cons rfl (.cons rfl .nil))) .nil) ?_)
  · refine d_put rfl rfl offs_d rfl (fun L s' H Q k => ?_)
    refine TL_y (y_load (e_t (H.p rfl)) (H.b 1 rfl) Sub.self ty26) ?_
    exact TL_nil k
  · refine d_put rfl rfl offs_d rfl (fun L s' H Q k => ?_)
    refine TL_y (y_load (e_t (H.p rfl)) (H.b 0 rfl) Sub.self ty26) ?_
    exact TL_nil k
  · refine d_put rfl rfl offs_d rfl (fun L s' H Q k => ?_)
    refine TL_call (xs := [.d (a0 : Id)]) (r01_Not_ok ht1) ⟨(e_t (H.t 1 rfl)), trivial⟩ c93 ?_
    exact TL_nil k
  · refine d_put rfl rfl offs_d rfl (fun L s' H Q k => ?_)
    refine TL_call (xs := [.d (a1 : Id), .d (t1 : Id)]) (r01_Add_ok ht2) ⟨(e_t (H.t 0 rfl)), (e_t (H.t 2 rfl)), trivial⟩ c92 ?_
    exact TL_nil k
  · refine d_put rfl rfl offs_d rfl (fun L s' H Q k => ?_)
    refine TL_call (xs := [.d (0 : Int)]) (r01_Power_ok ht3) ⟨(e_i (0)), trivial⟩ c94 ?_
    exact TL_nil k
  · refine d_put rfl rfl offs_d rfl (fun L s' H Q k => ?_)
    refine TL_call (xs := [.d (t2 : Id), .d (t3 : Id)]) (r01_Add_ok ht4) ⟨(e_t (H.t 3 rfl)), (e_t (H.t 4 rfl)), trivial⟩ c92 ?_
    exact TL_nil k
  · refine d_store 0 32 rfl rfl rfl rfl (fun L s' H Q k => ?_)
    refine TL_store (e_t (H.p rfl)) (H.b 2 rfl) (e_t (H.t 5 rfl)) Put.self ty26 (by decide) ?_
    exact TL_nil k
  refine z_nt ?_
  refine T_ret ?_
  obtain rfl := Option.some.inj h
  exact Z_ret1 (fn := Try.f64) rfl (rv_c rfl rfl ty26)
def r01_Bit_l0 (a1 : Int) : Nat → Int × Int → Option (Int × Int)
  | 0, _ => none
  | ks2 + 1, s2 => (bif (decide (s2.2 < (w64 (7 - (Int.tmod a1 8))))) then r01_Bit_l0 a1 ks2 ((w64 (Int.tdiv s2.1 2)), (w64 (s2.2 + 1))) else some (s2.1, s2.2))
def r01_Bit (a0 : Id) (a1 : Int) : Option Int := (vix a0 (w64 (Int.tdiv a1 8))).bind fun t1 => ((r01_Bit_l0 a1 FUEL ((t1.toNat : Int), 0)).bind fun s2 => some (Int.tmod s2.1 2))
theorem r01_Bit_ok {a0 : Id} {a1 : Int} {r : Int} (h : r01_Bit a0 a1 = some r) : Fn Try.prog 91 [.d a0, .d a1] (.d r) := by
  refine Fn.of Try.func91 rfl fun w m => ?_
  unfold r01_Bit at h
  refine T_seq ?_
  refine T_region ?_
  refine TL_box (e_t rfl) ?_
  refine TL_y (y_assign (e_i (0))) ?_
  refine TL_nil ?_
  refine z_nt ?_
  refine T_seq ?_
  refine T_region ?_
  refine TL_y (y_move (e_t rfl)) ?_
  refine TL_y (y_quo (e_t rfl) (e_i (8)) (by decide)) ?_
  obtain ⟨t1, ht1, h⟩ := bind_some h
  obtain ⟨ht1_1, ht1_0, ht1_2⟩ := vix_get ht1
  refine TL_y (y_indexArr0 (e_t rfl) (e_t rfl) ht1_0 ht1_1 tyar26) ?_
  refine TL_y (y_load_vec (e_t rfl) rfl ht1 ty5) ?_
  refine TL_y (y_conv_u8 (e_t rfl) (by simp [Try.underlying5]) Try.underlying3) ?_
  refine TL_y (y_assign (e_t rfl)) ?_
  refine TL_nil ?_
  refine z_nt ?_
  refine T_seq ?_
  refine T_seq ?_
  refine T_region ?_
  refine TL_y (y_assign (e_i (0))) ?_
  refine TL_nil ?_
  refine z_nt ?_
  obtain ⟨o4, ho4, h⟩ := bind_some h
  refine T_loopin (S := fun (s2 : Int × Int) => ⟨[(5, .d (s2.1 : Int)), (6, .d (s2.2 : Int))], ⟨[], [], []⟩⟩) (fun z => z = o4) (fun s2 e => ?_) (fun hfall5 => ?_)
  · subst e
    refine z_nt ?_
    refine T_seq ?_
    refine T_region ?_
    refine TL_y (y_move (e_t rfl)) ?_
    refine TL_y (y_rem (e_t rfl) (e_i (2)) (by decide)) ?_
    refine TL_y (y_assign (e_t rfl)) ?_
    refine TL_nil ?_
    refine z_nt ?_
    refine T_ret ?_
    obtain rfl := Option.some.inj h
    exact Z_ret1 (fn := Try.f91) rfl (rv_t rfl)
  · clear h
    refine TW_le (le_k (ks := [1, 5, 6]) (bs := []) (gs := []) (.cons rfl (.cons rfl (.cons rfl .nil))) .nil .nil) (fuel_ind (fun (s2 : Int × Int) => ⟨[(1, .d (a1 : Int)), (5, .d (s2.1 : Int)), (6, .d (s2.2 : Int))], ⟨[], [], []⟩⟩) (fun k s => r01_Bit_l0 a1 k s = some o4) ?_ ?_ _ ((t1.toNat : Int), 0) ho4)
    · intro s h
      cases h
    · intro ks2 s2 ih h
      replace h : ((bif (decide (s2.2 < (w64 (7 - (Int.tmod a1 8))))) then r01_Bit_l0 a1 ks2 ((w64 (Int.tdiv s2.1 2)), (w64 (s2.2 + 1))) else some (s2.1, s2.2))) = some o4 := h
      refine TW_round ?_
      refine T_seq ?_
      refine T_seq ?_
      refine T_region ?_
      refine TL_y (y_move (e_t rfl)) ?_
      refine TL_y (y_move (e_t rfl)) ?_
      refine TL_y (y_rem (e_t rfl) (e_i (8)) (by decide)) ?_
      refine TL_y (y_sub (e_i (7)) (e_t rfl)) ?_
      refine TL_y (y_lss (e_t rfl) (e_t rfl)) ?_
      refine TL_nil ?_
      refine z_nt ?_
      refine T_cond rfl (fun hb7 => ?_) (fun hb7 => ?_)
      · replace h := cond_t hb7 h
        refine T_skip ?_
        refine z_nt ?_
        refine T_seq ?_
        refine T_block ?_
        refine T_region ?_
        refine TL_y (y_move (e_t rfl)) ?_
        refine TL_y (y_quo (e_t rfl) (e_i (2)) (by decide)) ?_
        refine TL_y (y_assign (e_t rfl)) ?_
        refine TL_nil ?_
        refine z_nb ?_
        refine z_nt ?_
        refine T_region ?_
        refine TL_y (y_move (e_t rfl)) ?_
        refine TL_y (y_add (e_t rfl) (e_i (1))) ?_
        refine TL_y (y_assign (e_t rfl)) ?_
        refine TL_nil ?_
        refine z_nl ?_
        exact TW_le (le_k (ks := [1, 5, 6]) (bs := []) (gs := []) (.cons rfl (.cons rfl (.cons rfl .nil))) .nil .nil) (ih _ h)
      · replace h := cond_f hb7 h
        refine T_exit ?_
        refine z_et ?_
        refine z_et ?_
        refine z_ei ?_
        exact Z_le (le_k (ks := [5, 6]) (bs := []) (gs := []) (.cons rfl (.cons rfl .nil)) .nil .nil) (hfall5 _ (Option.some.inj h))
def r01_Compare_l0 (a0 : Id) (a1 : Id) : Nat → Int → Option (Lo Int (Int))
  | 0, _ => none
  | ks1 + 1, s1 => (bif (decide (s1 < 256)) then (r01_Bit a0 s1).bind fun t7 => (r01_Bit a1 s1).bind fun t8 => (bif (decide (t7 < t8)) then some (.ret (-1)) else (r01_Bit a0 s1).bind fun t10 => (r01_Bit a1 s1).bind fun t11 => (bif (decide (t11 < t10)) then some (.ret 1) else r01_Compare_l0 a0 a1 ks1 (w64 (s1 + 1)))) else some (.fall s1))
def r01_Compare (a0 : Id) (a1 : Id) : Option Int := ((r01_Compare_l0 a0 a1 FUEL 0).bind fun o3 => match o3 with | .ret q => some q | .fall _ => some 0)
theorem r01_Compare_ok {a0 : Id} {a1 : Id} {r : Int} (h : r01_Compare a0 a1 = some r) : Fn Try.prog 63 [.d a0, .d a1] (.d r) := by
  refine Fn.of Try.func63 rfl fun w m => ?_
  unfold r01_Compare at h
  refine T_seq ?_
  refine T_region ?_
  refine TL_box (e_t rfl) ?_
  refine TL_box (e_t rfl) ?_
  refine TL_y (y_assign (e_i (0))) ?_
  refine TL_nil ?_
  refine z_nt ?_
  refine T_seq ?_
  refine T_seq ?_
  refine T_region ?_
  refine TL_y (y_assign (e_i (0))) ?_
  refine TL_nil ?_
  refine z_nt ?_
  obtain ⟨o3, ho3, h⟩ := bind_some h
  refine T_loopin (S := fun (s1 : Int) => ⟨[(5, .d (s1 : Int))], ⟨[], [], []⟩⟩) (fun s1 => o3 = .fall s1) (fun s1 e => ?_) (fun hfall4 => ?_)
  · subst e
    dsimp only at h
    refine z_nt ?_
    refine T_seq ?_
    refine T_region ?_
    refine TL_y (y_assign (e_i (0))) ?_
    refine TL_nil ?_
    refine z_nt ?_
    refine T_ret ?_
    obtain rfl := Option.some.inj h
    exact Z_ret1 (fn := Try.f63) rfl (rv_t rfl)
  · have hret5 : ∀ q, o3 = .ret q → q = r := fun q e => by
      subst e
      dsimp only at h
      exact Option.some.inj h
    clear h
    refine TW_le (le_k (ks := [2, 3, 5]) (bs := [2, 3]) (gs := []) (.cons rfl (.cons rfl (.cons rfl .nil))) (.cons rfl (.cons rfl .nil)) .nil) (fuel_ind (fun (s1 : Int) => ⟨[(2, .p 2 0), (3, .p 3 0), (5, .d (s1 : Int))], ⟨[(2, ⟨(a0 : Id)⟩), (3, ⟨(a1 : Id)⟩)], [], []⟩⟩) (fun k s => r01_Compare_l0 a0 a1 k s = some o3) ?_ ?_ _ 0 ho3)
    · intro s h
      cases h
    · intro ks1 s1 ih h
      replace h : ((bif (decide (s1 < 256)) then (r01_Bit a0 s1).bind fun t7 => (r01_Bit a1 s1).bind fun t8 => (bif (decide (t7 < t8)) then some (.ret (-1)) else (r01_Bit a0 s1).bind fun t10 => (r01_Bit a1 s1).bind fun t11 => (bif (decide (t11 < t10)) then some (.ret 1) else r01_Compare_l0 a0 a1 ks1 (w64 (s1 + 1)))) else some (.fall s1))) = some o3 := h
      refine TW_round ?_
      refine T_seq ?_
      refine T_seq ?_
      refine T_region ?_
      refine TL_y (y_move (e_t rfl)) ?_
      refine TL_y (y_lss (e_t rfl) (e_i (256))) ?_
      refine TL_nil ?_
      refine z_nt ?_
      refine T_cond rfl (fun hb6 => ?_) (fun hb6 => ?_)
      · replace h := cond_t hb6 h
        refine T_skip ?_
        refine z_nt ?_
        refine T_seq ?_
        refine T_block ?_
        refine T_seq ?_
        refine T_seq ?_
        refine T_draw hmix (by kernel_rfl) ?_
        refine TQ_y (y_load (e_t rfl) rfl Sub.self ty26) ?_
        refine TQ_y (y_move (e_t rfl)) ?_
        obtain ⟨t7, ht7, h⟩ := bind_some h
        refine TQ_y (y_call (xs := [.d (a0 : Id), .d (s1 : Int)]) (r01_Bit_ok ht7) ⟨(e_t rfl), (e_t rfl), trivial⟩ c91) ?_
        refine TQ_y (y_load (e_t rfl) rfl Sub.self ty26) ?_
        refine TQ_y (y_move (e_t rfl)) ?_
        obtain ⟨t8, ht8, h⟩ := bind_some h
        refine TQ_y (y_call (xs := [.d (a1 : Id), .d (s1 : Int)]) (r01_Bit_ok ht8) ⟨(e_t rfl), (e_t rfl), trivial⟩ c91) ?_
        refine TQ_y (y_lss (e_t rfl) (e_t rfl)) ?_
        refine TQ_nil ?_
        refine z_nt ?_
        refine T_cond rfl (fun hb9 => ?_) (fun hb9 => ?_)
        · replace h := cond_t hb9 h
          refine T_seq ?_
          refine T_region ?_
          refine TL_y (y_assign (e_i (-1))) ?_
          refine TL_nil ?_
          refine z_nt ?_
          refine T_ret ?_
          refine z_rt ?_
          refine z_rb ?_
          refine z_rt ?_
          refine z_rt ?_
          refine z_rb ?_
          refine z_rt ?_
          obtain rfl := hret5 _ (Option.some.inj h).symm
          exact Z_ret1 (fn := Try.f63) rfl (rv_t rfl)
        · replace h := cond_f hb9 h
          refine T_skip ?_
          refine z_nt ?_
          refine T_seq ?_
          refine T_draw hmix (by kernel_rfl) ?_
          refine TQ_y (y_load (e_t rfl) rfl Sub.self ty26) ?_
          refine TQ_y (y_move (e_t rfl)) ?_
          obtain ⟨t10, ht10, h⟩ := bind_some h
          refine TQ_y (y_call (xs := [.d (a0 : Id), .d (s1 : Int)]) (r01_Bit_ok ht10) ⟨(e_t rfl), (e_t rfl), trivial⟩ c91) ?_
          refine TQ_y (y_load (e_t rfl) rfl Sub.self ty26) ?_
          refine TQ_y (y_move (e_t rfl)) ?_
          obtain ⟨t11, ht11, h⟩ := bind_some h
          refine TQ_y (y_call (xs := [.d (a1 : Id), .d (s1 : Int)]) (r01_Bit_ok ht11) ⟨(e_t rfl), (e_t rfl), trivial⟩ c91) ?_
          refine TQ_y (y_gtr (e_t rfl) (e_t rfl)) ?_
          refine TQ_nil ?_
          refine z_nt ?_
          refine T_cond rfl (fun hb12 => ?_) (fun hb12 => ?_)
          · replace h := cond_t hb12 h
            refine T_seq ?_
            refine T_region ?_
            refine TL_y (y_assign (e_i (1))) ?_
            refine TL_nil ?_
            refine z_nt ?_
            refine T_ret ?_
            refine z_rb ?_
            refine z_rt ?_
            refine z_rt ?_
            refine z_rb ?_
            refine z_rt ?_
            obtain rfl := hret5 _ (Option.some.inj h).symm
            exact Z_ret1 (fn := Try.f63) rfl (rv_t rfl)
          · replace h := cond_f hb12 h
            refine T_skip ?_
            refine z_nb ?_
            refine z_nt ?_
            refine T_region ?_
            refine TL_y (y_move (e_t rfl)) ?_
            refine TL_y (y_add (e_t rfl) (e_i (1))) ?_
            refine TL_y (y_assign (e_t rfl)) ?_
            refine TL_nil ?_
            refine z_nl ?_
            exact TW_le (le_k (ks := [2, 3, 5]) (bs := [2, 3]) (gs := []) (.cons rfl (.cons rfl (.cons rfl .nil))) (.cons rfl (.cons rfl .nil)) .nil) (ih _ h)
      · replace h := cond_f hb6 h
        refine T_exit ?_
        refine z_et ?_
        refine z_et ?_
        refine z_ei ?_
        exact Z_le (le_k (ks := [5]) (bs := []) (gs := []) (.cons rfl .nil) .nil .nil) (hfall4 _ (Option.some.inj h).symm)
def r07_Owner_l0 (a1 : Id) : List Member → Nat → Member → Option (Member)
  | [], _, s1 => some s1
  | x6 :: xsx6, i2, s1 => ((((bif (decide (s1.no < 0)) then some true else (r01_Far a1 x6.id).bind fun t15 => (r01_Far a1 s1.id).bind fun t16 => (r01_Compare t15 t16).bind fun t17 => some (decide (t17 < 0)))).bind fun t14 => (bif t14 then some x6 else some s1) : Option (Member)).bind fun s7 => r07_Owner_l0 a1 xsx6 (i2 + 1) s7)
def r07_Owner (a0 : (List Member)) (a1 : Id) : Option Member := ((r07_Owner_l0 a1 a0 0 ({ Member.zero with no := (-1) } : Member)).bind fun s1 => some s1)
theorem r07_Owner_ok {a0 : (List Member)} {a1 : Id} {r : Member} (h : r07_Owner a0 a1 = some r) : Fn Try.prog 34 [.d a0, .d a1] (.d r) := by
  refine Fn.of Try.func34 rfl fun w m => ?_
  unfold r07_Owner at h
  refine T_seq ?_
  refine T_region ?_
  refine TL_box (e_t rfl) ?_
  refine TL_alloc z39 ?_
  refine TL_nil ?_
  refine z_nt ?_
  refine T_seq ?_
  refine T_region ?_
  refine TL_y (y_build z39 pl39 (b_cons (e_i (-1)) p_Member_no (b_nil)) rfl) ?_
  refine TL_alloc z39 ?_
  refine TL_store (e_t rfl) rfl (e_t rfl) Put.self ty39 (by decide) ?_
  refine TL_nil ?_
  refine z_nt ?_
  refine T_seq ?_
  refine T_seq ?_
  refine T_region ?_
  refine TL_y (y_move (e_t rfl)) ?_
  refine TL_y (y_len (e_t rfl) (by rw [el28]; exact Try.underlying28)) ?_
  refine TL_y (y_move (e_i (0))) ?_
  refine TL_nil ?_
  refine z_nt ?_
  obtain ⟨o3, ho3, h⟩ := bind_some h
  refine T_loopin (S := fun (s1 : Member) => ⟨[(4, .p 4 0), (5, .p 5 0)], ⟨[(4, ⟨(Member.zero : Member)⟩), (5, ⟨(s1 : Member)⟩)], [], []⟩⟩) (fun z => z = o3) (fun s1 e => ?_) (fun hfall4 => ?_)
  · subst e
    refine z_nt ?_
    refine T_seq ?_
    refine T_region ?_
    refine TL_y (y_load (e_t rfl) rfl Sub.self ty39) ?_
    refine TL_store (e_t rfl) rfl (e_t rfl) Put.self ty39 (by decide) ?_
    refine TL_nil ?_
    refine z_nt ?_
    refine T_ret ?_
    obtain rfl := Option.some.inj h
    exact Z_ret1 (fn := Try.f34) rfl (rv_c rfl rfl ty39)
  · clear h
    refine TW_le (le_k (ks := [3, 4, 5, 9, 10, 11]) (bs := [3, 4, 5]) (gs := []) (.cons rfl (.cons rfl (.cons rfl (.cons rfl (.cons rfl (.cons rfl .nil)))))) (.cons rfl (.cons rfl (.cons rfl .nil))) .nil) (range_ind a0 (fun (i2 : Nat) (s1 : Member) => ⟨[(3, .p 3 0), (4, .p 4 0), (5, .p 5 0), (9, .d (a0 : (List Member))), (10, .d ((a0.length : Int) : Int)), (11, .d ((i2 : Int) : Int))], ⟨[(3, ⟨(a1 : Id)⟩), (4, ⟨(Member.zero : Member)⟩), (5, ⟨(s1 : Member)⟩)], [], []⟩⟩) (fun xs i s => r07_Owner_l0 a1 xs i s = some o3) ?_ ?_ a0 0 ({ Member.zero with no := (-1) } : Member) rfl ho3)
    · intro i s hi h
      refine TW_round (T_seq (T_region ?_))
      refine TL_y (y_lss (e_t rfl) (e_t rfl)) (TL_nil (z_nt (T_seq (T_cond rfl (fun hb => (dec_lt hi hb).elim) (fun _ => T_exit ?_)))))
      refine z_et ?_
      refine z_et ?_
      refine z_ei ?_
      exact Z_le (le_k (ks := [4, 5]) (bs := [4, 5]) (gs := []) (.cons rfl (.cons rfl .nil)) (.cons rfl (.cons rfl .nil)) .nil) (hfall4 _ (Option.some.inj h))
    · intro x6 xsx6 i2 s1 hltx6 hx6 ih h
      replace h : (((((bif (decide (s1.no < 0)) then some true else (r01_Far a1 x6.id).bind fun t15 => (r01_Far a1 s1.id).bind fun t16 => (r01_Compare t15 t16).bind fun t17 => some (decide (t17 < 0)))).bind fun t14 => (bif t14 then some x6 else some s1) : Option (Member)).bind fun s7 => r07_Owner_l0 a1 xsx6 (i2 + 1) s7)) = some o3 := h
      refine TW_round ?_
      refine T_seq (T_region ?_)
      refine TL_y (y_lss (e_t rfl) (e_t rfl)) (TL_nil (z_nt (T_seq (T_cond rfl (fun _ => ?_) (fun hb => (dec_ge hltx6 hb).elim)))))
      refine T_skip ?_
      refine z_nt ?_
      obtain ⟨s7, hs7, h⟩ := bind_some h
      refine T_join (S := fun (s7 : Member) => ⟨[(3, .p 3 0), (4, .p 4 0), (5, .p 5 0), (9, .d (a0 : (List Member))), (10, .d ((a0.length : Int) : Int)), (11, .d ((i2 : Int) : Int))], ⟨[(3, ⟨(a1 : Id)⟩), (4, ⟨(Member.zero : Member)⟩), (5, ⟨(s7 : Member)⟩)], [], []⟩⟩) (fun z => s7 = z) (fun z e => ?_) (fun hfall8 => ?_)
      · subst e
        refine T_region ?_
        refine TL_y (y_inc (q := 9) (e_t rfl) rfl hltx6) ?_
        refine TL_y (y_move (e_t rfl)) ?_
        refine TL_nil ?_
        refine z_nl ?_
        exact TW_le (le_k (ks := [3, 4, 5, 9, 10, 11]) (bs := [3, 4, 5]) (gs := []) (.cons rfl (.cons rfl (.cons rfl (.cons rfl (.cons rfl (.cons rfl .nil)))))) (.cons rfl (.cons rfl (.cons rfl .nil))) .nil) (ih _ h)
      · clear h
        have h := hs7
        refine T_block ?_
        refine T_seq ?_
        refine T_region ?_
        refine TL_y (y_indexNat (e_t rfl) (e_t rfl) hx6 tysl28) ?_
        refine TL_y (y_load_ptr (e_t rfl) ty39) ?_
        refine TL_alloc z39 ?_
        refine TL_store (e_t rfl) rfl (e_t rfl) Put.self ty39 (by decide) ?_
        refine TL_nil ?_
        refine z_nt ?_
        refine T_seq ?_
        refine T_draw hmix (by kernel_rfl) ?_
        refine TQ_y (y_fieldAddr (e_t rfl) fo39_0) ?_
        refine TQ_y (y_load (e_t rfl) rfl s_Member_no ty3) ?_
        refine TQ_y (y_lss (e_t rfl) (e_i (0))) ?_
        refine TQ_y (y_move (e_t rfl)) ?_
        obtain ⟨t14, ht14, h⟩ := bind_some h
        refine TQ_cut 11 29 (r := t14) (decide (s1.no < 0)) ?_ (fun hb10 hk => ?_) (fun hb10 hk => ?_)
        rotate_left
        · obtain rfl := Option.some.inj (cond_t hb10 ht14)
          refine TQ_skip0 rfl hb10 ?_
          refine TQ_skip0 rfl hb10 ?_
          refine TQ_skip0 rfl hb10 ?_
          refine TQ_skip0 rfl hb10 ?_
          refine TQ_skip0 rfl hb10 ?_
          refine TQ_skip0 rfl hb10 ?_
          refine TQ_skip0 rfl hb10 ?_
          refine TQ_skip0 rfl hb10 ?_
          refine TQ_skip0 rfl hb10 ?_
          refine TQ_skip0 rfl hb10 ?_
          refine TQ_y (y_pick_t (e_t rfl) hb10 (e_b true)) ?_
          exact TQ_fr hk (.refl _)
        · replace h := cond_f hb10 ht14
          refine TQ_want rfl hb10 ?_
          refine TQ_y (y_load (e_t rfl) rfl Sub.self ty26) ?_
          refine TQ_want rfl hb10 ?_
          refine TQ_y (y_fieldAddr (e_t rfl) fo39_1) ?_
          refine TQ_want rfl hb10 ?_
          refine TQ_y (y_load (e_t rfl) rfl s_Member_id ty26) ?_
          refine TQ_want rfl hb10 ?_
          obtain ⟨t15, ht15, h⟩ := bind_some h
          refine TQ_y (y_call (xs := [.d (a1 : Id), .d (x6.id : Id)]) (r01_Far_ok ht15) ⟨(e_t rfl), (e_t rfl), trivial⟩ c64) ?_
          refine TQ_want rfl hb10 ?_
          refine TQ_y (y_load (e_t rfl) rfl Sub.self ty26) ?_
          refine TQ_want rfl hb10 ?_
          refine TQ_y (y_fieldAddr (e_t rfl) fo39_1) ?_
          refine TQ_want rfl hb10 ?_
          refine TQ_y (y_load (e_t rfl) rfl s_Member_id ty26) ?_
          refine TQ_want rfl hb10 ?_
          obtain ⟨t16, ht16, h⟩ := bind_some h
          refine TQ_y (y_call (xs := [.d (a1 : Id), .d (s1.id : Id)]) (r01_Far_ok ht16) ⟨(e_t rfl), (e_t rfl), trivial⟩ c64) ?_
          refine TQ_want rfl hb10 ?_
          obtain ⟨t17, ht17, h⟩ := bind_some h
          refine TQ_y (y_call (xs := [.d (t15 : Id), .d (t16 : Id)]) (r01_Compare_ok ht17) ⟨(e_t rfl), (e_t rfl), trivial⟩ c63) ?_
          refine TQ_want rfl hb10 ?_
          refine TQ_y (y_lss (e_t rfl) (e_i (0))) ?_
          obtain rfl := Option.some.inj h
          refine TQ_y (y_pick_f (e_t rfl) hb10 (e_t rfl)) ?_
          exact TQ_fr hk (.cons (.cons (.cons (.cons (.cons (.cons (.cons (.cons (.cons (.cons (.refl _) rfl) rfl) rfl) rfl) rfl) rfl) rfl) rfl) rfl) rfl)
        refine TQ_nil ?_
        refine z_nt ?_
        refine T_cond rfl (fun hb18 => ?_) (fun hb18 => ?_)
        · replace h := cond_t hb18 h
          refine T_region ?_
          refine TL_y (y_load (e_t rfl) rfl Sub.self ty39) ?_
          refine TL_store (e_t rfl) rfl (e_t rfl) Put.self ty39 (by decide) ?_
          refine TL_nil ?_
          refine z_nb ?_
          exact Z_le (le_k (ks := [3, 4, 5, 9, 10, 11]) (bs := [3, 4, 5]) (gs := []) (.cons rfl (.cons rfl (.cons rfl (.cons rfl (.cons rfl (.cons rfl .nil)))))) (.cons rfl (.cons rfl (.cons rfl .nil))) .nil) (hfall8 _ (Option.some.inj h).symm)
        · replace h := cond_f hb18 h
          refine T_skip ?_
          refine z_nb ?_
          exact Z_le (le_k (ks := [3, 4, 5, 9, 10, 11]) (bs := [3, 4, 5]) (gs := []) (.cons rfl (.cons rfl (.cons rfl (.cons rfl (.cons rfl (.cons rfl .nil)))))) (.cons rfl (.cons rfl (.cons rfl .nil))) .nil) (hfall8 _ (Option.some.inj h).symm)
def r07_Next (a0 : (List Member)) (a1 : Member) : Option Member := (r01_Power 0).bind fun t1 => (r01_Add a1.id t1).bind fun t2 => (r07_Owner a0 t2).bind fun t3 => some t3
theorem r07_Next_ok {a0 : (List Member)} {a1 : Member} {r : Member} (h : r07_Next a0 a1 = some r) : Fn Try.prog 65 [.d a0, .d a1] (.d r) := by
  refine Fn.of Try.func65 rfl fun w m => ?_
  unfold r07_Next at h
  refine T_seq ?_
  refine T_region ?_
  refine TL_box (e_t rfl) ?_
  refine TL_alloc z39 ?_
  refine TL_nil ?_
  refine z_nt ?_
  refine T_seq ?_
  refine T_le (le_k (ks := [0, 1, 3, 4]) (bs := [3, 4]) (gs := []) (ti := []) (.cons rfl (.cons rfl (.cons rfl (.cons rfl .nil)))) (.cons rfl (.cons rfl .nil)) .nil) ?_
  obtain ⟨t1, ht1, h⟩ := bind_some h
  obtain ⟨t2, ht2, h⟩ := bind_some h
  obtain ⟨t3, ht3, h⟩ := bind_some h
  refine T_drawn hmix (by kernel_rfl) (by kernel_rfl) [some (.d (a0 : (List Member))), some (.p 3 1), some (.d (a1.id : Id)), some (.d (t1 : Id)), some (.d (t2 : Id)), some (.d (t3 : Member)), none] [(none, none, 3, (⟨(a1 : Member)⟩ : BV _)), (none, some 6, 4, (⟨(Member.zero : Member)⟩ : BV _)), (some 6, none, 4, (⟨(t3 : Member)⟩ : BV _))] [] [] rfl ⟨rfl, rfl, trivial⟩ trivial rfl rfl rfl ⟨?_, ?_, ?_, ?_, ?_, ?_, ?_, trivial⟩ (Z_le (le_k (ks := [0, 1, 3, 4, 5, 6, 7, 8, 9, 10]) (bs := [3, 4]) (gs := []) (ti := []) (.cons rfl (.cons rfl (.cons rfl (.cons rfl (.cons rfl (.cons rfl (.cons rfl (.cons rfl (.cons rfl (.cons rfl .nil)))))))))) (.cons rfl (.cons rfl .nil)) .nil) ?_)
  · refine d_put rfl rfl offs_d rfl (fun L s' H Q k => ?_)
    refine TL_y (y_move (e_t (H.p rfl))) ?_
    exact TL_nil k
  · refine d_put rfl rfl rfl rfl (fun L s' H Q k => ?_)
    refine TL_y (y_fieldAddr (e_t (H.p rfl)) fo39_1) ?_
    exact TL_nil k
  · refine d_put rfl rfl offs_d rfl (fun L s' H Q k => ?_)
    refine TL_y (y_load (e_t (H.t 1 rfl)) (H.b 0 rfl) s_Member_id ty26) ?_
    exact TL_nil k
  · refine d_put rfl rfl offs_d rfl (fun L s' H Q k => ?_)
    refine TL_call (xs := [.d (0 : Int)]) (r01_Power_ok ht1) ⟨(e_i (0)), trivial⟩ c94 ?_
    exact TL_nil k
  · refine d_put rfl rfl offs_d rfl (fun L s' H Q k => ?_)
    refine TL_call (xs := [.d (a1.id : Id), .d (t1 : Id)]) (r01_Add_ok ht2) ⟨(e_t (H.t 2 rfl)), (e_t (H.t 3 rfl)), trivial⟩ c92 ?_
    exact TL_nil k
  · refine d_put rfl rfl offs_d rfl (fun L s' H Q k => ?_)
    refine TL_call (xs := [.d (a0 : (List Member)), .d (t2 : Id)]) (r07_Owner_ok ht3) ⟨(e_t (H.t 0 rfl)), (e_t (H.t 4 rfl)), trivial⟩ c34 ?_
    exact TL_nil k
  · refine d_store 0 33 rfl rfl rfl rfl (fun L s' H Q k => ?_)
    refine TL_store (e_t (H.p rfl)) (H.b 1 rfl) (e_t (H.t 5 rfl)) Put.self ty39 (by decide) ?_
    exact TL_nil k
  refine z_nt ?_
  refine T_ret ?_
  obtain rfl := Option.some.inj h
  exact Z_ret1 (fn := Try.f65) rfl (rv_c rfl rfl ty39)
def r07_After_l0 (a2 : Int) (a0 : (List Member)) : Nat → Member × (List Member) × Int → Option (Member × (List Member) × Int)
  | 0, _ => none
  | ks1 + 1, s1 => (bif (decide (s1.2.2 < a2)) then (r07_Next a0 s1.1).bind fun t7 => (app s1.2.1 ([t7] : List Member)).bind fun t8 => r07_After_l0 a2 a0 ks1 (t7, t8, (w64 (s1.2.2 + 1))) else some (s1.1, s1.2.1, s1.2.2))
def r07_After (a0 : (List Member)) (a1 : Member) (a2 : Int) : Option (List Member) := ((r07_After_l0 a2 a0 FUEL (a1, ([] : List Member), 0)).bind fun s1 => some s1.2.1)
theorem r07_After_ok {a0 : (List Member)} {a1 : Member} {a2 : Int} {r : (List Member)} (h : r07_After a0 a1 a2 = some r) : Fn Try.prog 35 [.d a0, .d a1, .d a2] (.d r) := by
  refine Fn.of Try.func35 rfl fun w m => ?_
  unfold r07_After at h
  refine T_seq ?_
  refine T_region ?_
  refine TL_box (e_t rfl) ?_
  refine TL_y (y_assign (e_nil (α := Member))) ?_
  refine TL_nil ?_
  refine z_nt ?_
  refine T_seq ?_
  refine T_region ?_
  refine TL_buildSlice (xs := ([] : List Member)) (trivial) tyel28 rfl ?_
  refine TL_y (y_assign (e_t rfl)) ?_
  refine TL_nil ?_
  refine z_nt ?_
  refine T_seq ?_
  refine T_seq ?_
  refine T_region ?_
  refine TL_y (y_assign (e_i (0))) ?_
  refine TL_nil ?_
  refine z_nt ?_
  obtain ⟨o3, ho3, h⟩ := bind_some h
  refine T_loopin (S := fun (s1 : Member × (List Member) × Int) => ⟨[(7, .g 9), (4, .p 4 0), (8, .d (s1.2.2 : Int))], ⟨[(4, ⟨(s1.1 : Member)⟩)], [(9, ⟨39, (s1.2.1 : List Member)⟩)], []⟩⟩) (fun z => z = o3) (fun s1 e => ?_) (fun hfall4 => ?_)
  · subst e
    refine z_nt ?_
    refine T_seq ?_
    refine T_region ?_
    refine TL_y (y_move (e_t rfl)) ?_
    refine TL_y (y_assign (e_t rfl)) ?_
    refine TL_nil ?_
    refine z_nt ?_
    refine T_ret ?_
    obtain rfl := Option.some.inj h
    refine Z_g2d (q := 6) rfl rfl ?_
    exact Z_ret1 (fn := Try.f35) rfl (rv_t rfl)
  · clear h
    refine TW_le (le_k (ks := [0, 2, 4, 7, 8]) (bs := [4]) (gs := [9]) (.cons rfl (.cons rfl (.cons rfl (.cons rfl (.cons rfl .nil))))) (.cons rfl .nil) (.cons rfl .nil)) (fuel_ind (fun (s1 : Member × (List Member) × Int) => ⟨[(0, .d (a0 : (List Member))), (2, .d (a2 : Int)), (4, .p 4 0), (7, .g 9), (8, .d (s1.2.2 : Int))], ⟨[(4, ⟨(s1.1 : Member)⟩)], [(9, ⟨39, (s1.2.1 : List Member)⟩)], []⟩⟩) (fun k s => r07_After_l0 a2 a0 k s = some o3) ?_ ?_ _ (a1, ([] : List Member), 0) ho3)
    · intro s h
      cases h
    · intro ks1 s1 ih h
      replace h : ((bif (decide (s1.2.2 < a2)) then (r07_Next a0 s1.1).bind fun t7 => (app s1.2.1 ([t7] : List Member)).bind fun t8 => r07_After_l0 a2 a0 ks1 (t7, t8, (w64 (s1.2.2 + 1))) else some (s1.1, s1.2.1, s1.2.2))) = some o3 := h
      refine TW_round ?_
      refine T_seq ?_
      refine T_seq ?_
      refine T_region ?_
      refine TL_y (y_move (e_t rfl)) ?_
      refine TL_y (y_move (e_t rfl)) ?_
      refine TL_y (y_lss (e_t rfl) (e_t rfl)) ?_
      refine TL_nil ?_
      refine z_nt ?_
      refine T_cond rfl (fun hb6 => ?_) (fun hb6 => ?_)
      · replace h := cond_t hb6 h
        refine T_skip ?_
        refine z_nt ?_
        refine T_seq ?_
        refine T_block ?_
        refine T_seq ?_
        refine T_region ?_
        refine TL_y (y_move (e_t rfl)) ?_
        refine TL_y (y_load (e_t rfl) rfl Sub.self ty39) ?_
        obtain ⟨t7, ht7, h⟩ := bind_some h
        refine TL_call (xs := [.d (a0 : (List Member)), .d (s1.1 : Member)]) (r07_Next_ok ht7) ⟨(e_t rfl), (e_t rfl), trivial⟩ c65 ?_
        refine TL_store (e_t rfl) rfl (e_t rfl) Put.self ty39 (by decide) ?_
        refine TL_nil ?_
        refine z_nt ?_
        refine T_region ?_
        refine TL_y (y_move (e_t rfl)) ?_
        refine TL_y (y_load (e_t rfl) rfl Sub.self ty39) ?_
        refine TL_buildSlice (xs := ([t7] : List Member)) (⟨rfl, (e_t rfl), trivial⟩) tyel28 rfl ?_
        obtain ⟨t8, ht8, h⟩ := bind_some h
        refine TL_g2d (q := 20) rfl rfl ?_
        refine TL_append (e_t rfl) rfl (e_t rfl) ht8 tyel28 ?_
        refine TL_y (y_assign (e_t rfl)) ?_
        refine TL_nil ?_
        refine z_nb ?_
        refine z_nt ?_
        refine T_region ?_
        refine TL_y (y_move (e_t rfl)) ?_
        refine TL_y (y_add (e_t rfl) (e_i (1))) ?_
        refine TL_y (y_assign (e_t rfl)) ?_
        refine TL_nil ?_
        refine z_nl ?_
        exact TW_le (le_k (ks := [0, 2, 4, 7, 8]) (bs := [4]) (gs := [9]) (.cons rfl (.cons rfl (.cons rfl (.cons rfl (.cons rfl .nil))))) (.cons rfl .nil) (.cons rfl .nil)) (ih _ h)
      · replace h := cond_f hb6 h
        refine T_exit ?_
        refine z_et ?_
        refine z_et ?_
        refine z_ei ?_
        exact Z_le (le_k (ks := [7, 4, 8]) (bs := [4]) (gs := [9]) (.cons rfl (.cons rfl (.cons rfl .nil))) (.cons rfl .nil) (.cons rfl .nil)) (hfall4 _ (Option.some.inj h))
def r11_Keeps (a0 : Overlay) (a1 : Id) (a2 : Int) : Option (List Member) := (r10_Members a0).bind fun t1 => (((bif (decide ((t1.length : Int) < a2)) then some (t1.length : Int) else some a2) : Option (Int)).bind fun s2 => (r07_Owner t1 a1).bind fun t6 => (r07_After t1 t6 (w64 (s2 - 1))).bind fun t7 => (app ([t6] : List Member) t7).bind fun t8 => some t8)
theorem r11_Keeps_ok {a0 : Overlay} {a1 : Id} {a2 : Int} {r : (List Member)} (h : r11_Keeps a0 a1 a2 = some r) : Fn Try.prog 12 [.d a0, .d a1, .d a2] (.d r) := by
  refine Fn.of Try.func12 rfl fun w m => ?_
  unfold r11_Keeps at h
  refine T_seq ?_
  refine T_region ?_
  refine TL_box (e_t rfl) ?_
  refine TL_box (e_t rfl) ?_
  refine TL_y (y_assign (e_nil (α := Member))) ?_
  refine TL_nil ?_
  refine z_nt ?_
  refine T_seq ?_
  refine T_region ?_
  refine TL_y (y_load (e_t rfl) rfl Sub.self ty24) ?_
  obtain ⟨t1, ht1, h⟩ := bind_some h
  refine TL_call (xs := [.d (a0 : Overlay)]) (r10_Members_ok ht1) ⟨(e_t rfl), trivial⟩ c29 ?_
  refine TL_y (y_assign (e_t rfl)) ?_
  refine TL_nil ?_
  refine z_nt ?_
  obtain ⟨s2, hs2, h⟩ := bind_some h
  refine T_join (S := fun (s2 : Int) => ⟨[(2, .d (s2 : Int)), (4, .p 4 0), (7, .d (t1 : (List Member)))], ⟨[(4, ⟨(a1 : Id)⟩)], [], []⟩⟩) (fun z => s2 = z) (fun z e => ?_) (fun hfall3 => ?_)
  · subst e
    refine T_seq ?_
    refine T_region ?_
    refine TL_y (y_move (e_t rfl)) ?_
    refine TL_y (y_load (e_t rfl) rfl Sub.self ty26) ?_
    obtain ⟨t6, ht6, h⟩ := bind_some h
    refine TL_call (xs := [.d (t1 : (List Member)), .d (a1 : Id)]) (r07_Owner_ok ht6) ⟨(e_t rfl), (e_t rfl), trivial⟩ c34 ?_
    refine TL_alloc z39 ?_
    refine TL_store (e_t rfl) rfl (e_t rfl) Put.self ty39 (by decide) ?_
    refine TL_nil ?_
    refine z_nt ?_
    refine T_seq ?_
    refine T_region ?_
    refine TL_y (y_load (e_t rfl) rfl Sub.self ty39) ?_
    refine TL_buildSlice (xs := ([t6] : List Member)) (⟨rfl, (e_t rfl), trivial⟩) tyel28 rfl ?_
    refine TL_y (y_assign (e_t rfl)) ?_
    refine TL_nil ?_
    refine z_nt ?_
    refine T_seq ?_
    refine T_region ?_
    refine TL_y (y_move (e_t rfl)) ?_
    refine TL_y (y_move (e_t rfl)) ?_
    refine TL_y (y_load (e_t rfl) rfl Sub.self ty39) ?_
    refine TL_y (y_move (e_t rfl)) ?_
    refine TL_y (y_sub (e_t rfl) (e_i (1))) ?_
    obtain ⟨t7, ht7, h⟩ := bind_some h
    refine TL_call (xs := [.d (t1 : (List Member)), .d (t6 : Member), .d ((w64 (s2 - 1)) : Int)]) (r07_After_ok ht7) ⟨(e_t rfl), (e_t rfl), (e_t rfl), trivial⟩ c35 ?_
    obtain ⟨t8, ht8, h⟩ := bind_some h
    refine TL_append (e_t rfl) rfl (e_t rfl) ht8 tyel28 ?_
    refine TL_y (y_assign (e_t rfl)) ?_
    refine TL_nil ?_
    refine z_nt ?_
    refine T_seq ?_
    refine T_region ?_
    refine TL_y (y_move (e_t rfl)) ?_
    refine TL_y (y_assign (e_t rfl)) ?_
    refine TL_nil ?_
    refine z_nt ?_
    refine T_ret ?_
    obtain rfl := Option.some.inj h
    refine Z_g2d (q := 6) rfl rfl ?_
    exact Z_ret1 (fn := Try.f12) rfl (rv_t rfl)
  · clear h
    have h := hs2
    refine T_seq ?_
    refine T_region ?_
    refine TL_y (y_move (e_t rfl)) ?_
    refine TL_y (y_move (e_t rfl)) ?_
    refine TL_y (y_len (e_t rfl) (by rw [el28]; exact Try.underlying28)) ?_
    refine TL_y (y_gtr (e_t rfl) (e_t rfl)) ?_
    refine TL_nil ?_
    refine z_nt ?_
    refine T_cond rfl (fun hb5 => ?_) (fun hb5 => ?_)
    · replace h := cond_t hb5 h
      refine T_region ?_
      refine TL_y (y_move (e_t rfl)) ?_
      refine TL_y (y_len (e_t rfl) (by rw [el28]; exact Try.underlying28)) ?_
      refine TL_y (y_assign (e_t rfl)) ?_
      refine TL_nil ?_
      exact Z_le (le_k (ks := [2, 4, 7]) (bs := [4]) (gs := []) (.cons rfl (.cons rfl (.cons rfl .nil))) (.cons rfl .nil) .nil) (hfall3 _ (Option.some.inj h).symm)
    · replace h := cond_f hb5 h
      refine T_skip ?_
      exact Z_le (le_k (ks := [2, 4, 7]) (bs := [4]) (gs := []) (.cons rfl (.cons rfl (.cons rfl .nil))) (.cons rfl .nil) .nil) (hfall3 _ (Option.some.inj h).symm)
def r07_Same_l0 (a1 : (List Member)) : List Member → Nat → Unit → Option (Lo Bool (Unit))
  | [], _, _ => some (.fall ())
  | x7 :: xsx7, i3, _ => (ix a1 (i3 : Int)).bind fun t8 => (bif (!decide (x7 = t8)) then some (.ret false) else r07_Same_l0 a1 xsx7 (i3 + 1) ())
def r07_Same (a0 : (List Member)) (a1 : (List Member)) : Option Bool := (bif (!decide ((a0.length : Int) = (a1.length : Int))) then some false else ((r07_Same_l0 a1 a0 0 ()).bind fun o4 => match o4 with | .ret q => some q | .fall _ => some true))
theorem r07_Same_ok {a0 : (List Member)} {a1 : (List Member)} {r : Bool} (h : r07_Same a0 a1 = some r) : Fn Try.prog 11 [.d a0, .d a1] (.d r) := by
  refine Fn.of Try.func11 rfl fun w m => ?_
  unfold r07_Same at h
  refine T_seq ?_
  refine T_region ?_
  refine TL_y (y_assign (e_b false)) ?_
  refine TL_nil ?_
  refine z_nt ?_
  refine T_seq ?_
  refine T_seq ?_
  refine T_region ?_
  refine TL_y (y_move (e_t rfl)) ?_
  refine TL_y (y_len (e_t rfl) (by rw [el28]; exact Try.underlying28)) ?_
  refine TL_y (y_move (e_t rfl)) ?_
  refine TL_y (y_len (e_t rfl) (by rw [el28]; exact Try.underlying28)) ?_
  refine TL_y (y_neq (e_t rfl) (e_t rfl)) ?_
  refine TL_nil ?_
  refine z_nt ?_
  refine T_cond rfl (fun hb1 => ?_) (fun hb1 => ?_)
  · replace h := cond_t hb1 h
    refine T_seq ?_
    refine T_region ?_
    refine TL_y (y_assign (e_b false)) ?_
    refine TL_nil ?_
    refine z_nt ?_
    refine T_ret ?_
    refine z_rt ?_
    obtain rfl := Option.some.inj h
    exact Z_ret1 (fn := Try.f11) rfl (rv_t rfl)
  · replace h := cond_f hb1 h
    refine T_skip ?_
    refine z_nt ?_
    refine T_seq ?_
    refine T_seq ?_
    refine T_region ?_
    refine TL_y (y_move (e_t rfl)) ?_
    refine TL_y (y_len (e_t rfl) (by rw [el28]; exact Try.underlying28)) ?_
    refine TL_y (y_move (e_i (0))) ?_
    refine TL_nil ?_
    refine z_nt ?_
    obtain ⟨o4, ho4, h⟩ := bind_some h
    refine T_loopin (S := fun (_ : Unit) => ⟨[], ⟨[], [], []⟩⟩) (fun s2 => o4 = .fall s2) (fun s2 e => ?_) (fun hfall5 => ?_)
    · subst e
      dsimp only at h
      refine z_nt ?_
      refine T_seq ?_
      refine T_region ?_
      refine TL_y (y_assign (e_b true)) ?_
      refine TL_nil ?_
      refine z_nt ?_
      refine T_ret ?_
      obtain rfl := Option.some.inj h
      exact Z_ret1 (fn := Try.f11) rfl (rv_t rfl)
    · have hret6 : ∀ q, o4 = .ret q → q = r := fun q e => by
        subst e
        dsimp only at h
        exact Option.some.inj h
      clear h
      refine TW_le (le_k (ks := [0, 1, 12, 13]) (bs := []) (gs := []) (.cons rfl (.cons rfl (.cons rfl (.cons rfl .nil)))) .nil .nil) (range_ind a0 (fun (i3 : Nat) (_ : Unit) => ⟨[(0, .d (a0 : (List Member))), (1, .d (a1 : (List Member))), (12, .d ((a0.length : Int) : Int)), (13, .d ((i3 : Int) : Int))], ⟨[], [], []⟩⟩) (fun xs i s => r07_Same_l0 a1 xs i s = some o4) ?_ ?_ a0 0 () rfl ho4)
      · intro i s hi h
        refine TW_round (T_seq (T_region ?_))
        refine TL_y (y_lss (e_t rfl) (e_t rfl)) (TL_nil (z_nt (T_seq (T_cond rfl (fun hb => (dec_lt hi hb).elim) (fun _ => T_exit ?_)))))
        refine z_et ?_
        refine z_et ?_
        refine z_ei ?_
        exact Z_le (le_k (ks := []) (bs := []) (gs := []) .nil .nil .nil) (hfall5 _ (Option.some.inj h).symm)
      · intro x7 xsx7 i3 s2 hltx7 hx7 ih h
        replace h : ((ix a1 (i3 : Int)).bind fun t8 => (bif (!decide (x7 = t8)) then some (.ret false) else r07_Same_l0 a1 xsx7 (i3 + 1) ())) = some o4 := h
        refine TW_round ?_
        refine T_seq (T_region ?_)
        refine TL_y (y_lss (e_t rfl) (e_t rfl)) (TL_nil (z_nt (T_seq (T_cond rfl (fun _ => ?_) (fun hb => (dec_ge hltx7 hb).elim)))))
        refine T_skip ?_
        refine z_nt ?_
        refine T_seq ?_
        refine T_block ?_
        refine T_seq ?_
        refine T_region ?_
        refine TL_y (y_move (e_t rfl)) ?_
        refine TL_y (y_assign (e_t rfl)) ?_
        refine TL_nil ?_
        refine z_nt ?_
        refine T_seq ?_
        refine T_draw hmix (by kernel_rfl) ?_
        refine TQ_y (y_move (e_t rfl)) ?_
        refine TQ_y (y_move (e_t rfl)) ?_
        refine TQ_y (y_indexNat (e_t rfl) (e_t rfl) hx7 tysl28) ?_
        refine TQ_y (y_load_ptr (e_t rfl) ty39) ?_
        refine TQ_y (y_move (e_t rfl)) ?_
        refine TQ_y (y_move (e_t rfl)) ?_
        obtain ⟨t8, ht8, h⟩ := bind_some h
        refine TQ_y (y_indexIx (e_t rfl) (e_t rfl) ht8 tysl28) ?_
        refine TQ_y (y_load_ptr (e_t rfl) ty39) ?_
        refine TQ_y (y_neqT (e_t rfl) (e_t rfl) eqT39 rfl eg39) ?_
        refine TQ_nil ?_
        refine z_nt ?_
        refine T_cond rfl (fun hb9 => ?_) (fun hb9 => ?_)
        · replace h := cond_t hb9 h
          refine T_seq ?_
          refine T_region ?_
          refine TL_y (y_assign (e_b false)) ?_
          refine TL_nil ?_
          refine z_nt ?_
          refine T_ret ?_
          refine z_rb ?_
          refine z_rt ?_
          refine z_rt ?_
          refine z_rb ?_
          refine z_rt ?_
          obtain rfl := hret6 _ (Option.some.inj h).symm
          exact Z_ret1 (fn := Try.f11) rfl (rv_t rfl)
        · replace h := cond_f hb9 h
          refine T_skip ?_
          refine z_nb ?_
          refine z_nt ?_
          refine T_region ?_
          refine TL_y (y_inc (q := 0) (e_t rfl) rfl hltx7) ?_
          refine TL_y (y_move (e_t rfl)) ?_
          refine TL_nil ?_
          refine z_nl ?_
          exact TW_le (le_k (ks := [0, 1, 12, 13]) (bs := []) (gs := []) (.cons rfl (.cons rfl (.cons rfl (.cons rfl .nil)))) .nil .nil) (ih _ h)
end Go.Ph
set_option maxRecDepth 4000
set_option maxHeartbeats 4000000
namespace Go.Ph
open Go.Proofs
def law11_LookupKeeps (a0 : Overlay) (a1 : Id) (a2 : Int) : Option Bool := (law11_few a0).bind fun t1 => (lookup_Keeps t1 a1 a2).bind fun t2 => (r10_Right t1).bind fun t3 => (bif (((!t3) || (decide (a2 < 1))) || (decide (4 < a2))) then (law11_alive).bind fun t7 => some ((t7 && (decide (t2.2 = 1))) && (decide ((t2.1.length : Int) = 0))) else (bif (decide ((t1.nodes.length : Int) = 0)) then (law11_alive).bind fun t11 => some ((t11 && (decide (t2.2 = 6))) && (decide ((t2.1.length : Int) = 0))) else (law11_alive).bind fun t14 => ((bif (t14 && (decide (t2.2 = 0))) then (r11_Keeps t1 a1 a2).bind fun t20 => (r07_Same t2.1 t20).bind fun t21 => some t21 else some false)).bind fun t19 => some t19))
theorem law11_LookupKeeps_ok {a0 : Overlay} {a1 : Id} {a2 : Int} {r : Bool} (h : law11_LookupKeeps a0 a1 a2 = some r) : Fn Try.prog 3 [.d a0, .d a1, .d a2] (.d r) := by
  refine Fn.of Try.func3 rfl fun w m => ?_
  unfold law11_LookupKeeps at h
  refine T_seq ?_
  refine T_region ?_
  refine TL_box (e_t rfl) ?_
  refine TL_box (e_t rfl) ?_
  refine TL_y (y_assign (e_b false)) ?_
  refine TL_nil ?_
  refine z_nt ?_
  refine T_seq ?_
  refine T_region ?_
  refine TL_y (y_load (e_t rfl) rfl Sub.self ty24) ?_
  obtain ⟨t1, ht1, h⟩ := bind_some h
  refine TL_call (xs := [.d (a0 : Overlay)]) (law11_few_ok ht1) ⟨(e_t rfl), trivial⟩ c7 ?_
  refine TL_store (e_t rfl) rfl (e_t rfl) Put.self ty24 (by decide) ?_
  refine TL_nil ?_
  refine z_nt ?_
  refine T_seq ?_
  refine T_region ?_
  refine TL_y (y_load (e_t rfl) rfl Sub.self ty24) ?_
  refine TL_y (y_load (e_t rfl) rfl Sub.self ty26) ?_
  refine TL_y (y_move (e_t rfl)) ?_
  obtain ⟨t2, ht2, h⟩ := bind_some h
  refine TL_call (xs := [.d (t1 : Overlay), .d (a1 : Id), .d (a2 : Int)]) (lookup_Keeps_ok ht2) ⟨(e_t rfl), (e_t rfl), (e_t rfl), trivial⟩ c8 ?_
  refine TL_y (y_move (e_t rfl)) ?_
  refine TL_y (y_extract2_0 (e_t rfl)) ?_
  refine TL_y (y_extract2_1 (e_t rfl)) ?_
  refine TL_y (y_assign (e_t rfl)) ?_
  refine TL_y (y_assign (e_t rfl)) ?_
  refine TL_nil ?_
  refine z_nt ?_
  refine T_seq ?_
  refine T_seq ?_
  refine T_region ?_
  refine TL_y (y_load (e_t rfl) rfl Sub.self ty24) ?_
  obtain ⟨t3, ht3, h⟩ := bind_some h
  refine TL_call (xs := [.d (t1 : Overlay)]) (r10_Right_ok ht3) ⟨(e_t rfl), trivial⟩ c9 ?_
  refine TL_y (y_not (e_t rfl)) ?_
  refine TL_y (y_move (e_t rfl)) ?_
  refine TL_or 3 24 (b := (!t3)) (c := (decide (a2 < 1))) ?_ (fun hb4 hk => ?_) (fun hb4 hk => ?_)
  rotate_left
  · refine TL_skip0 rfl hb4 ?_
    refine TL_skip0 rfl hb4 ?_
    refine TL_y (y_pick_t (e_t rfl) hb4 (e_b true)) ?_
    exact TL_fr hk (.refl _)
  · refine TL_want rfl hb4 ?_
    refine TL_y (y_move (e_t rfl)) ?_
    refine TL_want rfl hb4 ?_
    refine TL_y (y_lss (e_t rfl) (e_i (1))) ?_
    refine TL_y (y_pick_f (e_t rfl) hb4 (e_t rfl)) ?_
    exact TL_fr hk (.cons (.cons (.refl _) rfl) rfl)
  refine TL_y (y_move (e_t rfl)) ?_
  refine TL_or 3 28 (b := ((!t3) || (decide (a2 < 1)))) (c := (decide (4 < a2))) ?_ (fun hb5 hk => ?_) (fun hb5 hk => ?_)
  rotate_left
  · refine TL_skip0 rfl hb5 ?_
    refine TL_skip0 rfl hb5 ?_
    refine TL_y (y_pick_t (e_t rfl) hb5 (e_b true)) ?_
    exact TL_fr hk (.refl _)
  · refine TL_want rfl hb5 ?_
    refine TL_y (y_move (e_t rfl)) ?_
    refine TL_want rfl hb5 ?_
    refine TL_y (y_gtr (e_t rfl) (e_i (4))) ?_
    refine TL_y (y_pick_f (e_t rfl) hb5 (e_t rfl)) ?_
    exact TL_fr hk (.cons (.cons (.refl _) rfl) rfl)
  refine TL_nil ?_
  refine z_nt ?_
  refine T_cond rfl (fun hb6 => ?_) (fun hb6 => ?_)
  · replace h := cond_t hb6 h
    refine T_seq ?_
    refine T_region ?_
    obtain ⟨t7, ht7, h⟩ := bind_some h
    refine TL_call (xs := []) (law11_alive_ok ht7) trivial c10 ?_
    refine TL_y (y_move (e_t rfl)) ?_
    refine TL_and 3 33 (b := t7) (c := (decide (t2.2 = 1))) ?_ (fun hb8 hk => ?_) (fun hb8 hk => ?_)
    rotate_left
    · refine TL_skip0 rfl hb8 ?_
      refine TL_skip0 rfl hb8 ?_
      refine TL_y (y_pick_f (e_t rfl) hb8 (e_b false)) ?_
      exact TL_fr hk (.refl _)
    · refine TL_want rfl hb8 ?_
      refine TL_y (y_move (e_t rfl)) ?_
      refine TL_want rfl hb8 ?_
      refine TL_y (y_eql (e_t rfl) (e_i (1))) ?_
      refine TL_y (y_pick_t (e_t rfl) hb8 (e_t rfl)) ?_
      exact TL_fr hk (.cons (.cons (.refl _) rfl) rfl)
    refine TL_y (y_move (e_t rfl)) ?_
    refine TL_and 4 38 (b := (t7 && (decide (t2.2 = 1)))) (c := (decide ((t2.1.length : Int) = 0))) ?_ (fun hb9 hk => ?_) (fun hb9 hk => ?_)
    rotate_left
    · refine TL_skip0 rfl hb9 ?_
      refine TL_skip0 rfl hb9 ?_
      refine TL_skip0 rfl hb9 ?_
      refine TL_y (y_pick_f (e_t rfl) hb9 (e_b false)) ?_
      exact TL_fr hk (.refl _)
    · refine TL_want rfl hb9 ?_
      refine TL_y (y_move (e_t rfl)) ?_
      refine TL_want rfl hb9 ?_
      refine TL_y (y_len (e_t rfl) (by rw [el28]; exact Try.underlying28)) ?_
      refine TL_want rfl hb9 ?_
      refine TL_y (y_eql (e_t rfl) (e_i (0))) ?_
      refine TL_y (y_pick_t (e_t rfl) hb9 (e_t rfl)) ?_
      exact TL_fr hk (.cons (.cons (.cons (.refl _) rfl) rfl) rfl)
    refine TL_y (y_assign (e_t rfl)) ?_
    refine TL_nil ?_
    refine z_nt ?_
    refine T_ret ?_
    refine z_rt ?_
    obtain rfl := Option.some.inj h
    exact Z_ret1 (fn := Try.f3) rfl (rv_t rfl)
  · replace h := cond_f hb6 h
    refine T_skip ?_
    refine z_nt ?_
    refine T_seq ?_
    refine T_seq ?_
    refine T_region ?_
    refine TL_y (y_fieldAddr (e_t rfl) fo24_0) ?_
    refine TL_y (y_load (e_t rfl) rfl s_Overlay_nodes ty22) ?_
    refine TL_y (y_len (e_t rfl) (by rw [el22]; exact Try.underlying22)) ?_
    refine TL_y (y_eql (e_t rfl) (e_i (0))) ?_
    refine TL_nil ?_
    refine z_nt ?_
    refine T_cond rfl (fun hb10 => ?_) (fun hb10 => ?_)
    · replace h := cond_t hb10 h
      refine T_seq ?_
      refine T_region ?_
      obtain ⟨t11, ht11, h⟩ := bind_some h
      refine TL_call (xs := []) (law11_alive_ok ht11) trivial c10 ?_
      refine TL_y (y_move (e_t rfl)) ?_
      refine TL_and 3 47 (b := t11) (c := (decide (t2.2 = 6))) ?_ (fun hb12 hk => ?_) (fun hb12 hk => ?_)
      rotate_left
      · refine TL_skip0 rfl hb12 ?_
        refine TL_skip0 rfl hb12 ?_
        refine TL_y (y_pick_f (e_t rfl) hb12 (e_b false)) ?_
        exact TL_fr hk (.refl _)
      · refine TL_want rfl hb12 ?_
        refine TL_y (y_move (e_t rfl)) ?_
        refine TL_want rfl hb12 ?_
        refine TL_y (y_eql (e_t rfl) (e_i (6))) ?_
        refine TL_y (y_pick_t (e_t rfl) hb12 (e_t rfl)) ?_
        exact TL_fr hk (.cons (.cons (.refl _) rfl) rfl)
      refine TL_y (y_move (e_t rfl)) ?_
      refine TL_and 4 52 (b := (t11 && (decide (t2.2 = 6)))) (c := (decide ((t2.1.length : Int) = 0))) ?_ (fun hb13 hk => ?_) (fun hb13 hk => ?_)
      rotate_left
      · refine TL_skip0 rfl hb13 ?_
        refine TL_skip0 rfl hb13 ?_
        refine TL_skip0 rfl hb13 ?_
        refine TL_y (y_pick_f (e_t rfl) hb13 (e_b false)) ?_
        exact TL_fr hk (.refl _)
      · refine TL_want rfl hb13 ?_
        refine TL_y (y_move (e_t rfl)) ?_
        refine TL_want rfl hb13 ?_
        refine TL_y (y_len (e_t rfl) (by rw [el28]; exact Try.underlying28)) ?_
        refine TL_want rfl hb13 ?_
        refine TL_y (y_eql (e_t rfl) (e_i (0))) ?_
        refine TL_y (y_pick_t (e_t rfl) hb13 (e_t rfl)) ?_
        exact TL_fr hk (.cons (.cons (.cons (.refl _) rfl) rfl) rfl)
      refine TL_y (y_assign (e_t rfl)) ?_
      refine TL_nil ?_
      refine z_nt ?_
      refine T_ret ?_
      refine z_rt ?_
      obtain rfl := Option.some.inj h
      exact Z_ret1 (fn := Try.f3) rfl (rv_t rfl)
    · replace h := cond_f hb10 h
      refine T_skip ?_
      refine z_nt ?_
      refine T_seq ?_
      refine T_region ?_
      obtain ⟨t14, ht14, h⟩ := bind_some h
      refine TL_call (xs := []) (law11_alive_ok ht14) trivial c10 ?_
      refine TL_y (y_move (e_t rfl)) ?_
      refine TL_and 3 57 (b := t14) (c := (decide (t2.2 = 0))) ?_ (fun hb15 hk => ?_) (fun hb15 hk => ?_)
      rotate_left
      · refine TL_skip0 rfl hb15 ?_
        refine TL_skip0 rfl hb15 ?_
        refine TL_y (y_pick_f (e_t rfl) hb15 (e_b false)) ?_
        exact TL_fr hk (.refl _)
      · refine TL_want rfl hb15 ?_
        refine TL_y (y_move (e_t rfl)) ?_
        refine TL_want rfl hb15 ?_
        refine TL_y (y_eql (e_t rfl) (e_i (0))) ?_
        refine TL_y (y_pick_t (e_t rfl) hb15 (e_t rfl)) ?_
        exact TL_fr hk (.cons (.cons (.refl _) rfl) rfl)
      refine TL_y (y_move (e_t rfl)) ?_
      obtain ⟨t19, ht19, h⟩ := bind_some h
      refine TL_cut 7 65 (r := t19) (t14 && (decide (t2.2 = 0))) ?_ (fun hb16 hk => ?_) (fun hb16 hk => ?_)
      rotate_left
      · replace h := cond_t hb16 ht19
        refine TL_want rfl hb16 ?_
        refine TL_y (y_move (e_t rfl)) ?_
        refine TL_want rfl hb16 ?_
        refine TL_y (y_load (e_t rfl) rfl Sub.self ty24) ?_
        refine TL_want rfl hb16 ?_
        refine TL_y (y_load (e_t rfl) rfl Sub.self ty26) ?_
        refine TL_want rfl hb16 ?_
        refine TL_y (y_move (e_t rfl)) ?_
        refine TL_want rfl hb16 ?_
        obtain ⟨t20, ht20, h⟩ := bind_some h
        refine TL_call (xs := [.d (t1 : Overlay), .d (a1 : Id), .d (a2 : Int)]) (r11_Keeps_ok ht20) ⟨(e_t rfl), (e_t rfl), (e_t rfl), trivial⟩ c12 ?_
        refine TL_want rfl hb16 ?_
        obtain ⟨t21, ht21, h⟩ := bind_some h
        refine TL_call (xs := [.d (t2.1 : (List Member)), .d (t20 : (List Member))]) (r07_Same_ok ht21) ⟨(e_t rfl), (e_t rfl), trivial⟩ c11 ?_
        obtain rfl := Option.some.inj h
        refine TL_y (y_pick_t (e_t rfl) hb16 (e_t rfl)) ?_
        exact TL_fr hk (.cons (.cons (.cons (.cons (.cons (.cons (.refl _) rfl) rfl) rfl) rfl) rfl) rfl)
      · obtain rfl := Option.some.inj (cond_f hb16 ht19)
        refine TL_skip0 rfl hb16 ?_
        refine TL_skip0 rfl hb16 ?_
        refine TL_skip0 rfl hb16 ?_
        refine TL_skip0 rfl hb16 ?_
        refine TL_skip0 rfl hb16 ?_
        refine TL_skip0 rfl hb16 ?_
        refine TL_y (y_pick_f (e_t rfl) hb16 (e_b false)) ?_
        exact TL_fr hk (.refl _)
      refine TL_y (y_assign (e_t rfl)) ?_
      refine TL_nil ?_
      refine z_nt ?_
      refine T_ret ?_
      obtain rfl := Option.some.inj h
      exact Z_ret1 (fn := Try.f3) rfl (rv_t rfl)
end Go.Ph
