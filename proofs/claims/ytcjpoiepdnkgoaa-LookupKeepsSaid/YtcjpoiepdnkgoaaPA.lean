/- WHAT IS PROVED: part of the proof that posthouselaw11.LookupKeeps returns true at every input and leaves its arguments alone. CONDITIONS: none beyond the row. -/
import Derived.Test.YtcjpoiepdnkgoaaBaseA
set_option maxRecDepth 4000
set_option maxHeartbeats 4000000
namespace Go.Ph
open Go.Proofs
def law11_few_l0 : List Node → Nat → Overlay → Option (Overlay)
  | [], _, s2 => some s2
  | x7 :: xsx7, i3, s2 => (slh x7.succs (imin (x7.succs.length : Int) 6)).bind fun t8 => (slh x7.fingers (imin (x7.fingers.length : Int) 18)).bind fun t9 => (app s2.nodes ([{ ({ x7 with succs := t8 }) with fingers := t9 }] : List Node)).bind fun t10 => law11_few_l0 xsx7 (i3 + 1) ({ s2 with nodes := t10 })
def law11_few (a0 : Overlay) : Option Overlay := (slh a0.nodes (imin (a0.nodes.length : Int) 18)).bind fun t1 => ((law11_few_l0 t1 0 Overlay.zero).bind fun s2 => some s2)
theorem law11_few_ok {a0 : Overlay} {r : Overlay} (h : law11_few a0 = some r) : Fn Try.prog 7 [.d a0] (.d r) := by
  refine Fn.of Try.func7 rfl fun w m => ?_
  unfold law11_few at h
  refine T_seq ?_
  refine T_region ?_
  refine TL_box (e_t rfl) ?_
  refine TL_alloc z24 ?_
  refine TL_nil ?_
  refine z_nt ?_
  refine T_seq ?_
  refine T_region ?_
  refine TL_alloc_g (δ := Node) 1003 0 44 Try.zeroValue24 z24 (by kernel_rfl) ?_
  refine TL_nil ?_
  refine z_nt ?_
  refine T_seq ?_
  refine T_seq ?_
  refine T_region ?_
  refine TL_y (y_fieldAddr (e_t rfl) fo24_0) ?_
  refine TL_y (y_load (e_t rfl) rfl s_Overlay_nodes ty22) ?_
  refine TL_y (y_fieldAddr (e_t rfl) fo24_0) ?_
  refine TL_y (y_load (e_t rfl) rfl s_Overlay_nodes ty22) ?_
  refine TL_y (y_len (e_t rfl) (by rw [el22]; exact Try.underlying22)) ?_
  refine TL_y (y_min (e_t rfl) (e_i (18))) ?_
  obtain ⟨t1, ht1, h⟩ := bind_some h
  refine TL_y (y_slh (e_t rfl) (e_t rfl) ht1 tysl22) ?_
  refine TL_y (y_len (e_t rfl) (by rw [el22]; exact Try.underlying22)) ?_
  refine TL_y (y_move (e_i (0))) ?_
  refine TL_nil ?_
  refine z_nt ?_
  obtain ⟨o4, ho4, h⟩ := bind_some h
  refine T_loopin (S := fun (s2 : Overlay) => ⟨[(2, .p 2 0), (3, .p 3 0)], ⟨[(2, ⟨(Overlay.zero : Overlay)⟩), (3, ⟨(s2 : Overlay)⟩)], [(1003, ⟨44, (s2.nodes : List Node)⟩)], [((3, 0), 1003)]⟩⟩) (fun z => z = o4) (fun s2 e => ?_) (fun hfall5 => ?_)
  · subst e
    refine z_nt ?_
    refine T_seq ?_
    refine T_region ?_
    refine TL_y (y_load (e_t rfl) rfl Sub.self ty24) ?_
    refine TL_store (e_t rfl) rfl (e_t rfl) Put.self ty24 (by decide) ?_
    refine TL_nil ?_
    refine z_nt ?_
    refine T_ret ?_
    obtain rfl := Option.some.inj h
    exact Z_ret1 (fn := Try.f7) rfl (rv_c rfl rfl ty24)
  · clear h
    refine TW_le (le_k (ks := [2, 3, 12, 13, 14]) (bs := [2, 3]) (gs := [1003]) (.cons rfl (.cons rfl (.cons rfl (.cons rfl (.cons rfl .nil))))) (.cons rfl (.cons rfl .nil)) (.cons rfl .nil)) (range_ind t1 (fun (i3 : Nat) (s2 : Overlay) => ⟨[(2, .p 2 0), (3, .p 3 0), (12, .d (t1 : (List Node))), (13, .d ((t1.length : Int) : Int)), (14, .d ((i3 : Int) : Int))], ⟨[(2, ⟨(Overlay.zero : Overlay)⟩), (3, ⟨(s2 : Overlay)⟩)], [(1003, ⟨44, (s2.nodes : List Node)⟩)], [((3, 0), 1003)]⟩⟩) (fun xs i s => law11_few_l0 xs i s = some o4) ?_ ?_ t1 0 Overlay.zero rfl ho4)
    · intro i s hi h
      refine TW_round (T_seq (T_region ?_))
      refine TL_y (y_lss (e_t rfl) (e_t rfl)) (TL_nil (z_nt (T_seq (T_cond rfl (fun hb => (dec_lt hi hb).elim) (fun _ => T_exit ?_)))))
      refine z_et ?_
      refine z_et ?_
      refine z_ei ?_
      exact Z_le (le_k (ks := [2, 3]) (bs := [2, 3]) (gs := [1003]) (.cons rfl (.cons rfl .nil)) (.cons rfl (.cons rfl .nil)) (.cons rfl .nil)) (hfall5 _ (Option.some.inj h))
    · intro x7 xsx7 i3 s2 hltx7 hx7 ih h
      replace h : ((slh x7.succs (imin (x7.succs.length : Int) 6)).bind fun t8 => (slh x7.fingers (imin (x7.fingers.length : Int) 18)).bind fun t9 => (app s2.nodes ([{ ({ x7 with succs := t8 }) with fingers := t9 }] : List Node)).bind fun t10 => law11_few_l0 xsx7 (i3 + 1) ({ s2 with nodes := t10 })) = some o4 := h
      refine TW_round ?_
      refine T_seq (T_region ?_)
      refine TL_y (y_lss (e_t rfl) (e_t rfl)) (TL_nil (z_nt (T_seq (T_cond rfl (fun _ => ?_) (fun hb => (dec_ge hltx7 hb).elim)))))
      refine T_skip ?_
      refine z_nt ?_
      refine T_seq ?_
      refine T_block ?_
      refine T_seq ?_
      refine T_region ?_
      refine TL_y (y_indexNat (e_t rfl) (e_t rfl) hx7 tysl22) ?_
      refine TL_y (y_load_ptr (e_t rfl) ty44) ?_
      refine TL_alloc z44 ?_
      refine TL_store (e_t rfl) rfl (e_t rfl) Put.self ty44 (by decide) ?_
      refine TL_nil ?_
      refine z_nt ?_
      refine T_seq ?_
      refine T_le (le_k (ks := [2, 3, 12, 13, 14, 15, 16, 17, 5]) (bs := [2, 3, 5]) (gs := [1003]) (ti := [((3, 0), 1003)]) (.cons rfl (.cons rfl (.cons rfl (.cons rfl (.cons rfl (.cons rfl (.cons rfl (.cons rfl (.cons rfl .nil))))))))) (.cons rfl (.cons rfl (.cons rfl .nil))) (.cons rfl .nil)) ?_
      obtain ⟨t8, ht8, h⟩ := bind_some h
      obtain ⟨t9, ht9, h⟩ := bind_some h
      refine T_drawn hmix (by kernel_rfl) (by kernel_rfl) [some (.p 5 66), some (.d (x7.succs : (List Member))), some (.p 5 66), some (.d (x7.succs : (List Member))), some (.d ((x7.succs.length : Int) : Int)), some (.d ((imin (x7.succs.length : Int) 6) : Int)), some (.d (t8 : (List Member))), some (.p 5 67), some (.d (x7.fingers : (List Member))), some (.p 5 67), some (.d (x7.fingers : (List Member))), some (.d ((x7.fingers.length : Int) : Int)), some (.d ((imin (x7.fingers.length : Int) 18) : Int)), some (.d (t9 : (List Member))), some (.p 5 66), none, some (.p 5 67), none] [(none, none, 2, (⟨(Overlay.zero : Overlay)⟩ : BV _)), (none, none, 3, (⟨(s2 : Overlay)⟩ : BV _)), (none, some 15, 5, (⟨(x7 : Node)⟩ : BV _)), (some 15, some 17, 5, (⟨({ x7 with succs := t8 } : Node)⟩ : BV _)), (some 17, none, 5, (⟨({ ({ x7 with succs := t8 }) with fingers := t9 } : Node)⟩ : BV _))] [(none, none, 1003, (⟨44, (s2.nodes : List Node)⟩ : GV _))] [((3, 0), 1003)] rfl ⟨rfl, rfl, rfl, trivial⟩ ⟨rfl, trivial⟩ rfl rfl rfl ⟨?_, ?_, ?_, ?_, ?_, ?_, ?_, ?_, ?_, ?_, ?_, ?_, ?_, ?_, ?_, ?_, ?_, ?_, trivial⟩ (Z_le (le_k (ks := [2, 3, 12, 13, 14, 15, 16, 17, 5, 18, 19, 20, 21, 22, 23, 24, 25, 26, 27, 28, 29, 30, 31, 32, 33]) (bs := [2, 3, 5]) (gs := [1003]) (ti := [((3, 0), 1003)]) (.cons rfl (.cons rfl (.cons rfl (.cons rfl (.cons rfl (.cons rfl (.cons rfl (.cons rfl (.cons rfl (.cons rfl (.cons rfl (.cons rfl (.cons rfl (.cons rfl (.cons rfl (.cons rfl (.cons rfl (.cons rfl (.cons rfl (.cons rfl (.cons rfl (.cons rfl (.cons rfl (.cons rfl (.cons rfl .nil))))))))))))))))))))))))) (.cons rfl (.cons rfl (.cons rfl .nil))) (.cons rfl .nil)) ?_)
      · refine d_put rfl rfl rfl rfl (fun L s' H Q k => ?_)
        refine TL_y (y_fieldAddr (e_t (H.p rfl)) fo44_2) ?_
        exact TL_nil k
      · refine d_put rfl rfl offs_d rfl (fun L s' H Q k => ?_)
        refine TL_y (y_load (e_t (H.t 0 rfl)) (H.b 2 rfl) s_Node_succs ty28) ?_
        exact TL_nil k
      · refine d_put rfl rfl rfl rfl (fun L s' H Q k => ?_)
        refine TL_y (y_fieldAddr (e_t (H.p rfl)) fo44_2) ?_
        exact TL_nil k
      · refine d_put rfl rfl offs_d rfl (fun L s' H Q k => ?_)
        refine TL_y (y_load (e_t (H.t 2 rfl)) (H.b 2 rfl) s_Node_succs ty28) ?_
        exact TL_nil k
      · refine d_put rfl rfl offs_d rfl (fun L s' H Q k => ?_)
        refine TL_y (y_len (e_t (H.t 3 rfl)) (by rw [el28]; exact Try.underlying28)) ?_
        exact TL_nil k
      · refine d_put rfl rfl offs_d rfl (fun L s' H Q k => ?_)
        refine TL_y (y_min (e_t (H.t 4 rfl)) (e_i (6))) ?_
        exact TL_nil k
      · refine d_put rfl rfl offs_d rfl (fun L s' H Q k => ?_)
        refine TL_y (y_slh (e_t (H.t 1 rfl)) (e_t (H.t 5 rfl)) ht8 tysl28) ?_
        exact TL_nil k
      · refine d_put rfl rfl rfl rfl (fun L s' H Q k => ?_)
        refine TL_y (y_fieldAddr (e_t (H.p rfl)) fo44_3) ?_
        exact TL_nil k
      · refine d_put rfl rfl offs_d rfl (fun L s' H Q k => ?_)
        refine TL_y (y_load (e_t (H.t 7 rfl)) (H.b 2 rfl) s_Node_fingers ty28) ?_
        exact TL_nil k
      · refine d_put rfl rfl rfl rfl (fun L s' H Q k => ?_)
        refine TL_y (y_fieldAddr (e_t (H.p rfl)) fo44_3) ?_
        exact TL_nil k
      · refine d_put rfl rfl offs_d rfl (fun L s' H Q k => ?_)
        refine TL_y (y_load (e_t (H.t 9 rfl)) (H.b 2 rfl) s_Node_fingers ty28) ?_
        exact TL_nil k
      · refine d_put rfl rfl offs_d rfl (fun L s' H Q k => ?_)
        refine TL_y (y_len (e_t (H.t 10 rfl)) (by rw [el28]; exact Try.underlying28)) ?_
        exact TL_nil k
      · refine d_put rfl rfl offs_d rfl (fun L s' H Q k => ?_)
        refine TL_y (y_min (e_t (H.t 11 rfl)) (e_i (18))) ?_
        exact TL_nil k
      · refine d_put rfl rfl offs_d rfl (fun L s' H Q k => ?_)
        refine TL_y (y_slh (e_t (H.t 8 rfl)) (e_t (H.t 12 rfl)) ht9 tysl28) ?_
        exact TL_nil k
      · refine d_put rfl rfl rfl rfl (fun L s' H Q k => ?_)
        refine TL_y (y_fieldAddr (e_t (H.p rfl)) fo44_2) ?_
        exact TL_nil k
      · refine d_store 66 1 rfl rfl rfl rfl (fun L s' H Q k => ?_)
        refine TL_store (e_t (H.t 14 rfl)) (H.b 2 rfl) (e_t (H.t 6 rfl)) p_Node_succs ty28 (by decide) ?_
        exact TL_nil k
      · refine d_put rfl rfl rfl rfl (fun L s' H Q k => ?_)
        refine TL_y (y_fieldAddr (e_t (H.p rfl)) fo44_3) ?_
        exact TL_nil k
      · refine d_store 67 1 rfl rfl rfl rfl (fun L s' H Q k => ?_)
        refine TL_store (e_t (H.t 16 rfl)) (H.b 3 rfl) (e_t (H.t 13 rfl)) p_Node_fingers ty28 (by decide) ?_
        exact TL_nil k
      refine z_nt ?_
      refine T_region ?_
      refine TL_y (y_fieldAddr (e_t rfl) fo24_0) ?_
      refine TL_y (y_load_tied (nm := 1003) (e_t rfl) (ti_in rfl) Try.isAgg22 ⟨_, rfl⟩) ?_
      refine TL_y (y_load (e_t rfl) rfl Sub.self ty44) ?_
      refine TL_buildSlice (xs := ([{ ({ x7 with succs := t8 }) with fingers := t9 }] : List Node)) (⟨rfl, (e_t rfl), trivial⟩) tyel22 rfl ?_
      obtain ⟨t10, ht10, h⟩ := bind_some h
      refine TL_g2d (q := 37) rfl rfl ?_
      refine TL_append (e_t rfl) rfl (e_t rfl) ht10 tyel22 ?_
      refine TL_y (y_fieldAddr (e_t rfl) fo24_0) ?_
      refine TL_store_g (e_t rfl) rfl (e_t rfl) rfl p_Overlay_nodes ty22 (by decide) ?_
      refine TL_nil ?_
      refine z_nb ?_
      refine z_nt ?_
      refine T_region ?_
      refine TL_y (y_inc (q := 12) (e_t rfl) rfl hltx7) ?_
      refine TL_y (y_move (e_t rfl)) ?_
      refine TL_nil ?_
      refine z_nl ?_
      exact TW_le (le_k (ks := [2, 3, 12, 13, 14]) (bs := [2, 3]) (gs := [1003]) (.cons rfl (.cons rfl (.cons rfl (.cons rfl (.cons rfl .nil))))) (.cons rfl (.cons rfl .nil)) (.cons rfl .nil)) (ih _ h)
def chord_Members_l0 : List Node → Nat → (List Member) → Option ((List Member))
  | [], _, s1 => some s1
  | x6 :: xsx6, i2, s1 => (app s1 ([x6.self] : List Member)).bind fun t7 => chord_Members_l0 xsx6 (i2 + 1) t7
def chord_Members (a0 : Overlay) : Option (List Member) := ((chord_Members_l0 a0.nodes 0 ([] : List Member)).bind fun s1 => some s1)
theorem chord_Members_ok {a0 : Overlay} {r : (List Member)} (h : chord_Members a0 = some r) : Fn Try.prog 14 [.d a0] (.d r) := by
  refine Fn.of Try.func14 rfl fun w m => ?_
  unfold chord_Members at h
  refine T_seq ?_
  refine T_region ?_
  refine TL_box (e_t rfl) ?_
  refine TL_y (y_assign (e_nil (α := Member))) ?_
  refine TL_nil ?_
  refine z_nt ?_
  refine T_seq ?_
  refine T_region ?_
  refine TL_nilg (α := Member) 39 ?_
  refine TL_nil ?_
  refine z_nt ?_
  refine T_seq ?_
  refine T_seq ?_
  refine T_region ?_
  refine TL_y (y_fieldAddr (e_t rfl) fo24_0) ?_
  refine TL_y (y_load (e_t rfl) rfl s_Overlay_nodes ty22) ?_
  refine TL_y (y_len (e_t rfl) (by rw [el22]; exact Try.underlying22)) ?_
  refine TL_y (y_move (e_i (0))) ?_
  refine TL_nil ?_
  refine z_nt ?_
  obtain ⟨o3, ho3, h⟩ := bind_some h
  refine T_loopin (S := fun (s1 : (List Member)) => ⟨[(3, .g 3)], ⟨[], [(3, ⟨39, (s1 : List Member)⟩)], []⟩⟩) (fun z => z = o3) (fun s1 e => ?_) (fun hfall4 => ?_)
  · subst e
    refine z_nt ?_
    refine T_seq ?_
    refine T_region ?_
    refine TL_y (y_move (e_t rfl)) ?_
    refine TL_y (y_assign (e_t rfl)) ?_
    refine TL_nil ?_
    refine z_nt ?_
    refine T_ret ?_
    obtain rfl := Option.some.inj h
    refine Z_g2d (q := 2) rfl rfl ?_
    exact Z_ret1 (fn := Try.f14) rfl (rv_t rfl)
  · clear h
    refine TW_le (le_k (ks := [3, 7, 8, 9]) (bs := []) (gs := [3]) (.cons rfl (.cons rfl (.cons rfl (.cons rfl .nil)))) .nil (.cons rfl .nil)) (range_ind a0.nodes (fun (i2 : Nat) (s1 : (List Member)) => ⟨[(3, .g 3), (7, .d (a0.nodes : (List Node))), (8, .d ((a0.nodes.length : Int) : Int)), (9, .d ((i2 : Int) : Int))], ⟨[], [(3, ⟨39, (s1 : List Member)⟩)], []⟩⟩) (fun xs i s => chord_Members_l0 xs i s = some o3) ?_ ?_ a0.nodes 0 ([] : List Member) rfl ho3)
    · intro i s hi h
      refine TW_round (T_seq (T_region ?_))
      refine TL_y (y_lss (e_t rfl) (e_t rfl)) (TL_nil (z_nt (T_seq (T_cond rfl (fun hb => (dec_lt hi hb).elim) (fun _ => T_exit ?_)))))
      refine z_et ?_
      refine z_et ?_
      refine z_ei ?_
      exact Z_le (le_k (ks := [3]) (bs := []) (gs := [3]) (.cons rfl .nil) .nil (.cons rfl .nil)) (hfall4 _ (Option.some.inj h))
    · intro x6 xsx6 i2 s1 hltx6 hx6 ih h
      replace h : ((app s1 ([x6.self] : List Member)).bind fun t7 => chord_Members_l0 xsx6 (i2 + 1) t7) = some o3 := h
      refine TW_round ?_
      refine T_seq (T_region ?_)
      refine TL_y (y_lss (e_t rfl) (e_t rfl)) (TL_nil (z_nt (T_seq (T_cond rfl (fun _ => ?_) (fun hb => (dec_ge hltx6 hb).elim)))))
      refine T_skip ?_
      refine z_nt ?_
      refine T_seq ?_
      refine T_block ?_
      refine T_seq ?_
      refine T_region ?_
      refine TL_y (y_indexNat (e_t rfl) (e_t rfl) hx6 tysl22) ?_
      refine TL_y (y_load_ptr (e_t rfl) ty44) ?_
      refine TL_alloc z44 ?_
      refine TL_store (e_t rfl) rfl (e_t rfl) Put.self ty44 (by decide) ?_
      refine TL_nil ?_
      refine z_nt ?_
      refine T_region ?_
      refine TL_y (y_move (e_t rfl)) ?_
      refine TL_y (y_fieldAddr (e_t rfl) fo44_0) ?_
      refine TL_y (y_load (e_t rfl) rfl s_Node_self ty39) ?_
      refine TL_buildSlice (xs := ([x6.self] : List Member)) (⟨rfl, (e_t rfl), trivial⟩) tyel28 rfl ?_
      obtain ⟨t7, ht7, h⟩ := bind_some h
      refine TL_g2d (q := 16) rfl rfl ?_
      refine TL_append (e_t rfl) rfl (e_t rfl) ht7 tyel28 ?_
      refine TL_y (y_assign (e_t rfl)) ?_
      refine TL_nil ?_
      refine z_nb ?_
      refine z_nt ?_
      refine T_region ?_
      refine TL_y (y_inc (q := 7) (e_t rfl) rfl hltx6) ?_
      refine TL_y (y_move (e_t rfl)) ?_
      refine TL_nil ?_
      refine z_nl ?_
      exact TW_le (le_k (ks := [3, 7, 8, 9]) (bs := []) (gs := [3]) (.cons rfl (.cons rfl (.cons rfl (.cons rfl .nil)))) .nil (.cons rfl .nil)) (ih _ h)
def node_none : Option Member := some ({ Member.zero with no := (-1) } : Member)
theorem node_none_ok {r : Member} (h : node_none = some r) : Fn Try.prog 78 [] (.d r) := by
  refine Fn.of Try.func78 rfl fun w m => ?_
  unfold node_none at h
  refine T_seq ?_
  refine T_region ?_
  refine TL_alloc z39 ?_
  refine TL_nil ?_
  refine z_nt ?_
  refine T_seq ?_
  refine T_region ?_
  refine TL_y (y_build z39 pl39 (b_cons (e_i (-1)) p_Member_no (b_nil)) rfl) ?_
  refine TL_store (e_t rfl) rfl (e_t rfl) Put.self ty39 (by decide) ?_
  refine TL_nil ?_
  refine z_nt ?_
  refine T_ret ?_
  obtain rfl := Option.some.inj h
  exact Z_ret1 (fn := Try.f78) rfl (rv_c rfl rfl ty39)
def node_may (a0 : Member) : Option Bool := some ((decide (0 ≤ a0.no)) && (decide (a0.no < 16)))
theorem node_may_ok {a0 : Member} {r : Bool} (h : node_may a0 = some r) : Fn Try.prog 71 [.d a0] (.d r) := by
  refine Fn.of Try.func71 rfl fun w m => ?_
  unfold node_may at h
  refine T_seq ?_
  refine T_region ?_
  refine TL_box (e_t rfl) ?_
  refine TL_y (y_assign (e_b false)) ?_
  refine TL_nil ?_
  refine z_nt ?_
  refine T_seq ?_
  refine T_region ?_
  refine TL_y (y_fieldAddr (e_t rfl) fo39_0) ?_
  refine TL_y (y_load (e_t rfl) rfl s_Member_no ty3) ?_
  refine TL_y (y_geq (e_t rfl) (e_i (0))) ?_
  refine TL_y (y_move (e_t rfl)) ?_
  refine TL_and 4 10 (b := (decide (0 ≤ a0.no))) (c := (decide (a0.no < 16))) ?_ (fun hb1 hk => ?_) (fun hb1 hk => ?_)
  rotate_left
  · refine TL_skip0 rfl hb1 ?_
    refine TL_skip0 rfl hb1 ?_
    refine TL_skip0 rfl hb1 ?_
    refine TL_y (y_pick_f (e_t rfl) hb1 (e_b false)) ?_
    exact TL_fr hk (.refl _)
  · refine TL_want rfl hb1 ?_
    refine TL_y (y_fieldAddr (e_t rfl) fo39_0) ?_
    refine TL_want rfl hb1 ?_
    refine TL_y (y_load (e_t rfl) rfl s_Member_no ty3) ?_
    refine TL_want rfl hb1 ?_
    refine TL_y (y_lss (e_t rfl) (e_i (16))) ?_
    refine TL_y (y_pick_t (e_t rfl) hb1 (e_t rfl)) ?_
    exact TL_fr hk (.cons (.cons (.cons (.refl _) rfl) rfl) rfl)
  refine TL_y (y_assign (e_t rfl)) ?_
  refine TL_nil ?_
  refine z_nt ?_
  refine T_ret ?_
  obtain rfl := Option.some.inj h
  exact Z_ret1 (fn := Try.f71) rfl (rv_t rfl)
def sl_Equal_Member_l0 (a1 : (List Member)) : List Member → Nat → Unit → Option (Lo Bool (Unit))
  | [], _, _ => some (.fall ())
  | x7 :: xsx7, i3, _ => (ix a1 (i3 : Int)).bind fun t8 => (bif (!decide (x7 = t8)) then some (.ret false) else sl_Equal_Member_l0 a1 xsx7 (i3 + 1) ())
def sl_Equal_Member (a0 : (List Member)) (a1 : (List Member)) : Option Bool := (bif (!decide ((a0.length : Int) = (a1.length : Int))) then some false else ((sl_Equal_Member_l0 a1 a0 0 ()).bind fun o4 => match o4 with | .ret q => some q | .fall _ => some true))
theorem sl_Equal_Member_ok {a0 : (List Member)} {a1 : (List Member)} {r : Bool} (h : sl_Equal_Member a0 a1 = some r) : Fn Try.prog 37 [.d a0, .d a1] (.d r) := by
  refine Fn.of Try.func37 rfl fun w m => ?_
  unfold sl_Equal_Member at h
  refine T_seq ?_
  refine T_region ?_
  refine TL_y (y_assign (e_b false)) ?_
  refine TL_nil ?_
  refine z_nt ?_
  refine T_seq ?_
  refine T_seq ?_
  refine T_region ?_
  refine TL_y (y_move (e_t rfl)) ?_
  refine TL_y (y_len (e_t rfl) (by rw [el28]; exact Try.underlying28)) ?_
  refine TL_y (y_move (e_t rfl)) ?_
  refine TL_y (y_len (e_t rfl) (by rw [el28]; exact Try.underlying28)) ?_
  refine TL_y (y_neq (e_t rfl) (e_t rfl)) ?_
  refine TL_nil ?_
  refine z_nt ?_
  refine T_cond rfl (fun hb1 => ?_) (fun hb1 => ?_)
  · replace h := cond_t hb1 h
    refine T_seq ?_
    refine T_region ?_
    refine TL_y (y_assign (e_b false)) ?_
    refine TL_nil ?_
    refine z_nt ?_
    refine T_ret ?_
    refine z_rt ?_
    obtain rfl := Option.some.inj h
    exact Z_ret1 (fn := Try.f37) rfl (rv_t rfl)
  · replace h := cond_f hb1 h
    refine T_skip ?_
    refine z_nt ?_
    refine T_seq ?_
    refine T_seq ?_
    refine T_region ?_
    refine TL_y (y_move (e_t rfl)) ?_
    refine TL_y (y_len (e_t rfl) (by rw [el28]; exact Try.underlying28)) ?_
    refine TL_y (y_move (e_i (0))) ?_
    refine TL_nil ?_
    refine z_nt ?_
    obtain ⟨o4, ho4, h⟩ := bind_some h
    refine T_loopin (S := fun (_ : Unit) => ⟨[], ⟨[], [], []⟩⟩) (fun s2 => o4 = .fall s2) (fun s2 e => ?_) (fun hfall5 => ?_)
    · subst e
      dsimp only at h
      refine z_nt ?_
      refine T_seq ?_
      refine T_region ?_
      refine TL_y (y_assign (e_b true)) ?_
      refine TL_nil ?_
      refine z_nt ?_
      refine T_ret ?_
      obtain rfl := Option.some.inj h
      exact Z_ret1 (fn := Try.f37) rfl (rv_t rfl)
    · have hret6 : ∀ q, o4 = .ret q → q = r := fun q e => by
        subst e
        dsimp only at h
        exact Option.some.inj h
      clear h
      refine TW_le (le_k (ks := [0, 1, 12, 13]) (bs := []) (gs := []) (.cons rfl (.cons rfl (.cons rfl (.cons rfl .nil)))) .nil .nil) (range_ind a0 (fun (i3 : Nat) (_ : Unit) => ⟨[(0, .d (a0 : (List Member))), (1, .d (a1 : (List Member))), (12, .d ((a0.length : Int) : Int)), (13, .d ((i3 : Int) : Int))], ⟨[], [], []⟩⟩) (fun xs i s => sl_Equal_Member_l0 a1 xs i s = some o4) ?_ ?_ a0 0 () rfl ho4)
      · intro i s hi h
        refine TW_round (T_seq (T_region ?_))
        refine TL_y (y_lss (e_t rfl) (e_t rfl)) (TL_nil (z_nt (T_seq (T_cond rfl (fun hb => (dec_lt hi hb).elim) (fun _ => T_exit ?_)))))
        refine z_et ?_
        refine z_et ?_
        refine z_ei ?_
        exact Z_le (le_k (ks := []) (bs := []) (gs := []) .nil .nil .nil) (hfall5 _ (Option.some.inj h).symm)
      · intro x7 xsx7 i3 s2 hltx7 hx7 ih h
        replace h : ((ix a1 (i3 : Int)).bind fun t8 => (bif (!decide (x7 = t8)) then some (.ret false) else sl_Equal_Member_l0 a1 xsx7 (i3 + 1) ())) = some o4 := h
        refine TW_round ?_
        refine T_seq (T_region ?_)
        refine TL_y (y_lss (e_t rfl) (e_t rfl)) (TL_nil (z_nt (T_seq (T_cond rfl (fun _ => ?_) (fun hb => (dec_ge hltx7 hb).elim)))))
        refine T_skip ?_
        refine z_nt ?_
        refine T_seq ?_
        refine T_block ?_
        refine T_seq ?_
        refine T_region ?_
        refine TL_y (y_move (e_t rfl)) ?_
        refine TL_y (y_assign (e_t rfl)) ?_
        refine TL_nil ?_
        refine z_nt ?_
        refine T_seq ?_
        refine T_draw hmix (by kernel_rfl) ?_
        refine TQ_y (y_move (e_t rfl)) ?_
        refine TQ_y (y_move (e_t rfl)) ?_
        refine TQ_y (y_indexNat (e_t rfl) (e_t rfl) hx7 tysl28) ?_
        refine TQ_y (y_load_ptr (e_t rfl) ty39) ?_
        refine TQ_y (y_move (e_t rfl)) ?_
        refine TQ_y (y_move (e_t rfl)) ?_
        obtain ⟨t8, ht8, h⟩ := bind_some h
        refine TQ_y (y_indexIx (e_t rfl) (e_t rfl) ht8 tysl28) ?_
        refine TQ_y (y_load_ptr (e_t rfl) ty39) ?_
        refine TQ_y (y_neqT (e_t rfl) (e_t rfl) eqT39 rfl eg39) ?_
        refine TQ_nil ?_
        refine z_nt ?_
        refine T_cond rfl (fun hb9 => ?_) (fun hb9 => ?_)
        · replace h := cond_t hb9 h
          refine T_seq ?_
          refine T_region ?_
          refine TL_y (y_assign (e_b false)) ?_
          refine TL_nil ?_
          refine z_nt ?_
          refine T_ret ?_
          refine z_rb ?_
          refine z_rt ?_
          refine z_rt ?_
          refine z_rb ?_
          refine z_rt ?_
          obtain rfl := hret6 _ (Option.some.inj h).symm
          exact Z_ret1 (fn := Try.f37) rfl (rv_t rfl)
        · replace h := cond_f hb9 h
          refine T_skip ?_
          refine z_nb ?_
          refine z_nt ?_
          refine T_region ?_
          refine TL_y (y_inc (q := 0) (e_t rfl) rfl hltx7) ?_
          refine TL_y (y_move (e_t rfl)) ?_
          refine TL_nil ?_
          refine z_nl ?_
          exact TW_le (le_k (ks := [0, 1, 12, 13]) (bs := []) (gs := []) (.cons rfl (.cons rfl (.cons rfl (.cons rfl .nil)))) .nil .nil) (ih _ h)
def node_of_1 (a0 : Member) (a1 : Int) : Option Bool := some (decide (a0.no = a1))
theorem node_of_1_ok {a0 : Member} {a1 : Int} {r : Bool} (h : node_of_1 a0 a1 = some r) : Fn Try.prog 102 [.d a0, .d (⟨a1⟩ : Ptr Int)] (.d r) := by
  refine Fn.of Try.func102 rfl fun w m => ?_
  unfold node_of_1 at h
  refine T_seq ?_
  refine T_region ?_
  refine TL_box (e_t rfl) ?_
  refine TL_y (y_assign (e_b false)) ?_
  refine TL_nil ?_
  refine z_nt ?_
  refine T_seq ?_
  refine T_region ?_
  refine TL_y (y_fieldAddr (e_t rfl) fo39_0) ?_
  refine TL_y (y_load (e_t rfl) rfl s_Member_no ty3) ?_
  refine TL_y (y_load_ptr (e_t rfl) ty3) ?_
  refine TL_y (y_eql (e_t rfl) (e_t rfl)) ?_
  refine TL_y (y_assign (e_t rfl)) ?_
  refine TL_nil ?_
  refine z_nt ?_
  refine T_ret ?_
  obtain rfl := Option.some.inj h
  exact Z_ret1 (fn := Try.f102) rfl (rv_t rfl)
def node_of (a0 : Int) : Option (Fn1 Member Bool) := some (⟨fun x => node_of_1 x a0⟩ : (Fn1 Member Bool))
theorem node_of_ok {a0 : Int} {r : (Fn1 Member Bool)} (h : node_of a0 = some r) : Fn Try.prog 72 [.d a0] (.d r) := by
  refine Fn.of Try.func72 rfl fun w m => ?_
  unfold node_of at h
  refine T_seq ?_
  refine T_region ?_
  refine TL_box (e_t rfl) ?_
  refine TL_y (y_assign (e_x .nilFunc)) ?_
  refine TL_nil ?_
  refine z_nt ?_
  refine T_seq ?_
  refine T_region ?_
  refine TL_le (le_k (ks := [1, 0, 2]) (bs := [1]) (gs := []) (ti := []) (.cons rfl (.cons rfl (.cons rfl .nil))) (.cons rfl .nil) .nil) (TL_freeze ?_)
  refine TL_y (y_makeFunc1 (F := fun x => node_of_1 x a0) (caps := [.d (⟨a0⟩ : Ptr Int)]) (fun x r h => node_of_1_ok h) ⟨(e_t rfl), trivial⟩ c102) ?_
  refine TL_y (y_assign (e_t rfl)) ?_
  refine TL_nil ?_
  refine z_nt ?_
  refine T_ret ?_
  obtain rfl := Option.some.inj h
  exact Z_ret1 (fn := Try.f72) rfl (rv_t rfl)
def sl_IndexFunc_Member_l0 (a1 : (Fn1 Member Bool)) : List Member → Nat → Unit → Option (Lo Int (Unit))
  | [], _, _ => some (.fall ())
  | x6 :: xsx6, i2, _ => (a1.f x6).bind fun t7 => (bif t7 then some (.ret (i2 : Int)) else sl_IndexFunc_Member_l0 a1 xsx6 (i2 + 1) ())
def sl_IndexFunc_Member (a0 : (List Member)) (a1 : (Fn1 Member Bool)) : Option Int := ((sl_IndexFunc_Member_l0 a1 a0 0 ()).bind fun o3 => match o3 with | .ret q => some q | .fall _ => some (-1))
theorem sl_IndexFunc_Member_ok {a0 : (List Member)} {a1 : (Fn1 Member Bool)} {r : Int} (h : sl_IndexFunc_Member a0 a1 = some r) : Fn Try.prog 82 [.d a0, .d a1] (.d r) := by
  refine Fn.of Try.func82 rfl fun w m => ?_
  unfold sl_IndexFunc_Member at h
  refine T_seq ?_
  refine T_region ?_
  refine TL_y (y_assign (e_i (0))) ?_
  refine TL_nil ?_
  refine z_nt ?_
  refine T_seq ?_
  refine T_seq ?_
  refine T_region ?_
  refine TL_y (y_move (e_t rfl)) ?_
  refine TL_y (y_len (e_t rfl) (by rw [el28]; exact Try.underlying28)) ?_
  refine TL_y (y_move (e_i (0))) ?_
  refine TL_nil ?_
  refine z_nt ?_
  obtain ⟨o3, ho3, h⟩ := bind_some h
  refine T_loopin (S := fun (_ : Unit) => ⟨[], ⟨[], [], []⟩⟩) (fun s1 => o3 = .fall s1) (fun s1 e => ?_) (fun hfall4 => ?_)
  · subst e
    dsimp only at h
    refine z_nt ?_
    refine T_seq ?_
    refine T_region ?_
    refine TL_y (y_assign (e_i (-1))) ?_
    refine TL_nil ?_
    refine z_nt ?_
    refine T_ret ?_
    obtain rfl := Option.some.inj h
    exact Z_ret1 (fn := Try.f82) rfl (rv_t rfl)
  · have hret5 : ∀ q, o3 = .ret q → q = r := fun q e => by
      subst e
      dsimp only at h
      exact Option.some.inj h
    clear h
    refine TW_le (le_k (ks := [0, 1, 7, 8]) (bs := []) (gs := []) (.cons rfl (.cons rfl (.cons rfl (.cons rfl .nil)))) .nil .nil) (range_ind a0 (fun (i2 : Nat) (_ : Unit) => ⟨[(0, .d (a0 : (List Member))), (1, .d (a1 : (Fn1 Member Bool))), (7, .d ((a0.length : Int) : Int)), (8, .d ((i2 : Int) : Int))], ⟨[], [], []⟩⟩) (fun xs i s => sl_IndexFunc_Member_l0 a1 xs i s = some o3) ?_ ?_ a0 0 () rfl ho3)
    · intro i s hi h
      refine TW_round (T_seq (T_region ?_))
      refine TL_y (y_lss (e_t rfl) (e_t rfl)) (TL_nil (z_nt (T_seq (T_cond rfl (fun hb => (dec_lt hi hb).elim) (fun _ => T_exit ?_)))))
      refine z_et ?_
      refine z_et ?_
      refine z_ei ?_
      exact Z_le (le_k (ks := []) (bs := []) (gs := []) .nil .nil .nil) (hfall4 _ (Option.some.inj h).symm)
    · intro x6 xsx6 i2 s1 hltx6 hx6 ih h
      replace h : ((a1.f x6).bind fun t7 => (bif t7 then some (.ret (i2 : Int)) else sl_IndexFunc_Member_l0 a1 xsx6 (i2 + 1) ())) = some o3 := h
      refine TW_round ?_
      refine T_seq (T_region ?_)
      refine TL_y (y_lss (e_t rfl) (e_t rfl)) (TL_nil (z_nt (T_seq (T_cond rfl (fun _ => ?_) (fun hb => (dec_ge hltx6 hb).elim)))))
      refine T_skip ?_
      refine z_nt ?_
      refine T_seq ?_
      refine T_block ?_
      refine T_seq ?_
      refine T_region ?_
      refine TL_y (y_move (e_t rfl)) ?_
      refine TL_y (y_assign (e_t rfl)) ?_
      refine TL_nil ?_
      refine z_nt ?_
      refine T_seq ?_
      refine T_region ?_
      refine TL_y (y_move (e_t rfl)) ?_
      refine TL_y (y_move (e_t rfl)) ?_
      refine TL_y (y_move (e_t rfl)) ?_
      refine TL_y (y_indexNat (e_t rfl) (e_t rfl) hx6 tysl28) ?_
      refine TL_y (y_load_ptr (e_t rfl) ty39) ?_
      obtain ⟨t7, ht7, h⟩ := bind_some h
      refine TL_callv1 (e_t rfl) (e_t rfl) ht7 ?_
      refine TL_nil ?_
      refine z_nt ?_
      refine T_cond rfl (fun hb8 => ?_) (fun hb8 => ?_)
      · replace h := cond_t hb8 h
        refine T_seq ?_
        refine T_region ?_
        refine TL_y (y_move (e_t rfl)) ?_
        refine TL_y (y_assign (e_t rfl)) ?_
        refine TL_nil ?_
        refine z_nt ?_
        refine T_ret ?_
        refine z_rb ?_
        refine z_rt ?_
        refine z_rt ?_
        refine z_rb ?_
        refine z_rt ?_
        obtain rfl := hret5 _ (Option.some.inj h).symm
        exact Z_ret1 (fn := Try.f82) rfl (rv_t rfl)
      · replace h := cond_f hb8 h
        refine T_skip ?_
        refine z_nb ?_
        refine z_nt ?_
        refine T_region ?_
        refine TL_y (y_inc (q := 0) (e_t rfl) rfl hltx6) ?_
        refine TL_y (y_move (e_t rfl)) ?_
        refine TL_nil ?_
        refine z_nl ?_
        exact TW_le (le_k (ks := [0, 1, 7, 8]) (bs := []) (gs := []) (.cons rfl (.cons rfl (.cons rfl (.cons rfl .nil)))) .nil .nil) (ih _ h)
def sl_ContainsFunc_Member (a0 : (List Member)) (a1 : (Fn1 Member Bool)) : Option Bool := (sl_IndexFunc_Member a0 a1).bind fun t1 => some (decide (0 ≤ t1))
theorem sl_ContainsFunc_Member_ok {a0 : (List Member)} {a1 : (Fn1 Member Bool)} {r : Bool} (h : sl_ContainsFunc_Member a0 a1 = some r) : Fn Try.prog 55 [.d a0, .d a1] (.d r) := by
  refine Fn.of Try.func55 rfl fun w m => ?_
  unfold sl_ContainsFunc_Member at h
  refine T_seq ?_
  refine T_region ?_
  refine TL_y (y_assign (e_b false)) ?_
  refine TL_nil ?_
  refine z_nt ?_
  refine T_seq ?_
  refine T_region ?_
  refine TL_y (y_move (e_t rfl)) ?_
  refine TL_y (y_move (e_t rfl)) ?_
  obtain ⟨t1, ht1, h⟩ := bind_some h
  refine TL_call (xs := [.d (a0 : (List Member)), .d (a1 : (Fn1 Member Bool))]) (sl_IndexFunc_Member_ok ht1) ⟨(e_t rfl), (e_t rfl), trivial⟩ c82 ?_
  refine TL_y (y_geq (e_t rfl) (e_i (0))) ?_
  refine TL_y (y_assign (e_t rfl)) ?_
  refine TL_nil ?_
  refine z_nt ?_
  refine T_ret ?_
  obtain rfl := Option.some.inj h
  exact Z_ret1 (fn := Try.f55) rfl (rv_t rfl)
def node_unlike_l0 (a0 : (List Member)) (a1 : Int) : List Member → Nat → Unit → Option (Lo Bool (Unit))
  | [], _, _ => some (.fall ())
  | x6 :: xsx6, i2, _ => (((node_may x6).bind fun t10 => (bif (!t10) then (bif true then some true else (slh a0 (i2 : Int)).bind fun t13 => (node_of x6.no).bind fun t14 => (sl_ContainsFunc_Member t13 t14).bind fun t15 => some t15) else (bif (decide (x6.no = a1)) then some true else (slh a0 (i2 : Int)).bind fun t17 => (node_of x6.no).bind fun t18 => (sl_ContainsFunc_Member t17 t18).bind fun t19 => some t19)) : Option (Bool)).bind fun s7 => (bif s7 then some (.ret false) else node_unlike_l0 a0 a1 xsx6 (i2 + 1) ()))
def node_unlike (a0 : (List Member)) (a1 : Int) : Option Bool := ((node_unlike_l0 a0 a1 a0 0 ()).bind fun o3 => match o3 with | .ret q => some q | .fall _ => some true)
theorem node_unlike_ok {a0 : (List Member)} {a1 : Int} {r : Bool} (h : node_unlike a0 a1 = some r) : Fn Try.prog 79 [.d a0, .d a1] (.d r) := by
  refine Fn.of Try.func79 rfl fun w m => ?_
  unfold node_unlike at h
  refine T_seq ?_
  refine T_region ?_
  refine TL_y (y_assign (e_b false)) ?_
  refine TL_nil ?_
  refine z_nt ?_
  refine T_seq ?_
  refine T_seq ?_
  refine T_region ?_
  refine TL_y (y_move (e_t rfl)) ?_
  refine TL_y (y_len (e_t rfl) (by rw [el28]; exact Try.underlying28)) ?_
  refine TL_y (y_move (e_i (0))) ?_
  refine TL_nil ?_
  refine z_nt ?_
  obtain ⟨o3, ho3, h⟩ := bind_some h
  refine T_loopin (S := fun (_ : Unit) => ⟨[], ⟨[], [], []⟩⟩) (fun s1 => o3 = .fall s1) (fun s1 e => ?_) (fun hfall4 => ?_)
  · subst e
    dsimp only at h
    refine z_nt ?_
    refine T_seq ?_
    refine T_region ?_
    refine TL_y (y_assign (e_b true)) ?_
    refine TL_nil ?_
    refine z_nt ?_
    refine T_ret ?_
    obtain rfl := Option.some.inj h
    exact Z_ret1 (fn := Try.f79) rfl (rv_t rfl)
  · have hret5 : ∀ q, o3 = .ret q → q = r := fun q e => by
      subst e
      dsimp only at h
      exact Option.some.inj h
    clear h
    refine TW_le (le_k (ks := [0, 1, 7, 8, 9]) (bs := []) (gs := []) (.cons rfl (.cons rfl (.cons rfl (.cons rfl (.cons rfl .nil))))) .nil .nil) (range_ind a0 (fun (i2 : Nat) (_ : Unit) => ⟨[(0, .d (a0 : (List Member))), (1, .d (a1 : Int)), (7, .d (a0 : (List Member))), (8, .d ((a0.length : Int) : Int)), (9, .d ((i2 : Int) : Int))], ⟨[], [], []⟩⟩) (fun xs i s => node_unlike_l0 a0 a1 xs i s = some o3) ?_ ?_ a0 0 () rfl ho3)
    · intro i s hi h
      refine TW_round (T_seq (T_region ?_))
      refine TL_y (y_lss (e_t rfl) (e_t rfl)) (TL_nil (z_nt (T_seq (T_cond rfl (fun hb => (dec_lt hi hb).elim) (fun _ => T_exit ?_)))))
      refine z_et ?_
      refine z_et ?_
      refine z_ei ?_
      exact Z_le (le_k (ks := []) (bs := []) (gs := []) .nil .nil .nil) (hfall4 _ (Option.some.inj h).symm)
    · intro x6 xsx6 i2 s1 hltx6 hx6 ih h
      replace h : ((((node_may x6).bind fun t10 => (bif (!t10) then (bif true then some true else (slh a0 (i2 : Int)).bind fun t13 => (node_of x6.no).bind fun t14 => (sl_ContainsFunc_Member t13 t14).bind fun t15 => some t15) else (bif (decide (x6.no = a1)) then some true else (slh a0 (i2 : Int)).bind fun t17 => (node_of x6.no).bind fun t18 => (sl_ContainsFunc_Member t17 t18).bind fun t19 => some t19)) : Option (Bool)).bind fun s7 => (bif s7 then some (.ret false) else node_unlike_l0 a0 a1 xsx6 (i2 + 1) ()))) = some o3 := h
      refine TW_round ?_
      refine T_seq (T_region ?_)
      refine TL_y (y_lss (e_t rfl) (e_t rfl)) (TL_nil (z_nt (T_seq (T_cond rfl (fun _ => ?_) (fun hb => (dec_ge hltx6 hb).elim)))))
      refine T_skip ?_
      refine z_nt ?_
      refine T_seq ?_
      refine T_block ?_
      refine T_seq ?_
      refine T_region ?_
      refine TL_y (y_move (e_t rfl)) ?_
      refine TL_y (y_indexNat (e_t rfl) (e_t rfl) hx6 tysl28) ?_
      refine TL_y (y_load_ptr (e_t rfl) ty39) ?_
      refine TL_alloc z39 ?_
      refine TL_y (y_assign (e_t rfl)) ?_
      refine TL_store (e_t rfl) rfl (e_t rfl) Put.self ty39 (by decide) ?_
      refine TL_nil ?_
      refine z_nt ?_
      obtain ⟨s7, hs7, h⟩ := bind_some h
      refine T_join (S := fun (s7 : Bool) => ⟨[(0, .d (a0 : (List Member))), (1, .d (a1 : Int)), (7, .d (a0 : (List Member))), (8, .d ((a0.length : Int) : Int)), (9, .d ((i2 : Int) : Int)), (31, .d (s7 : Bool))], ⟨[], [], []⟩⟩) (fun z => s7 = z) (fun z e => ?_) (fun hfall8 => ?_)
      · subst e
        refine T_cond rfl (fun hb20 => ?_) (fun hb20 => ?_)
        · replace h := cond_t hb20 h
          refine T_seq ?_
          refine T_region ?_
          refine TL_y (y_assign (e_b false)) ?_
          refine TL_nil ?_
          refine z_nt ?_
          refine T_ret ?_
          refine z_rb ?_
          refine z_rt ?_
          refine z_rt ?_
          refine z_rb ?_
          refine z_rt ?_
          obtain rfl := hret5 _ (Option.some.inj h).symm
          exact Z_ret1 (fn := Try.f79) rfl (rv_t rfl)
        · replace h := cond_f hb20 h
          refine T_skip ?_
          refine z_nb ?_
          refine z_nt ?_
          refine T_region ?_
          refine TL_y (y_inc (q := 0) (e_t rfl) rfl hltx6) ?_
          refine TL_y (y_move (e_t rfl)) ?_
          refine TL_nil ?_
          refine z_nl ?_
          exact TW_le (le_k (ks := [0, 1, 7, 8, 9]) (bs := []) (gs := []) (.cons rfl (.cons rfl (.cons rfl (.cons rfl (.cons rfl .nil))))) .nil .nil) (ih _ h)
      · clear h
        have h := hs7
        refine T_le (le_k (ks := [0, 1, 7, 8, 9, 10, 11, 12, 13, 6, 5]) (bs := [6]) (gs := []) (ti := []) (.cons rfl (.cons rfl (.cons rfl (.cons rfl (.cons rfl (.cons rfl (.cons rfl (.cons rfl (.cons rfl (.cons rfl (.cons rfl .nil))))))))))) (.cons rfl .nil) .nil) ?_
        obtain ⟨t10, ht10, h⟩ := bind_some h
        refine T_split (!t10) (fun hb11 => ?_) (fun hb11 => ?_)
        · replace h := cond_t hb11 h
          refine T_split true (fun hb12 => ?_) (fun hb12 => ?_)
          · replace h := cond_t hb12 h
            refine T_drawn hmix (by kernel_rfl) (by kernel_rfl) [some (.d (x6 : Member)), some (.d (t10 : Bool)), some (.d ((!t10) : Bool)), some (.d ((!t10) : Bool)), none, none, none, none, some (.d (true : Bool)), some (.d (true : Bool)), none, none, none, none, none, none, none, some (.d (true : Bool))] [(none, none, 6, (⟨(x6 : Member)⟩ : BV _))] [] [] rfl ⟨rfl, trivial⟩ trivial rfl rfl rfl ⟨?_, ?_, ?_, ?_, ?_, ?_, ?_, ?_, ?_, ?_, ?_, ?_, ?_, ?_, ?_, ?_, ?_, ?_, trivial⟩ (Z_le (le_k (ks := [0, 1, 7, 8, 9, 10, 11, 12, 13, 6, 5, 14, 15, 16, 17, 22, 23, 31]) (bs := [6]) (gs := []) (ti := []) (.cons rfl (.cons rfl (.cons rfl (.cons rfl (.cons rfl (.cons rfl (.cons rfl (.cons rfl (.cons rfl (.cons rfl (.cons rfl (.cons rfl (.cons rfl (.cons rfl (.cons rfl (.cons rfl (.cons rfl (.cons rfl .nil)))))))))))))))))) (.cons rfl .nil) .nil) ?_)
            · refine d_put rfl rfl offs_d rfl (fun L s' H Q k => ?_)
              refine TL_y (y_load (e_t (H.p rfl)) (H.b 0 rfl) Sub.self ty39) ?_
              exact TL_nil k
            · refine d_put rfl rfl offs_d rfl (fun L s' H Q k => ?_)
              refine TL_call (xs := [.d (x6 : Member)]) (node_may_ok ht10) ⟨(e_t (H.t 0 rfl)), trivial⟩ c71 ?_
              exact TL_nil k
            · refine d_put rfl rfl offs_d rfl (fun L s' H Q k => ?_)
              refine TL_y (y_not (e_t (H.t 1 rfl))) ?_
              exact TL_nil k
            · refine d_put rfl rfl offs_d rfl (fun L s' H Q k => ?_)
              refine TL_y (y_move (e_t (H.t 2 rfl))) ?_
              exact TL_nil k
            · exact d_skip rfl rfl rfl (fun L s' H hf Q k => TL_skip0 (H.t 3 rfl) hb11 (TL_nil k) hf)
            · exact d_skip rfl rfl rfl (fun L s' H hf Q k => TL_skip0 (H.t 3 rfl) hb11 (TL_nil k) hf)
            · exact d_skip rfl rfl rfl (fun L s' H hf Q k => TL_skip0 (H.t 3 rfl) hb11 (TL_nil k) hf)
            · exact d_skip rfl rfl rfl (fun L s' H hf Q k => TL_skip0 (H.t 3 rfl) hb11 (TL_nil k) hf)
            · refine d_put rfl rfl offs_d rfl (fun L s' H Q k => ?_)
              refine TL_y (y_pick_t (e_t (H.t 3 rfl)) hb11 (e_b true)) ?_
              exact TL_nil k
            · refine d_put rfl rfl offs_d rfl (fun L s' H Q k => ?_)
              refine TL_y (y_move (e_t (H.t 8 rfl))) ?_
              exact TL_nil k
            · exact d_skip rfl rfl rfl (fun L s' H hf Q k => TL_skip0 (H.t 9 rfl) hb12 (TL_nil k) hf)
            · exact d_skip rfl rfl rfl (fun L s' H hf Q k => TL_skip0 (H.t 9 rfl) hb12 (TL_nil k) hf)
            · exact d_skip rfl rfl rfl (fun L s' H hf Q k => TL_skip0 (H.t 9 rfl) hb12 (TL_nil k) hf)
            · exact d_skip rfl rfl rfl (fun L s' H hf Q k => TL_skip0 (H.t 9 rfl) hb12 (TL_nil k) hf)
            · exact d_skip rfl rfl rfl (fun L s' H hf Q k => TL_skip0 (H.t 9 rfl) hb12 (TL_nil k) hf)
            · exact d_skip rfl rfl rfl (fun L s' H hf Q k => TL_skip0 (H.t 9 rfl) hb12 (TL_nil k) hf)
            · exact d_skip rfl rfl rfl (fun L s' H hf Q k => TL_skip0 (H.t 9 rfl) hb12 (TL_nil k) hf)
            · refine d_put rfl rfl offs_d rfl (fun L s' H Q k => ?_)
              refine TL_y (y_pick_t (e_t (H.t 9 rfl)) hb12 (e_b true)) ?_
              exact TL_nil k
            exact Z_le (le_k (ks := [0, 1, 7, 8, 9, 31]) (bs := []) (gs := []) (.cons rfl (.cons rfl (.cons rfl (.cons rfl (.cons rfl (.cons rfl .nil)))))) .nil .nil) (hfall8 _ (Option.some.inj h).symm)
          · replace h := cond_f hb12 h
            obtain ⟨t13, ht13, h⟩ := bind_some h
            obtain ⟨t14, ht14, h⟩ := bind_some h
            obtain ⟨t15, ht15, h⟩ := bind_some h
            refine T_drawn hmix (by kernel_rfl) (by kernel_rfl) [some (.d (x6 : Member)), some (.d (t10 : Bool)), some (.d ((!t10) : Bool)), some (.d ((!t10) : Bool)), none, none, none, none, some (.d (true : Bool)), some (.d (true : Bool)), some (.d (a0 : (List Member))), some (.d ((i2 : Int) : Int)), some (.d (t13 : (List Member))), some (.p 6 0), some (.d (x6.no : Int)), some (.d (t14 : (Fn1 Member Bool))), some (.d (t15 : Bool)), some (.d (t15 : Bool))] [(none, none, 6, (⟨(x6 : Member)⟩ : BV _))] [] [] rfl ⟨rfl, trivial⟩ trivial rfl rfl rfl ⟨?_, ?_, ?_, ?_, ?_, ?_, ?_, ?_, ?_, ?_, ?_, ?_, ?_, ?_, ?_, ?_, ?_, ?_, trivial⟩ (Z_le (le_k (ks := [0, 1, 7, 8, 9, 10, 11, 12, 13, 6, 5, 14, 15, 16, 17, 22, 23, 24, 25, 26, 27, 28, 29, 30, 31]) (bs := [6]) (gs := []) (ti := []) (.cons rfl (.cons rfl (.cons rfl (.cons rfl (.cons rfl (.cons rfl (.cons rfl (.cons rfl (.cons rfl (.cons rfl (.cons rfl (.cons rfl (.cons rfl (.cons rfl (.cons rfl (.cons rfl (.cons rfl (.cons rfl (.cons rfl (.cons rfl (.cons rfl (.cons rfl (.cons rfl (.cons rfl (.cons rfl .nil))))))))))))))))))))))))) (.cons rfl .nil) .nil) ?_)
            · refine d_put rfl rfl offs_d rfl (fun L s' H Q k => ?_)
              refine TL_y (y_load (e_t (H.p rfl)) (H.b 0 rfl) Sub.self ty39) ?_
              exact TL_nil k
            · refine d_put rfl rfl offs_d rfl (fun L s' H Q k => ?_)
              refine TL_call (xs := [.d (x6 : Member)]) (node_may_ok ht10) ⟨(e_t (H.t 0 rfl)), trivial⟩ c71 ?_
              exact TL_nil k
            · refine d_put rfl rfl offs_d rfl (fun L s' H Q k => ?_)
              refine TL_y (y_not (e_t (H.t 1 rfl))) ?_
              exact TL_nil k
            · refine d_put rfl rfl offs_d rfl (fun L s' H Q k => ?_)
              refine TL_y (y_move (e_t (H.t 2 rfl))) ?_
              exact TL_nil k
            · exact d_skip rfl rfl rfl (fun L s' H hf Q k => TL_skip0 (H.t 3 rfl) hb11 (TL_nil k) hf)
            · exact d_skip rfl rfl rfl (fun L s' H hf Q k => TL_skip0 (H.t 3 rfl) hb11 (TL_nil k) hf)
            · exact d_skip rfl rfl rfl (fun L s' H hf Q k => TL_skip0 (H.t 3 rfl) hb11 (TL_nil k) hf)
            · exact d_skip rfl rfl rfl (fun L s' H hf Q k => TL_skip0 (H.t 3 rfl) hb11 (TL_nil k) hf)
            · refine d_put rfl rfl offs_d rfl (fun L s' H Q k => ?_)
              refine TL_y (y_pick_t (e_t (H.t 3 rfl)) hb11 (e_b true)) ?_
              exact TL_nil k
            · refine d_put rfl rfl offs_d rfl (fun L s' H Q k => ?_)
              refine TL_y (y_move (e_t (H.t 8 rfl))) ?_
              exact TL_nil k
            · refine d_put rfl rfl offs_d rfl (fun L s' H Q k => ?_)
              refine TL_want (H.t 9 rfl) hb12 ?_
              refine TL_y (y_move (e_t (H.p rfl))) ?_
              exact TL_nil k
            · refine d_put rfl rfl offs_d rfl (fun L s' H Q k => ?_)
              refine TL_want (H.t 9 rfl) hb12 ?_
              refine TL_y (y_move (e_t (H.p rfl))) ?_
              exact TL_nil k
            · refine d_put rfl rfl offs_d rfl (fun L s' H Q k => ?_)
              refine TL_want (H.t 9 rfl) hb12 ?_
              refine TL_y (y_slh (e_t (H.t 10 rfl)) (e_t (H.t 11 rfl)) ht13 tysl28) ?_
              exact TL_nil k
            · refine d_put rfl rfl rfl rfl (fun L s' H Q k => ?_)
              refine TL_want (H.t 9 rfl) hb12 ?_
              refine TL_y (y_fieldAddr (e_t (H.p rfl)) fo39_0) ?_
              exact TL_nil k
            · refine d_put rfl rfl offs_d rfl (fun L s' H Q k => ?_)
              refine TL_want (H.t 9 rfl) hb12 ?_
              refine TL_y (y_load (e_t (H.t 13 rfl)) (H.b 0 rfl) s_Member_no ty3) ?_
              exact TL_nil k
            · refine d_put rfl rfl offs_d rfl (fun L s' H Q k => ?_)
              refine TL_want (H.t 9 rfl) hb12 ?_
              refine TL_call (xs := [.d (x6.no : Int)]) (node_of_ok ht14) ⟨(e_t (H.t 14 rfl)), trivial⟩ c72 ?_
              exact TL_nil k
            · refine d_put rfl rfl offs_d rfl (fun L s' H Q k => ?_)
              refine TL_want (H.t 9 rfl) hb12 ?_
              refine TL_call (xs := [.d (t13 : (List Member)), .d (t14 : (Fn1 Member Bool))]) (sl_ContainsFunc_Member_ok ht15) ⟨(e_t (H.t 12 rfl)), (e_t (H.t 15 rfl)), trivial⟩ c55 ?_
              exact TL_nil k
            · refine d_put rfl rfl offs_d rfl (fun L s' H Q k => ?_)
              refine TL_y (y_pick_f (e_t (H.t 9 rfl)) hb12 (e_t (H.t 16 rfl))) ?_
              exact TL_nil k
            exact Z_le (le_k (ks := [0, 1, 7, 8, 9, 31]) (bs := []) (gs := []) (.cons rfl (.cons rfl (.cons rfl (.cons rfl (.cons rfl (.cons rfl .nil)))))) .nil .nil) (hfall8 _ (Option.some.inj h).symm)
        · replace h := cond_f hb11 h
          refine T_split (decide (x6.no = a1)) (fun hb16 => ?_) (fun hb16 => ?_)
          · replace h := cond_t hb16 h
            refine T_drawn hmix (by kernel_rfl) (by kernel_rfl) [some (.d (x6 : Member)), some (.d (t10 : Bool)), some (.d ((!t10) : Bool)), some (.d ((!t10) : Bool)), some (.p 6 0), some (.d (x6.no : Int)), some (.d (a1 : Int)), some (.d ((decide (x6.no = a1)) : Bool)), some (.d ((decide (x6.no = a1)) : Bool)), some (.d ((decide (x6.no = a1)) : Bool)), none, none, none, none, none, none, none, some (.d (true : Bool))] [(none, none, 6, (⟨(x6 : Member)⟩ : BV _))] [] [] rfl ⟨rfl, trivial⟩ trivial rfl rfl rfl ⟨?_, ?_, ?_, ?_, ?_, ?_, ?_, ?_, ?_, ?_, ?_, ?_, ?_, ?_, ?_, ?_, ?_, ?_, trivial⟩ (Z_le (le_k (ks := [0, 1, 7, 8, 9, 10, 11, 12, 13, 6, 5, 14, 15, 16, 17, 18, 19, 20, 21, 22, 23, 31]) (bs := [6]) (gs := []) (ti := []) (.cons rfl (.cons rfl (.cons rfl (.cons rfl (.cons rfl (.cons rfl (.cons rfl (.cons rfl (.cons rfl (.cons rfl (.cons rfl (.cons rfl (.cons rfl (.cons rfl (.cons rfl (.cons rfl (.cons rfl (.cons rfl (.cons rfl (.cons rfl (.cons rfl (.cons rfl .nil)))))))))))))))))))))) (.cons rfl .nil) .nil) ?_)
            · refine d_put rfl rfl offs_d rfl (fun L s' H Q k => ?_)
              refine TL_y (y_load (e_t (H.p rfl)) (H.b 0 rfl) Sub.self ty39) ?_
              exact TL_nil k
            · refine d_put rfl rfl offs_d rfl (fun L s' H Q k => ?_)
              refine TL_call (xs := [.d (x6 : Member)]) (node_may_ok ht10) ⟨(e_t (H.t 0 rfl)), trivial⟩ c71 ?_
              exact TL_nil k
            · refine d_put rfl rfl offs_d rfl (fun L s' H Q k => ?_)
              refine TL_y (y_not (e_t (H.t 1 rfl))) ?_
              exact TL_nil k
            · refine d_put rfl rfl offs_d rfl (fun L s' H Q k => ?_)
              refine TL_y (y_move (e_t (H.t 2 rfl))) ?_
              exact TL_nil k
            · refine d_put rfl rfl rfl rfl (fun L s' H Q k => ?_)
              refine TL_want (H.t 3 rfl) hb11 ?_
              refine TL_y (y_fieldAddr (e_t (H.p rfl)) fo39_0) ?_
              exact TL_nil k
            · refine d_put rfl rfl offs_d rfl (fun L s' H Q k => ?_)
              refine TL_want (H.t 3 rfl) hb11 ?_
              refine TL_y (y_load (e_t (H.t 4 rfl)) (H.b 0 rfl) s_Member_no ty3) ?_
              exact TL_nil k
            · refine d_put rfl rfl offs_d rfl (fun L s' H Q k => ?_)
              refine TL_want (H.t 3 rfl) hb11 ?_
              refine TL_y (y_move (e_t (H.p rfl))) ?_
              exact TL_nil k
            · refine d_put rfl rfl offs_d rfl (fun L s' H Q k => ?_)
              refine TL_want (H.t 3 rfl) hb11 ?_
              refine TL_y (y_eql (e_t (H.t 5 rfl)) (e_t (H.t 6 rfl))) ?_
              exact TL_nil k
            · refine d_put rfl rfl offs_d rfl (fun L s' H Q k => ?_)
              refine TL_y (y_pick_f (e_t (H.t 3 rfl)) hb11 (e_t (H.t 7 rfl))) ?_
              exact TL_nil k
            · refine d_put rfl rfl offs_d rfl (fun L s' H Q k => ?_)
              refine TL_y (y_move (e_t (H.t 8 rfl))) ?_
              exact TL_nil k
            · exact d_skip rfl rfl rfl (fun L s' H hf Q k => TL_skip0 (H.t 9 rfl) hb16 (TL_nil k) hf)
            · exact d_skip rfl rfl rfl (fun L s' H hf Q k => TL_skip0 (H.t 9 rfl) hb16 (TL_nil k) hf)
            · exact d_skip rfl rfl rfl (fun L s' H hf Q k => TL_skip0 (H.t 9 rfl) hb16 (TL_nil k) hf)
            · exact d_skip rfl rfl rfl (fun L s' H hf Q k => TL_skip0 (H.t 9 rfl) hb16 (TL_nil k) hf)
            · exact d_skip rfl rfl rfl (fun L s' H hf Q k => TL_skip0 (H.t 9 rfl) hb16 (TL_nil k) hf)
            · exact d_skip rfl rfl rfl (fun L s' H hf Q k => TL_skip0 (H.t 9 rfl) hb16 (TL_nil k) hf)
            · exact d_skip rfl rfl rfl (fun L s' H hf Q k => TL_skip0 (H.t 9 rfl) hb16 (TL_nil k) hf)
            · refine d_put rfl rfl offs_d rfl (fun L s' H Q k => ?_)
              refine TL_y (y_pick_t (e_t (H.t 9 rfl)) hb16 (e_b true)) ?_
              exact TL_nil k
            exact Z_le (le_k (ks := [0, 1, 7, 8, 9, 31]) (bs := []) (gs := []) (.cons rfl (.cons rfl (.cons rfl (.cons rfl (.cons rfl (.cons rfl .nil)))))) .nil .nil) (hfall8 _ (Option.some.inj h).symm)
          · replace h := cond_f hb16 h
            obtain ⟨t17, ht17, h⟩ := bind_some h
            obtain ⟨t18, ht18, h⟩ := bind_some h
            obtain ⟨t19, ht19, h⟩ := bind_some h
            refine T_drawn hmix (by kernel_rfl) (by kernel_rfl) [some (.d (x6 : Member)), some (.d (t10 : Bool)), some (.d ((!t10) : Bool)), some (.d ((!t10) : Bool)), some (.p 6 0), some (.d (x6.no : Int)), some (.d (a1 : Int)), some (.d ((decide (x6.no = a1)) : Bool)), some (.d ((decide (x6.no = a1)) : Bool)), some (.d ((decide (x6.no = a1)) : Bool)), some (.d (a0 : (List Member))), some (.d ((i2 : Int) : Int)), some (.d (t17 : (List Member))), some (.p 6 0), some (.d (x6.no : Int)), some (.d (t18 : (Fn1 Member Bool))), some (.d (t19 : Bool)), some (.d (t19 : Bool))] [(none, none, 6, (⟨(x6 : Member)⟩ : BV _))] [] [] rfl ⟨rfl, trivial⟩ trivial rfl rfl rfl ⟨?_, ?_, ?_, ?_, ?_, ?_, ?_, ?_, ?_, ?_, ?_, ?_, ?_, ?_, ?_, ?_, ?_, ?_, trivial⟩ (Z_le (le_k (ks := [0, 1, 7, 8, 9, 10, 11, 12, 13, 6, 5, 14, 15, 16, 17, 18, 19, 20, 21, 22, 23, 24, 25, 26, 27, 28, 29, 30, 31]) (bs := [6]) (gs := []) (ti := []) (.cons rfl (.cons rfl (.cons rfl (.cons rfl (.cons rfl (.cons rfl (.cons rfl (.cons rfl (.cons rfl (.cons rfl (.cons rfl (.cons rfl (.cons rfl (.cons rfl (.cons rfl (.cons rfl (.cons rfl (.cons rfl (.cons rfl (.cons rfl (.cons rfl (.cons rfl (.cons rfl (.cons rfl (.cons rfl (.cons rfl (.cons rfl (.cons rfl (.cons rfl .nil))))))))))))))))))))))))))))) (.cons rfl .nil) .nil) ?_)
            · refine d_put rfl rfl offs_d rfl (fun L s' H Q k => ?_)
              refine TL_y (y_load (e_t (H.p rfl)) (H.b 0 rfl) Sub.self ty39) ?_
              exact TL_nil k
            · refine d_put rfl rfl offs_d rfl (fun L s' H Q k => ?_)
              refine TL_call (xs := [.d (x6 : Member)]) (node_may_ok ht10) ⟨(e_t (H.t 0 rfl)), trivial⟩ c71 ?_
              exact TL_nil k
            · refine d_put rfl rfl offs_d rfl (fun L s' H Q k => ?_)
              refine TL_y (y_not (e_t (H.t 1 rfl))) ?_
              exact TL_nil k
            · refine d_put rfl rfl offs_d rfl (fun L s' H Q k => ?_)
              refine TL_y (y_move (e_t (H.t 2 rfl))) ?_
              exact TL_nil k
            · refine d_put rfl rfl rfl rfl (fun L s' H Q k => ?_)
              refine TL_want (H.t 3 rfl) hb11 ?_
              refine TL_y (y_fieldAddr (e_t (H.p rfl)) fo39_0) ?_
              exact TL_nil k
            · refine d_put rfl rfl offs_d rfl (fun L s' H Q k => ?_)
              refine TL_want (H.t 3 rfl) hb11 ?_
              refine TL_y (y_load (e_t (H.t 4 rfl)) (H.b 0 rfl) s_Member_no ty3) ?_
              exact TL_nil k
            · refine d_put rfl rfl offs_d rfl (fun L s' H Q k => ?_)
              refine TL_want (H.t 3 rfl) hb11 ?_
              refine TL_y (y_move (e_t (H.p rfl))) ?_
              exact TL_nil k
            · refine d_put rfl rfl offs_d rfl (fun L s' H Q k => ?_)
              refine TL_want (H.t 3 rfl) hb11 ?_
              refine TL_y (y_eql (e_t (H.t 5 rfl)) (e_t (H.t 6 rfl))) ?_
              exact TL_nil k
            · refine d_put rfl rfl offs_d rfl (fun L s' H Q k => ?_)
              refine TL_y (y_pick_f (e_t (H.t 3 rfl)) hb11 (e_t (H.t 7 rfl))) ?_
              exact TL_nil k
            · refine d_put rfl rfl offs_d rfl (fun L s' H Q k => ?_)
              refine TL_y (y_move (e_t (H.t 8 rfl))) ?_
              exact TL_nil k
            · refine d_put rfl rfl offs_d rfl (fun L s' H Q k => ?_)
              refine TL_want (H.t 9 rfl) hb16 ?_
              refine TL_y (y_move (e_t (H.p rfl))) ?_
              exact TL_nil k
            · refine d_put rfl rfl offs_d rfl (fun L s' H Q k => ?_)
              refine TL_want (H.t 9 rfl) hb16 ?_
              refine TL_y (y_move (e_t (H.p rfl))) ?_
              exact TL_nil k
            · refine d_put rfl rfl offs_d rfl (fun L s' H Q k => ?_)
              refine TL_want (H.t 9 rfl) hb16 ?_
              refine TL_y (y_slh (e_t (H.t 10 rfl)) (e_t (H.t 11 rfl)) ht17 tysl28) ?_
              exact TL_nil k
            · refine d_put rfl rfl rfl rfl (fun L s' H Q k => ?_)
              refine TL_want (H.t 9 rfl) hb16 ?_
              refine TL_y (y_fieldAddr (e_t (H.p rfl)) fo39_0) ?_
              exact TL_nil k
            · refine d_put rfl rfl offs_d rfl (fun L s' H Q k => ?_)
              refine TL_want (H.t 9 rfl) hb16 ?_
              refine TL_y (y_load (e_t (H.t 13 rfl)) (H.b 0 rfl) s_Member_no ty3) ?_
              exact TL_nil k
            · refine d_put rfl rfl offs_d rfl (fun L s' H Q k => ?_)
              refine TL_want (H.t 9 rfl) hb16 ?_
              refine TL_call (xs := [.d (x6.no : Int)]) (node_of_ok ht18) ⟨(e_t (H.t 14 rfl)), trivial⟩ c72 ?_
              exact TL_nil k
            · refine d_put rfl rfl offs_d rfl (fun L s' H Q k => ?_)
              refine TL_want (H.t 9 rfl) hb16 ?_
              refine TL_call (xs := [.d (t17 : (List Member)), .d (t18 : (Fn1 Member Bool))]) (sl_ContainsFunc_Member_ok ht19) ⟨(e_t (H.t 12 rfl)), (e_t (H.t 15 rfl)), trivial⟩ c55 ?_
              exact TL_nil k
            · refine d_put rfl rfl offs_d rfl (fun L s' H Q k => ?_)
              refine TL_y (y_pick_f (e_t (H.t 9 rfl)) hb16 (e_t (H.t 16 rfl))) ?_
              exact TL_nil k
            exact Z_le (le_k (ks := [0, 1, 7, 8, 9, 31]) (bs := []) (gs := []) (.cons rfl (.cons rfl (.cons rfl (.cons rfl (.cons rfl (.cons rfl .nil)))))) .nil .nil) (hfall8 _ (Option.some.inj h).symm)
end Go.Ph
set_option maxRecDepth 4000
set_option maxHeartbeats 4000000
namespace Go.Ph
open Go.Proofs
def node_Right (a0 : Node) : Option Bool := (node_none).bind fun t1 => ((bif (decide (a0.pred = t1)) then some true else (node_may a0.pred).bind fun t6 => some (t6 && (!decide (a0.pred.no = a0.self.no))))).bind fun t5 => (sl_Equal_Member a0.succs ([a0.self] : List Member)).bind fun t8 => ((bif ((decide (1 ≤ (a0.succs.length : Int))) && (decide ((a0.succs.length : Int) ≤ 4))) then ((bif t8 then some true else (node_unlike a0.succs a0.self.no).bind fun t19 => some t19)).bind fun t18 => some t18 else some false)).bind fun t15 => (node_may a0.self).bind fun t20 => ((bif (((t20 && t5) && t15) && (decide ((a0.fingers.length : Int) ≤ 16))) then (node_unlike a0.fingers a0.self.no).bind fun t27 => some t27 else some false)).bind fun t26 => some t26
theorem node_Right_ok {a0 : Node} {r : Bool} (h : node_Right a0 = some r) : Fn Try.prog 48 [.d a0] (.d r) := by
  refine Fn.of Try.func48 rfl fun w m => ?_
  unfold node_Right at h
  refine T_seq ?_
  refine T_region ?_
  refine TL_box (e_t rfl) ?_
  refine TL_y (y_assign (e_b false)) ?_
  refine TL_nil ?_
  refine z_nt ?_
  refine T_seq ?_
  refine T_region ?_
  refine TL_y (y_fieldAddr (e_t rfl) fo44_0) ?_
  refine TL_y (y_fieldAddr (e_t rfl) fo39_0) ?_
  refine TL_y (y_load (e_t rfl) rfl s_Node_self_no ty3) ?_
  refine TL_y (y_assign (e_t rfl)) ?_
  refine TL_nil ?_
  refine z_nt ?_
  refine T_seq ?_
  refine T_draw hmix (by kernel_rfl) ?_
  refine TQ_y (y_fieldAddr (e_t rfl) fo44_1) ?_
  refine TQ_y (y_load (e_t rfl) rfl s_Node_pred ty39) ?_
  obtain ⟨t1, ht1, h⟩ := bind_some h
  refine TQ_y (y_call (xs := []) (node_none_ok ht1) trivial c78) ?_
  refine TQ_y (y_eqlT (e_t rfl) (e_t rfl) eqT39 rfl eg39) ?_
  refine TQ_y (y_move (e_t rfl)) ?_
  obtain ⟨t5, ht5, h⟩ := bind_some h
  refine TQ_cut 11 25 (r := t5) (decide (a0.pred = t1)) ?_ (fun hb2 hk => ?_) (fun hb2 hk => ?_)
  rotate_left
  · obtain rfl := Option.some.inj (cond_t hb2 ht5)
    refine TQ_skip0 rfl hb2 ?_
    refine TQ_skip0 rfl hb2 ?_
    refine TQ_skip0 rfl hb2 ?_
    refine TQ_skips rfl hb2 ?_
    refine TQ_skipu rfl ?_
    refine TQ_skipu rfl ?_
    refine TQ_skipu rfl ?_
    refine TQ_skipu rfl ?_
    refine TQ_skipu rfl ?_
    refine TQ_skip0 rfl hb2 ?_
    refine TQ_y (y_pick_t (e_t rfl) hb2 (e_b true)) ?_
    exact TQ_fr hk (.cons (.refl _) rfl)
  · replace h := cond_f hb2 ht5
    refine TQ_want rfl hb2 ?_
    refine TQ_y (y_fieldAddr (e_t rfl) fo44_1) ?_
    refine TQ_want rfl hb2 ?_
    refine TQ_y (y_load (e_t rfl) rfl s_Node_pred ty39) ?_
    refine TQ_want rfl hb2 ?_
    obtain ⟨t6, ht6, h⟩ := bind_some h
    refine TQ_y (y_call (xs := [.d (a0.pred : Member)]) (node_may_ok ht6) ⟨(e_t rfl), trivial⟩ c71) ?_
    refine TQ_want rfl hb2 ?_
    refine TQ_y (y_move (e_t rfl)) ?_
    refine TQ_and 6 24 (b := t6) (c := (!decide (a0.pred.no = a0.self.no))) ?_ (fun hb7 hk => ?_) (fun hb7 hk => ?_)
    rotate_left
    · refine TQ_skip0 rfl hb7 ?_
      refine TQ_skip0 rfl hb7 ?_
      refine TQ_skip0 rfl hb7 ?_
      refine TQ_skip0 rfl hb7 ?_
      refine TQ_skip0 rfl hb7 ?_
      refine TQ_want rfl hb2 ?_
      refine TQ_y (y_pick_f (e_t rfl) hb7 (e_b false)) ?_
      exact TQ_fr hk (.refl _)
    · refine TQ_want rfl hb7 ?_
      refine TQ_y (y_fieldAddr (e_t rfl) fo44_1) ?_
      refine TQ_want rfl hb7 ?_
      refine TQ_y (y_fieldAddr (e_t rfl) fo39_0) ?_
      refine TQ_want rfl hb7 ?_
      refine TQ_y (y_load (e_t rfl) rfl s_Node_pred_no ty3) ?_
      refine TQ_want rfl hb7 ?_
      refine TQ_y (y_move (e_t rfl)) ?_
      refine TQ_want rfl hb7 ?_
      refine TQ_y (y_neq (e_t rfl) (e_t rfl)) ?_
      refine TQ_want rfl hb2 ?_
      refine TQ_y (y_pick_t (e_t rfl) hb7 (e_t rfl)) ?_
      exact TQ_fr hk (.cons (.cons (.cons (.cons (.cons (.refl _) rfl) rfl) rfl) rfl) rfl)
    obtain rfl := Option.some.inj h
    refine TQ_y (y_pick_f (e_t rfl) hb2 (e_t rfl)) ?_
    exact TQ_fr hk (.cons (.cons (.cons (.cons (.cons (.refl _) rfl) rfl) rfl) rfl) rfl)
  refine TQ_y (y_assign (e_t rfl)) ?_
  refine TQ_nil ?_
  refine z_nt ?_
  refine T_seq ?_
  refine T_region ?_
  refine TL_y (y_fieldAddr (e_t rfl) fo44_2) ?_
  refine TL_y (y_load (e_t rfl) rfl s_Node_succs ty28) ?_
  refine TL_y (y_fieldAddr (e_t rfl) fo44_0) ?_
  refine TL_y (y_load (e_t rfl) rfl s_Node_self ty39) ?_
  refine TL_buildSlice (xs := ([a0.self] : List Member)) (⟨rfl, (e_t rfl), trivial⟩) tyel28 rfl ?_
  obtain ⟨t8, ht8, h⟩ := bind_some h
  refine TL_g2d (q := 30) rfl rfl ?_
  refine TL_call (xs := [.d (a0.succs : (List Member)), .d (([a0.self] : List Member) : (List Member))]) (sl_Equal_Member_ok ht8) ⟨(e_t rfl), (e_t rfl), trivial⟩ c37 ?_
  refine TL_y (y_assign (e_t rfl)) ?_
  refine TL_nil ?_
  refine z_nt ?_
  refine T_seq ?_
  refine T_region ?_
  refine TL_y (y_fieldAddr (e_t rfl) fo44_2) ?_
  refine TL_y (y_load (e_t rfl) rfl s_Node_succs ty28) ?_
  refine TL_y (y_len (e_t rfl) (by rw [el28]; exact Try.underlying28)) ?_
  refine TL_y (y_geq (e_t rfl) (e_i (1))) ?_
  refine TL_y (y_move (e_t rfl)) ?_
  refine TL_and 5 41 (b := (decide (1 ≤ (a0.succs.length : Int)))) (c := (decide ((a0.succs.length : Int) ≤ 4))) ?_ (fun hb9 hk => ?_) (fun hb9 hk => ?_)
  rotate_left
  · refine TL_skip0 rfl hb9 ?_
    refine TL_skip0 rfl hb9 ?_
    refine TL_skip0 rfl hb9 ?_
    refine TL_skip0 rfl hb9 ?_
    refine TL_y (y_pick_f (e_t rfl) hb9 (e_b false)) ?_
    exact TL_fr hk (.refl _)
  · refine TL_want rfl hb9 ?_
    refine TL_y (y_fieldAddr (e_t rfl) fo44_2) ?_
    refine TL_want rfl hb9 ?_
    refine TL_y (y_load (e_t rfl) rfl s_Node_succs ty28) ?_
    refine TL_want rfl hb9 ?_
    refine TL_y (y_len (e_t rfl) (by rw [el28]; exact Try.underlying28)) ?_
    refine TL_want rfl hb9 ?_
    refine TL_y (y_leq (e_t rfl) (e_i (4))) ?_
    refine TL_y (y_pick_t (e_t rfl) hb9 (e_t rfl)) ?_
    exact TL_fr hk (.cons (.cons (.cons (.cons (.refl _) rfl) rfl) rfl) rfl)
  refine TL_y (y_move (e_t rfl)) ?_
  obtain ⟨t15, ht15, h⟩ := bind_some h
  refine TL_cut 8 50 (r := t15) ((decide (1 ≤ (a0.succs.length : Int))) && (decide ((a0.succs.length : Int) ≤ 4))) ?_ (fun hb10 hk => ?_) (fun hb10 hk => ?_)
  rotate_left
  · replace h := cond_t hb10 ht15
    refine TL_want rfl hb10 ?_
    refine TL_y (y_move (e_t rfl)) ?_
    refine TL_want rfl hb10 ?_
    refine TL_y (y_move (e_t rfl)) ?_
    obtain ⟨t18, ht18, h⟩ := bind_some h
    refine TL_cut 5 49 (r := t18) t8 ?_ (fun hb16 hk => ?_) (fun hb16 hk => ?_)
    rotate_left
    · obtain rfl := Option.some.inj (cond_t hb16 ht18)
      refine TL_skip0 rfl hb16 ?_
      refine TL_skip0 rfl hb16 ?_
      refine TL_skip0 rfl hb16 ?_
      refine TL_skip0 rfl hb16 ?_
      refine TL_want rfl hb10 ?_
      refine TL_y (y_pick_t (e_t rfl) hb16 (e_b true)) ?_
      exact TL_fr hk (.refl _)
    · replace h := cond_f hb16 ht18
      refine TL_want rfl hb16 ?_
      refine TL_y (y_fieldAddr (e_t rfl) fo44_2) ?_
      refine TL_want rfl hb16 ?_
      refine TL_y (y_load (e_t rfl) rfl s_Node_succs ty28) ?_
      refine TL_want rfl hb16 ?_
      refine TL_y (y_move (e_t rfl)) ?_
      refine TL_want rfl hb16 ?_
      obtain ⟨t19, ht19, h⟩ := bind_some h
      refine TL_call (xs := [.d (a0.succs : (List Member)), .d (a0.self.no : Int)]) (node_unlike_ok ht19) ⟨(e_t rfl), (e_t rfl), trivial⟩ c79 ?_
      obtain rfl := Option.some.inj h
      refine TL_want rfl hb10 ?_
      refine TL_y (y_pick_f (e_t rfl) hb16 (e_t rfl)) ?_
      exact TL_fr hk (.cons (.cons (.cons (.cons (.refl _) rfl) rfl) rfl) rfl)
    obtain rfl := Option.some.inj h
    refine TL_y (y_pick_t (e_t rfl) hb10 (e_t rfl)) ?_
    exact TL_fr hk (.cons (.cons (.cons (.refl _) rfl) rfl) rfl)
  · obtain rfl := Option.some.inj (cond_f hb10 ht15)
    refine TL_skip0 rfl hb10 ?_
    refine TL_skips rfl hb10 ?_
    refine TL_skipu rfl ?_
    refine TL_skipu rfl ?_
    refine TL_skipu rfl ?_
    refine TL_skipu rfl ?_
    refine TL_skip0 rfl hb10 ?_
    refine TL_y (y_pick_f (e_t rfl) hb10 (e_b false)) ?_
    exact TL_fr hk (.cons (.refl _) rfl)
  refine TL_y (y_assign (e_t rfl)) ?_
  refine TL_nil ?_
  refine z_nt ?_
  refine T_seq ?_
  refine T_region ?_
  refine TL_y (y_fieldAddr (e_t rfl) fo44_0) ?_
  refine TL_y (y_load (e_t rfl) rfl s_Node_self ty39) ?_
  obtain ⟨t20, ht20, h⟩ := bind_some h
  refine TL_call (xs := [.d (a0.self : Member)]) (node_may_ok ht20) ⟨(e_t rfl), trivial⟩ c71 ?_
  refine TL_y (y_move (e_t rfl)) ?_
  refine TL_and 2 56 (b := t20) (c := t5) ?_ (fun hb21 hk => ?_) (fun hb21 hk => ?_)
  rotate_left
  · refine TL_skip0 rfl hb21 ?_
    refine TL_y (y_pick_f (e_t rfl) hb21 (e_b false)) ?_
    exact TL_fr hk (.refl _)
  · refine TL_want rfl hb21 ?_
    refine TL_y (y_move (e_t rfl)) ?_
    refine TL_y (y_pick_t (e_t rfl) hb21 (e_t rfl)) ?_
    exact TL_fr hk (.cons (.refl _) rfl)
  refine TL_y (y_move (e_t rfl)) ?_
  refine TL_and 2 59 (b := (t20 && t5)) (c := t15) ?_ (fun hb22 hk => ?_) (fun hb22 hk => ?_)
  rotate_left
  · refine TL_skip0 rfl hb22 ?_
    refine TL_y (y_pick_f (e_t rfl) hb22 (e_b false)) ?_
    exact TL_fr hk (.refl _)
  · refine TL_want rfl hb22 ?_
    refine TL_y (y_move (e_t rfl)) ?_
    refine TL_y (y_pick_t (e_t rfl) hb22 (e_t rfl)) ?_
    exact TL_fr hk (.cons (.refl _) rfl)
  refine TL_y (y_move (e_t rfl)) ?_
  refine TL_and 5 65 (b := ((t20 && t5) && t15)) (c := (decide ((a0.fingers.length : Int) ≤ 16))) ?_ (fun hb23 hk => ?_) (fun hb23 hk => ?_)
  rotate_left
  · refine TL_skip0 rfl hb23 ?_
    refine TL_skip0 rfl hb23 ?_
    refine TL_skip0 rfl hb23 ?_
    refine TL_skip0 rfl hb23 ?_
    refine TL_y (y_pick_f (e_t rfl) hb23 (e_b false)) ?_
    exact TL_fr hk (.refl _)
  · refine TL_want rfl hb23 ?_
    refine TL_y (y_fieldAddr (e_t rfl) fo44_3) ?_
    refine TL_want rfl hb23 ?_
    refine TL_y (y_load (e_t rfl) rfl s_Node_fingers ty28) ?_
    refine TL_want rfl hb23 ?_
    refine TL_y (y_len (e_t rfl) (by rw [el28]; exact Try.underlying28)) ?_
    refine TL_want rfl hb23 ?_
    refine TL_y (y_leq (e_t rfl) (e_i (16))) ?_
    refine TL_y (y_pick_t (e_t rfl) hb23 (e_t rfl)) ?_
    exact TL_fr hk (.cons (.cons (.cons (.cons (.refl _) rfl) rfl) rfl) rfl)
  refine TL_y (y_move (e_t rfl)) ?_
  obtain ⟨t26, ht26, h⟩ := bind_some h
  refine TL_cut 5 71 (r := t26) (((t20 && t5) && t15) && (decide ((a0.fingers.length : Int) ≤ 16))) ?_ (fun hb24 hk => ?_) (fun hb24 hk => ?_)
  rotate_left
  · replace h := cond_t hb24 ht26
    refine TL_want rfl hb24 ?_
    refine TL_y (y_fieldAddr (e_t rfl) fo44_3) ?_
    refine TL_want rfl hb24 ?_
    refine TL_y (y_load (e_t rfl) rfl s_Node_fingers ty28) ?_
    refine TL_want rfl hb24 ?_
    refine TL_y (y_move (e_t rfl)) ?_
    refine TL_want rfl hb24 ?_
    obtain ⟨t27, ht27, h⟩ := bind_some h
    refine TL_call (xs := [.d (a0.fingers : (List Member)), .d (a0.self.no : Int)]) (node_unlike_ok ht27) ⟨(e_t rfl), (e_t rfl), trivial⟩ c79 ?_
    obtain rfl := Option.some.inj h
    refine TL_y (y_pick_t (e_t rfl) hb24 (e_t rfl)) ?_
    exact TL_fr hk (.cons (.cons (.cons (.cons (.refl _) rfl) rfl) rfl) rfl)
  · obtain rfl := Option.some.inj (cond_f hb24 ht26)
    refine TL_skip0 rfl hb24 ?_
    refine TL_skip0 rfl hb24 ?_
    refine TL_skip0 rfl hb24 ?_
    refine TL_skip0 rfl hb24 ?_
    refine TL_y (y_pick_f (e_t rfl) hb24 (e_b false)) ?_
    exact TL_fr hk (.refl _)
  refine TL_y (y_assign (e_t rfl)) ?_
  refine TL_nil ?_
  refine z_nt ?_
  refine T_ret ?_
  obtain rfl := Option.some.inj h
  exact Z_ret1 (fn := Try.f48) rfl (rv_t rfl)
def sl_Grow_Member (a1 : Int) : Option (List Member) := if 0 ≤ a1 ∧ a1 ≤ 1048576 then some [] else none
theorem sl_Grow_Member_ok {a1 : Int} {r : (List Member)} (h : sl_Grow_Member a1 = some r) : FnL Try.prog 110 [.x (.slice none 0 0), .d a1] ⟨[], [], []⟩ (.g 5000) ⟨[], [(5000, ⟨39, (r : List Member)⟩)], []⟩ [] [] := by
  refine FnL.ofO Try.func110 rfl fun w m V hl => ?_
  unfold sl_Grow_Member at h
  split at h
  case isFalse => cases h
  case isTrue hn =>
  obtain rfl := Option.some.inj h
  have e0 : w64 (0 - 0) = 0 := by decide
  have en : w64 (a1 - 0) = a1 := by rw [Int.sub_zero]; exact w64_eq (by omega)
  have hs : slh (List.replicate (w64 (a1 - w64 (0 - 0))).toNat Member.zero) 0 = some ([] : List Member) := by simp only [slh, List.take_zero, Int.toNat_zero]; rw [if_pos (by omega)]
  refine T_seq ?_
  refine T_region ?_
  refine TL_y (y_assign (e_nil (α := Member))) ?_
  refine TL_nil ?_
  refine z_nt ?_
  refine T_seq ?_
  refine T_seq ?_
  refine T_region ?_
  refine TL_y (y_move (e_t rfl)) ?_
  refine TL_y (y_lss (e_t rfl) (e_i 0)) ?_
  refine TL_nil ?_
  refine z_nt ?_
  refine T_cond rfl (fun hb => absurd (of_decide_eq_true hb) (by omega)) (fun _ => ?_)
  refine T_skip ?_
  refine z_nt ?_
  refine T_seq ?_
  refine T_seq ?_
  refine T_region ?_
  have hu : Program.underlying Try.prog 28 = some (.slice (Program.elem Try.prog 28)) := by rw [el28]; exact Try.underlying28
  refine TL_y (y_move (e_t rfl)) ?_
  refine TL_y (y_move (e_t rfl)) ?_
  refine TL_y (y_nil_cap (e_t rfl) hu) ?_
  refine TL_y (y_move (e_t rfl)) ?_
  refine TL_y (y_nil_len (e_t rfl) hu) ?_
  refine TL_y (y_sub (e_t rfl) (e_t rfl)) ?_
  refine TL_y (y_sub (e_t rfl) (e_t rfl)) ?_
  refine TL_y (y_assign (e_t rfl)) ?_
  refine TL_nil ?_
  refine z_nt ?_
  refine T_seq ?_
  refine T_region ?_
  refine TL_y (y_move (e_t rfl)) ?_
  refine TL_y (y_gtr (e_t rfl) (e_i 0)) ?_
  refine TL_nil ?_
  refine z_nt ?_
  refine T_cond rfl (fun hb => ?_) (fun hb => ?_)
  · have hp : 0 < w64 (a1 - w64 (0 - 0)) := of_decide_eq_true hb
    refine T_region ?_
    refine TL_y (y_move (e_t rfl)) ?_
    refine TL_y (y_move (e_t rfl)) ?_
    refine TL_y (y_nil_cap (e_t rfl) hu) ?_
    refine TL_y (y_nil_cut (e_t rfl) (e_t rfl) tysl28) ?_
    refine TL_y (y_move (e_t rfl)) ?_
    refine TL_zeros (α := Member) 5000 (e_t rfl) (e_t rfl) tyel28 Try.underlying3 z39 hp (by rw [e0, en]; exact hn.2) ?_
    refine TL_y (y_move (e_t rfl)) ?_
    refine TL_y (y_nil_len (e_t rfl) hu) ?_
    refine TL_rcut (e_t rfl) (e_t rfl) rfl hs tysl28 ?_
    refine TL_y (y_assign (e_t rfl)) ?_
    refine TL_nil ?_
    refine z_nt ?_
    refine T_seq ?_
    refine T_region ?_
    refine TL_y (y_move (e_t rfl)) ?_
    refine TL_y (y_assign (e_t rfl)) ?_
    refine TL_nil ?_
    refine z_nt ?_
    refine T_ret ?_
    exact zo_ret1 (n := _) hl (fn := Try.f110) rfl rfl rfl
  · refine T_skip ?_
    refine z_nt ?_
    refine T_seq ?_
    refine T_region ?_
    refine TL_mvnil (α := Member) 39 5000 (e_t rfl) ?_
    refine TL_y (y_assign (e_t rfl)) ?_
    refine TL_nil ?_
    refine z_nt ?_
    refine T_ret ?_
    exact zo_ret1 (n := _) hl (fn := Try.f110) rfl rfl rfl
def sl_Concat_Member_l1 : List (List Member) → Nat → (List Member) → Option ((List Member))
  | [], _, s12 => some s12
  | x17 :: xsx17, i13, s12 => (app s12 x17).bind fun t18 => sl_Concat_Member_l1 xsx17 (i13 + 1) t18
def sl_Concat_Member_l0 : List (List Member) → Nat → Int → Option (Int)
  | [], _, s1 => some s1
  | x6 :: xsx6, i2, s1 => (((bif (decide ((w64 (s1 + (x6.length : Int))) < 0)) then none else some (w64 (s1 + (x6.length : Int)))) : Option (Int)).bind fun s7 => sl_Concat_Member_l0 xsx6 (i2 + 1) s7)
def sl_Concat_Member (a0 : (List (List Member))) : Option (List Member) := ((sl_Concat_Member_l0 a0 0 0).bind fun s1 => (sl_Grow_Member s1).bind fun t11 => ((sl_Concat_Member_l1 a0 0 t11).bind fun s12 => some s12))
theorem sl_Concat_Member_ok {a0 : (List (List Member))} {r : (List Member)} (h : sl_Concat_Member a0 = some r) : Fn Try.prog 81 [.d a0] (.d r) := by
  refine Fn.of Try.func81 rfl fun w m => ?_
  unfold sl_Concat_Member at h
  refine T_seq ?_
  refine T_region ?_
  refine TL_y (y_assign (e_nil (α := Member))) ?_
  refine TL_nil ?_
  refine z_nt ?_
  refine T_seq ?_
  refine T_region ?_
  refine TL_y (y_assign (e_i (0))) ?_
  refine TL_nil ?_
  refine z_nt ?_
  refine T_seq ?_
  refine T_seq ?_
  refine T_region ?_
  refine TL_y (y_move (e_t rfl)) ?_
  refine TL_y (y_len (e_t rfl) (by rw [el133]; exact Try.underlying133)) ?_
  refine TL_y (y_move (e_i (0))) ?_
  refine TL_nil ?_
  refine z_nt ?_
  obtain ⟨o3, ho3, h⟩ := bind_some h
  refine T_loopin (S := fun (s1 : Int) => ⟨[(0, .d (a0 : (List (List Member)))), (3, .d (s1 : Int))], ⟨[], [], []⟩⟩) (fun z => z = o3) (fun s1 e => ?_) (fun hfall4 => ?_)
  · subst e
    refine z_nt ?_
    refine T_seq ?_
    refine T_region ?_
    refine TL_y (y_move (e_t rfl)) ?_
    obtain ⟨t11, ht11, h⟩ := bind_some h
    have hct11 : FnL Try.prog 110 [.x (.slice none 0 0), .d (s1 : Int)] ⟨[], [], []⟩ (.g 5024) ⟨[], [(5024, ⟨39, (t11 : List Member)⟩)], []⟩ [] [] := (sl_Grow_Member_ok ht11).sw 3000 3000 5000 5024
    refine TL_callL hct11 ⟨(e_x (.slice none 0 0)), (e_t rfl), trivial⟩ c110 ⟨[], [], []⟩ [(0, .d (a0 : (List (List Member)))), (3, .d (s1 : Int)), (23, .d (s1 : Int))] (le_k (ks := []) (bs := []) (gs := []) .nil .nil .nil) (le_k (ks := [0, 3, 23]) (bs := []) (gs := []) (.cons rfl (.cons rfl (.cons rfl .nil))) .nil .nil) (TL_le (s' := ⟨[(0, .d (a0 : (List (List Member)))), (3, .d (s1 : Int)), (23, .d (s1 : Int)), (24, .g 5024)], ⟨[], [(5024, ⟨39, (t11 : List Member)⟩)], []⟩⟩) (le_k (ks := [0, 3, 23, 24]) (bs := []) (gs := [5024]) (.cons rfl (.cons rfl (.cons rfl (.cons rfl .nil)))) .nil (.cons rfl .nil)) ?_) trivial ⟨.inr rfl, trivial⟩
    refine TL_y (y_assign (e_t rfl)) ?_
    refine TL_nil ?_
    refine z_nt ?_
    refine T_seq ?_
    refine T_seq ?_
    refine T_region ?_
    refine TL_y (y_move (e_t rfl)) ?_
    refine TL_y (y_len (e_t rfl) (by rw [el133]; exact Try.underlying133)) ?_
    refine TL_y (y_move (e_i (0))) ?_
    refine TL_nil ?_
    refine z_nt ?_
    obtain ⟨o14, ho14, h⟩ := bind_some h
    refine T_loopin (S := fun (s12 : (List Member)) => ⟨[(6, .g 5024)], ⟨[], [(5024, ⟨39, (s12 : List Member)⟩)], []⟩⟩) (fun z => z = o14) (fun s12 e => ?_) (fun hfall15 => ?_)
    · subst e
      refine z_nt ?_
      refine T_seq ?_
      refine T_region ?_
      refine TL_y (y_move (e_t rfl)) ?_
      refine TL_y (y_assign (e_t rfl)) ?_
      refine TL_nil ?_
      refine z_nt ?_
      refine T_ret ?_
      obtain rfl := Option.some.inj h
      refine Z_pub (q := 2) (nm := 5024) ⟨[], ⟨[], [], []⟩⟩ rfl rfl (le_k (ks := []) (bs := []) (gs := []) .nil .nil .nil) rfl ?_
      exact Z_ret1 (fn := Try.f81) rfl (rv_t rfl)
    · clear h
      refine TW_le (le_k (ks := [6, 25, 26, 27]) (bs := []) (gs := [5024]) (.cons rfl (.cons rfl (.cons rfl (.cons rfl .nil)))) .nil (.cons rfl .nil)) (range_ind a0 (fun (i13 : Nat) (s12 : (List Member)) => ⟨[(6, .g 5024), (25, .d (a0 : (List (List Member)))), (26, .d ((a0.length : Int) : Int)), (27, .d ((i13 : Int) : Int))], ⟨[], [(5024, ⟨39, (s12 : List Member)⟩)], []⟩⟩) (fun xs i s => sl_Concat_Member_l1 xs i s = some o14) ?_ ?_ a0 0 t11 rfl ho14)
      · intro i s hi h
        refine TW_round (T_seq (T_region ?_))
        refine TL_y (y_lss (e_t rfl) (e_t rfl)) (TL_nil (z_nt (T_seq (T_cond rfl (fun hb => (dec_lt hi hb).elim) (fun _ => T_exit ?_)))))
        refine z_et ?_
        refine z_et ?_
        refine z_ei ?_
        exact Z_le (le_k (ks := [6]) (bs := []) (gs := [5024]) (.cons rfl .nil) .nil (.cons rfl .nil)) (hfall15 _ (Option.some.inj h))
      · intro x17 xsx17 i13 s12 hltx17 hx17 ih h
        replace h : ((app s12 x17).bind fun t18 => sl_Concat_Member_l1 xsx17 (i13 + 1) t18) = some o14 := h
        refine TW_round ?_
        refine T_seq (T_region ?_)
        refine TL_y (y_lss (e_t rfl) (e_t rfl)) (TL_nil (z_nt (T_seq (T_cond rfl (fun _ => ?_) (fun hb => (dec_ge hltx17 hb).elim)))))
        refine T_skip ?_
        refine z_nt ?_
        refine T_seq ?_
        refine T_block ?_
        refine T_seq ?_
        refine T_region ?_
        refine TL_y (y_indexNat (e_t rfl) (e_t rfl) hx17 tysl133) ?_
        refine TL_y (y_load_ptr (e_t rfl) ty28) ?_
        refine TL_y (y_assign (e_t rfl)) ?_
        refine TL_nil ?_
        refine z_nt ?_
        refine T_region ?_
        refine TL_y (y_move (e_t rfl)) ?_
        refine TL_y (y_move (e_t rfl)) ?_
        obtain ⟨t18, ht18, h⟩ := bind_some h
        refine TL_appendC (e_t rfl) rfl (e_t rfl) ht18 tyel28 ?_
        refine TL_y (y_assign (e_t rfl)) ?_
        refine TL_nil ?_
        refine z_nb ?_
        refine z_nt ?_
        refine T_region ?_
        refine TL_y (y_inc (q := 25) (e_t rfl) rfl hltx17) ?_
        refine TL_y (y_move (e_t rfl)) ?_
        refine TL_nil ?_
        refine z_nl ?_
        exact TW_le (le_k (ks := [6, 25, 26, 27]) (bs := []) (gs := [5024]) (.cons rfl (.cons rfl (.cons rfl (.cons rfl .nil)))) .nil (.cons rfl .nil)) (ih _ h)
  · clear h
    refine TW_le (le_k (ks := [0, 3, 9, 10, 11]) (bs := []) (gs := []) (.cons rfl (.cons rfl (.cons rfl (.cons rfl (.cons rfl .nil))))) .nil .nil) (range_ind a0 (fun (i2 : Nat) (s1 : Int) => ⟨[(0, .d (a0 : (List (List Member)))), (3, .d (s1 : Int)), (9, .d (a0 : (List (List Member)))), (10, .d ((a0.length : Int) : Int)), (11, .d ((i2 : Int) : Int))], ⟨[], [], []⟩⟩) (fun xs i s => sl_Concat_Member_l0 xs i s = some o3) ?_ ?_ a0 0 0 rfl ho3)
    · intro i s hi h
      refine TW_round (T_seq (T_region ?_))
      refine TL_y (y_lss (e_t rfl) (e_t rfl)) (TL_nil (z_nt (T_seq (T_cond rfl (fun hb => (dec_lt hi hb).elim) (fun _ => T_exit ?_)))))
      refine z_et ?_
      refine z_et ?_
      refine z_ei ?_
      exact Z_le (le_k (ks := [0, 3]) (bs := []) (gs := []) (.cons rfl (.cons rfl .nil)) .nil .nil) (hfall4 _ (Option.some.inj h))
    · intro x6 xsx6 i2 s1 hltx6 hx6 ih h
      replace h : ((((bif (decide ((w64 (s1 + (x6.length : Int))) < 0)) then none else some (w64 (s1 + (x6.length : Int)))) : Option (Int)).bind fun s7 => sl_Concat_Member_l0 xsx6 (i2 + 1) s7)) = some o3 := h
      refine TW_round ?_
      refine T_seq (T_region ?_)
      refine TL_y (y_lss (e_t rfl) (e_t rfl)) (TL_nil (z_nt (T_seq (T_cond rfl (fun _ => ?_) (fun hb => (dec_ge hltx6 hb).elim)))))
      refine T_skip ?_
      refine z_nt ?_
      obtain ⟨s7, hs7, h⟩ := bind_some h
      refine T_join (S := fun (s7 : Int) => ⟨[(0, .d (a0 : (List (List Member)))), (3, .d (s7 : Int)), (9, .d (a0 : (List (List Member)))), (10, .d ((a0.length : Int) : Int)), (11, .d ((i2 : Int) : Int))], ⟨[], [], []⟩⟩) (fun z => s7 = z) (fun z e => ?_) (fun hfall8 => ?_)
      · subst e
        refine T_region ?_
        refine TL_y (y_inc (q := 0) (e_t rfl) rfl hltx6) ?_
        refine TL_y (y_move (e_t rfl)) ?_
        refine TL_nil ?_
        refine z_nl ?_
        exact TW_le (le_k (ks := [0, 3, 9, 10, 11]) (bs := []) (gs := []) (.cons rfl (.cons rfl (.cons rfl (.cons rfl (.cons rfl .nil))))) .nil .nil) (ih _ h)
      · clear h
        have h := hs7
        refine T_block ?_
        refine T_seq ?_
        refine T_region ?_
        refine TL_y (y_indexNat (e_t rfl) (e_t rfl) hx6 tysl133) ?_
        refine TL_y (y_load_ptr (e_t rfl) ty28) ?_
        refine TL_y (y_assign (e_t rfl)) ?_
        refine TL_nil ?_
        refine z_nt ?_
        refine T_seq ?_
        refine T_region ?_
        refine TL_y (y_move (e_t rfl)) ?_
        refine TL_y (y_move (e_t rfl)) ?_
        refine TL_y (y_len (e_t rfl) (by rw [el28]; exact Try.underlying28)) ?_
        refine TL_y (y_add (e_t rfl) (e_t rfl)) ?_
        refine TL_y (y_assign (e_t rfl)) ?_
        refine TL_nil ?_
        refine z_nt ?_
        refine T_seq ?_
        refine T_region ?_
        refine TL_y (y_move (e_t rfl)) ?_
        refine TL_y (y_lss (e_t rfl) (e_i (0))) ?_
        refine TL_nil ?_
        refine z_nt ?_
        refine T_cond rfl (fun hb10 => ?_) (fun hb10 => ?_)
        · replace h := cond_t hb10 h
          refine T_region ?_
          cases h
        · replace h := cond_f hb10 h
          refine T_skip ?_
          refine z_nb ?_
          exact Z_le (le_k (ks := [0, 3, 9, 10, 11]) (bs := []) (gs := []) (.cons rfl (.cons rfl (.cons rfl (.cons rfl (.cons rfl .nil))))) .nil .nil) (hfall8 _ (Option.some.inj h).symm)
def sl_Values_Member_1_l0 : List Member → Nat → Unit → Option (List Member × Bool)
  | [], _, _ => some ([], true)
  | x3 :: xsx3, i2, _ => (sl_Values_Member_1_l0 xsx3 (i2 + 1) ()).bind fun out6 => some (x3 :: out6.1, out6.2)
def sl_Values_Member_1_sq (a1 : (List Member)) : Option (Sq Member) := (sl_Values_Member_1_l0 a1 0 ()).bind fun r => some ⟨r.1, r.2⟩
theorem sl_Values_Member_1_ok {a1 : (List Member)} {q : (Sq Member)} (h : sl_Values_Member_1_sq a1 = some q) : ∀ (m0 : Snap) (vs : Array Value), AllHold (P := Try.prog) m0 vs.toList [.d (⟨a1⟩ : Ptr (List Member))] → SeqOk Try.prog (args1 (P := Try.prog)) 109 vs m0 q.xs q.fin := by
  intro m0 vs hh
  unfold sl_Values_Member_1_sq at h
  obtain ⟨⟨ys, fin⟩, h1, h2⟩ := bind_some h
  obtain rfl := Option.some.inj h2
  change SeqOk _ _ _ _ _ ys fin
  clear h h2
  refine SeqOk.of Try.func109 rfl hh fun l J Jx hJ hJx hY hfin w m => ?_
  have h := h1
  have hp : ys = [] ++ ys := rfl
  clear h1
  refine T_seq ?_
  refine T_region ?_
  refine TL_y (y_load_ptr (e_t rfl) ty28) ?_
  refine TL_y (y_len (e_t rfl) (by rw [el28]; exact Try.underlying28)) ?_
  refine TL_y (y_move (e_i (0))) ?_
  refine TL_nil ?_
  refine z_nt ?_
  refine T_block (T_loop ?_)
  refine TW_le (le_k (ks := [0, 5, 6, 7]) (bs := []) (gs := []) (.cons rfl (.cons rfl (.cons rfl (.cons rfl .nil)))) .nil .nil) (it_range a1 (fun (i2 : Nat) (_ : Unit) => ⟨[(0, .x (.func (.yield l) #[] #[])), (5, .d (a1 : (List Member))), (6, .d ((a1.length : Int) : Int)), (7, .d ((i2 : Int) : Int))], ⟨[], [], []⟩⟩) hJ (fun xs i s out => sl_Values_Member_1_l0 xs i s = some (out, fin)) ?_ ?_ a1 _ _ 0 () _ rfl hp h)
  · clear h hp
    intro m0 pre i2 s1 out hi hp h
    replace h : (some ([], true)) = some (out, fin) := h
    refine TW_round (T_seq (T_region ?_))
    refine TL_y (y_lss (e_t rfl) (e_t rfl)) (TL_nil (z_nt (T_seq (T_cond rfl (fun hb => (dec_lt hi hb).elim) (fun _ => T_exit ?_)))))
    refine z_et ?_
    refine z_et ?_
    refine z_ei ?_
    exact it_end h hp (fn := Try.f109) rfl
  · clear h hp
    intro m0 pre x3 xsx3 i2 s1 out hltx3 hx3 ih hp h
    replace h : ((sl_Values_Member_1_l0 xsx3 (i2 + 1) ()).bind fun out6 => some (x3 :: out6.1, out6.2)) = some (out, fin) := h
    refine TW_round ?_
    refine T_seq (T_region ?_)
    refine TL_y (y_lss (e_t rfl) (e_t rfl)) (TL_nil (z_nt (T_seq (T_cond rfl (fun _ => ?_) (fun hb => (dec_ge hltx3 hb).elim)))))
    refine T_skip ?_
    refine z_nt ?_
    refine T_seq ?_
    refine T_block ?_
    refine T_seq ?_
    refine T_region ?_
    refine TL_y (y_indexNat (e_t rfl) (e_t rfl) hx3 tysl28) ?_
    refine TL_y (y_load_ptr (e_t rfl) ty39) ?_
    refine TL_alloc z39 ?_
    refine TL_store (e_t rfl) rfl (e_t rfl) Put.self ty39 (by decide) ?_
    refine TL_nil ?_
    refine z_nt ?_
    refine T_seq ?_
    refine T_region ?_
    refine TL_y (y_move (e_t rfl)) ?_
    refine TL_y (y_load (e_t rfl) rfl Sub.self ty39) ?_
    obtain ⟨⟨out6, fin2⟩, h2, h0⟩ := bind_some h
    obtain ⟨e0, hp1, hp2⟩ := it_step h0 hp
    subst e0
    refine TL_yield1 hY hp1 hJ hJx (e_t rfl) (e_t rfl) (fun m1 => ?_) (fun m1 => ?_)
    · clear h
      have h := h2
      have hp := hp2
      refine TL_y (y_not (e_t rfl)) ?_
      refine TL_nil ?_
      refine z_nt ?_
      refine T_cond rfl (fun hb => absurd hb (by decide)) (fun hb => ?_)
      refine T_skip ?_
      refine z_nb ?_
      refine z_nt ?_
      refine T_region ?_
      refine TL_y (y_inc (q := 5) (e_t rfl) rfl hltx3) ?_
      refine TL_y (y_move (e_t rfl)) ?_
      refine TL_nil ?_
      refine z_nl ?_
      exact TW_le (le_k (ks := [0, 5, 6, 7]) (bs := []) (gs := []) (.cons rfl (.cons rfl (.cons rfl (.cons rfl .nil)))) .nil .nil) (ih _ _ _ _ hp h)
    · refine TL_y (y_not (e_t rfl)) ?_
      refine TL_nil ?_
      refine z_nt ?_
      refine T_cond rfl (fun hb => ?_) (fun hb => absurd hb (by decide))
      refine T_ret ?_
      refine z_rb ?_
      refine z_rt ?_
      refine z_rt ?_
      refine z_rb ?_
      exact Z_seqx (fn := Try.f109) rfl
def sl_Values_Member (a0 : (List Member)) : Option (Sq Member) := (sl_Values_Member_1_sq a0).bind fun t1 => some t1
theorem sl_Values_Member_ok {a0 : (List Member)} {r : (Sq Member)} (h : sl_Values_Member a0 = some r) : Fn Try.prog 80 [.d a0] (.d r) := by
  refine Fn.of Try.func80 rfl fun w m => ?_
  unfold sl_Values_Member at h
  refine T_seq ?_
  refine T_region ?_
  refine TL_box (e_t rfl) ?_
  refine TL_y (y_assign (e_x .nilFunc)) ?_
  refine TL_nil ?_
  refine z_nt ?_
  refine T_seq ?_
  refine T_region ?_
  obtain ⟨t1, ht1, h⟩ := bind_some h
  refine TL_le (le_k (ks := [1, 0, 2]) (bs := [1]) (gs := []) (ti := []) (.cons rfl (.cons rfl (.cons rfl .nil))) (.cons rfl .nil) .nil) (TL_freeze ?_)
  refine TL_y (y_makeSeq (caps := [.d (⟨a0⟩ : Ptr (List Member))]) (sl_Values_Member_1_ok ht1) ⟨(e_t rfl), trivial⟩ c109) ?_
  refine TL_y (y_assign (e_t rfl)) ?_
  refine TL_nil ?_
  refine z_nt ?_
  refine T_ret ?_
  obtain rfl := Option.some.inj h
  exact Z_ret1 (fn := Try.f80) rfl (rv_t rfl)
def chord_known (a0 : Node) : Option (Sq Member) := (sl_Concat_Member ([([a0.pred] : List Member), a0.succs, a0.fingers] : List (List Member))).bind fun t1 => (sl_Values_Member t1).bind fun t2 => some t2
theorem chord_known_ok {a0 : Node} {r : (Sq Member)} (h : chord_known a0 = some r) : Fn Try.prog 49 [.d a0] (.d r) := by
  refine Fn.of Try.func49 rfl fun w m => ?_
  unfold chord_known at h
  refine T_seq ?_
  refine T_region ?_
  refine TL_box (e_t rfl) ?_
  refine TL_y (y_assign (e_x .nilFunc)) ?_
  refine TL_nil ?_
  refine z_nt ?_
  refine T_seq ?_
  refine T_region ?_
  refine TL_y (y_fieldAddr (e_t rfl) fo44_1) ?_
  refine TL_y (y_load (e_t rfl) rfl s_Node_pred ty39) ?_
  refine TL_buildSlice (xs := ([a0.pred] : List Member)) (⟨rfl, (e_t rfl), trivial⟩) tyel28 rfl ?_
  refine TL_y (y_fieldAddr (e_t rfl) fo44_2) ?_
  refine TL_y (y_load (e_t rfl) rfl s_Node_succs ty28) ?_
  refine TL_y (y_fieldAddr (e_t rfl) fo44_3) ?_
  refine TL_y (y_load (e_t rfl) rfl s_Node_fingers ty28) ?_
  refine TL_g2d (q := 5) rfl rfl ?_
  refine TL_buildSlice (xs := ([([a0.pred] : List Member), a0.succs, a0.fingers] : List (List Member))) (⟨rfl, (e_t rfl), ⟨rfl, (e_t rfl), ⟨rfl, (e_t rfl), trivial⟩⟩⟩) tyel133 rfl ?_
  obtain ⟨t1, ht1, h⟩ := bind_some h
  refine TL_g2d (q := 10) rfl rfl ?_
  refine TL_call (xs := [.d (([([a0.pred] : List Member), a0.succs, a0.fingers] : List (List Member)) : (List (List Member)))]) (sl_Concat_Member_ok ht1) ⟨(e_t rfl), trivial⟩ c81 ?_
  obtain ⟨t2, ht2, h⟩ := bind_some h
  refine TL_call (xs := [.d (t1 : (List Member))]) (sl_Values_Member_ok ht2) ⟨(e_t rfl), trivial⟩ c80 ?_
  refine TL_y (y_assign (e_t rfl)) ?_
  refine TL_nil ?_
  refine z_nt ?_
  refine T_ret ?_
  obtain rfl := Option.some.inj h
  exact Z_ret1 (fn := Try.f49) rfl (rv_t rfl)
def chord_self_l0 (a1 : Int) : List Node → Nat → Member → Option (Lo (Member × Bool) (Member))
  | [], _, s1 => some (.fall s1)
  | x6 :: xsx6, i2, s1 => (bif (decide (x6.self.no = a1)) then some (.ret (x6.self, true)) else chord_self_l0 a1 xsx6 (i2 + 1) s1)
def chord_self (a0 : Overlay) (a1 : Int) : Option (Member × Bool) := ((chord_self_l0 a1 a0.nodes 0 Member.zero).bind fun o3 => match o3 with | .ret q => some q | .fall _ => some ((Member.zero : Member), false))
theorem chord_self_ok {a0 : Overlay} {a1 : Int} {r : (Member × Bool)} (h : chord_self a0 a1 = some r) : Fn Try.prog 44 [.d a0, .d a1] (.t2 (.d r.1) (.d r.2)) := by
  refine Fn.of Try.func44 rfl fun w m => ?_
  unfold chord_self at h
  refine T_seq ?_
  refine T_region ?_
  refine TL_box (e_t rfl) ?_
  refine TL_alloc z39 ?_
  refine TL_y (y_assign (e_b false)) ?_
  refine TL_nil ?_
  refine z_nt ?_
  refine T_seq ?_
  refine T_seq ?_
  refine T_region ?_
  refine TL_y (y_fieldAddr (e_t rfl) fo24_0) ?_
  refine TL_y (y_load (e_t rfl) rfl s_Overlay_nodes ty22) ?_
  refine TL_y (y_len (e_t rfl) (by rw [el22]; exact Try.underlying22)) ?_
  refine TL_y (y_move (e_i (0))) ?_
  refine TL_nil ?_
  refine z_nt ?_
  obtain ⟨o3, ho3, h⟩ := bind_some h
  refine T_loopin (S := fun (s1 : Member) => ⟨[(4, .p 4 0)], ⟨[(4, ⟨(s1 : Member)⟩)], [], []⟩⟩) (fun s1 => o3 = .fall s1) (fun s1 e => ?_) (fun hfall4 => ?_)
  · subst e
    dsimp only at h
    refine z_nt ?_
    refine T_seq ?_
    refine T_region ?_
    refine TL_y (y_build z39 pl39 (b_nil) rfl) ?_
    refine TL_store (e_t rfl) rfl (e_t rfl) Put.self ty39 (by decide) ?_
    refine TL_y (y_assign (e_b false)) ?_
    refine TL_nil ?_
    refine z_nt ?_
    refine T_ret ?_
    obtain rfl := Option.some.inj h
    exact Z_ret2 (fn := Try.f44) rfl (rv_c rfl rfl ty39) (rv_t rfl)
  · have hret5 : ∀ q, o3 = .ret q → q = r := fun q e => by
      subst e
      dsimp only at h
      exact Option.some.inj h
    clear h
    refine TW_le (le_k (ks := [1, 4, 9, 10, 11]) (bs := [4]) (gs := []) (.cons rfl (.cons rfl (.cons rfl (.cons rfl (.cons rfl .nil))))) (.cons rfl .nil) .nil) (range_ind a0.nodes (fun (i2 : Nat) (s1 : Member) => ⟨[(1, .d (a1 : Int)), (4, .p 4 0), (9, .d (a0.nodes : (List Node))), (10, .d ((a0.nodes.length : Int) : Int)), (11, .d ((i2 : Int) : Int))], ⟨[(4, ⟨(s1 : Member)⟩)], [], []⟩⟩) (fun xs i s => chord_self_l0 a1 xs i s = some o3) ?_ ?_ a0.nodes 0 Member.zero rfl ho3)
    · intro i s hi h
      refine TW_round (T_seq (T_region ?_))
      refine TL_y (y_lss (e_t rfl) (e_t rfl)) (TL_nil (z_nt (T_seq (T_cond rfl (fun hb => (dec_lt hi hb).elim) (fun _ => T_exit ?_)))))
      refine z_et ?_
      refine z_et ?_
      refine z_ei ?_
      exact Z_le (le_k (ks := [4]) (bs := [4]) (gs := []) (.cons rfl .nil) (.cons rfl .nil) .nil) (hfall4 _ (Option.some.inj h).symm)
    · intro x6 xsx6 i2 s1 hltx6 hx6 ih h
      replace h : ((bif (decide (x6.self.no = a1)) then some (.ret (x6.self, true)) else chord_self_l0 a1 xsx6 (i2 + 1) s1)) = some o3 := h
      refine TW_round ?_
      refine T_seq (T_region ?_)
      refine TL_y (y_lss (e_t rfl) (e_t rfl)) (TL_nil (z_nt (T_seq (T_cond rfl (fun _ => ?_) (fun hb => (dec_ge hltx6 hb).elim)))))
      refine T_skip ?_
      refine z_nt ?_
      refine T_seq ?_
      refine T_block ?_
      refine T_seq ?_
      refine T_region ?_
      refine TL_y (y_indexNat (e_t rfl) (e_t rfl) hx6 tysl22) ?_
      refine TL_y (y_load_ptr (e_t rfl) ty44) ?_
      refine TL_alloc z44 ?_
      refine TL_store (e_t rfl) rfl (e_t rfl) Put.self ty44 (by decide) ?_
      refine TL_nil ?_
      refine z_nt ?_
      refine T_seq ?_
      refine T_region ?_
      refine TL_y (y_fieldAddr (e_t rfl) fo44_0) ?_
      refine TL_y (y_fieldAddr (e_t rfl) fo39_0) ?_
      refine TL_y (y_load (e_t rfl) rfl s_Node_self_no ty3) ?_
      refine TL_y (y_move (e_t rfl)) ?_
      refine TL_y (y_eql (e_t rfl) (e_t rfl)) ?_
      refine TL_nil ?_
      refine z_nt ?_
      refine T_cond rfl (fun hb7 => ?_) (fun hb7 => ?_)
      · replace h := cond_t hb7 h
        refine T_seq ?_
        refine T_region ?_
        refine TL_y (y_fieldAddr (e_t rfl) fo44_0) ?_
        refine TL_y (y_load (e_t rfl) rfl s_Node_self ty39) ?_
        refine TL_store (e_t rfl) rfl (e_t rfl) Put.self ty39 (by decide) ?_
        refine TL_y (y_assign (e_b true)) ?_
        refine TL_nil ?_
        refine z_nt ?_
        refine T_ret ?_
        refine z_rb ?_
        refine z_rt ?_
        refine z_rt ?_
        refine z_rb ?_
        refine z_rt ?_
        obtain rfl := hret5 _ (Option.some.inj h).symm
        exact Z_ret2 (fn := Try.f44) rfl (rv_c rfl rfl ty39) (rv_t rfl)
      · replace h := cond_f hb7 h
        refine T_skip ?_
        refine z_nb ?_
        refine z_nt ?_
        refine T_region ?_
        refine TL_y (y_inc (q := 9) (e_t rfl) rfl hltx6) ?_
        refine TL_y (y_move (e_t rfl)) ?_
        refine TL_nil ?_
        refine z_nl ?_
        exact TW_le (le_k (ks := [1, 4, 9, 10, 11]) (bs := [4]) (gs := []) (.cons rfl (.cons rfl (.cons rfl (.cons rfl (.cons rfl .nil))))) (.cons rfl .nil) .nil) (ih _ h)
def ring_Right_1 (a0 : Member) (a1 : Member) : Option Bool := some ((decide (a0.no = a1.no)) || (decide (a0.id = a1.id)))
theorem ring_Right_1_ok {a0 : Member} {a1 : Member} {r : Bool} (h : ring_Right_1 a0 a1 = some r) : Fn Try.prog 66 [.d a0, .d (⟨a1⟩ : Ptr Member)] (.d r) := by
  refine Fn.of Try.func66 rfl fun w m => ?_
  unfold ring_Right_1 at h
  refine T_seq ?_
  refine T_region ?_
  refine TL_box (e_t rfl) ?_
  refine TL_y (y_assign (e_b false)) ?_
  refine TL_nil ?_
  refine z_nt ?_
  refine T_seq ?_
  refine T_region ?_
  refine TL_y (y_fieldAddr (e_t rfl) fo39_0) ?_
  refine TL_y (y_load (e_t rfl) rfl s_Member_no ty3) ?_
  refine TL_y (y_fieldAddr_ptr (e_t rfl) fo39_0 s_Member_no) ?_
  refine TL_y (y_load_ptr (e_t rfl) ty3) ?_
  refine TL_y (y_eql (e_t rfl) (e_t rfl)) ?_
  refine TL_y (y_move (e_t rfl)) ?_
  refine TL_or 6 15 (b := (decide (a0.no = a1.no))) (c := (decide (a0.id = a1.id))) ?_ (fun hb1 hk => ?_) (fun hb1 hk => ?_)
  rotate_left
  · refine TL_skip0 rfl hb1 ?_
    refine TL_skip0 rfl hb1 ?_
    refine TL_skip0 rfl hb1 ?_
    refine TL_skip0 rfl hb1 ?_
    refine TL_skip0 rfl hb1 ?_
    refine TL_y (y_pick_t (e_t rfl) hb1 (e_b true)) ?_
    exact TL_fr hk (.refl _)
  · refine TL_want rfl hb1 ?_
    refine TL_y (y_fieldAddr (e_t rfl) fo39_1) ?_
    refine TL_want rfl hb1 ?_
    refine TL_y (y_load (e_t rfl) rfl s_Member_id ty26) ?_
    refine TL_want rfl hb1 ?_
    refine TL_y (y_fieldAddr_ptr (e_t rfl) fo39_1 s_Member_id) ?_
    refine TL_want rfl hb1 ?_
    refine TL_y (y_load_ptr (e_t rfl) ty26) ?_
    refine TL_want rfl hb1 ?_
    refine TL_y (y_eqlT (e_t rfl) (e_t rfl) eqT26 rfl eg26) ?_
    refine TL_y (y_pick_f (e_t rfl) hb1 (e_t rfl)) ?_
    exact TL_fr hk (.cons (.cons (.cons (.cons (.cons (.refl _) rfl) rfl) rfl) rfl) rfl)
  refine TL_y (y_assign (e_t rfl)) ?_
  refine TL_nil ?_
  refine z_nt ?_
  refine T_ret ?_
  obtain rfl := Option.some.inj h
  exact Z_ret1 (fn := Try.f66) rfl (rv_t rfl)
def ring_Right_l0 (a0 : (List Member)) : List Member → Nat → Unit → Option (Lo Bool (Unit))
  | [], _, _ => some (.fall ())
  | x6 :: xsx6, i2, _ => (slh a0 (i2 : Int)).bind fun t7 => (sl_ContainsFunc_Member t7 (⟨fun x => ring_Right_1 x x6⟩ : (Fn1 Member Bool))).bind fun t8 => (bif ((t8 || (decide (x6.no < 0))) || (decide (16 ≤ x6.no))) then some (.ret false) else ring_Right_l0 a0 xsx6 (i2 + 1) ())
def ring_Right (a0 : (List Member)) : Option Bool := ((ring_Right_l0 a0 a0 0 ()).bind fun o3 => match o3 with | .ret q => some q | .fall _ => some (decide ((a0.length : Int) ≤ 16)))
theorem ring_Right_ok {a0 : (List Member)} {r : Bool} (h : ring_Right a0 = some r) : Fn Try.prog 38 [.d a0] (.d r) := by
  refine Fn.of Try.func38 rfl fun w m => ?_
  unfold ring_Right at h
  refine T_seq ?_
  refine T_region ?_
  refine TL_y (y_assign (e_b false)) ?_
  refine TL_nil ?_
  refine z_nt ?_
  refine T_seq ?_
  refine T_seq ?_
  refine T_region ?_
  refine TL_y (y_move (e_t rfl)) ?_
  refine TL_y (y_len (e_t rfl) (by rw [el28]; exact Try.underlying28)) ?_
  refine TL_y (y_move (e_i (0))) ?_
  refine TL_nil ?_
  refine z_nt ?_
  obtain ⟨o3, ho3, h⟩ := bind_some h
  refine T_loopin (S := fun (_ : Unit) => ⟨[(0, .d (a0 : (List Member)))], ⟨[], [], []⟩⟩) (fun s1 => o3 = .fall s1) (fun s1 e => ?_) (fun hfall4 => ?_)
  · subst e
    dsimp only at h
    refine z_nt ?_
    refine T_seq ?_
    refine T_region ?_
    refine TL_y (y_move (e_t rfl)) ?_
    refine TL_y (y_len (e_t rfl) (by rw [el28]; exact Try.underlying28)) ?_
    refine TL_y (y_leq (e_t rfl) (e_i (16))) ?_
    refine TL_y (y_assign (e_t rfl)) ?_
    refine TL_nil ?_
    refine z_nt ?_
    refine T_ret ?_
    obtain rfl := Option.some.inj h
    exact Z_ret1 (fn := Try.f38) rfl (rv_t rfl)
  · have hret5 : ∀ q, o3 = .ret q → q = r := fun q e => by
      subst e
      dsimp only at h
      exact Option.some.inj h
    clear h
    refine TW_le (le_k (ks := [0, 6, 7, 8]) (bs := []) (gs := []) (.cons rfl (.cons rfl (.cons rfl (.cons rfl .nil)))) .nil .nil) (range_ind a0 (fun (i2 : Nat) (_ : Unit) => ⟨[(0, .d (a0 : (List Member))), (6, .d (a0 : (List Member))), (7, .d ((a0.length : Int) : Int)), (8, .d ((i2 : Int) : Int))], ⟨[], [], []⟩⟩) (fun xs i s => ring_Right_l0 a0 xs i s = some o3) ?_ ?_ a0 0 () rfl ho3)
    · intro i s hi h
      refine TW_round (T_seq (T_region ?_))
      refine TL_y (y_lss (e_t rfl) (e_t rfl)) (TL_nil (z_nt (T_seq (T_cond rfl (fun hb => (dec_lt hi hb).elim) (fun _ => T_exit ?_)))))
      refine z_et ?_
      refine z_et ?_
      refine z_ei ?_
      exact Z_le (le_k (ks := [0]) (bs := []) (gs := []) (.cons rfl .nil) .nil .nil) (hfall4 _ (Option.some.inj h).symm)
    · intro x6 xsx6 i2 s1 hltx6 hx6 ih h
      replace h : ((slh a0 (i2 : Int)).bind fun t7 => (sl_ContainsFunc_Member t7 (⟨fun x => ring_Right_1 x x6⟩ : (Fn1 Member Bool))).bind fun t8 => (bif ((t8 || (decide (x6.no < 0))) || (decide (16 ≤ x6.no))) then some (.ret false) else ring_Right_l0 a0 xsx6 (i2 + 1) ())) = some o3 := h
      refine TW_round ?_
      refine T_seq (T_region ?_)
      refine TL_y (y_lss (e_t rfl) (e_t rfl)) (TL_nil (z_nt (T_seq (T_cond rfl (fun _ => ?_) (fun hb => (dec_ge hltx6 hb).elim)))))
      refine T_skip ?_
      refine z_nt ?_
      refine T_seq ?_
      refine T_block ?_
      refine T_seq ?_
      refine T_region ?_
      refine TL_y (y_move (e_t rfl)) ?_
      refine TL_y (y_indexNat (e_t rfl) (e_t rfl) hx6 tysl28) ?_
      refine TL_y (y_load_ptr (e_t rfl) ty39) ?_
      refine TL_alloc z39 ?_
      refine TL_y (y_assign (e_t rfl)) ?_
      refine TL_store (e_t rfl) rfl (e_t rfl) Put.self ty39 (by decide) ?_
      refine TL_nil ?_
      refine z_nt ?_
      refine T_seq ?_
      refine T_region ?_
      refine TL_y (y_move (e_t rfl)) ?_
      refine TL_y (y_move (e_t rfl)) ?_
      obtain ⟨t7, ht7, h⟩ := bind_some h
      refine TL_y (y_slh (e_t rfl) (e_t rfl) ht7 tysl28) ?_
      refine TL_le (le_k (ks := [4, 0, 6, 7, 8, 9, 10, 11, 12, 3, 13, 14, 15]) (bs := [4]) (gs := []) (ti := []) (.cons rfl (.cons rfl (.cons rfl (.cons rfl (.cons rfl (.cons rfl (.cons rfl (.cons rfl (.cons rfl (.cons rfl (.cons rfl (.cons rfl (.cons rfl .nil))))))))))))) (.cons rfl .nil) .nil) (TL_freeze ?_)
      refine TL_y (y_makeFunc1 (F := fun x => ring_Right_1 x x6) (caps := [.d (⟨x6⟩ : Ptr Member)]) (fun x r h => ring_Right_1_ok h) ⟨(e_t rfl), trivial⟩ c66) ?_
      obtain ⟨t8, ht8, h⟩ := bind_some h
      refine TL_call (xs := [.d (t7 : (List Member)), .d ((⟨fun x => ring_Right_1 x x6⟩ : (Fn1 Member Bool)) : (Fn1 Member Bool))]) (sl_ContainsFunc_Member_ok ht8) ⟨(e_t rfl), (e_t rfl), trivial⟩ c55 ?_
      refine TL_y (y_assign (e_t rfl)) ?_
      refine TL_nil ?_
      refine z_nt ?_
      refine T_seq ?_
      refine T_region ?_
      refine TL_y (y_move (e_t rfl)) ?_
      refine TL_y (y_move (e_t rfl)) ?_
      refine TL_or 4 23 (b := t8) (c := (decide (x6.no < 0))) ?_ (fun hb9 hk => ?_) (fun hb9 hk => ?_)
      rotate_left
      · refine TL_skip0 rfl hb9 ?_
        refine TL_skip0 rfl hb9 ?_
        refine TL_skip0 rfl hb9 ?_
        refine TL_y (y_pick_t (e_t rfl) hb9 (e_b true)) ?_
        exact TL_fr hk (.refl _)
      · refine TL_want rfl hb9 ?_
        refine TL_y (y_fieldAddr_ptr (e_t rfl) fo39_0 s_Member_no) ?_
        refine TL_want rfl hb9 ?_
        refine TL_y (y_load_ptr (e_t rfl) ty3) ?_
        refine TL_want rfl hb9 ?_
        refine TL_y (y_lss (e_t rfl) (e_i (0))) ?_
        refine TL_y (y_pick_f (e_t rfl) hb9 (e_t rfl)) ?_
        exact TL_fr hk (.cons (.cons (.cons (.refl _) rfl) rfl) rfl)
      refine TL_y (y_move (e_t rfl)) ?_
      refine TL_or 4 28 (b := (t8 || (decide (x6.no < 0)))) (c := (decide (16 ≤ x6.no))) ?_ (fun hb10 hk => ?_) (fun hb10 hk => ?_)
      rotate_left
      · refine TL_skip0 rfl hb10 ?_
        refine TL_skip0 rfl hb10 ?_
        refine TL_skip0 rfl hb10 ?_
        refine TL_y (y_pick_t (e_t rfl) hb10 (e_b true)) ?_
        exact TL_fr hk (.refl _)
      · refine TL_want rfl hb10 ?_
        refine TL_y (y_fieldAddr_ptr (e_t rfl) fo39_0 s_Member_no) ?_
        refine TL_want rfl hb10 ?_
        refine TL_y (y_load_ptr (e_t rfl) ty3) ?_
        refine TL_want rfl hb10 ?_
        refine TL_y (y_geq (e_t rfl) (e_i (16))) ?_
        refine TL_y (y_pick_f (e_t rfl) hb10 (e_t rfl)) ?_
        exact TL_fr hk (.cons (.cons (.cons (.refl _) rfl) rfl) rfl)
      refine TL_nil ?_
      refine z_nt ?_
      refine T_cond rfl (fun hb11 => ?_) (fun hb11 => ?_)
      · replace h := cond_t hb11 h
        refine T_seq ?_
        refine T_region ?_
        refine TL_y (y_assign (e_b false)) ?_
        refine TL_nil ?_
        refine z_nt ?_
        refine T_ret ?_
        refine z_rb ?_
        refine z_rt ?_
        refine z_rt ?_
        refine z_rb ?_
        refine z_rt ?_
        obtain rfl := hret5 _ (Option.some.inj h).symm
        exact Z_ret1 (fn := Try.f38) rfl (rv_t rfl)
      · replace h := cond_f hb11 h
        refine T_skip ?_
        refine z_nb ?_
        refine z_nt ?_
        refine T_region ?_
        refine TL_y (y_inc (q := 0) (e_t rfl) rfl hltx6) ?_
        refine TL_y (y_move (e_t rfl)) ?_
        refine TL_nil ?_
        refine z_nl ?_
        exact TW_le (le_k (ks := [0, 6, 7, 8]) (bs := []) (gs := []) (.cons rfl (.cons rfl (.cons rfl (.cons rfl .nil)))) .nil .nil) (ih _ h)
end Go.Ph
set_option maxRecDepth 4000
set_option maxHeartbeats 4000000
namespace Go.Ph
open Go.Proofs
def chord_Right_l1 (a0 : Overlay) (fin : Bool) : List Member → Bool → Option (Lo Bool (Bool))
  | [], s21 => bif fin then some (.fall s21) else none
  | x23 :: xsx23, s21 => (chord_self a0 x23.no).bind fun t24 => (bif (t24.2 && (!decide (t24.1 = x23))) then some (.ret false) else chord_Right_l1 a0 fin xsx23 s21)
def chord_Right_l0 (a0 : Overlay) : List Node → Nat → Bool → Option (Lo Bool (Bool))
  | [], _, s2 => some (.fall s2)
  | x7 :: xsx7, i3, s2 => (node_Right x7).bind fun t8 => ((bif (!t8) then some true else ((bif (decide (0 < (i3 : Int))) then (ix a0.nodes (w64 ((i3 : Int) - 1))).bind fun t18 => some (decide (x7.self.no ≤ t18.self.no)) else some false)).bind fun t17 => some t17)).bind fun t14 => (bif t14 then some (.ret false) else (chord_known x7).bind fun t20 => ((chord_Right_l1 a0 t20.fin t20.xs s2).bind fun o22 => match o22 with | .ret q => some (.ret q) | .fall s21 => chord_Right_l0 a0 xsx7 (i3 + 1) s21))
def chord_Right (a0 : Overlay) : Option Bool := (chord_Members a0).bind fun t1 => ((chord_Right_l0 a0 a0.nodes 0 false).bind fun o4 => match o4 with | .ret q => some q | .fall _ => (ring_Right t1).bind fun t27 => some t27)
theorem chord_Right_ok {a0 : Overlay} {r : Bool} (h : chord_Right a0 = some r) : Fn Try.prog 23 [.d a0] (.d r) := by
  refine Fn.ofV Try.func23 rfl fun w m V hl => ?_
  unfold chord_Right at h
  refine T_seq ?_
  refine T_region ?_
  refine TL_box (e_t rfl) ?_
  refine TL_alloc z4 ?_
  refine TL_nil ?_
  refine z_nt ?_
  refine T_seq ?_
  refine T_region ?_
  refine TL_y (y_load (e_t rfl) rfl Sub.self ty24) ?_
  obtain ⟨t1, ht1, h⟩ := bind_some h
  refine TL_call (xs := [.d (a0 : Overlay)]) (chord_Members_ok ht1) ⟨(e_t rfl), trivial⟩ c14 ?_
  refine TL_y (y_assign (e_t rfl)) ?_
  refine TL_nil ?_
  refine z_nt ?_
  refine T_seq ?_
  refine T_seq ?_
  refine T_region ?_
  refine TL_y (y_fieldAddr (e_t rfl) fo24_0) ?_
  refine TL_y (y_load (e_t rfl) rfl s_Overlay_nodes ty22) ?_
  refine TL_y (y_len (e_t rfl) (by rw [el22]; exact Try.underlying22)) ?_
  refine TL_y (y_move (e_i (0))) ?_
  refine TL_nil ?_
  refine z_nt ?_
  obtain ⟨o4, ho4, h⟩ := bind_some h
  refine T_loopinV (J0 := ordJ w) (S := fun (s2 : Bool) => ⟨[(2, .p 2 0), (3, .d (t1 : (List Member)))], ⟨[(2, ⟨(s2 : Bool)⟩)], [], []⟩⟩) (fun s2 => o4 = .fall s2) (fun V hl s2 e => ?_) (fun hfall5 => ?_)
  · subst e
    dsimp only at h
    refine z_nt ?_
    refine T_seq ?_
    refine T_region ?_
    refine TL_y (y_move (e_t rfl)) ?_
    obtain ⟨t27, ht27, h⟩ := bind_some h
    refine TL_call (xs := [.d (t1 : (List Member))]) (ring_Right_ok ht27) ⟨(e_t rfl), trivial⟩ c38 ?_
    refine TL_store (e_t rfl) rfl (e_t rfl) Put.self ty4 (by decide) ?_
    refine TL_nil ?_
    refine z_nt ?_
    refine T_ret ?_
    obtain rfl := Option.some.inj h
    exact zv_ret1 hl (fn := Try.f23) rfl (rv_c rfl rfl ty4)
  · have hret6 : ∀ q, o4 = .ret q → q = r := fun q e => by
      subst e
      dsimp only at h
      exact Option.some.inj h
    clear h
    refine TW_le (le_k (ks := [1, 2, 3, 12, 13, 14]) (bs := [1, 2]) (gs := []) (.cons rfl (.cons rfl (.cons rfl (.cons rfl (.cons rfl (.cons rfl .nil)))))) (.cons rfl (.cons rfl .nil)) .nil) (range_indV (J0 := ordJ w) a0.nodes (fun (i3 : Nat) (s2 : Bool) => ⟨[(1, .p 1 0), (2, .p 2 0), (3, .d (t1 : (List Member))), (12, .d (a0.nodes : (List Node))), (13, .d ((a0.nodes.length : Int) : Int)), (14, .d ((i3 : Int) : Int))], ⟨[(1, ⟨(a0 : Overlay)⟩), (2, ⟨(s2 : Bool)⟩)], [], []⟩⟩) (fun xs i s => chord_Right_l0 a0 xs i s = some o4) ?_ ?_ a0.nodes _ hl 0 false rfl ho4)
    · intro V hl i s hi h
      refine TW_round (T_seq (T_region ?_))
      refine TL_y (y_lss (e_t rfl) (e_t rfl)) (TL_nil (z_nt (T_seq (T_cond rfl (fun hb => (dec_lt hi hb).elim) (fun _ => T_exit ?_)))))
      refine z_et ?_
      refine z_et ?_
      refine z_ei ?_
      exact Z_le (le_k (ks := [2, 3]) (bs := [2]) (gs := []) (.cons rfl (.cons rfl .nil)) (.cons rfl .nil) .nil) (hfall5 _ hl _ (Option.some.inj h).symm)
    · intro V hl x7 xsx7 i3 s2 hltx7 hx7 ih h
      replace h : ((node_Right x7).bind fun t8 => ((bif (!t8) then some true else ((bif (decide (0 < (i3 : Int))) then (ix a0.nodes (w64 ((i3 : Int) - 1))).bind fun t18 => some (decide (x7.self.no ≤ t18.self.no)) else some false)).bind fun t17 => some t17)).bind fun t14 => (bif t14 then some (.ret false) else (chord_known x7).bind fun t20 => ((chord_Right_l1 a0 t20.fin t20.xs s2).bind fun o22 => match o22 with | .ret q => some (.ret q) | .fall s21 => chord_Right_l0 a0 xsx7 (i3 + 1) s21))) = some o4 := h
      refine TW_round ?_
      refine T_seq (T_region ?_)
      refine TL_y (y_lss (e_t rfl) (e_t rfl)) (TL_nil (z_nt (T_seq (T_cond rfl (fun _ => ?_) (fun hb => (dec_ge hltx7 hb).elim)))))
      refine T_skip ?_
      refine z_nt ?_
      refine T_seq ?_
      refine T_block ?_
      refine T_seq ?_
      refine T_region ?_
      refine TL_y (y_move (e_t rfl)) ?_
      refine TL_y (y_indexNat (e_t rfl) (e_t rfl) hx7 tysl22) ?_
      refine TL_y (y_load_ptr (e_t rfl) ty44) ?_
      refine TL_alloc z44 ?_
      refine TL_y (y_assign (e_t rfl)) ?_
      refine TL_store (e_t rfl) rfl (e_t rfl) Put.self ty44 (by decide) ?_
      refine TL_nil ?_
      refine z_nt ?_
      refine T_seq ?_
      refine T_seq ?_
      refine T_draw hmix (by kernel_rfl) ?_
      refine TQ_y (y_load (e_t rfl) rfl Sub.self ty44) ?_
      obtain ⟨t8, ht8, h⟩ := bind_some h
      refine TQ_y (y_call (xs := [.d (x7 : Node)]) (node_Right_ok ht8) ⟨(e_t rfl), trivial⟩ c48) ?_
      refine TQ_y (y_not (e_t rfl)) ?_
      refine TQ_y (y_move (e_t rfl)) ?_
      obtain ⟨t14, ht14, h⟩ := bind_some h
      refine TQ_cut 17 39 (r := t14) (!t8) ?_ (fun hb9 hk => ?_) (fun hb9 hk => ?_)
      rotate_left
      · obtain rfl := Option.some.inj (cond_t hb9 ht14)
        refine TQ_skip0 rfl hb9 ?_
        refine TQ_skip0 rfl hb9 ?_
        refine TQ_skips rfl hb9 ?_
        refine TQ_skipu rfl ?_
        refine TQ_skipu rfl ?_
        refine TQ_skipu rfl ?_
        refine TQ_skipu rfl ?_
        refine TQ_skipu rfl ?_
        refine TQ_skipu rfl ?_
        refine TQ_skipu rfl ?_
        refine TQ_skipu rfl ?_
        refine TQ_skipu rfl ?_
        refine TQ_skipu rfl ?_
        refine TQ_skipu rfl ?_
        refine TQ_skipu rfl ?_
        refine TQ_skip0 rfl hb9 ?_
        refine TQ_y (y_pick_t (e_t rfl) hb9 (e_b true)) ?_
        exact TQ_fr hk (.cons (.refl _) rfl)
      · replace h := cond_f hb9 ht14
        refine TQ_want rfl hb9 ?_
        refine TQ_y (y_move (e_t rfl)) ?_
        refine TQ_want rfl hb9 ?_
        refine TQ_y (y_gtr (e_t rfl) (e_i (0))) ?_
        refine TQ_want rfl hb9 ?_
        refine TQ_y (y_move (e_t rfl)) ?_
        obtain ⟨t17, ht17, h⟩ := bind_some h
        refine TQ_cut 13 38 (r := t17) (decide (0 < (i3 : Int))) ?_ (fun hb15 hk => ?_) (fun hb15 hk => ?_)
        rotate_left
        · replace h := cond_t hb15 ht17
          refine TQ_want rfl hb15 ?_
          refine TQ_y (y_fieldAddr (e_t rfl) fo24_0) ?_
          refine TQ_want rfl hb15 ?_
          refine TQ_y (y_load (e_t rfl) rfl s_Overlay_nodes ty22) ?_
          refine TQ_want rfl hb15 ?_
          refine TQ_y (y_move (e_t rfl)) ?_
          refine TQ_want rfl hb15 ?_
          refine TQ_y (y_sub (e_t rfl) (e_i (1))) ?_
          refine TQ_want rfl hb15 ?_
          obtain ⟨t18, ht18, h⟩ := bind_some h
          refine TQ_y (y_indexIx (e_t rfl) (e_t rfl) ht18 tysl22) ?_
          refine TQ_want rfl hb15 ?_
          refine TQ_y (y_fieldAddr_ptr (e_t rfl) fo44_0 s_Node_self) ?_
          refine TQ_want rfl hb15 ?_
          refine TQ_y (y_fieldAddr_ptr (e_t rfl) fo39_0 s_Member_no) ?_
          refine TQ_want rfl hb15 ?_
          refine TQ_y (y_load_ptr (e_t rfl) ty3) ?_
          refine TQ_want rfl hb15 ?_
          refine TQ_y (y_fieldAddr (e_t rfl) fo44_0) ?_
          refine TQ_want rfl hb15 ?_
          refine TQ_y (y_fieldAddr (e_t rfl) fo39_0) ?_
          refine TQ_want rfl hb15 ?_
          refine TQ_y (y_load (e_t rfl) rfl s_Node_self_no ty3) ?_
          refine TQ_want rfl hb15 ?_
          refine TQ_y (y_geq (e_t rfl) (e_t rfl)) ?_
          obtain rfl := Option.some.inj h
          refine TQ_want rfl hb9 ?_
          refine TQ_y (y_pick_t (e_t rfl) hb15 (e_t rfl)) ?_
          exact TQ_fr hk (.cons (.cons (.cons (.cons (.cons (.cons (.cons (.cons (.cons (.cons (.cons (.cons (.refl _) rfl) rfl) rfl) rfl) rfl) rfl) rfl) rfl) rfl) rfl) rfl) rfl)
        · obtain rfl := Option.some.inj (cond_f hb15 ht17)
          refine TQ_skip0 rfl hb15 ?_
          refine TQ_skip0 rfl hb15 ?_
          refine TQ_skip0 rfl hb15 ?_
          refine TQ_skip0 rfl hb15 ?_
          refine TQ_skip0 rfl hb15 ?_
          refine TQ_skip0 rfl hb15 ?_
          refine TQ_skip0 rfl hb15 ?_
          refine TQ_skip0 rfl hb15 ?_
          refine TQ_skip0 rfl hb15 ?_
          refine TQ_skip0 rfl hb15 ?_
          refine TQ_skip0 rfl hb15 ?_
          refine TQ_skip0 rfl hb15 ?_
          refine TQ_want rfl hb9 ?_
          refine TQ_y (y_pick_f (e_t rfl) hb15 (e_b false)) ?_
          exact TQ_fr hk (.refl _)
        obtain rfl := Option.some.inj h
        refine TQ_y (y_pick_f (e_t rfl) hb9 (e_t rfl)) ?_
        exact TQ_fr hk (.cons (.cons (.cons (.cons (.refl _) rfl) rfl) rfl) rfl)
      refine TQ_nil ?_
      refine z_nt ?_
      refine T_cond rfl (fun hb19 => ?_) (fun hb19 => ?_)
      · replace h := cond_t hb19 h
        refine T_seq ?_
        refine T_region ?_
        refine TL_store (e_t rfl) rfl (e_b false) Put.self ty4 (by decide) ?_
        refine TL_nil ?_
        refine z_nt ?_
        refine T_ret ?_
        refine z_rt ?_
        refine z_rb ?_
        refine z_rt ?_
        refine z_rt ?_
        refine z_rb ?_
        refine z_rt ?_
        obtain rfl := hret6 _ (Option.some.inj h).symm
        exact zv_ret1 hl (fn := Try.f23) rfl (rv_c rfl rfl ty4)
      · replace h := cond_f hb19 h
        refine T_skip ?_
        refine z_nt ?_
        refine T_seq ?_
        refine T_region ?_
        refine TL_y (y_load (e_t rfl) rfl Sub.self ty44) ?_
        obtain ⟨t20, ht20, h⟩ := bind_some h
        refine TL_call (xs := [.d (x7 : Node)]) (chord_known_ok ht20) ⟨(e_t rfl), trivial⟩ c49 ?_
        refine TL_nil ?_
        refine z_nt ?_
        refine T_block ?_
        obtain ⟨o22, ho22, h⟩ := bind_some h
        refine T_range1 (F := t20) [1, 2] [(1, .p 1 0), (2, .p 2 0), (3, .d (t1 : (List Member))), (12, .d (a0.nodes : (List Node))), (13, .d ((a0.nodes.length : Int) : Int)), (14, .d ((i3 : Int) : Int))] (fun (s21 : Bool) => ⟨[(1, ⟨(a0 : Overlay)⟩), (2, ⟨(s21 : Bool)⟩)], [], []⟩) (fun (t : Bool) => ⟨[(2, ⟨(t : Bool)⟩)], [], []⟩) (fun _ => .ret) (fun xs s => chord_Right_l1 a0 t20.fin xs s = some o22) (fun t => o22 = .ret t) s2 hl (ordJ_law w) (e_t rfl) (le_k (ks := [1, 2, 3, 12, 13, 14]) (bs := [1, 2]) (gs := []) (.cons rfl (.cons rfl (.cons rfl (.cons rfl (.cons rfl (.cons rfl .nil)))))) (.cons rfl (.cons rfl .nil)) .nil) ho22 (fun hf s hg => fin_no hg hf) ?_ ?_ ?_
        · intro x23 xsx23 s21 hgx23 D l lr cs mr mk wr R hmk hrs hn hx
          clear h
          have h : ((chord_self a0 x23.no).bind fun t24 => (bif (t24.2 && (!decide (t24.1 = x23))) then some (.ret false) else chord_Right_l1 a0 t20.fin xsx23 s21)) = some o22 := hgx23
          refine T_region ?_
          refine TL_alloc z39 ?_
          refine TL_store (e_t rfl) rfl (e_t rfl) Put.self ty39 (by decide) ?_
          refine TL_nil ?_
          refine Z_begin hrs hmk ?_
          refine T_block ?_
          refine T_seq ?_
          refine T_region ?_
          refine TL_y (y_load (e_t rfl) rfl Sub.self ty24) ?_
          refine TL_y (y_fieldAddr (e_t rfl) fo39_0) ?_
          refine TL_y (y_load (e_t rfl) rfl s_Member_no ty3) ?_
          obtain ⟨t24, ht24, h⟩ := bind_some h
          refine TL_call (xs := [.d (a0 : Overlay), .d (x23.no : Int)]) (chord_self_ok ht24) ⟨(e_t rfl), (e_t rfl), trivial⟩ c44 ?_
          refine TL_y (y_move (e_t rfl)) ?_
          refine TL_y (y_extract2_0 (e_t rfl)) ?_
          refine TL_y (y_extract2_1 (e_t rfl)) ?_
          refine TL_alloc z39 ?_
          refine TL_store (e_t rfl) rfl (e_t rfl) Put.self ty39 (by decide) ?_
          refine TL_y (y_assign (e_t rfl)) ?_
          refine TL_nil ?_
          refine z_nt ?_
          refine T_seq ?_
          refine T_region ?_
          refine TL_y (y_move (e_t rfl)) ?_
          refine TL_y (y_move (e_t rfl)) ?_
          refine TL_and 4 55 (b := t24.2) (c := (!decide (t24.1 = x23))) ?_ (fun hb25 hk => ?_) (fun hb25 hk => ?_)
          rotate_left
          · refine TL_skip0 rfl hb25 ?_
            refine TL_skip0 rfl hb25 ?_
            refine TL_skip0 rfl hb25 ?_
            refine TL_y (y_pick_f (e_t rfl) hb25 (e_b false)) ?_
            exact TL_fr hk (.refl _)
          · refine TL_want rfl hb25 ?_
            refine TL_y (y_load (e_t rfl) rfl Sub.self ty39) ?_
            refine TL_want rfl hb25 ?_
            refine TL_y (y_load (e_t rfl) rfl Sub.self ty39) ?_
            refine TL_want rfl hb25 ?_
            refine TL_y (y_neqT (e_t rfl) (e_t rfl) eqT39 rfl eg39) ?_
            refine TL_y (y_pick_t (e_t rfl) hb25 (e_t rfl)) ?_
            exact TL_fr hk (.cons (.cons (.cons (.refl _) rfl) rfl) rfl)
          refine TL_nil ?_
          refine z_nt ?_
          refine T_cond rfl (fun hb26 => ?_) (fun hb26 => ?_)
          · replace h := cond_t hb26 h
            refine T_seq ?_
            refine T_region ?_
            refine TL_store (e_t rfl) rfl (e_b false) Put.self ty4 (by decide) ?_
            refine TL_nil ?_
            refine z_nt ?_
            refine T_ret ?_
            refine z_rb ?_
            have hx0 := (Option.some.inj h).symm
            exact Z_le (le_k (ks := []) (bs := [2]) (gs := []) .nil (.cons rfl .nil) .nil) (hx _ _ hx0)
          · replace h := cond_f hb26 h
            refine T_skip ?_
            refine z_nb ?_
            exact Z_le (le_k (ks := []) (bs := [1, 2]) (gs := []) .nil (.cons rfl (.cons rfl .nil)) .nil) (hn _ _ h)
        · intro V hl s21 hg
          have e := (fin_some hg).symm
          subst e
          dsimp only at h
          refine z_nb ?_
          refine z_nb ?_
          refine z_nt ?_
          refine T_region ?_
          refine TL_y (y_inc (q := 12) (e_t rfl) rfl hltx7) ?_
          refine TL_y (y_move (e_t rfl)) ?_
          refine TL_nil ?_
          refine z_nl ?_
          exact TW_le (le_k (ks := [1, 2, 3, 12, 13, 14]) (bs := [1, 2]) (gs := []) (.cons rfl (.cons rfl (.cons rfl (.cons rfl (.cons rfl (.cons rfl .nil)))))) (.cons rfl (.cons rfl .nil)) .nil) (ih _ hl _ h)
        · intro V hl t e
          subst e
          dsimp only at h
          refine z_rb ?_
          refine z_rb ?_
          refine z_rt ?_
          refine z_rt ?_
          refine z_rb ?_
          refine z_rt ?_
          obtain rfl := hret6 _ (Option.some.inj h).symm
          exact zv_ret1 hl (fn := Try.f23) rfl (rv_c rfl rfl ty4)
def ident_Far_l0 (a1 : Id) (a0 : Id) : Nat → Id × Int × Int → Option (Id × Int × Int)
  | 0, _ => none
  | ks1 + 1, s1 => (bif (decide (0 ≤ s1.2.2)) then (vix a1 s1.2.2).bind fun t7 => (vix a0 s1.2.2).bind fun t8 => (((bif (decide ((w64 ((w64 ((t7.toNat : Int) - (t8.toNat : Int))) - s1.2.1)) < 0)) then some (1, (w64 ((w64 ((w64 ((t7.toNat : Int) - (t8.toNat : Int))) - s1.2.1)) + 256))) else some (0, (w64 ((w64 ((t7.toNat : Int) - (t8.toNat : Int))) - s1.2.1)))) : Option (Int × Int)).bind fun s9 => (vchk 32 s1.2.2).bind fun t13 => ident_Far_l0 a1 a0 ks1 ((vput s1.1 s1.2.2 (toU8 s9.2)), s9.1, (w64 (s1.2.2 - 1)))) else some (s1.1, s1.2.1, s1.2.2))
def ident_Far (a0 : Id) (a1 : Id) : Option Id := ((ident_Far_l0 a1 a0 FUEL (Id.zero, 0, 31)).bind fun s1 => some s1.1)
theorem ident_Far_ok {a0 : Id} {a1 : Id} {r : Id} (h : ident_Far a0 a1 = some r) : Fn Try.prog 18 [.d a0, .d a1] (.d r) := by
  refine Fn.of Try.func18 rfl fun w m => ?_
  unfold ident_Far at h
  refine T_seq ?_
  refine T_region ?_
  refine TL_box (e_t rfl) ?_
  refine TL_box (e_t rfl) ?_
  refine TL_alloc z26 ?_
  refine TL_nil ?_
  refine z_nt ?_
  refine T_seq ?_
  refine T_region ?_
  refine TL_alloc z26 ?_
  refine TL_nil ?_
  refine z_nt ?_
  refine T_seq ?_
  refine T_region ?_
  refine TL_y (y_assign (e_i (0))) ?_
  refine TL_nil ?_
  refine z_nt ?_
  refine T_seq ?_
  refine T_seq ?_
  refine T_region ?_
  refine TL_y (y_assign (e_i (31))) ?_
  refine TL_nil ?_
  refine z_nt ?_
  obtain ⟨o3, ho3, h⟩ := bind_some h
  refine T_loopin (S := fun (s1 : Id × Int × Int) => ⟨[(4, .p 4 0), (5, .p 5 0), (6, .d (s1.2.1 : Int)), (7, .d (s1.2.2 : Int))], ⟨[(4, ⟨(Id.zero : Id)⟩), (5, ⟨(s1.1 : Id)⟩)], [], []⟩⟩) (fun z => z = o3) (fun s1 e => ?_) (fun hfall4 => ?_)
  · subst e
    refine z_nt ?_
    refine T_seq ?_
    refine T_region ?_
    refine TL_y (y_load (e_t rfl) rfl Sub.self ty26) ?_
    refine TL_store (e_t rfl) rfl (e_t rfl) Put.self ty26 (by decide) ?_
    refine TL_nil ?_
    refine z_nt ?_
    refine T_ret ?_
    obtain rfl := Option.some.inj h
    exact Z_ret1 (fn := Try.f18) rfl (rv_c rfl rfl ty26)
  · clear h
    refine TW_le (le_k (ks := [2, 3, 4, 5, 6, 7]) (bs := [2, 3, 4, 5]) (gs := []) (.cons rfl (.cons rfl (.cons rfl (.cons rfl (.cons rfl (.cons rfl .nil)))))) (.cons rfl (.cons rfl (.cons rfl (.cons rfl .nil)))) .nil) (fuel_ind (fun (s1 : Id × Int × Int) => ⟨[(2, .p 2 0), (3, .p 3 0), (4, .p 4 0), (5, .p 5 0), (6, .d (s1.2.1 : Int)), (7, .d (s1.2.2 : Int))], ⟨[(2, ⟨(a0 : Id)⟩), (3, ⟨(a1 : Id)⟩), (4, ⟨(Id.zero : Id)⟩), (5, ⟨(s1.1 : Id)⟩)], [], []⟩⟩) (fun k s => ident_Far_l0 a1 a0 k s = some o3) ?_ ?_ _ (Id.zero, 0, 31) ho3)
    · intro s h
      cases h
    · intro ks1 s1 ih h
      replace h : ((bif (decide (0 ≤ s1.2.2)) then (vix a1 s1.2.2).bind fun t7 => (vix a0 s1.2.2).bind fun t8 => (((bif (decide ((w64 ((w64 ((t7.toNat : Int) - (t8.toNat : Int))) - s1.2.1)) < 0)) then some (1, (w64 ((w64 ((w64 ((t7.toNat : Int) - (t8.toNat : Int))) - s1.2.1)) + 256))) else some (0, (w64 ((w64 ((t7.toNat : Int) - (t8.toNat : Int))) - s1.2.1)))) : Option (Int × Int)).bind fun s9 => (vchk 32 s1.2.2).bind fun t13 => ident_Far_l0 a1 a0 ks1 ((vput s1.1 s1.2.2 (toU8 s9.2)), s9.1, (w64 (s1.2.2 - 1)))) else some (s1.1, s1.2.1, s1.2.2))) = some o3 := h
      refine TW_round ?_
      refine T_seq ?_
      refine T_seq ?_
      refine T_region ?_
      refine TL_y (y_move (e_t rfl)) ?_
      refine TL_y (y_geq (e_t rfl) (e_i (0))) ?_
      refine TL_nil ?_
      refine z_nt ?_
      refine T_cond rfl (fun hb6 => ?_) (fun hb6 => ?_)
      · replace h := cond_t hb6 h
        refine T_skip ?_
        refine z_nt ?_
        refine T_seq ?_
        refine T_block ?_
        refine T_seq ?_
        refine T_draw hmix (by kernel_rfl) ?_
        refine TQ_y (y_move (e_t rfl)) ?_
        obtain ⟨t7, ht7, h⟩ := bind_some h
        obtain ⟨ht7_1, ht7_0, ht7_2⟩ := vix_get ht7
        refine TQ_y (y_indexArr0 (e_t rfl) (e_t rfl) ht7_0 ht7_1 tyar26) ?_
        refine TQ_y (y_load_vec (e_t rfl) rfl ht7 ty5) ?_
        refine TQ_y (y_conv_u8 (e_t rfl) (by simp [Try.underlying5]) Try.underlying3) ?_
        refine TQ_y (y_move (e_t rfl)) ?_
        obtain ⟨t8, ht8, h⟩ := bind_some h
        obtain ⟨ht8_1, ht8_0, ht8_2⟩ := vix_get ht8
        refine TQ_y (y_indexArr0 (e_t rfl) (e_t rfl) ht8_0 ht8_1 tyar26) ?_
        refine TQ_y (y_load_vec (e_t rfl) rfl ht8 ty5) ?_
        refine TQ_y (y_conv_u8 (e_t rfl) (by simp [Try.underlying5]) Try.underlying3) ?_
        refine TQ_y (y_sub (e_t rfl) (e_t rfl)) ?_
        refine TQ_y (y_move (e_t rfl)) ?_
        refine TQ_y (y_sub (e_t rfl) (e_t rfl)) ?_
        refine TQ_y (y_assign (e_t rfl)) ?_
        refine TQ_nil ?_
        refine z_nt ?_
        refine T_seq ?_
        refine T_region ?_
        refine TL_y (y_assign (e_i (0))) ?_
        refine TL_nil ?_
        refine z_nt ?_
        obtain ⟨s9, hs9, h⟩ := bind_some h
        refine T_join (S := fun (s9 : Int × Int) => ⟨[(2, .p 2 0), (3, .p 3 0), (4, .p 4 0), (5, .p 5 0), (6, .d (s9.1 : Int)), (7, .d (s1.2.2 : Int)), (8, .d (s9.2 : Int))], ⟨[(2, ⟨(a0 : Id)⟩), (3, ⟨(a1 : Id)⟩), (4, ⟨(Id.zero : Id)⟩), (5, ⟨(s1.1 : Id)⟩)], [], []⟩⟩) (fun z => s9 = z) (fun z e => ?_) (fun hfall10 => ?_)
        · subst e
          refine T_region ?_
          refine TL_y (y_move (e_t rfl)) ?_
          refine TL_y (y_move (e_t rfl)) ?_
          refine TL_y (y_conv_to_u8 (e_t rfl) (by simp [Try.underlying3]) Try.underlying5) ?_
          obtain ⟨t13, ht13, h⟩ := bind_some h
          obtain ⟨ht13_0, ht13_1⟩ := vchk_some ht13
          refine TL_y (y_indexArr0 (e_t rfl) (e_t rfl) ht13_0 ht13_1 tyar26) ?_
          refine TL_store_vec (e_t rfl) rfl (e_t rfl) ht13_0 ht13_1 ty5 ?_
          refine TL_nil ?_
          refine z_nb ?_
          refine z_nt ?_
          refine T_region ?_
          refine TL_y (y_move (e_t rfl)) ?_
          refine TL_y (y_sub (e_t rfl) (e_i (1))) ?_
          refine TL_y (y_assign (e_t rfl)) ?_
          refine TL_nil ?_
          refine z_nl ?_
          exact TW_le (le_k (ks := [2, 3, 4, 5, 6, 7]) (bs := [2, 3, 4, 5]) (gs := []) (.cons rfl (.cons rfl (.cons rfl (.cons rfl (.cons rfl (.cons rfl .nil)))))) (.cons rfl (.cons rfl (.cons rfl (.cons rfl .nil)))) .nil) (ih _ h)
        · clear h
          have h := hs9
          refine T_seq ?_
          refine T_region ?_
          refine TL_y (y_move (e_t rfl)) ?_
          refine TL_y (y_lss (e_t rfl) (e_i (0))) ?_
          refine TL_nil ?_
          refine z_nt ?_
          refine T_cond rfl (fun hb12 => ?_) (fun hb12 => ?_)
          · replace h := cond_t hb12 h
            refine T_seq ?_
            refine T_region ?_
            refine TL_y (y_move (e_t rfl)) ?_
            refine TL_y (y_add (e_t rfl) (e_i (256))) ?_
            refine TL_y (y_assign (e_t rfl)) ?_
            refine TL_nil ?_
            refine z_nt ?_
            refine T_region ?_
            refine TL_y (y_assign (e_i (1))) ?_
            refine TL_nil ?_
            exact Z_le (le_k (ks := [2, 3, 4, 5, 6, 7, 8]) (bs := [2, 3, 4, 5]) (gs := []) (.cons rfl (.cons rfl (.cons rfl (.cons rfl (.cons rfl (.cons rfl (.cons rfl .nil))))))) (.cons rfl (.cons rfl (.cons rfl (.cons rfl .nil)))) .nil) (hfall10 _ (Option.some.inj h).symm)
          · replace h := cond_f hb12 h
            refine T_skip ?_
            exact Z_le (le_k (ks := [2, 3, 4, 5, 6, 7, 8]) (bs := [2, 3, 4, 5]) (gs := []) (.cons rfl (.cons rfl (.cons rfl (.cons rfl (.cons rfl (.cons rfl (.cons rfl .nil))))))) (.cons rfl (.cons rfl (.cons rfl (.cons rfl .nil)))) .nil) (hfall10 _ (Option.some.inj h).symm)
      · replace h := cond_f hb6 h
        refine T_exit ?_
        refine z_et ?_
        refine z_et ?_
        refine z_ei ?_
        exact Z_le (le_k (ks := [4, 5, 6, 7]) (bs := [4, 5]) (gs := []) (.cons rfl (.cons rfl (.cons rfl (.cons rfl .nil)))) (.cons rfl (.cons rfl .nil)) .nil) (hfall4 _ (Option.some.inj h))
def cmp_isNaN_byte (a0 : UInt8) : Option Bool := some (!decide (a0 = a0))
theorem cmp_isNaN_byte_ok {a0 : UInt8} {r : Bool} (h : cmp_isNaN_byte a0 = some r) : Fn Try.prog 101 [.d a0] (.d r) := by
  refine Fn.of Try.func101 rfl fun w m => ?_
  unfold cmp_isNaN_byte at h
  refine T_seq ?_
  refine T_region ?_
  refine TL_y (y_assign (e_b false)) ?_
  refine TL_nil ?_
  refine z_nt ?_
  refine T_seq ?_
  refine T_region ?_
  refine TL_y (y_move (e_t rfl)) ?_
  refine TL_y (y_move (e_t rfl)) ?_
  refine TL_y (y8_neq (e_t rfl) (e_t rfl)) ?_
  refine TL_y (y_assign (e_t rfl)) ?_
  refine TL_nil ?_
  refine z_nt ?_
  refine T_ret ?_
  obtain rfl := Option.some.inj h
  exact Z_ret1 (fn := Try.f101) rfl (rv_t rfl)
def cmp_Compare_byte (a0 : UInt8) (a1 : UInt8) : Option Int := (cmp_isNaN_byte a0).bind fun t1 => (cmp_isNaN_byte a1).bind fun t2 => (bif t1 then (bif t2 then some 0 else some (-1)) else (bif t2 then some 1 else (bif (decide (a0 < a1)) then some (-1) else (bif (decide (a1 < a0)) then some 1 else some 0))))
theorem cmp_Compare_byte_ok {a0 : UInt8} {a1 : UInt8} {r : Int} (h : cmp_Compare_byte a0 a1 = some r) : Fn Try.prog 70 [.d a0, .d a1] (.d r) := by
  refine Fn.of Try.func70 rfl fun w m => ?_
  unfold cmp_Compare_byte at h
  refine T_seq ?_
  refine T_region ?_
  refine TL_y (y_assign (e_i (0))) ?_
  refine TL_nil ?_
  refine z_nt ?_
  refine T_seq ?_
  refine T_region ?_
  refine TL_y (y_move (e_t rfl)) ?_
  obtain ⟨t1, ht1, h⟩ := bind_some h
  refine TL_call (xs := [.d (a0 : UInt8)]) (cmp_isNaN_byte_ok ht1) ⟨(e_t rfl), trivial⟩ c101 ?_
  refine TL_y (y_assign (e_t rfl)) ?_
  refine TL_nil ?_
  refine z_nt ?_
  refine T_seq ?_
  refine T_region ?_
  refine TL_y (y_move (e_t rfl)) ?_
  obtain ⟨t2, ht2, h⟩ := bind_some h
  refine TL_call (xs := [.d (a1 : UInt8)]) (cmp_isNaN_byte_ok ht2) ⟨(e_t rfl), trivial⟩ c101 ?_
  refine TL_y (y_assign (e_t rfl)) ?_
  refine TL_nil ?_
  refine z_nt ?_
  refine T_seq ?_
  refine T_seq ?_
  refine T_region ?_
  refine TL_y (y_move (e_t rfl)) ?_
  refine TL_nil ?_
  refine z_nt ?_
  refine T_cond rfl (fun hb3 => ?_) (fun hb3 => ?_)
  · replace h := cond_t hb3 h
    refine T_seq ?_
    refine T_seq ?_
    refine T_region ?_
    refine TL_y (y_move (e_t rfl)) ?_
    refine TL_nil ?_
    refine z_nt ?_
    refine T_cond rfl (fun hb4 => ?_) (fun hb4 => ?_)
    · replace h := cond_t hb4 h
      refine T_seq ?_
      refine T_region ?_
      refine TL_y (y_assign (e_i (0))) ?_
      refine TL_nil ?_
      refine z_nt ?_
      refine T_ret ?_
      refine z_rt ?_
      refine z_rt ?_
      obtain rfl := Option.some.inj h
      exact Z_ret1 (fn := Try.f70) rfl (rv_t rfl)
    · replace h := cond_f hb4 h
      refine T_skip ?_
      refine z_nt ?_
      refine T_seq ?_
      refine T_region ?_
      refine TL_y (y_assign (e_i (-1))) ?_
      refine TL_nil ?_
      refine z_nt ?_
      refine T_ret ?_
      refine z_rt ?_
      obtain rfl := Option.some.inj h
      exact Z_ret1 (fn := Try.f70) rfl (rv_t rfl)
  · replace h := cond_f hb3 h
    refine T_skip ?_
    refine z_nt ?_
    refine T_seq ?_
    refine T_seq ?_
    refine T_region ?_
    refine TL_y (y_move (e_t rfl)) ?_
    refine TL_nil ?_
    refine z_nt ?_
    refine T_cond rfl (fun hb5 => ?_) (fun hb5 => ?_)
    · replace h := cond_t hb5 h
      refine T_seq ?_
      refine T_region ?_
      refine TL_y (y_assign (e_i (1))) ?_
      refine TL_nil ?_
      refine z_nt ?_
      refine T_ret ?_
      refine z_rt ?_
      obtain rfl := Option.some.inj h
      exact Z_ret1 (fn := Try.f70) rfl (rv_t rfl)
    · replace h := cond_f hb5 h
      refine T_skip ?_
      refine z_nt ?_
      refine T_seq ?_
      refine T_seq ?_
      refine T_region ?_
      refine TL_y (y_move (e_t rfl)) ?_
      refine TL_y (y_move (e_t rfl)) ?_
      refine TL_y (y8_lss (e_t rfl) (e_t rfl)) ?_
      refine TL_nil ?_
      refine z_nt ?_
      refine T_cond rfl (fun hb6 => ?_) (fun hb6 => ?_)
      · replace h := cond_t hb6 h
        refine T_seq ?_
        refine T_region ?_
        refine TL_y (y_assign (e_i (-1))) ?_
        refine TL_nil ?_
        refine z_nt ?_
        refine T_ret ?_
        refine z_rt ?_
        obtain rfl := Option.some.inj h
        exact Z_ret1 (fn := Try.f70) rfl (rv_t rfl)
      · replace h := cond_f hb6 h
        refine T_skip ?_
        refine z_nt ?_
        refine T_seq ?_
        refine T_seq ?_
        refine T_region ?_
        refine TL_y (y_move (e_t rfl)) ?_
        refine TL_y (y_move (e_t rfl)) ?_
        refine TL_y (y8_gtr (e_t rfl) (e_t rfl)) ?_
        refine TL_nil ?_
        refine z_nt ?_
        refine T_cond rfl (fun hb7 => ?_) (fun hb7 => ?_)
        · replace h := cond_t hb7 h
          refine T_seq ?_
          refine T_region ?_
          refine TL_y (y_assign (e_i (1))) ?_
          refine TL_nil ?_
          refine z_nt ?_
          refine T_ret ?_
          refine z_rt ?_
          obtain rfl := Option.some.inj h
          exact Z_ret1 (fn := Try.f70) rfl (rv_t rfl)
        · replace h := cond_f hb7 h
          refine T_skip ?_
          refine z_nt ?_
          refine T_seq ?_
          refine T_region ?_
          refine TL_y (y_assign (e_i (0))) ?_
          refine TL_nil ?_
          refine z_nt ?_
          refine T_ret ?_
          obtain rfl := Option.some.inj h
          exact Z_ret1 (fn := Try.f70) rfl (rv_t rfl)
def sl_Compare_byte_l0 (a1 : (List UInt8)) : List UInt8 → Nat → Unit → Option (Lo Int (Unit))
  | [], _, _ => some (.fall ())
  | x6 :: xsx6, i2, _ => (bif (decide ((a1.length : Int) ≤ (i2 : Int))) then some (.ret 1) else (ix a1 (i2 : Int)).bind fun t8 => (cmp_Compare_byte x6 t8).bind fun t9 => (bif (!decide (t9 = 0)) then some (.ret t9) else sl_Compare_byte_l0 a1 xsx6 (i2 + 1) ()))
def sl_Compare_byte (a0 : (List UInt8)) (a1 : (List UInt8)) : Option Int := ((sl_Compare_byte_l0 a1 a0 0 ()).bind fun o3 => match o3 with | .ret q => some q | .fall _ => (bif (decide ((a0.length : Int) < (a1.length : Int))) then some (-1) else some 0))
theorem sl_Compare_byte_ok {a0 : (List UInt8)} {a1 : (List UInt8)} {r : Int} (h : sl_Compare_byte a0 a1 = some r) : Fn Try.prog 42 [.d a0, .d a1] (.d r) := by
  refine Fn.of Try.func42 rfl fun w m => ?_
  unfold sl_Compare_byte at h
  refine T_seq ?_
  refine T_region ?_
  refine TL_y (y_assign (e_i (0))) ?_
  refine TL_nil ?_
  refine z_nt ?_
  refine T_seq ?_
  refine T_seq ?_
  refine T_region ?_
  refine TL_y (y_move (e_t rfl)) ?_
  refine TL_y (y_len (e_t rfl) (by rw [el75]; exact Try.underlying75)) ?_
  refine TL_y (y_move (e_i (0))) ?_
  refine TL_nil ?_
  refine z_nt ?_
  obtain ⟨o3, ho3, h⟩ := bind_some h
  refine T_loopin (S := fun (_ : Unit) => ⟨[(0, .d (a0 : (List UInt8))), (1, .d (a1 : (List UInt8)))], ⟨[], [], []⟩⟩) (fun s1 => o3 = .fall s1) (fun s1 e => ?_) (fun hfall4 => ?_)
  · subst e
    dsimp only at h
    refine z_nt ?_
    refine T_seq ?_
    refine T_seq ?_
    refine T_region ?_
    refine TL_y (y_move (e_t rfl)) ?_
    refine TL_y (y_len (e_t rfl) (by rw [el75]; exact Try.underlying75)) ?_
    refine TL_y (y_move (e_t rfl)) ?_
    refine TL_y (y_len (e_t rfl) (by rw [el75]; exact Try.underlying75)) ?_
    refine TL_y (y_lss (e_t rfl) (e_t rfl)) ?_
    refine TL_nil ?_
    refine z_nt ?_
    refine T_cond rfl (fun hb11 => ?_) (fun hb11 => ?_)
    · replace h := cond_t hb11 h
      refine T_seq ?_
      refine T_region ?_
      refine TL_y (y_assign (e_i (-1))) ?_
      refine TL_nil ?_
      refine z_nt ?_
      refine T_ret ?_
      refine z_rt ?_
      obtain rfl := Option.some.inj h
      exact Z_ret1 (fn := Try.f42) rfl (rv_t rfl)
    · replace h := cond_f hb11 h
      refine T_skip ?_
      refine z_nt ?_
      refine T_seq ?_
      refine T_region ?_
      refine TL_y (y_assign (e_i (0))) ?_
      refine TL_nil ?_
      refine z_nt ?_
      refine T_ret ?_
      obtain rfl := Option.some.inj h
      exact Z_ret1 (fn := Try.f42) rfl (rv_t rfl)
  · have hret5 : ∀ q, o3 = .ret q → q = r := fun q e => by
      subst e
      dsimp only at h
      exact Option.some.inj h
    clear h
    refine TW_le (le_k (ks := [0, 1, 9, 10, 11]) (bs := []) (gs := []) (.cons rfl (.cons rfl (.cons rfl (.cons rfl (.cons rfl .nil))))) .nil .nil) (range_ind a0 (fun (i2 : Nat) (_ : Unit) => ⟨[(0, .d (a0 : (List UInt8))), (1, .d (a1 : (List UInt8))), (9, .d (a0 : (List UInt8))), (10, .d ((a0.length : Int) : Int)), (11, .d ((i2 : Int) : Int))], ⟨[], [], []⟩⟩) (fun xs i s => sl_Compare_byte_l0 a1 xs i s = some o3) ?_ ?_ a0 0 () rfl ho3)
    · intro i s hi h
      refine TW_round (T_seq (T_region ?_))
      refine TL_y (y_lss (e_t rfl) (e_t rfl)) (TL_nil (z_nt (T_seq (T_cond rfl (fun hb => (dec_lt hi hb).elim) (fun _ => T_exit ?_)))))
      refine z_et ?_
      refine z_et ?_
      refine z_ei ?_
      exact Z_le (le_k (ks := [0, 1]) (bs := []) (gs := []) (.cons rfl (.cons rfl .nil)) .nil .nil) (hfall4 _ (Option.some.inj h).symm)
    · intro x6 xsx6 i2 s1 hltx6 hx6 ih h
      replace h : ((bif (decide ((a1.length : Int) ≤ (i2 : Int))) then some (.ret 1) else (ix a1 (i2 : Int)).bind fun t8 => (cmp_Compare_byte x6 t8).bind fun t9 => (bif (!decide (t9 = 0)) then some (.ret t9) else sl_Compare_byte_l0 a1 xsx6 (i2 + 1) ()))) = some o3 := h
      refine TW_round ?_
      refine T_seq (T_region ?_)
      refine TL_y (y_lss (e_t rfl) (e_t rfl)) (TL_nil (z_nt (T_seq (T_cond rfl (fun _ => ?_) (fun hb => (dec_ge hltx6 hb).elim)))))
      refine T_skip ?_
      refine z_nt ?_
      refine T_seq ?_
      refine T_block ?_
      refine T_seq ?_
      refine T_region ?_
      refine TL_y (y_move (e_t rfl)) ?_
      refine TL_y (y_indexNat (e_t rfl) (e_t rfl) hx6 tysl75) ?_
      refine TL_y (y_load_ptr (e_t rfl) ty5) ?_
      refine TL_y (y_assign (e_t rfl)) ?_
      refine TL_y (y_assign (e_t rfl)) ?_
      refine TL_nil ?_
      refine z_nt ?_
      refine T_seq ?_
      refine T_seq ?_
      refine T_region ?_
      refine TL_y (y_move (e_t rfl)) ?_
      refine TL_y (y_move (e_t rfl)) ?_
      refine TL_y (y_len (e_t rfl) (by rw [el75]; exact Try.underlying75)) ?_
      refine TL_y (y_geq (e_t rfl) (e_t rfl)) ?_
      refine TL_nil ?_
      refine z_nt ?_
      refine T_cond rfl (fun hb7 => ?_) (fun hb7 => ?_)
      · replace h := cond_t hb7 h
        refine T_seq ?_
        refine T_region ?_
        refine TL_y (y_assign (e_i (1))) ?_
        refine TL_nil ?_
        refine z_nt ?_
        refine T_ret ?_
        refine z_rt ?_
        refine z_rb ?_
        refine z_rt ?_
        refine z_rt ?_
        refine z_rb ?_
        refine z_rt ?_
        obtain rfl := hret5 _ (Option.some.inj h).symm
        exact Z_ret1 (fn := Try.f42) rfl (rv_t rfl)
      · replace h := cond_f hb7 h
        refine T_skip ?_
        refine z_nt ?_
        refine T_seq ?_
        refine T_region ?_
        refine TL_y (y_move (e_t rfl)) ?_
        refine TL_y (y_move (e_t rfl)) ?_
        obtain ⟨t8, ht8, h⟩ := bind_some h
        refine TL_y (y_indexIx (e_t rfl) (e_t rfl) ht8 tysl75) ?_
        refine TL_y (y_load_ptr (e_t rfl) ty5) ?_
        refine TL_y (y_assign (e_t rfl)) ?_
        refine TL_nil ?_
        refine z_nt ?_
        refine T_seq ?_
        refine T_region ?_
        refine TL_y (y_move (e_t rfl)) ?_
        refine TL_y (y_move (e_t rfl)) ?_
        obtain ⟨t9, ht9, h⟩ := bind_some h
        refine TL_call (xs := [.d (x6 : UInt8), .d (t8 : UInt8)]) (cmp_Compare_byte_ok ht9) ⟨(e_t rfl), (e_t rfl), trivial⟩ c70 ?_
        refine TL_y (y_assign (e_t rfl)) ?_
        refine TL_nil ?_
        refine z_nt ?_
        refine T_seq ?_
        refine T_region ?_
        refine TL_y (y_move (e_t rfl)) ?_
        refine TL_y (y_neq (e_t rfl) (e_i (0))) ?_
        refine TL_nil ?_
        refine z_nt ?_
        refine T_cond rfl (fun hb10 => ?_) (fun hb10 => ?_)
        · replace h := cond_t hb10 h
          refine T_seq ?_
          refine T_region ?_
          refine TL_y (y_move (e_t rfl)) ?_
          refine TL_y (y_assign (e_t rfl)) ?_
          refine TL_nil ?_
          refine z_nt ?_
          refine T_ret ?_
          refine z_rb ?_
          refine z_rt ?_
          refine z_rt ?_
          refine z_rb ?_
          refine z_rt ?_
          obtain rfl := hret5 _ (Option.some.inj h).symm
          exact Z_ret1 (fn := Try.f42) rfl (rv_t rfl)
        · replace h := cond_f hb10 h
          refine T_skip ?_
          refine z_nb ?_
          refine z_nt ?_
          refine T_region ?_
          refine TL_y (y_inc (q := 0) (e_t rfl) rfl hltx6) ?_
          refine TL_y (y_move (e_t rfl)) ?_
          refine TL_nil ?_
          refine z_nl ?_
          exact TW_le (le_k (ks := [0, 1, 9, 10, 11]) (bs := []) (gs := []) (.cons rfl (.cons rfl (.cons rfl (.cons rfl (.cons rfl .nil))))) .nil .nil) (ih _ h)
def ident_Compare (a0 : Id) (a1 : Id) : Option Int := (sl_Compare_byte a0.toList a1.toList).bind fun t1 => some t1
theorem ident_Compare_ok {a0 : Id} {a1 : Id} {r : Int} (h : ident_Compare a0 a1 = some r) : Fn Try.prog 17 [.d a0, .d a1] (.d r) := by
  refine Fn.of Try.func17 rfl fun w m => ?_
  unfold ident_Compare at h
  refine T_seq ?_
  refine T_region ?_
  refine TL_box (e_t rfl) ?_
  refine TL_box (e_t rfl) ?_
  refine TL_y (y_assign (e_i (0))) ?_
  refine TL_nil ?_
  refine z_nt ?_
  refine T_le (le_k (ks := [2, 0, 1, 3, 4]) (bs := [2, 3]) (gs := []) (ti := []) (.cons rfl (.cons rfl (.cons rfl (.cons rfl (.cons rfl .nil))))) (.cons rfl (.cons rfl .nil)) .nil) (T_freeze ?_)
  refine T_le (le_k (ks := [3, 0, 1, 2, 4]) (bs := [3]) (gs := []) (ti := []) (.cons rfl (.cons rfl (.cons rfl (.cons rfl (.cons rfl .nil))))) (.cons rfl .nil) .nil) (T_freeze ?_)
  refine T_seq ?_
  refine T_draw hmix (by kernel_rfl) ?_
  refine TQ_y (y_slice_arr (e_t rfl) tyar26 (by decide)) ?_
  refine TQ_y (y_slice_arr (e_t rfl) tyar26 (by decide)) ?_
  obtain ⟨t1, ht1, h⟩ := bind_some h
  refine TQ_y (y_call (xs := [.d (a0.toList : (List UInt8)), .d (a1.toList : (List UInt8))]) (sl_Compare_byte_ok ht1) ⟨(e_t rfl), (e_t rfl), trivial⟩ c42) ?_
  refine TQ_y (y_assign (e_t rfl)) ?_
  refine TQ_nil ?_
  refine z_nt ?_
  refine T_ret ?_
  obtain rfl := Option.some.inj h
  exact Z_ret1 (fn := Try.f17) rfl (rv_t rfl)
def ring_from_1 (a0 : Member) (a1 : Member) (a2 : Id) : Option Int := (ident_Far a2 a0.id).bind fun t1 => (ident_Far a2 a1.id).bind fun t2 => (ident_Compare t1 t2).bind fun t3 => some t3
theorem ring_from_1_ok {a0 : Member} {a1 : Member} {a2 : Id} {r : Int} (h : ring_from_1 a0 a1 a2 = some r) : Fn Try.prog 67 [.d a0, .d a1, .d (⟨a2⟩ : Ptr Id)] (.d r) := by
  refine Fn.of Try.func67 rfl fun w m => ?_
  unfold ring_from_1 at h
  refine T_seq ?_
  refine T_region ?_
  refine TL_box (e_t rfl) ?_
  refine TL_box (e_t rfl) ?_
  refine TL_y (y_assign (e_i (0))) ?_
  refine TL_nil ?_
  refine z_nt ?_
  refine T_seq ?_
  refine T_draw hmix (by kernel_rfl) ?_
  refine TQ_y (y_load_ptr (e_t rfl) ty26) ?_
  refine TQ_y (y_fieldAddr (e_t rfl) fo39_1) ?_
  refine TQ_y (y_load (e_t rfl) rfl s_Member_id ty26) ?_
  obtain ⟨t1, ht1, h⟩ := bind_some h
  refine TQ_y (y_call (xs := [.d (a2 : Id), .d (a0.id : Id)]) (ident_Far_ok ht1) ⟨(e_t rfl), (e_t rfl), trivial⟩ c18) ?_
  refine TQ_y (y_load_ptr (e_t rfl) ty26) ?_
  refine TQ_y (y_fieldAddr (e_t rfl) fo39_1) ?_
  refine TQ_y (y_load (e_t rfl) rfl s_Member_id ty26) ?_
  obtain ⟨t2, ht2, h⟩ := bind_some h
  refine TQ_y (y_call (xs := [.d (a2 : Id), .d (a1.id : Id)]) (ident_Far_ok ht2) ⟨(e_t rfl), (e_t rfl), trivial⟩ c18) ?_
  obtain ⟨t3, ht3, h⟩ := bind_some h
  refine TQ_y (y_call (xs := [.d (t1 : Id), .d (t2 : Id)]) (ident_Compare_ok ht3) ⟨(e_t rfl), (e_t rfl), trivial⟩ c17) ?_
  refine TQ_y (y_assign (e_t rfl)) ?_
  refine TQ_nil ?_
  refine z_nt ?_
  refine T_ret ?_
  obtain rfl := Option.some.inj h
  exact Z_ret1 (fn := Try.f67) rfl (rv_t rfl)
def ring_from (a0 : Id) : Option (Fn2 Member Member Int) := some (⟨fun x y => ring_from_1 x y a0⟩ : (Fn2 Member Member Int))
theorem ring_from_ok {a0 : Id} {r : (Fn2 Member Member Int)} (h : ring_from a0 = some r) : Fn Try.prog 40 [.d a0] (.d r) := by
  refine Fn.of Try.func40 rfl fun w m => ?_
  unfold ring_from at h
  refine T_seq ?_
  refine T_region ?_
  refine TL_box (e_t rfl) ?_
  refine TL_y (y_assign (e_x .nilFunc)) ?_
  refine TL_nil ?_
  refine z_nt ?_
  refine T_seq ?_
  refine T_region ?_
  refine TL_le (le_k (ks := [1, 0, 2]) (bs := [1]) (gs := []) (ti := []) (.cons rfl (.cons rfl (.cons rfl .nil))) (.cons rfl .nil) .nil) (TL_freeze ?_)
  refine TL_y (y_makeFunc2 (F := fun x y => ring_from_1 x y a0) (caps := [.d (⟨a0⟩ : Ptr Id)]) (fun x y r h => ring_from_1_ok h) ⟨(e_t rfl), trivial⟩ c67) ?_
  refine TL_y (y_assign (e_t rfl)) ?_
  refine TL_nil ?_
  refine z_nt ?_
  refine T_ret ?_
  obtain rfl := Option.some.inj h
  exact Z_ret1 (fn := Try.f40) rfl (rv_t rfl)
def sl_MinFunc_Member_l0 (a0 : (List Member)) (a1 : (Fn2 Member Member Int)) : Nat → Member × Int → Option (Member × Int)
  | 0, _ => none
  | ks6 + 1, s6 => (bif (decide (s6.2 < (a0.length : Int))) then (((ix a0 s6.2).bind fun t15 => (a1.f t15 s6.1).bind fun t16 => (bif (decide (t16 < 0)) then (ix a0 s6.2).bind fun t18 => some t18 else some s6.1) : Option (Member)).bind fun s12 => sl_MinFunc_Member_l0 a0 a1 ks6 (s12, (w64 (s6.2 + 1)))) else some (s6.1, s6.2))
def sl_MinFunc_Member (a0 : (List Member)) (a1 : (Fn2 Member Member Int)) : Option Member := (((bif (decide ((a0.length : Int) < 1)) then none else some ()) : Option (Unit)).bind fun _ => (ix a0 0).bind fun t5 => ((sl_MinFunc_Member_l0 a0 a1 FUEL (t5, 1)).bind fun s6 => some s6.1))
theorem sl_MinFunc_Member_ok {a0 : (List Member)} {a1 : (Fn2 Member Member Int)} {r : Member} (h : sl_MinFunc_Member a0 a1 = some r) : Fn Try.prog 39 [.d a0, .d a1] (.d r) := by
  refine Fn.of Try.func39 rfl fun w m => ?_
  unfold sl_MinFunc_Member at h
  refine T_seq ?_
  refine T_region ?_
  refine TL_alloc z39 ?_
  refine TL_nil ?_
  refine z_nt ?_
  obtain ⟨s1, hs1, h⟩ := bind_some h
  refine T_join (S := fun (_ : Unit) => ⟨[(0, .d (a0 : (List Member))), (1, .d (a1 : (Fn2 Member Member Int))), (4, .p 4 0)], ⟨[(4, ⟨(Member.zero : Member)⟩)], [], []⟩⟩) (fun z => s1 = z) (fun z e => ?_) (fun hfall2 => ?_)
  · subst e
    refine T_seq ?_
    refine T_region ?_
    refine TL_y (y_move (e_t rfl)) ?_
    obtain ⟨t5, ht5, h⟩ := bind_some h
    refine TL_y (y_indexIx (e_t rfl) (e_i (0)) ht5 tysl28) ?_
    refine TL_y (y_load_ptr (e_t rfl) ty39) ?_
    refine TL_alloc z39 ?_
    refine TL_store (e_t rfl) rfl (e_t rfl) Put.self ty39 (by decide) ?_
    refine TL_nil ?_
    refine z_nt ?_
    refine T_seq ?_
    refine T_seq ?_
    refine T_region ?_
    refine TL_y (y_assign (e_i (1))) ?_
    refine TL_nil ?_
    refine z_nt ?_
    obtain ⟨o8, ho8, h⟩ := bind_some h
    refine T_loopin (S := fun (s6 : Member × Int) => ⟨[(4, .p 4 0), (5, .p 5 0), (6, .d (s6.2 : Int))], ⟨[(4, ⟨(Member.zero : Member)⟩), (5, ⟨(s6.1 : Member)⟩)], [], []⟩⟩) (fun z => z = o8) (fun s6 e => ?_) (fun hfall9 => ?_)
    · subst e
      refine z_nt ?_
      refine T_seq ?_
      refine T_region ?_
      refine TL_y (y_load (e_t rfl) rfl Sub.self ty39) ?_
      refine TL_store (e_t rfl) rfl (e_t rfl) Put.self ty39 (by decide) ?_
      refine TL_nil ?_
      refine z_nt ?_
      refine T_ret ?_
      obtain rfl := Option.some.inj h
      exact Z_ret1 (fn := Try.f39) rfl (rv_c rfl rfl ty39)
    · clear h
      refine TW_le (le_k (ks := [0, 1, 4, 5, 6]) (bs := [4, 5]) (gs := []) (.cons rfl (.cons rfl (.cons rfl (.cons rfl (.cons rfl .nil))))) (.cons rfl (.cons rfl .nil)) .nil) (fuel_ind (fun (s6 : Member × Int) => ⟨[(0, .d (a0 : (List Member))), (1, .d (a1 : (Fn2 Member Member Int))), (4, .p 4 0), (5, .p 5 0), (6, .d (s6.2 : Int))], ⟨[(4, ⟨(Member.zero : Member)⟩), (5, ⟨(s6.1 : Member)⟩)], [], []⟩⟩) (fun k s => sl_MinFunc_Member_l0 a0 a1 k s = some o8) ?_ ?_ _ (t5, 1) ho8)
      · intro s h
        cases h
      · intro ks6 s6 ih h
        replace h : ((bif (decide (s6.2 < (a0.length : Int))) then (((ix a0 s6.2).bind fun t15 => (a1.f t15 s6.1).bind fun t16 => (bif (decide (t16 < 0)) then (ix a0 s6.2).bind fun t18 => some t18 else some s6.1) : Option (Member)).bind fun s12 => sl_MinFunc_Member_l0 a0 a1 ks6 (s12, (w64 (s6.2 + 1)))) else some (s6.1, s6.2))) = some o8 := h
        refine TW_round ?_
        refine T_seq ?_
        refine T_seq ?_
        refine T_region ?_
        refine TL_y (y_move (e_t rfl)) ?_
        refine TL_y (y_move (e_t rfl)) ?_
        refine TL_y (y_len (e_t rfl) (by rw [el28]; exact Try.underlying28)) ?_
        refine TL_y (y_lss (e_t rfl) (e_t rfl)) ?_
        refine TL_nil ?_
        refine z_nt ?_
        refine T_cond rfl (fun hb11 => ?_) (fun hb11 => ?_)
        · replace h := cond_t hb11 h
          refine T_skip ?_
          refine z_nt ?_
          obtain ⟨s12, hs12, h⟩ := bind_some h
          refine T_join (S := fun (s12 : Member) => ⟨[(0, .d (a0 : (List Member))), (1, .d (a1 : (Fn2 Member Member Int))), (4, .p 4 0), (5, .p 5 0), (6, .d (s6.2 : Int))], ⟨[(4, ⟨(Member.zero : Member)⟩), (5, ⟨(s12 : Member)⟩)], [], []⟩⟩) (fun z => s12 = z) (fun z e => ?_) (fun hfall13 => ?_)
          · subst e
            refine T_region ?_
            refine TL_y (y_move (e_t rfl)) ?_
            refine TL_y (y_add (e_t rfl) (e_i (1))) ?_
            refine TL_y (y_assign (e_t rfl)) ?_
            refine TL_nil ?_
            refine z_nl ?_
            exact TW_le (le_k (ks := [0, 1, 4, 5, 6]) (bs := [4, 5]) (gs := []) (.cons rfl (.cons rfl (.cons rfl (.cons rfl (.cons rfl .nil))))) (.cons rfl (.cons rfl .nil)) .nil) (ih _ h)
          · clear h
            have h := hs12
            refine T_block ?_
            refine T_seq ?_
            refine T_draw hmix (by kernel_rfl) ?_
            refine TQ_y (y_move (e_t rfl)) ?_
            refine TQ_y (y_move (e_t rfl)) ?_
            refine TQ_y (y_move (e_t rfl)) ?_
            obtain ⟨t15, ht15, h⟩ := bind_some h
            refine TQ_y (y_indexIx (e_t rfl) (e_t rfl) ht15 tysl28) ?_
            refine TQ_y (y_load_ptr (e_t rfl) ty39) ?_
            refine TQ_y (y_load (e_t rfl) rfl Sub.self ty39) ?_
            obtain ⟨t16, ht16, h⟩ := bind_some h
            refine TQ_y (y_callv2 (e_t rfl) (e_t rfl) (e_t rfl) ht16) ?_
            refine TQ_y (y_lss (e_t rfl) (e_i (0))) ?_
            refine TQ_nil ?_
            refine z_nt ?_
            refine T_cond rfl (fun hb17 => ?_) (fun hb17 => ?_)
            · replace h := cond_t hb17 h
              refine T_region ?_
              refine TL_y (y_move (e_t rfl)) ?_
              refine TL_y (y_move (e_t rfl)) ?_
              obtain ⟨t18, ht18, h⟩ := bind_some h
              refine TL_y (y_indexIx (e_t rfl) (e_t rfl) ht18 tysl28) ?_
              refine TL_y (y_load_ptr (e_t rfl) ty39) ?_
              refine TL_store (e_t rfl) rfl (e_t rfl) Put.self ty39 (by decide) ?_
              refine TL_nil ?_
              refine z_nb ?_
              exact Z_le (le_k (ks := [0, 1, 4, 5, 6]) (bs := [4, 5]) (gs := []) (.cons rfl (.cons rfl (.cons rfl (.cons rfl (.cons rfl .nil))))) (.cons rfl (.cons rfl .nil)) .nil) (hfall13 _ (Option.some.inj h).symm)
            · replace h := cond_f hb17 h
              refine T_skip ?_
              refine z_nb ?_
              exact Z_le (le_k (ks := [0, 1, 4, 5, 6]) (bs := [4, 5]) (gs := []) (.cons rfl (.cons rfl (.cons rfl (.cons rfl (.cons rfl .nil))))) (.cons rfl (.cons rfl .nil)) .nil) (hfall13 _ (Option.some.inj h).symm)
        · replace h := cond_f hb11 h
          refine T_exit ?_
          refine z_et ?_
          refine z_et ?_
          refine z_ei ?_
          exact Z_le (le_k (ks := [4, 5, 6]) (bs := [4, 5]) (gs := []) (.cons rfl (.cons rfl (.cons rfl .nil))) (.cons rfl (.cons rfl .nil)) .nil) (hfall9 _ (Option.some.inj h))
  · clear h
    have h := hs1
    refine T_seq ?_
    refine T_region ?_
    refine TL_y (y_move (e_t rfl)) ?_
    refine TL_y (y_len (e_t rfl) (by rw [el28]; exact Try.underlying28)) ?_
    refine TL_y (y_lss (e_t rfl) (e_i (1))) ?_
    refine TL_nil ?_
    refine z_nt ?_
    refine T_cond rfl (fun hb4 => ?_) (fun hb4 => ?_)
    · replace h := cond_t hb4 h
      refine T_region ?_
      cases h
    · replace h := cond_f hb4 h
      refine T_skip ?_
      exact Z_le (le_k (ks := [0, 1, 4]) (bs := [4]) (gs := []) (.cons rfl (.cons rfl (.cons rfl .nil))) (.cons rfl .nil) .nil) (hfall2 _ (Option.some.inj h).symm)
def ring_Owner (a0 : (List Member)) (a1 : Id) : Option (Member × Int) := (ring_Right a0).bind fun t1 => (bif (!t1) then some ((Member.zero : Member), 1) else (bif (decide ((a0.length : Int) = 0)) then some ((Member.zero : Member), 6) else (ring_from a1).bind fun t4 => (sl_MinFunc_Member a0 t4).bind fun t5 => some (t5, 0)))
theorem ring_Owner_ok {a0 : (List Member)} {a1 : Id} {r : (Member × Int)} (h : ring_Owner a0 a1 = some r) : Fn Try.prog 15 [.d a0, .d a1] (.t2 (.d r.1) (.d r.2)) := by
  refine Fn.of Try.func15 rfl fun w m => ?_
  unfold ring_Owner at h
  refine T_seq ?_
  refine T_region ?_
  refine TL_box (e_t rfl) ?_
  refine TL_alloc z39 ?_
  refine TL_y (y_assign (e_i (0))) ?_
  refine TL_nil ?_
  refine z_nt ?_
  refine T_seq ?_
  refine T_block ?_
  refine T_seq ?_
  refine T_region ?_
  refine TL_y (y_move (e_t rfl)) ?_
  obtain ⟨t1, ht1, h⟩ := bind_some h
  refine TL_call (xs := [.d (a0 : (List Member))]) (ring_Right_ok ht1) ⟨(e_t rfl), trivial⟩ c38 ?_
  refine TL_y (y_not (e_t rfl)) ?_
  refine TL_y (y_assign (e_t rfl)) ?_
  refine TL_nil ?_
  refine z_nt ?_
  refine T_cond rfl (fun hb2 => ?_) (fun hb2 => ?_)
  · replace h := cond_t hb2 h
    refine T_seq ?_
    refine T_region ?_
    refine TL_y (y_build z39 pl39 (b_nil) rfl) ?_
    refine TL_store (e_t rfl) rfl (e_t rfl) Put.self ty39 (by decide) ?_
    refine TL_y (y_assign (e_i (1))) ?_
    refine TL_nil ?_
    refine z_nt ?_
    refine T_ret ?_
    refine z_rb ?_
    refine z_rt ?_
    obtain rfl := Option.some.inj h
    exact Z_ret2 (fn := Try.f15) rfl (rv_c rfl rfl ty39) (rv_t rfl)
  · replace h := cond_f hb2 h
    refine T_seq ?_
    refine T_region ?_
    refine TL_y (y_move (e_t rfl)) ?_
    refine TL_y (y_len (e_t rfl) (by rw [el28]; exact Try.underlying28)) ?_
    refine TL_y (y_eql (e_t rfl) (e_i (0))) ?_
    refine TL_y (y_assign (e_t rfl)) ?_
    refine TL_nil ?_
    refine z_nt ?_
    refine T_cond rfl (fun hb3 => ?_) (fun hb3 => ?_)
    · replace h := cond_t hb3 h
      refine T_seq ?_
      refine T_region ?_
      refine TL_y (y_build z39 pl39 (b_nil) rfl) ?_
      refine TL_store (e_t rfl) rfl (e_t rfl) Put.self ty39 (by decide) ?_
      refine TL_y (y_assign (e_i (6))) ?_
      refine TL_nil ?_
      refine z_nt ?_
      refine T_ret ?_
      refine z_rb ?_
      refine z_rt ?_
      obtain rfl := Option.some.inj h
      exact Z_ret2 (fn := Try.f15) rfl (rv_c rfl rfl ty39) (rv_t rfl)
    · replace h := cond_f hb3 h
      refine T_skip ?_
      refine z_nb ?_
      refine z_nt ?_
      refine T_seq ?_
      refine T_region ?_
      refine TL_y (y_move (e_t rfl)) ?_
      refine TL_y (y_load (e_t rfl) rfl Sub.self ty26) ?_
      obtain ⟨t4, ht4, h⟩ := bind_some h
      refine TL_call (xs := [.d (a1 : Id)]) (ring_from_ok ht4) ⟨(e_t rfl), trivial⟩ c40 ?_
      obtain ⟨t5, ht5, h⟩ := bind_some h
      refine TL_call (xs := [.d (a0 : (List Member)), .d (t4 : (Fn2 Member Member Int))]) (sl_MinFunc_Member_ok ht5) ⟨(e_t rfl), (e_t rfl), trivial⟩ c39 ?_
      refine TL_store (e_t rfl) rfl (e_t rfl) Put.self ty39 (by decide) ?_
      refine TL_y (y_assign (e_i (0))) ?_
      refine TL_nil ?_
      refine z_nt ?_
      refine T_ret ?_
      obtain rfl := Option.some.inj h
      exact Z_ret2 (fn := Try.f15) rfl (rv_c rfl rfl ty39) (rv_t rfl)
def ring_turned_1 (a0 : Member) (a1 : Int) : Option Bool := some (decide (a0.no = a1))
theorem ring_turned_1_ok {a0 : Member} {a1 : Int} {r : Bool} (h : ring_turned_1 a0 a1 = some r) : Fn Try.prog 89 [.d a0, .d (⟨a1⟩ : Ptr Int)] (.d r) := by
  refine Fn.of Try.func89 rfl fun w m => ?_
  unfold ring_turned_1 at h
  refine T_seq ?_
  refine T_region ?_
  refine TL_box (e_t rfl) ?_
  refine TL_y (y_assign (e_b false)) ?_
  refine TL_nil ?_
  refine z_nt ?_
  refine T_seq ?_
  refine T_region ?_
  refine TL_y (y_fieldAddr (e_t rfl) fo39_0) ?_
  refine TL_y (y_load (e_t rfl) rfl s_Member_no ty3) ?_
  refine TL_y (y_load_ptr (e_t rfl) ty3) ?_
  refine TL_y (y_eql (e_t rfl) (e_t rfl)) ?_
  refine TL_y (y_assign (e_t rfl)) ?_
  refine TL_nil ?_
  refine z_nt ?_
  refine T_ret ?_
  obtain rfl := Option.some.inj h
  exact Z_ret1 (fn := Try.f89) rfl (rv_t rfl)
def sl_AppendSeq_Member_l0 (fin : Bool) : List Member → (List Member) → Option ((List Member))
  | [], s1 => bif fin then some s1 else none
  | x3 :: xsx3, s1 => (app s1 ([x3] : List Member)).bind fun t4 => sl_AppendSeq_Member_l0 fin xsx3 t4
def sl_AppendSeq_Member (a1 : (Sq Member)) : Option (List Member) := ((sl_AppendSeq_Member_l0 a1.fin a1.xs ([] : List Member)).bind fun s1 => some s1)
theorem sl_AppendSeq_Member_ok {a1 : (Sq Member)} {r : (List Member)} (h : sl_AppendSeq_Member a1 = some r) : FnL Try.prog 83 [.x (.slice none 0 0), .d a1] ⟨[], [], []⟩ (.g 5000) ⟨[], [(5000, ⟨39, (r : List Member)⟩)], []⟩ [] [] := by
  refine FnL.ofO Try.func83 rfl fun w m V hl => ?_
  unfold sl_AppendSeq_Member at h
  refine T_seq ?_
  refine T_region ?_
  refine TL_box_nilg (δ := Member) 1002 39 (e_t rfl) ?_
  refine TL_y (y_assign (e_nil (α := Member))) ?_
  refine TL_nil ?_
  refine z_nt ?_
  refine T_seq ?_
  refine T_seq ?_
  refine T_region ?_
  refine TL_y (y_move (e_t rfl)) ?_
  refine TL_nil ?_
  refine z_nt ?_
  refine T_block ?_
  obtain ⟨o2, ho2, h⟩ := bind_some h
  refine T_range1 (F := a1) [2] [(2, .p 2 0)] (fun (s1 : (List Member)) => ⟨[(2, ⟨(s1 : (List Member))⟩)], [(1002, ⟨39, (s1 : List Member)⟩)], [((2, 0), 1002)]⟩) (fun (_ : Unit) => ⟨[], [], []⟩) (fun _ => .ret) (fun xs s => sl_AppendSeq_Member_l0 a1.fin xs s = some o2) (fun _ => False) ([] : List Member) hl (ordJ_law w) (e_t rfl) (le_k (ks := [2]) (bs := [2]) (gs := [1002]) (.cons rfl .nil) (.cons rfl .nil) (.cons rfl .nil)) ho2 (fun hf s hg => fin_no hg hf) ?_ ?_ ?_
  · intro x3 xsx3 s1 hgx3 D l lr cs mr mk wr R hmk hrs hn hx
    clear h
    have h : ((app s1 ([x3] : List Member)).bind fun t4 => sl_AppendSeq_Member_l0 a1.fin xsx3 t4) = some o2 := hgx3
    refine T_region ?_
    refine TL_alloc z39 ?_
    refine TL_store (e_t rfl) rfl (e_t rfl) Put.self ty39 (by decide) ?_
    refine TL_nil ?_
    refine Z_begin hrs hmk ?_
    refine T_block ?_
    refine T_region ?_
    refine TL_y (y_load_tied (nm := 1002) (e_t rfl) (ti_in rfl) Try.isAgg28 ⟨_, rfl⟩) ?_
    refine TL_y (y_load (e_t rfl) rfl Sub.self ty39) ?_
    refine TL_buildSlice (xs := ([x3] : List Member)) (⟨rfl, (e_t rfl), trivial⟩) tyel28 rfl ?_
    obtain ⟨t4, ht4, h⟩ := bind_some h
    refine TL_g2d (q := 10) rfl rfl ?_
    refine TL_append (e_t rfl) rfl (e_t rfl) ht4 tyel28 ?_
    refine TL_store_g (e_t rfl) rfl (e_t rfl) rfl Put.self ty28 (by decide) ?_
    refine TL_nil ?_
    refine z_nb ?_
    exact Z_le (le_k (ks := []) (bs := [2]) (gs := [1002]) .nil (.cons rfl .nil) (.cons rfl .nil)) (hn _ _ h)
  · intro V hl s1 hg
    have e := fin_some hg
    subst e
    refine z_nb ?_
    refine z_nt ?_
    refine T_seq ?_
    refine T_region ?_
    refine TL_y (y_load_tied (nm := 1002) (e_t rfl) (ti_in rfl) Try.isAgg28 ⟨_, rfl⟩) ?_
    refine TL_y (y_assign (e_t rfl)) ?_
    refine TL_nil ?_
    refine z_nt ?_
    refine T_ret ?_
    obtain rfl := Option.some.inj h
    exact zo_ret1 (n := _) hl (fn := Try.f83) rfl rfl rfl
  · intro V hl t e
    exact e.elim
def sl_Collect_Member (a0 : (Sq Member)) : Option (List Member) := (sl_AppendSeq_Member a0).bind fun t1 => some t1
theorem sl_Collect_Member_ok {a0 : (Sq Member)} {r : (List Member)} (h : sl_Collect_Member a0 = some r) : FnL Try.prog 56 [.d a0] ⟨[], [], []⟩ (.g 5000) ⟨[], [(5000, ⟨39, (r : List Member)⟩)], []⟩ [] [] := by
  refine FnL.ofO Try.func56 rfl fun w m V hl => ?_
  unfold sl_Collect_Member at h
  refine T_seq ?_
  refine T_region ?_
  refine TL_y (y_assign (e_nil (α := Member))) ?_
  refine TL_nil ?_
  refine z_nt ?_
  refine T_seq ?_
  refine T_region ?_
  refine TL_y (y_move (e_t rfl)) ?_
  obtain ⟨t1, ht1, h⟩ := bind_some h
  have hct1 : FnL Try.prog 83 [.x (.slice none 0 0), .d (a0 : (Sq Member))] ⟨[], [], []⟩ (.g 5004) ⟨[], [(5004, ⟨39, (t1 : List Member)⟩)], []⟩ [] [] := (sl_AppendSeq_Member_ok ht1).sw 3000 3000 5000 5004
  refine TL_callL hct1 ⟨(e_x (.slice none 0 0)), (e_t rfl), trivial⟩ c83 ⟨[], [], []⟩ [(0, .d (a0 : (Sq Member))), (2, .d (([] : List Member) : (List Member))), (3, .d (a0 : (Sq Member)))] (le_k (ks := []) (bs := []) (gs := []) .nil .nil .nil) (le_k (ks := [0, 2, 3]) (bs := []) (gs := []) (.cons rfl (.cons rfl (.cons rfl .nil))) .nil .nil) (TL_le (s' := ⟨[(0, .d (a0 : (Sq Member))), (2, .d (([] : List Member) : (List Member))), (3, .d (a0 : (Sq Member))), (4, .g 5004)], ⟨[], [(5004, ⟨39, (t1 : List Member)⟩)], []⟩⟩) (le_k (ks := [0, 2, 3, 4]) (bs := []) (gs := [5004]) (.cons rfl (.cons rfl (.cons rfl (.cons rfl .nil)))) .nil (.cons rfl .nil)) ?_) trivial ⟨.inr rfl, trivial⟩
  refine TL_y (y_assign (e_t rfl)) ?_
  refine TL_nil ?_
  refine z_nt ?_
  refine T_ret ?_
  obtain rfl := Option.some.inj h
  exact zo_ret1 (n := _) hl (fn := Try.f56) rfl rfl rfl
end Go.Ph
set_option maxRecDepth 4000
set_option maxHeartbeats 4000000
namespace Go.Ph
open Go.Proofs
def sl_insertionSortCmpFunc_Member_l1 (a1 : Int) (a3 : (Fn2 Member Member Int)) : Nat → (List Member) × Int → Option ((List Member) × Int)
  | 0, _ => none
  | ks7 + 1, s7 => ((bif (decide (a1 < s7.2)) then (ix s7.1 s7.2).bind fun t17 => (ix s7.1 (w64 (s7.2 - 1))).bind fun t18 => (a3.f t17 t18).bind fun t19 => some (decide (t19 < 0)) else some false)).bind fun t16 => (bif t16 then (ix s7.1 (w64 (s7.2 - 1))).bind fun t21 => (ix s7.1 s7.2).bind fun t22 => (ix s7.1 s7.2).bind fun t23 => (ix (s7.1.set s7.2.toNat t21) (w64 (s7.2 - 1))).bind fun t24 => sl_insertionSortCmpFunc_Member_l1 a1 a3 ks7 (((s7.1.set s7.2.toNat t21).set (w64 (s7.2 - 1)).toNat t22), (w64 (s7.2 - 1))) else some (s7.1, s7.2))
def sl_insertionSortCmpFunc_Member_l0 (a2 : Int) (a1 : Int) (a3 : (Fn2 Member Member Int)) : Nat → (List Member) × Int → Option ((List Member) × Int)
  | 0, _ => none
  | ks1 + 1, s1 => (bif (decide (s1.2 < a2)) then ((sl_insertionSortCmpFunc_Member_l1 a1 a3 FUEL (s1.1, s1.2)).bind fun s7 => sl_insertionSortCmpFunc_Member_l0 a2 a1 a3 ks1 (s7.1, (w64 (s1.2 + 1)))) else some (s1.1, s1.2))
def sl_insertionSortCmpFunc_Member (a0 : (List Member)) (a1 : Int) (a2 : Int) (a3 : (Fn2 Member Member Int)) : Option (List Member) := ((sl_insertionSortCmpFunc_Member_l0 a2 a1 a3 FUEL (a0, (w64 (a1 + 1)))).bind fun s1 => some s1.1)
theorem sl_insertionSortCmpFunc_Member_ok {a0 : (List Member)} {a1 : Int} {a2 : Int} {a3 : (Fn2 Member Member Int)} {r : (List Member)} (h : sl_insertionSortCmpFunc_Member a0 a1 a2 a3 = some r) : FnL Try.prog 122 [.g 5000, .d a1, .d a2, .d a3] ⟨[], [(5000, ⟨39, (a0 : List Member)⟩)], []⟩ (.x (.tuple #[])) ⟨[], [(5000, ⟨39, (r : List Member)⟩)], []⟩ [] [5000] := by
  refine FnL.of Try.func122 rfl fun w m S0 β γ => ?_
  unfold sl_insertionSortCmpFunc_Member at h
  refine T_seq ?_
  refine T_region ?_
  refine TL_y (y_move (e_t rfl)) ?_
  refine TL_y (y_add (e_t rfl) (e_i (1))) ?_
  refine TL_y (y_assign (e_t rfl)) ?_
  refine TL_nil ?_
  refine z_nt ?_
  obtain ⟨o3, ho3, h⟩ := bind_some h
  refine T_loopin (S := fun (s1 : (List Member) × Int) => ⟨[(0, .g 5000), (8, .d (s1.2 : Int))], ⟨[], [(5000, ⟨39, (s1.1 : List Member)⟩)], []⟩⟩) (fun z => z = o3) (fun s1 e => ?_) (fun hfall4 => ?_)
  · subst e
    obtain rfl := Option.some.inj h
    exact zl_ret0 (n := _) ok_base (fn := Try.f122) rfl (le_k (ks := []) (bs := []) (gs := [5000]) .nil .nil (.cons rfl .nil))
  · clear h
    refine TW_le (le_k (ks := [0, 1, 2, 3, 8]) (bs := []) (gs := [5000]) (.cons rfl (.cons rfl (.cons rfl (.cons rfl (.cons rfl .nil))))) .nil (.cons rfl .nil)) (fuel_ind (fun (s1 : (List Member) × Int) => ⟨[(0, .g 5000), (1, .d (a1 : Int)), (2, .d (a2 : Int)), (3, .d (a3 : (Fn2 Member Member Int))), (8, .d (s1.2 : Int))], ⟨[], [(5000, ⟨39, (s1.1 : List Member)⟩)], []⟩⟩) (fun k s => sl_insertionSortCmpFunc_Member_l0 a2 a1 a3 k s = some o3) ?_ ?_ _ (a0, (w64 (a1 + 1))) ho3)
    · intro s h
      cases h
    · intro ks1 s1 ih h
      replace h : ((bif (decide (s1.2 < a2)) then ((sl_insertionSortCmpFunc_Member_l1 a1 a3 FUEL (s1.1, s1.2)).bind fun s7 => sl_insertionSortCmpFunc_Member_l0 a2 a1 a3 ks1 (s7.1, (w64 (s1.2 + 1)))) else some (s1.1, s1.2))) = some o3 := h
      refine TW_round ?_
      refine T_seq ?_
      refine T_seq ?_
      refine T_region ?_
      refine TL_y (y_move (e_t rfl)) ?_
      refine TL_y (y_move (e_t rfl)) ?_
      refine TL_y (y_lss (e_t rfl) (e_t rfl)) ?_
      refine TL_nil ?_
      refine z_nt ?_
      refine T_cond rfl (fun hb6 => ?_) (fun hb6 => ?_)
      · replace h := cond_t hb6 h
        refine T_skip ?_
        refine z_nt ?_
        refine T_seq ?_
        refine T_block ?_
        refine T_seq ?_
        refine T_region ?_
        refine TL_y (y_move (e_t rfl)) ?_
        refine TL_y (y_assign (e_t rfl)) ?_
        refine TL_nil ?_
        refine z_nt ?_
        obtain ⟨o9, ho9, h⟩ := bind_some h
        refine T_loopin (S := fun (s7 : (List Member) × Int) => ⟨[(0, .g 5000), (1, .d (a1 : Int)), (2, .d (a2 : Int)), (3, .d (a3 : (Fn2 Member Member Int))), (8, .d (s1.2 : Int)), (9, .d (s7.2 : Int))], ⟨[], [(5000, ⟨39, (s7.1 : List Member)⟩)], []⟩⟩) (fun z => z = o9) (fun s7 e => ?_) (fun hfall10 => ?_)
        · subst e
          refine z_nb ?_
          refine z_nt ?_
          refine T_region ?_
          refine TL_y (y_move (e_t rfl)) ?_
          refine TL_y (y_add (e_t rfl) (e_i (1))) ?_
          refine TL_y (y_assign (e_t rfl)) ?_
          refine TL_nil ?_
          refine z_nl ?_
          exact TW_le (le_k (ks := [0, 1, 2, 3, 8]) (bs := []) (gs := [5000]) (.cons rfl (.cons rfl (.cons rfl (.cons rfl (.cons rfl .nil))))) .nil (.cons rfl .nil)) (ih _ h)
        · clear h
          refine TW_le (le_k (ks := [0, 1, 2, 3, 8, 9]) (bs := []) (gs := [5000]) (.cons rfl (.cons rfl (.cons rfl (.cons rfl (.cons rfl (.cons rfl .nil)))))) .nil (.cons rfl .nil)) (fuel_ind (fun (s7 : (List Member) × Int) => ⟨[(0, .g 5000), (1, .d (a1 : Int)), (2, .d (a2 : Int)), (3, .d (a3 : (Fn2 Member Member Int))), (8, .d (s1.2 : Int)), (9, .d (s7.2 : Int))], ⟨[], [(5000, ⟨39, (s7.1 : List Member)⟩)], []⟩⟩) (fun k s => sl_insertionSortCmpFunc_Member_l1 a1 a3 k s = some o9) ?_ ?_ _ (s1.1, s1.2) ho9)
          · intro s h
            cases h
          · intro ks7 s7 ih h
            replace h : (((bif (decide (a1 < s7.2)) then (ix s7.1 s7.2).bind fun t17 => (ix s7.1 (w64 (s7.2 - 1))).bind fun t18 => (a3.f t17 t18).bind fun t19 => some (decide (t19 < 0)) else some false)).bind fun t16 => (bif t16 then (ix s7.1 (w64 (s7.2 - 1))).bind fun t21 => (ix s7.1 s7.2).bind fun t22 => (ix s7.1 s7.2).bind fun t23 => (ix (s7.1.set s7.2.toNat t21) (w64 (s7.2 - 1))).bind fun t24 => sl_insertionSortCmpFunc_Member_l1 a1 a3 ks7 (((s7.1.set s7.2.toNat t21).set (w64 (s7.2 - 1)).toNat t22), (w64 (s7.2 - 1))) else some (s7.1, s7.2))) = some o9 := h
            refine TW_round ?_
            refine T_seq ?_
            refine T_seq ?_
            refine T_draw hmix (by kernel_rfl) ?_
            refine TQ_y (y_move (e_t rfl)) ?_
            refine TQ_y (y_move (e_t rfl)) ?_
            refine TQ_y (y_gtr (e_t rfl) (e_t rfl)) ?_
            refine TQ_y (y_move (e_t rfl)) ?_
            obtain ⟨t16, ht16, h⟩ := bind_some h
            refine TQ_cut 13 34 (r := t16) (decide (a1 < s7.2)) ?_ (fun hb12 hk => ?_) (fun hb12 hk => ?_)
            rotate_left
            · replace h := cond_t hb12 ht16
              refine TQ_want rfl hb12 ?_
              refine TQ_y (y_move (e_t rfl)) ?_
              refine TQ_want rfl hb12 ?_
              refine TQ_y (y_move (e_t rfl)) ?_
              refine TQ_want rfl hb12 ?_
              refine TQ_y (y_move (e_t rfl)) ?_
              refine TQ_want rfl hb12 ?_
              obtain ⟨t17, ht17, h⟩ := bind_some h
              refine TQ_y (y_index_ge (e_t rfl) (e_t rfl) rfl (ix_some ht17).1 (ix_lt ht17) tysl28) ?_
              refine TQ_want rfl hb12 ?_
              refine TQ_y (y_load_ge (i := s7.2.toNat) (off := 0) (e_t rfl) rfl (ix_some ht17).2 Sub.self ty39) ?_
              refine TQ_want rfl hb12 ?_
              refine TQ_y (y_move (e_t rfl)) ?_
              refine TQ_want rfl hb12 ?_
              refine TQ_y (y_move (e_t rfl)) ?_
              refine TQ_want rfl hb12 ?_
              refine TQ_y (y_sub (e_t rfl) (e_i (1))) ?_
              refine TQ_want rfl hb12 ?_
              obtain ⟨t18, ht18, h⟩ := bind_some h
              refine TQ_y (y_index_ge (e_t rfl) (e_t rfl) rfl (ix_some ht18).1 (ix_lt ht18) tysl28) ?_
              refine TQ_want rfl hb12 ?_
              refine TQ_y (y_load_ge (i := (w64 (s7.2 - 1)).toNat) (off := 0) (e_t rfl) rfl (ix_some ht18).2 Sub.self ty39) ?_
              refine TQ_want rfl hb12 ?_
              obtain ⟨t19, ht19, h⟩ := bind_some h
              refine TQ_y (y_callv2 (e_t rfl) (e_t rfl) (e_t rfl) ht19) ?_
              refine TQ_want rfl hb12 ?_
              refine TQ_y (y_lss (e_t rfl) (e_i (0))) ?_
              obtain rfl := Option.some.inj h
              refine TQ_y (y_pick_t (e_t rfl) hb12 (e_t rfl)) ?_
              exact TQ_fr hk (.cons (.cons (.cons (.cons (.cons (.cons (.cons (.cons (.cons (.cons (.cons (.cons (.refl _) rfl) rfl) rfl) rfl) rfl) rfl) rfl) rfl) rfl) rfl) rfl) rfl)
            · obtain rfl := Option.some.inj (cond_f hb12 ht16)
              refine TQ_skip0 rfl hb12 ?_
              refine TQ_skip0 rfl hb12 ?_
              refine TQ_skip0 rfl hb12 ?_
              refine TQ_skip0 rfl hb12 ?_
              refine TQ_skip0 rfl hb12 ?_
              refine TQ_skip0 rfl hb12 ?_
              refine TQ_skip0 rfl hb12 ?_
              refine TQ_skip0 rfl hb12 ?_
              refine TQ_skip0 rfl hb12 ?_
              refine TQ_skip0 rfl hb12 ?_
              refine TQ_skip0 rfl hb12 ?_
              refine TQ_skip0 rfl hb12 ?_
              refine TQ_y (y_pick_f (e_t rfl) hb12 (e_b false)) ?_
              exact TQ_fr hk (.refl _)
            refine TQ_nil ?_
            refine z_nt ?_
            refine T_cond rfl (fun hb20 => ?_) (fun hb20 => ?_)
            · replace h := cond_t hb20 h
              refine T_skip ?_
              refine z_nt ?_
              refine T_seq ?_
              refine T_block ?_
              refine T_le (le_k (ks := [0, 1, 2, 3, 8, 9, 18, 19, 20, 21, 34]) (bs := []) (gs := [5000]) (ti := []) (.cons rfl (.cons rfl (.cons rfl (.cons rfl (.cons rfl (.cons rfl (.cons rfl (.cons rfl (.cons rfl (.cons rfl (.cons rfl .nil))))))))))) .nil (.cons rfl .nil)) ?_
              obtain ⟨t21, ht21, h⟩ := bind_some h
              obtain ⟨t22, ht22, h⟩ := bind_some h
              obtain ⟨t23, ht23, h⟩ := bind_some h
              obtain ⟨t24, ht24, h⟩ := bind_some h
              refine T_drawn hmix (by kernel_rfl) (by kernel_rfl) [some (.g 5000), some (.d (s7.2 : Int)), some (.g 5000), some (.d (s7.2 : Int)), some (.d ((w64 (s7.2 - 1)) : Int)), some (.g 5000), some (.d (s7.2 : Int)), some (.d ((w64 (s7.2 - 1)) : Int)), some (.ge 5000 ((w64 (s7.2 - 1)).toNat * 33 + 0)), some (.d (t21 : Member)), some (.g 5000), some (.d (s7.2 : Int)), some (.ge 5000 (s7.2.toNat * 33 + 0)), some (.d (t22 : Member)), some (.ge 5000 (s7.2.toNat * 33 + 0)), none, some (.ge 5000 ((w64 (s7.2 - 1)).toNat * 33 + 0)), none] [] [(none, some 15, 5000, (⟨39, (s7.1 : List Member)⟩ : GV _)), (some 15, some 17, 5000, (⟨39, ((s7.1.set s7.2.toNat t21) : List Member)⟩ : GV _)), (some 17, none, 5000, (⟨39, (((s7.1.set s7.2.toNat t21).set (w64 (s7.2 - 1)).toNat t22) : List Member)⟩ : GV _))] [] rfl trivial ⟨rfl, trivial⟩ rfl rfl rfl ⟨?_, ?_, ?_, ?_, ?_, ?_, ?_, ?_, ?_, ?_, ?_, ?_, ?_, ?_, ?_, ?_, ?_, ?_, trivial⟩ (Z_le (le_k (ks := [0, 1, 2, 3, 8, 9, 18, 19, 20, 21, 34, 37, 38, 39, 40, 41, 42, 43, 44, 45, 46, 47, 48, 49, 50, 51, 52]) (bs := []) (gs := [5000]) (ti := []) (.cons rfl (.cons rfl (.cons rfl (.cons rfl (.cons rfl (.cons rfl (.cons rfl (.cons rfl (.cons rfl (.cons rfl (.cons rfl (.cons rfl (.cons rfl (.cons rfl (.cons rfl (.cons rfl (.cons rfl (.cons rfl (.cons rfl (.cons rfl (.cons rfl (.cons rfl (.cons rfl (.cons rfl (.cons rfl (.cons rfl (.cons rfl .nil))))))))))))))))))))))))))) .nil (.cons rfl .nil)) ?_)
              · refine d_put rfl rfl rfl rfl (fun L s' H Q k => ?_)
                refine TL_y (y_move (e_t (H.p rfl))) ?_
                exact TL_nil k
              · refine d_put rfl rfl offs_d rfl (fun L s' H Q k => ?_)
                refine TL_y (y_move (e_t (H.p rfl))) ?_
                exact TL_nil k
              · refine d_put rfl rfl rfl rfl (fun L s' H Q k => ?_)
                refine TL_y (y_move (e_t (H.p rfl))) ?_
                exact TL_nil k
              · refine d_put rfl rfl offs_d rfl (fun L s' H Q k => ?_)
                refine TL_y (y_move (e_t (H.p rfl))) ?_
                exact TL_nil k
              · refine d_put rfl rfl offs_d rfl (fun L s' H Q k => ?_)
                refine TL_y (y_sub (e_t (H.t 3 rfl)) (e_i (1))) ?_
                exact TL_nil k
              · refine d_put rfl rfl rfl rfl (fun L s' H Q k => ?_)
                refine TL_y (y_move (e_t (H.p rfl))) ?_
                exact TL_nil k
              · refine d_put rfl rfl offs_d rfl (fun L s' H Q k => ?_)
                refine TL_y (y_move (e_t (H.p rfl))) ?_
                exact TL_nil k
              · refine d_put rfl rfl offs_d rfl (fun L s' H Q k => ?_)
                refine TL_y (y_sub (e_t (H.t 6 rfl)) (e_i (1))) ?_
                exact TL_nil k
              · refine d_put rfl rfl rfl rfl (fun L s' H Q k => ?_)
                refine TL_y (y_index_ge (e_t (H.t 5 rfl)) (e_t (H.t 7 rfl)) (H.g 0 rfl) (ix_some ht21).1 (ix_lt ht21) tysl28) ?_
                exact TL_nil k
              · refine d_put rfl rfl offs_d rfl (fun L s' H Q k => ?_)
                refine TL_load_ge (i := (w64 (s7.2 - 1)).toNat) (off := 0) (e_t (H.t 8 rfl)) (H.g 0 rfl) (ix_some ht21).2 Sub.self ty39 ?_
                exact TL_nil k
              · refine d_put rfl rfl rfl rfl (fun L s' H Q k => ?_)
                refine TL_y (y_move (e_t (H.p rfl))) ?_
                exact TL_nil k
              · refine d_put rfl rfl offs_d rfl (fun L s' H Q k => ?_)
                refine TL_y (y_move (e_t (H.p rfl))) ?_
                exact TL_nil k
              · refine d_put rfl rfl rfl rfl (fun L s' H Q k => ?_)
                refine TL_y (y_index_ge (e_t (H.t 10 rfl)) (e_t (H.t 11 rfl)) (H.g 0 rfl) (ix_some ht22).1 (ix_lt ht22) tysl28) ?_
                exact TL_nil k
              · refine d_put rfl rfl offs_d rfl (fun L s' H Q k => ?_)
                refine TL_load_ge (i := s7.2.toNat) (off := 0) (e_t (H.t 12 rfl)) (H.g 0 rfl) (ix_some ht22).2 Sub.self ty39 ?_
                exact TL_nil k
              · refine d_put rfl rfl rfl rfl (fun L s' H Q k => ?_)
                refine TL_y (y_index_ge (e_t (H.t 0 rfl)) (e_t (H.t 1 rfl)) (H.g 0 rfl) (ix_some ht23).1 (ix_lt ht23) tysl28) ?_
                exact TL_nil k
              · refine d_rstore rfl rfl rfl rfl rfl (fun L s' H Q k => ?_)
                refine TL_store_ge (i := s7.2.toNat) (e_t (H.t 14 rfl)) (H.g 0 rfl) (ix_lt ht23) (e_t (H.t 9 rfl)) ty39 ?_
                exact TL_nil k
              · refine d_put rfl rfl rfl rfl (fun L s' H Q k => ?_)
                refine TL_y (y_index_ge (e_t (H.t 2 rfl)) (e_t (H.t 4 rfl)) (H.g 1 rfl) (ix_some ht24).1 (ix_lt ht24) tysl28) ?_
                exact TL_nil k
              · refine d_rstore rfl rfl rfl rfl rfl (fun L s' H Q k => ?_)
                refine TL_store_ge (i := (w64 (s7.2 - 1)).toNat) (e_t (H.t 16 rfl)) (H.g 1 rfl) (ix_lt ht24) (e_t (H.t 13 rfl)) ty39 ?_
                exact TL_nil k
              refine z_nb ?_
              refine z_nt ?_
              refine T_region ?_
              refine TL_y (y_move (e_t rfl)) ?_
              refine TL_y (y_sub (e_t rfl) (e_i (1))) ?_
              refine TL_y (y_assign (e_t rfl)) ?_
              refine TL_nil ?_
              refine z_nl ?_
              exact TW_le (le_k (ks := [0, 1, 2, 3, 8, 9]) (bs := []) (gs := [5000]) (.cons rfl (.cons rfl (.cons rfl (.cons rfl (.cons rfl (.cons rfl .nil)))))) .nil (.cons rfl .nil)) (ih _ h)
            · replace h := cond_f hb20 h
              refine T_exit ?_
              refine z_et ?_
              refine z_et ?_
              refine z_ei ?_
              exact Z_le (le_k (ks := [0, 1, 2, 3, 8, 9]) (bs := []) (gs := [5000]) (.cons rfl (.cons rfl (.cons rfl (.cons rfl (.cons rfl (.cons rfl .nil)))))) .nil (.cons rfl .nil)) (hfall10 _ (Option.some.inj h))
      · replace h := cond_f hb6 h
        refine T_exit ?_
        refine z_et ?_
        refine z_et ?_
        refine z_ei ?_
        exact Z_le (le_k (ks := [0, 8]) (bs := []) (gs := [5000]) (.cons rfl (.cons rfl .nil)) .nil (.cons rfl .nil)) (hfall4 _ (Option.some.inj h))
def sl_siftDownCmpFunc_Member_l0 (a2 : Int) (a3 : Int) (a4 : (Fn2 Member Member Int)) : Nat → (List Member) × Int → Option (Lo (List Member) ((List Member) × Int))
  | 0, _ => none
  | ks1 + 1, s1 => (bif (decide (a2 ≤ (w64 ((w64 (2 * s1.2)) + 1)))) then some (.fall (s1.1, s1.2)) else ((((bif (decide ((w64 ((w64 ((w64 (2 * s1.2)) + 1)) + 1)) < a2)) then (ix s1.1 (w64 (a3 + (w64 ((w64 (2 * s1.2)) + 1))))).bind fun t15 => (ix s1.1 (w64 ((w64 (a3 + (w64 ((w64 (2 * s1.2)) + 1)))) + 1))).bind fun t16 => (a4.f t15 t16).bind fun t17 => some (decide (t17 < 0)) else some false)).bind fun t14 => (bif t14 then some (w64 ((w64 ((w64 (2 * s1.2)) + 1)) + 1)) else some (w64 ((w64 (2 * s1.2)) + 1))) : Option (Int)).bind fun s7 => (ix s1.1 (w64 (a3 + s1.2))).bind fun t19 => (ix s1.1 (w64 (a3 + s7))).bind fun t20 => (a4.f t19 t20).bind fun t21 => (bif (!(decide (t21 < 0))) then some (.ret s1.1) else (ix s1.1 (w64 (a3 + s7))).bind fun t23 => (ix s1.1 (w64 (a3 + s1.2))).bind fun t24 => (ix s1.1 (w64 (a3 + s1.2))).bind fun t25 => (ix (s1.1.set (w64 (a3 + s1.2)).toNat t23) (w64 (a3 + s7))).bind fun t26 => sl_siftDownCmpFunc_Member_l0 a2 a3 a4 ks1 (((s1.1.set (w64 (a3 + s1.2)).toNat t23).set (w64 (a3 + s7)).toNat t24), s7))))
def sl_siftDownCmpFunc_Member (a0 : (List Member)) (a1 : Int) (a2 : Int) (a3 : Int) (a4 : (Fn2 Member Member Int)) : Option (List Member) := ((sl_siftDownCmpFunc_Member_l0 a2 a3 a4 FUEL (a0, a1)).bind fun o3 => match o3 with | .ret q => some q | .fall s1 => some s1.1)
theorem sl_siftDownCmpFunc_Member_ok {a0 : (List Member)} {a1 : Int} {a2 : Int} {a3 : Int} {a4 : (Fn2 Member Member Int)} {r : (List Member)} (h : sl_siftDownCmpFunc_Member a0 a1 a2 a3 a4 = some r) : FnL Try.prog 133 [.g 5000, .d a1, .d a2, .d a3, .d a4] ⟨[], [(5000, ⟨39, (a0 : List Member)⟩)], []⟩ (.x (.tuple #[])) ⟨[], [(5000, ⟨39, (r : List Member)⟩)], []⟩ [] [5000] := by
  refine FnL.of Try.func133 rfl fun w m S0 β γ => ?_
  unfold sl_siftDownCmpFunc_Member at h
  refine T_seq ?_
  refine T_region ?_
  refine TL_y (y_move (e_t rfl)) ?_
  refine TL_y (y_assign (e_t rfl)) ?_
  refine TL_nil ?_
  refine z_nt ?_
  obtain ⟨o3, ho3, h⟩ := bind_some h
  refine T_loopin (S := fun (s1 : (List Member) × Int) => ⟨[(0, .g 5000), (10, .d (s1.2 : Int))], ⟨[], [(5000, ⟨39, (s1.1 : List Member)⟩)], []⟩⟩) (fun s1 => o3 = .fall s1) (fun s1 e => ?_) (fun hfall4 => ?_)
  · subst e
    dsimp only at h
    obtain rfl := Option.some.inj h
    exact zl_ret0 (n := _) ok_base (fn := Try.f133) rfl (le_k (ks := []) (bs := []) (gs := [5000]) .nil .nil (.cons rfl .nil))
  · have hret5 : ∀ q, o3 = .ret q → q = r := fun q e => by
      subst e
      dsimp only at h
      exact Option.some.inj h
    clear h
    refine TW_le (le_k (ks := [0, 2, 3, 4, 10]) (bs := []) (gs := [5000]) (.cons rfl (.cons rfl (.cons rfl (.cons rfl (.cons rfl .nil))))) .nil (.cons rfl .nil)) (fuel_ind (fun (s1 : (List Member) × Int) => ⟨[(0, .g 5000), (2, .d (a2 : Int)), (3, .d (a3 : Int)), (4, .d (a4 : (Fn2 Member Member Int))), (10, .d (s1.2 : Int))], ⟨[], [(5000, ⟨39, (s1.1 : List Member)⟩)], []⟩⟩) (fun k s => sl_siftDownCmpFunc_Member_l0 a2 a3 a4 k s = some o3) ?_ ?_ _ (a0, a1) ho3)
    · intro s h
      cases h
    · intro ks1 s1 ih h
      replace h : ((bif (decide (a2 ≤ (w64 ((w64 (2 * s1.2)) + 1)))) then some (.fall (s1.1, s1.2)) else ((((bif (decide ((w64 ((w64 ((w64 (2 * s1.2)) + 1)) + 1)) < a2)) then (ix s1.1 (w64 (a3 + (w64 ((w64 (2 * s1.2)) + 1))))).bind fun t15 => (ix s1.1 (w64 ((w64 (a3 + (w64 ((w64 (2 * s1.2)) + 1)))) + 1))).bind fun t16 => (a4.f t15 t16).bind fun t17 => some (decide (t17 < 0)) else some false)).bind fun t14 => (bif t14 then some (w64 ((w64 ((w64 (2 * s1.2)) + 1)) + 1)) else some (w64 ((w64 (2 * s1.2)) + 1))) : Option (Int)).bind fun s7 => (ix s1.1 (w64 (a3 + s1.2))).bind fun t19 => (ix s1.1 (w64 (a3 + s7))).bind fun t20 => (a4.f t19 t20).bind fun t21 => (bif (!(decide (t21 < 0))) then some (.ret s1.1) else (ix s1.1 (w64 (a3 + s7))).bind fun t23 => (ix s1.1 (w64 (a3 + s1.2))).bind fun t24 => (ix s1.1 (w64 (a3 + s1.2))).bind fun t25 => (ix (s1.1.set (w64 (a3 + s1.2)).toNat t23) (w64 (a3 + s7))).bind fun t26 => sl_siftDownCmpFunc_Member_l0 a2 a3 a4 ks1 (((s1.1.set (w64 (a3 + s1.2)).toNat t23).set (w64 (a3 + s7)).toNat t24), s7))))) = some o3 := h
      refine TW_round ?_
      refine T_block ?_
      refine T_seq ?_
      refine T_region ?_
      refine TL_y (y_move (e_t rfl)) ?_
      refine TL_y (y_mul (e_i (2)) (e_t rfl)) ?_
      refine TL_y (y_add (e_t rfl) (e_i (1))) ?_
      refine TL_y (y_assign (e_t rfl)) ?_
      refine TL_nil ?_
      refine z_nt ?_
      refine T_seq ?_
      refine T_seq ?_
      refine T_region ?_
      refine TL_y (y_move (e_t rfl)) ?_
      refine TL_y (y_move (e_t rfl)) ?_
      refine TL_y (y_geq (e_t rfl) (e_t rfl)) ?_
      refine TL_nil ?_
      refine z_nt ?_
      refine T_cond rfl (fun hb6 => ?_) (fun hb6 => ?_)
      · replace h := cond_t hb6 h
        refine T_exit ?_
        refine z_et ?_
        refine z_eo ?_
        refine z_et ?_
        refine z_ei ?_
        exact Z_le (le_k (ks := [0, 10]) (bs := []) (gs := [5000]) (.cons rfl (.cons rfl .nil)) .nil (.cons rfl .nil)) (hfall4 _ (Option.some.inj h).symm)
      · replace h := cond_f hb6 h
        refine T_skip ?_
        refine z_nt ?_
        obtain ⟨s7, hs7, h⟩ := bind_some h
        refine T_join (S := fun (s7 : Int) => ⟨[(0, .g 5000), (2, .d (a2 : Int)), (3, .d (a3 : Int)), (4, .d (a4 : (Fn2 Member Member Int))), (10, .d (s1.2 : Int)), (11, .d (s7 : Int))], ⟨[], [(5000, ⟨39, (s1.1 : List Member)⟩)], []⟩⟩) (fun z => s7 = z) (fun z e => ?_) (fun hfall8 => ?_)
        · subst e
          refine T_seq ?_
          refine T_seq ?_
          refine T_draw hmix (by kernel_rfl) ?_
          refine TQ_y (y_move (e_t rfl)) ?_
          refine TQ_y (y_move (e_t rfl)) ?_
          refine TQ_y (y_move (e_t rfl)) ?_
          refine TQ_y (y_move (e_t rfl)) ?_
          refine TQ_y (y_add (e_t rfl) (e_t rfl)) ?_
          obtain ⟨t19, ht19, h⟩ := bind_some h
          refine TQ_y (y_index_ge (e_t rfl) (e_t rfl) rfl (ix_some ht19).1 (ix_lt ht19) tysl28) ?_
          refine TQ_y (y_load_ge (i := (w64 (a3 + s1.2)).toNat) (off := 0) (e_t rfl) rfl (ix_some ht19).2 Sub.self ty39) ?_
          refine TQ_y (y_move (e_t rfl)) ?_
          refine TQ_y (y_move (e_t rfl)) ?_
          refine TQ_y (y_move (e_t rfl)) ?_
          refine TQ_y (y_add (e_t rfl) (e_t rfl)) ?_
          obtain ⟨t20, ht20, h⟩ := bind_some h
          refine TQ_y (y_index_ge (e_t rfl) (e_t rfl) rfl (ix_some ht20).1 (ix_lt ht20) tysl28) ?_
          refine TQ_y (y_load_ge (i := (w64 (a3 + s7)).toNat) (off := 0) (e_t rfl) rfl (ix_some ht20).2 Sub.self ty39) ?_
          obtain ⟨t21, ht21, h⟩ := bind_some h
          refine TQ_y (y_callv2 (e_t rfl) (e_t rfl) (e_t rfl) ht21) ?_
          refine TQ_y (y_lss (e_t rfl) (e_i (0))) ?_
          refine TQ_y (y_not (e_t rfl)) ?_
          refine TQ_nil ?_
          refine z_nt ?_
          refine T_cond rfl (fun hb22 => ?_) (fun hb22 => ?_)
          · replace h := cond_t hb22 h
            refine T_ret ?_
            refine z_rt ?_
            refine z_rb ?_
            refine z_rt ?_
            refine z_rb ?_
            obtain rfl := hret5 _ (Option.some.inj h).symm
            exact zl_ret0 (n := _) ok_base (fn := Try.f133) rfl (le_k (ks := []) (bs := []) (gs := [5000]) .nil .nil (.cons rfl .nil))
          · replace h := cond_f hb22 h
            refine T_skip ?_
            refine z_nt ?_
            refine T_seq ?_
            refine T_le (le_k (ks := [0, 2, 3, 4, 10, 11, 43, 44, 45, 46, 47, 48, 49, 50, 51, 52, 53, 54, 55, 56, 57, 58]) (bs := []) (gs := [5000]) (ti := []) (.cons rfl (.cons rfl (.cons rfl (.cons rfl (.cons rfl (.cons rfl (.cons rfl (.cons rfl (.cons rfl (.cons rfl (.cons rfl (.cons rfl (.cons rfl (.cons rfl (.cons rfl (.cons rfl (.cons rfl (.cons rfl (.cons rfl (.cons rfl (.cons rfl (.cons rfl .nil)))))))))))))))))))))) .nil (.cons rfl .nil)) ?_
            obtain ⟨t23, ht23, h⟩ := bind_some h
            obtain ⟨t24, ht24, h⟩ := bind_some h
            obtain ⟨t25, ht25, h⟩ := bind_some h
            obtain ⟨t26, ht26, h⟩ := bind_some h
            refine T_drawn hmix (by kernel_rfl) (by kernel_rfl) [some (.g 5000), some (.d (a3 : Int)), some (.d (s1.2 : Int)), some (.d ((w64 (a3 + s1.2)) : Int)), some (.g 5000), some (.d (a3 : Int)), some (.d (s7 : Int)), some (.d ((w64 (a3 + s7)) : Int)), some (.g 5000), some (.d (a3 : Int)), some (.d (s7 : Int)), some (.d ((w64 (a3 + s7)) : Int)), some (.ge 5000 ((w64 (a3 + s7)).toNat * 33 + 0)), some (.d (t23 : Member)), some (.g 5000), some (.d (a3 : Int)), some (.d (s1.2 : Int)), some (.d ((w64 (a3 + s1.2)) : Int)), some (.ge 5000 ((w64 (a3 + s1.2)).toNat * 33 + 0)), some (.d (t24 : Member)), some (.ge 5000 ((w64 (a3 + s1.2)).toNat * 33 + 0)), none, some (.ge 5000 ((w64 (a3 + s7)).toNat * 33 + 0)), none] [] [(none, some 21, 5000, (⟨39, (s1.1 : List Member)⟩ : GV _)), (some 21, some 23, 5000, (⟨39, ((s1.1.set (w64 (a3 + s1.2)).toNat t23) : List Member)⟩ : GV _)), (some 23, none, 5000, (⟨39, (((s1.1.set (w64 (a3 + s1.2)).toNat t23).set (w64 (a3 + s7)).toNat t24) : List Member)⟩ : GV _))] [] rfl trivial ⟨rfl, trivial⟩ rfl rfl rfl ⟨?_, ?_, ?_, ?_, ?_, ?_, ?_, ?_, ?_, ?_, ?_, ?_, ?_, ?_, ?_, ?_, ?_, ?_, ?_, ?_, ?_, ?_, ?_, ?_, trivial⟩ (Z_le (le_k (ks := [0, 2, 3, 4, 10, 11, 43, 44, 45, 46, 47, 48, 49, 50, 51, 52, 53, 54, 55, 56, 57, 58, 59, 60, 61, 62, 63, 64, 65, 66, 67, 68, 69, 70, 71, 72, 73, 74, 75, 76, 77, 78, 79, 80]) (bs := []) (gs := [5000]) (ti := []) (.cons rfl (.cons rfl (.cons rfl (.cons rfl (.cons rfl (.cons rfl (.cons rfl (.cons rfl (.cons rfl (.cons rfl (.cons rfl (.cons rfl (.cons rfl (.cons rfl (.cons rfl (.cons rfl (.cons rfl (.cons rfl (.cons rfl (.cons rfl (.cons rfl (.cons rfl (.cons rfl (.cons rfl (.cons rfl (.cons rfl (.cons rfl (.cons rfl (.cons rfl (.cons rfl (.cons rfl (.cons rfl (.cons rfl (.cons rfl (.cons rfl (.cons rfl (.cons rfl (.cons rfl (.cons rfl (.cons rfl (.cons rfl (.cons rfl (.cons rfl (.cons rfl .nil)))))))))))))))))))))))))))))))))))))))))))) .nil (.cons rfl .nil)) ?_)
            · refine d_put rfl rfl rfl rfl (fun L s' H Q k => ?_)
              refine TL_y (y_move (e_t (H.p rfl))) ?_
              exact TL_nil k
            · refine d_put rfl rfl offs_d rfl (fun L s' H Q k => ?_)
              refine TL_y (y_move (e_t (H.p rfl))) ?_
              exact TL_nil k
            · refine d_put rfl rfl offs_d rfl (fun L s' H Q k => ?_)
              refine TL_y (y_move (e_t (H.p rfl))) ?_
              exact TL_nil k
            · refine d_put rfl rfl offs_d rfl (fun L s' H Q k => ?_)
              refine TL_y (y_add (e_t (H.t 1 rfl)) (e_t (H.t 2 rfl))) ?_
              exact TL_nil k
            · refine d_put rfl rfl rfl rfl (fun L s' H Q k => ?_)
              refine TL_y (y_move (e_t (H.p rfl))) ?_
              exact TL_nil k
            · refine d_put rfl rfl offs_d rfl (fun L s' H Q k => ?_)
              refine TL_y (y_move (e_t (H.p rfl))) ?_
              exact TL_nil k
            · refine d_put rfl rfl offs_d rfl (fun L s' H Q k => ?_)
              refine TL_y (y_move (e_t (H.p rfl))) ?_
              exact TL_nil k
            · refine d_put rfl rfl offs_d rfl (fun L s' H Q k => ?_)
              refine TL_y (y_add (e_t (H.t 5 rfl)) (e_t (H.t 6 rfl))) ?_
              exact TL_nil k
            · refine d_put rfl rfl rfl rfl (fun L s' H Q k => ?_)
              refine TL_y (y_move (e_t (H.p rfl))) ?_
              exact TL_nil k
            · refine d_put rfl rfl offs_d rfl (fun L s' H Q k => ?_)
              refine TL_y (y_move (e_t (H.p rfl))) ?_
              exact TL_nil k
            · refine d_put rfl rfl offs_d rfl (fun L s' H Q k => ?_)
              refine TL_y (y_move (e_t (H.p rfl))) ?_
              exact TL_nil k
            · refine d_put rfl rfl offs_d rfl (fun L s' H Q k => ?_)
              refine TL_y (y_add (e_t (H.t 9 rfl)) (e_t (H.t 10 rfl))) ?_
              exact TL_nil k
            · refine d_put rfl rfl rfl rfl (fun L s' H Q k => ?_)
              refine TL_y (y_index_ge (e_t (H.t 8 rfl)) (e_t (H.t 11 rfl)) (H.g 0 rfl) (ix_some ht23).1 (ix_lt ht23) tysl28) ?_
              exact TL_nil k
            · refine d_put rfl rfl offs_d rfl (fun L s' H Q k => ?_)
              refine TL_load_ge (i := (w64 (a3 + s7)).toNat) (off := 0) (e_t (H.t 12 rfl)) (H.g 0 rfl) (ix_some ht23).2 Sub.self ty39 ?_
              exact TL_nil k
            · refine d_put rfl rfl rfl rfl (fun L s' H Q k => ?_)
              refine TL_y (y_move (e_t (H.p rfl))) ?_
              exact TL_nil k
            · refine d_put rfl rfl offs_d rfl (fun L s' H Q k => ?_)
              refine TL_y (y_move (e_t (H.p rfl))) ?_
              exact TL_nil k
            · refine d_put rfl rfl offs_d rfl (fun L s' H Q k => ?_)
              refine TL_y (y_move (e_t (H.p rfl))) ?_
              exact TL_nil k
            · refine d_put rfl rfl offs_d rfl (fun L s' H Q k => ?_)
              refine TL_y (y_add (e_t (H.t 15 rfl)) (e_t (H.t 16 rfl))) ?_
              exact TL_nil k
            · refine d_put rfl rfl rfl rfl (fun L s' H Q k => ?_)
              refine TL_y (y_index_ge (e_t (H.t 14 rfl)) (e_t (H.t 17 rfl)) (H.g 0 rfl) (ix_some ht24).1 (ix_lt ht24) tysl28) ?_
              exact TL_nil k
            · refine d_put rfl rfl offs_d rfl (fun L s' H Q k => ?_)
              refine TL_load_ge (i := (w64 (a3 + s1.2)).toNat) (off := 0) (e_t (H.t 18 rfl)) (H.g 0 rfl) (ix_some ht24).2 Sub.self ty39 ?_
              exact TL_nil k
            · refine d_put rfl rfl rfl rfl (fun L s' H Q k => ?_)
              refine TL_y (y_index_ge (e_t (H.t 0 rfl)) (e_t (H.t 3 rfl)) (H.g 0 rfl) (ix_some ht25).1 (ix_lt ht25) tysl28) ?_
              exact TL_nil k
            · refine d_rstore rfl rfl rfl rfl rfl (fun L s' H Q k => ?_)
              refine TL_store_ge (i := (w64 (a3 + s1.2)).toNat) (e_t (H.t 20 rfl)) (H.g 0 rfl) (ix_lt ht25) (e_t (H.t 13 rfl)) ty39 ?_
              exact TL_nil k
            · refine d_put rfl rfl rfl rfl (fun L s' H Q k => ?_)
              refine TL_y (y_index_ge (e_t (H.t 4 rfl)) (e_t (H.t 7 rfl)) (H.g 1 rfl) (ix_some ht26).1 (ix_lt ht26) tysl28) ?_
              exact TL_nil k
            · refine d_rstore rfl rfl rfl rfl rfl (fun L s' H Q k => ?_)
              refine TL_store_ge (i := (w64 (a3 + s7)).toNat) (e_t (H.t 22 rfl)) (H.g 1 rfl) (ix_lt ht26) (e_t (H.t 19 rfl)) ty39 ?_
              exact TL_nil k
            refine z_nt ?_
            refine T_region ?_
            refine TL_y (y_move (e_t rfl)) ?_
            refine TL_y (y_assign (e_t rfl)) ?_
            refine TL_nil ?_
            refine z_nb ?_
            refine z_nl ?_
            exact TW_le (le_k (ks := [0, 2, 3, 4, 10]) (bs := []) (gs := [5000]) (.cons rfl (.cons rfl (.cons rfl (.cons rfl (.cons rfl .nil))))) .nil (.cons rfl .nil)) (ih _ h)
        · clear h
          have h := hs7
          refine T_seq ?_
          refine T_draw hmix (by kernel_rfl) ?_
          refine TQ_y (y_move (e_t rfl)) ?_
          refine TQ_y (y_add (e_t rfl) (e_i (1))) ?_
          refine TQ_y (y_move (e_t rfl)) ?_
          refine TQ_y (y_lss (e_t rfl) (e_t rfl)) ?_
          refine TQ_y (y_move (e_t rfl)) ?_
          obtain ⟨t14, ht14, h⟩ := bind_some h
          refine TQ_cut 17 40 (r := t14) (decide ((w64 ((w64 ((w64 (2 * s1.2)) + 1)) + 1)) < a2)) ?_ (fun hb10 hk => ?_) (fun hb10 hk => ?_)
          rotate_left
          · replace h := cond_t hb10 ht14
            refine TQ_want rfl hb10 ?_
            refine TQ_y (y_move (e_t rfl)) ?_
            refine TQ_want rfl hb10 ?_
            refine TQ_y (y_move (e_t rfl)) ?_
            refine TQ_want rfl hb10 ?_
            refine TQ_y (y_move (e_t rfl)) ?_
            refine TQ_want rfl hb10 ?_
            refine TQ_y (y_move (e_t rfl)) ?_
            refine TQ_want rfl hb10 ?_
            refine TQ_y (y_add (e_t rfl) (e_t rfl)) ?_
            refine TQ_want rfl hb10 ?_
            obtain ⟨t15, ht15, h⟩ := bind_some h
            refine TQ_y (y_index_ge (e_t rfl) (e_t rfl) rfl (ix_some ht15).1 (ix_lt ht15) tysl28) ?_
            refine TQ_want rfl hb10 ?_
            refine TQ_y (y_load_ge (i := (w64 (a3 + (w64 ((w64 (2 * s1.2)) + 1)))).toNat) (off := 0) (e_t rfl) rfl (ix_some ht15).2 Sub.self ty39) ?_
            refine TQ_want rfl hb10 ?_
            refine TQ_y (y_move (e_t rfl)) ?_
            refine TQ_want rfl hb10 ?_
            refine TQ_y (y_move (e_t rfl)) ?_
            refine TQ_want rfl hb10 ?_
            refine TQ_y (y_move (e_t rfl)) ?_
            refine TQ_want rfl hb10 ?_
            refine TQ_y (y_add (e_t rfl) (e_t rfl)) ?_
            refine TQ_want rfl hb10 ?_
            refine TQ_y (y_add (e_t rfl) (e_i (1))) ?_
            refine TQ_want rfl hb10 ?_
            obtain ⟨t16, ht16, h⟩ := bind_some h
            refine TQ_y (y_index_ge (e_t rfl) (e_t rfl) rfl (ix_some ht16).1 (ix_lt ht16) tysl28) ?_
            refine TQ_want rfl hb10 ?_
            refine TQ_y (y_load_ge (i := (w64 ((w64 (a3 + (w64 ((w64 (2 * s1.2)) + 1)))) + 1)).toNat) (off := 0) (e_t rfl) rfl (ix_some ht16).2 Sub.self ty39) ?_
            refine TQ_want rfl hb10 ?_
            obtain ⟨t17, ht17, h⟩ := bind_some h
            refine TQ_y (y_callv2 (e_t rfl) (e_t rfl) (e_t rfl) ht17) ?_
            refine TQ_want rfl hb10 ?_
            refine TQ_y (y_lss (e_t rfl) (e_i (0))) ?_
            obtain rfl := Option.some.inj h
            refine TQ_y (y_pick_t (e_t rfl) hb10 (e_t rfl)) ?_
            exact TQ_fr hk (.cons (.cons (.cons (.cons (.cons (.cons (.cons (.cons (.cons (.cons (.cons (.cons (.cons (.cons (.cons (.cons (.refl _) rfl) rfl) rfl) rfl) rfl) rfl) rfl) rfl) rfl) rfl) rfl) rfl) rfl) rfl) rfl) rfl)
          · obtain rfl := Option.some.inj (cond_f hb10 ht14)
            refine TQ_skip0 rfl hb10 ?_
            refine TQ_skip0 rfl hb10 ?_
            refine TQ_skip0 rfl hb10 ?_
            refine TQ_skip0 rfl hb10 ?_
            refine TQ_skip0 rfl hb10 ?_
            refine TQ_skip0 rfl hb10 ?_
            refine TQ_skip0 rfl hb10 ?_
            refine TQ_skip0 rfl hb10 ?_
            refine TQ_skip0 rfl hb10 ?_
            refine TQ_skip0 rfl hb10 ?_
            refine TQ_skip0 rfl hb10 ?_
            refine TQ_skip0 rfl hb10 ?_
            refine TQ_skip0 rfl hb10 ?_
            refine TQ_skip0 rfl hb10 ?_
            refine TQ_skip0 rfl hb10 ?_
            refine TQ_skip0 rfl hb10 ?_
            refine TQ_y (y_pick_f (e_t rfl) hb10 (e_b false)) ?_
            exact TQ_fr hk (.refl _)
          refine TQ_nil ?_
          refine z_nt ?_
          refine T_cond rfl (fun hb18 => ?_) (fun hb18 => ?_)
          · replace h := cond_t hb18 h
            refine T_region ?_
            refine TL_y (y_move (e_t rfl)) ?_
            refine TL_y (y_add (e_t rfl) (e_i (1))) ?_
            refine TL_y (y_assign (e_t rfl)) ?_
            refine TL_nil ?_
            exact Z_le (le_k (ks := [0, 2, 3, 4, 10, 11]) (bs := []) (gs := [5000]) (.cons rfl (.cons rfl (.cons rfl (.cons rfl (.cons rfl (.cons rfl .nil)))))) .nil (.cons rfl .nil)) (hfall8 _ (Option.some.inj h).symm)
          · replace h := cond_f hb18 h
            refine T_skip ?_
            exact Z_le (le_k (ks := [0, 2, 3, 4, 10, 11]) (bs := []) (gs := [5000]) (.cons rfl (.cons rfl (.cons rfl (.cons rfl (.cons rfl (.cons rfl .nil)))))) .nil (.cons rfl .nil)) (hfall8 _ (Option.some.inj h).symm)
def sl_heapSortCmpFunc_Member_l1 (a1 : Int) (a3 : (Fn2 Member Member Int)) : Nat → (List Member) × Int → Option ((List Member) × Int)
  | 0, _ => none
  | ks8 + 1, s8 => (bif (decide (0 ≤ s8.2)) then (ix s8.1 (w64 (a1 + s8.2))).bind fun t14 => (ix s8.1 a1).bind fun t15 => (ix s8.1 a1).bind fun t16 => (ix (s8.1.set a1.toNat t14) (w64 (a1 + s8.2))).bind fun t17 => (sl_siftDownCmpFunc_Member ((s8.1.set a1.toNat t14).set (w64 (a1 + s8.2)).toNat t15) 0 s8.2 a1 a3).bind fun t18 => sl_heapSortCmpFunc_Member_l1 a1 a3 ks8 (t18, (w64 (s8.2 - 1))) else some (s8.1, s8.2))
def sl_heapSortCmpFunc_Member_l0 (a2 : Int) (a1 : Int) (a3 : (Fn2 Member Member Int)) : Nat → (List Member) × Int → Option ((List Member) × Int)
  | 0, _ => none
  | ks1 + 1, s1 => (bif (decide (0 ≤ s1.2)) then (sl_siftDownCmpFunc_Member s1.1 s1.2 (w64 (a2 - a1)) a1 a3).bind fun t7 => sl_heapSortCmpFunc_Member_l0 a2 a1 a3 ks1 (t7, (w64 (s1.2 - 1))) else some (s1.1, s1.2))
def sl_heapSortCmpFunc_Member (a0 : (List Member)) (a1 : Int) (a2 : Int) (a3 : (Fn2 Member Member Int)) : Option (List Member) := ((sl_heapSortCmpFunc_Member_l0 a2 a1 a3 FUEL (a0, (w64 (Int.tdiv (w64 ((w64 (a2 - a1)) - 1)) 2)))).bind fun s1 => ((sl_heapSortCmpFunc_Member_l1 a1 a3 FUEL (s1.1, (w64 ((w64 (a2 - a1)) - 1)))).bind fun s8 => some s8.1))
theorem sl_heapSortCmpFunc_Member_ok {a0 : (List Member)} {a1 : Int} {a2 : Int} {a3 : (Fn2 Member Member Int)} {r : (List Member)} (h : sl_heapSortCmpFunc_Member a0 a1 a2 a3 = some r) : FnL Try.prog 123 [.g 5000, .d a1, .d a2, .d a3] ⟨[], [(5000, ⟨39, (a0 : List Member)⟩)], []⟩ (.x (.tuple #[])) ⟨[], [(5000, ⟨39, (r : List Member)⟩)], []⟩ [] [5000] := by
  refine FnL.of Try.func123 rfl fun w m S0 β γ => ?_
  unfold sl_heapSortCmpFunc_Member at h
  refine T_seq ?_
  refine T_region ?_
  refine TL_y (y_move (e_t rfl)) ?_
  refine TL_y (y_assign (e_t rfl)) ?_
  refine TL_nil ?_
  refine z_nt ?_
  refine T_seq ?_
  refine T_region ?_
  refine TL_y (y_assign (e_i (0))) ?_
  refine TL_nil ?_
  refine z_nt ?_
  refine T_seq ?_
  refine T_region ?_
  refine TL_y (y_move (e_t rfl)) ?_
  refine TL_y (y_move (e_t rfl)) ?_
  refine TL_y (y_sub (e_t rfl) (e_t rfl)) ?_
  refine TL_y (y_assign (e_t rfl)) ?_
  refine TL_nil ?_
  refine z_nt ?_
  refine T_seq ?_
  refine T_seq ?_
  refine T_region ?_
  refine TL_y (y_move (e_t rfl)) ?_
  refine TL_y (y_sub (e_t rfl) (e_i (1))) ?_
  refine TL_y (y_quo (e_t rfl) (e_i (2)) (by decide)) ?_
  refine TL_y (y_assign (e_t rfl)) ?_
  refine TL_nil ?_
  refine z_nt ?_
  obtain ⟨o3, ho3, h⟩ := bind_some h
  refine T_loopin (S := fun (s1 : (List Member) × Int) => ⟨[(0, .g 5000), (3, .d (a3 : (Fn2 Member Member Int))), (8, .d (a1 : Int)), (9, .d (0 : Int)), (10, .d ((w64 (a2 - a1)) : Int)), (11, .d (s1.2 : Int))], ⟨[], [(5000, ⟨39, (s1.1 : List Member)⟩)], []⟩⟩) (fun z => z = o3) (fun s1 e => ?_) (fun hfall4 => ?_)
  · subst e
    refine z_nt ?_
    refine T_seq ?_
    refine T_region ?_
    refine TL_y (y_move (e_t rfl)) ?_
    refine TL_y (y_sub (e_t rfl) (e_i (1))) ?_
    refine TL_y (y_assign (e_t rfl)) ?_
    refine TL_nil ?_
    refine z_nt ?_
    obtain ⟨o10, ho10, h⟩ := bind_some h
    refine T_loopin (S := fun (s8 : (List Member) × Int) => ⟨[(0, .g 5000), (12, .d (s8.2 : Int))], ⟨[], [(5000, ⟨39, (s8.1 : List Member)⟩)], []⟩⟩) (fun z => z = o10) (fun s8 e => ?_) (fun hfall11 => ?_)
    · subst e
      obtain rfl := Option.some.inj h
      exact zl_ret0 (n := _) ok_base (fn := Try.f123) rfl (le_k (ks := []) (bs := []) (gs := [5000]) .nil .nil (.cons rfl .nil))
    · clear h
      refine TW_le (le_k (ks := [0, 3, 8, 9, 12]) (bs := []) (gs := [5000]) (.cons rfl (.cons rfl (.cons rfl (.cons rfl (.cons rfl .nil))))) .nil (.cons rfl .nil)) (fuel_ind (fun (s8 : (List Member) × Int) => ⟨[(0, .g 5000), (3, .d (a3 : (Fn2 Member Member Int))), (8, .d (a1 : Int)), (9, .d (0 : Int)), (12, .d (s8.2 : Int))], ⟨[], [(5000, ⟨39, (s8.1 : List Member)⟩)], []⟩⟩) (fun k s => sl_heapSortCmpFunc_Member_l1 a1 a3 k s = some o10) ?_ ?_ _ (s1.1, (w64 ((w64 (a2 - a1)) - 1))) ho10)
      · intro s h
        cases h
      · intro ks8 s8 ih h
        replace h : ((bif (decide (0 ≤ s8.2)) then (ix s8.1 (w64 (a1 + s8.2))).bind fun t14 => (ix s8.1 a1).bind fun t15 => (ix s8.1 a1).bind fun t16 => (ix (s8.1.set a1.toNat t14) (w64 (a1 + s8.2))).bind fun t17 => (sl_siftDownCmpFunc_Member ((s8.1.set a1.toNat t14).set (w64 (a1 + s8.2)).toNat t15) 0 s8.2 a1 a3).bind fun t18 => sl_heapSortCmpFunc_Member_l1 a1 a3 ks8 (t18, (w64 (s8.2 - 1))) else some (s8.1, s8.2))) = some o10 := h
        refine TW_round ?_
        refine T_seq ?_
        refine T_seq ?_
        refine T_region ?_
        refine TL_y (y_move (e_t rfl)) ?_
        refine TL_y (y_geq (e_t rfl) (e_i (0))) ?_
        refine TL_nil ?_
        refine z_nt ?_
        refine T_cond rfl (fun hb13 => ?_) (fun hb13 => ?_)
        · replace h := cond_t hb13 h
          refine T_skip ?_
          refine z_nt ?_
          refine T_seq ?_
          refine T_block ?_
          refine T_seq ?_
          refine T_le (le_k (ks := [0, 3, 8, 9, 12, 32, 33]) (bs := []) (gs := [5000]) (ti := []) (.cons rfl (.cons rfl (.cons rfl (.cons rfl (.cons rfl (.cons rfl (.cons rfl .nil))))))) .nil (.cons rfl .nil)) ?_
          obtain ⟨t14, ht14, h⟩ := bind_some h
          obtain ⟨t15, ht15, h⟩ := bind_some h
          obtain ⟨t16, ht16, h⟩ := bind_some h
          obtain ⟨t17, ht17, h⟩ := bind_some h
          refine T_drawn hmix (by kernel_rfl) (by kernel_rfl) [some (.g 5000), some (.d (a1 : Int)), some (.g 5000), some (.d (a1 : Int)), some (.d (s8.2 : Int)), some (.d ((w64 (a1 + s8.2)) : Int)), some (.g 5000), some (.d (a1 : Int)), some (.d (s8.2 : Int)), some (.d ((w64 (a1 + s8.2)) : Int)), some (.ge 5000 ((w64 (a1 + s8.2)).toNat * 33 + 0)), some (.d (t14 : Member)), some (.g 5000), some (.d (a1 : Int)), some (.ge 5000 (a1.toNat * 33 + 0)), some (.d (t15 : Member)), some (.ge 5000 (a1.toNat * 33 + 0)), none, some (.ge 5000 ((w64 (a1 + s8.2)).toNat * 33 + 0)), none] [] [(none, some 17, 5000, (⟨39, (s8.1 : List Member)⟩ : GV _)), (some 17, some 19, 5000, (⟨39, ((s8.1.set a1.toNat t14) : List Member)⟩ : GV _)), (some 19, none, 5000, (⟨39, (((s8.1.set a1.toNat t14).set (w64 (a1 + s8.2)).toNat t15) : List Member)⟩ : GV _))] [] rfl trivial ⟨rfl, trivial⟩ rfl rfl rfl ⟨?_, ?_, ?_, ?_, ?_, ?_, ?_, ?_, ?_, ?_, ?_, ?_, ?_, ?_, ?_, ?_, ?_, ?_, ?_, ?_, trivial⟩ (Z_le (le_k (ks := [0, 3, 8, 9, 12, 32, 33, 36, 37, 38, 39, 40, 41, 42, 43, 44, 45, 46, 47, 48, 49, 50, 51, 52, 53]) (bs := []) (gs := [5000]) (ti := []) (.cons rfl (.cons rfl (.cons rfl (.cons rfl (.cons rfl (.cons rfl (.cons rfl (.cons rfl (.cons rfl (.cons rfl (.cons rfl (.cons rfl (.cons rfl (.cons rfl (.cons rfl (.cons rfl (.cons rfl (.cons rfl (.cons rfl (.cons rfl (.cons rfl (.cons rfl (.cons rfl (.cons rfl (.cons rfl .nil))))))))))))))))))))))))) .nil (.cons rfl .nil)) ?_)
          · refine d_put rfl rfl rfl rfl (fun L s' H Q k => ?_)
            refine TL_y (y_move (e_t (H.p rfl))) ?_
            exact TL_nil k
          · refine d_put rfl rfl offs_d rfl (fun L s' H Q k => ?_)
            refine TL_y (y_move (e_t (H.p rfl))) ?_
            exact TL_nil k
          · refine d_put rfl rfl rfl rfl (fun L s' H Q k => ?_)
            refine TL_y (y_move (e_t (H.p rfl))) ?_
            exact TL_nil k
          · refine d_put rfl rfl offs_d rfl (fun L s' H Q k => ?_)
            refine TL_y (y_move (e_t (H.p rfl))) ?_
            exact TL_nil k
          · refine d_put rfl rfl offs_d rfl (fun L s' H Q k => ?_)
            refine TL_y (y_move (e_t (H.p rfl))) ?_
            exact TL_nil k
          · refine d_put rfl rfl offs_d rfl (fun L s' H Q k => ?_)
            refine TL_y (y_add (e_t (H.t 3 rfl)) (e_t (H.t 4 rfl))) ?_
            exact TL_nil k
          · refine d_put rfl rfl rfl rfl (fun L s' H Q k => ?_)
            refine TL_y (y_move (e_t (H.p rfl))) ?_
            exact TL_nil k
          · refine d_put rfl rfl offs_d rfl (fun L s' H Q k => ?_)
            refine TL_y (y_move (e_t (H.p rfl))) ?_
            exact TL_nil k
          · refine d_put rfl rfl offs_d rfl (fun L s' H Q k => ?_)
            refine TL_y (y_move (e_t (H.p rfl))) ?_
            exact TL_nil k
          · refine d_put rfl rfl offs_d rfl (fun L s' H Q k => ?_)
            refine TL_y (y_add (e_t (H.t 7 rfl)) (e_t (H.t 8 rfl))) ?_
            exact TL_nil k
          · refine d_put rfl rfl rfl rfl (fun L s' H Q k => ?_)
            refine TL_y (y_index_ge (e_t (H.t 6 rfl)) (e_t (H.t 9 rfl)) (H.g 0 rfl) (ix_some ht14).1 (ix_lt ht14) tysl28) ?_
            exact TL_nil k
          · refine d_put rfl rfl offs_d rfl (fun L s' H Q k => ?_)
            refine TL_load_ge (i := (w64 (a1 + s8.2)).toNat) (off := 0) (e_t (H.t 10 rfl)) (H.g 0 rfl) (ix_some ht14).2 Sub.self ty39 ?_
            exact TL_nil k
          · refine d_put rfl rfl rfl rfl (fun L s' H Q k => ?_)
            refine TL_y (y_move (e_t (H.p rfl))) ?_
            exact TL_nil k
          · refine d_put rfl rfl offs_d rfl (fun L s' H Q k => ?_)
            refine TL_y (y_move (e_t (H.p rfl))) ?_
            exact TL_nil k
          · refine d_put rfl rfl rfl rfl (fun L s' H Q k => ?_)
            refine TL_y (y_index_ge (e_t (H.t 12 rfl)) (e_t (H.t 13 rfl)) (H.g 0 rfl) (ix_some ht15).1 (ix_lt ht15) tysl28) ?_
            exact TL_nil k
          · refine d_put rfl rfl offs_d rfl (fun L s' H Q k => ?_)
            refine TL_load_ge (i := a1.toNat) (off := 0) (e_t (H.t 14 rfl)) (H.g 0 rfl) (ix_some ht15).2 Sub.self ty39 ?_
            exact TL_nil k
          · refine d_put rfl rfl rfl rfl (fun L s' H Q k => ?_)
            refine TL_y (y_index_ge (e_t (H.t 0 rfl)) (e_t (H.t 1 rfl)) (H.g 0 rfl) (ix_some ht16).1 (ix_lt ht16) tysl28) ?_
            exact TL_nil k
          · refine d_rstore rfl rfl rfl rfl rfl (fun L s' H Q k => ?_)
            refine TL_store_ge (i := a1.toNat) (e_t (H.t 16 rfl)) (H.g 0 rfl) (ix_lt ht16) (e_t (H.t 11 rfl)) ty39 ?_
            exact TL_nil k
          · refine d_put rfl rfl rfl rfl (fun L s' H Q k => ?_)
            refine TL_y (y_index_ge (e_t (H.t 2 rfl)) (e_t (H.t 5 rfl)) (H.g 1 rfl) (ix_some ht17).1 (ix_lt ht17) tysl28) ?_
            exact TL_nil k
          · refine d_rstore rfl rfl rfl rfl rfl (fun L s' H Q k => ?_)
            refine TL_store_ge (i := (w64 (a1 + s8.2)).toNat) (e_t (H.t 18 rfl)) (H.g 1 rfl) (ix_lt ht17) (e_t (H.t 15 rfl)) ty39 ?_
            exact TL_nil k
          refine z_nt ?_
          refine T_region ?_
          refine TL_y (y_move (e_t rfl)) ?_
          refine TL_y (y_move (e_t rfl)) ?_
          refine TL_y (y_move (e_t rfl)) ?_
          refine TL_y (y_move (e_t rfl)) ?_
          refine TL_y (y_move (e_t rfl)) ?_
          obtain ⟨t18, ht18, h⟩ := bind_some h
          have hct18 : FnL Try.prog 133 [.g 5000, .d (0 : Int), .d (s8.2 : Int), .d (a1 : Int), .d (a3 : (Fn2 Member Member Int))] ⟨[], [(5000, ⟨39, (((s8.1.set a1.toNat t14).set (w64 (a1 + s8.2)).toNat t15) : List Member)⟩)], []⟩ (.x (.tuple #[])) ⟨[], [(5000, ⟨39, (t18 : List Member)⟩)], []⟩ [] [5000] := (sl_siftDownCmpFunc_Member_ok ht18)
          refine TL_callL hct18 ⟨(e_t rfl), (e_t rfl), (e_t rfl), (e_t rfl), (e_t rfl), trivial⟩ c133 ⟨[], [], []⟩ [(0, .g 5000), (3, .d (a3 : (Fn2 Member Member Int))), (8, .d (a1 : Int)), (9, .d (0 : Int)), (12, .d (s8.2 : Int)), (32, .d (s8.2 : Int)), (33, .d ((decide (0 ≤ s8.2)) : Bool)), (36, .g 5000), (37, .d (a1 : Int)), (38, .g 5000), (39, .d (a1 : Int)), (40, .d (s8.2 : Int)), (41, .d ((w64 (a1 + s8.2)) : Int)), (42, .g 5000), (43, .d (a1 : Int)), (44, .d (s8.2 : Int)), (45, .d ((w64 (a1 + s8.2)) : Int)), (46, .ge 5000 ((w64 (a1 + s8.2)).toNat * 33 + 0)), (47, .d (t14 : Member)), (48, .g 5000), (49, .d (a1 : Int)), (50, .ge 5000 (a1.toNat * 33 + 0)), (51, .d (t15 : Member)), (52, .ge 5000 (a1.toNat * 33 + 0)), (53, .ge 5000 ((w64 (a1 + s8.2)).toNat * 33 + 0)), (54, .g 5000), (55, .d (0 : Int)), (56, .d (s8.2 : Int)), (57, .d (a1 : Int)), (58, .d (a3 : (Fn2 Member Member Int)))] (le_k (ks := []) (bs := []) (gs := [5000]) .nil .nil (.cons rfl .nil)) (le_k (ks := [0, 3, 8, 9, 12, 32, 33, 36, 37, 38, 39, 40, 41, 42, 43, 44, 45, 46, 47, 48, 49, 50, 51, 52, 53, 54, 55, 56, 57, 58]) (bs := []) (gs := []) (.cons rfl (.cons rfl (.cons rfl (.cons rfl (.cons rfl (.cons rfl (.cons rfl (.cons rfl (.cons rfl (.cons rfl (.cons rfl (.cons rfl (.cons rfl (.cons rfl (.cons rfl (.cons rfl (.cons rfl (.cons rfl (.cons rfl (.cons rfl (.cons rfl (.cons rfl (.cons rfl (.cons rfl (.cons rfl (.cons rfl (.cons rfl (.cons rfl (.cons rfl (.cons rfl .nil)))))))))))))))))))))))))))))) .nil .nil) (TL_le (s' := ⟨[(0, .g 5000), (3, .d (a3 : (Fn2 Member Member Int))), (8, .d (a1 : Int)), (9, .d (0 : Int)), (12, .d (s8.2 : Int)), (32, .d (s8.2 : Int)), (33, .d ((decide (0 ≤ s8.2)) : Bool)), (36, .g 5000), (37, .d (a1 : Int)), (38, .g 5000), (39, .d (a1 : Int)), (40, .d (s8.2 : Int)), (41, .d ((w64 (a1 + s8.2)) : Int)), (42, .g 5000), (43, .d (a1 : Int)), (44, .d (s8.2 : Int)), (45, .d ((w64 (a1 + s8.2)) : Int)), (46, .ge 5000 ((w64 (a1 + s8.2)).toNat * 33 + 0)), (47, .d (t14 : Member)), (48, .g 5000), (49, .d (a1 : Int)), (50, .ge 5000 (a1.toNat * 33 + 0)), (51, .d (t15 : Member)), (52, .ge 5000 (a1.toNat * 33 + 0)), (53, .ge 5000 ((w64 (a1 + s8.2)).toNat * 33 + 0)), (54, .g 5000), (55, .d (0 : Int)), (56, .d (s8.2 : Int)), (57, .d (a1 : Int)), (58, .d (a3 : (Fn2 Member Member Int))), (59, .x (.tuple #[]))], ⟨[], [(5000, ⟨39, (t18 : List Member)⟩)], []⟩⟩) (le_k (ks := [0, 3, 8, 9, 12, 32, 33, 36, 37, 38, 39, 40, 41, 42, 43, 44, 45, 46, 47, 48, 49, 50, 51, 52, 53, 54, 55, 56, 57, 58, 59]) (bs := []) (gs := [5000]) (.cons rfl (.cons rfl (.cons rfl (.cons rfl (.cons rfl (.cons rfl (.cons rfl (.cons rfl (.cons rfl (.cons rfl (.cons rfl (.cons rfl (.cons rfl (.cons rfl (.cons rfl (.cons rfl (.cons rfl (.cons rfl (.cons rfl (.cons rfl (.cons rfl (.cons rfl (.cons rfl (.cons rfl (.cons rfl (.cons rfl (.cons rfl (.cons rfl (.cons rfl (.cons rfl (.cons rfl .nil))))))))))))))))))))))))))))))) .nil (.cons rfl .nil)) ?_) trivial ⟨.inl rfl, trivial⟩
          refine TL_nil ?_
          refine z_nb ?_
          refine z_nt ?_
          refine T_region ?_
          refine TL_y (y_move (e_t rfl)) ?_
          refine TL_y (y_sub (e_t rfl) (e_i (1))) ?_
          refine TL_y (y_assign (e_t rfl)) ?_
          refine TL_nil ?_
          refine z_nl ?_
          exact TW_le (le_k (ks := [0, 3, 8, 9, 12]) (bs := []) (gs := [5000]) (.cons rfl (.cons rfl (.cons rfl (.cons rfl (.cons rfl .nil))))) .nil (.cons rfl .nil)) (ih _ h)
        · replace h := cond_f hb13 h
          refine T_exit ?_
          refine z_et ?_
          refine z_et ?_
          refine z_ei ?_
          exact Z_le (le_k (ks := [0, 12]) (bs := []) (gs := [5000]) (.cons rfl (.cons rfl .nil)) .nil (.cons rfl .nil)) (hfall11 _ (Option.some.inj h))
  · clear h
    refine TW_le (le_k (ks := [0, 3, 8, 9, 10, 11]) (bs := []) (gs := [5000]) (.cons rfl (.cons rfl (.cons rfl (.cons rfl (.cons rfl (.cons rfl .nil)))))) .nil (.cons rfl .nil)) (fuel_ind (fun (s1 : (List Member) × Int) => ⟨[(0, .g 5000), (3, .d (a3 : (Fn2 Member Member Int))), (8, .d (a1 : Int)), (9, .d (0 : Int)), (10, .d ((w64 (a2 - a1)) : Int)), (11, .d (s1.2 : Int))], ⟨[], [(5000, ⟨39, (s1.1 : List Member)⟩)], []⟩⟩) (fun k s => sl_heapSortCmpFunc_Member_l0 a2 a1 a3 k s = some o3) ?_ ?_ _ (a0, (w64 (Int.tdiv (w64 ((w64 (a2 - a1)) - 1)) 2))) ho3)
    · intro s h
      cases h
    · intro ks1 s1 ih h
      replace h : ((bif (decide (0 ≤ s1.2)) then (sl_siftDownCmpFunc_Member s1.1 s1.2 (w64 (a2 - a1)) a1 a3).bind fun t7 => sl_heapSortCmpFunc_Member_l0 a2 a1 a3 ks1 (t7, (w64 (s1.2 - 1))) else some (s1.1, s1.2))) = some o3 := h
      refine TW_round ?_
      refine T_seq ?_
      refine T_seq ?_
      refine T_region ?_
      refine TL_y (y_move (e_t rfl)) ?_
      refine TL_y (y_geq (e_t rfl) (e_i (0))) ?_
      refine TL_nil ?_
      refine z_nt ?_
      refine T_cond rfl (fun hb6 => ?_) (fun hb6 => ?_)
      · replace h := cond_t hb6 h
        refine T_skip ?_
        refine z_nt ?_
        refine T_seq ?_
        refine T_block ?_
        refine T_region ?_
        refine TL_y (y_move (e_t rfl)) ?_
        refine TL_y (y_move (e_t rfl)) ?_
        refine TL_y (y_move (e_t rfl)) ?_
        refine TL_y (y_move (e_t rfl)) ?_
        refine TL_y (y_move (e_t rfl)) ?_
        obtain ⟨t7, ht7, h⟩ := bind_some h
        have hct7 : FnL Try.prog 133 [.g 5000, .d (s1.2 : Int), .d ((w64 (a2 - a1)) : Int), .d (a1 : Int), .d (a3 : (Fn2 Member Member Int))] ⟨[], [(5000, ⟨39, (s1.1 : List Member)⟩)], []⟩ (.x (.tuple #[])) ⟨[], [(5000, ⟨39, (t7 : List Member)⟩)], []⟩ [] [5000] := (sl_siftDownCmpFunc_Member_ok ht7)
        refine TL_callL hct7 ⟨(e_t rfl), (e_t rfl), (e_t rfl), (e_t rfl), (e_t rfl), trivial⟩ c133 ⟨[], [], []⟩ [(0, .g 5000), (3, .d (a3 : (Fn2 Member Member Int))), (8, .d (a1 : Int)), (9, .d (0 : Int)), (10, .d ((w64 (a2 - a1)) : Int)), (11, .d (s1.2 : Int)), (20, .d (s1.2 : Int)), (21, .d ((decide (0 ≤ s1.2)) : Bool)), (24, .g 5000), (25, .d (s1.2 : Int)), (26, .d ((w64 (a2 - a1)) : Int)), (27, .d (a1 : Int)), (28, .d (a3 : (Fn2 Member Member Int)))] (le_k (ks := []) (bs := []) (gs := [5000]) .nil .nil (.cons rfl .nil)) (le_k (ks := [0, 3, 8, 9, 10, 11, 20, 21, 24, 25, 26, 27, 28]) (bs := []) (gs := []) (.cons rfl (.cons rfl (.cons rfl (.cons rfl (.cons rfl (.cons rfl (.cons rfl (.cons rfl (.cons rfl (.cons rfl (.cons rfl (.cons rfl (.cons rfl .nil))))))))))))) .nil .nil) (TL_le (s' := ⟨[(0, .g 5000), (3, .d (a3 : (Fn2 Member Member Int))), (8, .d (a1 : Int)), (9, .d (0 : Int)), (10, .d ((w64 (a2 - a1)) : Int)), (11, .d (s1.2 : Int)), (20, .d (s1.2 : Int)), (21, .d ((decide (0 ≤ s1.2)) : Bool)), (24, .g 5000), (25, .d (s1.2 : Int)), (26, .d ((w64 (a2 - a1)) : Int)), (27, .d (a1 : Int)), (28, .d (a3 : (Fn2 Member Member Int))), (29, .x (.tuple #[]))], ⟨[], [(5000, ⟨39, (t7 : List Member)⟩)], []⟩⟩) (le_k (ks := [0, 3, 8, 9, 10, 11, 20, 21, 24, 25, 26, 27, 28, 29]) (bs := []) (gs := [5000]) (.cons rfl (.cons rfl (.cons rfl (.cons rfl (.cons rfl (.cons rfl (.cons rfl (.cons rfl (.cons rfl (.cons rfl (.cons rfl (.cons rfl (.cons rfl (.cons rfl .nil)))))))))))))) .nil (.cons rfl .nil)) ?_) trivial ⟨.inl rfl, trivial⟩
        refine TL_nil ?_
        refine z_nb ?_
        refine z_nt ?_
        refine T_region ?_
        refine TL_y (y_move (e_t rfl)) ?_
        refine TL_y (y_sub (e_t rfl) (e_i (1))) ?_
        refine TL_y (y_assign (e_t rfl)) ?_
        refine TL_nil ?_
        refine z_nl ?_
        exact TW_le (le_k (ks := [0, 3, 8, 9, 10, 11]) (bs := []) (gs := [5000]) (.cons rfl (.cons rfl (.cons rfl (.cons rfl (.cons rfl (.cons rfl .nil)))))) .nil (.cons rfl .nil)) (ih _ h)
      · replace h := cond_f hb6 h
        refine T_exit ?_
        refine z_et ?_
        refine z_et ?_
        refine z_ei ?_
        exact Z_le (le_k (ks := [0, 3, 8, 9, 10, 11]) (bs := []) (gs := [5000]) (.cons rfl (.cons rfl (.cons rfl (.cons rfl (.cons rfl (.cons rfl .nil)))))) .nil (.cons rfl .nil)) (hfall4 _ (Option.some.inj h))
def slices_nextPowerOfTwo (a0 : Int) : Option UInt64 := (math_bits_Len (toU64 a0)).bind fun t1 => (ushlI (UInt64.ofNat 1) t1).bind fun t2 => some t2
theorem slices_nextPowerOfTwo_ok {a0 : Int} {r : UInt64} (h : slices_nextPowerOfTwo a0 = some r) : Fn Try.prog 134 [.d a0] (.d r) := by
  refine Fn.of Try.func134 rfl fun w m => ?_
  unfold slices_nextPowerOfTwo at h
  refine T_seq ?_
  refine T_region ?_
  refine TL_y (y_assign (e_u64 0)) ?_
  refine TL_nil ?_
  refine z_nt ?_
  refine T_seq ?_
  refine T_region ?_
  refine TL_y (y_move (e_t rfl)) ?_
  refine TL_y (y_conv_to_u64 (e_t rfl) (by simp [Try.underlying3]) Try.underlying135) ?_
  obtain ⟨t1, ht1, h⟩ := bind_some h
  refine TL_call (xs := [.d ((toU64 a0) : UInt64)]) (math_bits_Len_ok ht1) ⟨(e_t rfl), trivial⟩ c119 ?_
  obtain ⟨t2, ht2, h⟩ := bind_some h
  refine TL_y (y64_shlI (e_u64 1) (e_t rfl) ht2) ?_
  refine TL_y (y_assign (e_t rfl)) ?_
  refine TL_nil ?_
  refine z_nt ?_
  refine T_ret ?_
  obtain rfl := Option.some.inj h
  exact Z_ret1 (fn := Try.f134) rfl (rv_t rfl)
end Go.Ph
