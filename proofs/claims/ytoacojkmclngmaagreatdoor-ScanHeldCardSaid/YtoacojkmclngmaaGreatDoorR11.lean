/- Texts of the session, one behind the other: what the code computes, function by function, and its contracts. -/
import Derived.Deep.RegionHeld3
import Derived.KernelRfl
import Derived.Test.YtoacojkmclngmaaGreatDoorR1
import Derived.Test.YtoacojkmclngmaaGreatDoorR2
import Derived.Test.YtoacojkmclngmaaGreatDoorR3
import Derived.Test.YtoacojkmclngmaaGreatDoorR4
import Derived.Test.YtoacojkmclngmaaGreatDoorR5
import Derived.Test.YtoacojkmclngmaaGreatDoorR6
import Derived.Test.YtoacojkmclngmaaGreatDoorR7
import Derived.Test.YtoacojkmclngmaaGreatDoorR8
import Derived.Test.YtoacojkmclngmaaGreatDoorR9
import Derived.Test.YtoacojkmclngmaaGreatDoorR10
-- written by the session's own program hookprint.py
namespace Go.Proofs.YtoacojkmclngmaaGreatDoor.Pz
open Go.RowKit Go.Proofs.YtoacojkmclngmaaGreatDoorW.PrintWords Go.Proofs.YtoacojkmclngmaaGreatDoorW.PrintLast Go.Proofs.YtoacojkmclngmaaGreatDoorW.PrintMore
attribute [local go_sem] max2_int min2_int max_two min_two max_three min_three max_four min_four   -- for this text's walks alone
attribute [local go_sem] rune_str
set_option linter.unusedVariables false
set_option linter.unusedSimpArgs false

/-! ### scan_Tokens: function 14 -/
def scan_Tokens.f (k : Nat) (a0 : ByteArray) : Option ((List (S33))) := (scan_New.f).bind fun bt191 => ((scan_Scanner_Write.f k bt191.1 bt191.2.1 bt191.2.2.1 bt191.2.2.2 a0).bind fun bt196 => ((scan_Scanner_Close.f k bt196.2.1 bt196.2.2.1 bt196.2.2.2.1 bt196.2.2.2.2).bind fun bt203 => (if bt196.1.length + bt203.1.length < 1954687338268 then ((scan_Merge.f (bt196.1 ++ bt203.1)).bind fun t213 => (some t213)) else (none))))
theorem scan_Tokens.mono : ∀ a0 k, LeO (scan_Tokens.f k a0) (scan_Tokens.f (k + 1) a0) := by
  intro a0 k
  unfold scan_Tokens.f
  repeat' first
      | (with_reducible exact scan_Scanner_Close.mono _ _ _ _ _)
      | (with_reducible exact scan_Scanner_Write.mono _ _ _ _ _ _)
      | (with_reducible exact LeO.refl _)
      | (with_reducible exact LeO.none _)
      | (with_reducible refine LeO.ite ?_ ?_)
      | (with_reducible refine LeO.bind ?_ (fun _ => ?_))
      | exact scan_Scanner_Close.mono _ _ _ _ _
      | exact scan_Scanner_Write.mono _ _ _ _ _ _
      | exact LeO.none _
      | refine LeO.ite ?_ ?_
      | refine LeO.bind ?_ (fun _ => ?_)
set_option maxHeartbeats 8000000 in
set_option maxRecDepth 100000 in
theorem scan_Tokens.calls (k : Nat) (a0 : ByteArray) (r : List (S33)) (w : World) (hG : Glob w) (h : scan_Tokens.f k a0 = some r) :
    Calls Tryz.prog 14 #[.string a0] w fun e w' => ∃ v0_ : Value, e = .returned (v0_) ∧ Kd.V k33 33 w' w.heap.size (fun k_ => (w.heap.size ≤ k_)) v0_ r ∧ Below w.heap.size w w' := by
  have HB := Aside0.mk (Below.refl w.heap.size w)
  have H : ((scan_New.f).bind fun bt191 => ((scan_Scanner_Write.f k bt191.1 bt191.2.1 bt191.2.2.1 bt191.2.2.2 a0).bind fun bt196 => ((scan_Scanner_Close.f k bt196.2.1 bt196.2.2.1 bt196.2.2.2.1 bt196.2.2.2.2).bind fun bt203 => (if bt196.1.length + bt203.1.length < 1954687338268 then ((scan_Merge.f (bt196.1 ++ bt203.1)).bind fun t213 => (some t213)) else (none))))) = some r := h
  clear h
  replace H := Option.bind_eq_some_iff.mp H
  obtain ⟨⟨t191, t192, t193, t194⟩, A20, H⟩ := H
  replace H : ((scan_Scanner_Write.f k t191 t192 t193 t194 a0).bind fun bt196 => ((scan_Scanner_Close.f k bt196.2.1 bt196.2.2.1 bt196.2.2.2.1 bt196.2.2.2.2).bind fun bt203 => (if bt196.1.length + bt203.1.length < 1954687338268 then ((scan_Merge.f (bt196.1 ++ bt203.1)).bind fun t213 => (some t213)) else (none)))) = some r := H
  have A2 := Aside0.mk A20
  clear A20
  replace H := Option.bind_eq_some_iff.mp H
  obtain ⟨⟨t196, t199, t200, t201, t202⟩, A30, H⟩ := H
  replace H : ((scan_Scanner_Close.f k t199 t200 t201 t202).bind fun bt203 => (if t196.length + bt203.1.length < 1954687338268 then ((scan_Merge.f (t196 ++ bt203.1)).bind fun t213 => (some t213)) else (none))) = some r := H
  have A3 := Aside0.mk A30
  clear A30
  replace H := Option.bind_eq_some_iff.mp H
  obtain ⟨⟨t203, t206, t207, t208, t209⟩, A40, H⟩ := H
  replace H : (if t196.length + t203.length < 1954687338268 then ((scan_Merge.f (t196 ++ t203)).bind fun t213 => (some t213)) else (none)) = some r := H
  have A4 := Aside0.mk A40
  clear A40
  by_cases c5 : t196.length + t203.length < 1954687338268
  · rw [if_pos c5] at H
    have LMc5 := Aside0.mk c5
    clear c5
    obtain ⟨y210, hy210⟩ : ∃ y_ : List (S33), y_ = (t196 ++ t203) := ⟨_, rfl⟩
    replace H : ((scan_Merge.f y210).bind fun t213 => (some t213)) = some r := by first | (rw [hy210]; with_reducible exact H) | (have H2_ := (Option.bind_some _ _).symm.trans H; rw [hy210]; with_reducible exact H2_) | (have H2_ := (Option.bind_some _ _).symm.trans H; with_reducible exact H2_) | with_reducible exact H | (rw [hy210]; exact H) | exact H
    have Ny210 := Aside0.mk hy210
    clear hy210
    replace H := Option.bind_eq_some_iff.mp H
    obtain ⟨t213, A60, H⟩ := H
    replace H : (some t213) = some r := H
    have A6 := Aside0.mk A60
    clear A60
    obtain rfl := Option.some.inj H
    go_enter Tryz.func14, Tryz.ntmps14
    go_wp2_with (first | ((with_reducible refine gate_callee (f := 16) rfl ?_); refine goesL_ (some 4) rfl rfl Tryz.func16 (by kernel_rfl) rfl #[] rfl (by (try simp only [List.map_toArray, List.map_cons, List.map_nil]); first | done | rfl | (simp only [List.length_drop, List.length_take]; rfl)) ?_; (with_reducible refine (scan_New.calls  t191 t192 t193 t194 w _ ?side1 A2.out).mono ?_); (case side1 => repeat (first | (with_reducible first | exact HB.out | apply below_alloc | apply pw_below_drewN | apply below_drew1) | exact HB.out)); rintro e w7 ⟨g195, rfl, hi, hb, hb2⟩; refine ⟨_, rfl, ?_⟩; have n0_ := Aside0.mk (hb); have n1_ := Aside0.mk (hi); clear HB; have HB := n0_; have HI195 := n1_; clear n0_ n1_; (try clear hb); (try clear hb2); (try clear hk); (try clear hi)) | ((with_reducible refine gate_callee (f := 17) rfl ?_); refine goesL_ (some 7) rfl rfl Tryz.func17 (by kernel_rfl) rfl #[.pointer (some ⟨g195, 0, none⟩), .string a0] rfl (by (try simp only [List.map_toArray, List.map_cons, List.map_nil]); first | done | rfl | (simp only [List.length_drop, List.length_take]; rfl)) ?_; (with_reducible refine (scan_Scanner_Write.calls k g195 t191 t192 t193 t194 a0 t196 t199 t200 t201 t202 w _ ?side1 ?side2 hG A3.out).mono ?_); (case side1 => repeat (first | (with_reducible first | exact HI195.out | apply IsS56.alloc | apply IsS56.drewN | apply IsS56.drew | apply IsS56.set_0 | apply IsS56.set_1 | apply IsS56.set_2 | apply IsS56.set_3) | exact HI195.out)); (case side2 => repeat (first | (with_reducible first | exact HB.out | apply below_alloc | apply pw_below_drewN | apply below_drew1 | refine below_set ?_ (IsS56.ge HI195.out)) | exact HB.out)); rintro e w8 ⟨v197, rfl, ho0, hi, hb, hk⟩; refine ⟨_, rfl, ?_⟩; have n0_ := Aside0.mk (Kd.N_lower (Kd.N_mono (ok' := fun k_ => (w.heap.size ≤ k_) ∧ k_ ≠ g195) ho0 (fun k_ hk_ => ⟨(Nat.le_trans (below_size (by repeat (first | (with_reducible first | exact HB.out | apply below_alloc | apply pw_below_drewN | apply below_drew1 | refine below_set ?_ (IsS56.ge HI195.out)) | exact HB.out))) hk_), (IsS56.fresh (by repeat (first | (with_reducible first | exact HI195.out | apply IsS56.alloc | apply IsS56.drewN | apply IsS56.drew | apply IsS56.set_0 | apply IsS56.set_1 | apply IsS56.set_2 | apply IsS56.set_3) | exact HI195.out)) k_ hk_)⟩)) (below_size (by repeat (first | (with_reducible first | exact HB.out | apply below_alloc | apply pw_below_drewN | apply below_drew1 | refine below_set ?_ (IsS56.ge HI195.out)) | exact HB.out)))); have n1_ := Aside0.mk (hb); have n2_ := Aside0.mk (hi); clear HB; clear HI195; have HO198 := n0_; have HB := n1_; have HI195 := n2_; clear n0_ n1_ n2_; (try clear hb); (try clear hb2); (try clear hk); (try clear hi); (try clear ho0)) | ((with_reducible refine gate_callee (f := 18) rfl ?_); refine goesL_ (some 9) rfl rfl Tryz.func18 (by kernel_rfl) rfl #[.pointer (some ⟨g195, 0, none⟩)] rfl (by (try simp only [List.map_toArray, List.map_cons, List.map_nil]); first | done | rfl | (simp only [List.length_drop, List.length_take]; rfl)) ?_; (with_reducible refine (scan_Scanner_Close.calls k g195 t199 t200 t201 t202 t203 t206 t207 t208 t209 w _ ?side1 ?side2 hG A4.out).mono ?_); (case side1 => repeat (first | (with_reducible first | exact HI195.out | apply IsS56.alloc | apply IsS56.drewN | apply IsS56.drew | apply IsS56.set_0 | apply IsS56.set_1 | apply IsS56.set_2 | apply IsS56.set_3) | exact HI195.out)); (case side2 => repeat (first | (with_reducible first | exact HB.out | apply below_alloc | apply pw_below_drewN | apply below_drew1 | refine below_set ?_ (IsS56.ge HI195.out)) | exact HB.out)); rintro e w9 ⟨v204, rfl, ho0, hi, hb, hk⟩; refine ⟨_, rfl, ?_⟩; have n0_ := Aside0.mk (Kd.N_mono (Kd.N_told (Kd.N_oldK (Kd.N_mono (ok := fun k_ => (((w.heap.size ≤ k_)) ∧ k_ ≠ g195)) (by (with_reducible repeat (first | apply Kd.N_alloc | apply Kd.N_drewN | apply Kd.N_drew)); exact HO198.out) (fun k_ hk_ => (⟨hk_, hk_.2⟩ : _ ∧ k_ ≠ g195))) hk) (Kd.N_base ho0)) (fun _ h_ => h_.1)); have n1_ := Aside0.mk (Kd.N_lower (Kd.N_mono (ok' := fun k_ => (w.heap.size ≤ k_) ∧ some k_ ≠ (v197 : Value).ownBlock ∧ k_ ≠ g195) ho0 (fun k_ hk_ => ⟨(Nat.le_trans (below_size (by repeat (first | (with_reducible first | exact HB.out | apply below_alloc | apply pw_below_drewN | apply below_drew1 | refine below_set ?_ (IsS56.ge HI195.out)) | exact HB.out))) hk_), (Kd.fresh' (Kd.N_lt (by (with_reducible repeat (first | apply Kd.N_alloc | apply Kd.N_drewN | apply Kd.N_drew)); exact HO198.out)) k_ hk_), (IsS56.fresh (by repeat (first | (with_reducible first | exact HI195.out | apply IsS56.alloc | apply IsS56.drewN | apply IsS56.drew | apply IsS56.set_0 | apply IsS56.set_1 | apply IsS56.set_2 | apply IsS56.set_3) | exact HI195.out)) k_ hk_)⟩)) (below_size (by repeat (first | (with_reducible first | exact HB.out | apply below_alloc | apply pw_below_drewN | apply below_drew1 | refine below_set ?_ (IsS56.ge HI195.out)) | exact HB.out)))); have n2_ := Aside0.mk (hb); have n3_ := Aside0.mk (hi); clear HO198; clear HB; clear HI195; have HO198 := n0_; have HO205 := n1_; have HB := n2_; have HI195 := n3_; clear n0_ n1_ n2_ n3_; (try clear hb); (try clear hb2); (try clear hk); (try clear hi); (try clear ho0); obtain ⟨Ao11, co11, eo11⟩ := Kd.N_slice HO205.out; subst eo11) | ((with_reducible refine gate_builtin (b := .append) (xs := #[.tmp 7, .tmp 9]) rfl ?_); at_builtin; refine Kd.N_append_rows k33 (w0 := w) w.heap.size rfl (.tmp 7) (.tmp 9) 24 33 (.agg #[(.int .i64 0), (.string ⟨#[]⟩), (.string ⟨#[]⟩), (.slice none 0 0), (.bool false)]) 72 rfl Tryz.underlying24 info33 rfl (by decide) (by omega) v197 t196 t203 _ _ _ (fun k_ => (w.heap.size ≤ k_) ∧ k_ ≠ g195) (fun k_ => ((fun k_ => (w.heap.size ≤ k_) ∧ k_ ≠ g195)) k_ ∧ some k_ ≠ (v197 : Value).ownBlock) rfl rfl ?aO ?aR (fun _ hk => hk) ?aF ?aB ?aS ?aL ?_; (case aR => exact (by skip; exact Kd.N_F (Kd.N_mono (ok' := (fun k_ => ((fun k_ => (w.heap.size ≤ k_) ∧ k_ ≠ g195)) k_ ∧ some k_ ≠ (v197 : Value).ownBlock)) (HO205.out) (fun k_ hk => ⟨⟨hk.1, hk.2.2⟩, hk.2.1⟩)))); (case aB => exact (by repeat (first | (with_reducible first | exact HB.out | apply below_alloc | apply pw_below_drewN | apply below_drew1 | refine below_set ?_ (IsS56.ge HI195.out)) | exact HB.out))); (case aF => exact (fun k_ hk => ⟨(Nat.le_trans (below_size (by repeat (first | (with_reducible first | exact HB.out | apply below_alloc | apply pw_below_drewN | apply below_drew1 | refine below_set ?_ (IsS56.ge HI195.out)) | exact HB.out))) hk), IsS56.fresh (by repeat (first | (with_reducible first | exact HI195.out | apply IsS56.alloc | apply IsS56.drewN | apply IsS56.drew | apply IsS56.set_0 | apply IsS56.set_1 | apply IsS56.set_2 | apply IsS56.set_3) | exact HI195.out)) k_ hk⟩)); (case aO => exact (by (with_reducible repeat (first | apply Kd.N_alloc | apply Kd.N_drewN | apply Kd.N_drew)); exact Kd.N_mono HO198.out (fun _ hk => ⟨hk.1.1, hk.1.2⟩))); (case aS => exact (below_size (by repeat (first | (with_reducible first | exact HB.out | apply below_alloc | apply pw_below_drewN | apply below_drew1 | refine below_set ?_ (IsS56.ge HI195.out)) | exact HB.out)))); (case aL => have := LMc5.out; omega); intro v211 w10 ho hb hg hat; rw [← Ny210.out] at ho; have n0_ := Aside0.mk (IsS56.grown (by repeat (first | (with_reducible first | exact HI195.out | apply IsS56.alloc | apply IsS56.drewN | apply IsS56.drew | apply IsS56.set_0 | apply IsS56.set_1 | apply IsS56.set_2 | apply IsS56.set_3) | exact HI195.out)) hg (IsS56.own_neN HI195.out HO198.out (by decide))); have n1_ := Aside0.mk (Kd.N_afterv (ok := (fun k_ => (w.heap.size ≤ k_) ∧ k_ ≠ g195)) (by (with_reducible repeat (first | apply Kd.N_alloc | apply Kd.N_drewN | apply Kd.N_drew)); exact Kd.N_mono HO205.out (fun _ hk => ⟨⟨hk.1, hk.2.2⟩, hk.2.1⟩)) hg hat); have n2_ := Aside0.mk (hb); have n3_ := Aside0.mk (ho); clear HI195; clear HO205; clear HB; clear HO198; have HI195 := n0_; have HO205 := n1_; have HB := n2_; have HO212 := n3_; clear n0_ n1_ n2_ n3_; clear ho hb hg hat; obtain ⟨Ao12, co12, eo12⟩ := Kd.N_slice HO212.out; subst eo12) | ((with_reducible refine gate_callee (f := 19) rfl ?_); refine goesL_ (some 11) rfl rfl Tryz.func19 (by kernel_rfl) rfl #[.slice Ao12 y210.length co12] rfl (by (try simp only [List.map_toArray, List.map_cons, List.map_nil]); first | done | rfl | (simp only [List.length_drop, List.length_take]; rfl)) ?_; (with_reducible refine (scan_Merge.calls (fun k_ => ((w.heap.size ≤ k_) ∧ k_ ≠ g195)) _ _ y210 t213 _ ?side1 A6.out).mono ?_); (case side1 => exact Kd.N_V (HO212.out)); rintro e w13 ⟨v214, rfl, ho0, hb⟩; refine ⟨_, rfl, ?_⟩; have n0_ := Aside0.mk (Kd.N_below (by (with_reducible repeat (first | apply Kd.N_alloc | apply Kd.N_drewN | apply Kd.N_drew)); exact HO205.out) hb); have n1_ := Aside0.mk (Kd.N_below (by (with_reducible repeat (first | apply Kd.N_alloc | apply Kd.N_drewN | apply Kd.N_drew)); exact HO212.out) hb); have n2_ := Aside0.mk (Kd.V_lower (Kd.V_mono (ok' := fun k_ => (w.heap.size ≤ k_) ∧ k_ ≠ g195) ho0 (fun k_ hk_ => ⟨Or.elim hk_ (fun hs_ => hs_.1) (fun hn_ => (Nat.le_trans (below_size (by repeat (first | (with_reducible first | exact HB.out | apply below_alloc | apply pw_below_drewN | apply below_drew1 | refine below_set ?_ (IsS56.ge HI195.out)) | exact HB.out))) hn_)), Or.elim hk_ (fun hs_ => hs_.2) (fun hn_ => (IsS56.fresh (by repeat (first | (with_reducible first | exact HI195.out | apply IsS56.alloc | apply IsS56.drewN | apply IsS56.drew | apply IsS56.set_0 | apply IsS56.set_1 | apply IsS56.set_2 | apply IsS56.set_3) | exact HI195.out)) k_ hn_))⟩)) (below_size (by repeat (first | (with_reducible first | exact HB.out | apply below_alloc | apply pw_below_drewN | apply below_drew1 | refine below_set ?_ (IsS56.ge HI195.out)) | exact HB.out)))); have n3_ := Aside0.mk (IsS56.below (by repeat (first | (with_reducible first | exact HI195.out | apply IsS56.alloc | apply IsS56.drewN | apply IsS56.drew | apply IsS56.set_0 | apply IsS56.set_1 | apply IsS56.set_2 | apply IsS56.set_3) | exact HI195.out)) hb); have n4_ := Aside0.mk (below_step (by repeat (first | (with_reducible first | exact HB.out | apply below_alloc | apply pw_below_drewN | apply below_drew1 | refine below_set ?_ (IsS56.ge HI195.out)) | exact HB.out)) hb); clear HO205; clear HO212; clear HI195; clear HB; have HO205 := n0_; have HO212 := n1_; have HO215 := n2_; have HI195 := n3_; have HB := n4_; clear n0_ n1_ n2_ n3_ n4_; (try clear hb); (try clear hb2); (try clear hk); (try clear hi); (try clear ho0)))
    go_ret
    exact ⟨_, by first | rfl | (simp [errW_none, errW_some] <;> rfl) | (simp [*, errW_none, errW_some] <;> rfl), by (with_reducible repeat (first | apply Kd.V_alloc | apply Kd.V_drewN | apply Kd.V_drew)); exact Kd.V_mono HO215.out (fun _ hk => hk.1), by repeat (first | (with_reducible first | exact HB.out | apply below_alloc | apply pw_below_drewN | apply below_drew1 | refine below_set ?_ (IsS56.ge HI195.out)) | exact HB.out)⟩
  · rw [if_neg c5] at H
    exact absurd H (by simp)

end Go.Proofs.YtoacojkmclngmaaGreatDoor.Pz

-- written by the session's own program hookprint.py
namespace Go.Proofs.YtoacojkmclngmaaGreatDoor.Pz
open Go.RowKit Go.Proofs.YtoacojkmclngmaaGreatDoorW.PrintWords Go.Proofs.YtoacojkmclngmaaGreatDoorW.PrintLast Go.Proofs.YtoacojkmclngmaaGreatDoorW.PrintMore
attribute [local go_sem] max2_int min2_int max_two min_two max_three min_three max_four min_four   -- for this text's walks alone
attribute [local go_sem] rune_str
set_option linter.unusedVariables false
set_option linter.unusedSimpArgs false

/-! ### cribblelaw18_awake: function 12 (by hand) -/
-- IMPORTS: @S@HandWords Derived.Deep.RegionHeld3
def awakeText : ByteArray := ⟨#[97, 60, 66, 32, 99, 61, 49, 32, 67, 61, 50, 62, 120, 60, 47, 62, 121]⟩
def awakeList : List S33 := [⟨1, ⟨#[]⟩, ⟨#[97]⟩, [], false⟩, ⟨2, ⟨#[98]⟩, ⟨#[]⟩, [⟨⟨#[99]⟩, ⟨#[49]⟩⟩], false⟩, ⟨1, ⟨#[]⟩, ⟨#[120, 121]⟩, [], false⟩]
instance decAttr : DecidableEq S36 := fun x y => decidable_of_iff (x.f0 = y.f0 ∧ x.f1 = y.f1) (by cases x; cases y; simp)
instance decToken : DecidableEq S33 := fun x y => decidable_of_iff (x.f0 = y.f0 ∧ x.f1 = y.f1 ∧ x.f2 = y.f2 ∧ x.f3 = y.f3 ∧ x.f4 = y.f4) (by cases x; cases y; simp)
def cribblelaw18_awake.f : Option Bool := if scan_Tokens.f 32 awakeText = some awakeList then some true else none
set_option maxHeartbeats 4000000 in
set_option maxRecDepth 100000 in
theorem cribblelaw18_awake.calls  (r : Bool) (w : World) (hG : Glob w) (h : cribblelaw18_awake.f  = some r) :
    Calls Tryz.prog 12 #[] w fun e w' => e = .returned (.bool r) ∧ Below w.heap.size w w' := by
  unfold cribblelaw18_awake.f at h
  split at h
  case isFalse => cases h
  rename_i ht
  obtain rfl := Option.some.inj h
  have HT : Aside0 (scan_Tokens.f 32 (⟨#[97, 60, 66, 32, 99, 61, 49, 32, 67, 61, 50, 62, 120, 60, 47, 62, 121]⟩ : ByteArray) = some awakeList) := ⟨ht⟩
  have HG0 := Aside0.mk hG
  clear ht h hG
  go_enter Tryz.func12, Tryz.ntmps12
  go_upto_region 2 with (first | (go_at_call 14; (with_reducible refine (scan_Tokens.calls 32 (⟨#[97, 60, 66, 32, 99, 61, 49, 32, 67, 61, 50, 62, 120, 60, 47, 62, 121]⟩ : ByteArray) awakeList _ HG0.out HT.out).mono ?_); rintro e w1 ⟨v, rfl, ho, hb⟩; have HV := Aside0.mk ho; have HB1 := Aside0.mk hb; clear ho hb))
  obtain ⟨A, c, rfl⟩ := Kd.V_slice HV.out
  have hc63 : (3 : Nat) ≤ c := (Kd.V_at HV.out).2.1
  obtain ⟨ad, rfl⟩ : ∃ ad, A = some ad := by obtain ⟨ad, h, _⟩ := (Kd.V_reads' HV.out).2.2.2.2 (show 0 < awakeList.length from by decide); exact ⟨ad, h⟩
  obtain ⟨c1, hl1, hF1, hc1⟩ := Kd.V_get HV.out (⟨0, ⟨#[]⟩, ⟨#[]⟩, [], false⟩ : S33) 1 (by decide) (by decide)
  obtain ⟨c2, hl2, hF2, hc2⟩ := Kd.V_get HV.out (⟨0, ⟨#[]⟩, ⟨#[]⟩, [], false⟩ : S33) 2 (by decide) (by decide)
  obtain ⟨A1, p1, rfl, hq1, hG1⟩ := k33_openF hF1
  obtain ⟨A2, p2, rfl, hq2, hG2⟩ := k33_openF hF2
  have hC1 := Kd.F_now hG1
  obtain ⟨ae, rfl⟩ : ∃ ae, A1 = some ae := by obtain ⟨ad, h, _⟩ := hC1.2.2 (show 0 < 1 from by decide); exact ⟨ad, h⟩
  obtain ⟨ad', ce, he', hle, hKe, hce⟩ := Kd.C_get hC1 (⟨⟨#[]⟩, ⟨#[]⟩⟩ : S36) 0 (by decide) (by decide)
  injection he' with he'
  subst he'
  obtain rfl := k36_open hKe
  have hn1 : w1.cell? ⟨(ad.add 5).block, (ad.add 5).off + 1, none⟩ = some (.string ⟨#[98]⟩) := by rw [← add_field _ _ 1 (by omega)]; exact hc1 1 _ rfl
  have hn3 : w1.cell? ⟨(ad.add 5).block, (ad.add 5).off + 3, none⟩ = some (.slice (some ae) 1 p1) := by rw [← add_field _ _ 3 (by omega)]; exact hc1 3 _ rfl
  have hm2 : w1.cell? ⟨(ad.add 10).block, (ad.add 10).off + 2, none⟩ = some (.string ⟨#[120, 121]⟩) := by rw [← add_field _ _ 2 (by omega)]; exact hc2 2 _ rfl
  have he0 : w1.cell? (ae.add 0) = some (.string ⟨#[99]⟩) := hce 0 _ rfl
  have he1 : w1.cell? (ae.add 1) = some (.string ⟨#[49]⟩) := hce 1 _ rfl
  clear hc1 hc2 hF1 hF2 hG1 hG2 hC1 hKe hce
  have hlen : awakeList.length = 3 := rfl
  rw [hlen]
  replace hn1 : w1.cell? ⟨ad.block, ad.off + 5 + 1, none⟩ = some (.string ⟨#[98]⟩) := hn1
  replace hn3 : w1.cell? ⟨ad.block, ad.off + 5 + 3, none⟩ = some (.slice (some ae) 1 p1) := hn3
  replace hm2 : w1.cell? ⟨ad.block, ad.off + 10 + 2, none⟩ = some (.string ⟨#[120, 121]⟩) := hm2
  have he2 : w1.cell? ae = some (.string ⟨#[99]⟩) := he0
  have he3 : w1.cell? ⟨ae.block, ae.off + 1, none⟩ = some (.string ⟨#[49]⟩) := he1
  clear hl1 hl2 hle hq1 hq2 hlen
  go_wp2_with (first | (go_at_call 16; (with_reducible refine (scan_New.calls _ _ _ _ w _ HB1.out rfl).mono ?_); rintro e w2 ⟨gn, rfl, -, hb1, hb2⟩; have HB2 := Aside0.mk hb1; clear hb1 hb2))
  go_ret
  exact ⟨rfl, HB2.out⟩

end Go.Proofs.YtoacojkmclngmaaGreatDoor.Pz

-- written by the session's own program hookprint.py
namespace Go.Proofs.YtoacojkmclngmaaGreatDoor.Pz
open Go.RowKit Go.Proofs.YtoacojkmclngmaaGreatDoorW.PrintWords Go.Proofs.YtoacojkmclngmaaGreatDoorW.PrintLast Go.Proofs.YtoacojkmclngmaaGreatDoorW.PrintMore
attribute [local go_sem] max2_int min2_int max_two min_two max_three min_three max_four min_four   -- for this text's walks alone
attribute [local go_sem] rune_str
set_option linter.unusedVariables false
set_option linter.unusedSimpArgs false

/-! ### scan_Scanner_Held: function 21 -/
def scan_Scanner_Held.f (s0_0 : ByteArray) (s0_1 : Bool) (s0_2 : ByteArray) (s0_3 : Int) : Option (Int × ByteArray × Bool × ByteArray × Int) := some ((s0_0.size : Int), s0_0, s0_1, s0_2, s0_3)
set_option maxHeartbeats 8000000 in
set_option maxRecDepth 100000 in
theorem scan_Scanner_Held.calls (g : Nat) (s0_0 : ByteArray) (s0_1 : Bool) (s0_2 : ByteArray) (s0_3 : Int) (r1 : Int) (r2 : ByteArray) (r3 : Bool) (r4 : ByteArray) (r5 : Int) (w0 w : World) (hI : IsS56 w0 w g s0_0 s0_1 s0_2 s0_3) (hB : Below w0.heap.size w0 w) (h : scan_Scanner_Held.f s0_0 s0_1 s0_2 s0_3 = some (r1, r2, r3, r4, r5)) :
    Calls Tryz.prog 21 #[.pointer (some ⟨g, 0, none⟩)] w fun e w' => e = .returned (.int .i64 r1) ∧ IsS56 w0 w' g r2 r3 r4 r5 ∧ Below w0.heap.size w0 w' ∧ KeepBut w w' g none := by
  have HI0 := Aside0.mk hI
  have HK := Aside0.mk (KeepBut.refl w g none)
  have HL := Aside0.mk hB.size
  clear hI
  have HW0 := Aside0.mk hB.size
  have HB := Aside0.mk hB
  clear hB
  have H : (some ((s0_0.size : Int), s0_0, s0_1, s0_2, s0_3)) = some (r1, r2, r3, r4, r5) := h
  clear h
  simp only [Option.some.injEq, Prod.mk.injEq] at H
  obtain ⟨rfl, rfl, rfl, rfl, rfl⟩ := H
  obtain ⟨HGz2, hgz2⟩ := HI0.out
  have hcz2_0 := cellS56_0 HGz2
  have hcz2_1 := cellS56_1 HGz2
  have hcz2_2 := cellS56_2 HGz2
  have hcz2_3 := cellS56_3 HGz2
  have hfz2_0 := blk_frozen HGz2 0
  have hfz2_1 := blk_frozen HGz2 1
  have hfz2_2 := blk_frozen HGz2 2
  have hfz2_3 := blk_frozen HGz2 3
  clear HGz2 hgz2
  go_enter Tryz.func21, Tryz.ntmps21
  go_wp2
  go_ret
  exact ⟨by first | rfl | (simp [errW_none, errW_some] <;> rfl) | (simp [*, errW_none, errW_some] <;> rfl), by repeat (first | (with_reducible first | exact HI0.out | apply IsS56.alloc | apply IsS56.drewN | apply IsS56.drew | apply IsS56.set_0 | apply IsS56.set_1 | apply IsS56.set_2 | apply IsS56.set_3) | exact HI0.out), by repeat (first | (with_reducible first | exact HB.out | apply below_alloc | apply pw_below_drewN | apply below_drew1 | refine below_set ?_ (IsS56.ge HI0.out)) | exact HB.out), by repeat (first | (with_reducible first | exact HK.out | apply KeepBut.set_ | apply keep_drewN | apply keep_drew | apply keep_alloc) | exact HK.out)⟩

end Go.Proofs.YtoacojkmclngmaaGreatDoor.Pz

-- written by the session's own program hookprint.py
namespace Go.Proofs.YtoacojkmclngmaaGreatDoor.Pz
open Go.RowKit Go.Proofs.YtoacojkmclngmaaGreatDoorW.PrintWords Go.Proofs.YtoacojkmclngmaaGreatDoorW.PrintLast Go.Proofs.YtoacojkmclngmaaGreatDoorW.PrintMore
attribute [local go_sem] max2_int min2_int max_two min_two max_three min_three max_four min_four   -- for this text's walks alone
attribute [local go_sem] rune_str
set_option linter.unusedVariables false
set_option linter.unusedSimpArgs false

/-! ### cribblelaw18_ScanHeld: function 8 -/
mutual
def cribblelaw18_ScanHeld.j0 : Nat → ByteArray → Bool → Bool → Option (Bool)
  | 0, _, _, _ => none
  | k + 1, x0, x3, x15 => if x15 = true then (some x3) else ((scan_New.f).bind fun bt576 => ((scan_Scanner_Write.f k bt576.1 bt576.2.1 bt576.2.2.1 bt576.2.2.2 x0).bind fun bt581 => (cribblelaw18_ScanHeld.l0 k x0 (x0.size : Int) 0 bt581.2.1 bt581.2.2.1 bt581.2.2.2.1 bt581.2.2.2.2)))
def cribblelaw18_ScanHeld.l0 : Nat → ByteArray → Int → Int → ByteArray → Bool → ByteArray → Int → Option (Bool)
  | 0, _, _, _, _, _, _, _ => none
  | k + 1, x0, x5, x6, x581000, x581001, x581002, x581003 => if x6 < (x0.size : Int) then (if 0 ≤ x6 then (if (bt x0 x6) = 60 then (cribblelaw18_ScanHeld.l0 k x0 (mn x5 x6) (wrap64 (x6 + 1)) x581000 x581001 x581002 x581003) else (if (bt x0 x6) = 38 then (cribblelaw18_ScanHeld.l0 k x0 (mn x5 x6) (wrap64 (x6 + 1)) x581000 x581001 x581002 x581003) else (cribblelaw18_ScanHeld.l0 k x0 x5 (wrap64 (x6 + 1)) x581000 x581001 x581002 x581003))) else (none)) else ((scan_Scanner_Held.f x581000 x581001 x581002 x581003).bind fun bt588 => (if bt588.1 ≤ (wrap64 ((x0.size : Int) - x5)) then (some (decide (bt588.1 ≥ 0))) else (some false)))
end
def cribblelaw18_ScanHeld.f (k : Nat) (a0 : ByteArray) : Option (Bool) := (cribblelaw18_awake.f).bind fun t575 => (if t575 = true then (cribblelaw18_ScanHeld.j0 k a0 t575 (decide ((a0.size : Int) > 500))) else (cribblelaw18_ScanHeld.j0 k a0 t575 true))
theorem cribblelaw18_ScanHeld.mono_l : ∀ k, (∀ y0 y1 y2, LeO (cribblelaw18_ScanHeld.j0 k y0 y1 y2) (cribblelaw18_ScanHeld.j0 (k + 1) y0 y1 y2)) ∧ (∀ y0 y1 y2 y3 y4 y5 y6, LeO (cribblelaw18_ScanHeld.l0 k y0 y1 y2 y3 y4 y5 y6) (cribblelaw18_ScanHeld.l0 (k + 1) y0 y1 y2 y3 y4 y5 y6))
  | 0 => ⟨fun _ _ _ r h => by simp [cribblelaw18_ScanHeld.j0] at h, fun _ _ _ _ _ _ _ r h => by simp [cribblelaw18_ScanHeld.l0] at h⟩
  | k + 1 => by
    obtain ⟨ih0, ih1⟩ := cribblelaw18_ScanHeld.mono_l k
    refine ⟨?_, ?_⟩
    · intro y0 y1 y2
      unfold cribblelaw18_ScanHeld.j0
      repeat' first
      | (with_reducible exact ih0 _ _ _)
      | (with_reducible exact ih1 _ _ _ _ _ _ _)
      | (with_reducible exact scan_Scanner_Write.mono _ _ _ _ _ _)
      | (with_reducible exact LeO.refl _)
      | (with_reducible exact LeO.none _)
      | (with_reducible refine LeO.ite ?_ ?_)
      | (with_reducible refine LeO.bind ?_ (fun _ => ?_))
      | exact ih0 _ _ _
      | exact ih1 _ _ _ _ _ _ _
      | exact scan_Scanner_Write.mono _ _ _ _ _ _
      | exact LeO.none _
      | refine LeO.ite ?_ ?_
      | refine LeO.bind ?_ (fun _ => ?_)
    · intro y0 y1 y2 y3 y4 y5 y6
      unfold cribblelaw18_ScanHeld.l0
      repeat' first
      | (with_reducible exact ih0 _ _ _)
      | (with_reducible exact ih1 _ _ _ _ _ _ _)
      | (with_reducible exact scan_Scanner_Write.mono _ _ _ _ _ _)
      | (with_reducible exact LeO.refl _)
      | (with_reducible exact LeO.none _)
      | (with_reducible refine LeO.ite ?_ ?_)
      | (with_reducible refine LeO.bind ?_ (fun _ => ?_))
      | exact ih0 _ _ _
      | exact ih1 _ _ _ _ _ _ _
      | exact scan_Scanner_Write.mono _ _ _ _ _ _
      | exact LeO.none _
      | refine LeO.ite ?_ ?_
      | refine LeO.bind ?_ (fun _ => ?_)
theorem cribblelaw18_ScanHeld.mono : ∀ a0 k, LeO (cribblelaw18_ScanHeld.f k a0) (cribblelaw18_ScanHeld.f (k + 1) a0) := by
  intro a0 k
  obtain ⟨ih0, ih1⟩ := cribblelaw18_ScanHeld.mono_l k
  unfold cribblelaw18_ScanHeld.f
  repeat' first
      | (with_reducible exact ih0 _ _ _)
      | (with_reducible exact ih1 _ _ _ _ _ _ _)
      | (with_reducible exact scan_Scanner_Write.mono _ _ _ _ _ _)
      | (with_reducible exact LeO.refl _)
      | (with_reducible exact LeO.none _)
      | (with_reducible refine LeO.ite ?_ ?_)
      | (with_reducible refine LeO.bind ?_ (fun _ => ?_))
      | exact ih0 _ _ _
      | exact ih1 _ _ _ _ _ _ _
      | exact scan_Scanner_Write.mono _ _ _ _ _ _
      | exact LeO.none _
      | refine LeO.ite ?_ ?_
      | refine LeO.bind ?_ (fun _ => ?_)
set_option maxHeartbeats 8000000 in
set_option maxRecDepth 100000 in
theorem cribblelaw18_ScanHeld.calls (k : Nat) (a0 : ByteArray) (r : Bool) (w : World) (hG : Glob w) (h : cribblelaw18_ScanHeld.f k a0 = some r) :
    Calls Tryz.prog 8 #[.string a0] w fun e w' => e = .returned (.bool r) ∧ Below w.heap.size w w' := by
  have HB := Aside0.mk (Below.refl w.heap.size w)
  have H : ((cribblelaw18_awake.f).bind fun t575 => (if t575 = true then (cribblelaw18_ScanHeld.j0 k a0 t575 (decide ((a0.size : Int) > 500))) else (cribblelaw18_ScanHeld.j0 k a0 t575 true))) = some r := h
  clear h
  replace H := Option.bind_eq_some_iff.mp H
  obtain ⟨t575, A20, H⟩ := H
  replace H : (if t575 = true then (cribblelaw18_ScanHeld.j0 k a0 t575 (decide ((a0.size : Int) > 500))) else (cribblelaw18_ScanHeld.j0 k a0 t575 true)) = some r := H
  have A2 := Aside0.mk A20
  clear A20
  have HC3 := Aside0.mk H
  clear H
  go_enter Tryz.func8, Tryz.ntmps8
  go_upto_region 2 with (first | ((with_reducible refine gate_callee (f := 12) rfl ?_); refine goesL_ (some 8) rfl rfl Tryz.func12 (by kernel_rfl) rfl #[] rfl (by (try simp only [List.map_toArray, List.map_cons, List.map_nil]); first | done | rfl | (simp only [List.length_drop, List.length_take]; rfl)) ?_; (with_reducible refine (cribblelaw18_awake.calls  t575 _ ?side1 A2.out).mono ?_); (case side1 => exact Glob.below hG (by repeat (first | (with_reducible first | exact HB.out | apply below_alloc | apply pw_below_drewN | apply below_drew1) | exact HB.out))); rintro e w4 ⟨rfl, hb⟩; refine ⟨_, rfl, ?_⟩; have n0_ := Aside0.mk (below_step (by repeat (first | (with_reducible first | exact HB.out | apply below_alloc | apply pw_below_drewN | apply below_drew1) | exact HB.out)) hb); clear HB; have HB := n0_; clear n0_; (try clear hb); (try clear hb2); (try clear hk); (try clear hi)))
  (try simp only [Act.put, List.setIfInBounds_toArray, List.set_cons_zero, List.set_cons_succ])
  go_cut [15] (fun v15 wc => ∃ (kq : Nat) (x15_2 : Bool), v15 = .bool x15_2 ∧ Aside0 (cribblelaw18_ScanHeld.j0 kq a0 t575 x15_2 = some r) ∧ Aside0 (kq ≤ k) ∧ Aside0 (Below w.heap.size w wc))
  case first =>
    have H := HC3.out
    clear HC3
    by_cases c5 : t575 = true
    · subst c5
      have H1 : (cribblelaw18_ScanHeld.j0 k a0 true (decide ((a0.size : Int) > 500))) = some r := by rw [if_pos rfl] at H; exact H
      clear H
      have H := H1
      clear H1
      have H' := Aside0.mk H
      clear H
      go_wp2
      go_meet
      case rel => exact ⟨_, (decide ((a0.size : Int) > 500)), (by first | rfl | (simp; done) | (simp [*]; done) | (simp; unfold wrap64; omega) | (simp; rfl)), H', ⟨by first | omega | exact Nat.le_refl _⟩, ⟨by repeat (first | (with_reducible first | exact HB.out | apply below_alloc | apply pw_below_drewN | apply below_drew1) | exact HB.out)⟩⟩
    · replace c5 := Bool.eq_false_iff.mpr c5
      subst c5
      have H1 : (cribblelaw18_ScanHeld.j0 k a0 false true) = some r := by rw [if_neg (show ¬ (false = true) by decide)] at H; exact H
      clear H
      have H := H1
      clear H1
      have H' := Aside0.mk H
      clear H
      go_wp2
      go_meet
      case rel => exact ⟨_, (true), (by first | rfl | (simp; done) | (simp [*]; done) | (simp; unfold wrap64; omega) | (simp; rfl)), H', ⟨by first | omega | exact Nat.le_refl _⟩, ⟨by repeat (first | (with_reducible first | exact HB.out | apply below_alloc | apply pw_below_drewN | apply below_drew1) | exact HB.out)⟩⟩
  case rest =>
    clear HC3
    try clear c1
    try clear p2
    try clear c5
    obtain ⟨kq, x15_2, rfl, HA, HJ2, HB⟩ := hcut
    cases kq with
    | zero => exact absurd HA.out (by simp [cribblelaw18_ScanHeld.j0])
    | succ kj2 =>
      have H := HA.out
      clear HA
      simp only [cribblelaw18_ScanHeld.j0] at H
      by_cases c6 : x15_2 = true
      · subst c6
        have H1 : (some t575) = some r := by rw [if_pos rfl] at H; exact H
        clear H
        have H := H1
        clear H1
        obtain rfl := Option.some.inj H
        go_wp2
        go_ret
        exact ⟨by first | rfl | (simp [errW_none, errW_some] <;> rfl) | (simp [*, errW_none, errW_some] <;> rfl), by repeat (first | (with_reducible first | exact HB.out | apply below_alloc | apply pw_below_drewN | apply below_drew1) | exact HB.out)⟩
      · replace c6 := Bool.eq_false_iff.mpr c6
        subst c6
        have H1 : ((scan_New.f).bind fun bt576 => ((scan_Scanner_Write.f kj2 bt576.1 bt576.2.1 bt576.2.2.1 bt576.2.2.2 a0).bind fun bt581 => (cribblelaw18_ScanHeld.l0 kj2 a0 (a0.size : Int) 0 bt581.2.1 bt581.2.2.1 bt581.2.2.2.1 bt581.2.2.2.2))) = some r := by rw [if_neg (show ¬ (false = true) by decide)] at H; exact H
        clear H
        have H := H1
        clear H1
        replace H := Option.bind_eq_some_iff.mp H
        obtain ⟨⟨t576, t577, t578, t579⟩, A70, H⟩ := H
        replace H : ((scan_Scanner_Write.f kj2 t576 t577 t578 t579 a0).bind fun bt581 => (cribblelaw18_ScanHeld.l0 kj2 a0 (a0.size : Int) 0 bt581.2.1 bt581.2.2.1 bt581.2.2.2.1 bt581.2.2.2.2)) = some r := H
        have A7 := Aside0.mk A70
        clear A70
        replace H := Option.bind_eq_some_iff.mp H
        obtain ⟨⟨t581, t584, t585, t586, t587⟩, A80, H⟩ := H
        replace H : (cribblelaw18_ScanHeld.l0 kj2 a0 (a0.size : Int) 0 t584 t585 t586 t587) = some r := H
        have A8 := Aside0.mk A80
        clear A80
        have H' := Aside0.mk H
        clear H
        go_wp2_with (first | ((with_reducible refine gate_callee (f := 16) rfl ?_); refine goesL_ (some 17) rfl rfl Tryz.func16 (by kernel_rfl) rfl #[] rfl (by (try simp only [List.map_toArray, List.map_cons, List.map_nil]); first | done | rfl | (simp only [List.length_drop, List.length_take]; rfl)) ?_; (with_reducible refine (scan_New.calls  t576 t577 t578 t579 w _ ?side1 A7.out).mono ?_); (case side1 => repeat (first | (with_reducible first | exact HB.out | apply below_alloc | apply pw_below_drewN | apply below_drew1) | exact HB.out)); rintro e w9 ⟨g580, rfl, hi, hb, hb2⟩; refine ⟨_, rfl, ?_⟩; have n0_ := Aside0.mk (hb); have n1_ := Aside0.mk (hi); clear HB; have HB := n0_; have HI580 := n1_; clear n0_ n1_; (try clear hb); (try clear hb2); (try clear hk); (try clear hi)) | ((with_reducible refine gate_callee (f := 17) rfl ?_); refine goesL_ (some 20) rfl rfl Tryz.func17 (by kernel_rfl) rfl #[.pointer (some ⟨g580, 0, none⟩), .string a0] rfl (by (try simp only [List.map_toArray, List.map_cons, List.map_nil]); first | done | rfl | (simp only [List.length_drop, List.length_take]; rfl)) ?_; (with_reducible refine (scan_Scanner_Write.calls kj2 g580 t576 t577 t578 t579 a0 t581 t584 t585 t586 t587 w _ ?side1 ?side2 hG A8.out).mono ?_); (case side1 => repeat (first | (with_reducible first | exact HI580.out | apply IsS56.alloc | apply IsS56.drewN | apply IsS56.drew | apply IsS56.set_0 | apply IsS56.set_1 | apply IsS56.set_2 | apply IsS56.set_3) | exact HI580.out)); (case side2 => repeat (first | (with_reducible first | exact HB.out | apply below_alloc | apply pw_below_drewN | apply below_drew1 | refine below_set ?_ (IsS56.ge HI580.out)) | exact HB.out)); rintro e w10 ⟨v582, rfl, ho0, hi, hb, hk⟩; refine ⟨_, rfl, ?_⟩; have n0_ := Aside0.mk (Kd.N_lower (Kd.N_mono (ok' := fun k_ => k_ ≠ g580) ho0 (fun k_ hk_ => (IsS56.fresh (by repeat (first | (with_reducible first | exact HI580.out | apply IsS56.alloc | apply IsS56.drewN | apply IsS56.drew | apply IsS56.set_0 | apply IsS56.set_1 | apply IsS56.set_2 | apply IsS56.set_3) | exact HI580.out)) k_ hk_))) (below_size (by repeat (first | (with_reducible first | exact HB.out | apply below_alloc | apply pw_below_drewN | apply below_drew1 | refine below_set ?_ (IsS56.ge HI580.out)) | exact HB.out)))); have n1_ := Aside0.mk (hb); have n2_ := Aside0.mk (hi); clear HB; clear HI580; have HO583 := n0_; have HB := n1_; have HI580 := n2_; clear n0_ n1_ n2_; (try clear hb); (try clear hb2); (try clear hk); (try clear hi); (try clear ho0)))
        go_loopg [5, 6] kj2 (fun kq v5 v6 w' => ∃ (x5_2 : Int) (x6_2 : Int), v5 = .int .i64 x5_2 ∧ v6 = .int .i64 x6_2 ∧ Aside0 (cribblelaw18_ScanHeld.l0 kq a0 x5_2 x6_2 t584 t585 t586 t587 = some r) ∧ Aside0 (kq ≤ kj2) ∧ Aside0 (IsS56 w w' g580 t584 t585 t586 t587) ∧ Aside0 (Below w.heap.size w w'))
        case atStart => exact ⟨((a0.size : Int)), (0), (by first | rfl | (simp; done) | (simp [*]; done) | (simp; unfold wrap64; omega) | (simp; rfl)), (by first | rfl | (simp; done) | (simp [*]; done) | (simp; unfold wrap64; omega) | (simp; rfl)), H', ⟨Nat.le_refl _⟩, ⟨by repeat (first | (with_reducible first | exact HI580.out | apply IsS56.alloc | apply IsS56.drewN | apply IsS56.drew | apply IsS56.set_0 | apply IsS56.set_1 | apply IsS56.set_2 | apply IsS56.set_3) | exact HI580.out)⟩, ⟨by repeat (first | (with_reducible first | exact HB.out | apply below_alloc | apply pw_below_drewN | apply below_drew1 | refine below_set ?_ (IsS56.ge HI580.out)) | exact HB.out)⟩⟩
        case round =>
          clear H'
          try clear c1
          try clear p2
          try clear c5
          try clear c6
          try clear c8
          try clear p2
          obtain ⟨x5_2, x6_2, rfl, rfl, HA, HK2, HI580, HB⟩ := hrel
          cases gk with
          | zero => exact absurd HA.out (by simp [cribblelaw18_ScanHeld.l0])
          | succ k2 =>
            have H := HA.out
            clear HA
            simp only [cribblelaw18_ScanHeld.l0] at H
            by_cases c11 : x6_2 < (a0.size : Int)
            · rw [if_pos c11] at H
              have c11b0 : decide (x6_2 < (a0.size : Int)) = true := decide_eq_true c11
              clear c11
              by_cases c12 : 0 ≤ x6_2
              · rw [if_pos c12] at H
                have c12b0 : decide (0 ≤ x6_2) = true := decide_eq_true c12
                clear c12
                by_cases c14 : (bt a0 x6_2) = 60
                · rw [if_pos c14] at H
                  have c14b0 : ((bt a0 x6_2) == 60) = true := beq_iff_eq.mpr c14
                  have c14b1 : ((bt a0 x6_2) != 60) = false := bne_eq_false_iff_eq.mpr c14
                  clear c14
                  obtain ⟨ji15, hji15⟩ : ∃ j_ : Int, (mn x5_2 x6_2) = j_ := ⟨_, rfl⟩
                  replace H : (cribblelaw18_ScanHeld.l0 k2 a0 ji15 (wrap64 (x6_2 + 1)) t584 t585 t586 t587) = some r := by first | (rw [hji15] at H; exact H) | (simp only [hji15] at H ⊢; exact H)
                  have hji15_ : (if x6_2 < x5_2 then x6_2 else x5_2) = ji15 := hji15
                  have H' := Aside0.mk H
                  clear H
                  have p13 : 0 ≤ (x6_2 : Int) := of_decide_eq_true (by first | (with_reducible assumption) | assumption)
                  have q13 : x6_2 < (a0.size : Int) := of_decide_eq_true (by first | (with_reducible assumption) | assumption)
                  have hx13 := bt_at a0 x6_2
                  replace p13 := eq_true p13
                  replace q13 := eq_true q13
                  go_wp2
                  go_roundg k2
                  case measure => have := HJ2.out; have := HK2.out; omega
                  case rel => exact ⟨(ji15), (wrap64 (x6_2 + 1)), (by first | rfl | (simp; done) | (simp only [← hji15] <;> (first | rfl | simp)) | (simp [*]; done)), (by first | rfl | (simp; done) | (simp [*]; done) | (simp; unfold wrap64; omega) | (simp; rfl)), H', ⟨by have := HJ2.out; have := HK2.out; omega⟩, ⟨by repeat (first | (with_reducible first | exact HI580.out | apply IsS56.alloc | apply IsS56.drewN | apply IsS56.drew | apply IsS56.set_0 | apply IsS56.set_1 | apply IsS56.set_2 | apply IsS56.set_3) | exact HI580.out)⟩, ⟨by repeat (first | (with_reducible first | exact HB.out | apply below_alloc | apply pw_below_drewN | apply below_drew1 | refine below_set ?_ (IsS56.ge HI580.out)) | exact HB.out)⟩⟩
                · rw [if_neg c14] at H
                  have c14b0 : ((bt a0 x6_2) == 60) = false := beq_eq_false_iff_ne.mpr c14
                  have c14b1 : ((bt a0 x6_2) != 60) = true := bne_iff_ne.mpr c14
                  by_cases c17 : (bt a0 x6_2) = 38
                  · rw [if_pos c17] at H
                    have c17b0 : ((bt a0 x6_2) == 38) = true := beq_iff_eq.mpr c17
                    have c17b1 : ((bt a0 x6_2) != 38) = false := bne_eq_false_iff_eq.mpr c17
                    clear c17
                    obtain ⟨ji18, hji18⟩ : ∃ j_ : Int, (mn x5_2 x6_2) = j_ := ⟨_, rfl⟩
                    replace H : (cribblelaw18_ScanHeld.l0 k2 a0 ji18 (wrap64 (x6_2 + 1)) t584 t585 t586 t587) = some r := by first | (rw [hji18] at H; exact H) | (simp only [hji18] at H ⊢; exact H)
                    have hji18_ : (if x6_2 < x5_2 then x6_2 else x5_2) = ji18 := hji18
                    have H' := Aside0.mk H
                    clear H
                    have p13 : 0 ≤ (x6_2 : Int) := of_decide_eq_true (by first | (with_reducible assumption) | assumption)
                    have q13 : x6_2 < (a0.size : Int) := of_decide_eq_true (by first | (with_reducible assumption) | assumption)
                    have hx13 := bt_at a0 x6_2
                    replace p13 := eq_true p13
                    replace q13 := eq_true q13
                    have p16 : 0 ≤ (x6_2 : Int) := of_decide_eq_true (by first | (with_reducible assumption) | assumption)
                    have q16 : x6_2 < (a0.size : Int) := of_decide_eq_true (by first | (with_reducible assumption) | assumption)
                    have hx16 := bt_at a0 x6_2
                    replace p16 := eq_true p16
                    replace q16 := eq_true q16
                    go_wp2
                    go_roundg k2
                    case measure => have := HJ2.out; have := HK2.out; omega
                    case rel => exact ⟨(ji18), (wrap64 (x6_2 + 1)), (by first | rfl | (simp; done) | (simp only [← hji18] <;> (first | rfl | simp)) | (simp [*]; done)), (by first | rfl | (simp; done) | (simp [*]; done) | (simp; unfold wrap64; omega) | (simp; rfl)), H', ⟨by have := HJ2.out; have := HK2.out; omega⟩, ⟨by repeat (first | (with_reducible first | exact HI580.out | apply IsS56.alloc | apply IsS56.drewN | apply IsS56.drew | apply IsS56.set_0 | apply IsS56.set_1 | apply IsS56.set_2 | apply IsS56.set_3) | exact HI580.out)⟩, ⟨by repeat (first | (with_reducible first | exact HB.out | apply below_alloc | apply pw_below_drewN | apply below_drew1 | refine below_set ?_ (IsS56.ge HI580.out)) | exact HB.out)⟩⟩
                  · rw [if_neg c17] at H
                    have c17b0 : ((bt a0 x6_2) == 38) = false := beq_eq_false_iff_ne.mpr c17
                    have c17b1 : ((bt a0 x6_2) != 38) = true := bne_iff_ne.mpr c17
                    have H' := Aside0.mk H
                    clear H
                    have p13 : 0 ≤ (x6_2 : Int) := of_decide_eq_true (by first | (with_reducible assumption) | assumption)
                    have q13 : x6_2 < (a0.size : Int) := of_decide_eq_true (by first | (with_reducible assumption) | assumption)
                    have hx13 := bt_at a0 x6_2
                    replace p13 := eq_true p13
                    replace q13 := eq_true q13
                    have p16 : 0 ≤ (x6_2 : Int) := of_decide_eq_true (by first | (with_reducible assumption) | assumption)
                    have q16 : x6_2 < (a0.size : Int) := of_decide_eq_true (by first | (with_reducible assumption) | assumption)
                    have hx16 := bt_at a0 x6_2
                    replace p16 := eq_true p16
                    replace q16 := eq_true q16
                    go_wp2
                    go_roundg k2
                    case measure => have := HJ2.out; have := HK2.out; omega
                    case rel => exact ⟨(x5_2), (wrap64 (x6_2 + 1)), (by first | rfl | (simp; done) | (simp [*]; done) | (simp; unfold wrap64; omega) | (simp; rfl)), (by first | rfl | (simp; done) | (simp [*]; done) | (simp; unfold wrap64; omega) | (simp; rfl)), H', ⟨by have := HJ2.out; have := HK2.out; omega⟩, ⟨by repeat (first | (with_reducible first | exact HI580.out | apply IsS56.alloc | apply IsS56.drewN | apply IsS56.drew | apply IsS56.set_0 | apply IsS56.set_1 | apply IsS56.set_2 | apply IsS56.set_3) | exact HI580.out)⟩, ⟨by repeat (first | (with_reducible first | exact HB.out | apply below_alloc | apply pw_below_drewN | apply below_drew1 | refine below_set ?_ (IsS56.ge HI580.out)) | exact HB.out)⟩⟩
              · rw [if_neg c12] at H
                exact absurd H (by simp)
            · rw [if_neg c11] at H
              have c11b0 : decide (x6_2 < (a0.size : Int)) = false := decide_eq_false c11
              clear c11
              replace H := Option.bind_eq_some_iff.mp H
              obtain ⟨⟨t588, t589, t590, t591, t592⟩, A190, H⟩ := H
              replace H : (if t588 ≤ (wrap64 ((a0.size : Int) - x5_2)) then (some (decide (t588 ≥ 0))) else (some false)) = some r := H
              have A19 := Aside0.mk A190
              clear A190
              by_cases c20 : t588 ≤ (wrap64 ((a0.size : Int) - x5_2))
              · rw [if_pos c20] at H
                have c20b0 : decide (t588 ≤ (wrap64 ((a0.size : Int) - x5_2))) = true := decide_eq_true c20
                clear c20
                obtain rfl := Option.some.inj H
                go_wp2_with (first | ((with_reducible refine gate_callee (f := 21) rfl ?_); refine goesL_ (some 43) rfl rfl Tryz.func21 (by kernel_rfl) rfl #[.pointer (some ⟨g580, 0, none⟩)] rfl (by (try simp only [List.map_toArray, List.map_cons, List.map_nil]); first | done | rfl | (simp only [List.length_drop, List.length_take]; rfl)) ?_; (with_reducible refine (scan_Scanner_Held.calls g580 t584 t585 t586 t587 t588 t589 t590 t591 t592 w _ ?side1 ?side2 A19.out).mono ?_); (case side1 => repeat (first | (with_reducible first | exact HI580.out | apply IsS56.alloc | apply IsS56.drewN | apply IsS56.drew | apply IsS56.set_0 | apply IsS56.set_1 | apply IsS56.set_2 | apply IsS56.set_3) | exact HI580.out)); (case side2 => repeat (first | (with_reducible first | exact HB.out | apply below_alloc | apply pw_below_drewN | apply below_drew1 | refine below_set ?_ (IsS56.ge HI580.out)) | exact HB.out)); rintro e w21 ⟨rfl, hi, hb, hk⟩; refine ⟨_, rfl, ?_⟩; have n0_ := Aside0.mk (hb); have n1_ := Aside0.mk (hi); clear HB; clear HI580; have HB := n0_; have HI580 := n1_; clear n0_ n1_; (try clear hb); (try clear hb2); (try clear hk); (try clear hi)))
                go_ret
                exact ⟨by first | rfl | (simp [errW_none, errW_some] <;> rfl) | (simp [*, errW_none, errW_some] <;> rfl), by repeat (first | (with_reducible first | exact HB.out | apply below_alloc | apply pw_below_drewN | apply below_drew1 | refine below_set ?_ (IsS56.ge HI580.out)) | exact HB.out)⟩
              · rw [if_neg c20] at H
                have c20b0 : decide (t588 ≤ (wrap64 ((a0.size : Int) - x5_2))) = false := decide_eq_false c20
                clear c20
                obtain rfl := Option.some.inj H
                go_wp2_with (first | ((with_reducible refine gate_callee (f := 21) rfl ?_); refine goesL_ (some 43) rfl rfl Tryz.func21 (by kernel_rfl) rfl #[.pointer (some ⟨g580, 0, none⟩)] rfl (by (try simp only [List.map_toArray, List.map_cons, List.map_nil]); first | done | rfl | (simp only [List.length_drop, List.length_take]; rfl)) ?_; (with_reducible refine (scan_Scanner_Held.calls g580 t584 t585 t586 t587 t588 t589 t590 t591 t592 w _ ?side1 ?side2 A19.out).mono ?_); (case side1 => repeat (first | (with_reducible first | exact HI580.out | apply IsS56.alloc | apply IsS56.drewN | apply IsS56.drew | apply IsS56.set_0 | apply IsS56.set_1 | apply IsS56.set_2 | apply IsS56.set_3) | exact HI580.out)); (case side2 => repeat (first | (with_reducible first | exact HB.out | apply below_alloc | apply pw_below_drewN | apply below_drew1 | refine below_set ?_ (IsS56.ge HI580.out)) | exact HB.out)); rintro e w22 ⟨rfl, hi, hb, hk⟩; refine ⟨_, rfl, ?_⟩; have n0_ := Aside0.mk (hb); have n1_ := Aside0.mk (hi); clear HB; clear HI580; have HB := n0_; have HI580 := n1_; clear n0_ n1_; (try clear hb); (try clear hb2); (try clear hk); (try clear hi)))
                go_ret
                exact ⟨by first | rfl | (simp [errW_none, errW_some] <;> rfl) | (simp [*, errW_none, errW_some] <;> rfl), by repeat (first | (with_reducible first | exact HB.out | apply below_alloc | apply pw_below_drewN | apply below_drew1 | refine below_set ?_ (IsS56.ge HI580.out)) | exact HB.out)⟩

end Go.Proofs.YtoacojkmclngmaaGreatDoor.Pz

/- The law ScanHeld, of what the code computes: true at every input. -/
namespace Go.Proofs.YtoacojkmclngmaaGreatDoor.Pz
open Go.RowKit Go.Proofs.YtoacojkmclngmaaGreatDoorW.PrintWords Go.Proofs.YtoacojkmclngmaaGreatDoorW.PrintLast Go.Proofs.YtoacojkmclngmaaGreatDoorW.PrintMore
set_option linter.unusedVariables false
set_option linter.unusedSimpArgs false
theorem awake_true : cribblelaw18_awake.f = some true := by kernel_rfl
/-- Up to i stands neither < nor &. -/
def CalmTo (x : ByteArray) (i : Nat) : Prop := ∀ j : Nat, j < i → bt x (j : Int) ≠ 60 ∧ bt x (j : Int) ≠ 38
theorem held_loop (x : ByteArray) (hx : x.size ≤ 500) (rest : ByteArray) (sh : Bool) (name : ByteArray) (raw : Int) (H : ∀ i : Nat, i ≤ x.size → CalmTo x i → rest.size ≤ x.size - i) :
    ∀ (k i m : Nat), i ≤ x.size → x.size - i < k → m ≤ x.size → (∀ j : Nat, j < i → (bt x (j : Int) = 60 ∨ bt x (j : Int) = 38) → m ≤ j) → cribblelaw18_ScanHeld.l0 k x (m : Int) (i : Int) rest sh name raw = some true
  | 0, i, m, _, hk, _, _ => absurd hk (by omega)
  | k + 1, i, m, hi, hk, hm, hj => by
    rw [cribblelaw18_ScanHeld.l0]
    have hw : wrap64 ((i : Int) + 1) = ((i + 1 : Nat) : Int) := by unfold wrap64; omega
    by_cases hlt : (i : Int) < (x.size : Int)
    · rw [if_pos hlt, if_pos (by omega), hw]
      have hmn : mn (m : Int) (i : Int) = ((min m i : Nat) : Int) := by rw [mn_min]; omega
      have hmin : ∀ j : Nat, j < i + 1 → (bt x (j : Int) = 60 ∨ bt x (j : Int) = 38) → min m i ≤ j := fun j hji hb => by
        rcases Nat.lt_or_ge j i with h | h
        · have := hj j h hb; omega
        · omega
      rw [hmn]
      by_cases h60 : bt x (i : Int) = 60
      · rw [if_pos h60]
        exact held_loop x hx rest sh name raw H k (i + 1) (min m i) (by omega) (by omega) (by omega) hmin
      · rw [if_neg h60]
        by_cases h38 : bt x (i : Int) = 38
        · rw [if_pos h38]
          exact held_loop x hx rest sh name raw H k (i + 1) (min m i) (by omega) (by omega) (by omega) hmin
        · rw [if_neg h38]
          refine held_loop x hx rest sh name raw H k (i + 1) m (by omega) (by omega) hm (fun j hji hb => ?_)
          rcases Nat.lt_or_ge j i with h | h
          · exact hj j h hb
          · have : j = i := by omega
            subst this
            rcases hb with hb | hb
            · exact absurd hb h60
            · exact absurd hb h38
    · rw [if_neg hlt]
      have hie : i = x.size := by omega
      subst hie
      have hr := H m hm (fun j hjm => ⟨fun e => by have := hj j (by omega) (.inl e); omega, fun e => by have := hj j (by omega) (.inr e); omega⟩)
      unfold scan_Scanner_Held.f
      rw [Option.bind_some]
      have hws : wrap64 ((x.size : Int) - (m : Int)) = (x.size : Int) - (m : Int) := by unfold wrap64; omega
      rw [hws]
      simp only
      rw [if_pos (by omega)]
      have : decide ((rest.size : Int) ≥ 0) = true := decide_eq_true (by omega)
      rw [this]
theorem scanHeld_true (a0 : ByteArray) : ∃ k, cribblelaw18_ScanHeld.f k a0 = some true := by
  refine ⟨a0.size + 5, ?_⟩
  unfold cribblelaw18_ScanHeld.f
  rw [awake_true, Option.bind_some, if_pos rfl]
  rw [cribblelaw18_ScanHeld.j0]
  by_cases hs : (a0.size : Int) > 500
  · rw [decide_eq_true hs, if_pos rfl]
  · rw [decide_eq_false hs, if_neg Bool.false_ne_true]
    have hs2 : a0.size ≤ 500 := by omega
    have hnew : scan_New.f = some ((⟨#[]⟩ : ByteArray), false, (⟨#[]⟩ : ByteArray), 0) := rfl
    rw [hnew, Option.bind_some]
    simp only
    obtain ⟨l, rest, name, raw, e, h1, h2, h3, h4⟩ := told_tot (a0.size + 4) false [] a0 false ⟨#[]⟩ 0 (by omega) (by decide) ⟨by decide, by decide⟩ (by omega) (by simp; omega)
    have hw : scan_Scanner_Write.f (a0.size + 4) (⟨#[]⟩ : ByteArray) false (⟨#[]⟩ : ByteArray) 0 a0 = some (l, rest, false, name, raw) := by
      unfold scan_Scanner_Write.f
      have he : (⟨#[]⟩ : ByteArray) ++ a0 = a0 := ByteArray.empty_append
      rw [if_pos (by have : (⟨#[]⟩ : ByteArray).size = 0 := rfl; omega), he]
      unfold scan_Scanner_told.f
      rw [e, Option.bind_some]
    rw [hw, Option.bind_some]
    exact held_loop a0 hs2 rest false name raw (fun i hi hc => h4 rfl rfl i hi hc) (a0.size + 4) 0 a0.size (by omega) (by omega) (Nat.le_refl _) (fun j hj => absurd hj (by omega))
end Go.Proofs.YtoacojkmclngmaaGreatDoor.Pz
