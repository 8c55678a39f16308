/- Texts of the session, one behind the other: what the code computes, function by function, and its contracts. -/
import Derived.KernelRfl
import Derived.Test.YtoacojkmclngmaaGreatDoorB1
import Derived.Test.YtoacojkmclngmaaGreatDoorB2
import Derived.Test.YtoacojkmclngmaaGreatDoorB3
import Derived.Test.YtoacojkmclngmaaGreatDoorB4
import Derived.Test.YtoacojkmclngmaaGreatDoorB5
import Derived.Test.YtoacojkmclngmaaGreatDoorB6
import Derived.Test.YtoacojkmclngmaaGreatDoorB7
import Derived.Test.YtoacojkmclngmaaGreatDoorB8
import Derived.Test.YtoacojkmclngmaaGreatDoorB9
import Derived.Test.YtoacojkmclngmaaGreatDoorB10
import Derived.Test.YtoacojkmclngmaaGreatDoorB11
import Derived.Test.YtoacojkmclngmaaGreatDoorB12
-- written by the session's own program hookprint.py
namespace Go.Proofs.YtoacojkmclngmaaGreatDoor.Pz
open Go.RowKit Go.Proofs.YtoacojkmclngmaaGreatDoorW.PrintWords Go.Proofs.YtoacojkmclngmaaGreatDoorW.PrintLast Go.Proofs.YtoacojkmclngmaaGreatDoorW.PrintMore
attribute [local go_sem] max2_int min2_int max_two min_two max_three min_three max_four min_four   -- for this text's walks alone
attribute [local go_sem] rune_str
set_option linter.unusedVariables false
set_option linter.unusedSimpArgs false

/-! ### cribblelaw18_ScanBytes: function 4 -/
mutual
def cribblelaw18_ScanBytes.j0 : Nat → ByteArray → Bool → Bool → Option (Bool)
  | 0, _, _, _ => none
  | k + 1, x0, x3, x14 => if x14 = true then (some x3) else ((scan_New.f).bind fun bt433 => (cribblelaw18_ScanBytes.l0 k x0 ([] : List (S33)) 0 bt433.1 bt433.2.1 bt433.2.2.1 bt433.2.2.2))
def cribblelaw18_ScanBytes.l0 : Nat → ByteArray → List (S33) → Int → ByteArray → Bool → ByteArray → Int → Option (Bool)
  | 0, _, _, _, _, _, _, _ => none
  | k + 1, x0, x5, x6, x438000, x438001, x438002, x438003 => if x6 < (x0.size : Int) then (if 0 ≤ x6 then (if x6 ≤ (wrap64 (x6 + 1)) then (if (wrap64 (x6 + 1)) ≤ (x0.size : Int) then ((scan_Scanner_Write.f k x438000 x438001 x438002 x438003 (x0.extract (x6 : Int).toNat ((wrap64 (x6 + 1)) : Int).toNat)).bind fun bt438 => (if x5.length + bt438.1.length < 1954687338268 then (cribblelaw18_ScanBytes.l0 k x0 (x5 ++ bt438.1) (wrap64 (x6 + 1)) bt438.2.1 bt438.2.2.1 bt438.2.2.2.1 bt438.2.2.2.2) else (none))) else (none)) else (none)) else (none)) else ((scan_Scanner_Close.f k x438000 x438001 x438002 x438003).bind fun bt448 => (if x5.length + bt448.1.length < 1954687338268 then ((scan_Merge.f (x5 ++ bt448.1)).bind fun t458 => ((scan_Tokens.f k x0).bind fun t461 => ((cribbleref18_Same.f k t458 t461).bind fun t464 => (some t464)))) else (none)))
end
def cribblelaw18_ScanBytes.f (k : Nat) (a0 : ByteArray) : Option (Bool) := (cribblelaw18_awake.f).bind fun t432 => (if t432 = true then (cribblelaw18_ScanBytes.j0 k a0 t432 (decide ((a0.size : Int) > 400))) else (cribblelaw18_ScanBytes.j0 k a0 t432 true))
theorem cribblelaw18_ScanBytes.mono_l : ∀ k, (∀ y0 y1 y2, LeO (cribblelaw18_ScanBytes.j0 k y0 y1 y2) (cribblelaw18_ScanBytes.j0 (k + 1) y0 y1 y2)) ∧ (∀ y0 y1 y2 y3 y4 y5 y6, LeO (cribblelaw18_ScanBytes.l0 k y0 y1 y2 y3 y4 y5 y6) (cribblelaw18_ScanBytes.l0 (k + 1) y0 y1 y2 y3 y4 y5 y6))
  | 0 => ⟨fun _ _ _ r h => by simp [cribblelaw18_ScanBytes.j0] at h, fun _ _ _ _ _ _ _ r h => by simp [cribblelaw18_ScanBytes.l0] at h⟩
  | k + 1 => by
    obtain ⟨ih0, ih1⟩ := cribblelaw18_ScanBytes.mono_l k
    refine ⟨?_, ?_⟩
    · intro y0 y1 y2
      unfold cribblelaw18_ScanBytes.j0
      repeat' first
      | (with_reducible exact ih0 _ _ _)
      | (with_reducible exact ih1 _ _ _ _ _ _ _)
      | (with_reducible exact cribbleref18_Same.mono _ _ _)
      | (with_reducible exact scan_Scanner_Close.mono _ _ _ _ _)
      | (with_reducible exact scan_Scanner_Write.mono _ _ _ _ _ _)
      | (with_reducible exact scan_Tokens.mono _ _)
      | (with_reducible exact LeO.refl _)
      | (with_reducible exact LeO.none _)
      | (with_reducible refine LeO.ite ?_ ?_)
      | (with_reducible refine LeO.bind ?_ (fun _ => ?_))
      | exact ih0 _ _ _
      | exact ih1 _ _ _ _ _ _ _
      | exact cribbleref18_Same.mono _ _ _
      | exact scan_Scanner_Close.mono _ _ _ _ _
      | exact scan_Scanner_Write.mono _ _ _ _ _ _
      | exact scan_Tokens.mono _ _
      | exact LeO.none _
      | refine LeO.ite ?_ ?_
      | refine LeO.bind ?_ (fun _ => ?_)
    · intro y0 y1 y2 y3 y4 y5 y6
      unfold cribblelaw18_ScanBytes.l0
      repeat' first
      | (with_reducible exact ih0 _ _ _)
      | (with_reducible exact ih1 _ _ _ _ _ _ _)
      | (with_reducible exact cribbleref18_Same.mono _ _ _)
      | (with_reducible exact scan_Scanner_Close.mono _ _ _ _ _)
      | (with_reducible exact scan_Scanner_Write.mono _ _ _ _ _ _)
      | (with_reducible exact scan_Tokens.mono _ _)
      | (with_reducible exact LeO.refl _)
      | (with_reducible exact LeO.none _)
      | (with_reducible refine LeO.ite ?_ ?_)
      | (with_reducible refine LeO.bind ?_ (fun _ => ?_))
      | exact ih0 _ _ _
      | exact ih1 _ _ _ _ _ _ _
      | exact cribbleref18_Same.mono _ _ _
      | exact scan_Scanner_Close.mono _ _ _ _ _
      | exact scan_Scanner_Write.mono _ _ _ _ _ _
      | exact scan_Tokens.mono _ _
      | exact LeO.none _
      | refine LeO.ite ?_ ?_
      | refine LeO.bind ?_ (fun _ => ?_)
theorem cribblelaw18_ScanBytes.mono : ∀ a0 k, LeO (cribblelaw18_ScanBytes.f k a0) (cribblelaw18_ScanBytes.f (k + 1) a0) := by
  intro a0 k
  obtain ⟨ih0, ih1⟩ := cribblelaw18_ScanBytes.mono_l k
  unfold cribblelaw18_ScanBytes.f
  repeat' first
      | (with_reducible exact ih0 _ _ _)
      | (with_reducible exact ih1 _ _ _ _ _ _ _)
      | (with_reducible exact cribbleref18_Same.mono _ _ _)
      | (with_reducible exact scan_Scanner_Close.mono _ _ _ _ _)
      | (with_reducible exact scan_Scanner_Write.mono _ _ _ _ _ _)
      | (with_reducible exact scan_Tokens.mono _ _)
      | (with_reducible exact LeO.refl _)
      | (with_reducible exact LeO.none _)
      | (with_reducible refine LeO.ite ?_ ?_)
      | (with_reducible refine LeO.bind ?_ (fun _ => ?_))
      | exact ih0 _ _ _
      | exact ih1 _ _ _ _ _ _ _
      | exact cribbleref18_Same.mono _ _ _
      | exact scan_Scanner_Close.mono _ _ _ _ _
      | exact scan_Scanner_Write.mono _ _ _ _ _ _
      | exact scan_Tokens.mono _ _
      | exact LeO.none _
      | refine LeO.ite ?_ ?_
      | refine LeO.bind ?_ (fun _ => ?_)
set_option maxHeartbeats 8000000 in
set_option maxRecDepth 100000 in
theorem cribblelaw18_ScanBytes.calls (k : Nat) (a0 : ByteArray) (r : Bool) (w : World) (hG : Glob w) (h : cribblelaw18_ScanBytes.f k a0 = some r) :
    Calls Tryz.prog 4 #[.string a0] w fun e w' => e = .returned (.bool r) ∧ Below w.heap.size w w' := by
  have HB := Aside0.mk (Below.refl w.heap.size w)
  have H : ((cribblelaw18_awake.f).bind fun t432 => (if t432 = true then (cribblelaw18_ScanBytes.j0 k a0 t432 (decide ((a0.size : Int) > 400))) else (cribblelaw18_ScanBytes.j0 k a0 t432 true))) = some r := h
  clear h
  replace H := Option.bind_eq_some_iff.mp H
  obtain ⟨t432, A20, H⟩ := H
  replace H : (if t432 = true then (cribblelaw18_ScanBytes.j0 k a0 t432 (decide ((a0.size : Int) > 400))) else (cribblelaw18_ScanBytes.j0 k a0 t432 true)) = some r := H
  have A2 := Aside0.mk A20
  clear A20
  have HC3 := Aside0.mk H
  clear H
  go_enter Tryz.func4, Tryz.ntmps4
  go_upto_region 2 with (first | ((with_reducible refine gate_callee (f := 12) rfl ?_); refine goesL_ (some 7) rfl rfl Tryz.func12 (by kernel_rfl) rfl #[] rfl (by (try simp only [List.map_toArray, List.map_cons, List.map_nil]); first | done | rfl | (simp only [List.length_drop, List.length_take]; rfl)) ?_; (with_reducible refine (cribblelaw18_awake.calls  t432 _ ?side1 A2.out).mono ?_); (case side1 => exact Glob.below hG (by repeat (first | (with_reducible first | exact HB.out | apply below_alloc | apply pw_below_drewN | apply below_drew1) | exact HB.out))); rintro e w4 ⟨rfl, hb⟩; refine ⟨_, rfl, ?_⟩; have n0_ := Aside0.mk (below_step (by repeat (first | (with_reducible first | exact HB.out | apply below_alloc | apply pw_below_drewN | apply below_drew1) | exact HB.out)) hb); clear HB; have HB := n0_; clear n0_; (try clear hb); (try clear hb2); (try clear hk); (try clear hi)))
  (try simp only [Act.put, List.setIfInBounds_toArray, List.set_cons_zero, List.set_cons_succ])
  go_cut [14] (fun v14 wc => ∃ (kq : Nat) (x14_2 : Bool), v14 = .bool x14_2 ∧ Aside0 (cribblelaw18_ScanBytes.j0 kq a0 t432 x14_2 = some r) ∧ Aside0 (kq ≤ k) ∧ Aside0 (Below w.heap.size w wc))
  case first =>
    have H := HC3.out
    clear HC3
    by_cases c5 : t432 = true
    · subst c5
      have H1 : (cribblelaw18_ScanBytes.j0 k a0 true (decide ((a0.size : Int) > 400))) = some r := by rw [if_pos rfl] at H; exact H
      clear H
      have H := H1
      clear H1
      have H' := Aside0.mk H
      clear H
      go_wp2
      go_meet
      case rel => exact ⟨_, (decide ((a0.size : Int) > 400)), (by first | rfl | (simp; done) | (simp [*]; done) | (simp; unfold wrap64; omega) | (simp; rfl)), H', ⟨by first | omega | exact Nat.le_refl _⟩, ⟨by repeat (first | (with_reducible first | exact HB.out | apply below_alloc | apply pw_below_drewN | apply below_drew1) | exact HB.out)⟩⟩
    · replace c5 := Bool.eq_false_iff.mpr c5
      subst c5
      have H1 : (cribblelaw18_ScanBytes.j0 k a0 false true) = some r := by rw [if_neg (show ¬ (false = true) by decide)] at H; exact H
      clear H
      have H := H1
      clear H1
      have H' := Aside0.mk H
      clear H
      go_wp2
      go_meet
      case rel => exact ⟨_, (true), (by first | rfl | (simp; done) | (simp [*]; done) | (simp; unfold wrap64; omega) | (simp; rfl)), H', ⟨by first | omega | exact Nat.le_refl _⟩, ⟨by repeat (first | (with_reducible first | exact HB.out | apply below_alloc | apply pw_below_drewN | apply below_drew1) | exact HB.out)⟩⟩
  case rest =>
    clear HC3
    try clear c1
    try clear p2
    try clear c4
    try clear c5
    obtain ⟨kq, x14_2, rfl, HA, HJ2, HB⟩ := hcut
    cases kq with
    | zero => exact absurd HA.out (by simp [cribblelaw18_ScanBytes.j0])
    | succ kj2 =>
      have H := HA.out
      clear HA
      simp only [cribblelaw18_ScanBytes.j0] at H
      by_cases c6 : x14_2 = true
      · subst c6
        have H1 : (some t432) = some r := by rw [if_pos rfl] at H; exact H
        clear H
        have H := H1
        clear H1
        obtain rfl := Option.some.inj H
        go_wp2
        go_ret
        exact ⟨by first | rfl | (simp [errW_none, errW_some] <;> rfl) | (simp [*, errW_none, errW_some] <;> rfl), by repeat (first | (with_reducible first | exact HB.out | apply below_alloc | apply pw_below_drewN | apply below_drew1) | exact HB.out)⟩
      · replace c6 := Bool.eq_false_iff.mpr c6
        subst c6
        have H1 : ((scan_New.f).bind fun bt433 => (cribblelaw18_ScanBytes.l0 kj2 a0 ([] : List (S33)) 0 bt433.1 bt433.2.1 bt433.2.2.1 bt433.2.2.2)) = some r := by rw [if_neg (show ¬ (false = true) by decide)] at H; exact H
        clear H
        have H := H1
        clear H1
        replace H := Option.bind_eq_some_iff.mp H
        obtain ⟨⟨t433, t434, t435, t436⟩, A70, H⟩ := H
        replace H : (cribblelaw18_ScanBytes.l0 kj2 a0 ([] : List (S33)) 0 t433 t434 t435 t436) = some r := H
        have A7 := Aside0.mk A70
        clear A70
        have H' := Aside0.mk H
        clear H
        go_wp2_with (first | ((with_reducible refine gate_callee (f := 16) rfl ?_); refine goesL_ (some 16) rfl rfl Tryz.func16 (by kernel_rfl) rfl #[] rfl (by (try simp only [List.map_toArray, List.map_cons, List.map_nil]); first | done | rfl | (simp only [List.length_drop, List.length_take]; rfl)) ?_; (with_reducible refine (scan_New.calls  t433 t434 t435 t436 w _ ?side1 A7.out).mono ?_); (case side1 => repeat (first | (with_reducible first | exact HB.out | apply below_alloc | apply pw_below_drewN | apply below_drew1) | exact HB.out)); rintro e w8 ⟨g437, rfl, hi, hb, hb2⟩; refine ⟨_, rfl, ?_⟩; have n0_ := Aside0.mk (hb); have n1_ := Aside0.mk (hi); clear HB; have HB := n0_; have HI437 := n1_; clear n0_ n1_; (try clear hb); (try clear hb2); (try clear hk); (try clear hi)))
        go_loopg [5, 6] kj2 (fun kq v5 v6 w' => ∃ (x5_2 : List (S33)) (x6_2 : Int) (x438000_2 : ByteArray) (x438001_2 : Bool) (x438002_2 : ByteArray) (x438003_2 : Int), v6 = .int .i64 x6_2 ∧ Aside0 (cribblelaw18_ScanBytes.l0 kq a0 x5_2 x6_2 x438000_2 x438001_2 x438002_2 x438003_2 = some r) ∧ Aside0 (kq ≤ kj2) ∧ Aside0 (Kd.N k33 33 w' w.heap.size (fun k_ => k_ ≠ g437) v5 x5_2) ∧ Aside0 (IsS56 w w' g437 x438000_2 x438001_2 x438002_2 x438003_2) ∧ Aside0 (Below w.heap.size w w'))
        case atStart => exact ⟨(([] : List (S33))), (0), (t433), (t434), (t435), (t436), (by first | rfl | (simp; done) | (simp [*]; done) | (simp; unfold wrap64; omega) | (simp; rfl)), H', ⟨Nat.le_refl _⟩, ⟨by first | exact Kd.S_nil _ _ _ _ _ | exact Kd.N_nil _ _ _ _ _ | exact Kd.V_nil _ _ _ _ _ | exact Kd.Q_nil _ _ _ _ _ | exact Kd.R_nil _ _ _ _ _⟩, ⟨by repeat (first | (with_reducible first | exact HI437.out | apply IsS56.alloc | apply IsS56.drewN | apply IsS56.drew | apply IsS56.set_0 | apply IsS56.set_1 | apply IsS56.set_2 | apply IsS56.set_3) | exact HI437.out)⟩, ⟨by repeat (first | (with_reducible first | exact HB.out | apply below_alloc | apply pw_below_drewN | apply below_drew1 | refine below_set ?_ (IsS56.ge HI437.out)) | exact HB.out)⟩⟩
        case round =>
          clear H'
          try clear c1
          try clear p2
          try clear c4
          try clear c5
          try clear c6
          try clear p2
          obtain ⟨x5_2, x6_2, x438000_2, x438001_2, x438002_2, x438003_2, rfl, HA, HK2, HO_5, HI437, HB⟩ := hrel
          cases gk with
          | zero => exact absurd HA.out (by simp [cribblelaw18_ScanBytes.l0])
          | succ k2 =>
            have H := HA.out
            clear HA
            simp only [cribblelaw18_ScanBytes.l0] at H
            by_cases c9 : x6_2 < (a0.size : Int)
            · rw [if_pos c9] at H
              have c9b0 : decide (x6_2 < (a0.size : Int)) = true := decide_eq_true c9
              clear c9
              by_cases c10 : 0 ≤ x6_2
              · rw [if_pos c10] at H
                have c10b0 := eq_true c10
                have c10b1 : decide (0 ≤ x6_2) = true := decide_eq_true c10
                clear c10
                by_cases c11 : x6_2 ≤ (wrap64 (x6_2 + 1))
                · rw [if_pos c11] at H
                  have c11b0 := eq_true c11
                  have c11b1 : decide (x6_2 ≤ (wrap64 (x6_2 + 1))) = true := decide_eq_true c11
                  by_cases c12 : (wrap64 (x6_2 + 1)) ≤ (a0.size : Int)
                  · rw [if_pos c12] at H
                    have c12b0 := eq_true c12
                    have c12b1 : decide ((wrap64 (x6_2 + 1)) ≤ (a0.size : Int)) = true := decide_eq_true c12
                    replace H := Option.bind_eq_some_iff.mp H
                    obtain ⟨⟨t438, t441, t442, t443, t444⟩, A130, H⟩ := H
                    replace H : (if x5_2.length + t438.length < 1954687338268 then (cribblelaw18_ScanBytes.l0 k2 a0 (x5_2 ++ t438) (wrap64 (x6_2 + 1)) t441 t442 t443 t444) else (none)) = some r := H
                    have A13 := Aside0.mk A130
                    clear A130
                    by_cases c14 : x5_2.length + t438.length < 1954687338268
                    · rw [if_pos c14] at H
                      have LMc14 := Aside0.mk c14
                      clear c14
                      obtain ⟨y445, hy445⟩ : ∃ y_ : List (S33), y_ = (x5_2 ++ t438) := ⟨_, rfl⟩
                      replace H : (cribblelaw18_ScanBytes.l0 k2 a0 y445 (wrap64 (x6_2 + 1)) t441 t442 t443 t444) = some r := by first | (rw [hy445]; with_reducible exact H) | (have H2_ := (Option.bind_some _ _).symm.trans H; rw [hy445]; with_reducible exact H2_) | (have H2_ := (Option.bind_some _ _).symm.trans H; with_reducible exact H2_) | with_reducible exact H | (rw [hy445]; exact H) | exact H
                      have Ny445 := Aside0.mk hy445
                      clear hy445
                      have H' := Aside0.mk H
                      clear H
                      go_wp2_with (first | ((with_reducible refine gate_callee (f := 17) rfl ?_); refine goesL_ (some 30) rfl rfl Tryz.func17 (by kernel_rfl) rfl #[.pointer (some ⟨g437, 0, none⟩), .string (a0.extract (x6_2 : Int).toNat ((wrap64 (x6_2 + 1)) : Int).toNat)] rfl (by (try simp only [List.map_toArray, List.map_cons, List.map_nil]); first | done | rfl | (simp only [List.length_drop, List.length_take]; rfl)) ?_; (with_reducible refine (scan_Scanner_Write.calls k2 g437 x438000_2 x438001_2 x438002_2 x438003_2 (a0.extract (x6_2 : Int).toNat ((wrap64 (x6_2 + 1)) : Int).toNat) t438 t441 t442 t443 t444 w _ ?side1 ?side2 hG A13.out).mono ?_); (case side1 => repeat (first | (with_reducible first | exact HI437.out | apply IsS56.alloc | apply IsS56.drewN | apply IsS56.drew | apply IsS56.set_0 | apply IsS56.set_1 | apply IsS56.set_2 | apply IsS56.set_3) | exact HI437.out)); (case side2 => repeat (first | (with_reducible first | exact HB.out | apply below_alloc | apply pw_below_drewN | apply below_drew1 | refine below_set ?_ (IsS56.ge HI437.out)) | exact HB.out)); rintro e w15 ⟨v439, rfl, ho0, hi, hb, hk⟩; refine ⟨_, rfl, ?_⟩; have n0_ := Aside0.mk (Kd.N_mono (Kd.N_told (Kd.N_oldK (Kd.N_mono (ok := fun k_ => k_ ≠ g437) (by (with_reducible repeat (first | apply Kd.N_alloc | apply Kd.N_drewN | apply Kd.N_drew)); exact HO_5.out) (fun k_ hk_ => (⟨hk_, hk_⟩ : _ ∧ k_ ≠ g437))) hk) (Kd.N_base ho0)) (fun _ h_ => h_.1)); have n1_ := Aside0.mk (Kd.N_lower (Kd.N_mono (ok' := fun k_ => some k_ ≠ (u5 : Value).ownBlock ∧ k_ ≠ g437) ho0 (fun k_ hk_ => ⟨(Kd.fresh' (Kd.N_lt (by (with_reducible repeat (first | apply Kd.N_alloc | apply Kd.N_drewN | apply Kd.N_drew)); exact HO_5.out)) k_ hk_), (IsS56.fresh (by repeat (first | (with_reducible first | exact HI437.out | apply IsS56.alloc | apply IsS56.drewN | apply IsS56.drew | apply IsS56.set_0 | apply IsS56.set_1 | apply IsS56.set_2 | apply IsS56.set_3) | exact HI437.out)) k_ hk_)⟩)) (below_size (by repeat (first | (with_reducible first | exact HB.out | apply below_alloc | apply pw_below_drewN | apply below_drew1 | refine below_set ?_ (IsS56.ge HI437.out)) | exact HB.out)))); have n2_ := Aside0.mk (hb); have n3_ := Aside0.mk (hi); clear HO_5; clear HB; clear HI437; have HO_5 := n0_; have HO440 := n1_; have HB := n2_; have HI437 := n3_; clear n0_ n1_ n2_ n3_; (try clear hb); (try clear hb2); (try clear hk); (try clear hi); (try clear ho0); obtain ⟨Ao17, co17, eo17⟩ := Kd.N_slice HO440.out; subst eo17) | ((with_reducible refine gate_builtin (b := .append) (xs := #[.tmp 23, .tmp 30]) rfl ?_); (try (refine gate_guard (by rfl) ?_; dsimp only)); at_builtin; refine Kd.N_append_rows k33 (w0 := w) w.heap.size rfl (.tmp 23) (.tmp 30) 24 33 (.agg #[(.int .i64 0), (.string ⟨#[]⟩), (.string ⟨#[]⟩), (.slice none 0 0), (.bool false)]) 72 rfl Tryz.underlying24 info33 rfl (by decide) (by omega) u5 x5_2 t438 _ _ _ (fun k_ => k_ ≠ g437) (fun k_ => ((fun k_ => k_ ≠ g437)) k_ ∧ some k_ ≠ (u5 : Value).ownBlock) rfl rfl ?aO ?aR (fun _ hk => hk) ?aF ?aB ?aS ?aL ?_; (case aR => exact (by skip; exact Kd.N_F (Kd.N_mono (ok' := (fun k_ => ((fun k_ => k_ ≠ g437)) k_ ∧ some k_ ≠ (u5 : Value).ownBlock)) (HO440.out) (fun k_ hk => ⟨hk.2, hk.1⟩)))); (case aB => exact (by repeat (first | (with_reducible first | exact HB.out | apply below_alloc | apply pw_below_drewN | apply below_drew1 | refine below_set ?_ (IsS56.ge HI437.out)) | exact HB.out))); (case aF => exact (fun k_ hk => IsS56.fresh (by repeat (first | (with_reducible first | exact HI437.out | apply IsS56.alloc | apply IsS56.drewN | apply IsS56.drew | apply IsS56.set_0 | apply IsS56.set_1 | apply IsS56.set_2 | apply IsS56.set_3) | exact HI437.out)) k_ hk)); (case aO => exact (by (with_reducible repeat (first | apply Kd.N_alloc | apply Kd.N_drewN | apply Kd.N_drew)); exact Kd.N_mono HO_5.out (fun _ hk => hk.1))); (case aS => exact (below_size (by repeat (first | (with_reducible first | exact HB.out | apply below_alloc | apply pw_below_drewN | apply below_drew1 | refine below_set ?_ (IsS56.ge HI437.out)) | exact HB.out)))); (case aL => have := LMc14.out; omega); intro v446 w16 ho hb hg hat; rw [← Ny445.out] at ho; have n0_ := Aside0.mk (IsS56.grown (by repeat (first | (with_reducible first | exact HI437.out | apply IsS56.alloc | apply IsS56.drewN | apply IsS56.drew | apply IsS56.set_0 | apply IsS56.set_1 | apply IsS56.set_2 | apply IsS56.set_3) | exact HI437.out)) hg (IsS56.own_neN HI437.out HO_5.out (by decide))); have n1_ := Aside0.mk (Kd.N_afterv (ok := (fun k_ => k_ ≠ g437)) (by (with_reducible repeat (first | apply Kd.N_alloc | apply Kd.N_drewN | apply Kd.N_drew)); exact Kd.N_mono HO440.out (fun _ hk => ⟨hk.2, hk.1⟩)) hg hat); have n2_ := Aside0.mk (hb); have n3_ := Aside0.mk (ho); clear HI437; clear HO440; clear HB; clear HO_5; have HI437 := n0_; have HO440 := n1_; have HB := n2_; have HO447 := n3_; clear n0_ n1_ n2_ n3_; clear ho hb hg hat))
                      go_roundg k2
                      case measure => have := HJ2.out; have := HK2.out; omega
                      case rel => exact ⟨(y445), (wrap64 (x6_2 + 1)), (t441), (t442), (t443), (t444), (by first | rfl | (simp; done) | (simp [*]; done) | (simp; unfold wrap64; omega) | (simp; rfl)), H', ⟨by have := HJ2.out; have := HK2.out; omega⟩, ⟨by (with_reducible repeat (first | apply Kd.N_alloc | apply Kd.N_drewN | apply Kd.N_drew)); exact HO447.out⟩, ⟨by repeat (first | (with_reducible first | exact HI437.out | apply IsS56.alloc | apply IsS56.drewN | apply IsS56.drew | apply IsS56.set_0 | apply IsS56.set_1 | apply IsS56.set_2 | apply IsS56.set_3) | exact HI437.out)⟩, ⟨by repeat (first | (with_reducible first | exact HB.out | apply below_alloc | apply pw_below_drewN | apply below_drew1 | refine below_set ?_ (IsS56.ge HI437.out)) | exact HB.out)⟩⟩
                    · rw [if_neg c14] at H
                      exact absurd H (by simp)
                  · rw [if_neg c12] at H
                    exact absurd H (by simp)
                · rw [if_neg c11] at H
                  exact absurd H (by simp)
              · rw [if_neg c10] at H
                exact absurd H (by simp)
            · rw [if_neg c9] at H
              have c9b0 : decide (x6_2 < (a0.size : Int)) = false := decide_eq_false c9
              clear c9
              replace H := Option.bind_eq_some_iff.mp H
              obtain ⟨⟨t448, t451, t452, t453, t454⟩, A180, H⟩ := H
              replace H : (if x5_2.length + t448.length < 1954687338268 then ((scan_Merge.f (x5_2 ++ t448)).bind fun t458 => ((scan_Tokens.f k2 a0).bind fun t461 => ((cribbleref18_Same.f k2 t458 t461).bind fun t464 => (some t464)))) else (none)) = some r := H
              have A18 := Aside0.mk A180
              clear A180
              by_cases c19 : x5_2.length + t448.length < 1954687338268
              · rw [if_pos c19] at H
                have LMc19 := Aside0.mk c19
                clear c19
                obtain ⟨y455, hy455⟩ : ∃ y_ : List (S33), y_ = (x5_2 ++ t448) := ⟨_, rfl⟩
                replace H : ((scan_Merge.f y455).bind fun t458 => ((scan_Tokens.f k2 a0).bind fun t461 => ((cribbleref18_Same.f k2 t458 t461).bind fun t464 => (some t464)))) = some r := by first | (rw [hy455]; with_reducible exact H) | (have H2_ := (Option.bind_some _ _).symm.trans H; rw [hy455]; with_reducible exact H2_) | (have H2_ := (Option.bind_some _ _).symm.trans H; with_reducible exact H2_) | with_reducible exact H | (rw [hy455]; exact H) | exact H
                have Ny455 := Aside0.mk hy455
                clear hy455
                replace H := Option.bind_eq_some_iff.mp H
                obtain ⟨t458, A200, H⟩ := H
                replace H : ((scan_Tokens.f k2 a0).bind fun t461 => ((cribbleref18_Same.f k2 t458 t461).bind fun t464 => (some t464))) = some r := H
                have A20 := Aside0.mk A200
                clear A200
                replace H := Option.bind_eq_some_iff.mp H
                obtain ⟨t461, A210, H⟩ := H
                replace H : ((cribbleref18_Same.f k2 t458 t461).bind fun t464 => (some t464)) = some r := H
                have A21 := Aside0.mk A210
                clear A210
                replace H := Option.bind_eq_some_iff.mp H
                obtain ⟨t464, A220, H⟩ := H
                replace H : (some t464) = some r := H
                have A22 := Aside0.mk A220
                clear A220
                obtain rfl := Option.some.inj H
                go_wp2_with (first | ((with_reducible refine gate_callee (f := 18) rfl ?_); refine goesL_ (some 34) rfl rfl Tryz.func18 (by kernel_rfl) rfl #[.pointer (some ⟨g437, 0, none⟩)] rfl (by (try simp only [List.map_toArray, List.map_cons, List.map_nil]); first | done | rfl | (simp only [List.length_drop, List.length_take]; rfl)) ?_; (with_reducible refine (scan_Scanner_Close.calls k2 g437 x438000_2 x438001_2 x438002_2 x438003_2 t448 t451 t452 t453 t454 w _ ?side1 ?side2 hG A18.out).mono ?_); (case side1 => repeat (first | (with_reducible first | exact HI437.out | apply IsS56.alloc | apply IsS56.drewN | apply IsS56.drew | apply IsS56.set_0 | apply IsS56.set_1 | apply IsS56.set_2 | apply IsS56.set_3) | exact HI437.out)); (case side2 => repeat (first | (with_reducible first | exact HB.out | apply below_alloc | apply pw_below_drewN | apply below_drew1 | refine below_set ?_ (IsS56.ge HI437.out)) | exact HB.out)); rintro e w23 ⟨v449, rfl, ho0, hi, hb, hk⟩; refine ⟨_, rfl, ?_⟩; have n0_ := Aside0.mk (Kd.N_mono (Kd.N_told (Kd.N_oldK (Kd.N_mono (ok := fun k_ => k_ ≠ g437) (by (with_reducible repeat (first | apply Kd.N_alloc | apply Kd.N_drewN | apply Kd.N_drew)); exact HO_5.out) (fun k_ hk_ => (⟨hk_, hk_⟩ : _ ∧ k_ ≠ g437))) hk) (Kd.N_base ho0)) (fun _ h_ => h_.1)); have n1_ := Aside0.mk (Kd.N_lower (Kd.N_mono (ok' := fun k_ => some k_ ≠ (u5 : Value).ownBlock ∧ k_ ≠ g437) ho0 (fun k_ hk_ => ⟨(Kd.fresh' (Kd.N_lt (by (with_reducible repeat (first | apply Kd.N_alloc | apply Kd.N_drewN | apply Kd.N_drew)); exact HO_5.out)) k_ hk_), (IsS56.fresh (by repeat (first | (with_reducible first | exact HI437.out | apply IsS56.alloc | apply IsS56.drewN | apply IsS56.drew | apply IsS56.set_0 | apply IsS56.set_1 | apply IsS56.set_2 | apply IsS56.set_3) | exact HI437.out)) k_ hk_)⟩)) (below_size (by repeat (first | (with_reducible first | exact HB.out | apply below_alloc | apply pw_below_drewN | apply below_drew1 | refine below_set ?_ (IsS56.ge HI437.out)) | exact HB.out)))); have n2_ := Aside0.mk (hb); have n3_ := Aside0.mk (hi); clear HO_5; clear HB; clear HI437; have HO_5 := n0_; have HO450 := n1_; have HB := n2_; have HI437 := n3_; clear n0_ n1_ n2_ n3_; (try clear hb); (try clear hb2); (try clear hk); (try clear hi); (try clear ho0); obtain ⟨Ao25, co25, eo25⟩ := Kd.N_slice HO450.out; subst eo25) | ((with_reducible refine gate_builtin (b := .append) (xs := #[.tmp 32, .tmp 34]) rfl ?_); (try (refine gate_guard (by rfl) ?_; dsimp only)); at_builtin; refine Kd.N_append_rows k33 (w0 := w) w.heap.size rfl (.tmp 32) (.tmp 34) 24 33 (.agg #[(.int .i64 0), (.string ⟨#[]⟩), (.string ⟨#[]⟩), (.slice none 0 0), (.bool false)]) 72 rfl Tryz.underlying24 info33 rfl (by decide) (by omega) u5 x5_2 t448 _ _ _ (fun k_ => k_ ≠ g437) (fun k_ => ((fun k_ => k_ ≠ g437)) k_ ∧ some k_ ≠ (u5 : Value).ownBlock) rfl rfl ?aO ?aR (fun _ hk => hk) ?aF ?aB ?aS ?aL ?_; (case aR => exact (by skip; exact Kd.N_F (Kd.N_mono (ok' := (fun k_ => ((fun k_ => k_ ≠ g437)) k_ ∧ some k_ ≠ (u5 : Value).ownBlock)) (HO450.out) (fun k_ hk => ⟨hk.2, hk.1⟩)))); (case aB => exact (by repeat (first | (with_reducible first | exact HB.out | apply below_alloc | apply pw_below_drewN | apply below_drew1 | refine below_set ?_ (IsS56.ge HI437.out)) | exact HB.out))); (case aF => exact (fun k_ hk => IsS56.fresh (by repeat (first | (with_reducible first | exact HI437.out | apply IsS56.alloc | apply IsS56.drewN | apply IsS56.drew | apply IsS56.set_0 | apply IsS56.set_1 | apply IsS56.set_2 | apply IsS56.set_3) | exact HI437.out)) k_ hk)); (case aO => exact (by (with_reducible repeat (first | apply Kd.N_alloc | apply Kd.N_drewN | apply Kd.N_drew)); exact Kd.N_mono HO_5.out (fun _ hk => hk.1))); (case aS => exact (below_size (by repeat (first | (with_reducible first | exact HB.out | apply below_alloc | apply pw_below_drewN | apply below_drew1 | refine below_set ?_ (IsS56.ge HI437.out)) | exact HB.out)))); (case aL => have := LMc19.out; omega); intro v456 w24 ho hb hg hat; rw [← Ny455.out] at ho; have n0_ := Aside0.mk (IsS56.grown (by repeat (first | (with_reducible first | exact HI437.out | apply IsS56.alloc | apply IsS56.drewN | apply IsS56.drew | apply IsS56.set_0 | apply IsS56.set_1 | apply IsS56.set_2 | apply IsS56.set_3) | exact HI437.out)) hg (IsS56.own_neN HI437.out HO_5.out (by decide))); have n1_ := Aside0.mk (Kd.N_afterv (ok := (fun k_ => k_ ≠ g437)) (by (with_reducible repeat (first | apply Kd.N_alloc | apply Kd.N_drewN | apply Kd.N_drew)); exact Kd.N_mono HO450.out (fun _ hk => ⟨hk.2, hk.1⟩)) hg hat); have n2_ := Aside0.mk (hb); have n3_ := Aside0.mk (ho); clear HI437; clear HO450; clear HB; clear HO_5; have HI437 := n0_; have HO450 := n1_; have HB := n2_; have HO457 := n3_; clear n0_ n1_ n2_ n3_; clear ho hb hg hat; obtain ⟨Ao26, co26, eo26⟩ := Kd.N_slice HO457.out; subst eo26) | ((with_reducible refine gate_callee (f := 19) rfl ?_); refine goesL_ (some 37) rfl rfl Tryz.func19 (by kernel_rfl) rfl #[.slice Ao26 y455.length co26] rfl (by (try simp only [List.map_toArray, List.map_cons, List.map_nil]); first | done | rfl | (simp only [List.length_drop, List.length_take]; rfl)) ?_; (with_reducible refine (scan_Merge.calls (fun k_ => k_ ≠ g437) _ _ y455 t458 _ ?side1 A20.out).mono ?_); (case side1 => exact Kd.N_V (HO457.out)); rintro e w27 ⟨v459, rfl, ho0, hb⟩; refine ⟨_, rfl, ?_⟩; have n0_ := Aside0.mk (Kd.N_below (by (with_reducible repeat (first | apply Kd.N_alloc | apply Kd.N_drewN | apply Kd.N_drew)); exact HO450.out) hb); have n1_ := Aside0.mk (Kd.N_below (by (with_reducible repeat (first | apply Kd.N_alloc | apply Kd.N_drewN | apply Kd.N_drew)); exact HO457.out) hb); have n2_ := Aside0.mk (Kd.V_lower (Kd.V_mono (ok' := fun k_ => k_ ≠ g437) ho0 (fun k_ hk_ => Or.elim hk_ (fun hs_ => hs_) (fun hn_ => (IsS56.fresh (by repeat (first | (with_reducible first | exact HI437.out | apply IsS56.alloc | apply IsS56.drewN | apply IsS56.drew | apply IsS56.set_0 | apply IsS56.set_1 | apply IsS56.set_2 | apply IsS56.set_3) | exact HI437.out)) k_ hn_)))) (below_size (by repeat (first | (with_reducible first | exact HB.out | apply below_alloc | apply pw_below_drewN | apply below_drew1 | refine below_set ?_ (IsS56.ge HI437.out)) | exact HB.out)))); have n3_ := Aside0.mk (IsS56.below (by repeat (first | (with_reducible first | exact HI437.out | apply IsS56.alloc | apply IsS56.drewN | apply IsS56.drew | apply IsS56.set_0 | apply IsS56.set_1 | apply IsS56.set_2 | apply IsS56.set_3) | exact HI437.out)) hb); have n4_ := Aside0.mk (below_step (by repeat (first | (with_reducible first | exact HB.out | apply below_alloc | apply pw_below_drewN | apply below_drew1 | refine below_set ?_ (IsS56.ge HI437.out)) | exact HB.out)) hb); clear HO450; clear HO457; clear HI437; clear HB; have HO450 := n0_; have HO457 := n1_; have HO460 := n2_; have HI437 := n3_; have HB := n4_; clear n0_ n1_ n2_ n3_ n4_; (try clear hb); (try clear hb2); (try clear hk); (try clear hi); (try clear ho0)) | ((with_reducible refine gate_callee (f := 14) rfl ?_); refine goesL_ (some 39) rfl rfl Tryz.func14 (by kernel_rfl) rfl #[.string a0] rfl (by (try simp only [List.map_toArray, List.map_cons, List.map_nil]); first | done | rfl | (simp only [List.length_drop, List.length_take]; rfl)) ?_; (with_reducible refine (scan_Tokens.calls k2 a0 t461 _ ?side1 A21.out).mono ?_); (case side1 => exact Glob.below hG (by repeat (first | (with_reducible first | exact HB.out | apply below_alloc | apply pw_below_drewN | apply below_drew1 | refine below_set ?_ (IsS56.ge HI437.out)) | exact HB.out))); rintro e w28 ⟨v462, rfl, ho0, hb⟩; refine ⟨_, rfl, ?_⟩; have n0_ := Aside0.mk (Kd.N_below (by (with_reducible repeat (first | apply Kd.N_alloc | apply Kd.N_drewN | apply Kd.N_drew)); exact HO450.out) hb); have n1_ := Aside0.mk (Kd.N_below (by (with_reducible repeat (first | apply Kd.N_alloc | apply Kd.N_drewN | apply Kd.N_drew)); exact HO457.out) hb); have n2_ := Aside0.mk (Kd.V_below (by (with_reducible repeat (first | apply Kd.V_alloc | apply Kd.V_drewN | apply Kd.V_drew)); exact HO460.out) hb); have n3_ := Aside0.mk (Kd.V_lower (Kd.V_mono (ok' := fun k_ => some k_ ≠ (.slice Ao25 t448.length co25 : Value).ownBlock ∧ some k_ ≠ (.slice Ao26 y455.length co26 : Value).ownBlock ∧ k_ ≠ g437) ho0 (fun k_ hk_ => ⟨(Kd.fresh' (Kd.N_lt (by (with_reducible repeat (first | apply Kd.N_alloc | apply Kd.N_drewN | apply Kd.N_drew)); exact HO450.out)) k_ hk_), (Kd.fresh' (Kd.N_lt (by (with_reducible repeat (first | apply Kd.N_alloc | apply Kd.N_drewN | apply Kd.N_drew)); exact HO457.out)) k_ hk_), (IsS56.fresh (by repeat (first | (with_reducible first | exact HI437.out | apply IsS56.alloc | apply IsS56.drewN | apply IsS56.drew | apply IsS56.set_0 | apply IsS56.set_1 | apply IsS56.set_2 | apply IsS56.set_3) | exact HI437.out)) k_ hk_)⟩)) (below_size (by repeat (first | (with_reducible first | exact HB.out | apply below_alloc | apply pw_below_drewN | apply below_drew1 | refine below_set ?_ (IsS56.ge HI437.out)) | exact HB.out)))); have n4_ := Aside0.mk (IsS56.below (by repeat (first | (with_reducible first | exact HI437.out | apply IsS56.alloc | apply IsS56.drewN | apply IsS56.drew | apply IsS56.set_0 | apply IsS56.set_1 | apply IsS56.set_2 | apply IsS56.set_3) | exact HI437.out)) hb); have n5_ := Aside0.mk (below_step (by repeat (first | (with_reducible first | exact HB.out | apply below_alloc | apply pw_below_drewN | apply below_drew1 | refine below_set ?_ (IsS56.ge HI437.out)) | exact HB.out)) hb); clear HO450; clear HO457; clear HO460; clear HI437; clear HB; have HO450 := n0_; have HO457 := n1_; have HO460 := n2_; have HO463 := n3_; have HI437 := n4_; have HB := n5_; clear n0_ n1_ n2_ n3_ n4_ n5_; (try clear hb); (try clear hb2); (try clear hk); (try clear hi); (try clear ho0); obtain ⟨Ao29, co29, eo29⟩ := Kd.V_slice HO460.out; subst eo29; obtain ⟨Ao30, co30, eo30⟩ := Kd.V_slice HO463.out; subst eo30) | ((with_reducible refine gate_callee (f := 13) rfl ?_); refine goesL_ (some 40) rfl rfl Tryz.func13 (by kernel_rfl) rfl #[.slice Ao29 t458.length co29, .slice Ao30 t461.length co30] rfl (by (try simp only [List.map_toArray, List.map_cons, List.map_nil]); first | done | rfl | (simp only [List.length_drop, List.length_take]; rfl)) ?_; (with_reducible refine (cribbleref18_Same.calls k2 _ _ t458 _ _ t461 t464 _ ?side1 ?side2 ?side3 ?side4 A22.out).mono ?_); (case side1 => repeat (first | exact (Kd.V_reads' HO460.out).2.2 | (with_reducible refine Kd.C_alloc ?_ _) | (with_reducible refine Kd.C_drewN ?_ _) | (with_reducible refine Kd.C_drew ?_))); (case side2 => exact (Kd.V_reads' HO460.out).2.1); (case side3 => repeat (first | exact (Kd.V_reads' HO463.out).2.2 | (with_reducible refine Kd.C_alloc ?_ _) | (with_reducible refine Kd.C_drewN ?_ _) | (with_reducible refine Kd.C_drew ?_))); (case side4 => exact (Kd.V_reads' HO463.out).2.1); rintro e w' ⟨rfl, ⟨nd, rfl⟩⟩; refine ⟨_, rfl, ?_⟩))
                go_ret
                exact ⟨by first | rfl | (simp [errW_none, errW_some] <;> rfl) | (simp [*, errW_none, errW_some] <;> rfl), by repeat (first | (with_reducible first | exact HB.out | apply below_alloc | apply pw_below_drewN | apply below_drew1 | refine below_set ?_ (IsS56.ge HI437.out)) | exact HB.out)⟩
              · rw [if_neg c19] at H
                exact absurd H (by simp)

end Go.Proofs.YtoacojkmclngmaaGreatDoor.Pz

/- The law ScanBytes, of what the code computes: true at every input. -/
namespace Go.Proofs.YtoacojkmclngmaaGreatDoor.Pz
open Go.RowKit Go.Proofs.YtoacojkmclngmaaGreatDoorW.PrintWords Go.Proofs.YtoacojkmclngmaaGreatDoorW.PrintLast Go.Proofs.YtoacojkmclngmaaGreatDoorW.PrintMore
set_option linter.unusedVariables false
set_option linter.unusedSimpArgs false
theorem awake_bytes : cribblelaw18_awake.f = some true := by kernel_rfl
theorem wrap_succ (i : Nat) (h : i < 1000000000) : wrap64 ((i : Int) + 1) = ((i + 1 : Nat) : Int) := by unfold wrap64; omega
/-- pieces of a text of n bytes hold no more than this -/
def Fits (l : List Tok) (n : Nat) : Prop := tsz l ≤ n * Big
theorem Fits.app {a b : List Tok} {m n k : Nat} (h : Fits a m) (h2 : Fits b n) (e : m + n ≤ k) : Fits (a ++ b) k := by
  unfold Fits at *
  rw [tsz_append]
  have h3 : (m + n) * Big ≤ k * Big := Nat.mul_le_mul_right _ e
  rw [Nat.add_mul] at h3
  omega
theorem Fits.bound {l : List Tok} {n : Nat} (h : Fits l n) (hn : n ≤ 30000) : tsz l ≤ 140737488355328 := by
  unfold Fits at h
  have h3 : n * Big ≤ 30000 * Big := Nat.mul_le_mul_right _ hn
  have h4 : 30000 * Big ≤ 140737488355328 := by decide
  omega
/-- One part more. -/
theorem write_part (k : Nat) (x nm p : ByteArray) (raw : Int) (h : Okay (x ++ p) nm raw) (hk : x.size + p.size + 1 ≤ k) : ∃ ts b nm' raw', scan_Scanner_Write.f k x false nm raw p = some (ts, b, false, nm', raw') ∧ Okay b nm' raw' ∧ b.size ≤ x.size + p.size ∧
    ts.length ≤ x.size + p.size - b.size ∧ Fits ts (x.size + p.size - b.size) ∧ ∀ t : ByteArray, x.size + p.size + t.size ≤ 30000 → Eqv (Tk ((x ++ p) ++ t) nm raw) (ts ++ Tk (b ++ t) nm' raw') := by
  have hsz : (x ++ p).size = x.size + p.size := ByteArray.size_append
  have hz := h.size
  obtain ⟨l1, b, nm', raw', h1, hb1, hb2, hb3, _⟩ := told_tot k false [] (x ++ p) false nm raw (by omega) h.name ⟨h.lo, h.hi⟩ (by omega) (by simp; omega)
  obtain ⟨ts, q1, q2, q3, q4, q5, q6, q7⟩ := told_part k [] (x ++ p) nm raw l1 b nm' false raw' h h1
  rw [List.nil_append] at q1
  subst q1
  rw [hsz] at q4 q5 q6 q7
  refine ⟨l1, b, nm', raw', ?_, q3, q4, q5, q6, fun t ht => q7 t (by omega)⟩
  unfold scan_Scanner_Write.f
  rw [if_pos (by omega)]
  unfold scan_Scanner_told.f
  rw [h1, Option.bind_some]
theorem close_all (k : Nat) (x nm : ByteArray) (raw : Int) (h : Okay x nm raw) (hk : x.size + 1 ≤ k) : scan_Scanner_Close.f k x false nm raw = some (Tk x nm raw, ⟨#[]⟩, false, ⟨#[]⟩, 0) := by
  have hz := h.size
  obtain ⟨l2, b2, nm2, raw2, h2, _⟩ := told_tot k true [] x false nm raw (by omega) h.name ⟨h.lo, h.hi⟩ hk (by simp; omega)
  have hl := told_last k [] x nm raw _ h h2
  simp only [List.nil_append] at hl
  subst hl
  unfold scan_Scanner_Close.f scan_Scanner_told.f
  rw [h2, Option.bind_some]
theorem bytes_loop (x : ByteArray) (hs : x.size ≤ 400) (L T : List Tok) (hT : T = Tk x ByteArray.empty 0) (hL : mrgF [] T = L) (K : Nat) (hK : x.size + L.length + asz L + 10 ≤ K) : ∀ (m i k : Nat) (told : List Tok) (rest nm : ByteArray) (raw : Int), K + m + 1 ≤ k → i + m = x.size → Okay rest nm raw → rest.size ≤ i → told.length ≤ i - rest.size → Fits told (i - rest.size) →
    Eqv T (told ++ Tk (rest ++ x.extract i x.size) nm raw) → cribblelaw18_ScanBytes.l0 k x told (i : Int) rest false nm raw = some true
  | m, i, 0, _, _, _, _, hk, _, _, _, _, _, _ => absurd hk (by omega)
  | 0, i, k + 1, told, rest, nm, raw, hk, e, ho, hr, hl, ht, hE => by
    rw [cribblelaw18_ScanBytes.l0, if_neg (by omega), close_all k rest nm raw ho (by omega), Option.bind_some]
    have hsp := tk_spec rest nm raw ho
    have hF : Fits (Tk rest nm raw) rest.size := hsp.2.1
    have hsl := hsp.2.2
    clear hsp
    simp only
    rw [if_pos (by omega)]
    have hex : rest ++ x.extract i x.size = rest := by
      rw [ba_nil (a := x.extract i x.size) (by rw [ByteArray.size_extract]; omega), ByteArray.append_empty]
    rw [hex] at hE
    have hsz := (ht.app hF (k := i) (by omega)).bound (by omega)
    unfold scan_Merge.f
    have hO : Okay x ByteArray.empty 0 := ⟨by omega, by decide, by decide, by decide⟩
    rw [mergeGo_eq _ [] (by show 0 + _ ≤ _; omega) (by rw [List.length_append]; simp; omega), ← hE [], Option.bind_some, tokens_tk k x (by omega) (by omega), ← hT, Option.bind_some, hL]
    have hln := mrgF_length T []
    have hlt := (tk_spec x ByteArray.empty 0 hO).2.2
    rw [← hT] at hlt
    rw [hL] at hln
    have hAL : AOk L := by
      rw [← hL, hT]
      exact mrgF_attrs _ _ (fun t ht => by cases ht) (tk_attrs _ x _ _ rfl hO)
    simp only [List.length_nil, Nat.zero_add] at hln
    rw [same_refl _ (by omega) hAL k (by omega)]
    rfl
  | m + 1, i, k + 1, told, rest, nm, raw, hk, e, ho, hr, hl, ht, hE => by
    have hps : (x.extract i (i + 1)).size = 1 := by rw [ByteArray.size_extract]; omega
    have hrs : (rest ++ x.extract i (i + 1)).size = rest.size + 1 := by rw [ByteArray.size_append, hps]
    obtain ⟨ts, b, nm', raw', hwr, q1, q2, q3, q4, q5⟩ := write_part k rest nm (x.extract i (i + 1)) raw ⟨by omega, ho.name, ho.lo, ho.hi⟩ (by omega)
    rw [hps] at q2 q3 q4 q5
    rw [cribblelaw18_ScanBytes.l0, if_pos (by omega), if_pos (by omega), wrap_succ i (by omega), if_pos (by omega), if_pos (by omega), Int.toNat_natCast, Int.toNat_natCast, hwr, Option.bind_some]
    simp only
    rw [if_pos (by omega)]
    refine bytes_loop x hs L T hT hL K hK m (i + 1) k (told ++ ts) b nm' raw' (by omega) (by omega) q1 (by omega) (by rw [List.length_append]; omega) ?_ ?_
    · exact ht.app q4 (by omega)
    · have h2 := q5 (x.extract (i + 1) x.size) (by rw [ByteArray.size_extract]; omega)
      have hpp : (rest ++ x.extract i (i + 1)) ++ x.extract (i + 1) x.size = rest ++ x.extract i x.size := by
        rw [ByteArray.append_assoc]
        congr 1
        apply ba_ext
        have h3 : (x.extract i (i + 1)).data.toList = (x.data.toList.drop i).take 1 := by
          rw [extract_list, show i + 1 - i = 1 by omega]
        rw [ba_append, h3, ba_tail, ba_tail, ← List.drop_drop, List.take_append_drop]
      rw [hpp] at h2
      refine hE.trans ?_
      rw [List.append_assoc]
      exact Eqv.app (Eqv.refl _) h2
theorem scanBytes_true (a0 : ByteArray) : ∃ k, cribblelaw18_ScanBytes.f k a0 = some true := by
  obtain ⟨T, hT⟩ : ∃ T, T = Tk a0 ByteArray.empty 0 := ⟨_, rfl⟩
  obtain ⟨L, hL⟩ : ∃ L, mrgF [] T = L := ⟨_, rfl⟩
  refine ⟨(a0.size + L.length + asz L + 10) + a0.size + 1 + 1, ?_⟩
  unfold cribblelaw18_ScanBytes.f
  rw [awake_bytes, Option.bind_some, if_pos rfl, cribblelaw18_ScanBytes.j0]
  by_cases hs : (a0.size : Int) > 400
  · rw [decide_eq_true hs, if_pos rfl]
  · rw [decide_eq_false hs, if_neg Bool.false_ne_true, show scan_New.f = some (ByteArray.empty, false, ByteArray.empty, 0) from rfl, Option.bind_some]
    refine bytes_loop a0 (by omega) L T hT hL _ (Nat.le_refl _) a0.size 0 _ [] ByteArray.empty ByteArray.empty 0 (Nat.le_refl _) (by omega) ⟨by decide, by decide, by decide, by decide⟩ (by decide) (by decide) (Nat.zero_le _) ?_
    rw [ext_all, ByteArray.empty_append, hT]
    exact Eqv.refl _
end Go.Proofs.YtoacojkmclngmaaGreatDoor.Pz
