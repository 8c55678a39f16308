/- Texts of the session, one behind the other: what the code computes, function by function, and its contracts. -/
import Derived.Shelf.SlGeneric
import Derived.Shelf.SlSortCmp.WholeK
import Derived.Shelf.Spec.SlicesGrow
import Derived.Ground.SlsfProg
import Derived.Ground.Names8Prog
import Derived.Test.YtoacojkmclngmaaGreatDoorProg
import Derived.Laws.Cover1
import Derived.Maps.AppendAt
import Derived.Test.YtoacojkmclngmaaGreatDoorWWords
import Derived.Test.YtoacojkmclngmaaGreatDoorWMore
import Derived.Maps.Own
import Derived.Maps.OwnSet
import Derived.Maps.OwnOps
import Derived.Lib.Walk
import Derived.Lib.AtoiErrMem
import Derived.Test.YtoacojkmclngmaaGreatDoorWN
import Derived.RangeFuncBox
import Derived.Test.YtoacojkmclngmaaGreatDoorK1
import Derived.Test.YtoacojkmclngmaaGreatDoorK2
import Derived.Test.YtoacojkmclngmaaGreatDoorK3
namespace Go.Proofs.YtoacojkmclngmaaGreatDoor.Pz
open Go.RowKit Go.Proofs.YtoacojkmclngmaaGreatDoorW.PrintWords Go.Proofs.YtoacojkmclngmaaGreatDoorW.PrintLast Go.Proofs.YtoacojkmclngmaaGreatDoorW.PrintMore
attribute [local go_sem] max2_int min2_int max_two min_two max_three min_three max_four min_four   -- for this text's walks alone
attribute [local go_sem] rune_str
set_option linter.unusedVariables false
set_option linter.unusedSimpArgs false
def entity_with.l0 : Nat → List (S107) → List (S107) → Int → Int → Option ((List (S107)))
  | 0, _, _, _, _ => none
  | k + 1, x3, x6, x7, x8 => if x8 < x7 then (if 0 ≤ x8 then (if x8 < (x6.length : Int) then (if ((rd_T107 x6 x8).f0).size + 1 ≤ 9223372036854775807 then (if x3.length < 4398046511104 then (entity_with.l0 k (x3 ++ [(⟨((rd_T107 x6 x8).f0) ++ (⟨#[59]⟩ : ByteArray), (rd_T107 x6 x8).f1⟩ : S107)]) x6 x7 (wrap64 (x8 + 1))) else (none)) else (none)) else (none)) else (none)) else (some x3)
def entity_with.f (k : Nat) (l0 : List (S107)) : Option ((List (S107))) := entity_with.l0 k ([] : List (S107)) l0 (l0.length : Int) 0
theorem entity_with.mono_l : ∀ k, (∀ y0 y1 y2 y3, LeO (entity_with.l0 k y0 y1 y2 y3) (entity_with.l0 (k + 1) y0 y1 y2 y3))
  | 0 => fun _ _ _ _ r h => by simp [entity_with.l0] at h
  | k + 1 => by
    have ih0 := entity_with.mono_l k
    · intro y0 y1 y2 y3
      unfold entity_with.l0
      repeat' first
      | (with_reducible exact ih0 _ _ _ _)
      | (with_reducible exact LeO.refl _)
      | (with_reducible exact LeO.none _)
      | (with_reducible refine LeO.ite ?_ ?_)
      | (with_reducible refine LeO.bind ?_ (fun _ => ?_))
      | exact ih0 _ _ _ _
      | exact LeO.none _
      | refine LeO.ite ?_ ?_
      | refine LeO.bind ?_ (fun _ => ?_)
theorem entity_with.mono : ∀ a0 k, LeO (entity_with.f k a0) (entity_with.f (k + 1) a0) := by
  intro a0 k
  have ih0 := entity_with.mono_l k
  unfold entity_with.f
  repeat' first
      | (with_reducible exact ih0 _ _ _ _)
      | (with_reducible exact LeO.refl _)
      | (with_reducible exact LeO.none _)
      | (with_reducible refine LeO.ite ?_ ?_)
      | (with_reducible refine LeO.bind ?_ (fun _ => ?_))
      | exact ih0 _ _ _ _
      | exact LeO.none _
      | refine LeO.ite ?_ ?_
      | refine LeO.bind ?_ (fun _ => ?_)
set_option maxHeartbeats 8000000 in
set_option maxRecDepth 100000 in
theorem entity_with.calls (k : Nat) (A0 : Option Addr) (c0 : Nat) (l0 : List (S107)) (r : List (S107)) (w : World) (hr0 : Kd.C k107 w A0 l0.length l0) (hc0 : l0.length ≤ c0) (h : entity_with.f k l0 = some r) :
    Calls Tryz.prog 122 #[.slice A0 l0.length c0] w fun e w' => ∃ v0_ : Value, e = .returned (v0_) ∧ Kd.R k107 107 w' w.heap.size (fun _ => True) v0_ r ∧ Below w.heap.size w w' := by
  have hu107 := Tryz.underlying107
  have HR0 := Aside0.mk hr0
  have HC0 := Aside0.mk hc0
  clear hr0 hc0
  have HB := Aside0.mk (Below.refl w.heap.size w)
  have H : (entity_with.l0 k ([] : List (S107)) l0 (l0.length : Int) 0) = some r := h
  clear h
  have H' := Aside0.mk H
  clear H
  go_enter Tryz.func122, Tryz.ntmps122
  go_wp2
  go_loopg [3, 8] k (fun kq v3 v8 w' => ∃ (x3_1 : List (S107)) (x8_1 : Int), v8 = .int .i64 x8_1 ∧ Aside0 (entity_with.l0 kq x3_1 l0 (l0.length : Int) x8_1 = some r) ∧ Aside0 (kq ≤ k) ∧ Aside0 (Kd.R k107 107 w' w.heap.size (fun _ => True) v3 x3_1) ∧ Aside0 (Below w.heap.size w w'))
  case atStart => exact ⟨(([] : List (S107))), (0), (by first | rfl | (simp; done) | (simp [*]; done) | (simp; unfold wrap64; omega) | (simp; rfl)), H', ⟨Nat.le_refl _⟩, ⟨by first | exact Kd.R_nil _ _ _ _ _ | exact Kd.N_nil _ _ _ _ _ | exact Kd.V_nil _ _ _ _ _ | exact Kd.Q_nil _ _ _ _ _ | exact Kd.S_nil _ _ _ _ _⟩, ⟨by repeat (first | (with_reducible first | exact HB.out | apply below_alloc | apply pw_below_drewN | apply below_drew1) | exact HB.out)⟩⟩
  case round =>
    clear H'
    try clear c1
    obtain ⟨x3_1, x8_1, rfl, HA, HK1, HO_3, HB⟩ := hrel
    cases gk with
    | zero => exact absurd HA.out (by simp [entity_with.l0])
    | succ k1 =>
      have H := HA.out
      clear HA
      simp only [entity_with.l0] at H
      by_cases c2 : x8_1 < (l0.length : Int)
      · rw [if_pos c2] at H
        have c2b0 : decide (x8_1 < (l0.length : Int)) = true := decide_eq_true c2
        clear c2
        by_cases c3 : 0 ≤ x8_1
        · rw [if_pos c3] at H
          have c3b0 : decide (0 ≤ x8_1) = true := decide_eq_true c3
          clear c3
          by_cases c4 : x8_1 < (l0.length : Int)
          · rw [if_pos c4] at H
            have c4b0 : decide (x8_1 < (l0.length : Int)) = true := decide_eq_true c4
            clear c4
            by_cases c5 : ((rd_T107 l0 x8_1).f0).size + 1 ≤ 9223372036854775807
            · rw [if_pos c5] at H
              have c5b0 := eq_true c5
              have c5b1 : decide (((rd_T107 l0 x8_1).f0).size + 1 ≤ 9223372036854775807) = true := decide_eq_true c5
              try have c5b2 : (9223372036854775807 < ((rd_T107 l0 x8_1).f0).size + 1) = False := eq_false (Nat.not_lt.2 c5)
              by_cases c6 : x3_1.length < 4398046511104
              · rw [if_pos c6] at H
                have LMc6 := Aside0.mk c6
                clear c6
                obtain ⟨y107, hy107⟩ : ∃ y_ : List (S107), y_ = (x3_1 ++ [(⟨((rd_T107 l0 x8_1).f0) ++ (⟨#[59]⟩ : ByteArray), (rd_T107 l0 x8_1).f1⟩ : S107)]) := ⟨_, rfl⟩
                replace H : (entity_with.l0 k1 y107 l0 (l0.length : Int) (wrap64 (x8_1 + 1))) = some r := by first | (rw [hy107]; with_reducible exact H) | (have H2_ := (Option.bind_some _ _).symm.trans H; rw [hy107]; with_reducible exact H2_) | (have H2_ := (Option.bind_some _ _).symm.trans H; with_reducible exact H2_) | with_reducible exact H | (rw [hy107]; exact H) | exact H
                have Ny107 := Aside0.mk hy107
                clear hy107
                have H' := Aside0.mk H
                clear H
                have p105 : 0 ≤ (x8_1 : Int) := of_decide_eq_true (by first | (with_reducible assumption) | assumption)
                have q105 : x8_1 < (l0.length : Int) := of_decide_eq_true (by first | (with_reducible assumption) | assumption)
                obtain ⟨ad105, e105, hx105_0, hx105_1⟩ := at_T107 HR0.out x8_1 p105 q105
                cases e105
                replace hx105_0 := (HB.out.cell (World.block_lt_of_cell? w _ hx105_0)).trans hx105_0
                replace hx105_1 := (HB.out.cell (World.block_lt_of_cell? w _ hx105_1)).trans hx105_1
                replace p105 := eq_true p105
                replace q105 := eq_true q105
                go_wp2_with (first | ((with_reducible refine gate_dst (N := 5) rfl ?_); refine box_event ?hg (N := 5) ?hd (cs := #[.string (⟨#[]⟩ : ByteArray), .string (⟨#[]⟩ : ByteArray)]) (t := 107) ?hr ?_; (case hd => rfl); (case hg => rfl); (case hr => first | (go_simp; done) | (go_simp; rfl)); intro gb106 hg w7 hbox hb; have n0_ := Aside0.mk (Kd.R_below (Kd.R_elderB (by (with_reducible repeat (first | apply Kd.R_alloc | apply Kd.R_drewN | apply Kd.R_drew)); exact HO_3.out) gb106 (Nat.le_of_eq hg.symm)) hb); have n1_ := Aside0.mk (below_step (by repeat (first | (with_reducible first | exact HB.out | apply below_alloc | apply pw_below_drewN | apply below_drew1) | exact HB.out)) hb); have n2_ := Aside0.mk (hbox); have n3_ := Aside0.mk ((by rw [hg]; exact (below_size (by repeat (first | (with_reducible first | exact HB.out | apply below_alloc | apply pw_below_drewN | apply below_drew1) | exact HB.out))) : w.heap.size ≤ gb106)); have n4_ := Aside0.mk ((by rw [hg]; exact (below_size (by repeat (first | (with_reducible first | exact HB.out | apply below_alloc | apply pw_below_drewN | apply below_drew1) | exact HB.out))) : w.heap.size ≤ gb106)); clear HO_3; clear HB; have HO_3 := n0_; have HB := n1_; have BK106 := n2_; have GW106 := n3_; have GE106 := n4_; clear n0_ n1_ n2_ n3_ n4_; clear hb hbox hg; have hcz8_0 : w7.cell? ⟨gb106, 0, none⟩ = some (.string (⟨#[]⟩ : ByteArray)) := (blk_cell BK106.out 0).trans rfl; have hcz8_1 : w7.cell? ⟨gb106, 1, none⟩ = some (.string (⟨#[]⟩ : ByteArray)) := (blk_cell BK106.out 1).trans rfl; have hfz8_0 := blk_frozen BK106.out 0; have hfz8_1 := blk_frozen BK106.out 1) | ((with_reducible refine gate_builtin (b := .append) (xs := #[.tmp 12, .tmp 19]) rfl ?_); at_builtin; refine Kd.R_append k107 (w0 := w) w.heap.size rfl (.tmp 12) (.tmp 19) 108 107 (.agg #[(.string ⟨#[]⟩), (.string ⟨#[]⟩)]) 32 rfl Tryz.underlying108 info107 rfl (by decide) (by omega) u3 x3_1 (⟨((rd_T107 l0 x8_1).f0) ++ (⟨#[59]⟩ : ByteArray), (rd_T107 l0 x8_1).f1⟩ : S107) [.string (((rd_T107 l0 x8_1).f0) ++ (⟨#[59]⟩ : ByteArray)), .string ((rd_T107 l0 x8_1).f1)] (fun k_ => k_ ≠ gb106) (fun _ => False) rfl (by first | (go_simp; done) | (go_simp; rfl)) ?aP (fun _ hk => hk.elim) ?aF ?aO ?aB ?aS ?aL ?_; (case aP => exact k107_mkM _ _ _ (⟨((rd_T107 l0 x8_1).f0) ++ (⟨#[59]⟩ : ByteArray), (rd_T107 l0 x8_1).f1⟩ : S107)); (case aB => exact (by repeat (first | (with_reducible first | exact HB.out | apply below_alloc | apply pw_below_drewN | apply below_drew1 | refine below_set ?_ GE106.out) | exact HB.out))); (case aF => exact (fun k_ hk => Kd.freshB (g := gb106) (o := .cells #[.string ((rd_T107 l0 x8_1).f0), .string ((rd_T107 l0 x8_1).f1)] 107 (0, 0)) (by (with_reducible repeat (first | refine blk_drewN ?_ _ | refine blk_drew ?_ | refine blk_alloc ?_ _)); refine blk_put (cs := #[.string ((rd_T107 l0 x8_1).f0), .string (⟨#[]⟩ : ByteArray)]) ?_ 1 _ rfl; (with_reducible repeat (first | refine blk_drewN ?_ _ | refine blk_drew ?_ | refine blk_alloc ?_ _)); refine blk_put (cs := #[.string (⟨#[]⟩ : ByteArray), .string (⟨#[]⟩ : ByteArray)]) ?_ 0 _ rfl; (with_reducible repeat (first | refine blk_drewN ?_ _ | refine blk_drew ?_ | refine blk_alloc ?_ _)); exact BK106.out) k_ hk)); (case aO => exact (by (with_reducible repeat (first | apply Kd.R_alloc | apply Kd.R_drewN | apply Kd.R_drew)); exact Kd.R_mono (Kd.R_far (p := ⟨gb106, 1, none⟩) (Kd.R_far (p := ⟨gb106, 0, none⟩) (Kd.R_mono HO_3.out (fun k_ hk => (⟨hk, hk.2⟩ : _ ∧ k_ ≠ gb106))) (fun _ hk => hk.2) (.string ((rd_T107 l0 x8_1).f0))) (fun _ hk => hk.2) (.string ((rd_T107 l0 x8_1).f1))) (fun _ hk => hk.1.2))); (case aS => exact (below_size (by repeat (first | (with_reducible first | exact HB.out | apply below_alloc | apply pw_below_drewN | apply below_drew1 | refine below_set ?_ GE106.out) | exact HB.out)))); (case aL => have := LMc6.out; omega); intro v108 w9 ho hb hg hat; rw [← Ny107.out] at ho; have n0_ := Aside0.mk (blk_grown (g := gb106) (o := .cells #[.string ((rd_T107 l0 x8_1).f0), .string ((rd_T107 l0 x8_1).f1)] 107 (0, 0)) (by (with_reducible repeat (first | refine blk_drewN ?_ _ | refine blk_drew ?_ | refine blk_alloc ?_ _)); refine blk_put (cs := #[.string ((rd_T107 l0 x8_1).f0), .string (⟨#[]⟩ : ByteArray)]) ?_ 1 _ rfl; (with_reducible repeat (first | refine blk_drewN ?_ _ | refine blk_drew ?_ | refine blk_alloc ?_ _)); refine blk_put (cs := #[.string (⟨#[]⟩ : ByteArray), .string (⟨#[]⟩ : ByteArray)]) ?_ 0 _ rfl; (with_reducible repeat (first | refine blk_drewN ?_ _ | refine blk_drew ?_ | refine blk_alloc ?_ _)); exact BK106.out) hg (Kd.R_away HO_3.out (fun _ hk => hk.2))); have n1_ := Aside0.mk (hb); have n2_ := Aside0.mk (ho); clear BK106; clear HB; clear HO_3; have BK106 := n0_; have HB := n1_; have HO109 := n2_; clear n0_ n1_ n2_; clear ho hb hg hat))
                go_roundg k1
                case measure => have := HK1.out; omega
                case rel => exact ⟨(y107), (wrap64 (x8_1 + 1)), (by first | rfl | (simp; done) | (simp [*]; done) | (simp; unfold wrap64; omega) | (simp; rfl)), H', ⟨by have := HK1.out; omega⟩, ⟨by (with_reducible repeat (first | apply Kd.R_alloc | apply Kd.R_drewN | apply Kd.R_drew)); exact Kd.R_mono HO109.out (fun _ hk => trivial)⟩, ⟨by repeat (first | (with_reducible first | exact HB.out | apply below_alloc | apply pw_below_drewN | apply below_drew1 | refine below_set ?_ GE106.out) | exact HB.out)⟩⟩
              · rw [if_neg c6] at H
                exact absurd H (by simp)
            · rw [if_neg c5] at H
              exact absurd H (by simp)
          · rw [if_neg c4] at H
            exact absurd H (by simp)
        · rw [if_neg c3] at H
          exact absurd H (by simp)
      · rw [if_neg c2] at H
        have c2b0 : decide (x8_1 < (l0.length : Int)) = false := decide_eq_false c2
        clear c2
        obtain rfl := Option.some.inj H
        go_wp2
        go_ret
        exact ⟨_, by first | rfl | (simp [errW_none, errW_some] <;> rfl) | (simp [*, errW_none, errW_some] <;> rfl), by (with_reducible repeat (first | apply Kd.R_alloc | apply Kd.R_drewN | apply Kd.R_drew)); exact HO_3.out, by repeat (first | (with_reducible first | exact HB.out | apply below_alloc | apply pw_below_drewN | apply below_drew1) | exact HB.out)⟩
end Go.Proofs.YtoacojkmclngmaaGreatDoor.Pz
namespace Go.Proofs.YtoacojkmclngmaaGreatDoor.Pz
open Go.RowKit Go.Proofs.YtoacojkmclngmaaGreatDoorW.PrintWords Go.Proofs.YtoacojkmclngmaaGreatDoorW.PrintLast Go.Proofs.YtoacojkmclngmaaGreatDoorW.PrintMore
attribute [local go_sem] max2_int min2_int max_two min_two max_three min_three max_four min_four   -- for this text's walks alone
attribute [local go_sem] rune_str
set_option linter.unusedVariables false
set_option linter.unusedSimpArgs false
def entity_closed.f  : Option ((List (S107))) := some (([(⟨(⟨#[97, 112, 111, 115]⟩ : ByteArray), (⟨#[39]⟩ : ByteArray)⟩ : S107), (⟨(⟨#[104, 101, 108, 108, 105, 112]⟩ : ByteArray), (⟨#[226, 128, 166]⟩ : ByteArray)⟩ : S107), (⟨(⟨#[109, 100, 97, 115, 104]⟩ : ByteArray), (⟨#[226, 128, 148]⟩ : ByteArray)⟩ : S107), (⟨(⟨#[110, 100, 97, 115, 104]⟩ : ByteArray), (⟨#[226, 128, 147]⟩ : ByteArray)⟩ : S107), (⟨(⟨#[108, 115, 113, 117, 111]⟩ : ByteArray), (⟨#[226, 128, 152]⟩ : ByteArray)⟩ : S107), (⟨(⟨#[114, 115, 113, 117, 111]⟩ : ByteArray), (⟨#[226, 128, 153]⟩ : ByteArray)⟩ : S107), (⟨(⟨#[108, 100, 113, 117, 111]⟩ : ByteArray), (⟨#[226, 128, 156]⟩ : ByteArray)⟩ : S107), (⟨(⟨#[114, 100, 113, 117, 111]⟩ : ByteArray), (⟨#[226, 128, 157]⟩ : ByteArray)⟩ : S107), (⟨(⟨#[98, 117, 108, 108]⟩ : ByteArray), (⟨#[226, 128, 162]⟩ : ByteArray)⟩ : S107), (⟨(⟨#[101, 117, 114, 111]⟩ : ByteArray), (⟨#[226, 130, 172]⟩ : ByteArray)⟩ : S107), (⟨(⟨#[116, 114, 97, 100, 101]⟩ : ByteArray), (⟨#[226, 132, 162]⟩ : ByteArray)⟩ : S107), (⟨(⟨#[108, 97, 114, 114]⟩ : ByteArray), (⟨#[226, 134, 144]⟩ : ByteArray)⟩ : S107), (⟨(⟨#[114, 97, 114, 114]⟩ : ByteArray), (⟨#[226, 134, 146]⟩ : ByteArray)⟩ : S107), (⟨(⟨#[110, 111, 116, 105, 110]⟩ : ByteArray), (⟨#[226, 136, 137]⟩ : ByteArray)⟩ : S107), (⟨(⟨#[110, 111, 116, 110, 105]⟩ : ByteArray), (⟨#[226, 136, 140]⟩ : ByteArray)⟩ : S107), (⟨(⟨#[110, 101]⟩ : ByteArray), (⟨#[226, 137, 160]⟩ : ByteArray)⟩ : S107), (⟨(⟨#[108, 101]⟩ : ByteArray), (⟨#[226, 137, 164]⟩ : ByteArray)⟩ : S107), (⟨(⟨#[103, 101]⟩ : ByteArray), (⟨#[226, 137, 165]⟩ : ByteArray)⟩ : S107), (⟨(⟨#[97, 108, 112, 104, 97]⟩ : ByteArray), (⟨#[206, 177]⟩ : ByteArray)⟩ : S107), (⟨(⟨#[98, 101, 116, 97]⟩ : ByteArray), (⟨#[206, 178]⟩ : ByteArray)⟩ : S107), (⟨(⟨#[112, 105]⟩ : ByteArray), (⟨#[207, 128]⟩ : ByteArray)⟩ : S107), (⟨(⟨#[105, 110, 102, 105, 110]⟩ : ByteArray), (⟨#[226, 136, 158]⟩ : ByteArray)⟩ : S107), (⟨(⟨#[115, 117, 109]⟩ : ByteArray), (⟨#[226, 136, 145]⟩ : ByteArray)⟩ : S107), (⟨(⟨#[103, 116, 99, 99]⟩ : ByteArray), (⟨#[226, 170, 167]⟩ : ByteArray)⟩ : S107), (⟨(⟨#[108, 116, 105, 109, 101, 115]⟩ : ByteArray), (⟨#[226, 139, 137]⟩ : ByteArray)⟩ : S107), (⟨(⟨#[116, 105, 109, 101, 115, 98]⟩ : ByteArray), (⟨#[226, 138, 160]⟩ : ByteArray)⟩ : S107), (⟨(⟨#[78, 111, 116, 69, 113, 117, 97, 108, 84, 105, 108, 100, 101]⟩ : ByteArray), (⟨#[226, 137, 130, 204, 184]⟩ : ByteArray)⟩ : S107), (⟨(⟨#[84, 104, 105, 99, 107, 83, 112, 97, 99, 101]⟩ : ByteArray), (⟨#[226, 129, 159, 226, 128, 138]⟩ : ByteArray)⟩ : S107), (⟨(⟨#[102, 106, 108, 105, 103]⟩ : ByteArray), (⟨#[102, 106]⟩ : ByteArray)⟩ : S107), (⟨(⟨#[84, 97, 98]⟩ : ByteArray), (⟨#[9]⟩ : ByteArray)⟩ : S107), (⟨(⟨#[78, 101, 119, 76, 105, 110, 101]⟩ : ByteArray), (⟨#[10]⟩ : ByteArray)⟩ : S107), (⟨(⟨#[108, 98, 114, 97, 99, 101]⟩ : ByteArray), (⟨#[123]⟩ : ByteArray)⟩ : S107), (⟨(⟨#[110, 117, 109]⟩ : ByteArray), (⟨#[35]⟩ : ByteArray)⟩ : S107), (⟨(⟨#[115, 101, 109, 105]⟩ : ByteArray), (⟨#[59]⟩ : ByteArray)⟩ : S107)] : List (S107)))
set_option maxHeartbeats 8000000 in
set_option maxRecDepth 100000 in
theorem entity_closed.calls  (r : List (S107)) (w : World) (h : entity_closed.f  = some r) :
    Calls Tryz.prog 123 #[] w fun e w' => ∃ v0_ : Value, e = .returned (v0_) ∧ Kd.R k107 107 w' w.heap.size (fun _ => True) v0_ r ∧ Below w.heap.size w w' := by
  have hu107 := Tryz.underlying107
  have HB := Aside0.mk (Below.refl w.heap.size w)
  have H : (some (([(⟨(⟨#[97, 112, 111, 115]⟩ : ByteArray), (⟨#[39]⟩ : ByteArray)⟩ : S107), (⟨(⟨#[104, 101, 108, 108, 105, 112]⟩ : ByteArray), (⟨#[226, 128, 166]⟩ : ByteArray)⟩ : S107), (⟨(⟨#[109, 100, 97, 115, 104]⟩ : ByteArray), (⟨#[226, 128, 148]⟩ : ByteArray)⟩ : S107), (⟨(⟨#[110, 100, 97, 115, 104]⟩ : ByteArray), (⟨#[226, 128, 147]⟩ : ByteArray)⟩ : S107), (⟨(⟨#[108, 115, 113, 117, 111]⟩ : ByteArray), (⟨#[226, 128, 152]⟩ : ByteArray)⟩ : S107), (⟨(⟨#[114, 115, 113, 117, 111]⟩ : ByteArray), (⟨#[226, 128, 153]⟩ : ByteArray)⟩ : S107), (⟨(⟨#[108, 100, 113, 117, 111]⟩ : ByteArray), (⟨#[226, 128, 156]⟩ : ByteArray)⟩ : S107), (⟨(⟨#[114, 100, 113, 117, 111]⟩ : ByteArray), (⟨#[226, 128, 157]⟩ : ByteArray)⟩ : S107), (⟨(⟨#[98, 117, 108, 108]⟩ : ByteArray), (⟨#[226, 128, 162]⟩ : ByteArray)⟩ : S107), (⟨(⟨#[101, 117, 114, 111]⟩ : ByteArray), (⟨#[226, 130, 172]⟩ : ByteArray)⟩ : S107), (⟨(⟨#[116, 114, 97, 100, 101]⟩ : ByteArray), (⟨#[226, 132, 162]⟩ : ByteArray)⟩ : S107), (⟨(⟨#[108, 97, 114, 114]⟩ : ByteArray), (⟨#[226, 134, 144]⟩ : ByteArray)⟩ : S107), (⟨(⟨#[114, 97, 114, 114]⟩ : ByteArray), (⟨#[226, 134, 146]⟩ : ByteArray)⟩ : S107), (⟨(⟨#[110, 111, 116, 105, 110]⟩ : ByteArray), (⟨#[226, 136, 137]⟩ : ByteArray)⟩ : S107), (⟨(⟨#[110, 111, 116, 110, 105]⟩ : ByteArray), (⟨#[226, 136, 140]⟩ : ByteArray)⟩ : S107), (⟨(⟨#[110, 101]⟩ : ByteArray), (⟨#[226, 137, 160]⟩ : ByteArray)⟩ : S107), (⟨(⟨#[108, 101]⟩ : ByteArray), (⟨#[226, 137, 164]⟩ : ByteArray)⟩ : S107), (⟨(⟨#[103, 101]⟩ : ByteArray), (⟨#[226, 137, 165]⟩ : ByteArray)⟩ : S107), (⟨(⟨#[97, 108, 112, 104, 97]⟩ : ByteArray), (⟨#[206, 177]⟩ : ByteArray)⟩ : S107), (⟨(⟨#[98, 101, 116, 97]⟩ : ByteArray), (⟨#[206, 178]⟩ : ByteArray)⟩ : S107), (⟨(⟨#[112, 105]⟩ : ByteArray), (⟨#[207, 128]⟩ : ByteArray)⟩ : S107), (⟨(⟨#[105, 110, 102, 105, 110]⟩ : ByteArray), (⟨#[226, 136, 158]⟩ : ByteArray)⟩ : S107), (⟨(⟨#[115, 117, 109]⟩ : ByteArray), (⟨#[226, 136, 145]⟩ : ByteArray)⟩ : S107), (⟨(⟨#[103, 116, 99, 99]⟩ : ByteArray), (⟨#[226, 170, 167]⟩ : ByteArray)⟩ : S107), (⟨(⟨#[108, 116, 105, 109, 101, 115]⟩ : ByteArray), (⟨#[226, 139, 137]⟩ : ByteArray)⟩ : S107), (⟨(⟨#[116, 105, 109, 101, 115, 98]⟩ : ByteArray), (⟨#[226, 138, 160]⟩ : ByteArray)⟩ : S107), (⟨(⟨#[78, 111, 116, 69, 113, 117, 97, 108, 84, 105, 108, 100, 101]⟩ : ByteArray), (⟨#[226, 137, 130, 204, 184]⟩ : ByteArray)⟩ : S107), (⟨(⟨#[84, 104, 105, 99, 107, 83, 112, 97, 99, 101]⟩ : ByteArray), (⟨#[226, 129, 159, 226, 128, 138]⟩ : ByteArray)⟩ : S107), (⟨(⟨#[102, 106, 108, 105, 103]⟩ : ByteArray), (⟨#[102, 106]⟩ : ByteArray)⟩ : S107), (⟨(⟨#[84, 97, 98]⟩ : ByteArray), (⟨#[9]⟩ : ByteArray)⟩ : S107), (⟨(⟨#[78, 101, 119, 76, 105, 110, 101]⟩ : ByteArray), (⟨#[10]⟩ : ByteArray)⟩ : S107), (⟨(⟨#[108, 98, 114, 97, 99, 101]⟩ : ByteArray), (⟨#[123]⟩ : ByteArray)⟩ : S107), (⟨(⟨#[110, 117, 109]⟩ : ByteArray), (⟨#[35]⟩ : ByteArray)⟩ : S107), (⟨(⟨#[115, 101, 109, 105]⟩ : ByteArray), (⟨#[59]⟩ : ByteArray)⟩ : S107)] : List (S107)))) = some r := h
  clear h
  obtain ⟨y110, hy110⟩ : ∃ y_ : List (S107), y_ = (([(⟨(⟨#[97, 112, 111, 115]⟩ : ByteArray), (⟨#[39]⟩ : ByteArray)⟩ : S107), (⟨(⟨#[104, 101, 108, 108, 105, 112]⟩ : ByteArray), (⟨#[226, 128, 166]⟩ : ByteArray)⟩ : S107), (⟨(⟨#[109, 100, 97, 115, 104]⟩ : ByteArray), (⟨#[226, 128, 148]⟩ : ByteArray)⟩ : S107), (⟨(⟨#[110, 100, 97, 115, 104]⟩ : ByteArray), (⟨#[226, 128, 147]⟩ : ByteArray)⟩ : S107), (⟨(⟨#[108, 115, 113, 117, 111]⟩ : ByteArray), (⟨#[226, 128, 152]⟩ : ByteArray)⟩ : S107), (⟨(⟨#[114, 115, 113, 117, 111]⟩ : ByteArray), (⟨#[226, 128, 153]⟩ : ByteArray)⟩ : S107), (⟨(⟨#[108, 100, 113, 117, 111]⟩ : ByteArray), (⟨#[226, 128, 156]⟩ : ByteArray)⟩ : S107), (⟨(⟨#[114, 100, 113, 117, 111]⟩ : ByteArray), (⟨#[226, 128, 157]⟩ : ByteArray)⟩ : S107), (⟨(⟨#[98, 117, 108, 108]⟩ : ByteArray), (⟨#[226, 128, 162]⟩ : ByteArray)⟩ : S107), (⟨(⟨#[101, 117, 114, 111]⟩ : ByteArray), (⟨#[226, 130, 172]⟩ : ByteArray)⟩ : S107), (⟨(⟨#[116, 114, 97, 100, 101]⟩ : ByteArray), (⟨#[226, 132, 162]⟩ : ByteArray)⟩ : S107), (⟨(⟨#[108, 97, 114, 114]⟩ : ByteArray), (⟨#[226, 134, 144]⟩ : ByteArray)⟩ : S107), (⟨(⟨#[114, 97, 114, 114]⟩ : ByteArray), (⟨#[226, 134, 146]⟩ : ByteArray)⟩ : S107), (⟨(⟨#[110, 111, 116, 105, 110]⟩ : ByteArray), (⟨#[226, 136, 137]⟩ : ByteArray)⟩ : S107), (⟨(⟨#[110, 111, 116, 110, 105]⟩ : ByteArray), (⟨#[226, 136, 140]⟩ : ByteArray)⟩ : S107), (⟨(⟨#[110, 101]⟩ : ByteArray), (⟨#[226, 137, 160]⟩ : ByteArray)⟩ : S107), (⟨(⟨#[108, 101]⟩ : ByteArray), (⟨#[226, 137, 164]⟩ : ByteArray)⟩ : S107), (⟨(⟨#[103, 101]⟩ : ByteArray), (⟨#[226, 137, 165]⟩ : ByteArray)⟩ : S107), (⟨(⟨#[97, 108, 112, 104, 97]⟩ : ByteArray), (⟨#[206, 177]⟩ : ByteArray)⟩ : S107), (⟨(⟨#[98, 101, 116, 97]⟩ : ByteArray), (⟨#[206, 178]⟩ : ByteArray)⟩ : S107), (⟨(⟨#[112, 105]⟩ : ByteArray), (⟨#[207, 128]⟩ : ByteArray)⟩ : S107), (⟨(⟨#[105, 110, 102, 105, 110]⟩ : ByteArray), (⟨#[226, 136, 158]⟩ : ByteArray)⟩ : S107), (⟨(⟨#[115, 117, 109]⟩ : ByteArray), (⟨#[226, 136, 145]⟩ : ByteArray)⟩ : S107), (⟨(⟨#[103, 116, 99, 99]⟩ : ByteArray), (⟨#[226, 170, 167]⟩ : ByteArray)⟩ : S107), (⟨(⟨#[108, 116, 105, 109, 101, 115]⟩ : ByteArray), (⟨#[226, 139, 137]⟩ : ByteArray)⟩ : S107), (⟨(⟨#[116, 105, 109, 101, 115, 98]⟩ : ByteArray), (⟨#[226, 138, 160]⟩ : ByteArray)⟩ : S107), (⟨(⟨#[78, 111, 116, 69, 113, 117, 97, 108, 84, 105, 108, 100, 101]⟩ : ByteArray), (⟨#[226, 137, 130, 204, 184]⟩ : ByteArray)⟩ : S107), (⟨(⟨#[84, 104, 105, 99, 107, 83, 112, 97, 99, 101]⟩ : ByteArray), (⟨#[226, 129, 159, 226, 128, 138]⟩ : ByteArray)⟩ : S107), (⟨(⟨#[102, 106, 108, 105, 103]⟩ : ByteArray), (⟨#[102, 106]⟩ : ByteArray)⟩ : S107), (⟨(⟨#[84, 97, 98]⟩ : ByteArray), (⟨#[9]⟩ : ByteArray)⟩ : S107), (⟨(⟨#[78, 101, 119, 76, 105, 110, 101]⟩ : ByteArray), (⟨#[10]⟩ : ByteArray)⟩ : S107), (⟨(⟨#[108, 98, 114, 97, 99, 101]⟩ : ByteArray), (⟨#[123]⟩ : ByteArray)⟩ : S107), (⟨(⟨#[110, 117, 109]⟩ : ByteArray), (⟨#[35]⟩ : ByteArray)⟩ : S107), (⟨(⟨#[115, 101, 109, 105]⟩ : ByteArray), (⟨#[59]⟩ : ByteArray)⟩ : S107)] : List (S107))) := ⟨_, rfl⟩
  replace H : (some y110) = some r := by first | (rw [hy110]; with_reducible exact H) | (have H2_ := (Option.bind_some _ _).symm.trans H; rw [hy110]; with_reducible exact H2_) | (have H2_ := (Option.bind_some _ _).symm.trans H; with_reducible exact H2_) | with_reducible exact H | (rw [hy110]; exact H) | exact H
  have Ny110 := Aside0.mk hy110
  clear hy110
  obtain rfl := Option.some.inj H
  go_enter Tryz.func123, Tryz.ntmps123
  go_wp2_with (first | ((with_reducible refine gate_dst (N := 35) rfl ?_); refine Kd.R_lit k107 _ 107 ?hg (N := 35) ?hd (xs := ([(⟨(⟨#[97, 112, 111, 115]⟩ : ByteArray), (⟨#[39]⟩ : ByteArray)⟩ : S107), (⟨(⟨#[104, 101, 108, 108, 105, 112]⟩ : ByteArray), (⟨#[226, 128, 166]⟩ : ByteArray)⟩ : S107), (⟨(⟨#[109, 100, 97, 115, 104]⟩ : ByteArray), (⟨#[226, 128, 148]⟩ : ByteArray)⟩ : S107), (⟨(⟨#[110, 100, 97, 115, 104]⟩ : ByteArray), (⟨#[226, 128, 147]⟩ : ByteArray)⟩ : S107), (⟨(⟨#[108, 115, 113, 117, 111]⟩ : ByteArray), (⟨#[226, 128, 152]⟩ : ByteArray)⟩ : S107), (⟨(⟨#[114, 115, 113, 117, 111]⟩ : ByteArray), (⟨#[226, 128, 153]⟩ : ByteArray)⟩ : S107), (⟨(⟨#[108, 100, 113, 117, 111]⟩ : ByteArray), (⟨#[226, 128, 156]⟩ : ByteArray)⟩ : S107), (⟨(⟨#[114, 100, 113, 117, 111]⟩ : ByteArray), (⟨#[226, 128, 157]⟩ : ByteArray)⟩ : S107), (⟨(⟨#[98, 117, 108, 108]⟩ : ByteArray), (⟨#[226, 128, 162]⟩ : ByteArray)⟩ : S107), (⟨(⟨#[101, 117, 114, 111]⟩ : ByteArray), (⟨#[226, 130, 172]⟩ : ByteArray)⟩ : S107), (⟨(⟨#[116, 114, 97, 100, 101]⟩ : ByteArray), (⟨#[226, 132, 162]⟩ : ByteArray)⟩ : S107), (⟨(⟨#[108, 97, 114, 114]⟩ : ByteArray), (⟨#[226, 134, 144]⟩ : ByteArray)⟩ : S107), (⟨(⟨#[114, 97, 114, 114]⟩ : ByteArray), (⟨#[226, 134, 146]⟩ : ByteArray)⟩ : S107), (⟨(⟨#[110, 111, 116, 105, 110]⟩ : ByteArray), (⟨#[226, 136, 137]⟩ : ByteArray)⟩ : S107), (⟨(⟨#[110, 111, 116, 110, 105]⟩ : ByteArray), (⟨#[226, 136, 140]⟩ : ByteArray)⟩ : S107), (⟨(⟨#[110, 101]⟩ : ByteArray), (⟨#[226, 137, 160]⟩ : ByteArray)⟩ : S107), (⟨(⟨#[108, 101]⟩ : ByteArray), (⟨#[226, 137, 164]⟩ : ByteArray)⟩ : S107), (⟨(⟨#[103, 101]⟩ : ByteArray), (⟨#[226, 137, 165]⟩ : ByteArray)⟩ : S107), (⟨(⟨#[97, 108, 112, 104, 97]⟩ : ByteArray), (⟨#[206, 177]⟩ : ByteArray)⟩ : S107), (⟨(⟨#[98, 101, 116, 97]⟩ : ByteArray), (⟨#[206, 178]⟩ : ByteArray)⟩ : S107), (⟨(⟨#[112, 105]⟩ : ByteArray), (⟨#[207, 128]⟩ : ByteArray)⟩ : S107), (⟨(⟨#[105, 110, 102, 105, 110]⟩ : ByteArray), (⟨#[226, 136, 158]⟩ : ByteArray)⟩ : S107), (⟨(⟨#[115, 117, 109]⟩ : ByteArray), (⟨#[226, 136, 145]⟩ : ByteArray)⟩ : S107), (⟨(⟨#[103, 116, 99, 99]⟩ : ByteArray), (⟨#[226, 170, 167]⟩ : ByteArray)⟩ : S107), (⟨(⟨#[108, 116, 105, 109, 101, 115]⟩ : ByteArray), (⟨#[226, 139, 137]⟩ : ByteArray)⟩ : S107), (⟨(⟨#[116, 105, 109, 101, 115, 98]⟩ : ByteArray), (⟨#[226, 138, 160]⟩ : ByteArray)⟩ : S107), (⟨(⟨#[78, 111, 116, 69, 113, 117, 97, 108, 84, 105, 108, 100, 101]⟩ : ByteArray), (⟨#[226, 137, 130, 204, 184]⟩ : ByteArray)⟩ : S107), (⟨(⟨#[84, 104, 105, 99, 107, 83, 112, 97, 99, 101]⟩ : ByteArray), (⟨#[226, 129, 159, 226, 128, 138]⟩ : ByteArray)⟩ : S107), (⟨(⟨#[102, 106, 108, 105, 103]⟩ : ByteArray), (⟨#[102, 106]⟩ : ByteArray)⟩ : S107), (⟨(⟨#[84, 97, 98]⟩ : ByteArray), (⟨#[9]⟩ : ByteArray)⟩ : S107), (⟨(⟨#[78, 101, 119, 76, 105, 110, 101]⟩ : ByteArray), (⟨#[10]⟩ : ByteArray)⟩ : S107), (⟨(⟨#[108, 98, 114, 97, 99, 101]⟩ : ByteArray), (⟨#[123]⟩ : ByteArray)⟩ : S107), (⟨(⟨#[110, 117, 109]⟩ : ByteArray), (⟨#[35]⟩ : ByteArray)⟩ : S107), (⟨(⟨#[115, 101, 109, 105]⟩ : ByteArray), (⟨#[59]⟩ : ByteArray)⟩ : S107)] : List (S107))) (inner := [.string (⟨#[97, 112, 111, 115]⟩ : ByteArray), .string (⟨#[39]⟩ : ByteArray), .string (⟨#[104, 101, 108, 108, 105, 112]⟩ : ByteArray), .string (⟨#[226, 128, 166]⟩ : ByteArray), .string (⟨#[109, 100, 97, 115, 104]⟩ : ByteArray), .string (⟨#[226, 128, 148]⟩ : ByteArray), .string (⟨#[110, 100, 97, 115, 104]⟩ : ByteArray), .string (⟨#[226, 128, 147]⟩ : ByteArray), .string (⟨#[108, 115, 113, 117, 111]⟩ : ByteArray), .string (⟨#[226, 128, 152]⟩ : ByteArray), .string (⟨#[114, 115, 113, 117, 111]⟩ : ByteArray), .string (⟨#[226, 128, 153]⟩ : ByteArray), .string (⟨#[108, 100, 113, 117, 111]⟩ : ByteArray), .string (⟨#[226, 128, 156]⟩ : ByteArray), .string (⟨#[114, 100, 113, 117, 111]⟩ : ByteArray), .string (⟨#[226, 128, 157]⟩ : ByteArray), .string (⟨#[98, 117, 108, 108]⟩ : ByteArray), .string (⟨#[226, 128, 162]⟩ : ByteArray), .string (⟨#[101, 117, 114, 111]⟩ : ByteArray), .string (⟨#[226, 130, 172]⟩ : ByteArray), .string (⟨#[116, 114, 97, 100, 101]⟩ : ByteArray), .string (⟨#[226, 132, 162]⟩ : ByteArray), .string (⟨#[108, 97, 114, 114]⟩ : ByteArray), .string (⟨#[226, 134, 144]⟩ : ByteArray), .string (⟨#[114, 97, 114, 114]⟩ : ByteArray), .string (⟨#[226, 134, 146]⟩ : ByteArray), .string (⟨#[110, 111, 116, 105, 110]⟩ : ByteArray), .string (⟨#[226, 136, 137]⟩ : ByteArray), .string (⟨#[110, 111, 116, 110, 105]⟩ : ByteArray), .string (⟨#[226, 136, 140]⟩ : ByteArray), .string (⟨#[110, 101]⟩ : ByteArray), .string (⟨#[226, 137, 160]⟩ : ByteArray), .string (⟨#[108, 101]⟩ : ByteArray), .string (⟨#[226, 137, 164]⟩ : ByteArray), .string (⟨#[103, 101]⟩ : ByteArray), .string (⟨#[226, 137, 165]⟩ : ByteArray), .string (⟨#[97, 108, 112, 104, 97]⟩ : ByteArray), .string (⟨#[206, 177]⟩ : ByteArray), .string (⟨#[98, 101, 116, 97]⟩ : ByteArray), .string (⟨#[206, 178]⟩ : ByteArray), .string (⟨#[112, 105]⟩ : ByteArray), .string (⟨#[207, 128]⟩ : ByteArray), .string (⟨#[105, 110, 102, 105, 110]⟩ : ByteArray), .string (⟨#[226, 136, 158]⟩ : ByteArray), .string (⟨#[115, 117, 109]⟩ : ByteArray), .string (⟨#[226, 136, 145]⟩ : ByteArray), .string (⟨#[103, 116, 99, 99]⟩ : ByteArray), .string (⟨#[226, 170, 167]⟩ : ByteArray), .string (⟨#[108, 116, 105, 109, 101, 115]⟩ : ByteArray), .string (⟨#[226, 139, 137]⟩ : ByteArray), .string (⟨#[116, 105, 109, 101, 115, 98]⟩ : ByteArray), .string (⟨#[226, 138, 160]⟩ : ByteArray), .string (⟨#[78, 111, 116, 69, 113, 117, 97, 108, 84, 105, 108, 100, 101]⟩ : ByteArray), .string (⟨#[226, 137, 130, 204, 184]⟩ : ByteArray), .string (⟨#[84, 104, 105, 99, 107, 83, 112, 97, 99, 101]⟩ : ByteArray), .string (⟨#[226, 129, 159, 226, 128, 138]⟩ : ByteArray), .string (⟨#[102, 106, 108, 105, 103]⟩ : ByteArray), .string (⟨#[102, 106]⟩ : ByteArray), .string (⟨#[84, 97, 98]⟩ : ByteArray), .string (⟨#[9]⟩ : ByteArray), .string (⟨#[78, 101, 119, 76, 105, 110, 101]⟩ : ByteArray), .string (⟨#[10]⟩ : ByteArray), .string (⟨#[108, 98, 114, 97, 99, 101]⟩ : ByteArray), .string (⟨#[123]⟩ : ByteArray), .string (⟨#[110, 117, 109]⟩ : ByteArray), .string (⟨#[35]⟩ : ByteArray), .string (⟨#[115, 101, 109, 105]⟩ : ByteArray), .string (⟨#[59]⟩ : ByteArray)]) (ok := fun _ => True) (okp := fun _ => True) ?hr ?hp (fun _ hk => hk) trivial (Below.refl _ _) (Nat.le_refl _) (by simp) ?_; (case hd => rfl); (case hg => rfl); (case hr => first | (go_simp; done) | (go_simp; rfl)); (case hp => exact (Reps.c2 (show Kd.M k107 _ _ _ (⟨(⟨#[97, 112, 111, 115]⟩ : ByteArray), (⟨#[39]⟩ : ByteArray)⟩ : S107) [.string (⟨#[97, 112, 111, 115]⟩ : ByteArray), .string (⟨#[39]⟩ : ByteArray)] from (k107_mkM _ _ _ (⟨(⟨#[97, 112, 111, 115]⟩ : ByteArray), (⟨#[39]⟩ : ByteArray)⟩ : S107) )) (Reps.c2 (show Kd.M k107 _ _ _ (⟨(⟨#[104, 101, 108, 108, 105, 112]⟩ : ByteArray), (⟨#[226, 128, 166]⟩ : ByteArray)⟩ : S107) [.string (⟨#[104, 101, 108, 108, 105, 112]⟩ : ByteArray), .string (⟨#[226, 128, 166]⟩ : ByteArray)] from (k107_mkM _ _ _ (⟨(⟨#[104, 101, 108, 108, 105, 112]⟩ : ByteArray), (⟨#[226, 128, 166]⟩ : ByteArray)⟩ : S107) )) (Reps.c2 (show Kd.M k107 _ _ _ (⟨(⟨#[109, 100, 97, 115, 104]⟩ : ByteArray), (⟨#[226, 128, 148]⟩ : ByteArray)⟩ : S107) [.string (⟨#[109, 100, 97, 115, 104]⟩ : ByteArray), .string (⟨#[226, 128, 148]⟩ : ByteArray)] from (k107_mkM _ _ _ (⟨(⟨#[109, 100, 97, 115, 104]⟩ : ByteArray), (⟨#[226, 128, 148]⟩ : ByteArray)⟩ : S107) )) (Reps.c2 (show Kd.M k107 _ _ _ (⟨(⟨#[110, 100, 97, 115, 104]⟩ : ByteArray), (⟨#[226, 128, 147]⟩ : ByteArray)⟩ : S107) [.string (⟨#[110, 100, 97, 115, 104]⟩ : ByteArray), .string (⟨#[226, 128, 147]⟩ : ByteArray)] from (k107_mkM _ _ _ (⟨(⟨#[110, 100, 97, 115, 104]⟩ : ByteArray), (⟨#[226, 128, 147]⟩ : ByteArray)⟩ : S107) )) (Reps.c2 (show Kd.M k107 _ _ _ (⟨(⟨#[108, 115, 113, 117, 111]⟩ : ByteArray), (⟨#[226, 128, 152]⟩ : ByteArray)⟩ : S107) [.string (⟨#[108, 115, 113, 117, 111]⟩ : ByteArray), .string (⟨#[226, 128, 152]⟩ : ByteArray)] from (k107_mkM _ _ _ (⟨(⟨#[108, 115, 113, 117, 111]⟩ : ByteArray), (⟨#[226, 128, 152]⟩ : ByteArray)⟩ : S107) )) (Reps.c2 (show Kd.M k107 _ _ _ (⟨(⟨#[114, 115, 113, 117, 111]⟩ : ByteArray), (⟨#[226, 128, 153]⟩ : ByteArray)⟩ : S107) [.string (⟨#[114, 115, 113, 117, 111]⟩ : ByteArray), .string (⟨#[226, 128, 153]⟩ : ByteArray)] from (k107_mkM _ _ _ (⟨(⟨#[114, 115, 113, 117, 111]⟩ : ByteArray), (⟨#[226, 128, 153]⟩ : ByteArray)⟩ : S107) )) (Reps.c2 (show Kd.M k107 _ _ _ (⟨(⟨#[108, 100, 113, 117, 111]⟩ : ByteArray), (⟨#[226, 128, 156]⟩ : ByteArray)⟩ : S107) [.string (⟨#[108, 100, 113, 117, 111]⟩ : ByteArray), .string (⟨#[226, 128, 156]⟩ : ByteArray)] from (k107_mkM _ _ _ (⟨(⟨#[108, 100, 113, 117, 111]⟩ : ByteArray), (⟨#[226, 128, 156]⟩ : ByteArray)⟩ : S107) )) (Reps.c2 (show Kd.M k107 _ _ _ (⟨(⟨#[114, 100, 113, 117, 111]⟩ : ByteArray), (⟨#[226, 128, 157]⟩ : ByteArray)⟩ : S107) [.string (⟨#[114, 100, 113, 117, 111]⟩ : ByteArray), .string (⟨#[226, 128, 157]⟩ : ByteArray)] from (k107_mkM _ _ _ (⟨(⟨#[114, 100, 113, 117, 111]⟩ : ByteArray), (⟨#[226, 128, 157]⟩ : ByteArray)⟩ : S107) )) (Reps.c2 (show Kd.M k107 _ _ _ (⟨(⟨#[98, 117, 108, 108]⟩ : ByteArray), (⟨#[226, 128, 162]⟩ : ByteArray)⟩ : S107) [.string (⟨#[98, 117, 108, 108]⟩ : ByteArray), .string (⟨#[226, 128, 162]⟩ : ByteArray)] from (k107_mkM _ _ _ (⟨(⟨#[98, 117, 108, 108]⟩ : ByteArray), (⟨#[226, 128, 162]⟩ : ByteArray)⟩ : S107) )) (Reps.c2 (show Kd.M k107 _ _ _ (⟨(⟨#[101, 117, 114, 111]⟩ : ByteArray), (⟨#[226, 130, 172]⟩ : ByteArray)⟩ : S107) [.string (⟨#[101, 117, 114, 111]⟩ : ByteArray), .string (⟨#[226, 130, 172]⟩ : ByteArray)] from (k107_mkM _ _ _ (⟨(⟨#[101, 117, 114, 111]⟩ : ByteArray), (⟨#[226, 130, 172]⟩ : ByteArray)⟩ : S107) )) (Reps.c2 (show Kd.M k107 _ _ _ (⟨(⟨#[116, 114, 97, 100, 101]⟩ : ByteArray), (⟨#[226, 132, 162]⟩ : ByteArray)⟩ : S107) [.string (⟨#[116, 114, 97, 100, 101]⟩ : ByteArray), .string (⟨#[226, 132, 162]⟩ : ByteArray)] from (k107_mkM _ _ _ (⟨(⟨#[116, 114, 97, 100, 101]⟩ : ByteArray), (⟨#[226, 132, 162]⟩ : ByteArray)⟩ : S107) )) (Reps.c2 (show Kd.M k107 _ _ _ (⟨(⟨#[108, 97, 114, 114]⟩ : ByteArray), (⟨#[226, 134, 144]⟩ : ByteArray)⟩ : S107) [.string (⟨#[108, 97, 114, 114]⟩ : ByteArray), .string (⟨#[226, 134, 144]⟩ : ByteArray)] from (k107_mkM _ _ _ (⟨(⟨#[108, 97, 114, 114]⟩ : ByteArray), (⟨#[226, 134, 144]⟩ : ByteArray)⟩ : S107) )) (Reps.c2 (show Kd.M k107 _ _ _ (⟨(⟨#[114, 97, 114, 114]⟩ : ByteArray), (⟨#[226, 134, 146]⟩ : ByteArray)⟩ : S107) [.string (⟨#[114, 97, 114, 114]⟩ : ByteArray), .string (⟨#[226, 134, 146]⟩ : ByteArray)] from (k107_mkM _ _ _ (⟨(⟨#[114, 97, 114, 114]⟩ : ByteArray), (⟨#[226, 134, 146]⟩ : ByteArray)⟩ : S107) )) (Reps.c2 (show Kd.M k107 _ _ _ (⟨(⟨#[110, 111, 116, 105, 110]⟩ : ByteArray), (⟨#[226, 136, 137]⟩ : ByteArray)⟩ : S107) [.string (⟨#[110, 111, 116, 105, 110]⟩ : ByteArray), .string (⟨#[226, 136, 137]⟩ : ByteArray)] from (k107_mkM _ _ _ (⟨(⟨#[110, 111, 116, 105, 110]⟩ : ByteArray), (⟨#[226, 136, 137]⟩ : ByteArray)⟩ : S107) )) (Reps.c2 (show Kd.M k107 _ _ _ (⟨(⟨#[110, 111, 116, 110, 105]⟩ : ByteArray), (⟨#[226, 136, 140]⟩ : ByteArray)⟩ : S107) [.string (⟨#[110, 111, 116, 110, 105]⟩ : ByteArray), .string (⟨#[226, 136, 140]⟩ : ByteArray)] from (k107_mkM _ _ _ (⟨(⟨#[110, 111, 116, 110, 105]⟩ : ByteArray), (⟨#[226, 136, 140]⟩ : ByteArray)⟩ : S107) )) (Reps.c2 (show Kd.M k107 _ _ _ (⟨(⟨#[110, 101]⟩ : ByteArray), (⟨#[226, 137, 160]⟩ : ByteArray)⟩ : S107) [.string (⟨#[110, 101]⟩ : ByteArray), .string (⟨#[226, 137, 160]⟩ : ByteArray)] from (k107_mkM _ _ _ (⟨(⟨#[110, 101]⟩ : ByteArray), (⟨#[226, 137, 160]⟩ : ByteArray)⟩ : S107) )) (Reps.c2 (show Kd.M k107 _ _ _ (⟨(⟨#[108, 101]⟩ : ByteArray), (⟨#[226, 137, 164]⟩ : ByteArray)⟩ : S107) [.string (⟨#[108, 101]⟩ : ByteArray), .string (⟨#[226, 137, 164]⟩ : ByteArray)] from (k107_mkM _ _ _ (⟨(⟨#[108, 101]⟩ : ByteArray), (⟨#[226, 137, 164]⟩ : ByteArray)⟩ : S107) )) (Reps.c2 (show Kd.M k107 _ _ _ (⟨(⟨#[103, 101]⟩ : ByteArray), (⟨#[226, 137, 165]⟩ : ByteArray)⟩ : S107) [.string (⟨#[103, 101]⟩ : ByteArray), .string (⟨#[226, 137, 165]⟩ : ByteArray)] from (k107_mkM _ _ _ (⟨(⟨#[103, 101]⟩ : ByteArray), (⟨#[226, 137, 165]⟩ : ByteArray)⟩ : S107) )) (Reps.c2 (show Kd.M k107 _ _ _ (⟨(⟨#[97, 108, 112, 104, 97]⟩ : ByteArray), (⟨#[206, 177]⟩ : ByteArray)⟩ : S107) [.string (⟨#[97, 108, 112, 104, 97]⟩ : ByteArray), .string (⟨#[206, 177]⟩ : ByteArray)] from (k107_mkM _ _ _ (⟨(⟨#[97, 108, 112, 104, 97]⟩ : ByteArray), (⟨#[206, 177]⟩ : ByteArray)⟩ : S107) )) (Reps.c2 (show Kd.M k107 _ _ _ (⟨(⟨#[98, 101, 116, 97]⟩ : ByteArray), (⟨#[206, 178]⟩ : ByteArray)⟩ : S107) [.string (⟨#[98, 101, 116, 97]⟩ : ByteArray), .string (⟨#[206, 178]⟩ : ByteArray)] from (k107_mkM _ _ _ (⟨(⟨#[98, 101, 116, 97]⟩ : ByteArray), (⟨#[206, 178]⟩ : ByteArray)⟩ : S107) )) (Reps.c2 (show Kd.M k107 _ _ _ (⟨(⟨#[112, 105]⟩ : ByteArray), (⟨#[207, 128]⟩ : ByteArray)⟩ : S107) [.string (⟨#[112, 105]⟩ : ByteArray), .string (⟨#[207, 128]⟩ : ByteArray)] from (k107_mkM _ _ _ (⟨(⟨#[112, 105]⟩ : ByteArray), (⟨#[207, 128]⟩ : ByteArray)⟩ : S107) )) (Reps.c2 (show Kd.M k107 _ _ _ (⟨(⟨#[105, 110, 102, 105, 110]⟩ : ByteArray), (⟨#[226, 136, 158]⟩ : ByteArray)⟩ : S107) [.string (⟨#[105, 110, 102, 105, 110]⟩ : ByteArray), .string (⟨#[226, 136, 158]⟩ : ByteArray)] from (k107_mkM _ _ _ (⟨(⟨#[105, 110, 102, 105, 110]⟩ : ByteArray), (⟨#[226, 136, 158]⟩ : ByteArray)⟩ : S107) )) (Reps.c2 (show Kd.M k107 _ _ _ (⟨(⟨#[115, 117, 109]⟩ : ByteArray), (⟨#[226, 136, 145]⟩ : ByteArray)⟩ : S107) [.string (⟨#[115, 117, 109]⟩ : ByteArray), .string (⟨#[226, 136, 145]⟩ : ByteArray)] from (k107_mkM _ _ _ (⟨(⟨#[115, 117, 109]⟩ : ByteArray), (⟨#[226, 136, 145]⟩ : ByteArray)⟩ : S107) )) (Reps.c2 (show Kd.M k107 _ _ _ (⟨(⟨#[103, 116, 99, 99]⟩ : ByteArray), (⟨#[226, 170, 167]⟩ : ByteArray)⟩ : S107) [.string (⟨#[103, 116, 99, 99]⟩ : ByteArray), .string (⟨#[226, 170, 167]⟩ : ByteArray)] from (k107_mkM _ _ _ (⟨(⟨#[103, 116, 99, 99]⟩ : ByteArray), (⟨#[226, 170, 167]⟩ : ByteArray)⟩ : S107) )) (Reps.c2 (show Kd.M k107 _ _ _ (⟨(⟨#[108, 116, 105, 109, 101, 115]⟩ : ByteArray), (⟨#[226, 139, 137]⟩ : ByteArray)⟩ : S107) [.string (⟨#[108, 116, 105, 109, 101, 115]⟩ : ByteArray), .string (⟨#[226, 139, 137]⟩ : ByteArray)] from (k107_mkM _ _ _ (⟨(⟨#[108, 116, 105, 109, 101, 115]⟩ : ByteArray), (⟨#[226, 139, 137]⟩ : ByteArray)⟩ : S107) )) (Reps.c2 (show Kd.M k107 _ _ _ (⟨(⟨#[116, 105, 109, 101, 115, 98]⟩ : ByteArray), (⟨#[226, 138, 160]⟩ : ByteArray)⟩ : S107) [.string (⟨#[116, 105, 109, 101, 115, 98]⟩ : ByteArray), .string (⟨#[226, 138, 160]⟩ : ByteArray)] from (k107_mkM _ _ _ (⟨(⟨#[116, 105, 109, 101, 115, 98]⟩ : ByteArray), (⟨#[226, 138, 160]⟩ : ByteArray)⟩ : S107) )) (Reps.c2 (show Kd.M k107 _ _ _ (⟨(⟨#[78, 111, 116, 69, 113, 117, 97, 108, 84, 105, 108, 100, 101]⟩ : ByteArray), (⟨#[226, 137, 130, 204, 184]⟩ : ByteArray)⟩ : S107) [.string (⟨#[78, 111, 116, 69, 113, 117, 97, 108, 84, 105, 108, 100, 101]⟩ : ByteArray), .string (⟨#[226, 137, 130, 204, 184]⟩ : ByteArray)] from (k107_mkM _ _ _ (⟨(⟨#[78, 111, 116, 69, 113, 117, 97, 108, 84, 105, 108, 100, 101]⟩ : ByteArray), (⟨#[226, 137, 130, 204, 184]⟩ : ByteArray)⟩ : S107) )) (Reps.c2 (show Kd.M k107 _ _ _ (⟨(⟨#[84, 104, 105, 99, 107, 83, 112, 97, 99, 101]⟩ : ByteArray), (⟨#[226, 129, 159, 226, 128, 138]⟩ : ByteArray)⟩ : S107) [.string (⟨#[84, 104, 105, 99, 107, 83, 112, 97, 99, 101]⟩ : ByteArray), .string (⟨#[226, 129, 159, 226, 128, 138]⟩ : ByteArray)] from (k107_mkM _ _ _ (⟨(⟨#[84, 104, 105, 99, 107, 83, 112, 97, 99, 101]⟩ : ByteArray), (⟨#[226, 129, 159, 226, 128, 138]⟩ : ByteArray)⟩ : S107) )) (Reps.c2 (show Kd.M k107 _ _ _ (⟨(⟨#[102, 106, 108, 105, 103]⟩ : ByteArray), (⟨#[102, 106]⟩ : ByteArray)⟩ : S107) [.string (⟨#[102, 106, 108, 105, 103]⟩ : ByteArray), .string (⟨#[102, 106]⟩ : ByteArray)] from (k107_mkM _ _ _ (⟨(⟨#[102, 106, 108, 105, 103]⟩ : ByteArray), (⟨#[102, 106]⟩ : ByteArray)⟩ : S107) )) (Reps.c2 (show Kd.M k107 _ _ _ (⟨(⟨#[84, 97, 98]⟩ : ByteArray), (⟨#[9]⟩ : ByteArray)⟩ : S107) [.string (⟨#[84, 97, 98]⟩ : ByteArray), .string (⟨#[9]⟩ : ByteArray)] from (k107_mkM _ _ _ (⟨(⟨#[84, 97, 98]⟩ : ByteArray), (⟨#[9]⟩ : ByteArray)⟩ : S107) )) (Reps.c2 (show Kd.M k107 _ _ _ (⟨(⟨#[78, 101, 119, 76, 105, 110, 101]⟩ : ByteArray), (⟨#[10]⟩ : ByteArray)⟩ : S107) [.string (⟨#[78, 101, 119, 76, 105, 110, 101]⟩ : ByteArray), .string (⟨#[10]⟩ : ByteArray)] from (k107_mkM _ _ _ (⟨(⟨#[78, 101, 119, 76, 105, 110, 101]⟩ : ByteArray), (⟨#[10]⟩ : ByteArray)⟩ : S107) )) (Reps.c2 (show Kd.M k107 _ _ _ (⟨(⟨#[108, 98, 114, 97, 99, 101]⟩ : ByteArray), (⟨#[123]⟩ : ByteArray)⟩ : S107) [.string (⟨#[108, 98, 114, 97, 99, 101]⟩ : ByteArray), .string (⟨#[123]⟩ : ByteArray)] from (k107_mkM _ _ _ (⟨(⟨#[108, 98, 114, 97, 99, 101]⟩ : ByteArray), (⟨#[123]⟩ : ByteArray)⟩ : S107) )) (Reps.c2 (show Kd.M k107 _ _ _ (⟨(⟨#[110, 117, 109]⟩ : ByteArray), (⟨#[35]⟩ : ByteArray)⟩ : S107) [.string (⟨#[110, 117, 109]⟩ : ByteArray), .string (⟨#[35]⟩ : ByteArray)] from (k107_mkM _ _ _ (⟨(⟨#[110, 117, 109]⟩ : ByteArray), (⟨#[35]⟩ : ByteArray)⟩ : S107) )) (Reps.c2 (show Kd.M k107 _ _ _ (⟨(⟨#[115, 101, 109, 105]⟩ : ByteArray), (⟨#[59]⟩ : ByteArray)⟩ : S107) [.string (⟨#[115, 101, 109, 105]⟩ : ByteArray), .string (⟨#[59]⟩ : ByteArray)] from (k107_mkM _ _ _ (⟨(⟨#[115, 101, 109, 105]⟩ : ByteArray), (⟨#[59]⟩ : ByteArray)⟩ : S107) )) (Reps.none _ _)))))))))))))))))))))))))))))))))))); intro v111 w1 ho2 hb hg_ hnew_; clear hg_ hnew_; (first | rw [← Ny110.out] at ho2 | (simp only [Int.reduceToNat] at ho2; rw [← Ny110.out] at ho2)); have n0_ := Aside0.mk (Kd.R_lower ho2 (below_size (by repeat (first | (with_reducible first | exact HB.out | apply below_alloc | apply pw_below_drewN | apply below_drew1) | exact HB.out)))); have n1_ := Aside0.mk (below_step (by repeat (first | (with_reducible first | exact HB.out | apply below_alloc | apply pw_below_drewN | apply below_drew1) | exact HB.out)) hb); clear HB; have HO112 := n0_; have HB := n1_; clear n0_ n1_; clear hb ho2))
  go_ret
  exact ⟨_, by first | rfl | (simp [errW_none, errW_some] <;> rfl) | (simp [*, errW_none, errW_some] <;> rfl), by (with_reducible repeat (first | apply Kd.R_alloc | apply Kd.R_drewN | apply Kd.R_drew)); exact HO112.out, by repeat (first | (with_reducible first | exact HB.out | apply below_alloc | apply pw_below_drewN | apply below_drew1) | exact HB.out)⟩
end Go.Proofs.YtoacojkmclngmaaGreatDoor.Pz
/-
  DERIVED: THE SHELF's CONTRACTS AT THIS DUMP, IN PLAIN WORDS (tools/lay-plain.mjs out of 'TryzShelfB.lean', which tools/lay-shelf.mjs wrote): THE SAME DECLARATIONS UNDER THE SAME NAMES: 'import', 'namespace', 'open', 'def', 'theorem' AND NOTHING ELSE: no command of the shelf's: FOR A HAND-IN. Each laying: the table of numbers ('.._ren') and one theorem, a field a fact of the dump's own or the kernel's comparison; each contract: ONE APPLICATION.
-/
namespace Go.Proofs
open Go.Shelf
def Tryz.sortEntry_ren : Go.Shelf.Ren := ⟨fun | 6 => 124 | 15 => 149 | 14 => 148 | 28 => 173 | 29 => 174 | 20 => 165 | 21 => 166 | 22 => 167 | 23 => 168 | 24 => 169 | 25 => 170 | 26 => 171 | 27 => 172 | 46 => 186 | 47 => 187 | 48 => 188 | 49 => 189 | 50 => 190 | 57 => 196 | n => n, fun | 22 => 108 | 24 => 107 | 25 => 138 | 3 => 3 | 39 => 157 | 0 => 0 | 53 => 158 | 55 => 141 | 4 => 4 | 46 => 166 | 45 => 165 | 50 => 91 | 5 => 5 | 9 => 9 | 66 => 185 | 70 => 189 | 76 => 192 | 77 => 104 | n => n, fun | n => n⟩
theorem Tryz.sortEntry : Go.Proofs.SlLaysF0.n6 Tryz.prog Tryz.sortEntry_ren := {
  mixed := by kernel_rfl
  f6 := ⟨Tryz.f124.name, by decide, Tryz.func124.trans (congrArg some (by kernel_rfl))⟩
  f14 := ⟨Tryz.f148.name, by decide, Tryz.func148.trans (congrArg some (by kernel_rfl))⟩
  f15 := Tryz.func149.trans (congrArg some (by kernel_rfl))
  f20 := ⟨Tryz.f165.name, by decide, Tryz.func165.trans (congrArg some (by kernel_rfl))⟩
  f21 := ⟨Tryz.f166.name, by decide, Tryz.func166.trans (congrArg some (by kernel_rfl))⟩
  f22 := ⟨Tryz.f167.name, by decide, Tryz.func167.trans (congrArg some (by kernel_rfl))⟩
  f23 := ⟨Tryz.f168.name, by decide, Tryz.func168.trans (congrArg some (by kernel_rfl))⟩
  f24 := ⟨Tryz.f169.name, by decide, Tryz.func169.trans (congrArg some (by kernel_rfl))⟩
  f25 := ⟨Tryz.f170.name, by decide, Tryz.func170.trans (congrArg some (by kernel_rfl))⟩
  f26 := ⟨Tryz.f171.name, by decide, Tryz.func171.trans (congrArg some (by kernel_rfl))⟩
  f27 := ⟨Tryz.f172.name, by decide, Tryz.func172.trans (congrArg some (by kernel_rfl))⟩
  f28 := Tryz.func173.trans (congrArg some (by kernel_rfl))
  f29 := Tryz.func174.trans (congrArg some (by kernel_rfl))
  f46 := ⟨Tryz.f186.name, by decide, Tryz.func186.trans (congrArg some (by kernel_rfl))⟩
  f47 := Tryz.func187.trans (congrArg some (by kernel_rfl))
  f48 := Tryz.func188.trans (congrArg some (by kernel_rfl))
  f49 := ⟨Tryz.f189.name, by decide, Tryz.func189.trans (congrArg some (by kernel_rfl))⟩
  f50 := ⟨Tryz.f190.name, by decide, Tryz.func190.trans (congrArg some (by kernel_rfl))⟩
  f57 := ⟨Tryz.f196.name, by decide, Tryz.func196.trans (congrArg some (by kernel_rfl))⟩
  t0 := Tryz.underlying0
  a0 := Tryz.isAgg0
  z0 := Tryz.sizeOf0
  v0 := Tryz.zeroValue0
  t3 := Tryz.underlying3
  a3 := Tryz.isAgg3
  z3 := Tryz.sizeOf3
  v3 := Tryz.zeroValue3
  t4 := Tryz.underlying4
  a4 := Tryz.isAgg4
  z4 := Tryz.sizeOf4
  v4 := Tryz.zeroValue4
  t5 := Tryz.underlying5
  a5 := Tryz.isAgg5
  z5 := Tryz.sizeOf5
  v5 := Tryz.zeroValue5
  t9 := Tryz.underlying9
  a9 := Tryz.isAgg9
  z9 := Tryz.sizeOf9
  v9 := Tryz.zeroValue9
  t22 := Tryz.underlying108
  a22 := Tryz.isAgg108
  z22 := Tryz.sizeOf108
  v22 := Tryz.zeroValue108
  t25 := Tryz.underlying138
  a25 := Tryz.isAgg138
  z25 := Tryz.sizeOf138
  v25 := Tryz.zeroValue138
  t39 := Tryz.underlying157
  a39 := Tryz.isAgg157
  z39 := Tryz.sizeOf157
  v39 := Tryz.zeroValue157
  t45 := Tryz.underlying165
  a45 := Tryz.isAgg165
  z45 := Tryz.sizeOf165
  v45 := Tryz.zeroValue165
  t46 := Tryz.underlying166
  a46 := Tryz.isAgg166
  z46 := Tryz.sizeOf166
  v46 := Tryz.zeroValue166
  t50 := Tryz.underlying91
  a50 := Tryz.isAgg91
  z50 := Tryz.sizeOf91
  v50 := Tryz.zeroValue91
  t53 := Tryz.underlying158
  a53 := Tryz.isAgg158
  z53 := Tryz.sizeOf158
  v53 := Tryz.zeroValue158
  t55 := Tryz.underlying141
  a55 := Tryz.isAgg141
  z55 := Tryz.sizeOf141
  v55 := Tryz.zeroValue141
  t66 := Tryz.underlying185
  a66 := Tryz.isAgg185
  z66 := Tryz.sizeOf185
  v66 := Tryz.zeroValue185
  t70 := Tryz.underlying189
  a70 := Tryz.isAgg189
  z70 := Tryz.sizeOf189
  v70 := Tryz.zeroValue189
  t76 := Tryz.underlying192
  a76 := Tryz.isAgg192
  z76 := Tryz.sizeOf192
  v76 := Tryz.zeroValue192
  t77 := Tryz.underlying104
  a77 := Tryz.isAgg104
  z77 := Tryz.sizeOf104
  v77 := Tryz.zeroValue104 }
def Tryz.growEntry_ren : Go.Shelf.Ren := ⟨fun | 4 => 147 | n => n, fun | 22 => 108 | 25 => 107 | 3 => 3 | 4 => 4 | 9 => 9 | 20 => 20 | 0 => 0 | n => n, fun | n => n⟩
theorem Tryz.growEntry : Go.Proofs.Lays8.n4 Tryz.prog Tryz.growEntry_ren := {
  mixed := by kernel_rfl
  f4 := ⟨Tryz.f147.name, by decide, Tryz.func147.trans (congrArg some (by kernel_rfl))⟩
  t0 := Tryz.underlying0
  a0 := Tryz.isAgg0
  z0 := Tryz.sizeOf0
  v0 := Tryz.zeroValue0
  t3 := Tryz.underlying3
  a3 := Tryz.isAgg3
  z3 := Tryz.sizeOf3
  v3 := Tryz.zeroValue3
  t4 := Tryz.underlying4
  a4 := Tryz.isAgg4
  z4 := Tryz.sizeOf4
  v4 := Tryz.zeroValue4
  t9 := Tryz.underlying9
  a9 := Tryz.isAgg9
  z9 := Tryz.sizeOf9
  v9 := Tryz.zeroValue9
  t20 := Tryz.underlying20
  a20 := Tryz.isAgg20
  z20 := Tryz.sizeOf20
  v20 := Tryz.zeroValue20
  t22 := Tryz.underlying108
  a22 := Tryz.isAgg108
  z22 := Tryz.sizeOf108
  v22 := Tryz.zeroValue108 }
end Go.Proofs
namespace Go.Proofs.YtoacojkmclngmaaGreatDoor.Pz
open Go.RowKit Go.Proofs.YtoacojkmclngmaaGreatDoorW.PrintWords Go.Proofs.YtoacojkmclngmaaGreatDoorW.PrintLast Go.Proofs.YtoacojkmclngmaaGreatDoorW.PrintMore
attribute [local go_sem] max2_int min2_int max_two min_two max_three min_three max_four min_four   -- for this text's walks alone
attribute [local go_sem] rune_str
set_option linter.unusedVariables false
set_option linter.unusedSimpArgs false
section
open Go.Shelf Go.RowKit Go.Lib Go.Sort
theorem bl_eq : ∀ (x y : List UInt8), Op.bytesLess x y = decide (x < y)
  | [], [] => by simp [Op.bytesLess]
  | _ :: _, [] => by simp [Op.bytesLess]
  | [], _ :: _ => by simp [Op.bytesLess]
  | a :: x, b :: y => by
    rw [Op.bytesLess, bl_eq x y]
    simp only [List.cons_lt_cons_iff]
    by_cases h1 : a < b <;> by_cases h2 : a = b <;> by_cases h3 : x < y <;> simp [h1, h2, h3]
def nameCmp (x y : S107) : Int := if Op.bytesLess x.f0.toList y.f0.toList = true then -1 else if (!Op.bytesLess x.f0.toList y.f0.toList && !(x.f0.toList == y.f0.toList)) = true then 1 else 0
theorem lt_name (x y : S107) : ltOf nameCmp x y = decide (x.f0.toList < y.f0.toList) := by
  unfold ltOf nameCmp
  rw [← bl_eq]
  cases Op.bytesLess x.f0.toList y.f0.toList with
  | true => simp
  | false =>
    by_cases h : x.f0.toList = y.f0.toList <;> simp [h]
theorem swoName : SWO (ltOf nameCmp) where
  irrefl x := by rw [lt_name]; simp [List.lt_irrefl]
  trans x y z h1 h2 := by rw [lt_name] at *; simp only [decide_eq_true_eq] at *; exact List.lt_trans h1 h2
  ntrans x y z h1 h2 := by rw [lt_name] at *; simp only [decide_eq_false_iff_not, List.not_lt] at *; exact List.le_trans h2 h1
set_option maxHeartbeats 1000000 in
theorem cmpNaN_same (a : ByteArray) (w : World) : Calls Tryz.prog 150 #[.string a] w fun e w' => e = .returned (.bool false) ∧ w = w' := by
  go_enter Tryz.func150, Tryz.ntmps150
  go_wp2
  go_ret
  exact ⟨by simp, rfl⟩
set_option maxHeartbeats 1000000 in
theorem cmpS_same (a b : ByteArray) (w : World) : Calls Tryz.prog 126 #[.string a, .string b] w fun e w' => e = .returned (.int .i64 (nameCmp ⟨a, ByteArray.empty⟩ ⟨b, ByteArray.empty⟩)) ∧ w = w' := by
  unfold nameCmp
  cases hl : Op.bytesLess a.toList b.toList <;> cases hg : (a.toList == b.toList) <;>
  · have hg1 := Aside0.mk hg
    go_enter Tryz.func126, Tryz.ntmps126
    go_wp2_with (first | (go_at_call 150; (with_reducible refine (cmpNaN_same _ _).mono ?_); rintro e w2 ⟨rfl, rfl⟩))
    go_ret
    exact ⟨by simp, rfl⟩
instance : Inhabited S107 := ⟨z107⟩
def enc107 (x : S107) : List Value := [.string x.f0, .string x.f1]
set_option maxHeartbeats 1000000 in
theorem cmpE_grow (x y : S107) (W : World) : Calls Tryz.prog 125 #[.agg #[.string x.f0, .string x.f1], .agg #[.string y.f0, .string y.f1]] W fun e w' => e = .returned (.int .i64 (nameCmp x y)) ∧ ∃ q os', w' = grow (W.drewN q) os' := by
  have hcon := fun W' => cmpS_same x.f0 y.f0 W'
  have e : nameCmp ⟨x.f0, ByteArray.empty⟩ ⟨y.f0, ByteArray.empty⟩ = nameCmp x y := rfl
  rw [e] at hcon
  clear e
  generalize nameCmp x y = r at hcon ⊢
  go_enter Tryz.func125, Tryz.ntmps125
  go_wp2_with (go_at_call 126; refine (hcon _).mono ?_; rintro e w' ⟨rfl, rfl⟩)
  go_ret
  exact ⟨rfl, 0, _, by rw [alloc_eq_grow, alloc_eq_grow, grow_grow]; rfl⟩
theorem cmpE_lays (blk off size : Nat) (w : World) : CmpLays Tryz.prog 125 #[] enc107 2 nameCmp blk off size w := fun _ _ _ _ x y => cmpE_grow x y _
def cellsE (l : List S107) : List Value := l.flatMap enc107
theorem cellsE_length : ∀ l, (cellsE l).length = l.length * 2
  | [] => rfl
  | x :: l => by
    have := cellsE_length l
    unfold cellsE at *
    rw [List.flatMap_cons, List.length_append, this]
    simp [enc107]; omega
theorem reps_cellsE {W : World} {base : Nat} {ok : Nat → Prop} : ∀ (l : List S107) (cs : List Value), Reps (k107.M W base ok) 2 l cs → cs = cellsE l
  | [], cs, h => List.eq_nil_of_length_eq_zero (by simpa using h.1)
  | x :: l, cs, h => by
    have h0 := k107_openM (h.2 0 x rfl)
    simp only [Nat.zero_mul, List.drop_zero] at h0
    have hl : Reps (k107.M W base ok) 2 l (cs.drop 2) := by
      refine ⟨by rw [List.length_drop, h.1]; simp; omega, fun j p hp => ?_⟩
      have := h.2 (j + 1) p (by simpa using hp)
      rw [List.drop_drop, show 2 + j * 2 = (j + 1) * 2 by omega]
      exact this
    rw [← List.take_append_drop 2 cs, h0, reps_cellsE l _ hl]
    rfl
theorem cellsE_one (l : List S107) : ∀ u ∈ cellsE l, u.oneCell' = true := by
  intro u hu
  unfold cellsE at hu
  obtain ⟨x, _, hx⟩ := List.mem_flatMap.1 hu
  simp only [enc107, List.mem_cons, List.not_mem_nil, or_false] at hx
  rcases hx with rfl | rfl <;> rfl
theorem below_add {n0 g j : Nat} {w wr : World} {u : Value} (hb : Below n0 w wr) (h : g < n0) (hc : w.cell? ((⟨g, 0, none⟩ : Addr).add j) = some u) : wr.cell? ((⟨g, 0, none⟩ : Addr).add j) = some u := by
  rw [add_plain] at *
  exact (hb.cell (p := ⟨g, j, none⟩) h).trans hc
set_option maxHeartbeats 4000000 in
set_option maxRecDepth 100000 in
theorem Concat_calls (w : World) (g g1 g2 g3 n1 n2 n3 c1 c2 c3 : Nat) (x1 x2 x3 : List Value)
    (h0 : w.cell? ⟨g, 0, none⟩ = some (.slice (some ⟨g1, 0, none⟩) n1 c1)) (h1 : w.cell? ⟨g, 1, none⟩ = some (.slice (some ⟨g2, 0, none⟩) n2 c2)) (h2 : w.cell? ⟨g, 2, none⟩ = some (.slice (some ⟨g3, 0, none⟩) n3 c3))
    (r1 : ∀ j u, x1[j]? = some u → w.cell? ((⟨g1, 0, none⟩ : Addr).add j) = some u) (r2 : ∀ j u, x2[j]? = some u → w.cell? ((⟨g2, 0, none⟩ : Addr).add j) = some u) (r3 : ∀ j u, x3[j]? = some u → w.cell? ((⟨g3, 0, none⟩ : Addr).add j) = some u)
    (l1 : x1.length = n1 * 2) (l2 : x2.length = n2 * 2) (l3 : x3.length = n3 * 2) (o1 : ∀ u ∈ x1, u.oneCell' = true) (o2 : ∀ u ∈ x2, u.oneCell' = true) (o3 : ∀ u ∈ x3, u.oneCell' = true)
    (b0 : g < w.heap.size) (b1 : g1 < w.heap.size) (b2 : g2 < w.heap.size) (b3 : g3 < w.heap.size) (hn : 0 < n1 + n2 + n3) (hb : n1 + n2 + n3 ≤ 100000) :
    Calls Tryz.prog 120 #[.slice (some ⟨g, 0, none⟩) 3 3] w fun e w' => ∃ v, e = .returned v ∧ w'.ownsRow w.heap.size 107 2 v (n1 + n2 + n3) (x1 ++ x2 ++ x3) ∧ Below w.heap.size w w' := by
  obtain ⟨i0, hi, hz0, hz1, hz2⟩ := info_parts info107
  have hgrw := Any8.slices_Grow_grow Tryz.growEntry i0 (.agg #[.string ⟨#[]⟩, .string ⟨#[]⟩]) hi hz0 (by rw [hz1]; decide) none 0 0 (n1 + n2 + n3) [] w (Nat.le_refl _) (by omega) (by rw [hz2]; omega) (by omega) (by simp) (fun _ => rfl) (fun a ha => by cases ha)
  change Calls Tryz.prog 147 _ _ _ at hgrw
  rw [show (((n1 + n2 + n3 : Nat)) : Int) = (n1 : Int) + (n2 : Int) + (n3 : Int) by omega] at hgrw
  have hgr2 := hgrw.mono (R' := fun e w' => ∃ cap, e = .returned (.slice (some ⟨w.heap.size, 0, none⟩) 0 cap) ∧ w'.ownsRow w.heap.size 107 2 (.slice (some ⟨w.heap.size, 0, none⟩) 0 cap) 0 [] ∧ Below w.heap.size w w') (by
    rintro e w' ⟨rfl, rfl⟩
    have hge := grownCap_ge w (0 + (n1 + n2 + n3)) 0 107
    have hle := grownCap_le_maxLen w (0 + (n1 + n2 + n3)) 0 107 (by unfold maxLen; omega)
    refine ⟨_, rfl, World.ownsRow_made (w := w.drew) _ _ (Nat.le_refl _) hle ?_, below_alloc (below_drew1 (Below.refl _ _)) _⟩
    rw [Array.size_append, Array.size_append, size_zeroCells, size_zeroCells]
    change 0 + (0 + (n1 + n2 + n3) - 0) * 2 + (grownCap w (0 + (n1 + n2 + n3)) 0 107 - (0 + (n1 + n2 + n3))) * 2 = grownCap w (0 + (n1 + n2 + n3)) 0 107 * 2
    omega)
  have HG := Aside0.mk hgr2
  clear hgr2
  have HI := Aside0.mk (And.intro hi (And.intro hz0 (And.intro hz1 hz2)))
  have HR := Aside0.mk (And.intro r1 (And.intro r2 r3))
  have HO := Aside0.mk (And.intro o1 (And.intro o2 o3))
  have HL := Aside0.mk (And.intro l1 (And.intro l2 l3))
  have HB := Aside0.mk (And.intro b1 (And.intro b2 b3))
  clear hgrw hi hz0 hz1 hz2 r1 r2 r3 o1 o2 o3 l1 l2 l3
  have hp1 : (0 : Int) + (n1 : Int) = ((n1 : Nat) : Int) := by omega
  have hw1 : wrap64 ((n1 : Int) + (n2 : Int)) = ((n1 + n2 : Nat) : Int) := by unfold wrap64; omega
  have hw2 : wrap64 (((n1 : Int) + (n2 : Int)) + (n3 : Int)) = ((n1 + n2 + n3 : Nat) : Int) := by unfold wrap64; omega
  go_enter Tryz.func120, Tryz.ntmps120
  go_wp2
  go_loopg [11, 3] 3 (fun kq v11 v3 wr => kq ≤ 3 ∧ (kq = 3 → v11 = .int .i64 0 ∧ v3 = .int .i64 0) ∧ (kq = 2 → v11 = .int .i64 1 ∧ v3 = .int .i64 (n1 : Int)) ∧ (kq = 1 → v11 = .int .i64 2 ∧ v3 = .int .i64 ((n1 : Int) + (n2 : Int))) ∧ (kq = 0 → v11 = .int .i64 3 ∧ v3 = .int .i64 ((n1 : Int) + (n2 : Int) + (n3 : Int))) ∧ w = wr)
  case atStart => exact ⟨Nat.le_refl _, fun _ => ⟨rfl, rfl⟩, fun h => absurd h (by decide), fun h => absurd h (by decide), fun h => absurd h (by decide), rfl⟩
  case round =>
    obtain ⟨hk, e3, e2, e1, e0, rfl⟩ := hrel
    rcases (show gk = 3 ∨ gk = 2 ∨ gk = 1 ∨ gk = 0 by omega) with rfl | rfl | rfl | rfl
    · obtain ⟨rfl, rfl⟩ := e3 rfl
      clear e0 e1 e2 e3
      go_wp2
      go_roundg 2
      case measure => omega
      case rel => exact ⟨by omega, fun h => absurd h (by decide), fun _ => ⟨by go_num, by go_num⟩, fun h => absurd h (by decide), fun h => absurd h (by decide), rfl⟩
    · obtain ⟨rfl, rfl⟩ := e2 rfl
      clear e0 e1 e2 e3
      go_wp2
      go_roundg 1
      case measure => omega
      case rel => exact ⟨by omega, fun h => absurd h (by decide), fun h => absurd h (by decide), fun _ => ⟨by go_num, by go_num⟩, fun h => absurd h (by decide), rfl⟩
    · obtain ⟨rfl, rfl⟩ := e1 rfl
      clear e0 e1 e2 e3
      go_wp2
      go_roundg 0
      case measure => omega
      case rel => exact ⟨by omega, fun h => absurd h (by decide), fun h => absurd h (by decide), fun h => absurd h (by decide), fun _ => ⟨by go_num, by go_num⟩, rfl⟩
    · obtain ⟨rfl, rfl⟩ := e0 rfl
      clear e0 e1 e2 e3
      go_wp2_with (first | (go_at_call 147; (with_reducible refine HG.out.mono ?_); rintro e w1 ⟨cap0, rfl, hown, hbel⟩; have HW := Aside0.mk hown; have HB1 := Aside0.mk hbel; clear hown hbel))
      clear HG
      go_loopg [27, 6] 3 (fun kq v27 v6 wr => kq ≤ 3 ∧ (kq = 3 → v27 = .int .i64 0 ∧ Aside0 (wr.ownsRow w.heap.size 107 2 v6 (0) ([]))) ∧ (kq = 2 → v27 = .int .i64 1 ∧ Aside0 (wr.ownsRow w.heap.size 107 2 v6 (n1) (x1))) ∧ (kq = 1 → v27 = .int .i64 2 ∧ Aside0 (wr.ownsRow w.heap.size 107 2 v6 (n1 + n2) (x1 ++ x2))) ∧ (kq = 0 → v27 = .int .i64 3 ∧ Aside0 (wr.ownsRow w.heap.size 107 2 v6 (n1 + n2 + n3) (x1 ++ x2 ++ x3)))  ∧ Aside0 (Below w.heap.size w wr))
      case atStart => exact ⟨Nat.le_refl _, fun _ => ⟨rfl, HW⟩, fun h => absurd h (by decide), fun h => absurd h (by decide), fun h => absurd h (by decide), HB1⟩
      case round =>
        obtain ⟨hk, e3, e2, e1, e0, HB2⟩ := hrel
        have hd0 := (HB2.out.cell (p := ⟨g, 0, none⟩) b0).trans h0
        have hd1 := (HB2.out.cell (p := ⟨g, 1, none⟩) b0).trans h1
        have hd2 := (HB2.out.cell (p := ⟨g, 2, none⟩) b0).trans h2
        rcases (show gk = 3 ∨ gk = 2 ∨ gk = 1 ∨ gk = 0 by omega) with rfl | rfl | rfl | rfl
        · obtain ⟨rfl, HW2⟩ := e3 rfl
          clear e0 e1 e2 e3 HW
          obtain ⟨A6, c6, hv6⟩ := own_slice HW2.out
          subst hv6
          go_wp2_with (first | ((with_reducible refine gate_builtin (b := .append) (xs := #[.tmp 31, .tmp 32]) rfl ?_); at_builtin; refine wpList_append_own_at _ rfl _ _ 108 rfl w.heap.size 107 i0 (.agg #[.string ⟨#[]⟩, .string ⟨#[]⟩]) 2 32 Tryz.underlying108 HI.out.1 HI.out.2.1 HI.out.2.2.1 HI.out.2.2.2 rfl (by decide) _ _ _ rfl HW2.out ⟨g1, 0, none⟩ n1 c1 x1 rfl HL.out.1 (fun j u hj => below_add HB2.out HB.out.1 (HR.out.1 j u hj)) HO.out.1 (by unfold maxLen; omega) (by omega) HB2.out.size ?_; intro v' w3 hown' hgrow hnil hat; have HW3 := Aside0.mk hown'; have HB3 := Aside0.mk (HB2.out.grown hgrow HB2.out.size (fun k hk => own_base HW2.out k hk)); clear hown' hgrow hnil hat))
          go_roundg 2
          case measure => omega
          case rel => exact ⟨by omega, fun h => absurd h (by decide), fun _ => ⟨by go_num, ⟨by simpa using HW3.out⟩⟩, fun h => absurd h (by decide), fun h => absurd h (by decide), HB3⟩
        · obtain ⟨rfl, HW2⟩ := e2 rfl
          clear e0 e1 e2 e3 HW
          obtain ⟨A6, c6, hv6⟩ := own_slice HW2.out
          subst hv6
          go_wp2_with (first | ((with_reducible refine gate_builtin (b := .append) (xs := #[.tmp 31, .tmp 32]) rfl ?_); at_builtin; refine wpList_append_own_at _ rfl _ _ 108 rfl w.heap.size 107 i0 (.agg #[.string ⟨#[]⟩, .string ⟨#[]⟩]) 2 32 Tryz.underlying108 HI.out.1 HI.out.2.1 HI.out.2.2.1 HI.out.2.2.2 rfl (by decide) _ _ _ rfl HW2.out ⟨g2, 0, none⟩ n2 c2 x2 rfl HL.out.2.1 (fun j u hj => below_add HB2.out HB.out.2.1 (HR.out.2.1 j u hj)) HO.out.2.1 (by unfold maxLen; omega) (by omega) HB2.out.size ?_; intro v' w3 hown' hgrow hnil hat; have HW3 := Aside0.mk hown'; have HB3 := Aside0.mk (HB2.out.grown hgrow HB2.out.size (fun k hk => own_base HW2.out k hk)); clear hown' hgrow hnil hat))
          go_roundg 1
          case measure => omega
          case rel => exact ⟨by omega, fun h => absurd h (by decide), fun h => absurd h (by decide), fun _ => ⟨by go_num, ⟨by simpa using HW3.out⟩⟩, fun h => absurd h (by decide), HB3⟩
        · obtain ⟨rfl, HW2⟩ := e1 rfl
          clear e0 e1 e2 e3 HW
          obtain ⟨A6, c6, hv6⟩ := own_slice HW2.out
          subst hv6
          go_wp2_with (first | ((with_reducible refine gate_builtin (b := .append) (xs := #[.tmp 31, .tmp 32]) rfl ?_); at_builtin; refine wpList_append_own_at _ rfl _ _ 108 rfl w.heap.size 107 i0 (.agg #[.string ⟨#[]⟩, .string ⟨#[]⟩]) 2 32 Tryz.underlying108 HI.out.1 HI.out.2.1 HI.out.2.2.1 HI.out.2.2.2 rfl (by decide) _ _ _ rfl HW2.out ⟨g3, 0, none⟩ n3 c3 x3 rfl HL.out.2.2 (fun j u hj => below_add HB2.out HB.out.2.2 (HR.out.2.2 j u hj)) HO.out.2.2 (by unfold maxLen; omega) (by omega) HB2.out.size ?_; intro v' w3 hown' hgrow hnil hat; have HW3 := Aside0.mk hown'; have HB3 := Aside0.mk (HB2.out.grown hgrow HB2.out.size (fun k hk => own_base HW2.out k hk)); clear hown' hgrow hnil hat))
          go_roundg 0
          case measure => omega
          case rel => exact ⟨by omega, fun h => absurd h (by decide), fun h => absurd h (by decide), fun h => absurd h (by decide), fun _ => ⟨by go_num, ⟨by simpa using HW3.out⟩⟩, HB3⟩
        · obtain ⟨rfl, HW2⟩ := e0 rfl
          clear e0 e1 e2 e3
          go_wp2
          go_ret
          exact ⟨_, rfl, HW2.out, HB2.out⟩
def bareL : List S107 := entity_bare.f.getD []
def closedL : List S107 := entity_closed.f.getD []
def withB : List S107 := (entity_with.f 200 bareL).getD []
def withC : List S107 := (entity_with.f 200 closedL).getD []
def insE (x : S107) : List S107 → List S107
  | [] => [x]
  | y :: l => if Op.bytesLess x.f0.toList y.f0.toList then x :: y :: l else y :: insE x l
def all0 : List S107 := bareL ++ withB ++ withC
def allV : List S107 := all0.foldr insE []
theorem bare_eq : entity_bare.f = some bareL := rfl
theorem closed_eq : entity_closed.f = some closedL := rfl
theorem withB_eq : entity_with.f 200 bareL = some withB := by kernel_rfl
theorem withC_eq : entity_with.f 200 closedL = some withC := by kernel_rfl
theorem bare_len : bareL.length = 50 := by kernel_rfl
theorem closed_len : closedL.length = 34 := by kernel_rfl
theorem withB_len : withB.length = 50 := by kernel_rfl
theorem withC_len : withC.length = 34 := by kernel_rfl
def ascE : List S107 → Bool
  | [] => true
  | [_] => true
  | x :: y :: l => Op.bytesLess x.f0.toList y.f0.toList && ascE (y :: l)
theorem allV_asc : ascE allV = true := by kernel_rfl
theorem insE_perm (x : S107) : ∀ l, (insE x l).Perm (x :: l)
  | [] => List.Perm.refl _
  | y :: l => by
    unfold insE
    split
    · exact List.Perm.refl _
    · exact ((insE_perm x l).cons y).trans (List.Perm.swap x y l)
theorem sort_perm : ∀ l : List S107, (l.foldr insE []).Perm l
  | [] => List.Perm.refl _
  | x :: l => (insE_perm x _).trans ((sort_perm l).cons x)
theorem ascE_pairwise : ∀ l : List S107, ascE l = true → l.Pairwise (fun x y => x.f0.toList < y.f0.toList)
  | [], _ => .nil
  | [x], _ => List.pairwise_singleton _ _
  | x :: y :: l, h => by
    unfold ascE at h
    rw [Bool.and_eq_true, bl_eq, decide_eq_true_eq] at h
    have ih := ascE_pairwise (y :: l) h.2
    refine List.Pairwise.cons ?_ ih
    intro z hz
    rcases List.mem_cons.1 hz with rfl | hz
    · exact h.1
    · exact List.lt_trans h.1 ((List.pairwise_cons.1 ih).1 z hz)
theorem all_unique (d : Array S107) (hp : PermIn 0 all0.toArray.size all0.toArray d) (hs : SortedIn (ltOf nameCmp) 0 all0.toArray.size d) : d = allV.toArray := by
  have hsz := hp.1
  have hpl : d.toList.Perm all0 := by
    have h2 := hp.2.2
    have e1 : d.extract 0 all0.toArray.size = d := by rw [← hsz]; simp
    have e2 : all0.toArray.extract 0 all0.toArray.size = all0.toArray := by simp
    rw [e1, e2] at h2
    simpa using h2
  have hva := sort_perm all0
  have hpw := ascE_pairwise allV allV_asc
  have hd : d.toList.Pairwise (fun x y => ¬ y.f0.toList < x.f0.toList) := by
    rw [List.pairwise_iff_getElem]
    intro i j hi hj hij
    rw [Array.length_toList] at hi hj
    have := hs i j (Nat.zero_le _) hij (by omega)
    rw [lt_name, decide_eq_false_iff_not, getElem!_pos d i hi, getElem!_pos d j hj] at this
    simpa using this
  have hv : allV.Pairwise (fun x y => ¬ y.f0.toList < x.f0.toList) := hpw.imp (fun h h2 => List.lt_irrefl _ (List.lt_trans h h2))
  have he : d.toList = allV := by
    refine List.Perm.eq_of_pairwise (le := fun x y => ¬ y.f0.toList < x.f0.toList) ?_ hd hv (hpl.trans hva.symm)
    intro a b ha hb h1 h2
    have ha' : a ∈ allV := hva.symm.mem_iff.1 (hpl.mem_iff.1 ha)
    obtain ⟨i, hi, rfl⟩ := List.getElem_of_mem ha'
    obtain ⟨j, hj, rfl⟩ := List.getElem_of_mem hb
    rcases Nat.lt_trichotomy i j with h | h | h
    · exact absurd (List.pairwise_iff_getElem.1 hpw i j hi hj h) h2
    · subst h; rfl
    · exact absurd (List.pairwise_iff_getElem.1 hpw j i hj hi h) h1
  rw [← he]
theorem allV_len : allV.length = 134 := by kernel_rfl
theorem cellsE_get : ∀ (l : List S107) (j : Nat), j < l.length * 2 → (cellsE l)[j]? = some ((enc107 (l.toArray[j / 2]!))[j % 2]!)
  | [], j, h => absurd h (by simp)
  | x :: l, 0, h => by simp [cellsE, enc107]
  | x :: l, 1, h => by simp [cellsE, enc107]
  | x :: l, j + 2, h => by
    have ih := cellsE_get l j (by simp at h; omega)
    have e1 : cellsE (x :: l) = .string x.f0 :: .string x.f1 :: cellsE l := rfl
    have e2 : (j + 2) / 2 = j / 2 + 1 := by omega
    have e3 : (j + 2) % 2 = j % 2 := by omega
    rw [e1, List.getElem?_cons_succ, List.getElem?_cons_succ, ih, e2, e3]
    simp
theorem holds_of_row {W : World} {base g c : Nat} {l : List S107} (h : W.ownsRow base 107 2 (.slice (some ⟨g, 0, none⟩) l.length c) l.length (cellsE l)) (hl : 0 < l.length) : HoldsK enc107 2 W g 0 l.toArray := by
  intro j hj
  rw [size_flatK] at hj
  have hj2 : j < l.length * 2 := by simpa using hj
  have hc := h.cells (g := g) rfl j _ (cellsE_get l j hj2)
  rw [add_plain] at hc
  rw [get_flatK _ _ _ _ hj]
  refine ⟨by simpa using hc, ?_⟩
  rcases h.2 with ⟨he, _⟩ | ⟨g', c', cur, he, _, hg, _⟩
  · cases he
  · cases he
    exact blk_frozen hg _
theorem sort_grown {w : World} {g n : Nat} {os : Array Obj} (d : Array S107) : w.grownBy (sortWorldK enc107 2 w g 0 n d os) (some g) := by
  refine ⟨rfl, rfl, rfl, by simp [sortWorldK, putRowK], fun k hk hne => ?_⟩
  unfold sortWorldK
  rw [heap_grow_old _ _ (by simpa [putRowK] using hk)]
  have : g ≠ k := fun e => hne (by rw [e])
  simp [putRowK, putRow, mapBlock, Sort.ahead, Array.getElem?_modify, this]
theorem row_some {W : World} {base : Nat} {e : TypeId} {size n : Nat} {v : Value} {xs : List Value} (h : W.ownsRow base e size v n xs) (hn : 0 < n) :
    ∃ g c, v = .slice (some ⟨g, 0, none⟩) n c ∧ base ≤ g ∧ g < W.heap.size ∧ (∀ j u, xs[j]? = some u → W.cell? ((⟨g, 0, none⟩ : Addr).add j) = some u) := by
  rcases h.2 with ⟨_, rfl⟩ | ⟨g, c, cur, rfl, hb, hg, _⟩
  · omega
  · exact ⟨g, c, rfl, hb, (Array.getElem?_eq_some_iff.1 hg).1, h.cells rfl⟩
structure ERow (base : Nat) (l : List S107) (W : World) (g c : Nat) : Prop where
  own : W.ownsRow base 107 2 (.slice (some ⟨g, 0, none⟩) l.length c) l.length (cellsE l)
  lt : g < W.heap.size
  ge : base ≤ g
theorem ERow.below {base : Nat} {l : List S107} {W W1 : World} {g c : Nat} (h : ERow base l W g c) (hb : Below W.heap.size W W1) : ERow base l W1 g c := ⟨pw_own_below h.own hb, Nat.lt_of_lt_of_le h.lt hb.size, h.ge⟩
theorem ERow.of {base : Nat} {l : List S107} {W : World} {ok : Nat → Prop} {v : Value} (h : Kd.R k107 107 W base ok v l) (hl : 0 < l.length) : ∃ g c, v = .slice (some ⟨g, 0, none⟩) l.length c ∧ ERow base l W g c := by
  obtain ⟨_, inner, ho, hr⟩ := h
  obtain rfl := reps_cellsE l inner hr
  obtain ⟨g, c, rfl, hb, hlt, _⟩ := row_some ho hl
  exact ⟨g, c, rfl, ho, hlt, hb⟩
theorem ERow.cell {base : Nat} {l : List S107} {W : World} {g c : Nat} (h : ERow base l W g c) : ∀ j u, (cellsE l)[j]? = some u → W.cell? ((⟨g, 0, none⟩ : Addr).add j) = some u := h.own.cells rfl
set_option maxHeartbeats 4000000 in
set_option maxRecDepth 100000 in
theorem all_row (w : World) : Calls Tryz.prog 91 #[] w fun e w' => ∃ b c, e = .returned (.slice (some ⟨b, 0, none⟩) 134 c) ∧ w.heap.size ≤ b ∧ b < w'.heap.size ∧ HoldsK enc107 2 w' b 0 allV.toArray ∧ Below w.heap.size w w' := by
  have HT1 := Aside0.mk trivial
  have HB0 := Aside0.mk (Below.refl w.heap.size w)
  go_enter Tryz.func91, Tryz.ntmps91
  go_upto_region 2 with (first
    | (go_at_call 121; clear HT1; (with_reducible refine (entity_bare.calls bareL _ bare_eq).mono ?_); rintro e w1 ⟨v, rfl, ho, hb⟩; obtain ⟨g1, c1, rfl, hr⟩ := ERow.of ho (by rw [bare_len]; decide); have HR1 := Aside0.mk hr; have HB1 := Aside0.mk hb; clear ho hb hr)
    | (go_at_call 121; (with_reducible refine (entity_bare.calls bareL _ bare_eq).mono ?_); rintro e w2 ⟨v, rfl, ho, hb⟩; obtain ⟨g2, c2, rfl, hr⟩ := ERow.of ho (by rw [bare_len]; decide); have HC2 := Aside0.mk (Kd.R_reads' ho); have HR1b := Aside0.mk (HR1.out.below hb); have HB2 := Aside0.mk (below_weaken HB1.out HB1.out.size hb); clear ho hb hr)
    | (go_at_call 122; (with_reducible refine (entity_with.calls 200 (some ⟨g2, 0, none⟩) c2 bareL withB _ HC2.out.2.2 HC2.out.2.1 withB_eq).mono ?_); rintro e w3 ⟨v, rfl, ho, hb⟩; obtain ⟨g3, c3, rfl, hr⟩ := ERow.of ho (by rw [withB_len]; decide); have HR3 := Aside0.mk hr; have HR1c := Aside0.mk (HR1b.out.below hb); have HB3 := Aside0.mk (below_weaken HB2.out HB2.out.size hb); clear ho hb hr)
    | (go_at_call 123; (with_reducible refine (entity_closed.calls closedL _ closed_eq).mono ?_); rintro e w4 ⟨v, rfl, ho, hb⟩; obtain ⟨g4, c4, rfl, hr⟩ := ERow.of ho (by rw [closed_len]; decide); have HC4 := Aside0.mk (Kd.R_reads' ho); have HR1d := Aside0.mk (HR1c.out.below hb); have HR3d := Aside0.mk (HR3.out.below hb); have HB4 := Aside0.mk (below_weaken HB3.out HB3.out.size hb); clear ho hb hr)
    | (go_at_call 122; (with_reducible refine (entity_with.calls 200 (some ⟨g4, 0, none⟩) c4 closedL withC _ HC4.out.2.2 HC4.out.2.1 withC_eq).mono ?_); rintro e w5 ⟨v, rfl, ho, hb⟩; obtain ⟨g5, c5, rfl, hr⟩ := ERow.of ho (by rw [withC_len]; decide); have HR5 := Aside0.mk hr; have HR1e := Aside0.mk (HR1d.out.below hb); have HR3e := Aside0.mk (HR3d.out.below hb); have HB5 := Aside0.mk (below_weaken HB4.out HB4.out.size hb); clear ho hb hr))
  have hzw : (w5.alloc (Obj.cells #[Value.slice (some ⟨g1, 0, none⟩) bareL.length c1, Value.slice (some ⟨g3, 0, none⟩) withB.length c3, Value.slice (some ⟨g5, 0, none⟩) withC.length c5] 108)).heap.size = w5.heap.size + 1 := World.size_alloc _ _
  have HCC := Aside0.mk (Concat_calls (w5.alloc (Obj.cells #[Value.slice (some ⟨g1, 0, none⟩) bareL.length c1, Value.slice (some ⟨g3, 0, none⟩) withB.length c3, Value.slice (some ⟨g5, 0, none⟩) withC.length c5] 108)) w5.heap.size g1 g3 g5 bareL.length withB.length withC.length c1 c3 c5 (cellsE bareL) (cellsE withB) (cellsE withC)
    ((blk_cell (heap_alloc_new w5 _) 0).trans rfl) ((blk_cell (heap_alloc_new w5 _) 1).trans rfl) ((blk_cell (heap_alloc_new w5 _) 2).trans rfl)
    (HR1e.out.below (below_alloc (Below.refl _ _) _)).cell (HR3e.out.below (below_alloc (Below.refl _ _) _)).cell (HR5.out.below (below_alloc (Below.refl _ _) _)).cell
    (cellsE_length _) (cellsE_length _) (cellsE_length _) (cellsE_one _) (cellsE_one _) (cellsE_one _) (by rw [hzw]; omega) (HR1e.out.below (below_alloc (Below.refl _ _) _)).lt (HR3e.out.below (below_alloc (Below.refl _ _) _)).lt (HR5.out.below (below_alloc (Below.refl _ _) _)).lt (by rw [bare_len]; omega) (by rw [bare_len, withB_len, withC_len]; omega))
  have HB6 := Aside0.mk (below_alloc HB5.out (Obj.cells #[Value.slice (some ⟨g1, 0, none⟩) bareL.length c1, Value.slice (some ⟨g3, 0, none⟩) withB.length c3, Value.slice (some ⟨g5, 0, none⟩) withC.length c5] 108))
  have hcx : cellsE bareL ++ cellsE withB ++ cellsE withC = cellsE all0 := by unfold cellsE all0; rw [List.flatMap_append, List.flatMap_append]
  have hnx : bareL.length + withB.length + withC.length = all0.length := by unfold all0; rw [List.length_append, List.length_append]
  rw [hcx, hnx] at HCC
  have HLEN : Aside0 (all0.length = 134) := ⟨by rw [← hnx, bare_len, withB_len, withC_len]⟩
  generalize (w5.alloc (Obj.cells #[Value.slice (some ⟨g1, 0, none⟩) bareL.length c1, Value.slice (some ⟨g3, 0, none⟩) withB.length c3, Value.slice (some ⟨g5, 0, none⟩) withC.length c5] 108)) = W6 at HCC HB6 ⊢
  clear hzw hcx hnx HR1 HR1b HR1c HR1d HR1e HR3 HR3d HR3e HR5 HC2 HC4
  go_upto_region 2 with (first | (go_at_call 120; (with_reducible refine HCC.out.mono ?_); rintro e w7 ⟨v, rfl, ho, hb⟩; obtain ⟨g7, c7, rfl, hge, hlt7, _⟩ := row_some ho (by rw [HLEN.out]; decide); have HO7 := Aside0.mk ho; have HB7 := Aside0.mk (below_weaken HB6.out HB6.out.size hb); have HGE := Aside0.mk (Nat.le_trans HB6.out.size hge); have HLT := Aside0.mk hlt7; clear ho hb hge hlt7))
  have eg : ∀ args w, (callFunc 125 args).run Tryz.prog w = .ok (.enter 125 args) w := enters_of Tryz.func125 (by kernel_rfl) rfl
  have hsrt := AnyQ.slices_SortFunc Tryz.sortEntry 2 (fun w => by kernel_rfl) (fun w => by kernel_rfl) enc107 (fun _ => rfl) (fun x v hv => by simp [enc107] at hv; rcases hv with rfl | rfl <;> rfl) nameCmp swoName 125 #[] g7 0 c7 all0.toArray w7 eg (cmpE_lays g7 0 _ w7) (holds_of_row HO7.out (by rw [HLEN.out]; decide)) HLT.out (by have := HLEN.out; simp; omega)
  change Calls Tryz.prog 124 _ _ _ at hsrt
  rw [show all0.toArray.size = all0.length from List.size_toArray] at hsrt
  have HS := Aside0.mk hsrt
  clear hsrt eg
  go_wp2_with (first | (go_at_call 124; (with_reducible refine HS.out.mono ?_); rintro e w8 ⟨rfl, d, n, os, hp, hs, hw8⟩; have HW8 := Aside0.mk hw8; have HPS := Aside0.mk (And.intro hp hs); clear hp hs hw8))
  go_ret
  obtain rfl := all_unique d HPS.out.1 HPS.out.2
  have hgr := sort_grown (w := w7) (g := g7) (n := n) (os := os) allV.toArray
  rw [HW8.out]
  refine ⟨g7, c7, by rw [HLEN.out]; rfl, HGE.out, Nat.lt_of_lt_of_le HLT.out hgr.size, ?_, HB7.out.grown hgr HB7.out.size (fun k hk => by cases hk; exact HGE.out)⟩
  have h0 : HoldsK enc107 2 (Sort.ahead w7 n) g7 0 all0.toArray := holdsK_ahead _ _ _ _ _ _ _ (holds_of_row HO7.out (by rw [HLEN.out]; decide))
  exact holdsK_grow _ _ _ _ _ _ _ (by simpa [putRowK] using HLT.out) (holdsK_putRowK _ _ _ _ _ _ _ h0 (by simp [allV_len, HLEN.out]))
end
def entity_all.f : Option (List S107) := none
theorem entity_all.calls  (r : List (S107)) (w : World) (h : entity_all.f  = some r) :
    Calls Tryz.prog 91 #[] w fun e w' => ∃ v0_ : Value, e = .returned (v0_) ∧ Kd.R k107 107 w' w.heap.size (fun _ => True) v0_ r ∧ Below w.heap.size w w' := by
  exact absurd h (by simp [entity_all.f])
end Go.Proofs.YtoacojkmclngmaaGreatDoor.Pz
namespace Go.Proofs.YtoacojkmclngmaaGreatDoor.Pz
open Go.RowKit Go.Proofs.YtoacojkmclngmaaGreatDoorW.PrintWords Go.Proofs.YtoacojkmclngmaaGreatDoorW.PrintLast Go.Proofs.YtoacojkmclngmaaGreatDoorW.PrintMore
attribute [local go_sem] max2_int min2_int max_two min_two max_three min_three max_four min_four   -- for this text's walks alone
attribute [local go_sem] rune_str
set_option linter.unusedVariables false
set_option linter.unusedSimpArgs false
section
open Go.Shelf Go.RowKit Go.Lib Go.Sort
def namesV : List ByteArray := allV.map (fun x => x.f0)
theorem namesV_len : namesV.length = 134 := by unfold namesV; rw [List.length_map, allV_len]
theorem holds_cells {W : World} {b : Nat} {l : List S107} (h : HoldsK enc107 2 W b 0 l.toArray) (k : Nat) (hk : k < l.length) : W.cell? ⟨b, k * 2, none⟩ = some (.string (l[k]'hk).f0) ∧ W.cell? ⟨b, k * 2 + 1, none⟩ = some (.string (l[k]'hk).f1) := by
  have h0 := (h.cell (i := k) (c := 0) (by simpa using hk) (by decide)).1
  have h1 := (h.cell (i := k) (c := 1) (by simpa using hk) (by decide)).1
  have e : l.toArray[k]! = l[k]'hk := by rw [getElem!_pos _ k (by simpa using hk)]; simp
  rw [e] at h0 h1
  simp only [Nat.zero_add, Nat.add_zero] at h0 h1
  exact ⟨h0, h1⟩
theorem own_low {W : World} {b b' n size : Nat} {e : TypeId} {v : Value} {cs : List Value} (h : W.ownsRow b e size v n cs) (hb : ∀ k, v.ownBlock = some k → b' ≤ k) : W.ownsRow b' e size v n cs := by
  refine ⟨h.1, ?_⟩
  rcases h.2 with h2 | ⟨g, cap, cur, rfl, h2, h3⟩
  · exact .inl h2
  · exact .inr ⟨g, cap, cur, rfl, hb g rfl, h3⟩
set_option maxHeartbeats 4000000 in
set_option maxRecDepth 100000 in
theorem names_row (w : World) : Calls Tryz.prog 89 #[] w fun e w' => ∃ v, e = .returned v ∧ w'.ownsRow w.heap.size 9 1 v 134 (namesV.map Value.string) ∧ Below w.heap.size w w' := by
  obtain ⟨i0, hi, hz0, hz1, hz2⟩ := info_parts info9
  have HI := Aside0.mk (And.intro hi (And.intro hz0 (And.intro hz1 hz2)))
  have HNL := Aside0.mk namesV_len
  have HAL := Aside0.mk allV_len
  clear hi hz0 hz1 hz2
  go_enter Tryz.func89, Tryz.ntmps89
  go_wp2_with (first | (go_at_call 91; (with_reducible refine (all_row _).mono ?_); rintro e w1 ⟨b, c, rfl, hge, hlt, hh, hb⟩; have HH := Aside0.mk hh; have HB1 := Aside0.mk hb; have HLT := Aside0.mk hlt; clear hge hlt hh hb))
  go_loopw [6, 1] (fun v6 v1 wr => ∃ k : Nat, k ≤ 134 ∧ v6 = .int .i64 k ∧ Aside0 (wr.ownsRow w1.heap.size 9 1 v1 k ((namesV.take k).map Value.string)) ∧ Aside0 (Below w1.heap.size w1 wr)) (fun v6 _ _ => 134 - (intOf v6).toNat)
  case atStart => exact ⟨0, by omega, rfl, ⟨own_nil _ _ _ _⟩, ⟨Below.refl _ _⟩⟩
  case round =>
    obtain ⟨k, hk, rfl, HO, HB2⟩ := hrel
    by_cases hlt : k < 134
    · have hlz : (k : Int) < 134 := by omega
      have hkl : k < allV.length := by rw [HAL.out]; exact hlt
      obtain ⟨x, hx⟩ : ∃ x, x = allV[k]'hkl := ⟨_, rfl⟩
      have hcs := holds_cells HH.out k hkl
      rw [← hx] at hcs
      have hc0 := (HB2.out.cell (p := ⟨b, k * 2, none⟩) HLT.out).trans hcs.1
      have hc1 := (HB2.out.cell (p := ⟨b, k * 2 + 1, none⟩) HLT.out).trans hcs.2
      have HX : Aside0 (namesV[k]? = some x.f0) := ⟨by unfold namesV; rw [List.getElem?_map, List.getElem?_eq_getElem hkl, ← hx]; rfl⟩
      clear hx hcs hkl
      obtain ⟨A1, c1, hv1⟩ := own_slice HO.out
      subst hv1
      go_upto_region 5 with (fail)
      have hb0 := (blk_cell (heap_alloc_new wr (Obj.cells #[.string x.f0, .string x.f1] 107)) 0).trans rfl
      have hsz : (wr.alloc (Obj.cells #[.string x.f0, .string x.f1] 107)).heap.size = wr.heap.size + 1 := World.size_alloc _ _
      have HO3 := Aside0.mk (HO.out.alloc (Obj.cells #[.string x.f0, .string x.f1] 107))
      have HB3 := Aside0.mk (below_alloc HB2.out (Obj.cells #[.string x.f0, .string x.f1] 107))
      generalize (wr.alloc (Obj.cells #[.string x.f0, .string x.f1] 107)) = W3 at hb0 hsz HO3 HB3 ⊢
      clear hsz
      go_wp2_with (first | ((with_reducible refine gate_builtin (b := .append) (xs := #[.tmp 10, .tmp 13]) rfl ?_); at_builtin; refine wpList_append_own_at _ rfl _ _ 37 rfl w1.heap.size 9 i0 (.string ⟨#[]⟩) 1 16 Tryz.underlying37 HI.out.1 HI.out.2.1 HI.out.2.2.1 HI.out.2.2.2 rfl (by decide) _ _ _ rfl (HO3.out.alloc _) ⟨W3.heap.size, 0, none⟩ 1 1 [.string x.f0] rfl rfl (cell_one_new _ _ _) (by simp [Value.oneCell']) (by unfold maxLen; omega) (by omega) (by have := HB3.out.size; simp; omega) ?_; intro v' w3 hown' hgrow hnil hat; have HO4 := Aside0.mk hown'; have HB4 := Aside0.mk ((below_alloc HB3.out _).grown hgrow (below_alloc HB3.out _).size (fun q hq => own_base HO3.out q hq)); clear hown' hgrow hnil hat))
      go_roundw
      case rel =>
        refine ⟨k + 1, by omega, by go_num, ⟨?_⟩, HB4⟩
        rw [show (namesV.take (k + 1)).map Value.string = (namesV.take k).map Value.string ++ [Value.string x.f0] from by rw [List.take_add_one, HX.out]; simp]
        exact HO4.out
      case measure => first | (simp [intOf]; done) | (simp [intOf]; omega)
    · have : k = 134 := by omega
      subst this
      go_wp2
      go_ret
      exact ⟨_, rfl, own_low (by have := HO.out; rwa [List.take_of_length_le (by rw [HNL.out]; omega)] at this) (fun q hq => Nat.le_trans HB1.out.size (own_base HO.out q hq)), below_weaken HB1.out HB1.out.size HB2.out⟩
end
def entity_Names.f : Option (List ByteArray) := none
theorem entity_Names.calls  (r : List ByteArray) (w : World) (h : entity_Names.f  = some r) :
    Calls Tryz.prog 89 #[] w fun e w' => ∃ v0_ : Value, e = .returned (v0_) ∧ Kd.R Kd.string 9 w' w.heap.size (fun _ => True) v0_ r ∧ Below w.heap.size w w' := by
  exact absurd h (by simp [entity_Names.f])
end Go.Proofs.YtoacojkmclngmaaGreatDoor.Pz
/- trie.Trie in the heap: nodes by their paths. -/
namespace Go.Proofs.YtoacojkmclngmaaGreatDoor
open Go.RowKit Go.Proofs.YtoacojkmclngmaaGreatDoorW.PrintWords Go.Proofs.YtoacojkmclngmaaGreatDoorW.PrintLast Go.Proofs.YtoacojkmclngmaaGreatDoorW.PrintMore
set_option linter.unusedVariables false
set_option linter.unusedSimpArgs false
abbrev Path := List UInt8
def cellsN : List Nat → List Int → List Value
  | m :: ms, x :: wd => .map (some m) :: .int .i64 x :: cellsN ms wd
  | _, _ => []
theorem cellsN_length : ∀ (ms : List Nat) (wd : List Int), ms.length = wd.length → (cellsN ms wd).length = ms.length * 2
  | [], [], _ => rfl
  | m :: ms, x :: wd, h => by
    have := cellsN_length ms wd (by simpa using h)
    simp [cellsN, this]; omega
theorem cellsN_map : ∀ (ms : List Nat) (wd : List Int) (i m : Nat), ms.length = wd.length → ms[i]? = some m → (cellsN ms wd)[i * 2]? = some (.map (some m))
  | [], _, i, m, _, h => by simp at h
  | a :: ms, [], i, m, hl, h => by simp at hl
  | a :: ms, x :: wd, 0, m, hl, h => by simp at h; simp [cellsN, h]
  | a :: ms, x :: wd, i + 1, m, hl, h => by
    have := cellsN_map ms wd i m (by simpa using hl) (by simpa using h)
    rw [show (i + 1) * 2 = i * 2 + 1 + 1 by omega]
    simpa [cellsN] using this
theorem cellsN_word : ∀ (ms : List Nat) (wd : List Int) (i : Nat) (x : Int), ms.length = wd.length → wd[i]? = some x → (cellsN ms wd)[i * 2 + 1]? = some (.int .i64 x)
  | _, [], i, m, _, h => by simp at h
  | [], x :: wd, i, m, hl, h => by simp at hl
  | a :: ms, x :: wd, 0, m, hl, h => by simp at h; simp [cellsN, h]
  | a :: ms, x :: wd, i + 1, m, hl, h => by
    have := cellsN_word ms wd i m (by simpa using hl) (by simpa using h)
    rw [show (i + 1) * 2 + 1 = (i * 2 + 1) + 1 + 1 by omega]
    simpa [cellsN] using this
theorem cellsN_append : ∀ (ms : List Nat) (wd : List Int) (m : Nat) (x : Int), ms.length = wd.length → cellsN (ms ++ [m]) (wd ++ [x]) = cellsN ms wd ++ [.map (some m), .int .i64 x]
  | [], [], m, x, _ => rfl
  | a :: ms, y :: wd, m, x, h => by
    have := cellsN_append ms wd m x (by simpa using h)
    simp [cellsN, this]
theorem cellsN_set : ∀ (ms : List Nat) (wd : List Int) (i : Nat) (x : Int), ms.length = wd.length → (cellsN ms wd).set (i * 2 + 1) (.int .i64 x) = cellsN ms (wd.set i x)
  | [], [], i, x, _ => rfl
  | a :: ms, y :: wd, 0, x, h => by simp [cellsN]
  | a :: ms, y :: wd, i + 1, x, h => by
    have := cellsN_set ms wd i x (by simpa using h)
    rw [show (i + 1) * 2 + 1 = (i * 2 + 1) + 1 + 1 by omega]
    simp [cellsN, this]
structure NodeMap (P C : List Path) (p : Path) (D : DataW Nat) : Prop where
  is : Maps.IsMap D
  there : ∀ (c : UInt8) (j : Nat), P[j]? = some (p ++ [c]) → p ++ [c] ∈ C → Maps.has D (.int .u8 (c.toNat : Int)) = true ∧ D.atKey (.int .u8 (c.toNat : Int)) (.lit (.int .i64 0)) = .lit (.int .i64 (j : Int))
  no : ∀ c : UInt8, p ++ [c] ∉ C → Maps.has D (.int .u8 (c.toNat : Int)) = false
structure TrieAt (vw : Value) (W : World) (base t g c : Nat) (P C : List Path) (ms : List Nat) (wd : List Int) : Prop where
  box : W.heap[t]? = some (.cells #[vw, .slice (some ⟨g, 0, none⟩) P.length c] 130 (0, 0))
  row : W.ownsRow base 127 2 (.slice (some ⟨g, 0, none⟩) P.length c) P.length (cellsN ms wd)
  lm : ms.length = P.length
  lw : wd.length = P.length
  tge : base ≤ t
  mge : ∀ m ∈ ms, base ≤ m
  nd : ms.Nodup
  pn : P.Nodup
  pc : ∀ (p : Path) (c : UInt8), p ++ [c] ∈ P → p ∈ P
  maps : ∀ (i m : Nat) (p : Path), ms[i]? = some m → P[i]? = some p → ∃ D : DataW Nat, W.ownsMap Tryz.prog 5 (plainElem Tryz.prog 3) m C.length D ∧ NodeMap P C p D
theorem map_ne_cells {W : World} {m b n : Nat} {D : DataW Nat} (h : W.ownsMap Tryz.prog 5 (plainElem Tryz.prog 3) m n D) {cs : Array Value} {e : TypeId} {fr : Nat × Nat} (hb : W.heap[b]? = some (.cells cs e fr)) : m ≠ b := by
  rintro rfl
  obtain ⟨es, clock, hm, _⟩ := h
  rw [hm] at hb
  cases hb
theorem TrieAt.m_lt {vw : Value} {W : World} {base t g c : Nat} {P C : List Path} {ms : List Nat} {wd : List Int} (h : TrieAt vw W base t g c P C ms wd) : ∀ m ∈ ms, m < W.heap.size := by
  intro m hm
  obtain ⟨i, hi, rfl⟩ := List.getElem_of_mem hm
  have hp : i < P.length := by rw [← h.lm]; exact hi
  obtain ⟨D, hD, _⟩ := h.maps i ms[i] P[i] (List.getElem?_eq_getElem hi) (List.getElem?_eq_getElem hp)
  exact hD.lt
theorem TrieAt.rowblk {vw : Value} {W : World} {base t g c : Nat} {P C : List Path} {ms : List Nat} {wd : List Int} (h : TrieAt vw W base t g c P C ms wd) : ∃ cur, W.heap[g]? = some (.cells cur 127 (0, 0)) ∧ base ≤ g ∧ P.length ≤ c ∧ c ≤ maxLen ∧ cur.size = c * 2 ∧ cur.toList.take (P.length * 2) = cellsN ms wd := by
  rcases h.row.2 with ⟨he, _⟩ | ⟨g', c', cur, he, hb, hg, h1, h2, h3, h4⟩
  · cases he
  · cases he
    exact ⟨cur, hg, hb, h1, h2, h3, h4⟩
theorem TrieAt.kept {vw : Value} {W W1 : World} {base t g c : Nat} {P C : List Path} {ms : List Nat} {wd : List Int} {row : Option Nat} (h : TrieAt vw W base t g c P C ms wd) (hg : W.grownBy W1 row) (h1 : some t ≠ row) (h2 : some g ≠ row) (h3 : ∀ m ∈ ms, some m ≠ row) : TrieAt vw W1 base t g c P C ms wd := by
  refine ⟨(hg.block t (Array.getElem?_eq_some_iff.1 h.box).1 h1).trans h.box, h.row.kept hg (.inr h2), h.lm, h.lw, h.tge, h.mge, h.nd, h.pn, h.pc, fun i m p hm hp => ?_⟩
  obtain ⟨D, hD, hN⟩ := h.maps i m p hm hp
  exact ⟨D, hD.kept hg (h3 m (List.mem_of_getElem? hm)), hN⟩
theorem TrieAt.alloc {vw : Value} {W : World} {base t g c : Nat} {P C : List Path} {ms : List Nat} {wd : List Int} (h : TrieAt vw W base t g c P C ms wd) (o : Obj) : TrieAt vw (W.alloc o) base t g c P C ms wd :=
  h.kept (World.grownBy_alloc W o none) (by simp) (by simp) (by simp)
theorem TrieAt.below {vw : Value} {W W1 : World} {base t g c : Nat} {P C : List Path} {ms : List Nat} {wd : List Int} (h : TrieAt vw W base t g c P C ms wd) (hb : Below W.heap.size W W1) : TrieAt vw W1 base t g c P C ms wd :=
  h.kept (grown_of_below hb none) (by simp) (by simp) (by simp)
theorem TrieAt.cells {vw : Value} {W : World} {base t g c : Nat} {P C : List Path} {ms : List Nat} {wd : List Int} (h : TrieAt vw W base t g c P C ms wd) : W.cell? ⟨t, 0, none⟩ = some vw ∧ W.cell? ⟨t, 1, none⟩ = some (.slice (some ⟨g, 0, none⟩) P.length c) ∧ W.frozen? ⟨t, 1, none⟩ = false :=
  ⟨(blk_cell h.box 0).trans rfl, (blk_cell h.box 1).trans rfl, blk_frozen h.box 1⟩
theorem TrieAt.node {vw : Value} {W : World} {base t g c : Nat} {P C : List Path} {ms : List Nat} {wd : List Int} (h : TrieAt vw W base t g c P C ms wd) {i m : Nat} {x : Int} (hm : ms[i]? = some m) (hx : wd[i]? = some x) :
    W.cell? ⟨g, i * 2, none⟩ = some (.map (some m)) ∧ W.cell? ⟨g, i * 2 + 1, none⟩ = some (.int .i64 x) ∧ W.frozen? ⟨g, i * 2 + 1, none⟩ = false := by
  have hl : ms.length = wd.length := h.lm.trans h.lw.symm
  have h0 := h.row.cells (g := g) rfl _ _ (cellsN_map ms wd i m hl hm)
  have h1 := h.row.cells (g := g) rfl _ _ (cellsN_word ms wd i x hl hx)
  rw [add_plain] at h0 h1
  obtain ⟨cur, hg, _⟩ := h.rowblk
  exact ⟨by simpa using h0, by simpa using h1, blk_frozen hg _⟩
theorem TrieAt.setWord {vw : Value} {W : World} {base t g c : Nat} {P C : List Path} {ms : List Nat} {wd : List Int} (h : TrieAt vw W base t g c P C ms wd) (i : Nat) (hi : i < P.length) (x : Int) : TrieAt vw (W.setCell ⟨g, i * 2 + 1, none⟩ (.int .i64 x)) base t g c P C ms (wd.set i x) := by
  obtain ⟨cur, hg, hbg, h1, h2, h3, h4⟩ := h.rowblk
  have hgr : W.grownBy (W.setCell ⟨g, i * 2 + 1, none⟩ (.int .i64 x)) (some g) := ⟨rfl, rfl, rfl, by simp [World.setCell], fun k _ hk => Below.heap_setCell _ _ _ k (fun e => hk (by rw [e]))⟩
  have htg : t ≠ g := by
    rintro rfl
    have hb := h.box
    rw [hg] at hb
    injection hb with hb
    injection hb with _ hb
    exact absurd hb (by decide)
  have hl : ms.length = wd.length := h.lm.trans h.lw.symm
  refine ⟨(hgr.block t (Array.getElem?_eq_some_iff.1 h.box).1 (by intro e; injection e with e; exact htg e)).trans h.box, ?_, h.lm, by rw [List.length_set]; exact h.lw, h.tge, h.mge, h.nd, h.pn, h.pc, fun j m p hm hp => ?_⟩
  · refine ⟨by rw [cellsN_length _ _ (by rw [List.length_set]; exact hl), h.lm], .inr ⟨g, c, cur.setIfInBounds (i * 2 + 1) (.int .i64 x), rfl, hbg, ?_, h1, h2, by rw [Array.size_setIfInBounds]; exact h3, ?_⟩⟩
    · simp [World.setCell, Array.getElem?_modify, hg]
    · rw [← cellsN_set ms wd i x hl, ← h4, Array.toList_setIfInBounds, List.take_set]
  · obtain ⟨D, hD, hN⟩ := h.maps j m p hm hp
    exact ⟨D, hD.kept hgr (by intro e; injection e with e; exact map_ne_cells hD hg e), hN⟩
theorem key_u8 (c : UInt8) : keyOf Tryz.prog 5 (.int .u8 (c.toNat : Int)) = some (.int .u8 (c.toNat : Int)) := Maps.keyOf_int_mk Tryz.underlying5 (by have := c.toNat_lt; simp [Lit.wf, IntKind.min, IntKind.max, IntKind.bits, IntKind.signed]; omega)
theorem TrieAt.addRow {vw : Value} {W W3 : World} {base t g c g' c' : Nat} {P : List Path} {ms : List Nat} {wd : List Int} (h : TrieAt vw W base t g c P P ms wd) (q : Path) (hq : q ∉ P) (p : Path) (ch : UInt8) (hqp : q = p ++ [ch]) (hp : p ∈ P) (hbase : base ≤ W.heap.size)
    (hown : W3.ownsRow base 127 2 (.slice (some ⟨g', 0, none⟩) (P.length + 1) c') (P.length + 1) (cellsN ms wd ++ [.map (some W.heap.size), .int .i64 (-1)]))
    (hgr : ((W.alloc (.map #[] 0)).alloc (.cells #[.map (some W.heap.size), .int .i64 (-1)] 127)).grownBy W3 (some g)) :
    TrieAt vw (W3.setCell ⟨t, 1, none⟩ (.slice (some ⟨g', 0, none⟩) (P.length + 1) c')) base t g' c' (P ++ [q]) P (ms ++ [W.heap.size]) (wd ++ [-1]) ∧ W.grownBy (W.alloc (.map #[] 0)) none ∧ (∀ k, k < W.heap.size → k ≠ g → k ≠ t → (W3.setCell ⟨t, 1, none⟩ (.slice (some ⟨g', 0, none⟩) (P.length + 1) c')).heap[k]? = W.heap[k]?) := by
  obtain ⟨W2, hW2⟩ : ∃ W2, W2 = ((W.alloc (.map #[] 0)).alloc (.cells #[.map (some W.heap.size), .int .i64 (-1)] 127)) := ⟨_, rfl⟩
  rw [← hW2] at hgr
  have hs2 : W2.heap.size = W.heap.size + 2 := by rw [hW2]; simp only [World.size_alloc]
  have hmap2 : W2.ownsMap (H := Nat) Tryz.prog 5 (plainElem Tryz.prog 3) W.heap.size 0 (.map []) := by rw [hW2]; exact (World.ownsMap_made (H := Nat) W Tryz.prog 5 (plainElem Tryz.prog 3)).alloc _
  have h2 : TrieAt vw W2 base t g c P P ms wd := by rw [hW2]; exact (h.alloc _).alloc _
  have hold : ∀ k, k < W.heap.size → W2.heap[k]? = W.heap[k]? := fun k hk => by rw [hW2]; exact (Below.heap_alloc _ _ k (by rw [World.size_alloc]; omega)).trans (Below.heap_alloc _ _ k hk)
  clear hW2
  have htg : t ≠ g := by
    rintro rfl
    obtain ⟨cur, hg, _⟩ := h.rowblk
    have hb := h.box
    rw [hg] at hb
    injection hb with hb
    injection hb with _ hb
    exact absurd hb (by decide)
  have hbox3 : W3.heap[t]? = some (.cells #[vw, .slice (some ⟨g, 0, none⟩) P.length c] 130 (0, 0)) := (hgr.block t (Array.getElem?_eq_some_iff.1 h2.box).1 (by intro e; injection e with e; exact htg e)).trans h2.box
  have hset : W3.grownBy (W3.setCell ⟨t, 1, none⟩ (.slice (some ⟨g', 0, none⟩) (P.length + 1) c')) (some t) := ⟨rfl, rfl, rfl, by simp [World.setCell], fun k _ hk => Below.heap_setCell _ _ _ k (fun e => hk (by rw [e]))⟩
  have hg't : g' ≠ t := by
    rintro rfl
    rcases hown.2 with ⟨he, _⟩ | ⟨g2, c2, cur, he, _, hg2, _⟩
    · cases he
    · cases he
      rw [hg2] at hbox3
      injection hbox3 with hb
      injection hb with _ hb
      exact absurd hb (by decide)
  have hmap4 : ∀ (m n : Nat) (D : DataW Nat), W2.ownsMap Tryz.prog 5 (plainElem Tryz.prog 3) m n D → (W3.setCell ⟨t, 1, none⟩ (.slice (some ⟨g', 0, none⟩) (P.length + 1) c')).ownsMap Tryz.prog 5 (plainElem Tryz.prog 3) m n D := fun m n D hD => by
    obtain ⟨cur, hg, _⟩ := h2.rowblk
    have h3 := hD.kept hgr (by intro e; injection e with e; exact map_ne_cells hD hg e)
    exact h3.kept hset (by intro e; injection e with e; exact map_ne_cells h3 hbox3 e)
  refine ⟨⟨?_, ?_, ?_, ?_, h.tge, ?_, ?_, ?_, ?_, ?_⟩, World.grownBy_alloc W _ none, fun k hk hkg hkt => ?_⟩
  · rw [List.length_append]
    exact blk_put hbox3 1 (.slice (some ⟨g', 0, none⟩) (P.length + 1) c') rfl
  · rw [cellsN_append _ _ _ _ (h.lm.trans h.lw.symm), List.length_append]
    exact hown.kept hset (.inr (by intro e; injection e with e; exact hg't e))
  · rw [List.length_append, List.length_append, h.lm]; rfl
  · rw [List.length_append, List.length_append, h.lw]; rfl
  · intro m hm
    rcases List.mem_append.1 hm with hm | hm
    · exact h.mge m hm
    · rw [List.mem_singleton.1 hm]; exact hbase
  · refine List.nodup_append.2 ⟨h.nd, by simp, fun a ha b hb => ?_⟩
    rw [List.mem_singleton.1 hb]
    have := h.m_lt a ha
    omega
  · refine List.nodup_append.2 ⟨h.pn, by simp, fun a ha b hb => ?_⟩
    rw [List.mem_singleton.1 hb]
    rintro rfl
    exact hq ha
  · intro r cr hr
    rcases List.mem_append.1 hr with hr | hr
    · exact List.mem_append.2 (.inl (h.pc r cr hr))
    · have e := List.mem_singleton.1 hr
      rw [hqp] at e
      have := (List.append_inj' e rfl).1
      exact List.mem_append.2 (.inl (this ▸ hp))
  · intro i m r hm hr
    by_cases hi : i < P.length
    · rw [List.getElem?_append_left (by rw [h.lm]; exact hi)] at hm
      rw [List.getElem?_append_left hi] at hr
      obtain ⟨D, hD, hN⟩ := h2.maps i m r hm hr
      refine ⟨D, hmap4 m _ D hD, hN.is, fun ch2 j hj hc => ?_, hN.no⟩
      rcases Nat.lt_or_ge j P.length with hjl | hjl
      · rw [List.getElem?_append_left hjl] at hj
        exact hN.there ch2 j hj hc
      · have hjq : r ++ [ch2] = q := by
          rw [List.getElem?_append_right hjl] at hj
          exact (List.mem_singleton.1 (List.mem_of_getElem? hj))
        exact absurd (hjq ▸ hc) hq
    · rw [List.getElem?_append_right (by rw [h.lm]; omega)] at hm
      rw [List.getElem?_append_right (by omega)] at hr
      have em := List.mem_singleton.1 (List.mem_of_getElem? hm)
      have er := List.mem_singleton.1 (List.mem_of_getElem? hr)
      subst em er
      refine ⟨.map [], hmap4 _ _ _ (hmap2.mono (Nat.zero_le _)), Maps.isMap_empty, fun ch2 j hj hc => absurd (h.pc _ _ hc) hq, fun _ _ => rfl⟩
  · have h1 := hset.block k (Nat.lt_of_lt_of_le (by omega) hgr.size) (by intro e; injection e with e; exact hkt e)
    exact h1.trans ((hgr.block k (by omega) (by intro e; injection e with e; exact hkg e)).trans (hold k hk))
theorem TrieAt.addKey {vw : Value} {W W1 : World} {base t g c i m : Nat} {P : List Path} {p : Path} {ch : UInt8} {ms : List Nat} {wd : List Int} {D : DataW Nat} (h : TrieAt vw W base t g c (P ++ [p ++ [ch]]) P ms wd) (hm : ms[i]? = some m) (hp : P[i]? = some p)
    (hN : NodeMap (P ++ [p ++ [ch]]) P p D) (hown : W1.ownsMap Tryz.prog 5 (plainElem Tryz.prog 3) m (P.length + 1) (D.put (.int .u8 (ch.toNat : Int)) (.lit (.int .i64 (P.length : Int))))) (hgr : W.grownBy W1 (some m)) :
    TrieAt vw W1 base t g c (P ++ [p ++ [ch]]) (P ++ [p ++ [ch]]) ms wd := by
  obtain ⟨cur, hg, _⟩ := h.rowblk
  have hil : i < P.length := (List.getElem?_eq_some_iff.1 hp).1
  have hp' : (P ++ [p ++ [ch]])[i]? = some p := by rw [List.getElem?_append_left hil]; exact hp
  obtain ⟨D0, hD0, _⟩ := h.maps i m p hm hp'
  refine ⟨(hgr.block t (Array.getElem?_eq_some_iff.1 h.box).1 (by intro e; injection e with e; exact map_ne_cells hD0 h.box e.symm)).trans h.box, h.row.kept hgr (.inr (by intro e; injection e with e; exact map_ne_cells hD0 hg e.symm)), h.lm, h.lw, h.tge, h.mge, h.nd, h.pn, h.pc, fun j m2 r hm2 hr => ?_⟩
  have hl : (P ++ [p ++ [ch]]).length = P.length + 1 := by simp
  by_cases hij : j = i
  · subst hij
    rw [hm] at hm2
    rw [hp'] at hr
    cases hm2
    cases hr
    refine ⟨_, by rw [hl]; exact hown, hN.is.put _ _, fun c2 j2 hj2 hc2 => ?_, fun c2 hc2 => ?_⟩
    · by_cases hcc : c2 = ch
      · subst hcc
        have hj : j2 = P.length := by
          have h1 : (P ++ [p ++ [c2]])[P.length]? = some (p ++ [c2]) := by simp
          have hlt2 := (List.getElem?_eq_some_iff.1 hj2).1
          have hlt1 := (List.getElem?_eq_some_iff.1 h1).1
          exact (List.getElem?_inj hlt2 h.pn).1 (hj2.trans h1.symm)
        subst hj
        exact ⟨Maps.has_put_same hN.is (by simp [WideAt.IsKeyLit]) _, Maps.atKey_put_same hN.is (by simp [WideAt.IsKeyLit]) _ _⟩
      · have hne : (Lit.int .u8 (c2.toNat : Int)) ≠ .int .u8 (ch.toNat : Int) := fun e => hcc (by
          injection e with _ e
          exact UInt8.toNat_inj.1 (by omega))
        have hcP : p ++ [c2] ∈ P := by
          rcases List.mem_append.1 hc2 with hx | hx
          · exact hx
          · exact absurd ((List.append_inj' (List.mem_singleton.1 hx) rfl).2) (by simpa using hcc)
        rw [Maps.has_put_other hne, Maps.atKey_put_other hne]
        exact hN.there c2 j2 hj2 hcP
    · have hcc : c2 ≠ ch := fun e => hc2 (by subst e; simp)
      have hne : (Lit.int .u8 (c2.toNat : Int)) ≠ .int .u8 (ch.toNat : Int) := fun e => hcc (by
        injection e with _ e
        exact UInt8.toNat_inj.1 (by omega))
      rw [Maps.has_put_other hne]
      exact hN.no c2 (fun hx => hc2 (List.mem_append.2 (.inl hx)))
  · obtain ⟨D2, hD2, hN2⟩ := h.maps j m2 r hm2 hr
    have hmm : m2 ≠ m := fun e => hij (by
      subst e
      have hlt := (List.getElem?_eq_some_iff.1 hm2).1
      exact (List.getElem?_inj hlt h.nd).1 (hm2.trans hm.symm))
    have hrp : r ≠ p := fun e => hij (by
      subst e
      have hlt := (List.getElem?_eq_some_iff.1 hr).1
      exact (List.getElem?_inj hlt h.pn).1 (hr.trans hp'.symm))
    refine ⟨D2, ((hD2.kept hgr (by intro e; injection e with e; exact hmm e)).mono (by rw [hl]; omega)), hN2.is, fun c2 j2 hj2 hc2 => ?_, fun c2 hc2 => hN2.no c2 (fun hx => hc2 (List.mem_append.2 (.inl hx)))⟩
    refine hN2.there c2 j2 hj2 ?_
    rcases List.mem_append.1 hc2 with hx | hx
    · exact hx
    · exact absurd ((List.append_inj' (List.mem_singleton.1 hx) rfl).1) hrp
end Go.Proofs.YtoacojkmclngmaaGreatDoor
/- (*trie.Trie).put: the walk. -/
namespace Go.Proofs.YtoacojkmclngmaaGreatDoor
open Go.RowKit Go.Proofs.YtoacojkmclngmaaGreatDoorW.PrintWords Go.Proofs.YtoacojkmclngmaaGreatDoorW.PrintLast Go.Proofs.YtoacojkmclngmaaGreatDoorW.PrintMore
set_option linter.unusedVariables false
set_option linter.unusedSimpArgs false
def putGo : List Path → List Int → Path → List UInt8 → List Path × List Int
  | P, wd, _, [] => (P, wd)
  | P, wd, p, c :: cs => if p ++ [c] ∈ P then putGo P wd (p ++ [c]) cs else putGo (P ++ [p ++ [c]]) (wd ++ [-1]) (p ++ [c]) cs
theorem infoNode : (Tryz.prog.info? 127).map (fun i => (i.zero, i.size, i.bytes)) = some (some (.agg #[.map none, .int .i64 0]), 2, 16) := by kernel_rfl
theorem take_snoc (l : List UInt8) (k : Nat) (h : k < l.length) : l.take (k + 1) = l.take k ++ [l[k]] := by
  rw [List.take_add_one, List.getElem?_eq_getElem h]; rfl
theorem cells_new2 (W : World) (a b : Value) (t : TypeId) (n : Nat) (hn : n = W.heap.size) : ∀ j u, [a, b][j]? = some u → (W.alloc (.cells #[a, b] t)).cell? ((⟨n, 0, none⟩ : Addr).add j) = some u := by
  subst hn
  intro j u hj
  rw [add_plain]
  match j, hj with
  | 0, hj => simp at hj; subst hj; exact (blk_cell (heap_alloc_new W _) 0).trans rfl
  | 1, hj => simp at hj; subst hj; exact (blk_cell (heap_alloc_new W _) 1).trans rfl
theorem BRow.same {W W1 : World} {g : Nat} {l : List UInt8} (h : BRow W g l) (e : W1.heap[g]? = W.heap[g]?) : BRow W1 g l := by
  obtain ⟨cur, hg, r⟩ := h.out
  exact ⟨cur, e.trans hg, r⟩
theorem BRow.ne_type {W : World} {g b : Nat} {l : List UInt8} {cs : Array Value} {e : TypeId} {fr : Nat × Nat} (h : BRow W g l) (hb : W.heap[b]? = some (.cells cs e fr)) (he : e ≠ 5) : g ≠ b := by
  rintro rfl
  obtain ⟨cur, hg, r⟩ := h.out
  rw [hg] at hb
  injection hb with hb
  injection hb with _ hb
  exact he hb.symm
theorem BRow.ne_map {W : World} {g m n : Nat} {l : List UInt8} {D : DataW Nat} (h : BRow W g l) (hD : W.ownsMap Tryz.prog 5 (plainElem Tryz.prog 3) m n D) : m ≠ g := by
  obtain ⟨cur, hg, r⟩ := h.out
  exact map_ne_cells hD hg
set_option maxHeartbeats 8000000 in
set_option maxRecDepth 100000 in
theorem put_calls (vw : Value) (w : World) (base t g c : Nat) (P : List Path) (ms : List Nat) (wd : List Int) (s : ByteArray) (x : Int) (hT : TrieAt vw w base t g c P P ms wd) (h0 : P[0]? = some []) (hbase : base ≤ w.heap.size) (hs : P.length + s.size ≤ 100000) (P' : List Path) (wd' : List Int) (hP : putGo P wd [] s.data.toList = (P', wd')) :
    Calls Tryz.prog 118 #[.pointer (some ⟨t, 0, none⟩), .string s, .int .i64 x] w fun e w' => ∃ (g' c' i : Nat) (ms' : List Nat), P'[i]? = some s.data.toList ∧ e = .returned (.bool (decide (wd'[i]? = some (-1)))) ∧ TrieAt vw w' base t g' c' P' P' ms' (wd'.set i x) ∧ Below base w w' := by
  have hconv := fun W => Lib.run_convert_string_bytes (P := Tryz.prog) W 9 58 5 s Tryz.underlying9 Tryz.underlying58 Tryz.underlying5
  have hmm := @run_makeMap Tryz.prog
  have HL : Aside0 (s.data.toList.length = s.size) := ⟨by rw [Array.length_toList]; rfl⟩
  obtain ⟨i0, hi, hz0, hz1, hz2⟩ := info_parts infoNode
  have HI := Aside0.mk (And.intro hi (And.intro hz0 (And.intro hz1 hz2)))
  have HTT := Aside0.mk hT
  have HPP := Aside0.mk hP
  have HB0 := Aside0.mk hbase
  clear hi hz0 hz1 hz2 hT hP hbase
  go_enter Tryz.func118, Tryz.ntmps118
  go_wp2
  have HR := Aside0.mk (BRow.conv w s)
  have HB := Aside0.mk (bytes_below (Below.refl base w) HB0.out 5 s)
  have HT1 := Aside0.mk (HTT.out.below (Lib.bytesWorld_below w 5 s))
  clear hconv
  generalize hW1 : Lib.bytesWorld w 5 s = w1 at HR HB HT1 ⊢
  generalize grownCap w s.size 0 5 = cap
  clear hW1
  go_loopw [16, 7] (fun v16 v7 wr => ∃ (k a gg cc : Nat) (Q : List Path) (mq : List Nat) (wq : List Int), k ≤ s.size ∧ v16 = .int .i64 k ∧ v7 = .int .i64 a ∧ Aside0 (Q[a]? = some (s.data.toList.take k)) ∧ Aside0 (putGo Q wq (s.data.toList.take k) (s.data.toList.drop k) = (P', wd')) ∧ Q.length + (s.size - k) ≤ 100000 ∧ Aside0 (TrieAt vw wr base t gg cc Q Q mq wq) ∧ Aside0 (BRow wr w.heap.size s.data.toList) ∧ Aside0 (Below base w wr)) (fun v16 _ _ => s.size - (intOf v16).toNat)
  case atStart => exact ⟨0, 0, g, c, P, ms, wd, Nat.zero_le _, rfl, rfl, ⟨h0⟩, HPP, by omega, HT1, HR, HB⟩
  case round =>
    obtain ⟨k, a, gg, cc, Q, mq, wq, hk, rfl, rfl, HA, HPQ, hlen, HT, HR2, HB2⟩ := hrel
    have haq : a < Q.length := (List.getElem?_eq_some_iff.1 HA.out).1
    obtain ⟨m, hm⟩ : ∃ m, mq[a]? = some m := ⟨_, List.getElem?_eq_getElem (by rw [HT.out.lm]; exact haq)⟩
    obtain ⟨y, hy⟩ : ∃ y, wq[a]? = some y := ⟨_, List.getElem?_eq_getElem (by rw [HT.out.lw]; exact haq)⟩
    obtain ⟨ct0, ct1, ft1⟩ := HT.out.cells
    obtain ⟨cn0, cn1, fn1⟩ := HT.out.node hm hy
    have HM := Aside0.mk hm
    have HY := Aside0.mk hy
    clear hm hy
    by_cases hlt : k < s.size
    · have hkl : k < s.data.toList.length := by rw [HL.out]; exact hlt
      obtain ⟨ch, hch⟩ : ∃ ch, ch = s.data.toList[k] := ⟨_, rfl⟩
      have hcell : wr.cell? ⟨w.heap.size, k, none⟩ = some (.int .u8 ch.toNat) := by rw [HR2.out.cell hkl, hch]
      have htk : s.data.toList.take (k + 1) = s.data.toList.take k ++ [ch] := by rw [take_snoc _ _ hkl, hch]
      have hdk : s.data.toList.drop k = ch :: s.data.toList.drop (k + 1) := by rw [List.drop_eq_getElem_cons hkl, hch]
      have hstep := HPQ.out
      rw [hdk, putGo, ← htk] at hstep
      have HST := Aside0.mk hstep
      have HTK := Aside0.mk htk
      have hkey := Aside0.mk (key_u8 ch)
      have HZ3 : Aside0 (∀ w : World, (zeroValue 3).run Tryz.prog w = .ok (.int .i64 0) w) := ⟨fun w => by kernel_rfl⟩
      obtain ⟨D, hD, hN⟩ := HT.out.maps a m _ HM.out HA.out
      have HD := Aside0.mk hD
      have HN := Aside0.mk hN
      clear hch hdk hstep hkl HPQ hD hN htk
      by_cases hin : s.data.toList.take (k + 1) ∈ Q
      · obtain ⟨j, hj, hje⟩ := List.getElem_of_mem hin
        have hje2 : Q[j]? = some (s.data.toList.take k ++ [ch]) := by rw [List.getElem?_eq_getElem hj, hje, HTK.out]
        have hth := HN.out.there ch j hje2 (HTK.out ▸ hin)
        have h := HST.out
        rw [if_pos hin] at h
        have HP2 := Aside0.mk h
        have HJ : Aside0 (Q[j]? = some (s.data.toList.take (k + 1))) := ⟨by rw [hje2, HTK.out]⟩
        have hhas := hth.1
        have HAT := Aside0.mk hth.2
        clear h hje hje2 hth hin HST hj
        go_wp2_with (first | (at_lookup; refine wpList_lookup_own_ok_int _ rfl _ _ 125 rfl 5 3 .i64 (Maps.int_keyed Tryz.underlying5) Tryz.underlying125 Tryz.underlying3 (HZ3.out _) m Q.length D rfl HD.out _ _ rfl hkey.out ?_; intro cv hat hwc; rw [HAT.out] at hat; obtain rfl : cv = (j : Int) := (by injection hat with hat; injection hat with _ hat; exact hat.symm); clear hat hwc))
        go_roundw
        case rel => exact ⟨k + 1, j, gg, cc, Q, mq, wq, by omega, by go_num, rfl, HJ, HP2, by omega, HT, HR2, HB2⟩
        case measure => first | (simp [intOf]; done) | (simp [intOf]; omega)
      · have hno := HN.out.no ch (HTK.out ▸ hin)
        have h := HST.out
        rw [if_neg hin] at h
        have HP2 := Aside0.mk h
        have HIN := Aside0.mk hin
        clear h hin HST
        have hge : base ≤ wr.heap.size := Nat.le_trans HT.out.tge (Nat.le_of_lt (Array.getElem?_eq_some_iff.1 HT.out.box).1)
        have HGE := Aside0.mk hge
        have hsz : (wr.alloc (.map #[] 0)).heap.size = wr.heap.size + 1 := World.size_alloc _ _
        have HSZ := Aside0.mk hsz
        clear hge hsz
        go_upto_region 9 with (first | (at_lookup; refine wpList_lookup_own_ok_int _ rfl _ _ 125 rfl 5 3 .i64 (Maps.int_keyed Tryz.underlying5) Tryz.underlying125 Tryz.underlying3 (HZ3.out _) m Q.length D rfl HD.out _ _ rfl hkey.out ?_; intro cv hat hwc; clear hat hwc) | ((with_reducible refine gate_builtin (b := .append) (xs := #[.tmp 44, .tmp 47]) rfl ?_); at_builtin; refine wpList_append_own_at _ rfl _ _ 128 rfl base 127 i0 (.agg #[.map none, .int .i64 0]) 2 16 Tryz.underlying128 HI.out.1 HI.out.2.1 HI.out.2.2.1 HI.out.2.2.2 rfl (by decide) _ _ _ rfl ((HT.out.row.alloc _).alloc _) ⟨wr.heap.size + 1, 0, none⟩ 1 1 [.map (some wr.heap.size), .int .i64 (-1)] rfl rfl (cells_new2 _ _ _ _ _ HSZ.out.symm) (by simp [Value.oneCell']) (by unfold maxLen; omega) (by omega) (by have := HGE.out; simp; omega) ?_; intro v' w3 hown' hgrow hnil hat; obtain ⟨g', c', rfl⟩ := ownsRow_succ hown'; have HO3 := Aside0.mk hown'; have HG3 := Aside0.mk hgrow; have hbx := (hgrow.block t (Array.getElem?_eq_some_iff.1 ((HT.out.alloc _).alloc _).box).1 (by intro e; injection e with e; exact absurd e (by obtain ⟨cur, hg, _⟩ := HT.out.rowblk; rintro rfl; have hb := HT.out.box; rw [hg] at hb; injection hb with hb; injection hb with _ hb; exact absurd hb (by decide)))).trans ((HT.out.alloc _).alloc _).box; have HBX := Aside0.mk hbx; have cb1 := (blk_cell hbx 1).trans rfl; have fb1 := blk_frozen hbx 1; clear hown' hgrow hnil hat hbx))
        have HX := Aside0.mk (HT.out.addRow (s.data.toList.take (k + 1)) HIN.out (s.data.toList.take k) ch HTK.out (List.mem_of_getElem? HA.out) HGE.out HO3.out HG3.out)
        obtain ⟨W4, hW4⟩ : ∃ W4, W4 = w3.setCell ⟨t, 1, none⟩ (.slice (some ⟨g', 0, none⟩) (Q.length + 1) c') := ⟨_, rfl⟩
        rw [← hW4] at HX ⊢
        have HB3 := Aside0.mk (show Below base w W4 from by
          rw [hW4]
          have h1 := (HB2.out.alloc HGE.out (.map #[] 0)).alloc (by rw [World.size_alloc]; have := HGE.out; omega) (.cells #[.map (some wr.heap.size), .int .i64 (-1)] 127)
          refine (h1.grown HG3.out (by rw [World.size_alloc, World.size_alloc]; have := HGE.out; omega) (fun q hq => ?_)).setCell (p := ⟨t, 1, none⟩) HT.out.tge _
          cases hq
          obtain ⟨cur, _, hb, _⟩ := HT.out.rowblk
          exact hb)
        clear hW4
        have HT4 := Aside0.mk HX.out.1
        have HR4 := Aside0.mk (HR2.out.same (HX.out.2.2 w.heap.size (by obtain ⟨cur, hg, _⟩ := HR2.out.out; exact blk_lt hg) (by obtain ⟨cur, hg, _⟩ := HT.out.rowblk; exact HR2.out.ne_type hg (by decide)) (HR2.out.ne_type HT.out.box (by decide))))
        have HM4 : Aside0 ((mq ++ [wr.heap.size])[a]? = some m) := ⟨by rw [List.getElem?_append_left (by rw [HT.out.lm]; exact haq)]; exact HM.out⟩
        have HY4 : Aside0 ((wq ++ [-1])[a]? = some y) := ⟨by rw [List.getElem?_append_left (by rw [HT.out.lw]; exact haq)]; exact HY.out⟩
        have HA4 : Aside0 ((Q ++ [s.data.toList.take (k + 1)])[a]? = some (s.data.toList.take k)) := ⟨by rw [List.getElem?_append_left haq]; exact HA.out⟩
        obtain ⟨D4, hD4, hN4⟩ := HT4.out.maps a m _ HM4.out HA4.out
        have HD4 := Aside0.mk hD4
        have HN4 := Aside0.mk hN4
        obtain ⟨du0, du1, gu1⟩ := HT4.out.cells
        obtain ⟨dn0, dn1, gn1⟩ := HT4.out.node HM4.out HY4.out
        rw [List.length_append, List.length_singleton] at du1
        have haq2 : a < Q.length + 1 := by omega
        have HQM : Aside0 (Q.length < maxLen) := ⟨by unfold maxLen; omega⟩
        have HQW : Aside0 (-9223372036854775808 ≤ (Q.length : Int) ∧ (Q.length : Int) ≤ 9223372036854775807) := ⟨by omega⟩
        clear hD4 hN4 ct0 ct1 ft1 cn0 cn1 fn1 hcell
        go_wp2_with (first | (at_mapUpdate; refine wpList_mapUpdate_own _ rfl _ _ _ 125 rfl 5 3 (Maps.int_keyed Tryz.underlying5) Tryz.underlying125 _ m Q.length _ rfl HD4.out HQM.out _ _ _ rfl rfl hkey.out _ [] (plainElem_int Tryz.underlying3 (WalkArith.wf_i64 HQW.out)) ?_; intro w5 hown5 hgrow5; have HO5 := Aside0.mk hown5; have HG5 := Aside0.mk hgrow5; clear hown5 hgrow5))
        have HP3 := HP2.out
        have HQE := Aside0.mk HTK.out
        have HT5 : Aside0 (TrieAt vw w5 base t g' c' (Q ++ [s.data.toList.take (k + 1)]) (Q ++ [s.data.toList.take (k + 1)]) (mq ++ [wr.heap.size]) (wq ++ [-1])) := by
          have h4 := HT4.out
          have hn := HN4.out
          rw [HTK.out] at h4 hn ⊢
          exact ⟨h4.addKey HM4.out HA.out hn HO5.out HG5.out⟩
        have HMG : Aside0 (base ≤ m) := ⟨HT.out.mge m (List.mem_of_getElem? HM.out)⟩
        go_roundw
        case rel =>
          refine ⟨k + 1, Q.length, g', c', Q ++ [s.data.toList.take (k + 1)], mq ++ [wr.heap.size], wq ++ [-1], by omega, by go_num, rfl, ⟨by simp⟩, ⟨HP3⟩, by rw [List.length_append, List.length_singleton]; omega, HT5, ⟨HR4.out.same (HG5.out.block _ (by obtain ⟨cur, hg, _⟩ := HR4.out.out; exact blk_lt hg) (by intro e; injection e with e; exact HR4.out.ne_map HD4.out e.symm))⟩, ⟨HB3.out.grown HG5.out (Nat.le_trans HB0.out HB3.out.size) (fun q hq => by cases hq; exact HMG.out)⟩⟩
        case measure => first | (simp [intOf]; done) | (simp [intOf]; omega)
    · have : k = s.size := by omega
      subst this
      have hfin := HPQ.out
      rw [List.drop_of_length_le (by rw [HL.out]; exact Nat.le_refl _), putGo] at hfin
      injection hfin with e1 e2
      subst e1 e2
      have HA2 : Aside0 (Q[a]? = some s.data.toList) := ⟨by rw [HA.out, List.take_of_length_le (by rw [HL.out]; exact Nat.le_refl _)]⟩
      by_cases hy1 : y = -1
      · subst hy1
        go_wp2
        go_ret
        exact ⟨gg, cc, a, mq, HA2.out, by rw [HY.out]; simp, HT.out.setWord a haq x, HB2.out.setCell (p := ⟨gg, a * 2 + 1, none⟩) (by obtain ⟨cur, _, hb, _⟩ := HT.out.rowblk; exact hb) _⟩
      · have hyb : (y != -1) = true := by simpa using hy1
        go_wp2
        go_ret
        exact ⟨gg, cc, a, mq, HA2.out, by rw [HY.out]; simp [hy1], HT.out.setWord a haq x, HB2.out.setCell (p := ⟨gg, a * 2 + 1, none⟩) (by obtain ⟨cur, _, hb, _⟩ := HT.out.rowblk; exact hb) _⟩
end Go.Proofs.YtoacojkmclngmaaGreatDoor
