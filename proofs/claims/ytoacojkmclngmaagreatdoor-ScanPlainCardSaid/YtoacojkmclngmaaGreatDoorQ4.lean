/- Texts of the session, one behind the other: what the code computes, function by function, and its contracts. -/
import Derived.Laws.BytesString
import Derived.Lib.ConvBytes
import Derived.Deep.RegionHeld3
import Derived.Laws.EntriesVeiled
import Derived.Lib.OthersKept
import Derived.Laws.RangeAny
import Derived.Laws.RangeString
import Derived.Lib.RuneCount
import Derived.Shelf.Strings.SlTrimAscii
import Derived.Test.YtoacojkmclngmaaGreatDoorQ1
import Derived.Test.YtoacojkmclngmaaGreatDoorQ2
import Derived.Test.YtoacojkmclngmaaGreatDoorQ3
-- written by the session's own program hookprint.py
namespace Go.Proofs.YtoacojkmclngmaaGreatDoor.Pz
open Go.RowKit Go.Proofs.YtoacojkmclngmaaGreatDoorW.PrintWords Go.Proofs.YtoacojkmclngmaaGreatDoorW.PrintLast Go.Proofs.YtoacojkmclngmaaGreatDoorW.PrintMore
attribute [local go_sem] max2_int min2_int max_two min_two max_three min_three max_four min_four   -- for this text's walks alone
attribute [local go_sem] rune_str
set_option linter.unusedVariables false
set_option linter.unusedSimpArgs false

/-! ### scan_mode_text: function 78 -/
def scan_mode_text.f (a0_0 : ByteArray) (a0_1 : Int) (a1 : ByteArray) : Option (ByteArray) := if a0_1 = 0 then (if a0_1 < 2 then ((charref_Decode.f a1 false).bind fun t124 => (some t124)) else (some a1)) else ((scan_heal.f a1).bind fun t125 => (if a0_1 < 2 then ((charref_Decode.f t125 false).bind fun t126 => (some t126)) else (some t125)))
set_option maxHeartbeats 8000000 in
set_option maxRecDepth 100000 in
theorem scan_mode_text.calls (a0_0 : ByteArray) (a0_1 : Int) (a1 : ByteArray) (r : ByteArray) (w : World) (hG : Glob w) (h : scan_mode_text.f a0_0 a0_1 a1 = some r) :
    Calls Tryz.prog 78 #[.agg #[.string a0_0, .int .i64 a0_1], .string a1] w fun e w' => e = .returned (.string r) ∧ Below w.heap.size w w' := by
  have hu54 := Tryz.underlying54
  have HB := Aside0.mk (Below.refl w.heap.size w)
  have H : (if a0_1 = 0 then (if a0_1 < 2 then ((charref_Decode.f a1 false).bind fun t124 => (some t124)) else (some a1)) else ((scan_heal.f a1).bind fun t125 => (if a0_1 < 2 then ((charref_Decode.f t125 false).bind fun t126 => (some t126)) else (some t125)))) = some r := h
  clear h
  by_cases c3 : a0_1 = 0
  · rw [if_pos c3] at H
    have c3b0 : (a0_1 == 0) = true := beq_iff_eq.mpr c3
    have c3b1 : (a0_1 != 0) = false := bne_eq_false_iff_eq.mpr c3
    clear c3
    by_cases c4 : a0_1 < 2
    · rw [if_pos c4] at H
      have c4b0 : decide (a0_1 < 2) = true := decide_eq_true c4
      clear c4
      replace H := Option.bind_eq_some_iff.mp H
      obtain ⟨t124, A50, H⟩ := H
      replace H : (some t124) = some r := H
      have A5 := Aside0.mk A50
      clear A50
      obtain rfl := Option.some.inj H
      go_enter Tryz.func78, Tryz.ntmps78
      go_wp2_with (first | ((with_reducible refine gate_dst (N := 2) rfl ?_); refine box_event ?hg (N := 2) ?hd (cs := #[.string a0_0, .int .i64 a0_1]) (t := 54) ?hr ?_; (case hd => rfl); (case hg => rfl); (case hr => first | (go_simp; done) | (go_simp; rfl)); intro gb123 hg w6 hbox hb; have n0_ := Aside0.mk (below_step (by repeat (first | (with_reducible first | exact HB.out | apply below_alloc | apply pw_below_drewN | apply below_drew1) | exact HB.out)) hb); have n1_ := Aside0.mk (hbox); have n2_ := Aside0.mk ((by rw [hg]; exact (below_size (by repeat (first | (with_reducible first | exact HB.out | apply below_alloc | apply pw_below_drewN | apply below_drew1) | exact HB.out))) : w.heap.size ≤ gb123)); have n3_ := Aside0.mk ((by rw [hg]; exact (below_size (by repeat (first | (with_reducible first | exact HB.out | apply below_alloc | apply pw_below_drewN | apply below_drew1) | exact HB.out))) : w.heap.size ≤ gb123)); clear HB; have HB := n0_; have BK123 := n1_; have GW123 := n2_; have GE123 := n3_; clear n0_ n1_ n2_ n3_; clear hb hbox hg; have hcz7_0 : w6.cell? ⟨gb123, 0, none⟩ = some (.string a0_0) := (blk_cell BK123.out 0).trans rfl; have hcz7_1 : w6.cell? ⟨gb123, 1, none⟩ = some (.int .i64 a0_1) := (blk_cell BK123.out 1).trans rfl; have hfz7_0 := blk_frozen BK123.out 0; have hfz7_1 := blk_frozen BK123.out 1) | ((with_reducible refine gate_callee (f := 25) rfl ?_); refine goesL_ (some 14) rfl rfl Tryz.func25 (by kernel_rfl) rfl #[.string a1, .bool false] rfl (by (try simp only [List.map_toArray, List.map_cons, List.map_nil]); first | done | rfl | (simp only [List.length_drop, List.length_take]; rfl)) ?_; (with_reducible refine (charref_Decode.calls a1 false t124 _ ?side1 A5.out).mono ?_); (case side1 => exact Glob.below hG (by repeat (first | (with_reducible first | exact HB.out | apply below_alloc | apply pw_below_drewN | apply below_drew1 | refine below_set ?_ GE123.out) | exact HB.out))); rintro e w8 ⟨rfl, hb⟩; refine ⟨_, rfl, ?_⟩; have n0_ := Aside0.mk (blk_below (g := gb123) (o := .cells #[.string a0_0, .int .i64 a0_1] 54 (0, 0)) (by (with_reducible repeat (first | refine blk_drewN ?_ _ | refine blk_drew ?_ | refine blk_alloc ?_ _)); exact BK123.out) hb); have n1_ := Aside0.mk (below_step (by repeat (first | (with_reducible first | exact HB.out | apply below_alloc | apply pw_below_drewN | apply below_drew1 | refine below_set ?_ GE123.out) | exact HB.out)) hb); clear BK123; clear HB; have BK123 := n0_; have HB := n1_; clear n0_ n1_; (try clear hb); (try clear hb2); (try clear hk); (try clear hi)))
      go_ret
      exact ⟨by first | rfl | (simp [errW_none, errW_some] <;> rfl) | (simp [*, errW_none, errW_some] <;> rfl), by repeat (first | (with_reducible first | exact HB.out | apply below_alloc | apply pw_below_drewN | apply below_drew1 | refine below_set ?_ GE123.out) | exact HB.out)⟩
    · rw [if_neg c4] at H
      have c4b0 : decide (a0_1 < 2) = false := decide_eq_false c4
      clear c4
      obtain rfl := Option.some.inj H
      go_enter Tryz.func78, Tryz.ntmps78
      go_wp2_with (first | ((with_reducible refine gate_dst (N := 2) rfl ?_); refine box_event ?hg (N := 2) ?hd (cs := #[.string a0_0, .int .i64 a0_1]) (t := 54) ?hr ?_; (case hd => rfl); (case hg => rfl); (case hr => first | (go_simp; done) | (go_simp; rfl)); intro gb123 hg w9 hbox hb; have n0_ := Aside0.mk (below_step (by repeat (first | (with_reducible first | exact HB.out | apply below_alloc | apply pw_below_drewN | apply below_drew1) | exact HB.out)) hb); have n1_ := Aside0.mk (hbox); have n2_ := Aside0.mk ((by rw [hg]; exact (below_size (by repeat (first | (with_reducible first | exact HB.out | apply below_alloc | apply pw_below_drewN | apply below_drew1) | exact HB.out))) : w.heap.size ≤ gb123)); have n3_ := Aside0.mk ((by rw [hg]; exact (below_size (by repeat (first | (with_reducible first | exact HB.out | apply below_alloc | apply pw_below_drewN | apply below_drew1) | exact HB.out))) : w.heap.size ≤ gb123)); clear HB; have HB := n0_; have BK123 := n1_; have GW123 := n2_; have GE123 := n3_; clear n0_ n1_ n2_ n3_; clear hb hbox hg; have hcz10_0 : w9.cell? ⟨gb123, 0, none⟩ = some (.string a0_0) := (blk_cell BK123.out 0).trans rfl; have hcz10_1 : w9.cell? ⟨gb123, 1, none⟩ = some (.int .i64 a0_1) := (blk_cell BK123.out 1).trans rfl; have hfz10_0 := blk_frozen BK123.out 0; have hfz10_1 := blk_frozen BK123.out 1))
      go_ret
      exact ⟨by first | rfl | (simp [errW_none, errW_some] <;> rfl) | (simp [*, errW_none, errW_some] <;> rfl), by repeat (first | (with_reducible first | exact HB.out | apply below_alloc | apply pw_below_drewN | apply below_drew1 | refine below_set ?_ GE123.out) | exact HB.out)⟩
  · rw [if_neg c3] at H
    have c3b0 : (a0_1 == 0) = false := beq_eq_false_iff_ne.mpr c3
    have c3b1 : (a0_1 != 0) = true := bne_iff_ne.mpr c3
    replace H := Option.bind_eq_some_iff.mp H
    obtain ⟨t125, A110, H⟩ := H
    replace H : (if a0_1 < 2 then ((charref_Decode.f t125 false).bind fun t126 => (some t126)) else (some t125)) = some r := H
    have A11 := Aside0.mk A110
    clear A110
    by_cases c12 : a0_1 < 2
    · rw [if_pos c12] at H
      have c12b0 : decide (a0_1 < 2) = true := decide_eq_true c12
      clear c12
      replace H := Option.bind_eq_some_iff.mp H
      obtain ⟨t126, A130, H⟩ := H
      replace H : (some t126) = some r := H
      have A13 := Aside0.mk A130
      clear A130
      obtain rfl := Option.some.inj H
      go_enter Tryz.func78, Tryz.ntmps78
      go_wp2_with (first | ((with_reducible refine gate_dst (N := 2) rfl ?_); refine box_event ?hg (N := 2) ?hd (cs := #[.string a0_0, .int .i64 a0_1]) (t := 54) ?hr ?_; (case hd => rfl); (case hg => rfl); (case hr => first | (go_simp; done) | (go_simp; rfl)); intro gb123 hg w14 hbox hb; have n0_ := Aside0.mk (below_step (by repeat (first | (with_reducible first | exact HB.out | apply below_alloc | apply pw_below_drewN | apply below_drew1) | exact HB.out)) hb); have n1_ := Aside0.mk (hbox); have n2_ := Aside0.mk ((by rw [hg]; exact (below_size (by repeat (first | (with_reducible first | exact HB.out | apply below_alloc | apply pw_below_drewN | apply below_drew1) | exact HB.out))) : w.heap.size ≤ gb123)); have n3_ := Aside0.mk ((by rw [hg]; exact (below_size (by repeat (first | (with_reducible first | exact HB.out | apply below_alloc | apply pw_below_drewN | apply below_drew1) | exact HB.out))) : w.heap.size ≤ gb123)); clear HB; have HB := n0_; have BK123 := n1_; have GW123 := n2_; have GE123 := n3_; clear n0_ n1_ n2_ n3_; clear hb hbox hg; have hcz15_0 : w14.cell? ⟨gb123, 0, none⟩ = some (.string a0_0) := (blk_cell BK123.out 0).trans rfl; have hcz15_1 : w14.cell? ⟨gb123, 1, none⟩ = some (.int .i64 a0_1) := (blk_cell BK123.out 1).trans rfl; have hfz15_0 := blk_frozen BK123.out 0; have hfz15_1 := blk_frozen BK123.out 1) | ((with_reducible refine gate_callee (f := 109) rfl ?_); refine goesL_ (some 9) rfl rfl Tryz.func109 (by kernel_rfl) rfl #[.string a1] rfl (by (try simp only [List.map_toArray, List.map_cons, List.map_nil]); first | done | rfl | (simp only [List.length_drop, List.length_take]; rfl)) ?_; (with_reducible refine (scan_heal.calls a1 t125 _ ?side1 A11.out).mono ?_); (case side1 => exact Glob.below hG (by repeat (first | (with_reducible first | exact HB.out | apply below_alloc | apply pw_below_drewN | apply below_drew1 | refine below_set ?_ GE123.out) | exact HB.out))); rintro e w16 ⟨rfl, hb⟩; refine ⟨_, rfl, ?_⟩; have n0_ := Aside0.mk (blk_below (g := gb123) (o := .cells #[.string a0_0, .int .i64 a0_1] 54 (0, 0)) (by (with_reducible repeat (first | refine blk_drewN ?_ _ | refine blk_drew ?_ | refine blk_alloc ?_ _)); exact BK123.out) hb); have n1_ := Aside0.mk (below_step (by repeat (first | (with_reducible first | exact HB.out | apply below_alloc | apply pw_below_drewN | apply below_drew1 | refine below_set ?_ GE123.out) | exact HB.out)) hb); clear BK123; clear HB; have BK123 := n0_; have HB := n1_; clear n0_ n1_; (try clear hb); (try clear hb2); (try clear hk); (try clear hi); have hcz17_0 : w16.cell? ⟨gb123, 0, none⟩ = some (.string a0_0) := (blk_cell BK123.out 0).trans rfl; have hcz17_1 : w16.cell? ⟨gb123, 1, none⟩ = some (.int .i64 a0_1) := (blk_cell BK123.out 1).trans rfl; have hfz17_0 := blk_frozen BK123.out 0; have hfz17_1 := blk_frozen BK123.out 1) | ((with_reducible refine gate_callee (f := 25) rfl ?_); refine goesL_ (some 14) rfl rfl Tryz.func25 (by kernel_rfl) rfl #[.string t125, .bool false] rfl (by (try simp only [List.map_toArray, List.map_cons, List.map_nil]); first | done | rfl | (simp only [List.length_drop, List.length_take]; rfl)) ?_; (with_reducible refine (charref_Decode.calls t125 false t126 _ ?side1 A13.out).mono ?_); (case side1 => exact Glob.below hG (by repeat (first | (with_reducible first | exact HB.out | apply below_alloc | apply pw_below_drewN | apply below_drew1 | refine below_set ?_ GE123.out) | exact HB.out))); rintro e w18 ⟨rfl, hb⟩; refine ⟨_, rfl, ?_⟩; have n0_ := Aside0.mk (blk_below (g := gb123) (o := .cells #[.string a0_0, .int .i64 a0_1] 54 (0, 0)) (by (with_reducible repeat (first | refine blk_drewN ?_ _ | refine blk_drew ?_ | refine blk_alloc ?_ _)); exact BK123.out) hb); have n1_ := Aside0.mk (below_step (by repeat (first | (with_reducible first | exact HB.out | apply below_alloc | apply pw_below_drewN | apply below_drew1 | refine below_set ?_ GE123.out) | exact HB.out)) hb); clear BK123; clear HB; have BK123 := n0_; have HB := n1_; clear n0_ n1_; (try clear hb); (try clear hb2); (try clear hk); (try clear hi)))
      go_ret
      exact ⟨by first | rfl | (simp [errW_none, errW_some] <;> rfl) | (simp [*, errW_none, errW_some] <;> rfl), by repeat (first | (with_reducible first | exact HB.out | apply below_alloc | apply pw_below_drewN | apply below_drew1 | refine below_set ?_ GE123.out) | exact HB.out)⟩
    · rw [if_neg c12] at H
      have c12b0 : decide (a0_1 < 2) = false := decide_eq_false c12
      clear c12
      obtain rfl := Option.some.inj H
      go_enter Tryz.func78, Tryz.ntmps78
      go_wp2_with (first | ((with_reducible refine gate_dst (N := 2) rfl ?_); refine box_event ?hg (N := 2) ?hd (cs := #[.string a0_0, .int .i64 a0_1]) (t := 54) ?hr ?_; (case hd => rfl); (case hg => rfl); (case hr => first | (go_simp; done) | (go_simp; rfl)); intro gb123 hg w19 hbox hb; have n0_ := Aside0.mk (below_step (by repeat (first | (with_reducible first | exact HB.out | apply below_alloc | apply pw_below_drewN | apply below_drew1) | exact HB.out)) hb); have n1_ := Aside0.mk (hbox); have n2_ := Aside0.mk ((by rw [hg]; exact (below_size (by repeat (first | (with_reducible first | exact HB.out | apply below_alloc | apply pw_below_drewN | apply below_drew1) | exact HB.out))) : w.heap.size ≤ gb123)); have n3_ := Aside0.mk ((by rw [hg]; exact (below_size (by repeat (first | (with_reducible first | exact HB.out | apply below_alloc | apply pw_below_drewN | apply below_drew1) | exact HB.out))) : w.heap.size ≤ gb123)); clear HB; have HB := n0_; have BK123 := n1_; have GW123 := n2_; have GE123 := n3_; clear n0_ n1_ n2_ n3_; clear hb hbox hg; have hcz20_0 : w19.cell? ⟨gb123, 0, none⟩ = some (.string a0_0) := (blk_cell BK123.out 0).trans rfl; have hcz20_1 : w19.cell? ⟨gb123, 1, none⟩ = some (.int .i64 a0_1) := (blk_cell BK123.out 1).trans rfl; have hfz20_0 := blk_frozen BK123.out 0; have hfz20_1 := blk_frozen BK123.out 1) | ((with_reducible refine gate_callee (f := 109) rfl ?_); refine goesL_ (some 9) rfl rfl Tryz.func109 (by kernel_rfl) rfl #[.string a1] rfl (by (try simp only [List.map_toArray, List.map_cons, List.map_nil]); first | done | rfl | (simp only [List.length_drop, List.length_take]; rfl)) ?_; (with_reducible refine (scan_heal.calls a1 t125 _ ?side1 A11.out).mono ?_); (case side1 => exact Glob.below hG (by repeat (first | (with_reducible first | exact HB.out | apply below_alloc | apply pw_below_drewN | apply below_drew1 | refine below_set ?_ GE123.out) | exact HB.out))); rintro e w21 ⟨rfl, hb⟩; refine ⟨_, rfl, ?_⟩; have n0_ := Aside0.mk (blk_below (g := gb123) (o := .cells #[.string a0_0, .int .i64 a0_1] 54 (0, 0)) (by (with_reducible repeat (first | refine blk_drewN ?_ _ | refine blk_drew ?_ | refine blk_alloc ?_ _)); exact BK123.out) hb); have n1_ := Aside0.mk (below_step (by repeat (first | (with_reducible first | exact HB.out | apply below_alloc | apply pw_below_drewN | apply below_drew1 | refine below_set ?_ GE123.out) | exact HB.out)) hb); clear BK123; clear HB; have BK123 := n0_; have HB := n1_; clear n0_ n1_; (try clear hb); (try clear hb2); (try clear hk); (try clear hi); have hcz22_0 : w21.cell? ⟨gb123, 0, none⟩ = some (.string a0_0) := (blk_cell BK123.out 0).trans rfl; have hcz22_1 : w21.cell? ⟨gb123, 1, none⟩ = some (.int .i64 a0_1) := (blk_cell BK123.out 1).trans rfl; have hfz22_0 := blk_frozen BK123.out 0; have hfz22_1 := blk_frozen BK123.out 1))
      go_ret
      exact ⟨by first | rfl | (simp [errW_none, errW_some] <;> rfl) | (simp [*, errW_none, errW_some] <;> rfl), by repeat (first | (with_reducible first | exact HB.out | apply below_alloc | apply pw_below_drewN | apply below_drew1 | refine below_set ?_ GE123.out) | exact HB.out)⟩

end Go.Proofs.YtoacojkmclngmaaGreatDoor.Pz

-- written by the session's own program hookprint.py
namespace Go.Proofs.YtoacojkmclngmaaGreatDoor.Pz
open Go.RowKit Go.Proofs.YtoacojkmclngmaaGreatDoorW.PrintWords Go.Proofs.YtoacojkmclngmaaGreatDoorW.PrintLast Go.Proofs.YtoacojkmclngmaaGreatDoorW.PrintMore
attribute [local go_sem] max2_int min2_int max_two min_two max_three min_three max_four min_four   -- for this text's walks alone
attribute [local go_sem] rune_str
set_option linter.unusedVariables false
set_option linter.unusedSimpArgs false

/-! ### class_Lower: function 132 (by hand) -/
-- IMPORTS: @S@HandWords Derived.Laws.BytesString Derived.Lib.ConvBytes
theorem bits_or32 (c : UInt8) : bits BinOp.or IntKind.u8 (c.toNat : Int) 32 = ((c ||| 32).toNat : Int) := by
  have h : ∀ n : Fin 256, bits BinOp.or IntKind.u8 ((UInt8.ofNat n.val).toNat : Int) 32 = (((UInt8.ofNat n.val) ||| 32).toNat : Int) := by decide +kernel
  have := h ⟨c.toNat, c.toNat_lt⟩
  simpa using this
def low (c : UInt8) : UInt8 := if 65 ≤ c.toNat ∧ c.toNat ≤ 90 then c ||| 32 else c
def lowerB (a : ByteArray) : ByteArray := ⟨(a.data.toList.map low).toArray⟩
def class_Lower.f (a0 : ByteArray) : Option ByteArray := if a0.size ≤ 140737488355328 then some (lowerB a0) else none
/-- the first k bytes lowered, the others as they were -/
def lowTo (l : List UInt8) (k : Nat) : List UInt8 := (l.take k).map low ++ l.drop k
theorem lowTo_length (l : List UInt8) (k : Nat) : (lowTo l k).length = l.length := by simp [lowTo]; omega
theorem lowTo_at (l : List UInt8) (k : Nat) (h : k < l.length) : (lowTo l k)[k]'(by rw [lowTo_length]; exact h) = l[k] := by
  simp [lowTo, List.getElem_append, Nat.min_eq_left (Nat.le_of_lt h)]
theorem lowTo_set (l : List UInt8) (k : Nat) (h : k < l.length) : (lowTo l k).set k (low l[k]) = lowTo l (k + 1) := by
  apply List.ext_getElem
  · simp [lowTo]; omega
  · intro i h1 h2
    simp only [List.length_set, lowTo_length] at h1
    simp only [lowTo, List.getElem_set, List.getElem_append, List.length_map, List.length_take, List.getElem_map, List.getElem_take, List.getElem_drop]
    by_cases e : k = i
    · subst e; simp; omega
    · by_cases h3 : i < k
      · simp [e, show i < min k l.length by omega, show i < min (k+1) l.length by omega]
      · have e1 : ¬ i < min k l.length := by omega
        have e2 : ¬ i < min (k+1) l.length := by omega
        simp only [e, if_false, dif_neg e1, dif_neg e2]
        congr 1
        omega
theorem lowTo_same (l : List UInt8) (k : Nat) (h : k < l.length) (hl : low l[k] = l[k]) : lowTo l (k + 1) = lowTo l k := by
  rw [← lowTo_set l k h, hl, ← lowTo_at l k h, List.set_getElem_self]
set_option maxHeartbeats 1000000 in
theorem class_Lower.calls (a0 : ByteArray) (r : ByteArray) (w : World) (h : class_Lower.f a0 = some r) :
    Calls Tryz.prog 132 #[.string a0] w fun e w' => e = .returned (.string r) ∧ Below w.heap.size w w' := by
  unfold class_Lower.f at h
  split at h
  case isFalse => cases h
  rename_i hsz
  obtain rfl := Option.some.inj h
  clear h
  have hconv := fun W => Lib.run_convert_string_bytes (P := Tryz.prog) W 9 58 5 a0 Tryz.underlying9 Tryz.underlying58 Tryz.underlying5
  go_enter Tryz.func132, Tryz.ntmps132
  go_wp2
  clear hconv
  have HL : Aside0 (a0.data.toList.length = a0.size) := ⟨by rw [Array.length_toList]; rfl⟩
  have HR := Aside0.mk (BRow.conv w a0)
  have HB := Aside0.mk (bytes_below (Below.refl w.heap.size w) (Nat.le_refl _) 5 a0)
  generalize Lib.bytesWorld w 5 a0 = w1 at HR HB ⊢
  generalize grownCap w a0.size 0 5 = cap
  go_loopw [10] (fun i wr => ∃ k : Nat, k ≤ a0.size ∧ i = .int .i64 k ∧ Aside0 (BRow wr w.heap.size (lowTo a0.data.toList k)) ∧ Aside0 (Below w.heap.size w wr)) (fun i _ => a0.size - (intOf i).toNat)
  case atStart => exact ⟨0, Nat.zero_le _, rfl, ⟨by simpa [lowTo] using HR.out⟩, HB⟩
  case round =>
    obtain ⟨k, hk, rfl, hr, hb⟩ := hrel
    by_cases hlt : k < a0.size
    · have hkl : k < a0.data.toList.length := by rw [HL.out]; exact hlt
      obtain ⟨c, hc⟩ : ∃ c, c = a0.data.toList[k] := ⟨_, rfl⟩
      have hcell : wr.cell? ⟨w.heap.size, k, none⟩ = some (.int .u8 c.toNat) := by
        rw [hr.out.cell (by rw [lowTo_length]; exact hkl), lowTo_at _ _ hkl, hc]
      have hfree : wr.frozen? ⟨w.heap.size, k, none⟩ = false := hr.out.free (by rw [lowTo_length]; exact hkl)
      have HC := Aside0.mk hc
      clear hc
      by_cases h1 : 65 ≤ c.toNat ∧ c.toNat ≤ 90
      · have hw : (decide ((65 : Int) ≤ (c.toNat : Int)) && decide ((c.toNat : Int) ≤ 90)) = true := by simp; omega
        go_wp2_with (go_at_call 39; refine (between_same _ _ _ _).mono ?_; rintro e w2 ⟨rfl, rfl⟩)
        go_roundw
        case rel =>
          refine ⟨k + 1, by omega, by go_num, ⟨?_⟩, ⟨hb.out.setCell (p := ⟨w.heap.size, k, none⟩) (Nat.le_refl _) _⟩⟩
          rw [bits_or32, show (c ||| 32) = low c by simp [low, h1], ← lowTo_set _ _ hkl, ← HC.out]
          exact hr.out.set k (low c)
        case measure => simp [intOf]; omega
      · have hw : (decide ((65 : Int) ≤ (c.toNat : Int)) && decide ((c.toNat : Int) ≤ 90)) = false := by simp; omega
        go_wp2_with (go_at_call 39; refine (between_same _ _ _ _).mono ?_; rintro e w2 ⟨rfl, rfl⟩)
        go_roundw
        case rel =>
          exact ⟨k + 1, by omega, by go_num, ⟨by rw [lowTo_same _ _ hkl (by rw [← HC.out]; simp [low]; omega)]; exact hr.out⟩, hb⟩
        case measure => simp [intOf]; omega
    · have hke : k = a0.size := by omega
      have hfull : lowTo a0.data.toList k = a0.data.toList.map low := by
        have : a0.data.toList.length ≤ k := by rw [HL.out]; omega
        simp [lowTo, List.take_of_length_le this, List.drop_eq_nil_of_le this]
      have hlen : (a0.data.toList.map low).length = a0.size := by rw [List.length_map, HL.out]
      have hrd := hr.out.reads (by rw [lowTo_length, HL.out]; omega)
      rw [hfull, hlen] at hrd
      have hcv := Kd.C_string (P := Tryz.prog) (c := cap) Tryz.underlying58 Tryz.underlying5 Tryz.underlying9 hrd
      rw [strOfNums_numsOf] at hcv
      clear hrd hfull hlen
      go_wp2
      go_ret
      exact ⟨rfl, hb.out⟩

end Go.Proofs.YtoacojkmclngmaaGreatDoor.Pz

-- written by the session's own program hookprint.py
namespace Go.Proofs.YtoacojkmclngmaaGreatDoor.Pz
open Go.RowKit Go.Proofs.YtoacojkmclngmaaGreatDoorW.PrintWords Go.Proofs.YtoacojkmclngmaaGreatDoorW.PrintLast Go.Proofs.YtoacojkmclngmaaGreatDoorW.PrintMore
attribute [local go_sem] max2_int min2_int max_two min_two max_three min_three max_four min_four   -- for this text's walks alone
attribute [local go_sem] rune_str
set_option linter.unusedVariables false
set_option linter.unusedSimpArgs false

/-! ### scan_begins: function 112 -/
def scan_begins.f (a0 : ByteArray) (a1 : ByteArray) : Option (Bool) := if (a0.size : Int) ≥ (a1.size : Int) then (if 0 ≤ (a1.size : Int) then (if (a1.size : Int) ≤ (a0.size : Int) then ((class_Lower.f (a0.extract 0 ((a1.size : Int) : Int).toNat)).bind fun t101 => (some (t101.toList == a1.toList))) else (none)) else (none)) else (some false)
set_option maxHeartbeats 8000000 in
set_option maxRecDepth 100000 in
theorem scan_begins.calls (a0 : ByteArray) (a1 : ByteArray) (r : Bool) (w : World) (h : scan_begins.f a0 a1 = some r) :
    Calls Tryz.prog 112 #[.string a0, .string a1] w fun e w' => e = .returned (.bool r) ∧ Below w.heap.size w w' := by
  have HB := Aside0.mk (Below.refl w.heap.size w)
  have H : (if (a0.size : Int) ≥ (a1.size : Int) then (if 0 ≤ (a1.size : Int) then (if (a1.size : Int) ≤ (a0.size : Int) then ((class_Lower.f (a0.extract 0 ((a1.size : Int) : Int).toNat)).bind fun t101 => (some (t101.toList == a1.toList))) else (none)) else (none)) else (some false)) = some r := h
  clear h
  by_cases c3 : (a0.size : Int) ≥ (a1.size : Int)
  · rw [if_pos c3] at H
    have c3b0 : decide ((a1.size : Int) ≤ (a0.size : Int)) = true := decide_eq_true c3
    have c3b1 : decide (a1.size ≤ a0.size) = true := decide_eq_true (Int.ofNat_le.mp c3)
    clear c3
    by_cases c4 : 0 ≤ (a1.size : Int)
    · rw [if_pos c4] at H
      have c4b0 := eq_true c4
      have c4b1 : decide (0 ≤ (a1.size : Int)) = true := decide_eq_true c4
      clear c4
      by_cases c5 : (a1.size : Int) ≤ (a0.size : Int)
      · rw [if_pos c5] at H
        have c5b0 := eq_true c5
        have c5b1 : decide ((a1.size : Int) ≤ (a0.size : Int)) = true := decide_eq_true c5
        clear c5
        replace H := Option.bind_eq_some_iff.mp H
        obtain ⟨t101, A60, H⟩ := H
        replace H : (some (t101.toList == a1.toList)) = some r := H
        have A6 := Aside0.mk A60
        clear A60
        obtain rfl := Option.some.inj H
        go_enter Tryz.func112, Tryz.ntmps112
        go_wp2_with (first | (go_at_call 132; refine calls_of_args (args' := #[.string (a0.extract 0 ((a1.size : Int) : Int).toNat)]) (by first | rfl | rfl) ?_; (with_reducible refine (class_Lower.calls (a0.extract 0 ((a1.size : Int) : Int).toNat) t101 _ A6.out).mono ?_); rintro e w7 ⟨rfl, hb⟩; have n0_ := Aside0.mk (below_step (by repeat (first | (with_reducible first | exact HB.out | apply below_alloc | apply pw_below_drewN | apply below_drew1) | exact HB.out)) hb); clear HB; have HB := n0_; clear n0_; (try clear hb); (try clear hb2); (try clear hk); (try clear hi)))
        go_ret
        exact ⟨by first | rfl | (simp [errW_none, errW_some] <;> rfl) | (simp [*, errW_none, errW_some] <;> rfl), by repeat (first | (with_reducible first | exact HB.out | apply below_alloc | apply pw_below_drewN | apply below_drew1) | exact HB.out)⟩
      · rw [if_neg c5] at H
        exact absurd H (by simp)
    · rw [if_neg c4] at H
      exact absurd H (by simp)
  · rw [if_neg c3] at H
    have c3b0 : decide ((a1.size : Int) ≤ (a0.size : Int)) = false := decide_eq_false c3
    have c3b1 : decide (a1.size ≤ a0.size) = false := decide_eq_false (fun h => c3 (Int.ofNat_le.mpr h))
    clear c3
    obtain rfl := Option.some.inj H
    go_enter Tryz.func112, Tryz.ntmps112
    go_wp2
    go_ret
    exact ⟨by first | rfl | (simp [errW_none, errW_some] <;> rfl) | (simp [*, errW_none, errW_some] <;> rfl), by repeat (first | (with_reducible first | exact HB.out | apply below_alloc | apply pw_below_drewN | apply below_drew1) | exact HB.out)⟩

end Go.Proofs.YtoacojkmclngmaaGreatDoor.Pz

-- written by the session's own program hookprint.py
namespace Go.Proofs.YtoacojkmclngmaaGreatDoor.Pz
open Go.RowKit Go.Proofs.YtoacojkmclngmaaGreatDoorW.PrintWords Go.Proofs.YtoacojkmclngmaaGreatDoorW.PrintLast Go.Proofs.YtoacojkmclngmaaGreatDoorW.PrintMore
attribute [local go_sem] max2_int min2_int max_two min_two max_three min_three max_four min_four   -- for this text's walks alone
attribute [local go_sem] rune_str
set_option linter.unusedVariables false
set_option linter.unusedSimpArgs false

/-! ### scan_mode_ends: function 104 (by hand) -/
-- IMPORTS: @S@HandWords @S@Shelf
/-- does a text begin with another one, in letters of any size? -/
def beginsV (s w : ByteArray) : Bool := decide (w.size ≤ s.size) && (lowerB (s.extract 0 w.size)).toList == w.toList
theorem begins_f (s w : ByteArray) (h : s.size ≤ 140737488355328) : scan_begins.f s w = some (beginsV s w) := by
  unfold scan_begins.f beginsV
  by_cases h1 : w.size ≤ s.size
  · have h2 : class_Lower.f (s.extract 0 w.size) = some (lowerB (s.extract 0 w.size)) := by
      unfold class_Lower.f
      rw [if_pos (by rw [ByteArray.size_extract]; omega)]
    rw [if_pos (by omega), if_pos (by omega), if_pos (by omega)]
    simp [h1, h2]
  · rw [if_neg (by omega)]
    simp [h1]
/-- may what is behind a raw tag end at place n (false: it may, with more text), and does it? -/
def endAt (e s : ByteArray) (n : Nat) : Option Bool :=
  if s.data.toList[n]? = some 60 then
    if s.size - n ≤ e.size then (if beginsV e (lowerB (s.extract n s.size)) = true then some false else none)
    else if beginsV (s.extract n s.size) e = true ∧ 0 ≤ Lib.indexByte [9, 10, 12, 13, 32, 47, 62] (s.data.toList.getD (n + e.size) 0) then some true else none
  else none
def endsGo (e s : ByteArray) : Nat → Nat → Int × Bool
  | 0, n => ((s.size : Int), false)
  | k + 1, n => match endAt e s n with
    | some b => ((n : Int), b)
    | none => endsGo e s k (n + 1)
def tagEnd (name : ByteArray) : ByteArray := (⟨#[60, 47]⟩ : ByteArray) ++ name
def scan_mode_ends.f (a0_0 : ByteArray) (a0_1 : Int) (a1 : ByteArray) : Option (Int × Bool) :=
  if a1.size ≤ 140737488355328 ∧ a0_0.size ≤ 70368744177664 then some (endsGo (tagEnd a0_0) a1 a1.size 0) else none
theorem endsGo_step (e s : ByteArray) (n : Nat) (h : n < s.size) : endsGo e s (s.size - n) n = match endAt e s n with
    | some b => ((n : Int), b)
    | none => endsGo e s (s.size - (n + 1)) (n + 1) := by
  obtain ⟨k, hk⟩ : ∃ k, s.size - n = k + 1 := ⟨s.size - n - 1, by omega⟩
  have hk2 : s.size - (n + 1) = k := by omega
  rw [hk, hk2]; rfl
theorem data_at (s : ByteArray) (n : Nat) (h : n < s.size) : s.data.toList[n]? = some (s[n]'h) := by
  have h2 : n < s.data.toList.length := by rw [Array.length_toList]; exact h
  rw [List.getElem?_eq_getElem h2]; rfl
set_option maxHeartbeats 4000000 in
set_option maxRecDepth 100000 in
theorem scan_mode_ends.calls (a0_0 : ByteArray) (a0_1 : Int) (a1 : ByteArray) (r1 : Int) (r2 : Bool) (w : World) (h : scan_mode_ends.f a0_0 a0_1 a1 = some (r1, r2)) :
    Calls Tryz.prog 104 #[.agg #[.string a0_0, .int .i64 a0_1], .string a1] w fun e w' => e = .returned (.tuple #[.int .i64 r1, .bool r2]) ∧ Below w.heap.size w w' := by
  unfold scan_mode_ends.f at h
  split at h
  case isFalse => cases h
  rename_i hs
  obtain ⟨hs1, hs0⟩ := hs
  have h := Option.some.inj h
  have HRES : Aside0 (endsGo (tagEnd a0_0) a1 a1.size 0 = (r1, r2)) := ⟨h⟩
  clear h
  go_enter Tryz.func104, Tryz.ntmps104
  go_wp2
  obtain ⟨E, hE⟩ : ∃ E : ByteArray, E = ({ data := #[60, 47] } : ByteArray) ++ a0_0 := ⟨_, rfl⟩
  have hEs : E.size = 2 + a0_0.size := by rw [hE, ByteArray.size_append]; rfl
  have HE : Aside0 (tagEnd a0_0 = E) := ⟨hE.symm⟩
  have HB := Aside0.mk ((Below.refl w.heap.size w).alloc (Nat.le_refl _) (Obj.cells #[Value.string a0_0, Value.int IntKind.i64 a0_1] 54))
  generalize w.alloc (Obj.cells #[Value.string a0_0, Value.int IntKind.i64 a0_1] 54) = w1 at HB ⊢
  rw [← hE]
  have HES := Aside0.mk hEs
  have hEi : (E.size : Int) ≤ 140737488355328 := by omega
  clear hE hEs
  go_loopw [14] (fun i wr => ∃ k : Nat, k ≤ a1.size ∧ i = .int .i64 k ∧ Aside0 (endsGo (tagEnd a0_0) a1 (a1.size - k) k = (r1, r2)) ∧ Aside0 (Below w.heap.size w wr)) (fun i _ => a1.size - (intOf i).toNat)
  case atStart => exact ⟨0, Nat.zero_le _, rfl, HRES, HB⟩
  case round =>
    obtain ⟨k, hk, rfl, hr, hb⟩ := hrel
    by_cases hlt : k < a1.size
    · have hstep := endsGo_step (tagEnd a0_0) a1 k hlt
      rw [hr.out] at hstep
      have HST := Aside0.mk hstep
      clear hstep
      have hda := data_at a1 k hlt
      have ht : (a1.extract k a1.size).size = a1.size - k := by rw [ByteArray.size_extract]; omega
      have hti : ((a1.extract k a1.size).size : Int) = (a1.size : Int) - k := by rw [ht]; omega
      by_cases hc : (a1[k]'hlt) = 60
      · have hcb : (((a1[k]'hlt).toNat : Int) != 60) = false := by rw [hc]; rfl
        rw [hc] at hda
        by_cases hle : a1.size - k ≤ E.size
        · have hlow : class_Lower.f (a1.extract k a1.size) = some (lowerB (a1.extract k a1.size)) := by
            unfold class_Lower.f; rw [if_pos (by omega)]
          have hbeg := begins_f E (lowerB (a1.extract k a1.size)) (by omega)
          have hle1 : ((a1.size - k : Nat) : Int) ≤ (E.size : Int) := by omega
          have hat : endAt (tagEnd a0_0) a1 k = if beginsV E (lowerB (a1.extract k a1.size)) = true then some false else none := by
            unfold endAt; rw [HE.out, if_pos hda, if_pos hle]
          rw [hat] at HST
          have HLE := Aside0.mk hle
          have HTI := Aside0.mk hti
          clear hda hat ht hle hti hc
          cases hbv : beginsV E (lowerB (a1.extract k a1.size))
          · rw [hbv] at hbeg HST
            simp only [Bool.false_eq_true, if_false] at HST
            clear hbv
            go_wp2_with (first | (go_at_call 132; (with_reducible refine (class_Lower.calls (a1.extract k a1.size) (lowerB (a1.extract k a1.size)) _ hlow).mono ?_); rintro e w2 ⟨rfl, hb2⟩; have HB2 := Aside0.mk (below_step hb.out hb2); clear hb2) | (go_at_call 112; (with_reducible refine (scan_begins.calls E (lowerB (a1.extract k a1.size)) false _ hbeg).mono ?_); rintro e w3 ⟨rfl, hb3⟩; have HB3 := Aside0.mk (below_step HB2.out hb3); clear hb3))
            go_roundw
            case rel => exact ⟨k + 1, by omega, by go_num, ⟨HST.out.symm⟩, HB3⟩
            case measure => simp [intOf]; omega
          · rw [hbv] at hbeg HST
            simp only [if_true, Prod.mk.injEq] at HST
            obtain ⟨rfl, rfl⟩ := HST.out
            clear hbv
            go_wp2_with (first | (go_at_call 132; (with_reducible refine (class_Lower.calls (a1.extract k a1.size) (lowerB (a1.extract k a1.size)) _ hlow).mono ?_); rintro e w2 ⟨rfl, hb2⟩; have HB2 := Aside0.mk (below_step hb.out hb2); clear hb2) | (go_at_call 112; (with_reducible refine (scan_begins.calls E (lowerB (a1.extract k a1.size)) true _ hbeg).mono ?_); rintro e w3 ⟨rfl, hb3⟩; have HB3 := Aside0.mk (below_step HB2.out hb3); clear hb3))
            go_ret2
            exact ⟨rfl, HB3.out⟩
        · have hbeg := begins_f (a1.extract k a1.size) E (by omega)
          have hle1 : ¬ ((a1.size - k : Nat) : Int) ≤ (E.size : Int) := by omega
          have hle2 : (E.size : Int) < ((a1.size - k : Nat) : Int) := by omega
          have hat : endAt (tagEnd a0_0) a1 k = if beginsV (a1.extract k a1.size) E = true ∧ 0 ≤ Lib.indexByte [9, 10, 12, 13, 32, 47, 62] (a1.data.toList.getD (k + E.size) 0) then some true else none := by
            unfold endAt; rw [HE.out, if_pos hda, if_neg hle]
          rw [hat] at HST
          have hke : k + E.size < a1.size := by omega
          have hidx : (E.size : Nat) < (a1.extract k a1.size).size := by omega
          have hbyte : (a1.extract k a1.size)[E.size]'hidx = a1.data.toList.getD (k + E.size) 0 := by
            have h2 : k + E.size < a1.data.toList.length := by rw [Array.length_toList]; exact hke
            rw [List.getD_eq_getElem?_getD, List.getElem?_eq_getElem h2, ByteArray.getElem_extract]
            rfl
          have hidxi : (E.size : Int) < ((a1.extract k a1.size).size : Int) := by omega
          have HLE := Aside0.mk hle
          have HTI := Aside0.mk hti
          clear hda hat ht hle hti hc hke
          cases hbv : beginsV (a1.extract k a1.size) E
          · rw [hbv] at hbeg HST
            simp only [Bool.false_eq_true, false_and, if_false] at HST
            clear hbv hbyte hidx
            go_wp2_with (first | (go_at_call 112; (with_reducible refine (scan_begins.calls (a1.extract k a1.size) E false _ hbeg).mono ?_); rintro e w3 ⟨rfl, hb3⟩; have HB3 := Aside0.mk (below_step hb.out hb3); clear hb3))
            go_roundw
            case rel => exact ⟨k + 1, by omega, by go_num, ⟨HST.out.symm⟩, HB3⟩
            case measure => simp [intOf]; omega
          · rw [hbv] at hbeg HST
            simp only [true_and] at HST
            obtain ⟨ix, hixv⟩ : ∃ ix, ix = Lib.indexByte [9, 10, 12, 13, 32, 47, 62] (a1.data.toList.getD (k + E.size) 0) := ⟨_, rfl⟩
            have hix : ∀ W : World, Calls Tryz.prog 43 #[.string ⟨#[9, 10, 12, 13, 32, 47, 62]⟩, .int .u8 (((a1.extract k a1.size)[E.size]'hidx).toNat : Int)] W fun e w' => e = .returned (.int .i64 ix) ∧ w' = W := fun W => (Tryz.strings_IndexByte _ _ W).mono fun e w' ⟨he, hw⟩ => ⟨by rw [he, hixv, ← hbyte]; simp, hw⟩
            rw [← hixv] at HST
            clear hbv hbyte hixv
            by_cases hpos : 0 ≤ ix
            · rw [if_pos hpos] at HST
              simp only [Prod.mk.injEq] at HST
              obtain ⟨rfl, rfl⟩ := HST.out
              go_wp2_with (first | (go_at_call 112; (with_reducible refine (scan_begins.calls (a1.extract k a1.size) E true _ hbeg).mono ?_); rintro e w3 ⟨rfl, hb3⟩; have HB3 := Aside0.mk (below_step hb.out hb3); clear hb3) | (go_at_call 43; (with_reducible refine (hix _).mono ?_); rintro e w4 ⟨rfl, rfl⟩))
              go_ret2
              exact ⟨rfl, HB3.out⟩
            · rw [if_neg hpos] at HST
              go_wp2_with (first | (go_at_call 112; (with_reducible refine (scan_begins.calls (a1.extract k a1.size) E true _ hbeg).mono ?_); rintro e w3 ⟨rfl, hb3⟩; have HB3 := Aside0.mk (below_step hb.out hb3); clear hb3) | (go_at_call 43; (with_reducible refine (hix _).mono ?_); rintro e w4 ⟨rfl, rfl⟩))
              go_roundw
              case rel => exact ⟨k + 1, by omega, by go_num, ⟨HST.out.symm⟩, HB3⟩
              case measure => simp [intOf]; omega
      · have hcn : (((a1[k]'hlt).toNat : Int) != 60) = true := by
          have : (a1[k]'hlt).toNat ≠ 60 := fun e => hc (UInt8.toNat_inj.1 e)
          simp; omega
        have hat : endAt (tagEnd a0_0) a1 k = none := by
          unfold endAt
          rw [if_neg]
          rw [hda]
          simpa using hc
        rw [hat] at HST
        clear hat hda ht hti hc
        go_wp2
        go_roundw
        case rel => exact ⟨k + 1, by omega, by go_num, ⟨HST.out.symm⟩, hb⟩
        case measure => simp [intOf]; omega
    · have hz : a1.size - k = 0 := by omega
      have hres : ((a1.size : Int), false) = (r1, r2) := by
        rw [← hr.out, hz]; rfl
      simp only [Prod.mk.injEq] at hres
      obtain ⟨rfl, rfl⟩ := hres
      clear hz
      go_wp2
      go_ret2
      exact ⟨rfl, hb.out⟩

end Go.Proofs.YtoacojkmclngmaaGreatDoor.Pz

-- written by the session's own program hookprint.py
namespace Go.Proofs.YtoacojkmclngmaaGreatDoor.Pz
open Go.RowKit Go.Proofs.YtoacojkmclngmaaGreatDoorW.PrintWords Go.Proofs.YtoacojkmclngmaaGreatDoorW.PrintLast Go.Proofs.YtoacojkmclngmaaGreatDoorW.PrintMore
attribute [local go_sem] max2_int min2_int max_two min_two max_three min_three max_four min_four   -- for this text's walks alone
attribute [local go_sem] rune_str
set_option linter.unusedVariables false
set_option linter.unusedSimpArgs false

/-! ### scan_opens: function 105 -/
def scan_opens.j0 : Nat → ByteArray → Bool → Option (Bool × Bool)
  | 0, _, _ => none
  | k + 1, x0, x5 => if x5 = true then (some (false, false)) else (if (x0.size : Int) = 1 then (some (false, true)) else (if x0.toList = ([60, 47] : List UInt8) then (some (false, true)) else (if 1 < (x0.size : Int) then ((class_Letter.f (bt x0 1)).bind fun t128 => (if t128 = true then (some (true, false)) else (if (bt x0 1) = 33 then (some (true, false)) else (if (bt x0 1) = 63 then (some (true, false)) else (some (((bt x0 1) == 47), false)))))) else (none))))
def scan_opens.f (k : Nat) (a0 : ByteArray) : Option (Bool × Bool) := if a0.toList = ([] : List UInt8) then (scan_opens.j0 k a0 true) else (if 0 < (a0.size : Int) then (scan_opens.j0 k a0 ((bt a0 0) != 60)) else (none))
theorem scan_opens.mono_l : ∀ k, (∀ y0 y1, LeO (scan_opens.j0 k y0 y1) (scan_opens.j0 (k + 1) y0 y1))
  | 0 => fun _ _ r h => by simp [scan_opens.j0] at h
  | k + 1 => by
    have ih0 := scan_opens.mono_l k
    · intro y0 y1
      unfold scan_opens.j0
      repeat' first
      | (with_reducible exact ih0 _ _)
      | (with_reducible exact LeO.refl _)
      | (with_reducible exact LeO.none _)
      | (with_reducible refine LeO.ite ?_ ?_)
      | (with_reducible refine LeO.bind ?_ (fun _ => ?_))
      | exact ih0 _ _
      | exact LeO.none _
      | refine LeO.ite ?_ ?_
      | refine LeO.bind ?_ (fun _ => ?_)
theorem scan_opens.mono : ∀ a0 k, LeO (scan_opens.f k a0) (scan_opens.f (k + 1) a0) := by
  intro a0 k
  have ih0 := scan_opens.mono_l k
  unfold scan_opens.f
  repeat' first
      | (with_reducible exact ih0 _ _)
      | (with_reducible exact LeO.refl _)
      | (with_reducible exact LeO.none _)
      | (with_reducible refine LeO.ite ?_ ?_)
      | (with_reducible refine LeO.bind ?_ (fun _ => ?_))
      | exact ih0 _ _
      | exact LeO.none _
      | refine LeO.ite ?_ ?_
      | refine LeO.bind ?_ (fun _ => ?_)
set_option maxHeartbeats 8000000 in
set_option maxRecDepth 100000 in
theorem scan_opens.calls (k : Nat) (a0 : ByteArray) (r1 : Bool) (r2 : Bool) (w : World) (h : scan_opens.f k a0 = some (r1, r2)) :
    Calls Tryz.prog 105 #[.string a0] w fun e w' => e = .returned (.tuple #[.bool r1, .bool r2]) ∧ Drawn0 w w' := by
  have H : (if a0.toList = ([] : List UInt8) then (scan_opens.j0 k a0 true) else (if 0 < (a0.size : Int) then (scan_opens.j0 k a0 ((bt a0 0) != 60)) else (none))) = some (r1, r2) := h
  clear h
  have HC2 := Aside0.mk H
  clear H
  go_enter Tryz.func105, Tryz.ntmps105
  go_upto_region 1 with (fail)
  go_cut [5] (fun v5 wc => ∃ (kq : Nat) (x5_1 : Bool), v5 = .bool x5_1 ∧ Aside0 (scan_opens.j0 kq a0 x5_1 = some (r1, r2)) ∧ Aside0 (kq ≤ k) ∧ Drawn0 w wc)
  case first =>
    have H := HC2.out
    clear HC2
    by_cases c3 : a0.toList = ([] : List UInt8)
    · rw [if_pos c3] at H
      have c3b0 : (a0.toList == ([] : List UInt8)) = true := beq_iff_eq.mpr c3
      have c3b1 : (a0.toList != ([] : List UInt8)) = false := bne_eq_false_iff_eq.mpr c3
      clear c3
      (first | rw [c3b0] | (simp only [i64_w, i32_w]; rw [c3b0]) | skip)
      have H' := Aside0.mk H
      clear H
      go_wp2
      go_meet
      case rel => exact ⟨_, (true), (by first | rfl | (simp; done) | (simp [*]; done) | (simp; unfold wrap64; omega) | (simp; rfl)), H', ⟨by first | omega | exact Nat.le_refl _⟩, by repeat (first | exact Drawn0.refl _ | apply Drawn0.step)⟩
    · rw [if_neg c3] at H
      have c3b0 : (a0.toList == ([] : List UInt8)) = false := beq_eq_false_iff_ne.mpr c3
      have c3b1 : (a0.toList != ([] : List UInt8)) = true := bne_iff_ne.mpr c3
      (first | rw [c3b0] | (simp only [i64_w, i32_w]; rw [c3b0]) | skip)
      by_cases c4 : 0 < (a0.size : Int)
      · rw [if_pos c4] at H
        have c4b0 : decide (0 < (a0.size : Int)) = true := decide_eq_true c4
        have c4b1 : decide (0 < a0.size) = true := decide_eq_true (by omega)
        clear c4
        have H' := Aside0.mk H
        clear H
        have p5 : 0 ≤ (0 : Int) := (by omega)
        have q5 : 0 < a0.size := (by have : (0 : Int) < (a0.size : Int) := of_decide_eq_true (by first | (with_reducible assumption) | assumption); omega)
        have hx5 : ∀ h : 0 < a0.size, ((a0[0]'h).toNat : Int) = bt a0 0 := bt_at a0 0
        clear p5
        have qi5 : (0 < (a0.size : Int)) = True := eq_true (of_decide_eq_true (by first | (with_reducible assumption) | assumption))
        replace q5 := eq_true q5
        go_wp2
        go_meet
        case rel => exact ⟨_, (((bt a0 0) != 60)), (by first | rfl | (simp; done) | (simp [*]; done) | (simp; unfold wrap64; omega) | (simp; rfl)), H', ⟨by first | omega | exact Nat.le_refl _⟩, by repeat (first | exact Drawn0.refl _ | apply Drawn0.step)⟩
      · rw [if_neg c4] at H
        exact absurd H (by simp)
  case rest =>
    clear HC2
    try clear c1
    try clear p2
    try clear c3
    try clear c3b0
    try clear c3b1
    try clear c4
    try clear c4b0
    try clear c4b1
    try clear p5
    try clear q5
    try clear hx5
    try clear qi5
    try clear p5
    try clear q5
    obtain ⟨kq, x5_1, rfl, HA, HJ1, ⟨mc1, rfl⟩⟩ := hcut
    cases kq with
    | zero => exact absurd HA.out (by simp [scan_opens.j0])
    | succ kj1 =>
      have H := HA.out
      clear HA
      simp only [scan_opens.j0] at H
      by_cases c6 : x5_1 = true
      · subst c6
        have H1 : (some (false, false)) = some (r1, r2) := by rw [if_pos rfl] at H; exact H
        clear H
        have H := H1
        clear H1
        simp only [Option.some.injEq, Prod.mk.injEq] at H
        obtain ⟨rfl, rfl⟩ := H
        go_wp2
        go_ret2
        exact ⟨by first | rfl | (simp; done) | (simp [*]; done), by repeat (first | exact Drawn0.refl _ | apply Drawn0.step)⟩
      · replace c6 := Bool.eq_false_iff.mpr c6
        subst c6
        have H1 : (if (a0.size : Int) = 1 then (some (false, true)) else (if a0.toList = ([60, 47] : List UInt8) then (some (false, true)) else (if 1 < (a0.size : Int) then ((class_Letter.f (bt a0 1)).bind fun t128 => (if t128 = true then (some (true, false)) else (if (bt a0 1) = 33 then (some (true, false)) else (if (bt a0 1) = 63 then (some (true, false)) else (some (((bt a0 1) == 47), false)))))) else (none)))) = some (r1, r2) := by rw [if_neg (show ¬ (false = true) by decide)] at H; exact H
        clear H
        have H := H1
        clear H1
        by_cases c7 : (a0.size : Int) = 1
        · rw [if_pos c7] at H
          have c7b0 : ((a0.size : Int) == 1) = true := beq_iff_eq.mpr c7
          have c7b1 : ((a0.size : Int) != 1) = false := bne_eq_false_iff_eq.mpr c7
          clear c7
          simp only [Option.some.injEq, Prod.mk.injEq] at H
          obtain ⟨rfl, rfl⟩ := H
          go_wp2
          go_ret2
          exact ⟨by first | rfl | (simp; done) | (simp [*]; done), by repeat (first | exact Drawn0.refl _ | apply Drawn0.step)⟩
        · rw [if_neg c7] at H
          have c7b0 : ((a0.size : Int) == 1) = false := beq_eq_false_iff_ne.mpr c7
          have c7b1 : ((a0.size : Int) != 1) = true := bne_iff_ne.mpr c7
          by_cases c8 : a0.toList = ([60, 47] : List UInt8)
          · rw [if_pos c8] at H
            have c8b0 : (a0.toList == ([60, 47] : List UInt8)) = true := beq_iff_eq.mpr c8
            have c8b1 : (a0.toList != ([60, 47] : List UInt8)) = false := bne_eq_false_iff_eq.mpr c8
            clear c8
            simp only [Option.some.injEq, Prod.mk.injEq] at H
            obtain ⟨rfl, rfl⟩ := H
            go_wp2
            go_ret2
            exact ⟨by first | rfl | (simp; done) | (simp [*]; done), by repeat (first | exact Drawn0.refl _ | apply Drawn0.step)⟩
          · rw [if_neg c8] at H
            have c8b0 : (a0.toList == ([60, 47] : List UInt8)) = false := beq_eq_false_iff_ne.mpr c8
            have c8b1 : (a0.toList != ([60, 47] : List UInt8)) = true := bne_iff_ne.mpr c8
            by_cases c9 : 1 < (a0.size : Int)
            · rw [if_pos c9] at H
              have c9b0 : decide (1 < (a0.size : Int)) = true := decide_eq_true c9
              have c9b1 : decide (1 < a0.size) = true := decide_eq_true (by omega)
              clear c9
              replace H := Option.bind_eq_some_iff.mp H
              obtain ⟨t128, A110, H⟩ := H
              replace H : (if t128 = true then (some (true, false)) else (if (bt a0 1) = 33 then (some (true, false)) else (if (bt a0 1) = 63 then (some (true, false)) else (some (((bt a0 1) == 47), false))))) = some (r1, r2) := H
              have A11 := Aside0.mk A110
              clear A110
              by_cases c12 : t128 = true
              · subst c12
                have H1 : (some (true, false)) = some (r1, r2) := by rw [if_pos rfl] at H; exact H
                clear H
                have H := H1
                clear H1
                simp only [Option.some.injEq, Prod.mk.injEq] at H
                obtain ⟨rfl, rfl⟩ := H
                have p10 : 0 ≤ (1 : Int) := (by omega)
                have q10 : 1 < a0.size := (by have : (1 : Int) < (a0.size : Int) := of_decide_eq_true (by first | (with_reducible assumption) | assumption); omega)
                have hx10 : ∀ h : 1 < a0.size, ((a0[1]'h).toNat : Int) = bt a0 1 := bt_at a0 1
                clear p10
                have qi10 : (1 < (a0.size : Int)) = True := eq_true (of_decide_eq_true (by first | (with_reducible assumption) | assumption))
                replace q10 := eq_true q10
                go_wp2_with (first | ((with_reducible refine gate_callee (f := 92) rfl ?_); refine goesL_ (some 22) rfl rfl Tryz.func92 (by kernel_rfl) rfl #[.int .u8 (bt a0 1)] rfl (by (try simp only [List.map_toArray, List.map_cons, List.map_nil]); first | done | rfl | (simp only [List.length_drop, List.length_take]; rfl)) ?_; (with_reducible refine (class_Letter.calls (bt a0 1) true _ A11.out).mono ?_); rintro e w' ⟨rfl, ⟨nd, rfl⟩⟩; refine ⟨_, rfl, ?_⟩))
                go_ret2
                exact ⟨by first | rfl | (simp; done) | (simp [*]; done), by repeat (first | exact Drawn0.refl _ | apply Drawn0.step)⟩
              · replace c12 := Bool.eq_false_iff.mpr c12
                subst c12
                have H1 : (if (bt a0 1) = 33 then (some (true, false)) else (if (bt a0 1) = 63 then (some (true, false)) else (some (((bt a0 1) == 47), false)))) = some (r1, r2) := by rw [if_neg (show ¬ (false = true) by decide)] at H; exact H
                clear H
                have H := H1
                clear H1
                by_cases c13 : (bt a0 1) = 33
                · rw [if_pos c13] at H
                  have c13b0 : ((bt a0 1) == 33) = true := beq_iff_eq.mpr c13
                  have c13b1 : ((bt a0 1) != 33) = false := bne_eq_false_iff_eq.mpr c13
                  clear c13
                  simp only [Option.some.injEq, Prod.mk.injEq] at H
                  obtain ⟨rfl, rfl⟩ := H
                  have p10 : 0 ≤ (1 : Int) := (by omega)
                  have q10 : 1 < a0.size := (by have : (1 : Int) < (a0.size : Int) := of_decide_eq_true (by first | (with_reducible assumption) | assumption); omega)
                  have hx10 : ∀ h : 1 < a0.size, ((a0[1]'h).toNat : Int) = bt a0 1 := bt_at a0 1
                  clear p10
                  have qi10 : (1 < (a0.size : Int)) = True := eq_true (of_decide_eq_true (by first | (with_reducible assumption) | assumption))
                  replace q10 := eq_true q10
                  go_wp2_with (first | ((with_reducible refine gate_callee (f := 92) rfl ?_); refine goesL_ (some 22) rfl rfl Tryz.func92 (by kernel_rfl) rfl #[.int .u8 (bt a0 1)] rfl (by (try simp only [List.map_toArray, List.map_cons, List.map_nil]); first | done | rfl | (simp only [List.length_drop, List.length_take]; rfl)) ?_; (with_reducible refine (class_Letter.calls (bt a0 1) false _ A11.out).mono ?_); rintro e w' ⟨rfl, ⟨nd, rfl⟩⟩; refine ⟨_, rfl, ?_⟩))
                  go_ret2
                  exact ⟨by first | rfl | (simp; done) | (simp [*]; done), by repeat (first | exact Drawn0.refl _ | apply Drawn0.step)⟩
                · rw [if_neg c13] at H
                  have c13b0 : ((bt a0 1) == 33) = false := beq_eq_false_iff_ne.mpr c13
                  have c13b1 : ((bt a0 1) != 33) = true := bne_iff_ne.mpr c13
                  by_cases c14 : (bt a0 1) = 63
                  · rw [if_pos c14] at H
                    have c14b0 : ((bt a0 1) == 63) = true := beq_iff_eq.mpr c14
                    have c14b1 : ((bt a0 1) != 63) = false := bne_eq_false_iff_eq.mpr c14
                    clear c14
                    simp only [Option.some.injEq, Prod.mk.injEq] at H
                    obtain ⟨rfl, rfl⟩ := H
                    have p10 : 0 ≤ (1 : Int) := (by omega)
                    have q10 : 1 < a0.size := (by have : (1 : Int) < (a0.size : Int) := of_decide_eq_true (by first | (with_reducible assumption) | assumption); omega)
                    have hx10 : ∀ h : 1 < a0.size, ((a0[1]'h).toNat : Int) = bt a0 1 := bt_at a0 1
                    clear p10
                    have qi10 : (1 < (a0.size : Int)) = True := eq_true (of_decide_eq_true (by first | (with_reducible assumption) | assumption))
                    replace q10 := eq_true q10
                    go_wp2_with (first | ((with_reducible refine gate_callee (f := 92) rfl ?_); refine goesL_ (some 22) rfl rfl Tryz.func92 (by kernel_rfl) rfl #[.int .u8 (bt a0 1)] rfl (by (try simp only [List.map_toArray, List.map_cons, List.map_nil]); first | done | rfl | (simp only [List.length_drop, List.length_take]; rfl)) ?_; (with_reducible refine (class_Letter.calls (bt a0 1) false _ A11.out).mono ?_); rintro e w' ⟨rfl, ⟨nd, rfl⟩⟩; refine ⟨_, rfl, ?_⟩))
                    go_ret2
                    exact ⟨by first | rfl | (simp; done) | (simp [*]; done), by repeat (first | exact Drawn0.refl _ | apply Drawn0.step)⟩
                  · rw [if_neg c14] at H
                    have c14b0 : ((bt a0 1) == 63) = false := beq_eq_false_iff_ne.mpr c14
                    have c14b1 : ((bt a0 1) != 63) = true := bne_iff_ne.mpr c14
                    simp only [Option.some.injEq, Prod.mk.injEq] at H
                    obtain ⟨rfl, rfl⟩ := H
                    have p10 : 0 ≤ (1 : Int) := (by omega)
                    have q10 : 1 < a0.size := (by have : (1 : Int) < (a0.size : Int) := of_decide_eq_true (by first | (with_reducible assumption) | assumption); omega)
                    have hx10 : ∀ h : 1 < a0.size, ((a0[1]'h).toNat : Int) = bt a0 1 := bt_at a0 1
                    clear p10
                    have qi10 : (1 < (a0.size : Int)) = True := eq_true (of_decide_eq_true (by first | (with_reducible assumption) | assumption))
                    replace q10 := eq_true q10
                    go_wp2_with (first | ((with_reducible refine gate_callee (f := 92) rfl ?_); refine goesL_ (some 22) rfl rfl Tryz.func92 (by kernel_rfl) rfl #[.int .u8 (bt a0 1)] rfl (by (try simp only [List.map_toArray, List.map_cons, List.map_nil]); first | done | rfl | (simp only [List.length_drop, List.length_take]; rfl)) ?_; (with_reducible refine (class_Letter.calls (bt a0 1) false _ A11.out).mono ?_); rintro e w' ⟨rfl, ⟨nd, rfl⟩⟩; refine ⟨_, rfl, ?_⟩))
                    go_ret2
                    exact ⟨by first | rfl | (simp; done) | (simp [*]; done), by repeat (first | exact Drawn0.refl _ | apply Drawn0.step)⟩
            · rw [if_neg c9] at H
              exact absurd H (by simp)

end Go.Proofs.YtoacojkmclngmaaGreatDoor.Pz

-- written by the session's own program hookprint.py
namespace Go.Proofs.YtoacojkmclngmaaGreatDoor.Pz
open Go.RowKit Go.Proofs.YtoacojkmclngmaaGreatDoorW.PrintWords Go.Proofs.YtoacojkmclngmaaGreatDoorW.PrintLast Go.Proofs.YtoacojkmclngmaaGreatDoorW.PrintMore
attribute [local go_sem] max2_int min2_int max_two min_two max_three min_three max_four min_four   -- for this text's walks alone
attribute [local go_sem] rune_str
set_option linter.unusedVariables false
set_option linter.unusedSimpArgs false

/-! ### scan_Scanner_run: function 76 (by hand) -/
-- IMPORTS: @S@HandWords Derived.Deep.RegionHeld3
/-- the first place at or behind n at which markup begins, or may, with more text -/
def runGo (s : ByteArray) : Nat → Nat → Option (Int × Bool)
  | 0, _ => some ((s.size : Int), false)
  | k + 1, n => (scan_opens.f 2 (s.extract n s.size)).bind fun o => if o.1 = true ∨ o.2 = true then some ((n : Int), o.1) else runGo s k (n + 1)
def scan_Scanner_run.f (s0_0 : ByteArray) (s0_1 : Bool) (s0_2 : ByteArray) (s0_3 : Int) : Option (Int × Bool × ByteArray × Bool × ByteArray × Int) :=
  if s0_3 = 3 then some ((s0_0.size : Int), false, s0_0, s0_1, s0_2, s0_3)
  else if s0_3 = 1 ∨ s0_3 = 2 then (scan_mode_ends.f s0_2 s0_3 s0_0).bind fun e => some (e.1, e.2, s0_0, s0_1, s0_2, s0_3)
  else if s0_0.size ≤ 140737488355328 then (runGo s0_0 s0_0.size 0).bind fun e => some (e.1, e.2, s0_0, s0_1, s0_2, s0_3) else none
theorem runGo_step (s : ByteArray) (n : Nat) (h : n < s.size) : runGo s (s.size - n) n = (scan_opens.f 2 (s.extract n s.size)).bind fun o => if o.1 = true ∨ o.2 = true then some ((n : Int), o.1) else runGo s (s.size - (n + 1)) (n + 1) := by
  obtain ⟨k, hk⟩ : ∃ k, s.size - n = k + 1 := ⟨s.size - n - 1, by omega⟩
  have hk2 : s.size - (n + 1) = k := by omega
  rw [hk, hk2]; rfl
set_option maxHeartbeats 4000000 in
set_option maxRecDepth 100000 in
theorem scan_Scanner_run.calls (g : Nat) (s0_0 : ByteArray) (s0_1 : Bool) (s0_2 : ByteArray) (s0_3 : Int) (r1 : Int) (r2 : Bool) (r3 : ByteArray) (r4 : Bool) (r5 : ByteArray) (r6 : Int) (w0 w : World) (hI : IsS56 w0 w g s0_0 s0_1 s0_2 s0_3) (hB : Below w0.heap.size w0 w) (hG : Glob w0) (h : scan_Scanner_run.f s0_0 s0_1 s0_2 s0_3 = some (r1, r2, r3, r4, r5, r6)) :
    Calls Tryz.prog 76 #[.pointer (some ⟨g, 0, none⟩)] w fun e w' => e = .returned (.tuple #[.int .i64 r1, .bool r2]) ∧ IsS56 w0 w' g r3 r4 r5 r6 ∧ Below w0.heap.size w0 w' ∧ KeepBut w w' g none := by
  unfold scan_Scanner_run.f at h
  have HI0 := Aside0.mk hI
  have HK0 := Aside0.mk (KeepBut.refl w g none)
  have HB0 := Aside0.mk hB
  have HG0 := Aside0.mk hG
  obtain ⟨HGz, hgz⟩ := hI
  have hc0 := cellS56_0 HGz
  have hc1 := cellS56_1 HGz
  have hc2 := cellS56_2 HGz
  have hc3 := cellS56_3 HGz
  have hf0 := blk_frozen HGz 0
  have hf1 := blk_frozen HGz 1
  have hf2 := blk_frozen HGz 2
  have hf3 := blk_frozen HGz 3
  clear HGz hgz hB hG
  by_cases hm3 : s0_3 = 3
  · subst hm3
    rw [if_pos rfl] at h
    simp only [Option.some.injEq, Prod.mk.injEq] at h
    obtain ⟨rfl, rfl, rfl, rfl, rfl, rfl⟩ := h
    go_enter Tryz.func76, Tryz.ntmps76
    go_wp2
    go_ret2
    exact ⟨rfl, HI0.out, HB0.out, HK0.out⟩
  · rw [if_neg hm3] at h
    by_cases hm12 : s0_3 = 1 ∨ s0_3 = 2
    · rw [if_pos hm12] at h
      replace h := Option.bind_eq_some_iff.1 h
      obtain ⟨⟨e1, e2⟩, he, h⟩ := h
      have HE := Aside0.mk he
      clear he
      simp only [Option.some.injEq, Prod.mk.injEq] at h
      obtain ⟨rfl, rfl, rfl, rfl, rfl, rfl⟩ := h
      rcases hm12 with rfl | rfl
      · clear hm3
        go_enter Tryz.func76, Tryz.ntmps76
        go_wp2
        go_region_held3 (fun w' => w'.cell? ⟨g, 0, none⟩ = some (.string s0_0) ∧ w'.cell? ⟨g, 2, none⟩ = some (.string s0_2) ∧ w'.cell? ⟨g, 3, none⟩ = some (.int .i64 1) ∧ Aside0 (IsS56 w0 w' g s0_0 s0_1 s0_2 1) ∧ Aside0 (Below w0.heap.size w0 w') ∧ Aside0 (KeepBut w w' g none)) (first | exact ⟨hc0, hc2, hc3, ⟨HI0.out.drew⟩, ⟨below_drew1 HB0.out⟩, ⟨keep_drew HK0.out⟩⟩ | exact ⟨pw_cell_below hbn hc0, pw_cell_below hbn hc2, pw_cell_below hbn hc3, ⟨IsS56.below HI0.out.drew hbn⟩, ⟨below_weaken (below_drew1 HB0.out) (below_drew1 HB0.out).size hbn⟩, ⟨KeepBut.trans (keep_drew HK0.out) (KeepBut.of_below hbn g none) (.inl rfl)⟩⟩) (first | (go_at_call 104; refine (scan_mode_ends.calls s0_2 1 s0_0 e1 e2 _ HE.out).mono ?_; rintro e w2 ⟨rfl, hbn⟩))
        go_split_ands
        go_wp2
        go_ret2
        exact ⟨rfl, Aside0.out (by assumption), Aside0.out (by assumption), Aside0.out (by assumption)⟩
      · clear hm3
        go_enter Tryz.func76, Tryz.ntmps76
        go_wp2
        go_region_held3 (fun w' => w'.cell? ⟨g, 0, none⟩ = some (.string s0_0) ∧ w'.cell? ⟨g, 2, none⟩ = some (.string s0_2) ∧ w'.cell? ⟨g, 3, none⟩ = some (.int .i64 2) ∧ Aside0 (IsS56 w0 w' g s0_0 s0_1 s0_2 2) ∧ Aside0 (Below w0.heap.size w0 w') ∧ Aside0 (KeepBut w w' g none)) (first | exact ⟨hc0, hc2, hc3, ⟨HI0.out.drew⟩, ⟨below_drew1 HB0.out⟩, ⟨keep_drew HK0.out⟩⟩ | exact ⟨pw_cell_below hbn hc0, pw_cell_below hbn hc2, pw_cell_below hbn hc3, ⟨IsS56.below HI0.out.drew hbn⟩, ⟨below_weaken (below_drew1 HB0.out) (below_drew1 HB0.out).size hbn⟩, ⟨KeepBut.trans (keep_drew HK0.out) (KeepBut.of_below hbn g none) (.inl rfl)⟩⟩) (first | (go_at_call 104; refine (scan_mode_ends.calls s0_2 2 s0_0 e1 e2 _ HE.out).mono ?_; rintro e w2 ⟨rfl, hbn⟩))
        go_split_ands
        go_wp2
        go_ret2
        exact ⟨rfl, Aside0.out (by assumption), Aside0.out (by assumption), Aside0.out (by assumption)⟩
    · rw [if_neg hm12] at h
      split at h
      case isFalse => cases h
      rename_i hs
      replace h := Option.bind_eq_some_iff.1 h
      obtain ⟨⟨e1, e2⟩, he, h⟩ := h
      have HE := Aside0.mk he
      clear he
      simp only [Option.some.injEq, Prod.mk.injEq] at h
      obtain ⟨rfl, rfl, rfl, rfl, rfl, rfl⟩ := h
      have hm3' : (s0_3 == 3) = false := by simpa using hm3
      have hm1' : (s0_3 == 1) = false := by simp only [not_or] at hm12; simpa using hm12.1
      have hm2' : (s0_3 == 2) = false := by simp only [not_or] at hm12; simpa using hm12.2
      clear hm12 hm3 hc0 hc1 hc2 hc3 hf0 hf1 hf2 hf3
      have HCELLS : ∀ W : World, IsS56 w0 W g s0_0 s0_1 s0_2 s0_3 → True := fun _ _ => trivial
      clear HCELLS
      obtain ⟨HGz, hgz⟩ := HI0.out
      have hc0 := cellS56_0 HGz
      have hc3 := cellS56_3 HGz
      have hf0 := blk_frozen HGz 0
      have hf3 := blk_frozen HGz 3
      clear HGz hgz
      go_enter Tryz.func76, Tryz.ntmps76
      go_wp2
      clear hc0 hc3 hf0 hf3
      go_loopw [41] (fun i wr => ∃ k : Nat, k ≤ s0_0.size ∧ i = .int .i64 k ∧ Aside0 (runGo s0_0 (s0_0.size - k) k = some (e1, e2)) ∧ Aside0 (IsS56 w0 wr g s0_0 s0_1 s0_2 s0_3) ∧ Aside0 (Below w0.heap.size w0 wr) ∧ Aside0 (KeepBut w wr g none)) (fun i _ => s0_0.size - (intOf i).toNat)
      case atStart => exact ⟨0, Nat.zero_le _, rfl, HE, HI0, HB0, HK0⟩
      case round =>
        obtain ⟨k, hk, rfl, hr, HI1, HB1, HK1⟩ := hrel
        obtain ⟨HGz, hgz⟩ := HI1.out
        have hc0 := cellS56_0 HGz
        have hf0 := blk_frozen HGz 0
        clear HGz hgz
        by_cases hlt : k < s0_0.size
        · have hstep := runGo_step s0_0 k hlt
          rw [hr.out] at hstep
          replace hstep := Option.bind_eq_some_iff.1 hstep.symm
          obtain ⟨⟨o1, o2⟩, ho, hstep⟩ := hstep
          have HO := Aside0.mk ho
          clear ho
          by_cases hoo : o1 = true ∨ o2 = true
          · rw [if_pos hoo] at hstep
            simp only [Option.some.injEq, Prod.mk.injEq] at hstep
            obtain ⟨rfl, rfl⟩ := hstep
            have hoo' : (if o1 = true then true else o2) = true := by
              rcases hoo with rfl | rfl
              · rfl
              · cases o1 <;> rfl
            cases o1
            · have ho2 : o2 = true := by simpa using hoo
              subst ho2
              clear hoo hoo'
              go_wp2_with (first | (go_at_call 105; (with_reducible refine (scan_opens.calls 2 (s0_0.extract k s0_0.size) false true _ HO.out).mono ?_); rintro e w1 ⟨rfl, ⟨nd, rfl⟩⟩))
              go_ret2
              exact ⟨rfl, by repeat (first | exact HI1.out | apply IsS56.drewN), by repeat (first | exact HB1.out | apply pw_below_drewN), by repeat (first | exact HK1.out | apply keep_drewN)⟩
            · clear hoo hoo'
              go_wp2_with (first | (go_at_call 105; (with_reducible refine (scan_opens.calls 2 (s0_0.extract k s0_0.size) true o2 _ HO.out).mono ?_); rintro e w1 ⟨rfl, ⟨nd, rfl⟩⟩))
              go_ret2
              exact ⟨rfl, by repeat (first | exact HI1.out | apply IsS56.drewN), by repeat (first | exact HB1.out | apply pw_below_drewN), by repeat (first | exact HK1.out | apply keep_drewN)⟩
          · rw [if_neg hoo] at hstep
            simp only [not_or, Bool.not_eq_true] at hoo
            obtain ⟨rfl, rfl⟩ := hoo
            have HST := Aside0.mk hstep
            clear hstep
            go_wp2_with (first | (go_at_call 105; (with_reducible refine (scan_opens.calls 2 (s0_0.extract k s0_0.size) false false _ HO.out).mono ?_); rintro e w1 ⟨rfl, ⟨nd, rfl⟩⟩))
            go_roundw
            case rel => exact ⟨k + 1, by omega, by go_num, HST, ⟨by repeat (first | exact HI1.out | apply IsS56.drewN)⟩, ⟨by repeat (first | exact HB1.out | apply pw_below_drewN)⟩, ⟨by repeat (first | exact HK1.out | apply keep_drewN)⟩⟩
            case measure => simp [intOf]; omega
        · have hkk : k = s0_0.size := by omega
          subst hkk
          rw [Nat.sub_self] at hr
          have hr2 := hr.out
          unfold runGo at hr2
          simp only [Option.some.injEq, Prod.mk.injEq] at hr2
          obtain ⟨rfl, rfl⟩ := hr2
          go_wp2
          go_ret2
          exact ⟨rfl, HI1.out, HB1.out, HK1.out⟩

end Go.Proofs.YtoacojkmclngmaaGreatDoor.Pz

-- written by the session's own program hookprint.py
namespace Go.Proofs.YtoacojkmclngmaaGreatDoor.Pz
open Go.RowKit Go.Proofs.YtoacojkmclngmaaGreatDoorW.PrintWords Go.Proofs.YtoacojkmclngmaaGreatDoorW.PrintLast Go.Proofs.YtoacojkmclngmaaGreatDoorW.PrintMore
attribute [local go_sem] max2_int min2_int max_two min_two max_three min_three max_four min_four   -- for this text's walks alone
attribute [local go_sem] rune_str
set_option linter.unusedVariables false
set_option linter.unusedSimpArgs false

/-! ### strings_LastIndexByte: function 106 (by hand) -/
-- IMPORTS: @S@Shelf
def strings_LastIndexByte.f (a0 : ByteArray) (a1 : Int) : Option Int := if a0.size < 4611686018427387904 then some (Lib.lastIndexByte a0 a1) else none
theorem strings_LastIndexByte.calls (a0 : ByteArray) (a1 : Int) (r : Int) (w : World) (h : strings_LastIndexByte.f a0 a1 = some r) :
    Calls Tryz.prog 106 #[.string a0, .int .u8 a1] w fun e w' => e = .returned (.int .i64 r) ∧ Drawn0 w w' := by
  unfold strings_LastIndexByte.f at h
  split at h
  case isFalse => cases h
  rename_i hs
  obtain rfl := Option.some.inj h
  exact (Tryz.strings_LastIndexByte a0 a1 hs w).mono fun e w' ⟨he, hw⟩ => ⟨he, hw ▸ Drawn0.refl w⟩

end Go.Proofs.YtoacojkmclngmaaGreatDoor.Pz

-- written by the session's own program hookprint.py
namespace Go.Proofs.YtoacojkmclngmaaGreatDoor.Pz
open Go.RowKit Go.Proofs.YtoacojkmclngmaaGreatDoorW.PrintWords Go.Proofs.YtoacojkmclngmaaGreatDoorW.PrintLast Go.Proofs.YtoacojkmclngmaaGreatDoorW.PrintMore
attribute [local go_sem] max2_int min2_int max_two min_two max_three min_three max_four min_four   -- for this text's walks alone
attribute [local go_sem] rune_str
set_option linter.unusedVariables false
set_option linter.unusedSimpArgs false

/-! ### scan_open: function 77 (by hand) -/
-- IMPORTS: @S@HandWords Derived.Laws.EntriesVeiled
/-- PARTIAL: only where there is no & -/
def scan_open.f (a0 : ByteArray) : Option Int := (strings_LastIndexByte.f a0 38).bind fun n => if n = -1 then some 0 else none
set_option maxHeartbeats 4000000 in
theorem scan_open.calls (a0 : ByteArray) (r : Int) (w : World) (hG : Glob w) (h : scan_open.f a0 = some r) :
    Calls Tryz.prog 77 #[.string a0] w fun e w' => e = .returned (.int .i64 r) ∧ Below w.heap.size w w' := by
  unfold scan_open.f at h
  replace h := Option.bind_eq_some_iff.1 h
  obtain ⟨n, hn, h⟩ := h
  split at h
  case isFalse => cases h
  rename_i hs
  obtain rfl := Option.some.inj h
  subst hs
  have HN := Aside0.mk hn
  clear hn h
  have HB := Aside0.mk (Below.refl w.heap.size w)
  go_enter Tryz.func77, Tryz.ntmps77
  go_wp2_with (first | (go_at_call 106; (with_reducible refine (strings_LastIndexByte.calls a0 38 (-1) _ HN.out).mono ?_); rintro e w1 ⟨rfl, hd⟩; have HB1 := Aside0.mk (hd.below); clear hd))
  go_ret
  exact ⟨rfl, by repeat (first | (with_reducible first | refine below_set ?_ (HB1.out.size) | exact HB1.out | apply below_alloc | apply pw_below_drewN | apply below_drew1) | exact HB1.out)⟩

end Go.Proofs.YtoacojkmclngmaaGreatDoor.Pz

-- written by the session's own program hookprint.py
namespace Go.Proofs.YtoacojkmclngmaaGreatDoor.Pz
open Go.RowKit Go.Proofs.YtoacojkmclngmaaGreatDoorW.PrintWords Go.Proofs.YtoacojkmclngmaaGreatDoorW.PrintLast Go.Proofs.YtoacojkmclngmaaGreatDoorW.PrintMore
attribute [local go_sem] max2_int min2_int max_two min_two max_three min_three max_four min_four   -- for this text's walks alone
attribute [local go_sem] rune_str
set_option linter.unusedVariables false
set_option linter.unusedSimpArgs false

/-- A state of type 52 at block g of W; what its slices lead to came in by w0. -/
def IsS52 (w0 W : World) (g : Nat) (f0 : ByteArray) (f1 : Bool) : Prop := W.heap[g]? = some (.cells #[.string f0, .bool f1] 52 (0, 0)) ∧ w0.heap.size ≤ g
theorem IsS52.grown {w0 W : World} {g : Nat} {f0 : ByteArray} {f1 : Bool} {W1 : World} {row : Option Nat} (h : IsS52 w0 W g f0 f1) (hw : W.grownBy W1 row) (hne : some g ≠ row) : IsS52 w0 W1 g f0 f1 := by
  obtain ⟨hb, hg⟩ := h
  exact ⟨blk_grown hb hw hne, hg⟩
theorem IsS52.own_neN {w0 W : World} {g : Nat} {f0 : ByteArray} {f1 : Bool} {α : Type} {d : Kd α} {e : Nat} {base : Nat} {ok : Nat → Prop} {v : Value} {xs : List α} (h : IsS52 w0 W g f0 f1) (ho : Kd.N d e W base ok v xs) (ht : e ≠ 52) : some g ≠ v.ownBlock := by
  obtain ⟨hb, hg⟩ := h
  exact Kd.N_ne ho hb ht
theorem IsS52.fresh {w0 W : World} {g : Nat} {f0 : ByteArray} {f1 : Bool} (h : IsS52 w0 W g f0 f1) : ∀ k, W.heap.size ≤ k → k ≠ g := by
  obtain ⟨hb, hg⟩ := h
  exact Kd.freshB hb
theorem IsS52.kept {w0 W : World} {g : Nat} {f0 : ByteArray} {f1 : Bool} {W1 : World} {S : Nat → Prop} (h : IsS52 w0 W g f0 f1) (hk : Kept W W1 S) (hne : ¬ S g) : IsS52 w0 W1 g f0 f1 := by
  obtain ⟨hb, hg⟩ := h
  exact ⟨blk_kept hb hk hne, hg⟩
theorem IsS52.below {w0 W : World} {g : Nat} {f0 : ByteArray} {f1 : Bool} {W1 : World} (h : IsS52 w0 W g f0 f1) (hw : Below W.heap.size W W1) : IsS52 w0 W1 g f0 f1 := h.grown (grown_of_below hw none) (by simp)
theorem IsS52.alloc {w0 W : World} {g : Nat} {f0 : ByteArray} {f1 : Bool} (h : IsS52 w0 W g f0 f1) (o : Obj) : IsS52 w0 (W.alloc o) g f0 f1 := h.below (below_alloc (Below.refl _ _) o)
theorem IsS52.drewN {w0 W : World} {g : Nat} {f0 : ByteArray} {f1 : Bool} (h : IsS52 w0 W g f0 f1) (m : Nat) : IsS52 w0 (W.drewN m) g f0 f1 := h
theorem IsS52.drew {w0 W : World} {g : Nat} {f0 : ByteArray} {f1 : Bool} (h : IsS52 w0 W g f0 f1) : IsS52 w0 W.drew g f0 f1 := h
theorem IsS52.at_ {w0 W : World} {g : Nat} {f0 : ByteArray} {f1 : Bool} {w' : World} {m : Nat} (hq : W.drewN m = w') (h : IsS52 w0 W g f0 f1) : IsS52 w0 w' g f0 f1 := by subst hq; exact IsS52.drewN h m
theorem IsS52.apart {w0 W : World} {g : Nat} {f0 : ByteArray} {f1 : Bool} {α : Type} {d : Kd α} {e : Nat} {base : Nat} {ok : Nat → Prop} {v : Value} {xs : List α} (h : IsS52 w0 W g f0 f1) (ho : d.R e W base ok v xs) (ht : ∀ q, q ∈ e :: d.E → q ≠ 52) : d.R e W base (fun k => ok k ∧ k ≠ g) v xs := by
  obtain ⟨hb, hg⟩ := h
  exact Kd.R_types ho hb ht
theorem IsS52.own_ne {w0 W : World} {g : Nat} {f0 : ByteArray} {f1 : Bool} {α : Type} {d : Kd α} {e : Nat} {base : Nat} {ok : Nat → Prop} {v : Value} {xs : List α} (h : IsS52 w0 W g f0 f1) (ho : d.R e W base ok v xs) (ht : e ≠ 52) : some g ≠ v.ownBlock := by
  obtain ⟨hb, hg⟩ := h
  exact Kd.R_ne ho hb ht
theorem IsS52.apartQ {w0 W : World} {g : Nat} {f0 : ByteArray} {f1 : Bool} {α : Type} {d : Kd α} {e : Nat} {base : Nat} {ok : Nat → Prop} {v : Value} {xs : List α} (h : IsS52 w0 W g f0 f1) (ho : d.Q e W base ok v xs) (ht : ∀ q, q ∈ e :: d.E → q ≠ 52) : d.Q e W base (fun k => ok k ∧ k ≠ g) v xs := by
  obtain ⟨hb, hg⟩ := h
  exact Kd.Q_types ho hb ht
theorem IsS52.own_neQ {w0 W : World} {g : Nat} {f0 : ByteArray} {f1 : Bool} {α : Type} {d : Kd α} {e : Nat} {base : Nat} {ok : Nat → Prop} {v : Value} {xs : List α} (h : IsS52 w0 W g f0 f1) (ho : d.Q e W base ok v xs) (ht : e ≠ 52) : some g ≠ v.ownBlock := by
  obtain ⟨hb, hg⟩ := h
  exact Kd.Q_ne ho hb ht
theorem IsS52.apartS {w0 W : World} {g : Nat} {f0 : ByteArray} {f1 : Bool} {α : Type} {d : Kd α} {e : Nat} {base : Nat} {ok : Nat → Prop} {v : Value} {xs : List α} (h : IsS52 w0 W g f0 f1) (ho : d.S e W base ok v xs) (ht : ∀ q, q ∈ e :: d.E → q ≠ 52) : d.S e W base (fun k => ok k ∧ k ≠ g) v xs := by
  obtain ⟨hb, hg⟩ := h
  exact Kd.S_types ho hb ht
theorem IsS52.own_neS {w0 W : World} {g : Nat} {f0 : ByteArray} {f1 : Bool} {α : Type} {d : Kd α} {e : Nat} {base : Nat} {ok : Nat → Prop} {v : Value} {xs : List α} (h : IsS52 w0 W g f0 f1) (ho : d.S e W base ok v xs) (ht : e ≠ 52) : some g ≠ v.ownBlock := by
  obtain ⟨hb, hg⟩ := h
  exact Kd.S_ne ho hb ht
theorem IsS52.lt {w0 W : World} {g : Nat} {f0 : ByteArray} {f1 : Bool} (h : IsS52 w0 W g f0 f1) : g < W.heap.size := by
  obtain ⟨hb, hg⟩ := h
  exact blk_lt hb
theorem IsS52.ge {w0 W : World} {g : Nat} {f0 : ByteArray} {f1 : Bool} (h : IsS52 w0 W g f0 f1) : w0.heap.size ≤ g := by
  obtain ⟨hb, hg⟩ := h
  exact hg
theorem IsS52.ne_blk {w0 W : World} {g : Nat} {f0 : ByteArray} {f1 : Bool} {a : Nat} {cs : Array Value} {t : TypeId} {fr : Nat × Nat} (h : IsS52 w0 W g f0 f1) (hb2 : W.heap[a]? = some (.cells cs t fr)) (ht : t ≠ 52) : g ≠ a := by
  obtain ⟨hb, hg⟩ := h
  rintro rfl
  rw [hb] at hb2
  injection hb2 with hb2
  injection hb2 with _ ht2
  exact ht ht2.symm
theorem IsS52.far {w0 W : World} {g : Nat} {f0 : ByteArray} {f1 : Bool} {p : Addr} (h : IsS52 w0 W g f0 f1) (hne : g ≠ p.block) (u : Value) : IsS52 w0 (W.setCell p u) g f0 f1 := by
  obtain ⟨hb, hg⟩ := h
  exact ⟨blk_far hb hne u, hg⟩
theorem cellS52_0 {W : World} {g : Nat} {f0 : ByteArray} {f1 : Bool} (h : W.heap[g]? = some (.cells #[.string f0, .bool f1] 52 (0, 0))) : W.cell? ⟨g, 0, none⟩ = some (.string f0) := (blk_cell h 0).trans rfl
theorem IsS52.set_0 {w0 W : World} {g : Nat} {f0 : ByteArray} {f1 : Bool} (h : IsS52 w0 W g f0 f1) (x : ByteArray) : IsS52 w0 (W.setCell ⟨g, 0, none⟩ (.string x)) g x f1 := by
  obtain ⟨hb, hg⟩ := h
  exact ⟨by simpa using blk_set hb 0 (.string x), hg⟩
theorem cellS52_1 {W : World} {g : Nat} {f0 : ByteArray} {f1 : Bool} (h : W.heap[g]? = some (.cells #[.string f0, .bool f1] 52 (0, 0))) : W.cell? ⟨g, 1, none⟩ = some (.bool f1) := (blk_cell h 1).trans rfl
theorem IsS52.set_1 {w0 W : World} {g : Nat} {f0 : ByteArray} {f1 : Bool} (h : IsS52 w0 W g f0 f1) (x : Bool) : IsS52 w0 (W.setCell ⟨g, 1, none⟩ (.bool x)) g f0 x := by
  obtain ⟨hb, hg⟩ := h
  exact ⟨by simpa using blk_set hb 1 (.bool x), hg⟩
theorem IsS52.new (w0 W : World) (f0 : ByteArray) (f1 : Bool) (hB : Below w0.heap.size w0 W) : IsS52 w0 (W.alloc (.cells #[.string f0, .bool f1] 52)) W.heap.size f0 f1 := ⟨by simpa using heap_alloc_new W _, hB.size⟩

end Go.Proofs.YtoacojkmclngmaaGreatDoor.Pz

-- written by the session's own program hookprint.py
namespace Go.Proofs.YtoacojkmclngmaaGreatDoor.Pz
open Go.RowKit Go.Proofs.YtoacojkmclngmaaGreatDoorW.PrintWords Go.Proofs.YtoacojkmclngmaaGreatDoorW.PrintLast Go.Proofs.YtoacojkmclngmaaGreatDoorW.PrintMore
attribute [local go_sem] max2_int min2_int max_two min_two max_three min_three max_four min_four   -- for this text's walks alone
attribute [local go_sem] rune_str
set_option linter.unusedVariables false
set_option linter.unusedSimpArgs false

/-! ### scan_reader_skip: function 79 (by hand) -/
-- IMPORTS: @S@HandWords
def scan_reader_skip.f (s0_0 : ByteArray) (s0_1 : Bool) (a1 : Int) : Option (ByteArray × ByteArray × Bool) :=
  if 0 ≤ a1 then some (s0_0.extract 0 (min a1.toNat s0_0.size), s0_0.extract (min a1.toNat s0_0.size) s0_0.size, s0_1) else none
set_option maxHeartbeats 1000000 in
set_option maxRecDepth 100000 in
theorem scan_reader_skip.calls (g : Nat) (s0_0 : ByteArray) (s0_1 : Bool) (a1 : Int) (r1 : ByteArray) (r2 : ByteArray) (r3 : Bool) (w0 w : World) (hI : IsS52 w0 w g s0_0 s0_1) (hB : Below w0.heap.size w0 w) (h : scan_reader_skip.f s0_0 s0_1 a1 = some (r1, r2, r3)) :
    Calls Tryz.prog 79 #[.pointer (some ⟨g, 0, none⟩), .int .i64 a1] w fun e w' => e = .returned (.string r1) ∧ IsS52 w0 w' g r2 r3 ∧ Below w0.heap.size w0 w' ∧ KeepBut w w' g none := by
  unfold scan_reader_skip.f at h
  split at h
  case isFalse => cases h
  rename_i h0
  simp only [Option.some.injEq, Prod.mk.injEq] at h
  obtain ⟨rfl, rfl, rfl⟩ := h
  obtain ⟨n, rfl⟩ : ∃ n : Nat, a1 = n := ⟨a1.toNat, by omega⟩
  have HI0 := Aside0.mk hI
  have HK := Aside0.mk (KeepBut.refl w g none)
  have HB := Aside0.mk hB
  obtain ⟨HGz8, hgz8⟩ := hI
  have hcz8_0 := cellS52_0 HGz8
  have hcz8_1 := cellS52_1 HGz8
  have hfz8_0 := blk_frozen HGz8 0
  have hfz8_1 := blk_frozen HGz8 1
  clear HGz8 hgz8 hB
  by_cases hlt : n ≤ s0_0.size
  · have e1 : min (n : Int).toNat s0_0.size = n := by simp; omega
    rw [e1]
    have hm : ¬ (s0_0.size : Int) < (n : Int) := by omega
    have hsz : (s0_0.extract 0 n).size = n := by rw [ByteArray.size_extract]; omega
    clear e1
    go_enter Tryz.func79, Tryz.ntmps79
    go_wp2
    repeat (go_quiet (fail); try go_wp2)
    go_ret
    exact ⟨rfl, by repeat (first | (with_reducible first | exact HI0.out | apply IsS52.drewN | apply IsS52.drew | apply IsS52.set_0) | exact HI0.out), by repeat (first | (with_reducible first | exact HB.out | apply pw_below_drewN | refine below_set ?_ (IsS52.ge HI0.out)) | exact HB.out), by repeat (first | (with_reducible first | exact HK.out | apply KeepBut.set_ | apply keep_drewN) | exact HK.out)⟩
  · have e1 : min (n : Int).toNat s0_0.size = s0_0.size := by simp; omega
    have hE : s0_0.extract s0_0.size s0_0.size = ByteArray.empty := by simp
    rw [e1, hE]
    have hm : (s0_0.size : Int) < (n : Int) := by omega
    have hsz : (s0_0.extract 0 s0_0.size).size = s0_0.size := by rw [ByteArray.size_extract]; omega
    clear e1
    go_enter Tryz.func79, Tryz.ntmps79
    go_wp2
    repeat (go_quiet (fail); try go_wp2)
    go_ret
    exact ⟨by simp, by repeat (first | (with_reducible first | exact HI0.out | apply IsS52.drewN | apply IsS52.drew | apply IsS52.set_0) | exact HI0.out), by repeat (first | (with_reducible first | exact HB.out | apply pw_below_drewN | refine below_set ?_ (IsS52.ge HI0.out)) | exact HB.out), by repeat (first | (with_reducible first | exact HK.out | apply KeepBut.set_ | apply keep_drewN) | exact HK.out)⟩

end Go.Proofs.YtoacojkmclngmaaGreatDoor.Pz

-- written by the session's own program hookprint.py
namespace Go.Proofs.YtoacojkmclngmaaGreatDoor.Pz
open Go.RowKit Go.Proofs.YtoacojkmclngmaaGreatDoorW.PrintWords Go.Proofs.YtoacojkmclngmaaGreatDoorW.PrintLast Go.Proofs.YtoacojkmclngmaaGreatDoorW.PrintMore
attribute [local go_sem] max2_int min2_int max_two min_two max_three min_three max_four min_four   -- for this text's walks alone
attribute [local go_sem] rune_str
set_option linter.unusedVariables false
set_option linter.unusedSimpArgs false

/-! ### scan_anyAt: function 159 (by hand) -/
-- IMPORTS: @S@HandWords Derived.Lib.OthersKept Derived.Laws.RangeAny Derived.Laws.RangeString Derived.Lib.RuneCount
/-- where one of some bytes first stands, or -1 -/
def anyIdx (l cs : List UInt8) : Int := match l.findIdx? (fun c => cs.contains c) with
  | some i => i
  | none => -1
def scan_anyAt.f (a0 a1 : ByteArray) : Option Int := if a0.size ≤ 140737488355328 ∧ a1.size ≤ 140737488355328 ∧ a1.data.toList.all (fun b => decide (b.toNat < 128)) = true then some (anyIdx a0.data.toList a1.data.toList) else none
theorem get_at (s : ByteArray) (i : Nat) (h : i < s.size) : s.get! i = s[i]'h := by
  show s.data[i]! = s.data[i]
  exact getElem!_pos s.data i h
theorem decode_conts (s : ByteArray) (pos : Nat) (h : pos < s.size) : pos + (Utf8.decode s pos).2 ≤ s.size ∧ ∀ i, 1 ≤ i → i < (Utf8.decode s pos).2 → ∀ hi : pos + i < s.size, 128 ≤ (s[pos + i]'hi).toNat := by
  have key : ∀ k, (decide (pos + k < s.size) && (s.get! (pos + k)).toNat / 64 == 2) = true → pos + k < s.size ∧ ∀ hi : pos + k < s.size, 128 ≤ (s[pos + k]'hi).toNat := by
    intro k hk
    simp only [Bool.and_eq_true, decide_eq_true_eq, beq_iff_eq] at hk
    refine ⟨hk.1, fun hi => ?_⟩
    have := hk.2
    rw [get_at s _ hi] at this
    omega
  unfold Utf8.decode
  simp only
  split
  · exact ⟨by omega, fun i h1 h2 => by omega⟩
  · split
    · rename_i hc
      simp only [Bool.and_eq_true] at hc
      have k1 := key 1 (by simpa using hc.2)
      split
      · refine ⟨by omega, fun i h1 h2 hi => ?_⟩
        obtain rfl : i = 1 := by omega
        exact k1.2 hi
      · exact ⟨by omega, fun i h1 h2 => by omega⟩
    · split
      · rename_i hc
        simp only [Bool.and_eq_true] at hc
        have k1 := key 1 (by simpa using hc.1.2)
        have k2 := key 2 (by simpa using hc.2)
        split
        · refine ⟨by omega, fun i h1 h2 hi => ?_⟩
          rcases (show i = 1 ∨ i = 2 by omega) with rfl | rfl
          · exact k1.2 hi
          · exact k2.2 hi
        · exact ⟨by omega, fun i h1 h2 => by omega⟩
      · split
        · rename_i hc
          simp only [Bool.and_eq_true] at hc
          have k1 := key 1 (by simpa using hc.1.1.2)
          have k2 := key 2 (by simpa using hc.1.2)
          have k3 := key 3 (by simpa using hc.2)
          split
          · refine ⟨by omega, fun i h1 h2 hi => ?_⟩
            rcases (show i = 1 ∨ i = 2 ∨ i = 3 by omega) with rfl | rfl | rfl
            · exact k1.2 hi
            · exact k2.2 hi
            · exact k3.2 hi
          · exact ⟨by omega, fun i h1 h2 => by omega⟩
        · exact ⟨by omega, fun i h1 h2 => by omega⟩
theorem anyIdx_hit (l cs : List UInt8) (p : Nat) (h : p < l.length) (hn : ∀ i (hi : i < p), cs.contains (l[i]'(by omega)) = false) (hc : cs.contains l[p] = true) : anyIdx l cs = p := by
  have : l.findIdx? (fun c => cs.contains c) = some p := by
    rw [List.findIdx?_eq_some_iff_getElem]
    exact ⟨h, hc, fun j hj => by simp only [hn j hj]; decide⟩
  rw [anyIdx, this]
theorem anyIdx_miss (l cs : List UInt8) (hn : ∀ i (hi : i < l.length), cs.contains l[i] = false) : anyIdx l cs = -1 := by
  have : l.findIdx? (fun c => cs.contains c) = none := by
    rw [List.findIdx?_eq_none_iff]
    intro x hx
    obtain ⟨i, hi, rfl⟩ := List.getElem_of_mem hx
    exact hn i hi
  rw [anyIdx, this]
theorem iterAt_below {B : Nat} {w wr : World} (h : Below B w wr) (k : Nat) (hk : B ≤ k) (s : ByteArray) (p : Nat) : Below B w (wr.iterAt k s p) :=
  h.trans ⟨rfl, rfl, rfl, by rw [Lib.iterAt_size]; exact Nat.le_refl _, fun i hi => Lib.iterAt_other _ _ _ _ _ (by omega)⟩
theorem iter_alloc (w : World) (s : ByteArray) : w.iter s 0 = w.alloc (.stringIter s 0) := rfl
set_option maxHeartbeats 4000000 in
set_option maxRecDepth 100000 in
theorem scan_anyAt.calls (a0 : ByteArray) (a1 : ByteArray) (r : Int) (w : World) (h : scan_anyAt.f a0 a1 = some r) :
    Calls Tryz.prog 159 #[.string a0, .string a1] w fun e w' => e = .returned (.int .i64 r) ∧ Below w.heap.size w w' := by
  unfold scan_anyAt.f at h
  split at h
  case isFalse => cases h
  rename_i hs
  obtain ⟨hs0, hs1, hasc⟩ := hs
  obtain rfl := Option.some.inj h
  have HL0 : Aside0 (a0.data.toList.length = a0.size) := ⟨by rw [Array.length_toList]; rfl⟩
  have HL1 : Aside0 (a1.data.toList.length = a1.size) := ⟨by rw [Array.length_toList]; rfl⟩
  have HA : Aside0 (∀ (j : Nat) (hj : j < a1.size), (a1[j]'hj).toNat < 128) := ⟨fun j hj => by
    have h2 : j < a1.data.toList.length := by rw [HL1.out]; exact hj
    have := List.all_eq_true.1 hasc (a1.data.toList[j]) (List.getElem_mem h2)
    have h3 : (a1.data.toList[j]).toNat < 128 := by simpa using this
    exact h3⟩
  clear h hasc
  obtain ⟨res, hres⟩ : ∃ res, res = anyIdx a0.data.toList a1.data.toList := ⟨_, rfl⟩
  rw [← hres]
  have HRES := Aside0.mk hres
  clear hres
  go_enter Tryz.func159, Tryz.ntmps159
  go_wp2
  rw [iter_alloc]
  have hg : (w.alloc (.stringIter a0 0)).heap[w.heap.size]? = some (.stringIter a0 0) := by
    show (w.heap.push _)[w.heap.size]? = _
    simp
  have hB := (Below.refl w.heap.size w).alloc (Nat.le_refl _) (.stringIter a0 0)
  generalize w.alloc (.stringIter a0 0) = w1 at hg hB ⊢
  have HB0 := Aside0.mk hB
  have hg0 := Aside0.mk hg
  clear hB hg
  go_loopw [5] (fun _ wr => ∃ pos : Nat, pos ≤ a0.size ∧ wr.heap[w.heap.size]? = some (.stringIter a0 pos) ∧ Aside0 (∀ i (hi : i < pos) (hi2 : i < a0.data.toList.length), a1.data.toList.contains (a0.data.toList[i]'hi2) = false) ∧ Aside0 (Below w.heap.size w wr)) (fun _ wr => a0.size - wr.iterPos w.heap.size)
  case atStart => exact ⟨0, Nat.zero_le _, hg0.out, ⟨fun i hi => by omega⟩, HB0⟩
  case round =>
    obtain ⟨pos, hpos, hk, hno, hb⟩ := hrel
    by_cases hlt : pos < a0.size
    · have hn := Lib.run_next_any_at (P := Tryz.prog) wr w.heap.size a0 pos 0 hk hlt
      have hdec := decode_conts a0 pos hlt
      have hw1 := Lib.decode_width_pos a0 pos hlt
      have hrle := decode_le a0 pos
      have hlo : (a0[pos]'hlt).toNat < 128 → Utf8.decode a0 pos = ((a0[pos]'hlt).toNat, 1) := decode_ascii a0 pos hlt
      have hhi : 128 ≤ (a0[pos]'hlt).toNat → 128 ≤ (Utf8.decode a0 pos).1 := fun h => (decode_high a0 pos hlt h).1
      obtain ⟨⟨r, wd⟩, hrw⟩ : ∃ p, p = Utf8.decode a0 pos := ⟨_, rfl⟩
      rw [← hrw] at hn hdec hw1 hrle hlo hhi
      simp only at hn hdec hw1 hrle hhi
      have hk2 := Lib.iterAt_heap wr w.heap.size a0 pos (pos + wd) hk
      have hb2 := iterAt_below hb.out w.heap.size (Nat.le_refl _) a0 (pos + wd)
      have HD := Aside0.mk hdec
      have HLO := Aside0.mk hlo
      have HHI := Aside0.mk hhi
      have HPOS : Aside0 (wr.iterPos w.heap.size = pos) := ⟨by simp [World.iterPos, hk]⟩
      clear hdec hlo hhi hrw hk
      go_wp2_with (fail)
      rw [iter_alloc]
      clear hn
      have hkn : ((wr.iterAt w.heap.size a0 (pos + wd)).alloc (.stringIter a1 0)).heap[(wr.iterAt w.heap.size a0 (pos + wd)).heap.size]? = some (.stringIter a1 0) := by
        show ((wr.iterAt w.heap.size a0 (pos + wd)).heap.push _)[(wr.iterAt w.heap.size a0 (pos + wd)).heap.size]? = _
        simp
      have hlt2 : w.heap.size < (wr.iterAt w.heap.size a0 (pos + wd)).heap.size := (Array.getElem?_eq_some_iff.1 hk2).1
      have hk3 : ((wr.iterAt w.heap.size a0 (pos + wd)).alloc (.stringIter a1 0)).heap[w.heap.size]? = some (.stringIter a0 (pos + wd)) := (Below.heap_alloc _ _ _ hlt2).trans hk2
      have HB2 := Aside0.mk (hb2.alloc (Nat.le_of_lt hlt2) (.stringIter a1 0))
      clear hk2 hb2
      generalize (wr.iterAt w.heap.size a0 (pos + wd)).heap.size = g2 at hkn hlt2 ⊢
      generalize (wr.iterAt w.heap.size a0 (pos + wd)).alloc (.stringIter a1 0) = w2 at hkn hk3 HB2 ⊢
      have HKN := Aside0.mk hkn
      have HK3 := Aside0.mk hk3
      clear hkn hk3
      obtain ⟨wo, hwo⟩ : ∃ wo : World, wo = wr := ⟨_, rfl⟩
      subst hwo
      go_loopw [8] (fun _ wr => ∃ j : Nat, j ≤ a1.size ∧ wr.heap[g2]? = some (.stringIter a1 j) ∧ Aside0 (wr.heap[w.heap.size]? = some (.stringIter a0 (pos + wd))) ∧ Aside0 (∀ i (hi : i < j) (hi2 : i < a1.size), ((a1[i]'hi2).toNat : Int) ≠ (r : Int)) ∧ Aside0 (Below w.heap.size w wr)) (fun _ wr => a1.size - wr.iterPos g2)
      case atStart => exact ⟨0, Nat.zero_le _, HKN.out, HK3, ⟨fun i hi => by omega⟩, HB2⟩
      case round =>
        obtain ⟨j, hj, hkj, hkw, hnj, hbi⟩ := hrel
        by_cases hltj : j < a1.size
        · have hn := Lib.run_next_ascii_at (P := Tryz.prog) wr g2 a1 j 0 hkj hltj (HA.out j hltj)
          have HKJ := Aside0.mk (Lib.iterAt_heap wr g2 a1 j (j + 1) hkj)
          have HKW := Aside0.mk ((Lib.iterAt_other wr g2 w.heap.size a1 (j + 1) (by omega)).trans hkw.out)
          have HBI := Aside0.mk (iterAt_below hbi.out g2 (Nat.le_of_lt hlt2) a1 (j + 1))
          have HPJ2 : Aside0 (wr.iterPos g2 = j) := ⟨by simp [World.iterPos, hkj]⟩
          clear hkj
          by_cases heq : (r : Int) = ((a1[j]'hltj).toNat : Int)
          · have hr128 : r < 128 := by have := HA.out j hltj; omega
            have hlow : (a0[pos]'hlt).toNat < 128 := by
              rcases Nat.lt_or_ge (a0[pos]'hlt).toNat 128 with h | h
              · exact h
              · have := HHI.out h; omega
            have hreq : r = (a0[pos]'hlt).toNat := congrArg Prod.fst (HLO.out hlow)
            have hbyte : a0[pos]'hlt = a1[j]'hltj := by
              apply UInt8.toNat_inj.1
              omega
            have hfound : res = pos := by
              rw [HRES.out]
              have hp2 : pos < a0.data.toList.length := by rw [HL0.out]; exact hlt
              refine anyIdx_hit _ _ pos hp2 (fun i hi => hno.out i hi (by omega)) ?_
              have hj2 : j < a1.data.toList.length := by rw [HL1.out]; exact hltj
              have e1 : a0.data.toList[pos] = a1.data.toList[j] := hbyte
              rw [e1]
              simp
            have HF := Aside0.mk hfound
            have heq' : ((r : Int) == ((a1[j]'hltj).toNat : Int)) = true := by simpa using heq
            clear hfound hbyte hreq heq hlow hr128
            go_wp2
            go_ret
            exact ⟨by rw [HF.out]; rfl, HBI.out⟩
          · have heq' : ((r : Int) == ((a1[j]'hltj).toNat : Int)) = false := by simpa using heq
            have HNE := Aside0.mk heq
            clear heq
            go_wp2
            go_roundw
            case rel => exact ⟨j + 1, by omega, HKJ.out, HKW, ⟨fun i hi hi2 => by
              rcases Nat.lt_or_ge i j with h | h
              · exact hnj.out i h hi2
              · obtain rfl : i = j := by omega
                exact fun e => HNE.out e.symm⟩, HBI⟩
            case measure =>
              rw [HPJ2.out]
              have : (wr.iterAt g2 a1 (j + 1)).iterPos g2 = j + 1 := by simp [World.iterPos, HKJ.out]
              rw [this]
              omega
        · have hn := Lib.run_next_end_at (P := Tryz.prog) wr g2 a1 j 0 hkj hltj
          have HKJ := Aside0.mk hkj
          clear hkj
          go_wp2
          go_roundw
          case rel =>
            refine ⟨pos + wd, HD.out.1, hkw.out, ⟨fun i hi hi2 => ?_⟩, hbi⟩
            have hnone : ∀ b : UInt8, (∀ q (hq : q < a1.size), a1[q]'hq ≠ b) → a1.data.toList.contains b = false := by
              intro b hb2
              rw [← Bool.not_eq_true, List.contains_iff_mem]
              intro hm
              obtain ⟨q, hq, e⟩ := List.getElem_of_mem hm
              rw [HL1.out] at hq
              exact hb2 q hq e
            rcases Nat.lt_or_ge i pos with h | h
            · exact hno.out i h hi2
            · rw [HL0.out] at hi2
              refine hnone _ (fun q hq e => ?_)
              have e1 : a1[q]'hq = a0[i]'hi2 := e
              have hq128 := HA.out q hq
              rcases Nat.eq_or_lt_of_le h with h2 | h2
              · subst h2
                rw [e1] at hq128
                have hr := congrArg Prod.fst (HLO.out hq128)
                exact hnj.out q (by omega) hq (by rw [e1]; simp only at hr; omega)
              · have := HD.out.2 (i - pos) (by omega) (by omega) (by omega)
                simp only [show pos + (i - pos) = i by omega] at this
                rw [e1] at hq128
                omega
          case measure =>
            rw [HPOS.out]
            have : wr.iterPos w.heap.size = pos + wd := by simp [World.iterPos, hkw.out]
            rw [this]
            omega
    · have hn := Lib.run_next_end_at (P := Tryz.prog) wr w.heap.size a0 pos 0 hk hlt
      have hmiss : res = -1 := by
        rw [HRES.out]
        exact anyIdx_miss _ _ (fun i hi => hno.out i (by rw [HL0.out] at hi; omega) hi)
      have HM := Aside0.mk hmiss
      clear hmiss hk
      go_wp2
      go_ret
      exact ⟨by rw [HM.out]; rfl, hb.out⟩

end Go.Proofs.YtoacojkmclngmaaGreatDoor.Pz

-- written by the session's own program hookprint.py
namespace Go.Proofs.YtoacojkmclngmaaGreatDoor.Pz
open Go.RowKit Go.Proofs.YtoacojkmclngmaaGreatDoorW.PrintWords Go.Proofs.YtoacojkmclngmaaGreatDoorW.PrintLast Go.Proofs.YtoacojkmclngmaaGreatDoorW.PrintMore
attribute [local go_sem] max2_int min2_int max_two min_two max_three min_three max_four min_four   -- for this text's walks alone
attribute [local go_sem] rune_str
set_option linter.unusedVariables false
set_option linter.unusedSimpArgs false

/-! ### scan_reader_until: function 136 -/
def scan_reader_until.f (s0_0 : ByteArray) (s0_1 : Bool) (a1 : ByteArray) : Option (ByteArray × ByteArray × Bool) := (scan_anyAt.f s0_0 a1).bind fun t129 => (if t129 < 0 then (if 0 ≤ (s0_0.size : Int) then (if (s0_0.size : Int) ≤ (s0_0.size : Int) then (some (s0_0.extract 0 ((s0_0.size : Int) : Int).toNat, s0_0.extract ((s0_0.size : Int) : Int).toNat s0_0.size, true)) else (none)) else (none)) else (if 0 ≤ t129 then (if t129 ≤ (s0_0.size : Int) then (some (s0_0.extract 0 (t129 : Int).toNat, s0_0.extract (t129 : Int).toNat s0_0.size, s0_1)) else (none)) else (none)))
set_option maxHeartbeats 8000000 in
set_option maxRecDepth 100000 in
theorem scan_reader_until.calls (g : Nat) (s0_0 : ByteArray) (s0_1 : Bool) (a1 : ByteArray) (r1 : ByteArray) (r2 : ByteArray) (r3 : Bool) (w0 w : World) (hI : IsS52 w0 w g s0_0 s0_1) (hB : Below w0.heap.size w0 w) (h : scan_reader_until.f s0_0 s0_1 a1 = some (r1, r2, r3)) :
    Calls Tryz.prog 136 #[.pointer (some ⟨g, 0, none⟩), .string a1] w fun e w' => e = .returned (.string r1) ∧ IsS52 w0 w' g r2 r3 ∧ Below w0.heap.size w0 w' ∧ KeepBut w w' g none := by
  have HI0 := Aside0.mk hI
  have HK := Aside0.mk (KeepBut.refl w g none)
  have HL := Aside0.mk hB.size
  clear hI
  have HW0 := Aside0.mk hB.size
  have HB := Aside0.mk hB
  clear hB
  have H : ((scan_anyAt.f s0_0 a1).bind fun t129 => (if t129 < 0 then (if 0 ≤ (s0_0.size : Int) then (if (s0_0.size : Int) ≤ (s0_0.size : Int) then (some (s0_0.extract 0 ((s0_0.size : Int) : Int).toNat, s0_0.extract ((s0_0.size : Int) : Int).toNat s0_0.size, true)) else (none)) else (none)) else (if 0 ≤ t129 then (if t129 ≤ (s0_0.size : Int) then (some (s0_0.extract 0 (t129 : Int).toNat, s0_0.extract (t129 : Int).toNat s0_0.size, s0_1)) else (none)) else (none)))) = some (r1, r2, r3) := h
  clear h
  replace H := Option.bind_eq_some_iff.mp H
  obtain ⟨t129, A30, H⟩ := H
  replace H : (if t129 < 0 then (if 0 ≤ (s0_0.size : Int) then (if (s0_0.size : Int) ≤ (s0_0.size : Int) then (some (s0_0.extract 0 ((s0_0.size : Int) : Int).toNat, s0_0.extract ((s0_0.size : Int) : Int).toNat s0_0.size, true)) else (none)) else (none)) else (if 0 ≤ t129 then (if t129 ≤ (s0_0.size : Int) then (some (s0_0.extract 0 (t129 : Int).toNat, s0_0.extract (t129 : Int).toNat s0_0.size, s0_1)) else (none)) else (none))) = some (r1, r2, r3) := H
  have A3 := Aside0.mk A30
  clear A30
  by_cases c4 : t129 < 0
  · rw [if_pos c4] at H
    have c4b0 : decide (t129 < 0) = true := decide_eq_true c4
    clear c4
    by_cases c5 : 0 ≤ (s0_0.size : Int)
    · rw [if_pos c5] at H
      have c5b0 := eq_true c5
      have c5b1 : decide (0 ≤ (s0_0.size : Int)) = true := decide_eq_true c5
      clear c5
      by_cases c6 : (s0_0.size : Int) ≤ (s0_0.size : Int)
      · rw [if_pos c6] at H
        have c6b0 := eq_true c6
        have c6b1 : decide ((s0_0.size : Int) ≤ (s0_0.size : Int)) = true := decide_eq_true c6
        clear c6
        have c7b0 := eq_true (of_decide_eq_true (by first | (with_reducible assumption) | assumption) : 0 ≤ (s0_0.size : Int))
        have c8b0 := eq_true (of_decide_eq_true (by first | (with_reducible assumption) | assumption) : (s0_0.size : Int) ≤ (s0_0.size : Int))
        simp only [Option.some.injEq, Prod.mk.injEq] at H
        obtain ⟨rfl, rfl, rfl⟩ := H
        obtain ⟨HGz9, hgz9⟩ := HI0.out
        have hcz9_0 := cellS52_0 HGz9
        have hcz9_1 := cellS52_1 HGz9
        have hfz9_0 := blk_frozen HGz9 0
        have hfz9_1 := blk_frozen HGz9 1
        clear HGz9 hgz9
        go_enter Tryz.func136, Tryz.ntmps136
        go_wp2_with (first | ((with_reducible refine gate_callee (f := 159) rfl ?_); refine goesL_ (some 12) rfl rfl Tryz.func159 (by kernel_rfl) rfl #[.string s0_0, .string a1] rfl (by (try simp only [List.map_toArray, List.map_cons, List.map_nil]); first | done | rfl | (simp only [List.length_drop, List.length_take]; rfl)) ?_; (with_reducible refine (scan_anyAt.calls s0_0 a1 t129 _ A3.out).mono ?_); rintro e w10 ⟨rfl, hb⟩; refine ⟨_, rfl, ?_⟩; have n0_ := Aside0.mk (IsS52.below (by repeat (first | (with_reducible first | exact HI0.out | apply IsS52.alloc | apply IsS52.drewN | apply IsS52.drew | apply IsS52.set_0 | apply IsS52.set_1) | exact HI0.out)) hb); have n1_ := Aside0.mk (KeepBut.trans (by repeat (first | (with_reducible first | exact HK.out | apply KeepBut.set_ | apply keep_drewN | apply keep_drew | apply keep_alloc) | exact HK.out)) (KeepBut.of_below hb g none) (.inl rfl)); have n2_ := Aside0.mk (below_step (by repeat (first | (with_reducible first | exact HB.out | apply below_alloc | apply pw_below_drewN | apply below_drew1 | refine below_set ?_ (IsS52.ge HI0.out)) | exact HB.out)) hb); clear HI0; clear HK; clear HB; have HI0 := n0_; have HK := n1_; have HB := n2_; clear n0_ n1_ n2_; (try clear hb); (try clear hb2); (try clear hk); (try clear hi); obtain ⟨HGz11, hgz11⟩ := HI0.out; have hcz11_0 := cellS52_0 HGz11; have hcz11_1 := cellS52_1 HGz11; have hfz11_0 := blk_frozen HGz11 0; have hfz11_1 := blk_frozen HGz11 1; clear HGz11 hgz11))
        go_ret
        (try simp only [ext_self])
        exact ⟨by first | rfl | (simp [errW_none, errW_some] <;> rfl) | (simp [*, errW_none, errW_some] <;> rfl), by repeat (first | (with_reducible first | exact HI0.out | apply IsS52.alloc | apply IsS52.drewN | apply IsS52.drew | apply IsS52.set_0 | apply IsS52.set_1) | exact HI0.out), by repeat (first | (with_reducible first | exact HB.out | apply below_alloc | apply pw_below_drewN | apply below_drew1 | refine below_set ?_ (IsS52.ge HI0.out)) | exact HB.out), by repeat (first | (with_reducible first | exact HK.out | apply KeepBut.set_ | apply keep_drewN | apply keep_drew | apply keep_alloc) | exact HK.out)⟩
      · rw [if_neg c6] at H
        exact absurd H (by simp)
    · rw [if_neg c5] at H
      exact absurd H (by simp)
  · rw [if_neg c4] at H
    have c4b0 : decide (t129 < 0) = false := decide_eq_false c4
    clear c4
    by_cases c12 : 0 ≤ t129
    · rw [if_pos c12] at H
      have c12b0 := eq_true c12
      have c12b1 : decide (0 ≤ t129) = true := decide_eq_true c12
      clear c12
      by_cases c13 : t129 ≤ (s0_0.size : Int)
      · rw [if_pos c13] at H
        have c13b0 := eq_true c13
        have c13b1 : decide (t129 ≤ (s0_0.size : Int)) = true := decide_eq_true c13
        clear c13
        have c14b0 := eq_true (of_decide_eq_true (by first | (with_reducible assumption) | assumption) : 0 ≤ t129)
        have c15b0 := eq_true (of_decide_eq_true (by first | (with_reducible assumption) | assumption) : t129 ≤ (s0_0.size : Int))
        simp only [Option.some.injEq, Prod.mk.injEq] at H
        obtain ⟨rfl, rfl, rfl⟩ := H
        obtain ⟨HGz16, hgz16⟩ := HI0.out
        have hcz16_0 := cellS52_0 HGz16
        have hcz16_1 := cellS52_1 HGz16
        have hfz16_0 := blk_frozen HGz16 0
        have hfz16_1 := blk_frozen HGz16 1
        clear HGz16 hgz16
        go_enter Tryz.func136, Tryz.ntmps136
        go_wp2_with (first | ((with_reducible refine gate_callee (f := 159) rfl ?_); refine goesL_ (some 12) rfl rfl Tryz.func159 (by kernel_rfl) rfl #[.string s0_0, .string a1] rfl (by (try simp only [List.map_toArray, List.map_cons, List.map_nil]); first | done | rfl | (simp only [List.length_drop, List.length_take]; rfl)) ?_; (with_reducible refine (scan_anyAt.calls s0_0 a1 t129 _ A3.out).mono ?_); rintro e w17 ⟨rfl, hb⟩; refine ⟨_, rfl, ?_⟩; have n0_ := Aside0.mk (IsS52.below (by repeat (first | (with_reducible first | exact HI0.out | apply IsS52.alloc | apply IsS52.drewN | apply IsS52.drew | apply IsS52.set_0 | apply IsS52.set_1) | exact HI0.out)) hb); have n1_ := Aside0.mk (KeepBut.trans (by repeat (first | (with_reducible first | exact HK.out | apply KeepBut.set_ | apply keep_drewN | apply keep_drew | apply keep_alloc) | exact HK.out)) (KeepBut.of_below hb g none) (.inl rfl)); have n2_ := Aside0.mk (below_step (by repeat (first | (with_reducible first | exact HB.out | apply below_alloc | apply pw_below_drewN | apply below_drew1 | refine below_set ?_ (IsS52.ge HI0.out)) | exact HB.out)) hb); clear HI0; clear HK; clear HB; have HI0 := n0_; have HK := n1_; have HB := n2_; clear n0_ n1_ n2_; (try clear hb); (try clear hb2); (try clear hk); (try clear hi); obtain ⟨HGz18, hgz18⟩ := HI0.out; have hcz18_0 := cellS52_0 HGz18; have hcz18_1 := cellS52_1 HGz18; have hfz18_0 := blk_frozen HGz18 0; have hfz18_1 := blk_frozen HGz18 1; clear HGz18 hgz18))
        go_ret
        (try simp only [ext_self])
        exact ⟨by first | rfl | (simp [errW_none, errW_some] <;> rfl) | (simp [*, errW_none, errW_some] <;> rfl), by repeat (first | (with_reducible first | exact HI0.out | apply IsS52.alloc | apply IsS52.drewN | apply IsS52.drew | apply IsS52.set_0 | apply IsS52.set_1) | exact HI0.out), by repeat (first | (with_reducible first | exact HB.out | apply below_alloc | apply pw_below_drewN | apply below_drew1 | refine below_set ?_ (IsS52.ge HI0.out)) | exact HB.out), by repeat (first | (with_reducible first | exact HK.out | apply KeepBut.set_ | apply keep_drewN | apply keep_drew | apply keep_alloc) | exact HK.out)⟩
      · rw [if_neg c13] at H
        exact absurd H (by simp)
    · rw [if_neg c12] at H
      exact absurd H (by simp)

end Go.Proofs.YtoacojkmclngmaaGreatDoor.Pz

-- written by the session's own program hookprint.py
namespace Go.Proofs.YtoacojkmclngmaaGreatDoor.Pz
open Go.RowKit Go.Proofs.YtoacojkmclngmaaGreatDoorW.PrintWords Go.Proofs.YtoacojkmclngmaaGreatDoorW.PrintLast Go.Proofs.YtoacojkmclngmaaGreatDoorW.PrintMore
attribute [local go_sem] max2_int min2_int max_two min_two max_three min_three max_four min_four   -- for this text's walks alone
attribute [local go_sem] rune_str
set_option linter.unusedVariables false
set_option linter.unusedSimpArgs false

/-! ### strings_TrimLeft: function 160 (by hand) -/
-- IMPORTS: @S@Shelf Derived.Shelf.Strings.SlTrimAscii
def strings_TrimLeft.f (a0 a1 : ByteArray) : Option ByteArray :=
  if a1.size < 4294967281 ∧ a1.data.toList.all (fun b => decide (b.toNat < 128)) = true then some ⟨(Lib.trimLeftS a0.data.toList a1.data.toList).toArray⟩ else none
theorem strings_TrimLeft.calls (a0 : ByteArray) (a1 : ByteArray) (r : ByteArray) (w : World) (h : strings_TrimLeft.f a0 a1 = some r) :
    Calls Tryz.prog 160 #[.string a0, .string a1] w fun e w' => e = .returned (.string r) ∧ Below w.heap.size w w' := by
  unfold strings_TrimLeft.f at h
  split at h
  case isFalse => cases h
  rename_i hs
  obtain rfl := Option.some.inj h
  exact Any.strings_TrimLeft_laid Tryz.lays161 (by kernel_rfl) a0 a1 w hs.1 (ascii_of_all hs.2)

end Go.Proofs.YtoacojkmclngmaaGreatDoor.Pz

-- written by the session's own program hookprint.py
namespace Go.Proofs.YtoacojkmclngmaaGreatDoor.Pz
open Go.RowKit Go.Proofs.YtoacojkmclngmaaGreatDoorW.PrintWords Go.Proofs.YtoacojkmclngmaaGreatDoorW.PrintLast Go.Proofs.YtoacojkmclngmaaGreatDoorW.PrintMore
attribute [local go_sem] max2_int min2_int max_two min_two max_three min_three max_four min_four   -- for this text's walks alone
attribute [local go_sem] rune_str
set_option linter.unusedVariables false
set_option linter.unusedSimpArgs false

/-! ### scan_reader_blank: function 137 -/
def scan_reader_blank.f (s0_0 : ByteArray) (s0_1 : Bool) : Option (ByteArray × Bool) := (strings_TrimLeft.f s0_0 (⟨#[9, 10, 12, 13, 32]⟩ : ByteArray)).bind fun t130 => (some (t130, s0_1))
set_option maxHeartbeats 8000000 in
set_option maxRecDepth 100000 in
theorem scan_reader_blank.calls (g : Nat) (s0_0 : ByteArray) (s0_1 : Bool) (r1 : ByteArray) (r2 : Bool) (w0 w : World) (hI : IsS52 w0 w g s0_0 s0_1) (hB : Below w0.heap.size w0 w) (h : scan_reader_blank.f s0_0 s0_1 = some (r1, r2)) :
    Calls Tryz.prog 137 #[.pointer (some ⟨g, 0, none⟩)] w fun e w' => e = .returned (.tuple #[]) ∧ IsS52 w0 w' g r1 r2 ∧ Below w0.heap.size w0 w' ∧ KeepBut w w' g none := by
  have HI0 := Aside0.mk hI
  have HK := Aside0.mk (KeepBut.refl w g none)
  have HL := Aside0.mk hB.size
  clear hI
  have HW0 := Aside0.mk hB.size
  have HB := Aside0.mk hB
  clear hB
  have H : ((strings_TrimLeft.f s0_0 (⟨#[9, 10, 12, 13, 32]⟩ : ByteArray)).bind fun t130 => (some (t130, s0_1))) = some (r1, r2) := h
  clear h
  replace H := Option.bind_eq_some_iff.mp H
  obtain ⟨t130, A20, H⟩ := H
  replace H : (some (t130, s0_1)) = some (r1, r2) := H
  have A2 := Aside0.mk A20
  clear A20
  simp only [Option.some.injEq, Prod.mk.injEq] at H
  obtain ⟨rfl, rfl⟩ := H
  obtain ⟨HGz3, hgz3⟩ := HI0.out
  have hcz3_0 := cellS52_0 HGz3
  have hcz3_1 := cellS52_1 HGz3
  have hfz3_0 := blk_frozen HGz3 0
  have hfz3_1 := blk_frozen HGz3 1
  clear HGz3 hgz3
  go_enter Tryz.func137, Tryz.ntmps137
  go_wp2_with (first | ((with_reducible refine gate_callee (f := 160) rfl ?_); refine goesL_ (some 7) rfl rfl Tryz.func160 (by kernel_rfl) rfl #[.string s0_0, .string (⟨#[9, 10, 12, 13, 32]⟩ : ByteArray)] rfl (by (try simp only [List.map_toArray, List.map_cons, List.map_nil]); first | done | rfl | (simp only [List.length_drop, List.length_take]; rfl)) ?_; (with_reducible refine (strings_TrimLeft.calls s0_0 (⟨#[9, 10, 12, 13, 32]⟩ : ByteArray) t130 _ A2.out).mono ?_); rintro e w4 ⟨rfl, hb⟩; refine ⟨_, rfl, ?_⟩; have n0_ := Aside0.mk (IsS52.below (by repeat (first | (with_reducible first | exact HI0.out | apply IsS52.alloc | apply IsS52.drewN | apply IsS52.drew | apply IsS52.set_0 | apply IsS52.set_1) | exact HI0.out)) hb); have n1_ := Aside0.mk (KeepBut.trans (by repeat (first | (with_reducible first | exact HK.out | apply KeepBut.set_ | apply keep_drewN | apply keep_drew | apply keep_alloc) | exact HK.out)) (KeepBut.of_below hb g none) (.inl rfl)); have n2_ := Aside0.mk (below_step (by repeat (first | (with_reducible first | exact HB.out | apply below_alloc | apply pw_below_drewN | apply below_drew1 | refine below_set ?_ (IsS52.ge HI0.out)) | exact HB.out)) hb); clear HI0; clear HK; clear HB; have HI0 := n0_; have HK := n1_; have HB := n2_; clear n0_ n1_ n2_; (try clear hb); (try clear hb2); (try clear hk); (try clear hi); obtain ⟨HGz5, hgz5⟩ := HI0.out; have hcz5_0 := cellS52_0 HGz5; have hcz5_1 := cellS52_1 HGz5; have hfz5_0 := blk_frozen HGz5 0; have hfz5_1 := blk_frozen HGz5 1; clear HGz5 hgz5))
  first | go_end0 | ((try simp only [Exit.inBlock, Exit.then]); refine bodyPost_ret (results_none rfl _ _ _) rfl ?_)
  exact ⟨by first | rfl | (simp [errW_none, errW_some] <;> rfl) | (simp [*, errW_none, errW_some] <;> rfl), by repeat (first | (with_reducible first | exact HI0.out | apply IsS52.alloc | apply IsS52.drewN | apply IsS52.drew | apply IsS52.set_0 | apply IsS52.set_1) | exact HI0.out), by repeat (first | (with_reducible first | exact HB.out | apply below_alloc | apply pw_below_drewN | apply below_drew1 | refine below_set ?_ (IsS52.ge HI0.out)) | exact HB.out), by repeat (first | (with_reducible first | exact HK.out | apply KeepBut.set_ | apply keep_drewN | apply keep_drew | apply keep_alloc) | exact HK.out)⟩

end Go.Proofs.YtoacojkmclngmaaGreatDoor.Pz

-- written by the session's own program hookprint.py
namespace Go.Proofs.YtoacojkmclngmaaGreatDoor.Pz
open Go.RowKit Go.Proofs.YtoacojkmclngmaaGreatDoorW.PrintWords Go.Proofs.YtoacojkmclngmaaGreatDoorW.PrintLast Go.Proofs.YtoacojkmclngmaaGreatDoorW.PrintMore
attribute [local go_sem] max2_int min2_int max_two min_two max_three min_three max_four min_four   -- for this text's walks alone
attribute [local go_sem] rune_str
set_option linter.unusedVariables false
set_option linter.unusedSimpArgs false

/-! ### scan_reader_next: function 138 -/
def scan_reader_next.f (s0_0 : ByteArray) (s0_1 : Bool) : Option (Int × ByteArray × Bool) := if s0_0.toList = ([] : List UInt8) then (some (0, s0_0, true)) else (if 0 < (s0_0.size : Int) then (some (bt s0_0 0, s0_0, s0_1)) else (none))
set_option maxHeartbeats 8000000 in
set_option maxRecDepth 100000 in
theorem scan_reader_next.calls (g : Nat) (s0_0 : ByteArray) (s0_1 : Bool) (r1 : Int) (r2 : ByteArray) (r3 : Bool) (w0 w : World) (hI : IsS52 w0 w g s0_0 s0_1) (hB : Below w0.heap.size w0 w) (h : scan_reader_next.f s0_0 s0_1 = some (r1, r2, r3)) :
    Calls Tryz.prog 138 #[.pointer (some ⟨g, 0, none⟩)] w fun e w' => e = .returned (.int .u8 r1) ∧ IsS52 w0 w' g r2 r3 ∧ Below w0.heap.size w0 w' ∧ KeepBut w w' g none := by
  have HI0 := Aside0.mk hI
  have HK := Aside0.mk (KeepBut.refl w g none)
  have HL := Aside0.mk hB.size
  clear hI
  have HW0 := Aside0.mk hB.size
  have HB := Aside0.mk hB
  clear hB
  have H : (if s0_0.toList = ([] : List UInt8) then (some (0, s0_0, true)) else (if 0 < (s0_0.size : Int) then (some (bt s0_0 0, s0_0, s0_1)) else (none))) = some (r1, r2, r3) := h
  clear h
  by_cases c2 : s0_0.toList = ([] : List UInt8)
  · rw [if_pos c2] at H
    have c2b0 : (s0_0.toList == ([] : List UInt8)) = true := beq_iff_eq.mpr c2
    have c2b1 : (s0_0.toList != ([] : List UInt8)) = false := bne_eq_false_iff_eq.mpr c2
    clear c2
    simp only [Option.some.injEq, Prod.mk.injEq] at H
    obtain ⟨rfl, rfl, rfl⟩ := H
    obtain ⟨HGz3, hgz3⟩ := HI0.out
    have hcz3_0 := cellS52_0 HGz3
    have hcz3_1 := cellS52_1 HGz3
    have hfz3_0 := blk_frozen HGz3 0
    have hfz3_1 := blk_frozen HGz3 1
    clear HGz3 hgz3
    go_enter Tryz.func138, Tryz.ntmps138
    go_wp2
    go_ret
    exact ⟨by first | rfl | (simp [errW_none, errW_some] <;> rfl) | (simp [*, errW_none, errW_some] <;> rfl), by repeat (first | (with_reducible first | exact HI0.out | apply IsS52.alloc | apply IsS52.drewN | apply IsS52.drew | apply IsS52.set_0 | apply IsS52.set_1) | exact HI0.out), by repeat (first | (with_reducible first | exact HB.out | apply below_alloc | apply pw_below_drewN | apply below_drew1 | refine below_set ?_ (IsS52.ge HI0.out)) | exact HB.out), by repeat (first | (with_reducible first | exact HK.out | apply KeepBut.set_ | apply keep_drewN | apply keep_drew | apply keep_alloc) | exact HK.out)⟩
  · rw [if_neg c2] at H
    have c2b0 : (s0_0.toList == ([] : List UInt8)) = false := beq_eq_false_iff_ne.mpr c2
    have c2b1 : (s0_0.toList != ([] : List UInt8)) = true := bne_iff_ne.mpr c2
    by_cases c4 : 0 < (s0_0.size : Int)
    · rw [if_pos c4] at H
      have c4b0 : decide (0 < (s0_0.size : Int)) = true := decide_eq_true c4
      have c4b1 : decide (0 < s0_0.size) = true := decide_eq_true (by omega)
      clear c4
      simp only [Option.some.injEq, Prod.mk.injEq] at H
      obtain ⟨rfl, rfl, rfl⟩ := H
      obtain ⟨HGz6, hgz6⟩ := HI0.out
      have hcz6_0 := cellS52_0 HGz6
      have hcz6_1 := cellS52_1 HGz6
      have hfz6_0 := blk_frozen HGz6 0
      have hfz6_1 := blk_frozen HGz6 1
      clear HGz6 hgz6
      have p5 : 0 ≤ (0 : Int) := (by omega)
      have q5 : 0 < s0_0.size := (by have : (0 : Int) < (s0_0.size : Int) := of_decide_eq_true (by first | (with_reducible assumption) | assumption); omega)
      have hx5 : ∀ h : 0 < s0_0.size, ((s0_0[0]'h).toNat : Int) = bt s0_0 0 := bt_at s0_0 0
      clear p5
      have qi5 : (0 < (s0_0.size : Int)) = True := eq_true (of_decide_eq_true (by first | (with_reducible assumption) | assumption))
      replace q5 := eq_true q5
      go_enter Tryz.func138, Tryz.ntmps138
      go_wp2
      go_ret
      exact ⟨by first | rfl | (simp [errW_none, errW_some] <;> rfl) | (simp [*, errW_none, errW_some] <;> rfl), by repeat (first | (with_reducible first | exact HI0.out | apply IsS52.alloc | apply IsS52.drewN | apply IsS52.drew | apply IsS52.set_0 | apply IsS52.set_1) | exact HI0.out), by repeat (first | (with_reducible first | exact HB.out | apply below_alloc | apply pw_below_drewN | apply below_drew1 | refine below_set ?_ (IsS52.ge HI0.out)) | exact HB.out), by repeat (first | (with_reducible first | exact HK.out | apply KeepBut.set_ | apply keep_drewN | apply keep_drew | apply keep_alloc) | exact HK.out)⟩
    · rw [if_neg c4] at H
      exact absurd H (by simp)

end Go.Proofs.YtoacojkmclngmaaGreatDoor.Pz

-- written by the session's own program hookprint.py
namespace Go.Proofs.YtoacojkmclngmaaGreatDoor.Pz
open Go.RowKit Go.Proofs.YtoacojkmclngmaaGreatDoorW.PrintWords Go.Proofs.YtoacojkmclngmaaGreatDoorW.PrintLast Go.Proofs.YtoacojkmclngmaaGreatDoorW.PrintMore
attribute [local go_sem] max2_int min2_int max_two min_two max_three min_three max_four min_four   -- for this text's walks alone
attribute [local go_sem] rune_str
set_option linter.unusedVariables false
set_option linter.unusedSimpArgs false

/-! ### scan_named: function 135 -/
def scan_named.f (a0 : ByteArray) : Option (ByteArray) := (class_Lower.f a0).bind fun t131 => ((scan_heal.f t131).bind fun t132 => (some t132))
set_option maxHeartbeats 8000000 in
set_option maxRecDepth 100000 in
theorem scan_named.calls (a0 : ByteArray) (r : ByteArray) (w : World) (hG : Glob w) (h : scan_named.f a0 = some r) :
    Calls Tryz.prog 135 #[.string a0] w fun e w' => e = .returned (.string r) ∧ Below w.heap.size w w' := by
  have HB := Aside0.mk (Below.refl w.heap.size w)
  have H : ((class_Lower.f a0).bind fun t131 => ((scan_heal.f t131).bind fun t132 => (some t132))) = some r := h
  clear h
  replace H := Option.bind_eq_some_iff.mp H
  obtain ⟨t131, A20, H⟩ := H
  replace H : ((scan_heal.f t131).bind fun t132 => (some t132)) = some r := H
  have A2 := Aside0.mk A20
  clear A20
  replace H := Option.bind_eq_some_iff.mp H
  obtain ⟨t132, A30, H⟩ := H
  replace H : (some t132) = some r := H
  have A3 := Aside0.mk A30
  clear A30
  obtain rfl := Option.some.inj H
  go_enter Tryz.func135, Tryz.ntmps135
  go_wp2_with (first | ((with_reducible refine gate_callee (f := 132) rfl ?_); refine goesL_ (some 4) rfl rfl Tryz.func132 (by kernel_rfl) rfl #[.string a0] rfl (by (try simp only [List.map_toArray, List.map_cons, List.map_nil]); first | done | rfl | (simp only [List.length_drop, List.length_take]; rfl)) ?_; (with_reducible refine (class_Lower.calls a0 t131 _ A2.out).mono ?_); rintro e w4 ⟨rfl, hb⟩; refine ⟨_, rfl, ?_⟩; have n0_ := Aside0.mk (below_step (by repeat (first | (with_reducible first | exact HB.out | apply below_alloc | apply pw_below_drewN | apply below_drew1) | exact HB.out)) hb); clear HB; have HB := n0_; clear n0_; (try clear hb); (try clear hb2); (try clear hk); (try clear hi)) | ((with_reducible refine gate_callee (f := 109) rfl ?_); refine goesL_ (some 5) rfl rfl Tryz.func109 (by kernel_rfl) rfl #[.string t131] rfl (by (try simp only [List.map_toArray, List.map_cons, List.map_nil]); first | done | rfl | (simp only [List.length_drop, List.length_take]; rfl)) ?_; (with_reducible refine (scan_heal.calls t131 t132 _ ?side1 A3.out).mono ?_); (case side1 => exact Glob.below hG (by repeat (first | (with_reducible first | exact HB.out | apply below_alloc | apply pw_below_drewN | apply below_drew1) | exact HB.out))); rintro e w5 ⟨rfl, hb⟩; refine ⟨_, rfl, ?_⟩; have n0_ := Aside0.mk (below_step (by repeat (first | (with_reducible first | exact HB.out | apply below_alloc | apply pw_below_drewN | apply below_drew1) | exact HB.out)) hb); clear HB; have HB := n0_; clear n0_; (try clear hb); (try clear hb2); (try clear hk); (try clear hi)))
  go_ret
  exact ⟨by first | rfl | (simp [errW_none, errW_some] <;> rfl) | (simp [*, errW_none, errW_some] <;> rfl), by repeat (first | (with_reducible first | exact HB.out | apply below_alloc | apply pw_below_drewN | apply below_drew1) | exact HB.out)⟩

end Go.Proofs.YtoacojkmclngmaaGreatDoor.Pz
