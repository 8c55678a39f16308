/- Texts of the session, one behind the other: what the code computes, function by function, and its contracts. -/
import Derived.Test.YtoacojkmclngmaaGreatDoorK1
import Derived.Test.YtoacojkmclngmaaGreatDoorK2
import Derived.Test.YtoacojkmclngmaaGreatDoorK3
import Derived.Test.YtoacojkmclngmaaGreatDoorK4
import Derived.Test.YtoacojkmclngmaaGreatDoorK5
import Derived.Test.YtoacojkmclngmaaGreatDoorK6
import Derived.Test.YtoacojkmclngmaaGreatDoorK7
import Derived.Test.YtoacojkmclngmaaGreatDoorK8
namespace Go.Proofs.YtoacojkmclngmaaGreatDoor.Pz
open Go.RowKit Go.Proofs.YtoacojkmclngmaaGreatDoorW.PrintWords Go.Proofs.YtoacojkmclngmaaGreatDoorW.PrintLast Go.Proofs.YtoacojkmclngmaaGreatDoorW.PrintMore
attribute [local go_sem] max2_int min2_int max_two min_two max_three min_three max_four min_four   -- for this text's walks alone
attribute [local go_sem] rune_str
set_option linter.unusedVariables false
set_option linter.unusedSimpArgs false
def scan_reader_doctype.f (s0_0 : ByteArray) (s0_1 : Bool) : Option (Int × ByteArray × ByteArray × (List (S36)) × Bool × ByteArray × Bool) := (scan_reader_until.f s0_0 s0_1 (⟨#[62]⟩ : ByteArray)).bind fun bt154 => ((class_Fields.f bt154.1).bind fun t157 => ((scan_reader_skip.f bt154.2.1 bt154.2.2 1).bind fun bt160 => (if (t157.length : Int) > 0 then (if 0 < (t157.length : Int) then ((scan_named.f (rdOf ByteArray.empty t157 0)).bind fun t165 => (some (5, t165, (⟨#[]⟩ : ByteArray), ([] : List (S36)), false, bt160.2.1, bt160.2.2))) else (none)) else (some (5, (⟨#[]⟩ : ByteArray), (⟨#[]⟩ : ByteArray), ([] : List (S36)), false, bt160.2.1, bt160.2.2)))))
set_option maxHeartbeats 8000000 in
set_option maxRecDepth 100000 in
theorem scan_reader_doctype.calls (g : Nat) (s0_0 : ByteArray) (s0_1 : Bool) (r1 : Int) (r2 : ByteArray) (r3 : ByteArray) (r4 : List (S36)) (r5 : Bool) (r6 : ByteArray) (r7 : Bool) (w0 w : World) (hI : IsS52 w0 w g s0_0 s0_1) (hB : Below w0.heap.size w0 w) (hG : Glob w0) (h : scan_reader_doctype.f s0_0 s0_1 = some (r1, r2, r3, r4, r5, r6, r7)) :
    Calls Tryz.prog 114 #[.pointer (some ⟨g, 0, none⟩)] w fun e w' => ∃ v3_ : Value, e = .returned (.agg #[.int .i64 r1, .string r2, .string r3, v3_, .bool r5]) ∧ Kd.R k36 36 w' w.heap.size (fun _ => True) v3_ r4 ∧ IsS52 w0 w' g r6 r7 ∧ Below w0.heap.size w0 w' ∧ KeepBut w w' g none := by
  have hu33 := Tryz.underlying33
  have HI0 := Aside0.mk hI
  have HK := Aside0.mk (KeepBut.refl w g none)
  have HL := Aside0.mk hB.size
  clear hI
  have HW0 := Aside0.mk hB.size
  have HB := Aside0.mk hB
  clear hB
  have H : ((scan_reader_until.f s0_0 s0_1 (⟨#[62]⟩ : ByteArray)).bind fun bt154 => ((class_Fields.f bt154.1).bind fun t157 => ((scan_reader_skip.f bt154.2.1 bt154.2.2 1).bind fun bt160 => (if (t157.length : Int) > 0 then (if 0 < (t157.length : Int) then ((scan_named.f (rdOf ByteArray.empty t157 0)).bind fun t165 => (some (5, t165, (⟨#[]⟩ : ByteArray), ([] : List (S36)), false, bt160.2.1, bt160.2.2))) else (none)) else (some (5, (⟨#[]⟩ : ByteArray), (⟨#[]⟩ : ByteArray), ([] : List (S36)), false, bt160.2.1, bt160.2.2)))))) = some (r1, r2, r3, r4, r5, r6, r7) := h
  clear h
  replace H := Option.bind_eq_some_iff.mp H
  obtain ⟨⟨t154, t155, t156⟩, A20, H⟩ := H
  replace H : ((class_Fields.f t154).bind fun t157 => ((scan_reader_skip.f t155 t156 1).bind fun bt160 => (if (t157.length : Int) > 0 then (if 0 < (t157.length : Int) then ((scan_named.f (rdOf ByteArray.empty t157 0)).bind fun t165 => (some (5, t165, (⟨#[]⟩ : ByteArray), ([] : List (S36)), false, bt160.2.1, bt160.2.2))) else (none)) else (some (5, (⟨#[]⟩ : ByteArray), (⟨#[]⟩ : ByteArray), ([] : List (S36)), false, bt160.2.1, bt160.2.2))))) = some (r1, r2, r3, r4, r5, r6, r7) := H
  have A2 := Aside0.mk A20
  clear A20
  replace H := Option.bind_eq_some_iff.mp H
  obtain ⟨t157, A30, H⟩ := H
  replace H : ((scan_reader_skip.f t155 t156 1).bind fun bt160 => (if (t157.length : Int) > 0 then (if 0 < (t157.length : Int) then ((scan_named.f (rdOf ByteArray.empty t157 0)).bind fun t165 => (some (5, t165, (⟨#[]⟩ : ByteArray), ([] : List (S36)), false, bt160.2.1, bt160.2.2))) else (none)) else (some (5, (⟨#[]⟩ : ByteArray), (⟨#[]⟩ : ByteArray), ([] : List (S36)), false, bt160.2.1, bt160.2.2)))) = some (r1, r2, r3, r4, r5, r6, r7) := H
  have A3 := Aside0.mk A30
  clear A30
  replace H := Option.bind_eq_some_iff.mp H
  obtain ⟨⟨t160, t161, t162⟩, A40, H⟩ := H
  replace H : (if (t157.length : Int) > 0 then (if 0 < (t157.length : Int) then ((scan_named.f (rdOf ByteArray.empty t157 0)).bind fun t165 => (some (5, t165, (⟨#[]⟩ : ByteArray), ([] : List (S36)), false, t161, t162))) else (none)) else (some (5, (⟨#[]⟩ : ByteArray), (⟨#[]⟩ : ByteArray), ([] : List (S36)), false, t161, t162))) = some (r1, r2, r3, r4, r5, r6, r7) := H
  have A4 := Aside0.mk A40
  clear A40
  by_cases c5 : (t157.length : Int) > 0
  · rw [if_pos c5] at H
    have c5b0 : decide (0 < (t157.length : Int)) = true := decide_eq_true c5
    have c5b1 : decide (0 < t157.length) = true := decide_eq_true (by omega)
    clear c5
    by_cases c6 : 0 < (t157.length : Int)
    · rw [if_pos c6] at H
      have c6b0 : decide (0 < (t157.length : Int)) = true := decide_eq_true c6
      have c6b1 : decide (0 < t157.length) = true := decide_eq_true (by omega)
      clear c6
      replace H := Option.bind_eq_some_iff.mp H
      obtain ⟨t165, A70, H⟩ := H
      replace H : (some (5, t165, (⟨#[]⟩ : ByteArray), ([] : List (S36)), false, t161, t162)) = some (r1, r2, r3, r4, r5, r6, r7) := H
      have A7 := Aside0.mk A70
      clear A70
      simp only [Option.some.injEq, Prod.mk.injEq] at H
      obtain ⟨rfl, rfl, rfl, rfl, rfl, rfl, rfl⟩ := H
      go_enter Tryz.func114, Tryz.ntmps114
      go_wp2_with (first | ((with_reducible refine gate_dst (N := 2) rfl ?_); refine box_event ?hg (N := 2) ?hd (cs := #[.int .i64 0, .string (⟨#[]⟩ : ByteArray), .string (⟨#[]⟩ : ByteArray), .slice none 0 0, .bool false]) (t := 33) ?hr ?_; (case hd => rfl); (case hg => rfl); (case hr => first | (go_simp; done) | (go_simp; rfl)); intro gb153 hg w8 hbox hb; have n0_ := Aside0.mk (IsS52.below (by repeat (first | (with_reducible first | exact HI0.out | apply IsS52.alloc | apply IsS52.drewN | apply IsS52.drew | apply IsS52.set_0 | apply IsS52.set_1) | exact HI0.out)) hb); have n1_ := Aside0.mk (KeepBut.trans (by repeat (first | (with_reducible first | exact HK.out | apply KeepBut.set_ | apply keep_drewN | apply keep_drew | apply keep_alloc) | exact HK.out)) (KeepBut.of_below hb g none) (.inl rfl)); have n2_ := Aside0.mk (below_step (by repeat (first | (with_reducible first | exact HB.out | apply below_alloc | apply pw_below_drewN | apply below_drew1 | refine below_set ?_ (IsS52.ge HI0.out)) | exact HB.out)) hb); have n3_ := Aside0.mk (hbox); have n4_ := Aside0.mk ((by rw [hg]; exact (keep_size (w := w) (g := g) (row := none) (by repeat (first | (with_reducible first | exact HK.out | apply KeepBut.set_ | apply keep_drewN | apply keep_drew | apply keep_alloc) | exact HK.out))) : w.heap.size ≤ gb153)); have n5_ := Aside0.mk ((Nat.le_trans HW0.out (by rw [hg]; exact (keep_size (w := w) (g := g) (row := none) (by repeat (first | (with_reducible first | exact HK.out | apply KeepBut.set_ | apply keep_drewN | apply keep_drew | apply keep_alloc) | exact HK.out))) : w.heap.size ≤ gb153) : w0.heap.size ≤ gb153)); have n6_ := Aside0.mk ((by rw [hg]; exact Nat.ne_of_lt (IsS52.lt (show IsS52 w0 _ g s0_0 s0_1 from by repeat (first | (with_reducible first | exact HI0.out | apply IsS52.alloc | apply IsS52.drewN | apply IsS52.drew | apply IsS52.set_0 | apply IsS52.set_1) | exact HI0.out))) : g ≠ gb153)); have n7_ := Aside0.mk ((by rw [hg]; exact Nat.ne_of_gt (IsS52.lt (show IsS52 w0 _ g s0_0 s0_1 from by repeat (first | (with_reducible first | exact HI0.out | apply IsS52.alloc | apply IsS52.drewN | apply IsS52.drew | apply IsS52.set_0 | apply IsS52.set_1) | exact HI0.out))) : gb153 ≠ g)); clear HI0; clear HK; clear HB; have HI0 := n0_; have HK := n1_; have HB := n2_; have BK153 := n3_; have GW153 := n4_; have GE153 := n5_; have NB0_153 := n6_; have NB153_0 := n7_; clear n0_ n1_ n2_ n3_ n4_ n5_ n6_ n7_; clear hb hbox hg) | ((with_reducible refine gate_callee (f := 136) rfl ?_); refine goesL_ (some 6) rfl rfl Tryz.func136 (by kernel_rfl) rfl #[.pointer (some ⟨g, 0, none⟩), .string (⟨#[62]⟩ : ByteArray)] rfl (by (try simp only [List.map_toArray, List.map_cons, List.map_nil]); first | done | rfl | (simp only [List.length_drop, List.length_take]; rfl)) ?_; (with_reducible refine (scan_reader_until.calls g s0_0 s0_1 (⟨#[62]⟩ : ByteArray) t154 t155 t156 w0 _ ?side1 ?side2 A2.out).mono ?_); (case side1 => repeat (first | (with_reducible first | exact HI0.out | apply IsS52.alloc | apply IsS52.drewN | apply IsS52.drew | apply IsS52.set_0 | apply IsS52.set_1 | refine IsS52.far ?_ NB0_153.out _) | exact HI0.out)); (case side2 => repeat (first | (with_reducible first | exact HB.out | apply below_alloc | apply pw_below_drewN | apply below_drew1 | refine below_set ?_ (IsS52.ge HI0.out) | refine below_set ?_ GE153.out) | exact HB.out)); rintro e w9 ⟨rfl, hi, hb, hk⟩; refine ⟨_, rfl, ?_⟩; have n0_ := Aside0.mk (KeepBut.blk hk (g' := gb153) (o := .cells #[.int .i64 0, .string (⟨#[]⟩ : ByteArray), .string (⟨#[]⟩ : ByteArray), .slice none 0 0, .bool false] 33 (0, 0)) (by (with_reducible repeat (first | refine blk_drewN ?_ _ | refine blk_drew ?_ | refine blk_alloc ?_ _)); exact BK153.out) NB153_0.out (by simp)); have n1_ := Aside0.mk (KeepBut.trans (by repeat (first | (with_reducible first | exact HK.out | apply KeepBut.set_ | apply keep_drewN | apply keep_drew | apply keep_alloc | refine keep_far ?_ GW153.out _) | exact HK.out)) hk (.inl rfl)); have n2_ := Aside0.mk (hb); have n3_ := Aside0.mk (hi); clear BK153; clear HK; clear HB; clear HI0; have BK153 := n0_; have HK := n1_; have HB := n2_; have HI0 := n3_; clear n0_ n1_ n2_ n3_; (try clear hb); (try clear hb2); (try clear hk); (try clear hi)) | ((with_reducible refine gate_callee (f := 142) rfl ?_); refine goesL_ (some 7) rfl rfl Tryz.func142 (by kernel_rfl) rfl #[.string t154] rfl (by (try simp only [List.map_toArray, List.map_cons, List.map_nil]); first | done | rfl | (simp only [List.length_drop, List.length_take]; rfl)) ?_; (with_reducible refine (class_Fields.calls t154 t157 _ A3.out).mono ?_); rintro e w10 ⟨v158, rfl, ho0, hb⟩; refine ⟨_, rfl, ?_⟩; have n0_ := Aside0.mk (Kd.R_lower ho0 (keep_size (w := w) (g := g) (row := none) (by repeat (first | (with_reducible first | exact HK.out | apply KeepBut.set_ | apply keep_drewN | apply keep_drew | apply keep_alloc | refine keep_far ?_ GW153.out _) | exact HK.out)))); have n1_ := Aside0.mk (IsS52.below (by repeat (first | (with_reducible first | exact HI0.out | apply IsS52.alloc | apply IsS52.drewN | apply IsS52.drew | apply IsS52.set_0 | apply IsS52.set_1 | refine IsS52.far ?_ NB0_153.out _) | exact HI0.out)) hb); have n2_ := Aside0.mk (blk_below (g := gb153) (o := .cells #[.int .i64 0, .string (⟨#[]⟩ : ByteArray), .string (⟨#[]⟩ : ByteArray), .slice none 0 0, .bool false] 33 (0, 0)) (by (with_reducible repeat (first | refine blk_drewN ?_ _ | refine blk_drew ?_ | refine blk_alloc ?_ _)); exact BK153.out) hb); have n3_ := Aside0.mk (KeepBut.trans (by repeat (first | (with_reducible first | exact HK.out | apply KeepBut.set_ | apply keep_drewN | apply keep_drew | apply keep_alloc | refine keep_far ?_ GW153.out _) | exact HK.out)) (KeepBut.of_below hb g none) (.inl rfl)); have n4_ := Aside0.mk (below_step (by repeat (first | (with_reducible first | exact HB.out | apply below_alloc | apply pw_below_drewN | apply below_drew1 | refine below_set ?_ (IsS52.ge HI0.out) | refine below_set ?_ GE153.out) | exact HB.out)) hb); clear HI0; clear BK153; clear HK; clear HB; have HO159 := n0_; have HI0 := n1_; have BK153 := n2_; have HK := n3_; have HB := n4_; clear n0_ n1_ n2_ n3_ n4_; (try clear hb); (try clear hb2); (try clear hk); (try clear hi); (try clear ho0)) | ((with_reducible refine gate_callee (f := 79) rfl ?_); refine goesL_ (some 9) rfl rfl Tryz.func79 (by kernel_rfl) rfl #[.pointer (some ⟨g, 0, none⟩), .int .i64 1] rfl (by (try simp only [List.map_toArray, List.map_cons, List.map_nil]); first | done | rfl | (simp only [List.length_drop, List.length_take]; rfl)) ?_; (with_reducible refine (scan_reader_skip.calls g t155 t156 1 t160 t161 t162 w0 _ ?side1 ?side2 A4.out).mono ?_); (case side1 => repeat (first | (with_reducible first | exact HI0.out | apply IsS52.alloc | apply IsS52.drewN | apply IsS52.drew | apply IsS52.set_0 | apply IsS52.set_1 | refine IsS52.far ?_ NB0_153.out _) | exact HI0.out)); (case side2 => repeat (first | (with_reducible first | exact HB.out | apply below_alloc | apply pw_below_drewN | apply below_drew1 | refine below_set ?_ (IsS52.ge HI0.out) | refine below_set ?_ GE153.out) | exact HB.out)); rintro e w11 ⟨rfl, hi, hb, hk⟩; refine ⟨_, rfl, ?_⟩; have n0_ := Aside0.mk (KeepBut.blk hk (g' := gb153) (o := .cells #[.int .i64 0, .string (⟨#[]⟩ : ByteArray), .string (⟨#[]⟩ : ByteArray), .slice none 0 0, .bool false] 33 (0, 0)) (by (with_reducible repeat (first | refine blk_drewN ?_ _ | refine blk_drew ?_ | refine blk_alloc ?_ _)); exact BK153.out) NB153_0.out (by simp)); have n1_ := Aside0.mk (Kd.R_mono (Kd.R_keep (IsS52.apart (show IsS52 w0 _ g t155 t156 from by repeat (first | (with_reducible first | exact HI0.out | apply IsS52.alloc | apply IsS52.drewN | apply IsS52.drew | apply IsS52.set_0 | apply IsS52.set_1 | refine IsS52.far ?_ NB0_153.out _) | exact HI0.out)) (by (with_reducible repeat (first | apply Kd.R_alloc | apply Kd.R_drewN | apply Kd.R_drew)); exact HO159.out) (by decide)) hk (fun _ h => h.2)) (fun _ h => h.1)); have n2_ := Aside0.mk (KeepBut.trans (by repeat (first | (with_reducible first | exact HK.out | apply KeepBut.set_ | apply keep_drewN | apply keep_drew | apply keep_alloc | refine keep_far ?_ GW153.out _) | exact HK.out)) hk (.inl rfl)); have n3_ := Aside0.mk (hb); have n4_ := Aside0.mk (hi); clear BK153; clear HO159; clear HK; clear HB; clear HI0; have BK153 := n0_; have HO159 := n1_; have HK := n2_; have HB := n3_; have HI0 := n4_; clear n0_ n1_ n2_ n3_ n4_; (try clear hb); (try clear hb2); (try clear hk); (try clear hi)) | ((with_reducible refine gate_dst (N := 4) rfl ?_); refine box_event ?hg (N := 4) ?hd (cs := #[.int .i64 0, .string (⟨#[]⟩ : ByteArray), .string (⟨#[]⟩ : ByteArray), .slice none 0 0, .bool false]) (t := 33) ?hr ?_; (case hd => rfl); (case hg => rfl); (case hr => first | (go_simp; done) | (go_simp; rfl)); intro gb163 hg w12 hbox hb; have n0_ := Aside0.mk (Kd.R_below (by (with_reducible repeat (first | apply Kd.R_alloc | apply Kd.R_drewN | apply Kd.R_drew)); exact HO159.out) hb); have n1_ := Aside0.mk (IsS52.below (by repeat (first | (with_reducible first | exact HI0.out | apply IsS52.alloc | apply IsS52.drewN | apply IsS52.drew | apply IsS52.set_0 | apply IsS52.set_1 | refine IsS52.far ?_ NB0_153.out _) | exact HI0.out)) hb); have n2_ := Aside0.mk (blk_below (g := gb153) (o := .cells #[.int .i64 0, .string (⟨#[]⟩ : ByteArray), .string (⟨#[]⟩ : ByteArray), .slice none 0 0, .bool false] 33 (0, 0)) (by (with_reducible repeat (first | refine blk_drewN ?_ _ | refine blk_drew ?_ | refine blk_alloc ?_ _)); exact BK153.out) hb); have n3_ := Aside0.mk (KeepBut.trans (by repeat (first | (with_reducible first | exact HK.out | apply KeepBut.set_ | apply keep_drewN | apply keep_drew | apply keep_alloc | refine keep_far ?_ GW153.out _) | exact HK.out)) (KeepBut.of_below hb g none) (.inl rfl)); have n4_ := Aside0.mk (below_step (by repeat (first | (with_reducible first | exact HB.out | apply below_alloc | apply pw_below_drewN | apply below_drew1 | refine below_set ?_ (IsS52.ge HI0.out) | refine below_set ?_ GE153.out) | exact HB.out)) hb); have n5_ := Aside0.mk (hbox); have n6_ := Aside0.mk ((by rw [hg]; exact (keep_size (w := w) (g := g) (row := none) (by repeat (first | (with_reducible first | exact HK.out | apply KeepBut.set_ | apply keep_drewN | apply keep_drew | apply keep_alloc | refine keep_far ?_ GW153.out _) | exact HK.out))) : w.heap.size ≤ gb163)); have n7_ := Aside0.mk ((Nat.le_trans HW0.out (by rw [hg]; exact (keep_size (w := w) (g := g) (row := none) (by repeat (first | (with_reducible first | exact HK.out | apply KeepBut.set_ | apply keep_drewN | apply keep_drew | apply keep_alloc | refine keep_far ?_ GW153.out _) | exact HK.out))) : w.heap.size ≤ gb163) : w0.heap.size ≤ gb163)); have n8_ := Aside0.mk ((by rw [hg]; exact Nat.ne_of_lt (blk_lt (g := gb153) (o := .cells #[.int .i64 0, .string (⟨#[]⟩ : ByteArray), .string (⟨#[]⟩ : ByteArray), .slice none 0 0, .bool false] 33 (0, 0)) (by (with_reducible repeat (first | refine blk_drewN ?_ _ | refine blk_drew ?_ | refine blk_alloc ?_ _)); exact BK153.out)) : gb153 ≠ gb163)); have n9_ := Aside0.mk ((by rw [hg]; exact Nat.ne_of_gt (blk_lt (g := gb153) (o := .cells #[.int .i64 0, .string (⟨#[]⟩ : ByteArray), .string (⟨#[]⟩ : ByteArray), .slice none 0 0, .bool false] 33 (0, 0)) (by (with_reducible repeat (first | refine blk_drewN ?_ _ | refine blk_drew ?_ | refine blk_alloc ?_ _)); exact BK153.out)) : gb163 ≠ gb153)); have n10_ := Aside0.mk ((by rw [hg]; exact Nat.ne_of_lt (IsS52.lt (show IsS52 w0 _ g t161 t162 from by repeat (first | (with_reducible first | exact HI0.out | apply IsS52.alloc | apply IsS52.drewN | apply IsS52.drew | apply IsS52.set_0 | apply IsS52.set_1 | refine IsS52.far ?_ NB0_153.out _) | exact HI0.out))) : g ≠ gb163)); have n11_ := Aside0.mk ((by rw [hg]; exact Nat.ne_of_gt (IsS52.lt (show IsS52 w0 _ g t161 t162 from by repeat (first | (with_reducible first | exact HI0.out | apply IsS52.alloc | apply IsS52.drewN | apply IsS52.drew | apply IsS52.set_0 | apply IsS52.set_1 | refine IsS52.far ?_ NB0_153.out _) | exact HI0.out))) : gb163 ≠ g)); clear HO159; clear HI0; clear BK153; clear HK; clear HB; have HO159 := n0_; have HI0 := n1_; have BK153 := n2_; have HK := n3_; have HB := n4_; have BK163 := n5_; have GW163 := n6_; have GE163 := n7_; have NB153_163 := n8_; have NB163_153 := n9_; have NB0_163 := n10_; have NB163_0 := n11_; clear n0_ n1_ n2_ n3_ n4_ n5_ n6_ n7_ n8_ n9_ n10_ n11_; clear hb hbox hg; have hnb13 := NB163_153.out; have hnc13 := NB153_163.out; have hnb14 := NB163_0.out; have hnc14 := NB0_163.out; have hcz15_0 : w12.cell? ⟨gb163, 0, none⟩ = some (.int .i64 0) := (blk_cell BK163.out 0).trans rfl; have hcz15_1 : w12.cell? ⟨gb163, 1, none⟩ = some (.string (⟨#[]⟩ : ByteArray)) := (blk_cell BK163.out 1).trans rfl; have hcz15_2 : w12.cell? ⟨gb163, 2, none⟩ = some (.string (⟨#[]⟩ : ByteArray)) := (blk_cell BK163.out 2).trans rfl; have hcz15_3 : w12.cell? ⟨gb163, 3, none⟩ = some (.slice none 0 0) := (blk_cell BK163.out 3).trans rfl; have hcz15_4 : w12.cell? ⟨gb163, 4, none⟩ = some (.bool false) := (blk_cell BK163.out 4).trans rfl; have hfz15_0 := blk_frozen BK163.out 0; have hfz15_1 := blk_frozen BK163.out 1; have hfz15_2 := blk_frozen BK163.out 2; have hfz15_3 := blk_frozen BK163.out 3; have hfz15_4 := blk_frozen BK163.out 4; obtain ⟨Ao16, co16, eo16⟩ := Kd.R_slice HO159.out; subst eo16; have p164 : 0 ≤ (0 : Int) := (by omega); have q164 : 0 < (t157.length : Int) := of_decide_eq_true (by first | (with_reducible assumption) | assumption); obtain ⟨ad164, e164, hx164_0⟩ := Kd.at_string (Kd.R_reads' HO159.out).2.2 0 p164 q164; cases e164; have qi164 : (0 < t157.length) = True := eq_true (by omega); (try rw [show ((0 : Int)).toNat = 0 from rfl] at hx164_0); (try rw [Addr.add_zero'] at hx164_0); have hn164_0 : ad164.block ≠ gb163 := Kd.own_blk (Kd.R_ne HO159.out BK163.out (by decide)); have hn164_1 : ad164.block ≠ gb163 := Kd.own_blk (Kd.R_ne HO159.out BK163.out (by decide)); have hn164_2 : ad164.block ≠ gb163 := Kd.own_blk (Kd.R_ne HO159.out BK163.out (by decide)); have hn164_3 : ad164.block ≠ gb163 := Kd.own_blk (Kd.R_ne HO159.out BK163.out (by decide)); have hn164_4 : ad164.block ≠ gb163 := Kd.own_blk (Kd.R_ne HO159.out BK163.out (by decide)); replace hx164_0 := (cell_far (p := ⟨gb163, 0, none⟩) (by first | (rw [add_block]; exact hn164_0) | (show (Addr.add _ _).block ≠ _; rw [add_block]; exact hn164_0) | exact hn164_0) (.int .i64 5)).trans hx164_0; replace hx164_0 := (cell_far (p := ⟨gb163, 1, none⟩) (by first | (rw [add_block]; exact hn164_1) | (show (Addr.add _ _).block ≠ _; rw [add_block]; exact hn164_1) | exact hn164_1) (.string (⟨#[]⟩ : ByteArray))).trans hx164_0; replace hx164_0 := (cell_far (p := ⟨gb163, 2, none⟩) (by first | (rw [add_block]; exact hn164_2) | (show (Addr.add _ _).block ≠ _; rw [add_block]; exact hn164_2) | exact hn164_2) (.string (⟨#[]⟩ : ByteArray))).trans hx164_0; replace hx164_0 := (cell_far (p := ⟨gb163, 3, none⟩) (by first | (rw [add_block]; exact hn164_3) | (show (Addr.add _ _).block ≠ _; rw [add_block]; exact hn164_3) | exact hn164_3) (.slice none 0 0)).trans hx164_0; replace hx164_0 := (cell_far (p := ⟨gb163, 4, none⟩) (by first | (rw [add_block]; exact hn164_4) | (show (Addr.add _ _).block ≠ _; rw [add_block]; exact hn164_4) | exact hn164_4) (.bool false)).trans hx164_0; clear hn164_0; clear hn164_1; clear hn164_2; clear hn164_3; clear hn164_4; replace p164 := eq_true p164; replace q164 := eq_true q164) | ((with_reducible refine gate_callee (f := 135) rfl ?_); refine goesL_ (some 17) rfl rfl Tryz.func135 (by kernel_rfl) rfl #[.string (rdOf ByteArray.empty t157 0)] rfl (by (try simp only [List.map_toArray, List.map_cons, List.map_nil]); first | done | rfl | (simp only [List.length_drop, List.length_take]; rfl)) ?_; (with_reducible refine (scan_named.calls (rdOf ByteArray.empty t157 0) t165 _ ?side1 A7.out).mono ?_); (case side1 => exact Glob.below hG (by repeat (first | (with_reducible first | exact HB.out | apply below_alloc | apply pw_below_drewN | apply below_drew1 | refine below_set ?_ (IsS52.ge HI0.out) | refine below_set ?_ GE153.out | refine below_set ?_ GE163.out) | exact HB.out))); rintro e w17 ⟨rfl, hb⟩; refine ⟨_, rfl, ?_⟩; have n0_ := Aside0.mk (Kd.R_below (by (with_reducible repeat (first | apply Kd.R_alloc | apply Kd.R_drewN | apply Kd.R_drew)); exact (Kd.R_mono (Kd.R_far (p := ⟨gb163, 4, none⟩) (Kd.R_far (p := ⟨gb163, 3, none⟩) (Kd.R_far (p := ⟨gb163, 2, none⟩) (Kd.R_far (p := ⟨gb163, 1, none⟩) (Kd.R_far (p := ⟨gb163, 0, none⟩) (Kd.R_types HO159.out BK163.out (by decide)) (fun _ hk => hk.2) (.int .i64 5)) (fun _ hk => hk.2) (.string (⟨#[]⟩ : ByteArray))) (fun _ hk => hk.2) (.string (⟨#[]⟩ : ByteArray))) (fun _ hk => hk.2) (.slice none 0 0)) (fun _ hk => hk.2) (.bool false)) (fun _ h_ => h_.1))) hb); have n1_ := Aside0.mk (IsS52.below (show IsS52 w0 (((((w12.setCell ⟨gb163, 0, none⟩ (.int .i64 5)).setCell ⟨gb163, 1, none⟩ (.string (⟨#[]⟩ : ByteArray))).setCell ⟨gb163, 2, none⟩ (.string (⟨#[]⟩ : ByteArray))).setCell ⟨gb163, 3, none⟩ (.slice none 0 0)).setCell ⟨gb163, 4, none⟩ (.bool false)) g t161 t162 from by repeat (first | (with_reducible first | exact HI0.out | apply IsS52.alloc | apply IsS52.drewN | apply IsS52.drew | apply IsS52.set_0 | apply IsS52.set_1 | refine IsS52.far ?_ NB0_153.out _ | refine IsS52.far ?_ NB0_163.out _) | exact HI0.out)) hb); have n2_ := Aside0.mk (blk_below (g := gb153) (o := .cells #[.int .i64 0, .string (⟨#[]⟩ : ByteArray), .string (⟨#[]⟩ : ByteArray), .slice none 0 0, .bool false] 33 (0, 0)) (by (with_reducible repeat (first | refine blk_drewN ?_ _ | refine blk_drew ?_ | refine blk_alloc ?_ _)); refine blk_far ?_ NB153_163.out _; (with_reducible repeat (first | refine blk_drewN ?_ _ | refine blk_drew ?_ | refine blk_alloc ?_ _)); refine blk_far ?_ NB153_163.out _; (with_reducible repeat (first | refine blk_drewN ?_ _ | refine blk_drew ?_ | refine blk_alloc ?_ _)); refine blk_far ?_ NB153_163.out _; (with_reducible repeat (first | refine blk_drewN ?_ _ | refine blk_drew ?_ | refine blk_alloc ?_ _)); refine blk_far ?_ NB153_163.out _; (with_reducible repeat (first | refine blk_drewN ?_ _ | refine blk_drew ?_ | refine blk_alloc ?_ _)); refine blk_far ?_ NB153_163.out _; (with_reducible repeat (first | refine blk_drewN ?_ _ | refine blk_drew ?_ | refine blk_alloc ?_ _)); exact BK153.out) hb); have n3_ := Aside0.mk (blk_below (g := gb163) (o := .cells #[.int .i64 5, .string (⟨#[]⟩ : ByteArray), .string (⟨#[]⟩ : ByteArray), .slice none 0 0, .bool false] 33 (0, 0)) (by (with_reducible repeat (first | refine blk_drewN ?_ _ | refine blk_drew ?_ | refine blk_alloc ?_ _)); refine blk_put (cs := #[.int .i64 5, .string (⟨#[]⟩ : ByteArray), .string (⟨#[]⟩ : ByteArray), .slice none 0 0, .bool false]) ?_ 4 _ rfl; (with_reducible repeat (first | refine blk_drewN ?_ _ | refine blk_drew ?_ | refine blk_alloc ?_ _)); refine blk_put (cs := #[.int .i64 5, .string (⟨#[]⟩ : ByteArray), .string (⟨#[]⟩ : ByteArray), .slice none 0 0, .bool false]) ?_ 3 _ rfl; (with_reducible repeat (first | refine blk_drewN ?_ _ | refine blk_drew ?_ | refine blk_alloc ?_ _)); refine blk_put (cs := #[.int .i64 5, .string (⟨#[]⟩ : ByteArray), .string (⟨#[]⟩ : ByteArray), .slice none 0 0, .bool false]) ?_ 2 _ rfl; (with_reducible repeat (first | refine blk_drewN ?_ _ | refine blk_drew ?_ | refine blk_alloc ?_ _)); refine blk_put (cs := #[.int .i64 5, .string (⟨#[]⟩ : ByteArray), .string (⟨#[]⟩ : ByteArray), .slice none 0 0, .bool false]) ?_ 1 _ rfl; (with_reducible repeat (first | refine blk_drewN ?_ _ | refine blk_drew ?_ | refine blk_alloc ?_ _)); refine blk_put (cs := #[.int .i64 0, .string (⟨#[]⟩ : ByteArray), .string (⟨#[]⟩ : ByteArray), .slice none 0 0, .bool false]) ?_ 0 _ rfl; (with_reducible repeat (first | refine blk_drewN ?_ _ | refine blk_drew ?_ | refine blk_alloc ?_ _)); exact BK163.out) hb); have n4_ := Aside0.mk (KeepBut.trans (by repeat (first | (with_reducible first | exact HK.out | apply KeepBut.set_ | apply keep_drewN | apply keep_drew | apply keep_alloc | refine keep_far ?_ GW153.out _ | refine keep_far ?_ GW163.out _) | exact HK.out)) (KeepBut.of_below hb g none) (.inl rfl)); have n5_ := Aside0.mk (below_step (by repeat (first | (with_reducible first | exact HB.out | apply below_alloc | apply pw_below_drewN | apply below_drew1 | refine below_set ?_ (IsS52.ge HI0.out) | refine below_set ?_ GE153.out | refine below_set ?_ GE163.out) | exact HB.out)) hb); clear HO159; clear HI0; clear BK153; clear BK163; clear HK; clear HB; have HO159 := n0_; have HI0 := n1_; have BK153 := n2_; have BK163 := n3_; have HK := n4_; have HB := n5_; clear n0_ n1_ n2_ n3_ n4_ n5_; (try clear hb); (try clear hb2); (try clear hk); (try clear hi); have hcz18_0 : w17.cell? ⟨gb163, 0, none⟩ = some (.int .i64 5) := (blk_cell BK163.out 0).trans rfl; have hcz18_1 : w17.cell? ⟨gb163, 1, none⟩ = some (.string (⟨#[]⟩ : ByteArray)) := (blk_cell BK163.out 1).trans rfl; have hcz18_2 : w17.cell? ⟨gb163, 2, none⟩ = some (.string (⟨#[]⟩ : ByteArray)) := (blk_cell BK163.out 2).trans rfl; have hcz18_3 : w17.cell? ⟨gb163, 3, none⟩ = some (.slice none 0 0) := (blk_cell BK163.out 3).trans rfl; have hcz18_4 : w17.cell? ⟨gb163, 4, none⟩ = some (.bool false) := (blk_cell BK163.out 4).trans rfl; have hfz18_0 := blk_frozen BK163.out 0; have hfz18_1 := blk_frozen BK163.out 1; have hfz18_2 := blk_frozen BK163.out 2; have hfz18_3 := blk_frozen BK163.out 3; have hfz18_4 := blk_frozen BK163.out 4; have hnb19 := NB153_0.out; have hnc19 := NB0_153.out; have hcz20_0 : w17.cell? ⟨gb153, 0, none⟩ = some (.int .i64 0) := (blk_cell BK153.out 0).trans rfl; have hcz20_1 : w17.cell? ⟨gb153, 1, none⟩ = some (.string (⟨#[]⟩ : ByteArray)) := (blk_cell BK153.out 1).trans rfl; have hcz20_2 : w17.cell? ⟨gb153, 2, none⟩ = some (.string (⟨#[]⟩ : ByteArray)) := (blk_cell BK153.out 2).trans rfl; have hcz20_3 : w17.cell? ⟨gb153, 3, none⟩ = some (.slice none 0 0) := (blk_cell BK153.out 3).trans rfl; have hcz20_4 : w17.cell? ⟨gb153, 4, none⟩ = some (.bool false) := (blk_cell BK153.out 4).trans rfl; have hfz20_0 := blk_frozen BK153.out 0; have hfz20_1 := blk_frozen BK153.out 1; have hfz20_2 := blk_frozen BK153.out 2; have hfz20_3 := blk_frozen BK153.out 3; have hfz20_4 := blk_frozen BK153.out 4))
      refine bodyPost_ret (results_cell_row rfl _ _ gb153 33 #[.int .i64 5, .string t165, .string (⟨#[]⟩ : ByteArray), .slice none 0 0, .bool false] (0, 0) _ rfl (by (with_reducible repeat (first | refine blk_drewN ?_ _ | refine blk_drew ?_ | refine blk_alloc ?_ _)); refine blk_put (cs := #[.int .i64 5, .string t165, .string (⟨#[]⟩ : ByteArray), .slice none 0 0, .bool false]) ?_ 4 _ rfl; (with_reducible repeat (first | refine blk_drewN ?_ _ | refine blk_drew ?_ | refine blk_alloc ?_ _)); refine blk_put (cs := #[.int .i64 5, .string t165, .string (⟨#[]⟩ : ByteArray), .slice none 0 0, .bool false]) ?_ 3 _ rfl; (with_reducible repeat (first | refine blk_drewN ?_ _ | refine blk_drew ?_ | refine blk_alloc ?_ _)); refine blk_put (cs := #[.int .i64 5, .string t165, .string (⟨#[]⟩ : ByteArray), .slice none 0 0, .bool false]) ?_ 2 _ rfl; (with_reducible repeat (first | refine blk_drewN ?_ _ | refine blk_drew ?_ | refine blk_alloc ?_ _)); refine blk_put (cs := #[.int .i64 5, .string (⟨#[]⟩ : ByteArray), .string (⟨#[]⟩ : ByteArray), .slice none 0 0, .bool false]) ?_ 1 _ rfl; (with_reducible repeat (first | refine blk_drewN ?_ _ | refine blk_drew ?_ | refine blk_alloc ?_ _)); refine blk_put (cs := #[.int .i64 0, .string (⟨#[]⟩ : ByteArray), .string (⟨#[]⟩ : ByteArray), .slice none 0 0, .bool false]) ?_ 0 _ rfl; (with_reducible repeat (first | refine blk_drewN ?_ _ | refine blk_drew ?_ | refine blk_alloc ?_ _)); refine blk_far ?_ NB153_163.out _; (with_reducible repeat (first | refine blk_drewN ?_ _ | refine blk_drew ?_ | refine blk_alloc ?_ _)); exact BK153.out) Tryz.underlying33 rfl (by kernel_rfl)) rfl ?_
      exact ⟨_, by first | rfl | (simp [errW_none, errW_some] <;> rfl) | (simp [*, errW_none, errW_some] <;> rfl), by first | exact Kd.R_nil _ _ _ _ _ | exact Kd.N_nil _ _ _ _ _ | exact Kd.V_nil _ _ _ _ _ | exact Kd.Q_nil _ _ _ _ _ | exact Kd.S_nil _ _ _ _ _, by repeat (first | (with_reducible first | exact HI0.out | apply IsS52.alloc | apply IsS52.drewN | apply IsS52.drew | apply IsS52.set_0 | apply IsS52.set_1 | refine IsS52.far ?_ NB0_153.out _ | refine IsS52.far ?_ NB0_163.out _) | exact HI0.out), by repeat (first | (with_reducible first | exact HB.out | apply below_alloc | apply pw_below_drewN | apply below_drew1 | refine below_set ?_ (IsS52.ge HI0.out) | refine below_set ?_ GE153.out | refine below_set ?_ GE163.out) | exact HB.out), by repeat (first | (with_reducible first | exact HK.out | apply KeepBut.set_ | apply keep_drewN | apply keep_drew | apply keep_alloc | refine keep_far ?_ GW153.out _ | refine keep_far ?_ GW163.out _) | exact HK.out)⟩
    · rw [if_neg c6] at H
      exact absurd H (by simp)
  · rw [if_neg c5] at H
    have c5b0 : decide (0 < (t157.length : Int)) = false := decide_eq_false c5
    have c5b1 : decide (0 < t157.length) = false := decide_eq_false (by omega)
    clear c5
    simp only [Option.some.injEq, Prod.mk.injEq] at H
    obtain ⟨rfl, rfl, rfl, rfl, rfl, rfl, rfl⟩ := H
    go_enter Tryz.func114, Tryz.ntmps114
    go_wp2_with (first | ((with_reducible refine gate_dst (N := 2) rfl ?_); refine box_event ?hg (N := 2) ?hd (cs := #[.int .i64 0, .string (⟨#[]⟩ : ByteArray), .string (⟨#[]⟩ : ByteArray), .slice none 0 0, .bool false]) (t := 33) ?hr ?_; (case hd => rfl); (case hg => rfl); (case hr => first | (go_simp; done) | (go_simp; rfl)); intro gb153 hg w21 hbox hb; have n0_ := Aside0.mk (IsS52.below (by repeat (first | (with_reducible first | exact HI0.out | apply IsS52.alloc | apply IsS52.drewN | apply IsS52.drew | apply IsS52.set_0 | apply IsS52.set_1) | exact HI0.out)) hb); have n1_ := Aside0.mk (KeepBut.trans (by repeat (first | (with_reducible first | exact HK.out | apply KeepBut.set_ | apply keep_drewN | apply keep_drew | apply keep_alloc) | exact HK.out)) (KeepBut.of_below hb g none) (.inl rfl)); have n2_ := Aside0.mk (below_step (by repeat (first | (with_reducible first | exact HB.out | apply below_alloc | apply pw_below_drewN | apply below_drew1 | refine below_set ?_ (IsS52.ge HI0.out)) | exact HB.out)) hb); have n3_ := Aside0.mk (hbox); have n4_ := Aside0.mk ((by rw [hg]; exact (keep_size (w := w) (g := g) (row := none) (by repeat (first | (with_reducible first | exact HK.out | apply KeepBut.set_ | apply keep_drewN | apply keep_drew | apply keep_alloc) | exact HK.out))) : w.heap.size ≤ gb153)); have n5_ := Aside0.mk ((Nat.le_trans HW0.out (by rw [hg]; exact (keep_size (w := w) (g := g) (row := none) (by repeat (first | (with_reducible first | exact HK.out | apply KeepBut.set_ | apply keep_drewN | apply keep_drew | apply keep_alloc) | exact HK.out))) : w.heap.size ≤ gb153) : w0.heap.size ≤ gb153)); have n6_ := Aside0.mk ((by rw [hg]; exact Nat.ne_of_lt (IsS52.lt (show IsS52 w0 _ g s0_0 s0_1 from by repeat (first | (with_reducible first | exact HI0.out | apply IsS52.alloc | apply IsS52.drewN | apply IsS52.drew | apply IsS52.set_0 | apply IsS52.set_1) | exact HI0.out))) : g ≠ gb153)); have n7_ := Aside0.mk ((by rw [hg]; exact Nat.ne_of_gt (IsS52.lt (show IsS52 w0 _ g s0_0 s0_1 from by repeat (first | (with_reducible first | exact HI0.out | apply IsS52.alloc | apply IsS52.drewN | apply IsS52.drew | apply IsS52.set_0 | apply IsS52.set_1) | exact HI0.out))) : gb153 ≠ g)); clear HI0; clear HK; clear HB; have HI0 := n0_; have HK := n1_; have HB := n2_; have BK153 := n3_; have GW153 := n4_; have GE153 := n5_; have NB0_153 := n6_; have NB153_0 := n7_; clear n0_ n1_ n2_ n3_ n4_ n5_ n6_ n7_; clear hb hbox hg) | ((with_reducible refine gate_callee (f := 136) rfl ?_); refine goesL_ (some 6) rfl rfl Tryz.func136 (by kernel_rfl) rfl #[.pointer (some ⟨g, 0, none⟩), .string (⟨#[62]⟩ : ByteArray)] rfl (by (try simp only [List.map_toArray, List.map_cons, List.map_nil]); first | done | rfl | (simp only [List.length_drop, List.length_take]; rfl)) ?_; (with_reducible refine (scan_reader_until.calls g s0_0 s0_1 (⟨#[62]⟩ : ByteArray) t154 t155 t156 w0 _ ?side1 ?side2 A2.out).mono ?_); (case side1 => repeat (first | (with_reducible first | exact HI0.out | apply IsS52.alloc | apply IsS52.drewN | apply IsS52.drew | apply IsS52.set_0 | apply IsS52.set_1 | refine IsS52.far ?_ NB0_153.out _) | exact HI0.out)); (case side2 => repeat (first | (with_reducible first | exact HB.out | apply below_alloc | apply pw_below_drewN | apply below_drew1 | refine below_set ?_ (IsS52.ge HI0.out) | refine below_set ?_ GE153.out) | exact HB.out)); rintro e w22 ⟨rfl, hi, hb, hk⟩; refine ⟨_, rfl, ?_⟩; have n0_ := Aside0.mk (KeepBut.blk hk (g' := gb153) (o := .cells #[.int .i64 0, .string (⟨#[]⟩ : ByteArray), .string (⟨#[]⟩ : ByteArray), .slice none 0 0, .bool false] 33 (0, 0)) (by (with_reducible repeat (first | refine blk_drewN ?_ _ | refine blk_drew ?_ | refine blk_alloc ?_ _)); exact BK153.out) NB153_0.out (by simp)); have n1_ := Aside0.mk (KeepBut.trans (by repeat (first | (with_reducible first | exact HK.out | apply KeepBut.set_ | apply keep_drewN | apply keep_drew | apply keep_alloc | refine keep_far ?_ GW153.out _) | exact HK.out)) hk (.inl rfl)); have n2_ := Aside0.mk (hb); have n3_ := Aside0.mk (hi); clear BK153; clear HK; clear HB; clear HI0; have BK153 := n0_; have HK := n1_; have HB := n2_; have HI0 := n3_; clear n0_ n1_ n2_ n3_; (try clear hb); (try clear hb2); (try clear hk); (try clear hi)) | ((with_reducible refine gate_callee (f := 142) rfl ?_); refine goesL_ (some 7) rfl rfl Tryz.func142 (by kernel_rfl) rfl #[.string t154] rfl (by (try simp only [List.map_toArray, List.map_cons, List.map_nil]); first | done | rfl | (simp only [List.length_drop, List.length_take]; rfl)) ?_; (with_reducible refine (class_Fields.calls t154 t157 _ A3.out).mono ?_); rintro e w23 ⟨v158, rfl, ho0, hb⟩; refine ⟨_, rfl, ?_⟩; have n0_ := Aside0.mk (Kd.R_lower ho0 (keep_size (w := w) (g := g) (row := none) (by repeat (first | (with_reducible first | exact HK.out | apply KeepBut.set_ | apply keep_drewN | apply keep_drew | apply keep_alloc | refine keep_far ?_ GW153.out _) | exact HK.out)))); have n1_ := Aside0.mk (IsS52.below (by repeat (first | (with_reducible first | exact HI0.out | apply IsS52.alloc | apply IsS52.drewN | apply IsS52.drew | apply IsS52.set_0 | apply IsS52.set_1 | refine IsS52.far ?_ NB0_153.out _) | exact HI0.out)) hb); have n2_ := Aside0.mk (blk_below (g := gb153) (o := .cells #[.int .i64 0, .string (⟨#[]⟩ : ByteArray), .string (⟨#[]⟩ : ByteArray), .slice none 0 0, .bool false] 33 (0, 0)) (by (with_reducible repeat (first | refine blk_drewN ?_ _ | refine blk_drew ?_ | refine blk_alloc ?_ _)); exact BK153.out) hb); have n3_ := Aside0.mk (KeepBut.trans (by repeat (first | (with_reducible first | exact HK.out | apply KeepBut.set_ | apply keep_drewN | apply keep_drew | apply keep_alloc | refine keep_far ?_ GW153.out _) | exact HK.out)) (KeepBut.of_below hb g none) (.inl rfl)); have n4_ := Aside0.mk (below_step (by repeat (first | (with_reducible first | exact HB.out | apply below_alloc | apply pw_below_drewN | apply below_drew1 | refine below_set ?_ (IsS52.ge HI0.out) | refine below_set ?_ GE153.out) | exact HB.out)) hb); clear HI0; clear BK153; clear HK; clear HB; have HO159 := n0_; have HI0 := n1_; have BK153 := n2_; have HK := n3_; have HB := n4_; clear n0_ n1_ n2_ n3_ n4_; (try clear hb); (try clear hb2); (try clear hk); (try clear hi); (try clear ho0)) | ((with_reducible refine gate_callee (f := 79) rfl ?_); refine goesL_ (some 9) rfl rfl Tryz.func79 (by kernel_rfl) rfl #[.pointer (some ⟨g, 0, none⟩), .int .i64 1] rfl (by (try simp only [List.map_toArray, List.map_cons, List.map_nil]); first | done | rfl | (simp only [List.length_drop, List.length_take]; rfl)) ?_; (with_reducible refine (scan_reader_skip.calls g t155 t156 1 t160 t161 t162 w0 _ ?side1 ?side2 A4.out).mono ?_); (case side1 => repeat (first | (with_reducible first | exact HI0.out | apply IsS52.alloc | apply IsS52.drewN | apply IsS52.drew | apply IsS52.set_0 | apply IsS52.set_1 | refine IsS52.far ?_ NB0_153.out _) | exact HI0.out)); (case side2 => repeat (first | (with_reducible first | exact HB.out | apply below_alloc | apply pw_below_drewN | apply below_drew1 | refine below_set ?_ (IsS52.ge HI0.out) | refine below_set ?_ GE153.out) | exact HB.out)); rintro e w24 ⟨rfl, hi, hb, hk⟩; refine ⟨_, rfl, ?_⟩; have n0_ := Aside0.mk (KeepBut.blk hk (g' := gb153) (o := .cells #[.int .i64 0, .string (⟨#[]⟩ : ByteArray), .string (⟨#[]⟩ : ByteArray), .slice none 0 0, .bool false] 33 (0, 0)) (by (with_reducible repeat (first | refine blk_drewN ?_ _ | refine blk_drew ?_ | refine blk_alloc ?_ _)); exact BK153.out) NB153_0.out (by simp)); have n1_ := Aside0.mk (Kd.R_mono (Kd.R_keep (IsS52.apart (show IsS52 w0 _ g t155 t156 from by repeat (first | (with_reducible first | exact HI0.out | apply IsS52.alloc | apply IsS52.drewN | apply IsS52.drew | apply IsS52.set_0 | apply IsS52.set_1 | refine IsS52.far ?_ NB0_153.out _) | exact HI0.out)) (by (with_reducible repeat (first | apply Kd.R_alloc | apply Kd.R_drewN | apply Kd.R_drew)); exact HO159.out) (by decide)) hk (fun _ h => h.2)) (fun _ h => h.1)); have n2_ := Aside0.mk (KeepBut.trans (by repeat (first | (with_reducible first | exact HK.out | apply KeepBut.set_ | apply keep_drewN | apply keep_drew | apply keep_alloc | refine keep_far ?_ GW153.out _) | exact HK.out)) hk (.inl rfl)); have n3_ := Aside0.mk (hb); have n4_ := Aside0.mk (hi); clear BK153; clear HO159; clear HK; clear HB; clear HI0; have BK153 := n0_; have HO159 := n1_; have HK := n2_; have HB := n3_; have HI0 := n4_; clear n0_ n1_ n2_ n3_ n4_; (try clear hb); (try clear hb2); (try clear hk); (try clear hi)) | ((with_reducible refine gate_dst (N := 4) rfl ?_); refine box_event ?hg (N := 4) ?hd (cs := #[.int .i64 0, .string (⟨#[]⟩ : ByteArray), .string (⟨#[]⟩ : ByteArray), .slice none 0 0, .bool false]) (t := 33) ?hr ?_; (case hd => rfl); (case hg => rfl); (case hr => first | (go_simp; done) | (go_simp; rfl)); intro gb163 hg w25 hbox hb; have n0_ := Aside0.mk (Kd.R_below (by (with_reducible repeat (first | apply Kd.R_alloc | apply Kd.R_drewN | apply Kd.R_drew)); exact HO159.out) hb); have n1_ := Aside0.mk (IsS52.below (by repeat (first | (with_reducible first | exact HI0.out | apply IsS52.alloc | apply IsS52.drewN | apply IsS52.drew | apply IsS52.set_0 | apply IsS52.set_1 | refine IsS52.far ?_ NB0_153.out _) | exact HI0.out)) hb); have n2_ := Aside0.mk (blk_below (g := gb153) (o := .cells #[.int .i64 0, .string (⟨#[]⟩ : ByteArray), .string (⟨#[]⟩ : ByteArray), .slice none 0 0, .bool false] 33 (0, 0)) (by (with_reducible repeat (first | refine blk_drewN ?_ _ | refine blk_drew ?_ | refine blk_alloc ?_ _)); exact BK153.out) hb); have n3_ := Aside0.mk (KeepBut.trans (by repeat (first | (with_reducible first | exact HK.out | apply KeepBut.set_ | apply keep_drewN | apply keep_drew | apply keep_alloc | refine keep_far ?_ GW153.out _) | exact HK.out)) (KeepBut.of_below hb g none) (.inl rfl)); have n4_ := Aside0.mk (below_step (by repeat (first | (with_reducible first | exact HB.out | apply below_alloc | apply pw_below_drewN | apply below_drew1 | refine below_set ?_ (IsS52.ge HI0.out) | refine below_set ?_ GE153.out) | exact HB.out)) hb); have n5_ := Aside0.mk (hbox); have n6_ := Aside0.mk ((by rw [hg]; exact (keep_size (w := w) (g := g) (row := none) (by repeat (first | (with_reducible first | exact HK.out | apply KeepBut.set_ | apply keep_drewN | apply keep_drew | apply keep_alloc | refine keep_far ?_ GW153.out _) | exact HK.out))) : w.heap.size ≤ gb163)); have n7_ := Aside0.mk ((Nat.le_trans HW0.out (by rw [hg]; exact (keep_size (w := w) (g := g) (row := none) (by repeat (first | (with_reducible first | exact HK.out | apply KeepBut.set_ | apply keep_drewN | apply keep_drew | apply keep_alloc | refine keep_far ?_ GW153.out _) | exact HK.out))) : w.heap.size ≤ gb163) : w0.heap.size ≤ gb163)); have n8_ := Aside0.mk ((by rw [hg]; exact Nat.ne_of_lt (blk_lt (g := gb153) (o := .cells #[.int .i64 0, .string (⟨#[]⟩ : ByteArray), .string (⟨#[]⟩ : ByteArray), .slice none 0 0, .bool false] 33 (0, 0)) (by (with_reducible repeat (first | refine blk_drewN ?_ _ | refine blk_drew ?_ | refine blk_alloc ?_ _)); exact BK153.out)) : gb153 ≠ gb163)); have n9_ := Aside0.mk ((by rw [hg]; exact Nat.ne_of_gt (blk_lt (g := gb153) (o := .cells #[.int .i64 0, .string (⟨#[]⟩ : ByteArray), .string (⟨#[]⟩ : ByteArray), .slice none 0 0, .bool false] 33 (0, 0)) (by (with_reducible repeat (first | refine blk_drewN ?_ _ | refine blk_drew ?_ | refine blk_alloc ?_ _)); exact BK153.out)) : gb163 ≠ gb153)); have n10_ := Aside0.mk ((by rw [hg]; exact Nat.ne_of_lt (IsS52.lt (show IsS52 w0 _ g t161 t162 from by repeat (first | (with_reducible first | exact HI0.out | apply IsS52.alloc | apply IsS52.drewN | apply IsS52.drew | apply IsS52.set_0 | apply IsS52.set_1 | refine IsS52.far ?_ NB0_153.out _) | exact HI0.out))) : g ≠ gb163)); have n11_ := Aside0.mk ((by rw [hg]; exact Nat.ne_of_gt (IsS52.lt (show IsS52 w0 _ g t161 t162 from by repeat (first | (with_reducible first | exact HI0.out | apply IsS52.alloc | apply IsS52.drewN | apply IsS52.drew | apply IsS52.set_0 | apply IsS52.set_1 | refine IsS52.far ?_ NB0_153.out _) | exact HI0.out))) : gb163 ≠ g)); clear HO159; clear HI0; clear BK153; clear HK; clear HB; have HO159 := n0_; have HI0 := n1_; have BK153 := n2_; have HK := n3_; have HB := n4_; have BK163 := n5_; have GW163 := n6_; have GE163 := n7_; have NB153_163 := n8_; have NB163_153 := n9_; have NB0_163 := n10_; have NB163_0 := n11_; clear n0_ n1_ n2_ n3_ n4_ n5_ n6_ n7_ n8_ n9_ n10_ n11_; clear hb hbox hg; have hnb26 := NB163_153.out; have hnc26 := NB153_163.out; have hnb27 := NB163_0.out; have hnc27 := NB0_163.out; have hcz28_0 : w25.cell? ⟨gb163, 0, none⟩ = some (.int .i64 0) := (blk_cell BK163.out 0).trans rfl; have hcz28_1 : w25.cell? ⟨gb163, 1, none⟩ = some (.string (⟨#[]⟩ : ByteArray)) := (blk_cell BK163.out 1).trans rfl; have hcz28_2 : w25.cell? ⟨gb163, 2, none⟩ = some (.string (⟨#[]⟩ : ByteArray)) := (blk_cell BK163.out 2).trans rfl; have hcz28_3 : w25.cell? ⟨gb163, 3, none⟩ = some (.slice none 0 0) := (blk_cell BK163.out 3).trans rfl; have hcz28_4 : w25.cell? ⟨gb163, 4, none⟩ = some (.bool false) := (blk_cell BK163.out 4).trans rfl; have hfz28_0 := blk_frozen BK163.out 0; have hfz28_1 := blk_frozen BK163.out 1; have hfz28_2 := blk_frozen BK163.out 2; have hfz28_3 := blk_frozen BK163.out 3; have hfz28_4 := blk_frozen BK163.out 4; obtain ⟨Ao29, co29, eo29⟩ := Kd.R_slice HO159.out; subst eo29; have hnb30 := NB153_0.out; have hnc30 := NB0_153.out; have hcz31_0 : w25.cell? ⟨gb153, 0, none⟩ = some (.int .i64 0) := (blk_cell BK153.out 0).trans rfl; have hcz31_1 : w25.cell? ⟨gb153, 1, none⟩ = some (.string (⟨#[]⟩ : ByteArray)) := (blk_cell BK153.out 1).trans rfl; have hcz31_2 : w25.cell? ⟨gb153, 2, none⟩ = some (.string (⟨#[]⟩ : ByteArray)) := (blk_cell BK153.out 2).trans rfl; have hcz31_3 : w25.cell? ⟨gb153, 3, none⟩ = some (.slice none 0 0) := (blk_cell BK153.out 3).trans rfl; have hcz31_4 : w25.cell? ⟨gb153, 4, none⟩ = some (.bool false) := (blk_cell BK153.out 4).trans rfl; have hfz31_0 := blk_frozen BK153.out 0; have hfz31_1 := blk_frozen BK153.out 1; have hfz31_2 := blk_frozen BK153.out 2; have hfz31_3 := blk_frozen BK153.out 3; have hfz31_4 := blk_frozen BK153.out 4))
    refine bodyPost_ret (results_cell_row rfl _ _ gb153 33 #[.int .i64 5, .string (⟨#[]⟩ : ByteArray), .string (⟨#[]⟩ : ByteArray), .slice none 0 0, .bool false] (0, 0) _ rfl (by (with_reducible repeat (first | refine blk_drewN ?_ _ | refine blk_drew ?_ | refine blk_alloc ?_ _)); refine blk_put (cs := #[.int .i64 5, .string (⟨#[]⟩ : ByteArray), .string (⟨#[]⟩ : ByteArray), .slice none 0 0, .bool false]) ?_ 4 _ rfl; (with_reducible repeat (first | refine blk_drewN ?_ _ | refine blk_drew ?_ | refine blk_alloc ?_ _)); refine blk_put (cs := #[.int .i64 5, .string (⟨#[]⟩ : ByteArray), .string (⟨#[]⟩ : ByteArray), .slice none 0 0, .bool false]) ?_ 3 _ rfl; (with_reducible repeat (first | refine blk_drewN ?_ _ | refine blk_drew ?_ | refine blk_alloc ?_ _)); refine blk_put (cs := #[.int .i64 5, .string (⟨#[]⟩ : ByteArray), .string (⟨#[]⟩ : ByteArray), .slice none 0 0, .bool false]) ?_ 2 _ rfl; (with_reducible repeat (first | refine blk_drewN ?_ _ | refine blk_drew ?_ | refine blk_alloc ?_ _)); refine blk_put (cs := #[.int .i64 5, .string (⟨#[]⟩ : ByteArray), .string (⟨#[]⟩ : ByteArray), .slice none 0 0, .bool false]) ?_ 1 _ rfl; (with_reducible repeat (first | refine blk_drewN ?_ _ | refine blk_drew ?_ | refine blk_alloc ?_ _)); refine blk_put (cs := #[.int .i64 0, .string (⟨#[]⟩ : ByteArray), .string (⟨#[]⟩ : ByteArray), .slice none 0 0, .bool false]) ?_ 0 _ rfl; (with_reducible repeat (first | refine blk_drewN ?_ _ | refine blk_drew ?_ | refine blk_alloc ?_ _)); refine blk_far ?_ NB153_163.out _; (with_reducible repeat (first | refine blk_drewN ?_ _ | refine blk_drew ?_ | refine blk_alloc ?_ _)); refine blk_far ?_ NB153_163.out _; (with_reducible repeat (first | refine blk_drewN ?_ _ | refine blk_drew ?_ | refine blk_alloc ?_ _)); refine blk_far ?_ NB153_163.out _; (with_reducible repeat (first | refine blk_drewN ?_ _ | refine blk_drew ?_ | refine blk_alloc ?_ _)); refine blk_far ?_ NB153_163.out _; (with_reducible repeat (first | refine blk_drewN ?_ _ | refine blk_drew ?_ | refine blk_alloc ?_ _)); refine blk_far ?_ NB153_163.out _; (with_reducible repeat (first | refine blk_drewN ?_ _ | refine blk_drew ?_ | refine blk_alloc ?_ _)); exact BK153.out) Tryz.underlying33 rfl (by kernel_rfl)) rfl ?_
    exact ⟨_, by first | rfl | (simp [errW_none, errW_some] <;> rfl) | (simp [*, errW_none, errW_some] <;> rfl), by first | exact Kd.R_nil _ _ _ _ _ | exact Kd.N_nil _ _ _ _ _ | exact Kd.V_nil _ _ _ _ _ | exact Kd.Q_nil _ _ _ _ _ | exact Kd.S_nil _ _ _ _ _, by repeat (first | (with_reducible first | exact HI0.out | apply IsS52.alloc | apply IsS52.drewN | apply IsS52.drew | apply IsS52.set_0 | apply IsS52.set_1 | refine IsS52.far ?_ NB0_153.out _ | refine IsS52.far ?_ NB0_163.out _) | exact HI0.out), by repeat (first | (with_reducible first | exact HB.out | apply below_alloc | apply pw_below_drewN | apply below_drew1 | refine below_set ?_ (IsS52.ge HI0.out) | refine below_set ?_ GE153.out | refine below_set ?_ GE163.out) | exact HB.out), by repeat (first | (with_reducible first | exact HK.out | apply KeepBut.set_ | apply keep_drewN | apply keep_drew | apply keep_alloc | refine keep_far ?_ GW153.out _ | refine keep_far ?_ GW163.out _) | exact HK.out)⟩
end Go.Proofs.YtoacojkmclngmaaGreatDoor.Pz
namespace Go.Proofs.YtoacojkmclngmaaGreatDoor.Pz
open Go.RowKit Go.Proofs.YtoacojkmclngmaaGreatDoorW.PrintWords Go.Proofs.YtoacojkmclngmaaGreatDoorW.PrintLast Go.Proofs.YtoacojkmclngmaaGreatDoorW.PrintMore
attribute [local go_sem] max2_int min2_int max_two min_two max_three min_three max_four min_four   -- for this text's walks alone
attribute [local go_sem] rune_str
set_option linter.unusedVariables false
set_option linter.unusedSimpArgs false
def markupEnd (t : MkRes) : MkRes := if t.1 = 2 then (3, t.2.1, ByteArray.empty, [], false, t.2.2.2.2.2.1, t.2.2.2.2.2.2) else t
def scan_reader_markup.f (s0_0 : ByteArray) (s0_1 : Bool) : Option (Int × ByteArray × ByteArray × (List (S36)) × Bool × ByteArray × Bool) :=
  if 2 ≤ s0_0.size then
    (class_Letter.f (bt s0_0 1)).bind fun l =>
    if l = true then (scan_reader_skip.f s0_0 s0_1 1).bind fun k => scan_reader_tag.f k.2.1 k.2.2
    else if bt s0_0 1 = 63 then (scan_reader_skip.f s0_0 s0_1 1).bind fun k => scan_reader_remark.f k.2.1 k.2.2
    else if bt s0_0 1 = 33 then
      (scan_begins.f (s0_0.extract 2 s0_0.size) ⟨#[45, 45]⟩).bind fun b1 =>
      if b1 = true then (scan_reader_skip.f s0_0 s0_1 4).bind fun k => scan_reader_comment.f k.2.1 k.2.2
      else (scan_begins.f (s0_0.extract 2 s0_0.size) ⟨#[100, 111, 99, 116, 121, 112, 101]⟩).bind fun b2 =>
      if b2 = true then (scan_reader_skip.f s0_0 s0_1 9).bind fun k => scan_reader_doctype.f k.2.1 k.2.2
      else (scan_reader_skip.f s0_0 s0_1 2).bind fun k => scan_reader_remark.f k.2.1 k.2.2
    else (scan_reader_skip.f s0_0 s0_1 2).bind fun k =>
    if bt s0_0 1 = 47 then
      (strings_HasPrefix.f (s0_0.extract 2 s0_0.size) ⟨#[62]⟩).bind fun p =>
      if p = true then (scan_reader_skip.f k.2.1 k.2.2 1).bind fun j => some (0, ByteArray.empty, ByteArray.empty, [], false, j.2.1, j.2.2)
      else if 3 ≤ s0_0.size then (class_Letter.f (bt s0_0 2)).bind fun l2 =>
        if l2 = true then (scan_reader_tag.f k.2.1 k.2.2).bind fun t => some (markupEnd t)
        else scan_reader_remark.f k.2.1 k.2.2
      else none
    else scan_reader_remark.f k.2.1 k.2.2
  else none
structure MkAt (w0 w wr : World) (g : Nat) (rest : ByteArray) (short : Bool) : Prop where
  I : IsS52 w0 wr g rest short
  B : Below w0.heap.size w0 wr
  K : KeepBut w wr g none
  R : wr.heap[w.heap.size]? = some (.cells #[.int .i64 0, .string ⟨#[]⟩, .string ⟨#[]⟩, .slice none 0 0, .bool false] 33 (0, 0))
  h1 : g < w.heap.size
theorem MkAt.below {w0 w wr w1 : World} {g : Nat} {rest : ByteArray} {short : Bool} (h : MkAt w0 w wr g rest short) (hb : Below wr.heap.size wr w1) : MkAt w0 w w1 g rest short :=
  ⟨IsS52.below h.I hb, below_weaken h.B h.B.size hb, KeepBut.trans h.K (KeepBut.of_below hb g none) (.inl rfl), (hb.block w.heap.size (blk_lt h.R)).trans h.R, h.h1⟩
theorem MkAt.drewN {w0 w wr : World} {g : Nat} {rest : ByteArray} {short : Bool} (h : MkAt w0 w wr g rest short) (n : Nat) : MkAt w0 w (wr.drewN n) g rest short :=
  ⟨IsS52.drewN h.I n, pw_below_drewN h.B n, keep_drewN h.K n, h.R, h.h1⟩
theorem MkAt.keep {w0 w wr w1 : World} {g : Nat} {rest rest' : ByteArray} {short short' : Bool} (h : MkAt w0 w wr g rest short) (hi : IsS52 w0 w1 g rest' short') (hb : Below w0.heap.size w0 w1) (hk : KeepBut wr w1 g none) : MkAt w0 w w1 g rest' short' :=
  have h1 := h.h1
  ⟨hi, hb, KeepBut.trans h.K hk (.inl rfl), (hk.2 w.heap.size (blk_lt h.R) (by omega) (by simp)).trans h.R, h.h1⟩
theorem MkAt.cells {w0 w wr : World} {g : Nat} {rest : ByteArray} {short : Bool} (h : MkAt w0 w wr g rest short) :
    (wr.cell? ⟨w.heap.size, 0, none⟩ = some (.int .i64 0) ∧ wr.cell? ⟨w.heap.size, 1, none⟩ = some (.string ⟨#[]⟩) ∧ wr.cell? ⟨w.heap.size, 2, none⟩ = some (.string ⟨#[]⟩) ∧ wr.cell? ⟨w.heap.size, 3, none⟩ = some (.slice none 0 0) ∧ wr.cell? ⟨w.heap.size, 4, none⟩ = some (.bool false)) ∧
    (wr.frozen? ⟨w.heap.size, 0, none⟩ = false ∧ wr.frozen? ⟨w.heap.size, 1, none⟩ = false ∧ wr.frozen? ⟨w.heap.size, 2, none⟩ = false ∧ wr.frozen? ⟨w.heap.size, 3, none⟩ = false ∧ wr.frozen? ⟨w.heap.size, 4, none⟩ = false) :=
  ⟨⟨(blk_cell h.R 0).trans rfl, (blk_cell h.R 1).trans rfl, (blk_cell h.R 2).trans rfl, (blk_cell h.R 3).trans rfl, (blk_cell h.R 4).trans rfl⟩, ⟨blk_frozen h.R 0, blk_frozen h.R 1, blk_frozen h.R 2, blk_frozen h.R 3, blk_frozen h.R 4⟩⟩
theorem MkAt.alloc {w0 w wr : World} {g : Nat} {rest : ByteArray} {short : Bool} (h : MkAt w0 w wr g rest short) (o : Obj) : MkAt w0 w (wr.alloc o) g rest short :=
  ⟨IsS52.alloc h.I o, below_alloc h.B o, keep_alloc h.K o, blk_alloc h.R o, h.h1⟩
theorem MkAt.rebox {w0 w wr : World} {g b : Nat} {rest : ByteArray} {short : Bool} (h : MkAt w0 w wr g rest short) {c0 c1 c2 c3 c4 : Value} (hb : wr.heap[b]? = some (.cells #[c0, c1, c2, c3, c4] 33 (0, 0))) (hlt : w.heap.size < b) (a0 a1 a2 a3 a4 : Value) :
    ∀ W, W = (((((wr.setCell ⟨b, 0, none⟩ a0).setCell ⟨b, 1, none⟩ a1).setCell ⟨b, 2, none⟩ a2).setCell ⟨b, 3, none⟩ a3).setCell ⟨b, 4, none⟩ a4) →
    MkAt w0 w W g rest short ∧ W.heap[b]? = some (.cells #[a0, a1, a2, a3, a4] 33 (0, 0)) := by
  rintro W rfl
  have h1 := h.h1
  have hge : w0.heap.size ≤ b := by have := h.I.2; omega
  have hgw : w.heap.size ≤ b := Nat.le_of_lt hlt
  have hne : g ≠ b := by omega
  have hne2 : w.heap.size ≠ b := by omega
  exact ⟨⟨IsS52.far (p := ⟨b, 4, none⟩) (IsS52.far (p := ⟨b, 3, none⟩) (IsS52.far (p := ⟨b, 2, none⟩) (IsS52.far (p := ⟨b, 1, none⟩) (IsS52.far (p := ⟨b, 0, none⟩) h.I hne a0) hne a1) hne a2) hne a3) hne a4,
    below_set (below_set (below_set (below_set (below_set h.B hge) hge) hge) hge) hge,
    keep_far (p := ⟨b, 4, none⟩) (keep_far (p := ⟨b, 3, none⟩) (keep_far (p := ⟨b, 2, none⟩) (keep_far (p := ⟨b, 1, none⟩) (keep_far (p := ⟨b, 0, none⟩) h.K hgw a0) hgw a1) hgw a2) hgw a3) hgw a4,
    blk_far (p := ⟨b, 4, none⟩) (blk_far (p := ⟨b, 3, none⟩) (blk_far (p := ⟨b, 2, none⟩) (blk_far (p := ⟨b, 1, none⟩) (blk_far (p := ⟨b, 0, none⟩) h.R hne2 a0) hne2 a1) hne2 a2) hne2 a3) hne2 a4, h1⟩,
    blk_put5 hb a0 a1 a2 a3 a4⟩
set_option maxHeartbeats 8000000 in
set_option maxRecDepth 100000 in
theorem scan_reader_markup.calls (g : Nat) (s0_0 : ByteArray) (s0_1 : Bool) (r1 : Int) (r2 : ByteArray) (r3 : ByteArray) (r4 : List (S36)) (r5 : Bool) (r6 : ByteArray) (r7 : Bool) (w0 w : World) (hI : IsS52 w0 w g s0_0 s0_1) (hB : Below w0.heap.size w0 w) (hG : Glob w0) (h : scan_reader_markup.f s0_0 s0_1 = some (r1, r2, r3, r4, r5, r6, r7)) :
    Calls Tryz.prog 80 #[.pointer (some ⟨g, 0, none⟩)] w fun e w' => ∃ v3_ : Value, e = .returned (.agg #[.int .i64 r1, .string r2, .string r3, v3_, .bool r5]) ∧ Kd.R k36 36 w' w.heap.size (fun _ => True) v3_ r4 ∧ IsS52 w0 w' g r6 r7 ∧ Below w0.heap.size w0 w' ∧ KeepBut w w' g none := by
  have hu33 := Tryz.underlying33
  unfold scan_reader_markup.f at h
  split at h
  case isFalse => cases h
  rename_i hsz
  replace h := Option.bind_eq_some_iff.1 h
  obtain ⟨l, hx, h⟩ := h
  have HLT := Aside0.mk hx
  clear hx
  have hgl := IsS52.lt hI
  obtain ⟨W1, hW1⟩ : ∃ W1, W1 = w.alloc (Obj.cells #[.int .i64 0, .string ⟨#[]⟩, .string ⟨#[]⟩, .slice none 0 0, .bool false] 33) := ⟨_, rfl⟩
  have M1 := Aside0.mk (show MkAt w0 w W1 g s0_0 s0_1 from by rw [hW1]; exact ⟨IsS52.alloc hI _, below_alloc hB _, keep_alloc (KeepBut.refl w g none) _, heap_alloc_new w _, hgl⟩)
  have HG0 := Aside0.mk hG
  clear hI hB hG
  have hz0 := cellS52_0 M1.out.I.1
  have hq : (1 : Int) < (s0_0.size : Int) := by omega
  have hq2 : (2 : Int) ≤ (s0_0.size : Int) := by omega
  have hq3 : 1 < s0_0.size := by omega
  have hbt : ((s0_0[1]'hq3).toNat : Int) = bt s0_0 1 := bt_at s0_0 1 hq3
  go_enter Tryz.func80, Tryz.ntmps80
  go_upto_region 1 with (fail)
  rw [← hW1]
  clear hW1
  go_quiet (fail)
  cases l with
  | true =>
    rw [if_pos rfl] at h
    replace h := Option.bind_eq_some_iff.1 h
    obtain ⟨⟨k0, k1, k2⟩, hx, h⟩ := h
    have HSK := Aside0.mk hx
    clear hx
    have HTL := Aside0.mk (show scan_reader_tag.f k1 k2 = some (r1, r2, r3, r4, r5, r6, r7) from h)
    clear h
    go_wp2_with (first | (go_at_call 92; (with_reducible refine (class_Letter.calls (bt s0_0 1) true _ HLT.out).mono ?_); rintro e w3 ⟨rfl, hd⟩; have M3 := Aside0.mk ((M1.out.drewN _).below hd.below); clear hd) | (go_at_call 79; (with_reducible refine (scan_reader_skip.calls g s0_0 s0_1 1 k0 k1 k2 w0 _ M3.out.I M3.out.B HSK.out).mono ?_); rintro e w4 ⟨rfl, hi, hb, hk⟩; have M4 := Aside0.mk (M3.out.keep hi hb hk); clear hi hb hk) | (go_at_call 110; (with_reducible refine (scan_reader_tag.calls g k1 k2 r1 r2 r3 r4 r5 r6 r7 w0 _ M4.out.I M4.out.B HG0.out HTL.out).mono ?_); rintro e w5 ⟨v, rfl, ho, hi, hb, hk⟩; obtain ⟨A, c, rfl⟩ := Kd.R_slice ho; have HO := Aside0.mk (Kd.R_mono (ok' := fun k_ => w.heap.size < k_) (Kd.R_bound ho) (fun k_ hk_ => Nat.lt_of_lt_of_le (blk_lt M4.out.R) hk_.2.1)); have HBS := Aside0.mk (show w.heap.size ≤ w4.heap.size from M4.out.K.1); have M5 := Aside0.mk (M4.out.keep hi hb hk); clear ho hi hb hk; obtain ⟨⟨hr0, hr1, hr2, hr3, hr4⟩, hf0, hf1, hf2, hf3, hf4⟩ := M5.out.cells))
    refine bodyPost_ret (results_cell_row rfl _ _ w.heap.size 33 #[.int .i64 r1, .string r2, .string r3, .slice A r4.length c, .bool r5] (0, 0) _ rfl ((store5_done M5.out.I M5.out.B M5.out.K M5.out.R hgl (.int .i64 r1) (.string r2) (.string r3) (.slice A r4.length c) (.bool r5) _ rfl).1) hu33 rfl (by kernel_rfl)) rfl ?_
    obtain ⟨-, d2, d3, d4, d5⟩ := store5_done M5.out.I M5.out.B M5.out.K M5.out.R hgl (.int .i64 r1) (.string r2) (.string r3) (.slice A r4.length c) (.bool r5) _ rfl
    exact ⟨_, rfl, Kd.R_mono (Kd.R_lower (d5 _ _ _ _ (fun k hk => Nat.ne_of_gt hk) HO.out) HBS.out) (fun _ _ => trivial), d2, d3, d4⟩
  | false =>
    rw [if_neg (by simp)] at h
    by_cases h63 : bt s0_0 1 = 63
    · rw [if_pos h63] at h
      replace h := Option.bind_eq_some_iff.1 h
      obtain ⟨⟨k0, k1, k2⟩, hx, h⟩ := h
      have HSK := Aside0.mk hx
      clear hx
      have HTL := Aside0.mk (show scan_reader_remark.f k1 k2 = some (r1, r2, r3, r4, r5, r6, r7) from h)
      clear h
      rw [h63] at HLT hbt ⊢
      go_wp2_with (first | (go_at_call 92; (with_reducible refine (class_Letter.calls (63) false _ HLT.out).mono ?_); rintro e w3 ⟨rfl, hd⟩; have M3 := Aside0.mk ((M1.out.drewN _).below hd.below); clear hd) | (go_at_call 79; (with_reducible refine (scan_reader_skip.calls g s0_0 s0_1 1 k0 k1 k2 w0 _ M3.out.I M3.out.B HSK.out).mono ?_); rintro e w4 ⟨rfl, hi, hb, hk⟩; have M4 := Aside0.mk (M3.out.keep hi hb hk); clear hi hb hk) | (go_at_call 111; (with_reducible refine (scan_reader_remark.calls g k1 k2 r1 r2 r3 r4 r5 r6 r7 w0 _ M4.out.I M4.out.B HG0.out HTL.out).mono ?_); rintro e w5 ⟨v, rfl, ho, hi, hb, hk⟩; obtain ⟨A, c, rfl⟩ := Kd.R_slice ho; have HO := Aside0.mk (Kd.R_mono (ok' := fun k_ => w.heap.size < k_) (Kd.R_bound ho) (fun k_ hk_ => Nat.lt_of_lt_of_le (blk_lt M4.out.R) hk_.2.1)); have HBS := Aside0.mk (show w.heap.size ≤ w4.heap.size from M4.out.K.1); have M5 := Aside0.mk (M4.out.keep hi hb hk); clear ho hi hb hk; obtain ⟨⟨hr0, hr1, hr2, hr3, hr4⟩, hf0, hf1, hf2, hf3, hf4⟩ := M5.out.cells))
      refine bodyPost_ret (results_cell_row rfl _ _ w.heap.size 33 #[.int .i64 r1, .string r2, .string r3, .slice A r4.length c, .bool r5] (0, 0) _ rfl ((store5_done M5.out.I M5.out.B M5.out.K M5.out.R hgl (.int .i64 r1) (.string r2) (.string r3) (.slice A r4.length c) (.bool r5) _ rfl).1) hu33 rfl (by kernel_rfl)) rfl ?_
      obtain ⟨-, d2, d3, d4, d5⟩ := store5_done M5.out.I M5.out.B M5.out.K M5.out.R hgl (.int .i64 r1) (.string r2) (.string r3) (.slice A r4.length c) (.bool r5) _ rfl
      exact ⟨_, rfl, Kd.R_mono (Kd.R_lower (d5 _ _ _ _ (fun k hk => Nat.ne_of_gt hk) HO.out) HBS.out) (fun _ _ => trivial), d2, d3, d4⟩
    · rw [if_neg h63] at h
      by_cases h33 : bt s0_0 1 = 33
      · rw [if_pos h33] at h
        clear h63
        replace h := Option.bind_eq_some_iff.1 h
        obtain ⟨b1, hx, h⟩ := h
        have HB1 := Aside0.mk hx
        clear hx
        rw [h33] at HLT hbt ⊢
        cases b1 with
        | true =>
          rw [if_pos rfl] at h
          replace h := Option.bind_eq_some_iff.1 h
          obtain ⟨⟨k0, k1, k2⟩, hx, h⟩ := h
          have HSK := Aside0.mk hx
          clear hx
          have HTL := Aside0.mk (show scan_reader_comment.f k1 k2 = some (r1, r2, r3, r4, r5, r6, r7) from h)
          clear h
          go_wp2_with (first | (go_at_call 92; (with_reducible refine (class_Letter.calls (33) false _ HLT.out).mono ?_); rintro e w3 ⟨rfl, hd⟩; have M3 := Aside0.mk ((M1.out.drewN _).below hd.below); clear hd) | (go_at_call 112; (with_reducible refine (scan_begins.calls (s0_0.extract 2 s0_0.size) (⟨#[45, 45]⟩ : ByteArray) true _ HB1.out).mono ?_); rintro e w31 ⟨rfl, hb⟩; have M31 := Aside0.mk (M3.out.below hb); clear hb) | (go_at_call 79; (with_reducible refine (scan_reader_skip.calls g s0_0 s0_1 4 k0 k1 k2 w0 _ M31.out.I M31.out.B HSK.out).mono ?_); rintro e w4 ⟨rfl, hi, hb, hk⟩; have M4 := Aside0.mk (M31.out.keep hi hb hk); clear hi hb hk) | (go_at_call 113; (with_reducible refine (scan_reader_comment.calls g k1 k2 r1 r2 r3 r4 r5 r6 r7 w0 _ M4.out.I M4.out.B HG0.out HTL.out).mono ?_); rintro e w5 ⟨v, rfl, ho, hi, hb, hk⟩; obtain ⟨A, c, rfl⟩ := Kd.R_slice ho; have HO := Aside0.mk (Kd.R_mono (ok' := fun k_ => w.heap.size < k_) (Kd.R_bound ho) (fun k_ hk_ => Nat.lt_of_lt_of_le (blk_lt M4.out.R) hk_.2.1)); have HBS := Aside0.mk (show w.heap.size ≤ w4.heap.size from M4.out.K.1); have M5 := Aside0.mk (M4.out.keep hi hb hk); clear ho hi hb hk; obtain ⟨⟨hr0, hr1, hr2, hr3, hr4⟩, hf0, hf1, hf2, hf3, hf4⟩ := M5.out.cells))
          refine bodyPost_ret (results_cell_row rfl _ _ w.heap.size 33 #[.int .i64 r1, .string r2, .string r3, .slice A r4.length c, .bool r5] (0, 0) _ rfl ((store5_done M5.out.I M5.out.B M5.out.K M5.out.R hgl (.int .i64 r1) (.string r2) (.string r3) (.slice A r4.length c) (.bool r5) _ rfl).1) hu33 rfl (by kernel_rfl)) rfl ?_
          obtain ⟨-, d2, d3, d4, d5⟩ := store5_done M5.out.I M5.out.B M5.out.K M5.out.R hgl (.int .i64 r1) (.string r2) (.string r3) (.slice A r4.length c) (.bool r5) _ rfl
          exact ⟨_, rfl, Kd.R_mono (Kd.R_lower (d5 _ _ _ _ (fun k hk => Nat.ne_of_gt hk) HO.out) HBS.out) (fun _ _ => trivial), d2, d3, d4⟩
        | false =>
          rw [if_neg (by simp)] at h
          replace h := Option.bind_eq_some_iff.1 h
          obtain ⟨b2, hx, h⟩ := h
          have HB2 := Aside0.mk hx
          clear hx
          cases b2 with
          | true =>
            rw [if_pos rfl] at h
            replace h := Option.bind_eq_some_iff.1 h
            obtain ⟨⟨k0, k1, k2⟩, hx, h⟩ := h
            have HSK := Aside0.mk hx
            clear hx
            have HTL := Aside0.mk (show scan_reader_doctype.f k1 k2 = some (r1, r2, r3, r4, r5, r6, r7) from h)
            clear h
            go_wp2_with (first | (go_at_call 92; (with_reducible refine (class_Letter.calls (33) false _ HLT.out).mono ?_); rintro e w3 ⟨rfl, hd⟩; have M3 := Aside0.mk ((M1.out.drewN _).below hd.below); clear hd) | (go_at_call 112; (with_reducible refine (scan_begins.calls (s0_0.extract 2 s0_0.size) (⟨#[45, 45]⟩ : ByteArray) false _ HB1.out).mono ?_); rintro e w31 ⟨rfl, hb⟩; have M31 := Aside0.mk (M3.out.below hb); clear hb) | (go_at_call 112; (with_reducible refine (scan_begins.calls (s0_0.extract 2 s0_0.size) (⟨#[100, 111, 99, 116, 121, 112, 101]⟩ : ByteArray) true _ HB2.out).mono ?_); rintro e w32 ⟨rfl, hb⟩; have M32 := Aside0.mk (M31.out.below hb); clear hb) | (go_at_call 79; (with_reducible refine (scan_reader_skip.calls g s0_0 s0_1 9 k0 k1 k2 w0 _ M32.out.I M32.out.B HSK.out).mono ?_); rintro e w4 ⟨rfl, hi, hb, hk⟩; have M4 := Aside0.mk (M32.out.keep hi hb hk); clear hi hb hk) | (go_at_call 114; (with_reducible refine (scan_reader_doctype.calls g k1 k2 r1 r2 r3 r4 r5 r6 r7 w0 _ M4.out.I M4.out.B HG0.out HTL.out).mono ?_); rintro e w5 ⟨v, rfl, ho, hi, hb, hk⟩; obtain ⟨A, c, rfl⟩ := Kd.R_slice ho; have HO := Aside0.mk (Kd.R_mono (ok' := fun k_ => w.heap.size < k_) (Kd.R_bound ho) (fun k_ hk_ => Nat.lt_of_lt_of_le (blk_lt M4.out.R) hk_.2.1)); have HBS := Aside0.mk (show w.heap.size ≤ w4.heap.size from M4.out.K.1); have M5 := Aside0.mk (M4.out.keep hi hb hk); clear ho hi hb hk; obtain ⟨⟨hr0, hr1, hr2, hr3, hr4⟩, hf0, hf1, hf2, hf3, hf4⟩ := M5.out.cells))
            refine bodyPost_ret (results_cell_row rfl _ _ w.heap.size 33 #[.int .i64 r1, .string r2, .string r3, .slice A r4.length c, .bool r5] (0, 0) _ rfl ((store5_done M5.out.I M5.out.B M5.out.K M5.out.R hgl (.int .i64 r1) (.string r2) (.string r3) (.slice A r4.length c) (.bool r5) _ rfl).1) hu33 rfl (by kernel_rfl)) rfl ?_
            obtain ⟨-, d2, d3, d4, d5⟩ := store5_done M5.out.I M5.out.B M5.out.K M5.out.R hgl (.int .i64 r1) (.string r2) (.string r3) (.slice A r4.length c) (.bool r5) _ rfl
            exact ⟨_, rfl, Kd.R_mono (Kd.R_lower (d5 _ _ _ _ (fun k hk => Nat.ne_of_gt hk) HO.out) HBS.out) (fun _ _ => trivial), d2, d3, d4⟩
          | false =>
            rw [if_neg (by simp)] at h
            replace h := Option.bind_eq_some_iff.1 h
            obtain ⟨⟨k0, k1, k2⟩, hx, h⟩ := h
            have HSK := Aside0.mk hx
            clear hx
            have HTL := Aside0.mk (show scan_reader_remark.f k1 k2 = some (r1, r2, r3, r4, r5, r6, r7) from h)
            clear h
            go_wp2_with (first | (go_at_call 92; (with_reducible refine (class_Letter.calls (33) false _ HLT.out).mono ?_); rintro e w3 ⟨rfl, hd⟩; have M3 := Aside0.mk ((M1.out.drewN _).below hd.below); clear hd) | (go_at_call 112; (with_reducible refine (scan_begins.calls (s0_0.extract 2 s0_0.size) (⟨#[45, 45]⟩ : ByteArray) false _ HB1.out).mono ?_); rintro e w31 ⟨rfl, hb⟩; have M31 := Aside0.mk (M3.out.below hb); clear hb) | (go_at_call 112; (with_reducible refine (scan_begins.calls (s0_0.extract 2 s0_0.size) (⟨#[100, 111, 99, 116, 121, 112, 101]⟩ : ByteArray) false _ HB2.out).mono ?_); rintro e w32 ⟨rfl, hb⟩; have M32 := Aside0.mk (M31.out.below hb); clear hb) | (go_at_call 79; (with_reducible refine (scan_reader_skip.calls g s0_0 s0_1 2 k0 k1 k2 w0 _ M32.out.I M32.out.B HSK.out).mono ?_); rintro e w4 ⟨rfl, hi, hb, hk⟩; have M4 := Aside0.mk (M32.out.keep hi hb hk); clear hi hb hk) | (go_at_call 111; (with_reducible refine (scan_reader_remark.calls g k1 k2 r1 r2 r3 r4 r5 r6 r7 w0 _ M4.out.I M4.out.B HG0.out HTL.out).mono ?_); rintro e w5 ⟨v, rfl, ho, hi, hb, hk⟩; obtain ⟨A, c, rfl⟩ := Kd.R_slice ho; have HO := Aside0.mk (Kd.R_mono (ok' := fun k_ => w.heap.size < k_) (Kd.R_bound ho) (fun k_ hk_ => Nat.lt_of_lt_of_le (blk_lt M4.out.R) hk_.2.1)); have HBS := Aside0.mk (show w.heap.size ≤ w4.heap.size from M4.out.K.1); have M5 := Aside0.mk (M4.out.keep hi hb hk); clear ho hi hb hk; obtain ⟨⟨hr0, hr1, hr2, hr3, hr4⟩, hf0, hf1, hf2, hf3, hf4⟩ := M5.out.cells))
            refine bodyPost_ret (results_cell_row rfl _ _ w.heap.size 33 #[.int .i64 r1, .string r2, .string r3, .slice A r4.length c, .bool r5] (0, 0) _ rfl ((store5_done M5.out.I M5.out.B M5.out.K M5.out.R hgl (.int .i64 r1) (.string r2) (.string r3) (.slice A r4.length c) (.bool r5) _ rfl).1) hu33 rfl (by kernel_rfl)) rfl ?_
            obtain ⟨-, d2, d3, d4, d5⟩ := store5_done M5.out.I M5.out.B M5.out.K M5.out.R hgl (.int .i64 r1) (.string r2) (.string r3) (.slice A r4.length c) (.bool r5) _ rfl
            exact ⟨_, rfl, Kd.R_mono (Kd.R_lower (d5 _ _ _ _ (fun k hk => Nat.ne_of_gt hk) HO.out) HBS.out) (fun _ _ => trivial), d2, d3, d4⟩
      · rw [if_neg h33] at h
        replace h := Option.bind_eq_some_iff.1 h
        obtain ⟨⟨k0, k1, k2⟩, hx, h⟩ := h
        have HSK := Aside0.mk hx
        clear hx
        by_cases h47 : bt s0_0 1 = 47
        · rw [if_pos h47] at h
          clear h63 h33
          replace h := Option.bind_eq_some_iff.1 h
          obtain ⟨p, hx, h⟩ := h
          have HPF := Aside0.mk hx
          clear hx
          rw [h47] at HLT hbt ⊢
          cases p with
          | true =>
            rw [if_pos rfl] at h
            replace h := Option.bind_eq_some_iff.1 h
            obtain ⟨⟨j0, j1, j2⟩, hx, h⟩ := h
            have HSJ := Aside0.mk (show scan_reader_skip.f k1 k2 1 = some (j0, j1, j2) from hx)
            clear hx
            simp only [Option.some.injEq, Prod.mk.injEq] at h
            obtain ⟨rfl, rfl, rfl, rfl, rfl, rfl, rfl⟩ := h
            go_wp2_with (first | (go_at_call 92; (with_reducible refine (class_Letter.calls (47) false _ HLT.out).mono ?_); rintro e w3 ⟨rfl, hd⟩; have M3 := Aside0.mk ((M1.out.drewN _).below hd.below); clear hd) | (go_at_call 79; (with_reducible refine (scan_reader_skip.calls g s0_0 s0_1 2 k0 k1 k2 w0 _ M3.out.I M3.out.B HSK.out).mono ?_); rintro e w4 ⟨rfl, hi, hb, hk⟩; have M4 := Aside0.mk (M3.out.keep hi hb hk); clear hi hb hk) | (go_at_call 63; (with_reducible refine (strings_HasPrefix.calls (s0_0.extract 2 s0_0.size) (⟨#[62]⟩ : ByteArray) true _ HPF.out).mono ?_); rintro e w5 ⟨rfl, hd⟩; have M5 := Aside0.mk (M4.out.below hd.below); clear hd) | (go_at_call 79; (with_reducible refine (scan_reader_skip.calls g k1 k2 1 j0 j1 j2 w0 _ M5.out.I M5.out.B HSJ.out).mono ?_); rintro e w6 ⟨rfl, hi, hb, hk⟩; have M6 := Aside0.mk (M5.out.keep hi hb hk); clear hi hb hk; obtain ⟨⟨hr0, hr1, hr2, hr3, hr4⟩, hf0, hf1, hf2, hf3, hf4⟩ := M6.out.cells))
            refine bodyPost_ret (results_cell_row rfl _ _ w.heap.size 33 #[.int .i64 0, .string ⟨#[]⟩, .string ⟨#[]⟩, .slice none 0 0, .bool false] (0, 0) _ rfl ((store5_done M6.out.I M6.out.B M6.out.K M6.out.R hgl (.int .i64 0) (.string ⟨#[]⟩) (.string ⟨#[]⟩) (.slice none 0 0) (.bool false) _ rfl).1) hu33 rfl (by kernel_rfl)) rfl ?_
            obtain ⟨-, d2, d3, d4, d5⟩ := store5_done M6.out.I M6.out.B M6.out.K M6.out.R hgl (.int .i64 0) (.string ⟨#[]⟩) (.string ⟨#[]⟩) (.slice none 0 0) (.bool false) _ rfl
            exact ⟨_, rfl, Kd.R_nil _ _ _ _ _, d2, d3, d4⟩
          | false =>
            rw [if_neg (by simp)] at h
            split at h
            case isFalse => cases h
            rename_i hs3
            replace h := Option.bind_eq_some_iff.1 h
            obtain ⟨l2, hx, h⟩ := h
            have HL2 := Aside0.mk hx
            clear hx
            have hq4 : 0 < (s0_0.extract 2 s0_0.size).size := by rw [ByteArray.size_extract]; omega
            have hbt2 : (((s0_0.extract 2 s0_0.size)[0]'hq4).toNat : Int) = bt s0_0 2 := by rw [ByteArray.getElem_extract]; exact bt_at s0_0 2 (by omega)
            have hq5 : (0 : Int) < ((s0_0.extract 2 s0_0.size).size : Int) := by omega
            cases l2 with
            | true =>
              rw [if_pos rfl] at h
              replace h := Option.bind_eq_some_iff.1 h
              obtain ⟨⟨q1, q2, q3, q4, q5, q6, q7⟩, hx, h⟩ := h
              have HTL := Aside0.mk (show scan_reader_tag.f k1 k2 = some (q1, q2, q3, q4, q5, q6, q7) from hx)
              clear hx
              have HRS := Aside0.mk (Option.some.inj h)
              clear h
              go_upto_region 20 with (first | (go_at_call 92; (with_reducible refine (class_Letter.calls (47) false _ HLT.out).mono ?_); rintro e w3 ⟨rfl, hd⟩; have M3 := Aside0.mk ((M1.out.drewN _).below hd.below); clear hd) | (go_at_call 79; (with_reducible refine (scan_reader_skip.calls g s0_0 s0_1 2 k0 k1 k2 w0 _ M3.out.I M3.out.B HSK.out).mono ?_); rintro e w4 ⟨rfl, hi, hb, hk⟩; have M4 := Aside0.mk (M3.out.keep hi hb hk); clear hi hb hk) | (go_at_call 63; (with_reducible refine (strings_HasPrefix.calls (s0_0.extract 2 s0_0.size) (⟨#[62]⟩ : ByteArray) false _ HPF.out).mono ?_); rintro e w5 ⟨rfl, hd⟩; have M5 := Aside0.mk (M4.out.below hd.below); clear hd) | (go_at_call 92; (with_reducible refine (class_Letter.calls (bt s0_0 2) true _ HL2.out).mono ?_); rintro e w6 ⟨rfl, hd⟩; have M6 := Aside0.mk ((M5.out).below hd.below); clear hd) | (go_at_call 110; (with_reducible refine (scan_reader_tag.calls g k1 k2 q1 q2 q3 q4 q5 q6 q7 w0 _ M6.out.I M6.out.B HG0.out HTL.out).mono ?_); rintro e w7 ⟨v, rfl, ho, hi, hb, hk⟩; obtain ⟨A, c, rfl⟩ := Kd.R_slice ho; have HO := Aside0.mk (Kd.R_mono (ok' := fun k_ => w.heap.size < k_) (Kd.R_bound ho) (fun k_ hk_ => Nat.lt_of_lt_of_le (blk_lt M6.out.R) hk_.2.1)); have HBS := Aside0.mk (show w.heap.size ≤ w6.heap.size from M6.out.K.1); have M7 := Aside0.mk (M6.out.keep hi hb hk); clear ho hi hb hk))
              obtain ⟨W8, hW8⟩ : ∃ W8, W8 = w7.alloc (Obj.cells #[.int .i64 q1, .string q2, .string q3, .slice A q4.length c, .bool q5] 33) := ⟨_, rfl⟩
              obtain ⟨bt, hbt⟩ : ∃ bt, bt = w7.heap.size := ⟨_, rfl⟩
              rw [← hW8, ← hbt]
              have M8 := Aside0.mk (show MkAt w0 w W8 g q6 q7 from by rw [hW8]; exact M7.out.alloc _)
              have HT8 := Aside0.mk (show W8.heap[bt]? = some (.cells #[.int .i64 q1, .string q2, .string q3, .slice A q4.length c, .bool q5] 33 (0, 0)) from by rw [hW8, hbt]; exact heap_alloc_new w7 _)
              have HLW := Aside0.mk (show w.heap.size < bt from by rw [hbt]; exact blk_lt M7.out.R)
              have HO8 := Aside0.mk (show Kd.R k36 36 W8 _ (fun k_ => w.heap.size < k_) (.slice A q4.length c) q4 from by rw [hW8]; exact Kd.R_alloc HO.out _)
              clear hW8 hbt
              obtain ⟨⟨hr0, hr1, hr2, hr3, hr4⟩, hf0, hf1, hf2, hf3, hf4⟩ := M8.out.cells
              have ct0 : W8.cell? ⟨bt, 0, none⟩ = some (.int .i64 q1) := (blk_cell HT8.out 0).trans rfl
              have ct1 : W8.cell? ⟨bt, 1, none⟩ = some (.string q2) := (blk_cell HT8.out 1).trans rfl
              have ct2 : W8.cell? ⟨bt, 2, none⟩ = some (.string q3) := (blk_cell HT8.out 2).trans rfl
              have ct3 : W8.cell? ⟨bt, 3, none⟩ = some (.slice A q4.length c) := (blk_cell HT8.out 3).trans rfl
              have ct4 : W8.cell? ⟨bt, 4, none⟩ = some (.bool q5) := (blk_cell HT8.out 4).trans rfl
              by_cases hq1 : q1 = 2
              · subst hq1
                have h := HRS.out
                rw [markupEnd, if_pos rfl] at h
                simp only [Prod.mk.injEq] at h
                obtain ⟨rfl, rfl, rfl, rfl, rfl, rfl, rfl⟩ := h
                have gt0 := blk_frozen HT8.out 0
                have gt1 := blk_frozen HT8.out 1
                have gt2 := blk_frozen HT8.out 2
                have gt3 := blk_frozen HT8.out 3
                have gt4 := blk_frozen HT8.out 4
                go_upto_region 22 with (fail)
                obtain ⟨W9, hW9⟩ : ∃ W9, W9 = (((((W8.setCell ⟨bt, 0, none⟩ (.int .i64 3)).setCell ⟨bt, 1, none⟩ (.string q2)).setCell ⟨bt, 2, none⟩ (.string ⟨#[]⟩)).setCell ⟨bt, 3, none⟩ (.slice none 0 0)).setCell ⟨bt, 4, none⟩ (.bool false)) := ⟨_, rfl⟩
                rw [← hW9]
                have HX := Aside0.mk (M8.out.rebox HT8.out HLW.out _ _ _ _ _ W9 hW9)
                have M9 := Aside0.mk HX.out.1
                have HT9 := Aside0.mk HX.out.2
                clear hW9
                obtain ⟨⟨hr0, hr1, hr2, hr3, hr4⟩, hf0, hf1, hf2, hf3, hf4⟩ := M9.out.cells
                have cu0 : W9.cell? ⟨bt, 0, none⟩ = some (.int .i64 3) := (blk_cell HT9.out 0).trans rfl
                have cu1 : W9.cell? ⟨bt, 1, none⟩ = some (.string q2) := (blk_cell HT9.out 1).trans rfl
                have cu2 : W9.cell? ⟨bt, 2, none⟩ = some (.string ⟨#[]⟩) := (blk_cell HT9.out 2).trans rfl
                have cu3 : W9.cell? ⟨bt, 3, none⟩ = some (.slice none 0 0) := (blk_cell HT9.out 3).trans rfl
                have cu4 : W9.cell? ⟨bt, 4, none⟩ = some (.bool false) := (blk_cell HT9.out 4).trans rfl
                go_wp2
                refine bodyPost_ret (results_cell_row rfl _ _ w.heap.size 33 #[.int .i64 3, .string q2, .string ⟨#[]⟩, .slice none 0 0, .bool false] (0, 0) _ rfl ((store5_done M9.out.I M9.out.B M9.out.K M9.out.R hgl (.int .i64 3) (.string q2) (.string ⟨#[]⟩) (.slice none 0 0) (.bool false) _ rfl).1) hu33 rfl (by kernel_rfl)) rfl ?_
                obtain ⟨-, d2, d3, d4, d5⟩ := store5_done M9.out.I M9.out.B M9.out.K M9.out.R hgl (.int .i64 3) (.string q2) (.string ⟨#[]⟩) (.slice none 0 0) (.bool false) _ rfl
                exact ⟨_, rfl, Kd.R_nil _ _ _ _ _, d2, d3, d4⟩
              · have h := HRS.out
                rw [markupEnd, if_neg hq1] at h
                simp only [Prod.mk.injEq] at h
                obtain ⟨rfl, rfl, rfl, rfl, rfl, rfl, rfl⟩ := h
                go_wp2
                refine bodyPost_ret (results_cell_row rfl _ _ w.heap.size 33 #[.int .i64 q1, .string q2, .string q3, .slice A q4.length c, .bool q5] (0, 0) _ rfl ((store5_done M8.out.I M8.out.B M8.out.K M8.out.R hgl (.int .i64 q1) (.string q2) (.string q3) (.slice A q4.length c) (.bool q5) _ rfl).1) hu33 rfl (by kernel_rfl)) rfl ?_
                obtain ⟨-, d2, d3, d4, d5⟩ := store5_done M8.out.I M8.out.B M8.out.K M8.out.R hgl (.int .i64 q1) (.string q2) (.string q3) (.slice A q4.length c) (.bool q5) _ rfl
                exact ⟨_, rfl, Kd.R_mono (Kd.R_lower (d5 _ _ _ _ (fun k hk => Nat.ne_of_gt hk) HO8.out) HBS.out) (fun _ _ => trivial), d2, d3, d4⟩
            | false =>
              rw [if_neg (by simp)] at h
              have HTL := Aside0.mk (show scan_reader_remark.f k1 k2 = some (r1, r2, r3, r4, r5, r6, r7) from h)
              clear h
              go_wp2_with (first | (go_at_call 92; (with_reducible refine (class_Letter.calls (47) false _ HLT.out).mono ?_); rintro e w3 ⟨rfl, hd⟩; have M3 := Aside0.mk ((M1.out.drewN _).below hd.below); clear hd) | (go_at_call 79; (with_reducible refine (scan_reader_skip.calls g s0_0 s0_1 2 k0 k1 k2 w0 _ M3.out.I M3.out.B HSK.out).mono ?_); rintro e w4 ⟨rfl, hi, hb, hk⟩; have M4 := Aside0.mk (M3.out.keep hi hb hk); clear hi hb hk) | (go_at_call 63; (with_reducible refine (strings_HasPrefix.calls (s0_0.extract 2 s0_0.size) (⟨#[62]⟩ : ByteArray) false _ HPF.out).mono ?_); rintro e w5 ⟨rfl, hd⟩; have M5 := Aside0.mk (M4.out.below hd.below); clear hd) | (go_at_call 92; (with_reducible refine (class_Letter.calls (bt s0_0 2) false _ HL2.out).mono ?_); rintro e w6 ⟨rfl, hd⟩; have M6 := Aside0.mk ((M5.out).below hd.below); clear hd) | (go_at_call 111; (with_reducible refine (scan_reader_remark.calls g k1 k2 r1 r2 r3 r4 r5 r6 r7 w0 _ M6.out.I M6.out.B HG0.out HTL.out).mono ?_); rintro e w7 ⟨v, rfl, ho, hi, hb, hk⟩; obtain ⟨A, c, rfl⟩ := Kd.R_slice ho; have HO := Aside0.mk (Kd.R_mono (ok' := fun k_ => w.heap.size < k_) (Kd.R_bound ho) (fun k_ hk_ => Nat.lt_of_lt_of_le (blk_lt M6.out.R) hk_.2.1)); have HBS := Aside0.mk (show w.heap.size ≤ w6.heap.size from M6.out.K.1); have M7 := Aside0.mk (M6.out.keep hi hb hk); clear ho hi hb hk; obtain ⟨⟨hr0, hr1, hr2, hr3, hr4⟩, hf0, hf1, hf2, hf3, hf4⟩ := M7.out.cells))
              refine bodyPost_ret (results_cell_row rfl _ _ w.heap.size 33 #[.int .i64 r1, .string r2, .string r3, .slice A r4.length c, .bool r5] (0, 0) _ rfl ((store5_done M7.out.I M7.out.B M7.out.K M7.out.R hgl (.int .i64 r1) (.string r2) (.string r3) (.slice A r4.length c) (.bool r5) _ rfl).1) hu33 rfl (by kernel_rfl)) rfl ?_
              obtain ⟨-, d2, d3, d4, d5⟩ := store5_done M7.out.I M7.out.B M7.out.K M7.out.R hgl (.int .i64 r1) (.string r2) (.string r3) (.slice A r4.length c) (.bool r5) _ rfl
              exact ⟨_, rfl, Kd.R_mono (Kd.R_lower (d5 _ _ _ _ (fun k hk => Nat.ne_of_gt hk) HO.out) HBS.out) (fun _ _ => trivial), d2, d3, d4⟩
        · rw [if_neg h47] at h
          have HTL := Aside0.mk (show scan_reader_remark.f k1 k2 = some (r1, r2, r3, r4, r5, r6, r7) from h)
          clear h
          go_wp2_with (first | (go_at_call 92; (with_reducible refine (class_Letter.calls (bt s0_0 1) false _ HLT.out).mono ?_); rintro e w3 ⟨rfl, hd⟩; have M3 := Aside0.mk ((M1.out.drewN _).below hd.below); clear hd) | (go_at_call 79; (with_reducible refine (scan_reader_skip.calls g s0_0 s0_1 2 k0 k1 k2 w0 _ M3.out.I M3.out.B HSK.out).mono ?_); rintro e w4 ⟨rfl, hi, hb, hk⟩; have M4 := Aside0.mk (M3.out.keep hi hb hk); clear hi hb hk) | (go_at_call 111; (with_reducible refine (scan_reader_remark.calls g k1 k2 r1 r2 r3 r4 r5 r6 r7 w0 _ M4.out.I M4.out.B HG0.out HTL.out).mono ?_); rintro e w5 ⟨v, rfl, ho, hi, hb, hk⟩; obtain ⟨A, c, rfl⟩ := Kd.R_slice ho; have HO := Aside0.mk (Kd.R_mono (ok' := fun k_ => w.heap.size < k_) (Kd.R_bound ho) (fun k_ hk_ => Nat.lt_of_lt_of_le (blk_lt M4.out.R) hk_.2.1)); have HBS := Aside0.mk (show w.heap.size ≤ w4.heap.size from M4.out.K.1); have M5 := Aside0.mk (M4.out.keep hi hb hk); clear ho hi hb hk; obtain ⟨⟨hr0, hr1, hr2, hr3, hr4⟩, hf0, hf1, hf2, hf3, hf4⟩ := M5.out.cells))
          refine bodyPost_ret (results_cell_row rfl _ _ w.heap.size 33 #[.int .i64 r1, .string r2, .string r3, .slice A r4.length c, .bool r5] (0, 0) _ rfl ((store5_done M5.out.I M5.out.B M5.out.K M5.out.R hgl (.int .i64 r1) (.string r2) (.string r3) (.slice A r4.length c) (.bool r5) _ rfl).1) hu33 rfl (by kernel_rfl)) rfl ?_
          obtain ⟨-, d2, d3, d4, d5⟩ := store5_done M5.out.I M5.out.B M5.out.K M5.out.R hgl (.int .i64 r1) (.string r2) (.string r3) (.slice A r4.length c) (.bool r5) _ rfl
          exact ⟨_, rfl, Kd.R_mono (Kd.R_lower (d5 _ _ _ _ (fun k hk => Nat.ne_of_gt hk) HO.out) HBS.out) (fun _ _ => trivial), d2, d3, d4⟩
end Go.Proofs.YtoacojkmclngmaaGreatDoor.Pz
namespace Go.Proofs.YtoacojkmclngmaaGreatDoor.Pz
open Go.RowKit Go.Proofs.YtoacojkmclngmaaGreatDoorW.PrintWords Go.Proofs.YtoacojkmclngmaaGreatDoorW.PrintLast Go.Proofs.YtoacojkmclngmaaGreatDoorW.PrintMore
attribute [local go_sem] max2_int min2_int max_two min_two max_three min_three max_four min_four   -- for this text's walks alone
attribute [local go_sem] rune_str
set_option linter.unusedVariables false
set_option linter.unusedSimpArgs false
mutual
def scan_Raw.j0 : Nat → ByteArray → Bool → Option (Int)
  | 0, _, _ => none
  | k + 1, x3, x4 => if x4 = true then (some 1) else (if x3.toList = ([115, 99, 114, 105, 112, 116] : List UInt8) then (scan_Raw.j1 k x3 (x3.toList == ([115, 99, 114, 105, 112, 116] : List UInt8))) else (if x3.toList = ([115, 116, 121, 108, 101] : List UInt8) then (scan_Raw.j1 k x3 (x3.toList == ([115, 116, 121, 108, 101] : List UInt8))) else (if x3.toList = ([120, 109, 112] : List UInt8) then (scan_Raw.j1 k x3 (x3.toList == ([120, 109, 112] : List UInt8))) else (if x3.toList = ([105, 102, 114, 97, 109, 101] : List UInt8) then (scan_Raw.j1 k x3 (x3.toList == ([105, 102, 114, 97, 109, 101] : List UInt8))) else (if x3.toList = ([110, 111, 101, 109, 98, 101, 100] : List UInt8) then (scan_Raw.j1 k x3 (x3.toList == ([110, 111, 101, 109, 98, 101, 100] : List UInt8))) else (scan_Raw.j1 k x3 (x3.toList == ([110, 111, 102, 114, 97, 109, 101, 115] : List UInt8))))))))
def scan_Raw.j1 : Nat → ByteArray → Bool → Option (Int)
  | 0, _, _ => none
  | k + 1, x3, x7 => if x7 = true then (some 2) else (if x3.toList = ([112, 108, 97, 105, 110, 116, 101, 120, 116] : List UInt8) then (some 3) else (some 0))
end
def scan_Raw.f (k : Nat) (a0 : ByteArray) : Option (Int) := if a0.toList = ([116, 105, 116, 108, 101] : List UInt8) then (scan_Raw.j0 k a0 (a0.toList == ([116, 105, 116, 108, 101] : List UInt8))) else (scan_Raw.j0 k a0 (a0.toList == ([116, 101, 120, 116, 97, 114, 101, 97] : List UInt8)))
theorem scan_Raw.mono_l : ∀ k, (∀ y0 y1, LeO (scan_Raw.j0 k y0 y1) (scan_Raw.j0 (k + 1) y0 y1)) ∧ (∀ y0 y1, LeO (scan_Raw.j1 k y0 y1) (scan_Raw.j1 (k + 1) y0 y1))
  | 0 => ⟨fun _ _ r h => by simp [scan_Raw.j0] at h, fun _ _ r h => by simp [scan_Raw.j1] at h⟩
  | k + 1 => by
    obtain ⟨ih0, ih1⟩ := scan_Raw.mono_l k
    refine ⟨?_, ?_⟩
    · intro y0 y1
      unfold scan_Raw.j0
      repeat' first
      | (with_reducible exact ih0 _ _)
      | (with_reducible exact ih1 _ _)
      | (with_reducible exact LeO.refl _)
      | (with_reducible exact LeO.none _)
      | (with_reducible refine LeO.ite ?_ ?_)
      | (with_reducible refine LeO.bind ?_ (fun _ => ?_))
      | exact ih0 _ _
      | exact ih1 _ _
      | exact LeO.none _
      | refine LeO.ite ?_ ?_
      | refine LeO.bind ?_ (fun _ => ?_)
    · intro y0 y1
      unfold scan_Raw.j1
      repeat' first
      | (with_reducible exact ih0 _ _)
      | (with_reducible exact ih1 _ _)
      | (with_reducible exact LeO.refl _)
      | (with_reducible exact LeO.none _)
      | (with_reducible refine LeO.ite ?_ ?_)
      | (with_reducible refine LeO.bind ?_ (fun _ => ?_))
      | exact ih0 _ _
      | exact ih1 _ _
      | exact LeO.none _
      | refine LeO.ite ?_ ?_
      | refine LeO.bind ?_ (fun _ => ?_)
theorem scan_Raw.mono : ∀ a0 k, LeO (scan_Raw.f k a0) (scan_Raw.f (k + 1) a0) := by
  intro a0 k
  obtain ⟨ih0, ih1⟩ := scan_Raw.mono_l k
  unfold scan_Raw.f
  repeat' first
      | (with_reducible exact ih0 _ _)
      | (with_reducible exact ih1 _ _)
      | (with_reducible exact LeO.refl _)
      | (with_reducible exact LeO.none _)
      | (with_reducible refine LeO.ite ?_ ?_)
      | (with_reducible refine LeO.bind ?_ (fun _ => ?_))
      | exact ih0 _ _
      | exact ih1 _ _
      | exact LeO.none _
      | refine LeO.ite ?_ ?_
      | refine LeO.bind ?_ (fun _ => ?_)
set_option maxHeartbeats 8000000 in
set_option maxRecDepth 100000 in
theorem scan_Raw.calls (k : Nat) (a0 : ByteArray) (r : Int) (w : World) (h : scan_Raw.f k a0 = some r) :
    Calls Tryz.prog 24 #[.string a0] w fun e w' => e = .returned (.int .i64 r) ∧ Drawn0 w w' := by
  have H : (if a0.toList = ([116, 105, 116, 108, 101] : List UInt8) then (scan_Raw.j0 k a0 (a0.toList == ([116, 105, 116, 108, 101] : List UInt8))) else (scan_Raw.j0 k a0 (a0.toList == ([116, 101, 120, 116, 97, 114, 101, 97] : List UInt8)))) = some r := h
  clear h
  have HC2 := Aside0.mk H
  clear H
  go_enter Tryz.func24, Tryz.ntmps24
  go_upto_if 4 with (fail)
  go_cut [4] (fun v4 wc => ∃ (kq : Nat) (x4_1 : Bool), v4 = .bool x4_1 ∧ Aside0 (scan_Raw.j0 kq a0 x4_1 = some r) ∧ Aside0 (kq ≤ k) ∧ Drawn0 w wc)
  case first =>
    have H := HC2.out
    clear HC2
    by_cases c3 : a0.toList = ([116, 105, 116, 108, 101] : List UInt8)
    · rw [if_pos c3] at H
      have c3b0 : (a0.toList == ([116, 105, 116, 108, 101] : List UInt8)) = true := beq_iff_eq.mpr c3
      have c3b1 : (a0.toList != ([116, 105, 116, 108, 101] : List UInt8)) = false := bne_eq_false_iff_eq.mpr c3
      clear c3
      (first | rw [c3b0] | (simp only [i64_w, i32_w]; rw [c3b0]) | skip)
      have H' := Aside0.mk H
      clear H
      go_wp2
      go_meet
      case rel => exact ⟨_, ((a0.toList == ([116, 105, 116, 108, 101] : List UInt8))), (by first | rfl | (simp; done) | (simp [*]; done) | (simp; unfold wrap64; omega) | (simp; rfl)), H', ⟨by first | omega | exact Nat.le_refl _⟩, by repeat (first | exact Drawn0.refl _ | apply Drawn0.step)⟩
    · rw [if_neg c3] at H
      have c3b0 : (a0.toList == ([116, 105, 116, 108, 101] : List UInt8)) = false := beq_eq_false_iff_ne.mpr c3
      have c3b1 : (a0.toList != ([116, 105, 116, 108, 101] : List UInt8)) = true := bne_iff_ne.mpr c3
      (first | rw [c3b0] | (simp only [i64_w, i32_w]; rw [c3b0]) | skip)
      have H' := Aside0.mk H
      clear H
      go_wp2
      go_meet
      case rel => exact ⟨_, ((a0.toList == ([116, 101, 120, 116, 97, 114, 101, 97] : List UInt8))), (by first | rfl | (simp; done) | (simp [*]; done) | (simp; unfold wrap64; omega) | (simp; rfl)), H', ⟨by first | omega | exact Nat.le_refl _⟩, by repeat (first | exact Drawn0.refl _ | apply Drawn0.step)⟩
  case rest =>
    clear HC2
    try clear c2
    try clear p2
    try clear c3
    try clear c3b0
    try clear c3b1
    obtain ⟨kq, x4_1, rfl, HA, HJ1, ⟨mc1, rfl⟩⟩ := hcut
    cases kq with
    | zero => exact absurd HA.out (by simp [scan_Raw.j0])
    | succ kj1 =>
      have H := HA.out
      clear HA
      simp only [scan_Raw.j0] at H
      by_cases c4 : x4_1 = true
      · subst c4
        have H1 : (some 1) = some r := by rw [if_pos rfl] at H; exact H
        clear H
        have H := H1
        clear H1
        obtain rfl := Option.some.inj H
        go_wp2
        go_ret
        exact ⟨by first | rfl | (simp; done) | (simp [*]; done), by repeat (first | exact Drawn0.refl _ | apply Drawn0.step)⟩
      · replace c4 := Bool.eq_false_iff.mpr c4
        subst c4
        have H1 : (if a0.toList = ([115, 99, 114, 105, 112, 116] : List UInt8) then (scan_Raw.j1 kj1 a0 (a0.toList == ([115, 99, 114, 105, 112, 116] : List UInt8))) else (if a0.toList = ([115, 116, 121, 108, 101] : List UInt8) then (scan_Raw.j1 kj1 a0 (a0.toList == ([115, 116, 121, 108, 101] : List UInt8))) else (if a0.toList = ([120, 109, 112] : List UInt8) then (scan_Raw.j1 kj1 a0 (a0.toList == ([120, 109, 112] : List UInt8))) else (if a0.toList = ([105, 102, 114, 97, 109, 101] : List UInt8) then (scan_Raw.j1 kj1 a0 (a0.toList == ([105, 102, 114, 97, 109, 101] : List UInt8))) else (if a0.toList = ([110, 111, 101, 109, 98, 101, 100] : List UInt8) then (scan_Raw.j1 kj1 a0 (a0.toList == ([110, 111, 101, 109, 98, 101, 100] : List UInt8))) else (scan_Raw.j1 kj1 a0 (a0.toList == ([110, 111, 102, 114, 97, 109, 101, 115] : List UInt8)))))))) = some r := by rw [if_neg (show ¬ (false = true) by decide)] at H; exact H
        clear H
        have H := H1
        clear H1
        have HC5 := Aside0.mk H
        clear H
        go_upto_if 7 with (fail)
        go_cut [7] (fun v7 wc => ∃ (kq : Nat) (x7_4 : Bool), v7 = .bool x7_4 ∧ Aside0 (scan_Raw.j1 kq a0 x7_4 = some r) ∧ Aside0 (kq ≤ kj1) ∧ Drawn0 w wc)
        case first =>
          have H := HC5.out
          clear HC5
          by_cases c6 : a0.toList = ([115, 99, 114, 105, 112, 116] : List UInt8)
          · rw [if_pos c6] at H
            have c6b0 : (a0.toList == ([115, 99, 114, 105, 112, 116] : List UInt8)) = true := beq_iff_eq.mpr c6
            have c6b1 : (a0.toList != ([115, 99, 114, 105, 112, 116] : List UInt8)) = false := bne_eq_false_iff_eq.mpr c6
            clear c6
            (first | rw [c6b0] | (simp only [i64_w, i32_w]; rw [c6b0]) | skip)
            have H' := Aside0.mk H
            clear H
            go_wp2
            go_meet
            case rel => exact ⟨_, ((a0.toList == ([115, 99, 114, 105, 112, 116] : List UInt8))), (by first | rfl | (simp; done) | (simp [*]; done) | (simp; unfold wrap64; omega) | (simp; rfl)), H', ⟨by have := HJ1.out; first | omega | exact Nat.le_refl _⟩, by repeat (first | exact Drawn0.refl _ | apply Drawn0.step)⟩
          · rw [if_neg c6] at H
            have c6b0 : (a0.toList == ([115, 99, 114, 105, 112, 116] : List UInt8)) = false := beq_eq_false_iff_ne.mpr c6
            have c6b1 : (a0.toList != ([115, 99, 114, 105, 112, 116] : List UInt8)) = true := bne_iff_ne.mpr c6
            (first | rw [c6b0] | (simp only [i64_w, i32_w]; rw [c6b0]) | skip)
            by_cases c7 : a0.toList = ([115, 116, 121, 108, 101] : List UInt8)
            · rw [if_pos c7] at H
              have c7b0 : (a0.toList == ([115, 116, 121, 108, 101] : List UInt8)) = true := beq_iff_eq.mpr c7
              have c7b1 : (a0.toList != ([115, 116, 121, 108, 101] : List UInt8)) = false := bne_eq_false_iff_eq.mpr c7
              clear c7
              have H' := Aside0.mk H
              clear H
              go_wp2
              go_meet
              case rel => exact ⟨_, ((a0.toList == ([115, 116, 121, 108, 101] : List UInt8))), (by first | rfl | (simp; done) | (simp [*]; done) | (simp; unfold wrap64; omega) | (simp; rfl)), H', ⟨by have := HJ1.out; first | omega | exact Nat.le_refl _⟩, by repeat (first | exact Drawn0.refl _ | apply Drawn0.step)⟩
            · rw [if_neg c7] at H
              have c7b0 : (a0.toList == ([115, 116, 121, 108, 101] : List UInt8)) = false := beq_eq_false_iff_ne.mpr c7
              have c7b1 : (a0.toList != ([115, 116, 121, 108, 101] : List UInt8)) = true := bne_iff_ne.mpr c7
              by_cases c8 : a0.toList = ([120, 109, 112] : List UInt8)
              · rw [if_pos c8] at H
                have c8b0 : (a0.toList == ([120, 109, 112] : List UInt8)) = true := beq_iff_eq.mpr c8
                have c8b1 : (a0.toList != ([120, 109, 112] : List UInt8)) = false := bne_eq_false_iff_eq.mpr c8
                clear c8
                have H' := Aside0.mk H
                clear H
                go_wp2
                go_meet
                case rel => exact ⟨_, ((a0.toList == ([120, 109, 112] : List UInt8))), (by first | rfl | (simp; done) | (simp [*]; done) | (simp; unfold wrap64; omega) | (simp; rfl)), H', ⟨by have := HJ1.out; first | omega | exact Nat.le_refl _⟩, by repeat (first | exact Drawn0.refl _ | apply Drawn0.step)⟩
              · rw [if_neg c8] at H
                have c8b0 : (a0.toList == ([120, 109, 112] : List UInt8)) = false := beq_eq_false_iff_ne.mpr c8
                have c8b1 : (a0.toList != ([120, 109, 112] : List UInt8)) = true := bne_iff_ne.mpr c8
                by_cases c9 : a0.toList = ([105, 102, 114, 97, 109, 101] : List UInt8)
                · rw [if_pos c9] at H
                  have c9b0 : (a0.toList == ([105, 102, 114, 97, 109, 101] : List UInt8)) = true := beq_iff_eq.mpr c9
                  have c9b1 : (a0.toList != ([105, 102, 114, 97, 109, 101] : List UInt8)) = false := bne_eq_false_iff_eq.mpr c9
                  clear c9
                  have H' := Aside0.mk H
                  clear H
                  go_wp2
                  go_meet
                  case rel => exact ⟨_, ((a0.toList == ([105, 102, 114, 97, 109, 101] : List UInt8))), (by first | rfl | (simp; done) | (simp [*]; done) | (simp; unfold wrap64; omega) | (simp; rfl)), H', ⟨by have := HJ1.out; first | omega | exact Nat.le_refl _⟩, by repeat (first | exact Drawn0.refl _ | apply Drawn0.step)⟩
                · rw [if_neg c9] at H
                  have c9b0 : (a0.toList == ([105, 102, 114, 97, 109, 101] : List UInt8)) = false := beq_eq_false_iff_ne.mpr c9
                  have c9b1 : (a0.toList != ([105, 102, 114, 97, 109, 101] : List UInt8)) = true := bne_iff_ne.mpr c9
                  by_cases c10 : a0.toList = ([110, 111, 101, 109, 98, 101, 100] : List UInt8)
                  · rw [if_pos c10] at H
                    have c10b0 : (a0.toList == ([110, 111, 101, 109, 98, 101, 100] : List UInt8)) = true := beq_iff_eq.mpr c10
                    have c10b1 : (a0.toList != ([110, 111, 101, 109, 98, 101, 100] : List UInt8)) = false := bne_eq_false_iff_eq.mpr c10
                    clear c10
                    have H' := Aside0.mk H
                    clear H
                    go_wp2
                    go_meet
                    case rel => exact ⟨_, ((a0.toList == ([110, 111, 101, 109, 98, 101, 100] : List UInt8))), (by first | rfl | (simp; done) | (simp [*]; done) | (simp; unfold wrap64; omega) | (simp; rfl)), H', ⟨by have := HJ1.out; first | omega | exact Nat.le_refl _⟩, by repeat (first | exact Drawn0.refl _ | apply Drawn0.step)⟩
                  · rw [if_neg c10] at H
                    have c10b0 : (a0.toList == ([110, 111, 101, 109, 98, 101, 100] : List UInt8)) = false := beq_eq_false_iff_ne.mpr c10
                    have c10b1 : (a0.toList != ([110, 111, 101, 109, 98, 101, 100] : List UInt8)) = true := bne_iff_ne.mpr c10
                    have H' := Aside0.mk H
                    clear H
                    go_wp2
                    go_meet
                    case rel => exact ⟨_, ((a0.toList == ([110, 111, 102, 114, 97, 109, 101, 115] : List UInt8))), (by first | rfl | (simp; done) | (simp [*]; done) | (simp; unfold wrap64; omega) | (simp; rfl)), H', ⟨by have := HJ1.out; first | omega | exact Nat.le_refl _⟩, by repeat (first | exact Drawn0.refl _ | apply Drawn0.step)⟩
        case rest =>
          clear HC5
          try clear c1
          try clear c2
          try clear p2
          try clear c3
          try clear c3b0
          try clear c3b1
          try clear c4
          try clear c6
          try clear c6b0
          try clear c6b1
          try clear c7
          try clear c7b0
          try clear c7b1
          try clear c8
          try clear c8b0
          try clear c8b1
          try clear c9
          try clear c9b0
          try clear c9b1
          try clear c10
          try clear c10b0
          try clear c10b1
          try clear p2
          obtain ⟨kq, x7_4, rfl, HA, HJ4, ⟨mc4, rfl⟩⟩ := hcut
          cases kq with
          | zero => exact absurd HA.out (by simp [scan_Raw.j1])
          | succ kj4 =>
            have H := HA.out
            clear HA
            simp only [scan_Raw.j1] at H
            by_cases c11 : x7_4 = true
            · subst c11
              have H1 : (some 2) = some r := by rw [if_pos rfl] at H; exact H
              clear H
              have H := H1
              clear H1
              obtain rfl := Option.some.inj H
              go_wp2
              go_ret
              exact ⟨by first | rfl | (simp; done) | (simp [*]; done), by repeat (first | exact Drawn0.refl _ | apply Drawn0.step)⟩
            · replace c11 := Bool.eq_false_iff.mpr c11
              subst c11
              have H1 : (if a0.toList = ([112, 108, 97, 105, 110, 116, 101, 120, 116] : List UInt8) then (some 3) else (some 0)) = some r := by rw [if_neg (show ¬ (false = true) by decide)] at H; exact H
              clear H
              have H := H1
              clear H1
              by_cases c12 : a0.toList = ([112, 108, 97, 105, 110, 116, 101, 120, 116] : List UInt8)
              · rw [if_pos c12] at H
                have c12b0 : (a0.toList == ([112, 108, 97, 105, 110, 116, 101, 120, 116] : List UInt8)) = true := beq_iff_eq.mpr c12
                have c12b1 : (a0.toList != ([112, 108, 97, 105, 110, 116, 101, 120, 116] : List UInt8)) = false := bne_eq_false_iff_eq.mpr c12
                clear c12
                obtain rfl := Option.some.inj H
                go_wp2
                go_ret
                exact ⟨by first | rfl | (simp; done) | (simp [*]; done), by repeat (first | exact Drawn0.refl _ | apply Drawn0.step)⟩
              · rw [if_neg c12] at H
                have c12b0 : (a0.toList == ([112, 108, 97, 105, 110, 116, 101, 120, 116] : List UInt8)) = false := beq_eq_false_iff_ne.mpr c12
                have c12b1 : (a0.toList != ([112, 108, 97, 105, 110, 116, 101, 120, 116] : List UInt8)) = true := bne_iff_ne.mpr c12
                obtain rfl := Option.some.inj H
                go_wp2
                go_ret
                exact ⟨by first | rfl | (simp; done) | (simp [*]; done), by repeat (first | exact Drawn0.refl _ | apply Drawn0.step)⟩
end Go.Proofs.YtoacojkmclngmaaGreatDoor.Pz
