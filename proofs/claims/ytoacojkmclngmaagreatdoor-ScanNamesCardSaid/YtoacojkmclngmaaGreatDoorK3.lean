/- Texts of the session, one behind the other: what the code computes, function by function, and its contracts. -/
import Derived.Lib.LaidTab
import Derived.Lib.Strings
import Derived.Lib.Walk
import Derived.Deep.RegionHeld3
import Derived.Test.YtoacojkmclngmaaGreatDoorK1
import Derived.Test.YtoacojkmclngmaaGreatDoorK2
namespace Go.Proofs.YtoacojkmclngmaaGreatDoor.Pz
open Go.RowKit Go.Proofs.YtoacojkmclngmaaGreatDoorW.PrintWords Go.Proofs.YtoacojkmclngmaaGreatDoorW.PrintLast Go.Proofs.YtoacojkmclngmaaGreatDoorW.PrintMore
attribute [local go_sem] max2_int min2_int max_two min_two max_three min_three max_four min_four   -- for this text's walks alone
attribute [local go_sem] rune_str
set_option linter.unusedVariables false
set_option linter.unusedSimpArgs false
def scan_reader_next.f (s0_0 : ByteArray) (s0_1 : Bool) : Option (Int × ByteArray × Bool) := if s0_0.toList = ([] : List UInt8) then (some (0, s0_0, true)) else (if 0 < (s0_0.size : Int) then (some (bt s0_0 0, s0_0, s0_1)) else (none))
set_option maxHeartbeats 8000000 in
set_option maxRecDepth 100000 in
theorem scan_reader_next.calls (g : Nat) (s0_0 : ByteArray) (s0_1 : Bool) (r1 : Int) (r2 : ByteArray) (r3 : Bool) (w0 w : World) (hI : IsS52 w0 w g s0_0 s0_1) (hB : Below w0.heap.size w0 w) (h : scan_reader_next.f s0_0 s0_1 = some (r1, r2, r3)) :
    Calls Tryz.prog 138 #[.pointer (some ⟨g, 0, none⟩)] w fun e w' => e = .returned (.int .u8 r1) ∧ IsS52 w0 w' g r2 r3 ∧ Below w0.heap.size w0 w' ∧ KeepBut w w' g none := by
  have HI0 := Aside0.mk hI
  have HK := Aside0.mk (KeepBut.refl w g none)
  have HL := Aside0.mk hB.size
  clear hI
  have HW0 := Aside0.mk hB.size
  have HB := Aside0.mk hB
  clear hB
  have H : (if s0_0.toList = ([] : List UInt8) then (some (0, s0_0, true)) else (if 0 < (s0_0.size : Int) then (some (bt s0_0 0, s0_0, s0_1)) else (none))) = some (r1, r2, r3) := h
  clear h
  by_cases c2 : s0_0.toList = ([] : List UInt8)
  · rw [if_pos c2] at H
    have c2b0 : (s0_0.toList == ([] : List UInt8)) = true := beq_iff_eq.mpr c2
    have c2b1 : (s0_0.toList != ([] : List UInt8)) = false := bne_eq_false_iff_eq.mpr c2
    clear c2
    simp only [Option.some.injEq, Prod.mk.injEq] at H
    obtain ⟨rfl, rfl, rfl⟩ := H
    obtain ⟨HGz3, hgz3⟩ := HI0.out
    have hcz3_0 := cellS52_0 HGz3
    have hcz3_1 := cellS52_1 HGz3
    have hfz3_0 := blk_frozen HGz3 0
    have hfz3_1 := blk_frozen HGz3 1
    clear HGz3 hgz3
    go_enter Tryz.func138, Tryz.ntmps138
    go_wp2
    go_ret
    exact ⟨by first | rfl | (simp [errW_none, errW_some] <;> rfl) | (simp [*, errW_none, errW_some] <;> rfl), by repeat (first | (with_reducible first | exact HI0.out | apply IsS52.alloc | apply IsS52.drewN | apply IsS52.drew | apply IsS52.set_0 | apply IsS52.set_1) | exact HI0.out), by repeat (first | (with_reducible first | exact HB.out | apply below_alloc | apply pw_below_drewN | apply below_drew1 | refine below_set ?_ (IsS52.ge HI0.out)) | exact HB.out), by repeat (first | (with_reducible first | exact HK.out | apply KeepBut.set_ | apply keep_drewN | apply keep_drew | apply keep_alloc) | exact HK.out)⟩
  · rw [if_neg c2] at H
    have c2b0 : (s0_0.toList == ([] : List UInt8)) = false := beq_eq_false_iff_ne.mpr c2
    have c2b1 : (s0_0.toList != ([] : List UInt8)) = true := bne_iff_ne.mpr c2
    by_cases c4 : 0 < (s0_0.size : Int)
    · rw [if_pos c4] at H
      have c4b0 : decide (0 < (s0_0.size : Int)) = true := decide_eq_true c4
      have c4b1 : decide (0 < s0_0.size) = true := decide_eq_true (by omega)
      clear c4
      simp only [Option.some.injEq, Prod.mk.injEq] at H
      obtain ⟨rfl, rfl, rfl⟩ := H
      obtain ⟨HGz6, hgz6⟩ := HI0.out
      have hcz6_0 := cellS52_0 HGz6
      have hcz6_1 := cellS52_1 HGz6
      have hfz6_0 := blk_frozen HGz6 0
      have hfz6_1 := blk_frozen HGz6 1
      clear HGz6 hgz6
      have p5 : 0 ≤ (0 : Int) := (by omega)
      have q5 : 0 < s0_0.size := (by have : (0 : Int) < (s0_0.size : Int) := of_decide_eq_true (by first | (with_reducible assumption) | assumption); omega)
      have hx5 : ∀ h : 0 < s0_0.size, ((s0_0[0]'h).toNat : Int) = bt s0_0 0 := bt_at s0_0 0
      clear p5
      have qi5 : (0 < (s0_0.size : Int)) = True := eq_true (of_decide_eq_true (by first | (with_reducible assumption) | assumption))
      replace q5 := eq_true q5
      go_enter Tryz.func138, Tryz.ntmps138
      go_wp2
      go_ret
      exact ⟨by first | rfl | (simp [errW_none, errW_some] <;> rfl) | (simp [*, errW_none, errW_some] <;> rfl), by repeat (first | (with_reducible first | exact HI0.out | apply IsS52.alloc | apply IsS52.drewN | apply IsS52.drew | apply IsS52.set_0 | apply IsS52.set_1) | exact HI0.out), by repeat (first | (with_reducible first | exact HB.out | apply below_alloc | apply pw_below_drewN | apply below_drew1 | refine below_set ?_ (IsS52.ge HI0.out)) | exact HB.out), by repeat (first | (with_reducible first | exact HK.out | apply KeepBut.set_ | apply keep_drewN | apply keep_drew | apply keep_alloc) | exact HK.out)⟩
    · rw [if_neg c4] at H
      exact absurd H (by simp)
end Go.Proofs.YtoacojkmclngmaaGreatDoor.Pz
/- What a world's constants give: the cell that the search functions read; the table of old runes. -/
namespace Go.Proofs.YtoacojkmclngmaaGreatDoor
open Go.RowKit
set_option linter.unusedVariables false
theorem Glob.base {w : World} (h : Glob w) : ∃ w0 : World, (w0.ShapedOpen Tryz.prog ∧ laidMetH Tryz.prog Rows.scanTokensRow.laid w0) ∧ Below w0.heap.size w0 w := h
theorem Glob.maxLen {w : World} (h : Glob w) : ∃ m, w.cell? ⟨0, 0, none⟩ = some (.int .i64 m) := by
  obtain ⟨w0, ⟨hs, _⟩, hb⟩ := h
  obtain ⟨m, hm⟩ := Tryz.laysM143.s1_3 w0 hs
  exact ⟨m, (hb.cell (p := ⟨0, 0, none⟩) (World.block_lt_of_cell? w0 _ hm)).trans hm⟩
def oldT : List Int := [8364, 129, 8218, 402, 8222, 8230, 8224, 8225, 710, 8240, 352, 8249, 338, 141, 381, 143, 144, 8216, 8217, 8220, 8221, 8226, 8211, 8212, 732, 8482, 353, 8250, 339, 157, 382, 376]
theorem gOld : Tryz.prog.globalNamed "cribble/entity.old" = some 1 := by kernel_rfl
theorem gOldT : (Tryz.prog.globals[1]?).map (·.type) = some 122 := by kernel_rfl
theorem cellsOld : Tryz.prog.cellsOf 122 = 32 := by kernel_rfl
theorem cells32 : Tryz.prog.cellsOf 21 = 1 := by kernel_rfl
theorem tabIs_of_vars {P : Program} {W : World} {name : String} {k : IntKind} {zs : List Int} {rest : List (String × DataW Unit)} {g : Nat} {t e : TypeId} {n : Nat} {ps : List MemPlace}
    (hg : P.globalNamed name = some g) (hty : (P.globals[g]?).map (·.type) = some t) (ht : P.underlying t = some (.array n e)) (he : P.underlying e = some (.int k)) (hce : P.cellsOf e = 1) (hct : P.cellsOf t = n)
    (h : DataW.LaidVars P W ((name, Lib.tabData k zs) :: rest) ps) : Lib.TabIs P W name k zs := by
  obtain ⟨g', t', cs, fuel, p, q, hg', ht', hvar, hd, _, _⟩ := h
  obtain rfl := Option.some.inj (hg.symm.trans hg')
  obtain rfl := Option.some.inj (hty.symm.trans ht')
  unfold Lib.TabIs
  have := Lib.cells_of_tab ht he hce hct hd
  rw [hvar, ← this]
theorem Glob.old {w : World} (h : Glob w) (i : Nat) (hi : i < 32) : w.cell? ⟨1, i, none⟩ = some (.int .i32 (oldT.getD i 0)) := by
  obtain ⟨w0, ⟨_, hl⟩, hb⟩ := h
  have hl1 : laidMet Tryz.prog Rows.scanTokensRow.laid w0 := hl
  obtain ⟨ps, hv, _⟩ := hl1
  obtain ⟨_, _, _, _, _, _, _, _, _, _, hv2, _⟩ := hv
  have ht : Lib.TabIs Tryz.prog w0 "cribble/entity.old" .i32 oldT := tabIs_of_vars gOld gOldT Tryz.underlying122 Tryz.underlying21 cells32 cellsOld hv2
  have hc := ht.cell gOld i hi
  exact (hb.cell (p := ⟨1, i, none⟩) (World.block_lt_of_cell? w0 _ hc)).trans hc
end Go.Proofs.YtoacojkmclngmaaGreatDoor
namespace Go.Proofs.YtoacojkmclngmaaGreatDoor.Pz
open Go.RowKit Go.Proofs.YtoacojkmclngmaaGreatDoorW.PrintWords Go.Proofs.YtoacojkmclngmaaGreatDoorW.PrintLast Go.Proofs.YtoacojkmclngmaaGreatDoorW.PrintMore
attribute [local go_sem] max2_int min2_int max_two min_two max_three min_three max_four min_four   -- for this text's walks alone
attribute [local go_sem] rune_str
set_option linter.unusedVariables false
set_option linter.unusedSimpArgs false
def strings_ReplaceAll.f (a0 a1 a2 : ByteArray) : Option ByteArray :=
  if a0.size < 4294967281 ∧ 1 ≤ a1.size ∧ a0.size + Lib.countB a0 a1 * a2.size ≤ 140737488355328 then some ⟨(Lib.replaceAll a0.data.toList a1.data.toList a2.data.toList).toArray⟩ else none
theorem strings_ReplaceAll.calls (a0 : ByteArray) (a1 : ByteArray) (a2 : ByteArray) (r : ByteArray) (w : World) (hG : Glob w) (h : strings_ReplaceAll.f a0 a1 a2 = some r) :
    Calls Tryz.prog 134 #[.string a0, .string a1, .string a2] w fun e w' => e = .returned (.string r) ∧ Below w.heap.size w w' := by
  unfold strings_ReplaceAll.f at h
  split at h
  case isFalse => cases h
  rename_i hs
  obtain rfl := Option.some.inj h
  obtain ⟨m, hm⟩ := hG.maxLen
  exact Tryz.strings_ReplaceAll a0 a1 a2 m w hs.1 hm hs.2.1 hs.2.2
end Go.Proofs.YtoacojkmclngmaaGreatDoor.Pz
namespace Go.Proofs.YtoacojkmclngmaaGreatDoor.Pz
open Go.RowKit Go.Proofs.YtoacojkmclngmaaGreatDoorW.PrintWords Go.Proofs.YtoacojkmclngmaaGreatDoorW.PrintLast Go.Proofs.YtoacojkmclngmaaGreatDoorW.PrintMore
attribute [local go_sem] max2_int min2_int max_two min_two max_three min_three max_four min_four   -- for this text's walks alone
attribute [local go_sem] rune_str
set_option linter.unusedVariables false
set_option linter.unusedSimpArgs false
def scan_heal.f (a0 : ByteArray) : Option (ByteArray) := (strings_ReplaceAll.f a0 (⟨#[0]⟩ : ByteArray) (⟨#[239, 191, 189]⟩ : ByteArray)).bind fun t122 => (some t122)
set_option maxHeartbeats 8000000 in
set_option maxRecDepth 100000 in
theorem scan_heal.calls (a0 : ByteArray) (r : ByteArray) (w : World) (hG : Glob w) (h : scan_heal.f a0 = some r) :
    Calls Tryz.prog 109 #[.string a0] w fun e w' => e = .returned (.string r) ∧ Below w.heap.size w w' := by
  have HB := Aside0.mk (Below.refl w.heap.size w)
  have H : ((strings_ReplaceAll.f a0 (⟨#[0]⟩ : ByteArray) (⟨#[239, 191, 189]⟩ : ByteArray)).bind fun t122 => (some t122)) = some r := h
  clear h
  replace H := Option.bind_eq_some_iff.mp H
  obtain ⟨t122, A20, H⟩ := H
  replace H : (some t122) = some r := H
  have A2 := Aside0.mk A20
  clear A20
  obtain rfl := Option.some.inj H
  go_enter Tryz.func109, Tryz.ntmps109
  go_wp2_with (first | ((with_reducible refine gate_callee (f := 134) rfl ?_); refine goesL_ (some 4) rfl rfl Tryz.func134 (by kernel_rfl) rfl #[.string a0, .string (⟨#[0]⟩ : ByteArray), .string (⟨#[239, 191, 189]⟩ : ByteArray)] rfl (by (try simp only [List.map_toArray, List.map_cons, List.map_nil]); first | done | rfl | (simp only [List.length_drop, List.length_take]; rfl)) ?_; (with_reducible refine (strings_ReplaceAll.calls a0 (⟨#[0]⟩ : ByteArray) (⟨#[239, 191, 189]⟩ : ByteArray) t122 _ ?side1 A2.out).mono ?_); (case side1 => exact Glob.below hG (by repeat (first | (with_reducible first | exact HB.out | apply below_alloc | apply pw_below_drewN | apply below_drew1) | exact HB.out))); rintro e w3 ⟨rfl, hb⟩; refine ⟨_, rfl, ?_⟩; have n0_ := Aside0.mk (below_step (by repeat (first | (with_reducible first | exact HB.out | apply below_alloc | apply pw_below_drewN | apply below_drew1) | exact HB.out)) hb); clear HB; have HB := n0_; clear n0_; (try clear hb); (try clear hb2); (try clear hk); (try clear hi)))
  go_ret
  exact ⟨by first | rfl | (simp [errW_none, errW_some] <;> rfl) | (simp [*, errW_none, errW_some] <;> rfl), by repeat (first | (with_reducible first | exact HB.out | apply below_alloc | apply pw_below_drewN | apply below_drew1) | exact HB.out)⟩
end Go.Proofs.YtoacojkmclngmaaGreatDoor.Pz
namespace Go.Proofs.YtoacojkmclngmaaGreatDoor.Pz
open Go.RowKit Go.Proofs.YtoacojkmclngmaaGreatDoorW.PrintWords Go.Proofs.YtoacojkmclngmaaGreatDoorW.PrintLast Go.Proofs.YtoacojkmclngmaaGreatDoorW.PrintMore
attribute [local go_sem] max2_int min2_int max_two min_two max_three min_three max_four min_four   -- for this text's walks alone
attribute [local go_sem] rune_str
set_option linter.unusedVariables false
set_option linter.unusedSimpArgs false
def scan_named.f (a0 : ByteArray) : Option (ByteArray) := (class_Lower.f a0).bind fun t131 => ((scan_heal.f t131).bind fun t132 => (some t132))
set_option maxHeartbeats 8000000 in
set_option maxRecDepth 100000 in
theorem scan_named.calls (a0 : ByteArray) (r : ByteArray) (w : World) (hG : Glob w) (h : scan_named.f a0 = some r) :
    Calls Tryz.prog 135 #[.string a0] w fun e w' => e = .returned (.string r) ∧ Below w.heap.size w w' := by
  have HB := Aside0.mk (Below.refl w.heap.size w)
  have H : ((class_Lower.f a0).bind fun t131 => ((scan_heal.f t131).bind fun t132 => (some t132))) = some r := h
  clear h
  replace H := Option.bind_eq_some_iff.mp H
  obtain ⟨t131, A20, H⟩ := H
  replace H : ((scan_heal.f t131).bind fun t132 => (some t132)) = some r := H
  have A2 := Aside0.mk A20
  clear A20
  replace H := Option.bind_eq_some_iff.mp H
  obtain ⟨t132, A30, H⟩ := H
  replace H : (some t132) = some r := H
  have A3 := Aside0.mk A30
  clear A30
  obtain rfl := Option.some.inj H
  go_enter Tryz.func135, Tryz.ntmps135
  go_wp2_with (first | ((with_reducible refine gate_callee (f := 132) rfl ?_); refine goesL_ (some 4) rfl rfl Tryz.func132 (by kernel_rfl) rfl #[.string a0] rfl (by (try simp only [List.map_toArray, List.map_cons, List.map_nil]); first | done | rfl | (simp only [List.length_drop, List.length_take]; rfl)) ?_; (with_reducible refine (class_Lower.calls a0 t131 _ A2.out).mono ?_); rintro e w4 ⟨rfl, hb⟩; refine ⟨_, rfl, ?_⟩; have n0_ := Aside0.mk (below_step (by repeat (first | (with_reducible first | exact HB.out | apply below_alloc | apply pw_below_drewN | apply below_drew1) | exact HB.out)) hb); clear HB; have HB := n0_; clear n0_; (try clear hb); (try clear hb2); (try clear hk); (try clear hi)) | ((with_reducible refine gate_callee (f := 109) rfl ?_); refine goesL_ (some 5) rfl rfl Tryz.func109 (by kernel_rfl) rfl #[.string t131] rfl (by (try simp only [List.map_toArray, List.map_cons, List.map_nil]); first | done | rfl | (simp only [List.length_drop, List.length_take]; rfl)) ?_; (with_reducible refine (scan_heal.calls t131 t132 _ ?side1 A3.out).mono ?_); (case side1 => exact Glob.below hG (by repeat (first | (with_reducible first | exact HB.out | apply below_alloc | apply pw_below_drewN | apply below_drew1) | exact HB.out))); rintro e w5 ⟨rfl, hb⟩; refine ⟨_, rfl, ?_⟩; have n0_ := Aside0.mk (below_step (by repeat (first | (with_reducible first | exact HB.out | apply below_alloc | apply pw_below_drewN | apply below_drew1) | exact HB.out)) hb); clear HB; have HB := n0_; clear n0_; (try clear hb); (try clear hb2); (try clear hk); (try clear hi)))
  go_ret
  exact ⟨by first | rfl | (simp [errW_none, errW_some] <;> rfl) | (simp [*, errW_none, errW_some] <;> rfl), by repeat (first | (with_reducible first | exact HB.out | apply below_alloc | apply pw_below_drewN | apply below_drew1) | exact HB.out)⟩
end Go.Proofs.YtoacojkmclngmaaGreatDoor.Pz
namespace Go.Proofs.YtoacojkmclngmaaGreatDoor.Pz
open Go.RowKit Go.Proofs.YtoacojkmclngmaaGreatDoorW.PrintWords Go.Proofs.YtoacojkmclngmaaGreatDoorW.PrintLast Go.Proofs.YtoacojkmclngmaaGreatDoorW.PrintMore
attribute [local go_sem] max2_int min2_int max_two min_two max_three min_three max_four min_four   -- for this text's walks alone
attribute [local go_sem] rune_str
set_option linter.unusedVariables false
set_option linter.unusedSimpArgs false
def strings_HasPrefix.f (a0 a1 : ByteArray) : Option Bool := some (Lib.hasPrefix a0.data.toList a1.data.toList)
theorem strings_HasPrefix.calls (a0 : ByteArray) (a1 : ByteArray) (r : Bool) (w : World) (h : strings_HasPrefix.f a0 a1 = some r) :
    Calls Tryz.prog 63 #[.string a0, .string a1] w fun e w' => e = .returned (.bool r) ∧ Drawn0 w w' := by
  obtain rfl := Option.some.inj h
  exact (Tryz.strings_HasPrefix a0 a1 w).mono fun e w' ⟨he, hw⟩ => ⟨he, hw ▸ Drawn0.refl w⟩
end Go.Proofs.YtoacojkmclngmaaGreatDoor.Pz
namespace Go.Proofs.YtoacojkmclngmaaGreatDoor.Pz
open Go.RowKit Go.Proofs.YtoacojkmclngmaaGreatDoorW.PrintWords Go.Proofs.YtoacojkmclngmaaGreatDoorW.PrintLast Go.Proofs.YtoacojkmclngmaaGreatDoorW.PrintMore
attribute [local go_sem] max2_int min2_int max_two min_two max_three min_three max_four min_four   -- for this text's walks alone
attribute [local go_sem] rune_str
set_option linter.unusedVariables false
set_option linter.unusedSimpArgs false
def codedV (n : Int) : Int := if n ≤ 0 ∨ 1114111 < n ∨ 55296 ≤ n ∧ n ≤ 57343 then 65533 else if 128 ≤ n ∧ n ≤ 159 then oldT.getD (n - 128).toNat 0 else n
def entity_Coded.f (a0 : Int) : Option Int := some (codedV a0)
theorem codedV_bad {n : Int} (h : n ≤ 0 ∨ 1114111 < n ∨ 55296 ≤ n ∧ n ≤ 57343) : codedV n = 65533 := by unfold codedV; rw [if_pos h]
theorem codedV_old {i : Nat} (h : i < 32) : codedV (128 + (i : Int)) = oldT.getD i 0 := by
  unfold codedV
  rw [if_neg (by omega), if_pos (by omega)]
  congr 1
  omega
theorem codedV_self {n : Int} (h1 : ¬ (n ≤ 0 ∨ 1114111 < n ∨ 55296 ≤ n ∧ n ≤ 57343)) (h2 : ¬ (128 ≤ n ∧ n ≤ 159)) : codedV n = n := by unfold codedV; rw [if_neg h1, if_neg h2]
theorem Coded_same (n : Int) (w : World) (hG : Glob w) : Calls Tryz.prog 87 #[.int .i64 n] w fun e w' => e = .returned (.int .i32 (codedV n)) ∧ ∃ m, w' = w.drewN m := by
  by_cases h1 : n ≤ 0
  · have hv := Aside0.mk (codedV_bad (.inl h1))
    go_enter Tryz.func87, Tryz.ntmps87
    go_wp2
    go_ret
    exact ⟨by rw [hv.out]; rfl, 0, rfl⟩
  by_cases h2 : 1114111 < n
  · have hv := Aside0.mk (codedV_bad (.inr (.inl h2)))
    go_enter Tryz.func87, Tryz.ntmps87
    go_wp2
    go_ret
    exact ⟨by rw [hv.out]; rfl, 0, rfl⟩
  by_cases h3 : 55296 ≤ n
  · by_cases h4 : n ≤ 57343
    · have hv := Aside0.mk (codedV_bad (.inr (.inr ⟨h3, h4⟩)))
      go_enter Tryz.func87, Tryz.ntmps87
      go_wp2
      go_ret
      exact ⟨by rw [hv.out]; rfl, 0, rfl⟩
    · have hv := Aside0.mk (codedV_self (n := n) (by omega) (by omega))
      have h5 : ¬ n ≤ 159 := by omega
      go_enter Tryz.func87, Tryz.ntmps87
      go_wp2
      go_ret
      exact ⟨by rw [hv.out]; rfl, 0, rfl⟩
  · by_cases h4 : 128 ≤ n
    · by_cases h5 : n ≤ 159
      · obtain ⟨i, rfl⟩ : ∃ i : Nat, n = 128 + i := ⟨(n - 128).toNat, by omega⟩
        have hi : i < 32 := by omega
        have hv := Aside0.mk (codedV_old hi)
        have hc := hG.old i hi
        generalize oldT.getD i 0 = o at hc hv
        clear hG
        have he : (128 + (i : Int) - 128) = (i : Int) := by omega
        have hi0 : (0 : Int) ≤ (i : Int) := by omega
        have hi1 : (i : Int) < 32 := by omega
        go_enter Tryz.func87, Tryz.ntmps87
        go_wp2
        go_ret
        exact ⟨by rw [hv.out]; rfl, 0, rfl⟩
      · have hv := Aside0.mk (codedV_self (n := n) (by omega) (by omega))
        go_enter Tryz.func87, Tryz.ntmps87
        go_wp2
        go_ret
        exact ⟨by rw [hv.out]; rfl, 0, rfl⟩
    · have hv := Aside0.mk (codedV_self (n := n) (by omega) (by omega))
      go_enter Tryz.func87, Tryz.ntmps87
      go_wp2
      go_ret
      exact ⟨by rw [hv.out]; rfl, 0, rfl⟩
theorem entity_Coded.calls (a0 : Int) (r : Int) (w : World) (hG : Glob w) (h : entity_Coded.f a0 = some r) :
    Calls Tryz.prog 87 #[.int .i64 a0] w fun e w' => e = .returned (.int .i32 r) ∧ Below w.heap.size w w' := by
  obtain rfl := Option.some.inj h
  refine (Coded_same a0 w hG).mono fun e w' ⟨he, m, hw⟩ => ⟨he, ?_⟩
  subst hw
  exact (Drawn0.step (Drawn0.refl w) m).below
end Go.Proofs.YtoacojkmclngmaaGreatDoor.Pz
namespace Go.Proofs.YtoacojkmclngmaaGreatDoor.Pz
open Go.RowKit Go.Proofs.YtoacojkmclngmaaGreatDoorW.PrintWords Go.Proofs.YtoacojkmclngmaaGreatDoorW.PrintLast Go.Proofs.YtoacojkmclngmaaGreatDoorW.PrintMore
attribute [local go_sem] max2_int min2_int max_two min_two max_three min_three max_four min_four   -- for this text's walks alone
attribute [local go_sem] rune_str
set_option linter.unusedVariables false
set_option linter.unusedSimpArgs false
def isDigit (c : Int) : Bool := decide (48 ≤ c) && decide (c ≤ 57)
theorem Digit_same (c : Int) (w : World) : Calls Tryz.prog 41 #[.int .u8 c] w fun e w' => e = .returned (.bool (isDigit c)) ∧ w = w' := by
  go_enter Tryz.func41, Tryz.ntmps41
  go_wp2_with (go_at_call 39; refine (between_same _ _ _ _).mono ?_; rintro e w2 ⟨rfl, rfl⟩)
  go_ret
  exact ⟨rfl, rfl⟩
def class_Digit.f (a0 : Int) : Option Bool := some (isDigit a0)
theorem class_Digit.calls (a0 : Int) (r : Bool) (w : World) (h : class_Digit.f a0 = some r) :
    Calls Tryz.prog 41 #[.int .u8 a0] w fun e w' => e = .returned (.bool r) ∧ Drawn0 w w' := by
  obtain rfl := Option.some.inj h
  exact (Digit_same a0 w).mono fun e w' ⟨he, hw⟩ => ⟨he, hw ▸ Drawn0.refl w⟩
end Go.Proofs.YtoacojkmclngmaaGreatDoor.Pz
namespace Go.Proofs.YtoacojkmclngmaaGreatDoor.Pz
open Go.RowKit Go.Proofs.YtoacojkmclngmaaGreatDoorW.PrintWords Go.Proofs.YtoacojkmclngmaaGreatDoorW.PrintLast Go.Proofs.YtoacojkmclngmaaGreatDoorW.PrintMore
attribute [local go_sem] max2_int min2_int max_two min_two max_three min_three max_four min_four   -- for this text's walks alone
attribute [local go_sem] rune_str
set_option linter.unusedVariables false
set_option linter.unusedSimpArgs false
def isHex (c : Int) : Bool := isDigit c || (decide (65 ≤ c) && decide (c ≤ 70) || decide (97 ≤ c) && decide (c ≤ 102))
theorem hex_bits (c : Int) (h0 : 0 ≤ c) (h1 : c ≤ 255) : (decide (97 ≤ bits BinOp.or IntKind.u8 c 32) && decide (bits BinOp.or IntKind.u8 c 32 ≤ 102)) = (decide (65 ≤ c) && decide (c ≤ 70) || decide (97 ≤ c) && decide (c ≤ 102)) := by
  have h : ∀ n : Fin 256, (decide (97 ≤ bits BinOp.or IntKind.u8 (n.val : Int) 32) && decide (bits BinOp.or IntKind.u8 (n.val : Int) 32 ≤ 102)) = (decide (65 ≤ (n.val : Int)) && decide ((n.val : Int) ≤ 70) || decide (97 ≤ (n.val : Int)) && decide ((n.val : Int) ≤ 102)) := by decide +kernel
  have := h ⟨c.toNat, by omega⟩
  simpa [Int.toNat_of_nonneg h0] using this
theorem Hex_same (c : Int) (h0 : 0 ≤ c) (h1 : c ≤ 255) (w : World) : Calls Tryz.prog 85 #[.int .u8 c] w fun e w' => e = .returned (.bool (isHex c)) ∧ w = w' := by
  have hb := Aside0.mk (hex_bits c h0 h1)
  cases hd : isDigit c
  · go_enter Tryz.func85, Tryz.ntmps85
    go_wp2_with (first | (go_at_call 41; refine (Digit_same _ _).mono ?_; rintro e w2 ⟨rfl, rfl⟩) | (go_at_call 39; refine (between_same _ _ _ _).mono ?_; rintro e w2 ⟨rfl, rfl⟩))
    go_ret
    refine ⟨?_, rfl⟩
    rw [isHex, hd, ← hb.out]; rfl
  · go_enter Tryz.func85, Tryz.ntmps85
    go_wp2_with (first | (go_at_call 41; refine (Digit_same _ _).mono ?_; rintro e w2 ⟨rfl, rfl⟩) | (go_at_call 39; refine (between_same _ _ _ _).mono ?_; rintro e w2 ⟨rfl, rfl⟩))
    go_ret
    refine ⟨?_, rfl⟩
    rw [isHex, hd]; rfl
def class_Hex.f (a0 : Int) : Option Bool := if 0 ≤ a0 ∧ a0 ≤ 255 then some (isHex a0) else none
theorem class_Hex.calls (a0 : Int) (r : Bool) (w : World) (h : class_Hex.f a0 = some r) :
    Calls Tryz.prog 85 #[.int .u8 a0] w fun e w' => e = .returned (.bool r) ∧ Drawn0 w w' := by
  unfold class_Hex.f at h
  split at h
  case isFalse => cases h
  rename_i hs
  obtain rfl := Option.some.inj h
  exact (Hex_same a0 hs.1 hs.2 w).mono fun e w' ⟨he, hw⟩ => ⟨he, hw ▸ Drawn0.refl w⟩
end Go.Proofs.YtoacojkmclngmaaGreatDoor.Pz
namespace Go.Proofs.YtoacojkmclngmaaGreatDoor.Pz
open Go.RowKit Go.Proofs.YtoacojkmclngmaaGreatDoorW.PrintWords Go.Proofs.YtoacojkmclngmaaGreatDoorW.PrintLast Go.Proofs.YtoacojkmclngmaaGreatDoorW.PrintMore
attribute [local go_sem] max2_int min2_int max_two min_two max_three min_three max_four min_four   -- for this text's walks alone
attribute [local go_sem] rune_str
set_option linter.unusedVariables false
set_option linter.unusedSimpArgs false
def figV (c : Int) : Int := if c ≤ 57 then c - 48 else if c ≤ 90 then c - 55 else c - 87
def numFrom (base most : Int) : Int → List UInt8 → Option Int
  | n, [] => some n
  | n, c :: l => if isDigit (c.toNat : Int) = true ∨ base = 16 ∧ isHex (c.toNat : Int) = true then numFrom base most (min (n * base + figV (c.toNat : Int)) most) l else none
def numberV (base most : Int) (l : List UInt8) : Int × Bool := if l = [] then (0, false) else match numFrom base most 0 l with
  | some n => (n, true)
  | none => (0, false)
def class_Number.f (a0 : ByteArray) (a1 a2 : Int) : Option (Int × Bool) :=
  if a0.size ≤ 140737488355328 ∧ (a1 = 10 ∨ a1 = 16) ∧ 0 ≤ a2 ∧ a2 ≤ 1125899906842624 then some (numberV a1 a2 a0.data.toList) else none
theorem numFrom_cons (base most n : Int) (l : List UInt8) (k : Nat) (h : k < l.length) : numFrom base most n (l.drop k) =
    if isDigit (l[k].toNat : Int) = true ∨ base = 16 ∧ isHex (l[k].toNat : Int) = true then numFrom base most (min (n * base + figV (l[k].toNat : Int)) most) (l.drop (k + 1)) else none := by
  rw [List.drop_eq_getElem_cons h]; rfl
theorem hexfig_bits (c : Int) (h0 : 0 ≤ c) (h1 : c ≤ 255) (hd : isDigit c = false) (hx : isHex c = true) : IntKind.u8.wrap (bits BinOp.or IntKind.u8 c 32 - 97) + 10 = figV c ∧ IntKind.u8.wrap (bits BinOp.or IntKind.u8 c 32 - 97) ≤ 5 ∧ 0 ≤ IntKind.u8.wrap (bits BinOp.or IntKind.u8 c 32 - 97) := by
  have h : ∀ n : Fin 256, isDigit (n.val : Int) = false → isHex (n.val : Int) = true → IntKind.u8.wrap (bits BinOp.or IntKind.u8 (n.val : Int) 32 - 97) + 10 = figV (n.val : Int) ∧ IntKind.u8.wrap (bits BinOp.or IntKind.u8 (n.val : Int) 32 - 97) ≤ 5 ∧ 0 ≤ IntKind.u8.wrap (bits BinOp.or IntKind.u8 (n.val : Int) 32 - 97) := by decide +kernel
  have := h ⟨c.toNat, by omega⟩
  simp only [Int.toNat_of_nonneg h0] at this
  exact this hd hx
theorem isDigit_bd {c : Int} (h : isDigit c = true) : 48 ≤ c ∧ c ≤ 57 := by simpa [isDigit] using h
set_option maxHeartbeats 4000000 in
theorem Number_10 (most : Int) (h0 : 0 ≤ most) (hm : most ≤ 1125899906842624) (a0 : ByteArray) (hne : a0.toList.isEmpty = false) (hsz : a0.size ≤ 140737488355328) (w : World) (res : Option Int) (hres : Aside0 (res = numFrom 10 most 0 a0.data.toList)) :
    Calls Tryz.prog 86 #[.string a0, .int .i64 10, .int .i64 most] w fun e w' => e = .returned (.tuple #[.int .i64 (res.getD 0), .bool res.isSome]) ∧ Below w.heap.size w w' := by
  have hconv := fun W => Lib.run_convert_string_bytes (P := Tryz.prog) W 9 58 5 a0 Tryz.underlying9 Tryz.underlying58 Tryz.underlying5
  have HL : Aside0 (a0.data.toList.length = a0.size) := ⟨by rw [Array.length_toList]; rfl⟩
  have hm0 : ¬ most < 0 := by omega
  have hm1 : ¬ 1125899906842624 < most := by omega
  go_enter Tryz.func86, Tryz.ntmps86
  go_wp2
  have HR := Aside0.mk (BRow.conv w a0)
  have HB := Aside0.mk (bytes_below (Below.refl w.heap.size w) (Nat.le_refl _) 5 a0)
  clear hconv
  generalize Lib.bytesWorld w 5 a0 = w1 at HR HB ⊢
  generalize grownCap w a0.size 0 5 = cap
  go_loopw [8, 30] (fun v i wr => ∃ (k : Nat) (n : Int), k ≤ a0.size ∧ i = .int .i64 k ∧ v = .int .i64 n ∧ 0 ≤ n ∧ n ≤ most ∧ Aside0 (numFrom 10 most n (a0.data.toList.drop k) = res) ∧ Aside0 (BRow wr w.heap.size a0.data.toList) ∧ Aside0 (Below w.heap.size w wr)) (fun _ i _ => a0.size - (intOf i).toNat)
  case atStart => exact ⟨0, 0, Nat.zero_le _, rfl, rfl, by omega, h0, ⟨by rw [hres.out, List.drop_zero]⟩, HR, HB⟩
  case round =>
    obtain ⟨k, n, hk, rfl, rfl, hn0, hn1, hr, hrow, hb⟩ := hrel
    by_cases hlt : k < a0.size
    · have hkl : k < a0.data.toList.length := by rw [HL.out]; exact hlt
      obtain ⟨c, hc⟩ : ∃ c, c = a0.data.toList[k] := ⟨_, rfl⟩
      have hcell : wr.cell? ⟨w.heap.size, k, none⟩ = some (.int .u8 c.toNat) := by rw [hrow.out.cell hkl, hc]
      have hstep := Aside0.mk (numFrom_cons 10 most n a0.data.toList k hkl)
      rw [← hc] at hstep
      clear hc
      have hc0 : (0 : Int) ≤ (c.toNat : Int) := by omega
      have hc1 : (c.toNat : Int) ≤ 255 := by have := c.toNat_lt; omega
      cases hd : isDigit (c.toNat : Int)
      · have hd1 := Aside0.mk hd
        go_wp2_with (first | (go_at_call 41; refine (Digit_same _ _).mono ?_; rintro e w2 ⟨rfl, rfl⟩))
        have hnone : res = none := by
          rw [← hr.out, hstep.out, if_neg]
          simp [hd1.out]
        go_ret2
        exact ⟨by rw [hnone]; rfl, hb.out⟩
      · have hd1 := Aside0.mk hd
        obtain ⟨hd2, hd3⟩ := isDigit_bd hd
        go_wp2_with (first | (go_at_call 41; refine (Digit_same _ _).mono ?_; rintro e w2 ⟨rfl, rfl⟩))
        all_goals
          go_roundw
          case rel =>
            refine ⟨k + 1, min (n * 10 + (c.toNat - 48)) most, by omega, by go_num, ?_, by omega, by omega, ⟨?_⟩, hrow, hb⟩
            · congr 1 <;> omega
            · rw [← hr.out, hstep.out, if_pos (.inl hd1.out)]
              congr 1
              unfold figV
              rw [if_pos hd3]
          case measure => simp [intOf]; omega
    · have hdone : res = some n := by
        rw [← hr.out, List.drop_eq_nil_of_le (by rw [HL.out]; omega)]; rfl
      have hkey : Aside0 (res.getD 0 = n ∧ res.isSome = true) := ⟨by rw [hdone]; exact ⟨rfl, rfl⟩⟩
      clear hdone
      go_wp2
      go_ret2
      exact ⟨by rw [hkey.out.1, hkey.out.2]; rfl, hb.out⟩
set_option maxHeartbeats 4000000 in
theorem Number_16 (most : Int) (h0 : 0 ≤ most) (hm : most ≤ 1125899906842624) (a0 : ByteArray) (hne : a0.toList.isEmpty = false) (hsz : a0.size ≤ 140737488355328) (w : World) (res : Option Int) (hres : Aside0 (res = numFrom 16 most 0 a0.data.toList)) :
    Calls Tryz.prog 86 #[.string a0, .int .i64 16, .int .i64 most] w fun e w' => e = .returned (.tuple #[.int .i64 (res.getD 0), .bool res.isSome]) ∧ Below w.heap.size w w' := by
  have hconv := fun W => Lib.run_convert_string_bytes (P := Tryz.prog) W 9 58 5 a0 Tryz.underlying9 Tryz.underlying58 Tryz.underlying5
  have HL : Aside0 (a0.data.toList.length = a0.size) := ⟨by rw [Array.length_toList]; rfl⟩
  have hm0 : ¬ most < 0 := by omega
  have hm1 : ¬ 1125899906842624 < most := by omega
  go_enter Tryz.func86, Tryz.ntmps86
  go_wp2
  have HR := Aside0.mk (BRow.conv w a0)
  have HB := Aside0.mk (bytes_below (Below.refl w.heap.size w) (Nat.le_refl _) 5 a0)
  clear hconv
  generalize Lib.bytesWorld w 5 a0 = w1 at HR HB ⊢
  generalize grownCap w a0.size 0 5 = cap
  go_loopw [8, 30] (fun v i wr => ∃ (k : Nat) (n : Int), k ≤ a0.size ∧ i = .int .i64 k ∧ v = .int .i64 n ∧ 0 ≤ n ∧ n ≤ most ∧ Aside0 (numFrom 16 most n (a0.data.toList.drop k) = res) ∧ Aside0 (BRow wr w.heap.size a0.data.toList) ∧ Aside0 (Below w.heap.size w wr)) (fun _ i _ => a0.size - (intOf i).toNat)
  case atStart => exact ⟨0, 0, Nat.zero_le _, rfl, rfl, by omega, h0, ⟨by rw [hres.out, List.drop_zero]⟩, HR, HB⟩
  case round =>
    obtain ⟨k, n, hk, rfl, rfl, hn0, hn1, hr, hrow, hb⟩ := hrel
    by_cases hlt : k < a0.size
    · have hkl : k < a0.data.toList.length := by rw [HL.out]; exact hlt
      obtain ⟨c, hc⟩ : ∃ c, c = a0.data.toList[k] := ⟨_, rfl⟩
      have hcell : wr.cell? ⟨w.heap.size, k, none⟩ = some (.int .u8 c.toNat) := by rw [hrow.out.cell hkl, hc]
      have hstep := Aside0.mk (numFrom_cons 16 most n a0.data.toList k hkl)
      rw [← hc] at hstep
      clear hc
      have hc0 : (0 : Int) ≤ (c.toNat : Int) := by omega
      have hc1 : (c.toNat : Int) ≤ 255 := by have := c.toNat_lt; omega
      cases hd : isDigit (c.toNat : Int)
      · have hd1 := Aside0.mk hd
        cases hx : isHex (c.toNat : Int)
        · have hx1 := Aside0.mk hx
          go_wp2_with (first | (go_at_call 41; refine (Digit_same _ _).mono ?_; rintro e w2 ⟨rfl, rfl⟩) | (go_at_call 85; refine (Hex_same _ hc0 hc1 _).mono ?_; rintro e w2 ⟨rfl, rfl⟩))
          have hnone : res = none := by
            rw [← hr.out, hstep.out, if_neg]
            simp [hd1.out, hx1.out]
          go_ret2
          exact ⟨by rw [hnone]; rfl, hb.out⟩
        · have hx1 := Aside0.mk hx
          obtain ⟨hv, hv1, hv2⟩ := hexfig_bits (c.toNat : Int) hc0 hc1 hd hx
          obtain ⟨f, hf⟩ : ∃ f, f = IntKind.u8.wrap (bits BinOp.or IntKind.u8 (c.toNat : Int) 32 - 97) := ⟨_, rfl⟩
          rw [← hf] at hv hv1 hv2
          have HV := Aside0.mk hv
          have hf' := hf.symm
          clear hf hv
          go_wp2_with (first | (go_at_call 41; refine (Digit_same _ _).mono ?_; rintro e w2 ⟨rfl, rfl⟩) | (go_at_call 85; refine (Hex_same _ hc0 hc1 _).mono ?_; rintro e w2 ⟨rfl, rfl⟩))
          all_goals
            go_roundw
            case rel =>
              refine ⟨k + 1, min (n * 16 + f + 10) most, by omega, by go_num, ?_, by omega, by omega, ⟨?_⟩, hrow, hb⟩
              · congr 1 <;> omega
              · rw [← hr.out, hstep.out, if_pos (Or.inr (And.intro trivial hx1.out)), ← HV.out]
                congr 1
                omega
            case measure => simp [intOf]; omega
      · have hd1 := Aside0.mk hd
        obtain ⟨hd2, hd3⟩ := isDigit_bd hd
        go_wp2_with (first | (go_at_call 41; refine (Digit_same _ _).mono ?_; rintro e w2 ⟨rfl, rfl⟩))
        all_goals
          go_roundw
          case rel =>
            refine ⟨k + 1, min (n * 16 + (c.toNat - 48)) most, by omega, by go_num, ?_, by omega, by omega, ⟨?_⟩, hrow, hb⟩
            · congr 1 <;> omega
            · rw [← hr.out, hstep.out, if_pos (.inl hd1.out)]
              congr 1
              unfold figV
              rw [if_pos hd3]
          case measure => simp [intOf]; omega
    · have hdone : res = some n := by
        rw [← hr.out, List.drop_eq_nil_of_le (by rw [HL.out]; omega)]; rfl
      have hkey : Aside0 (res.getD 0 = n ∧ res.isSome = true) := ⟨by rw [hdone]; exact ⟨rfl, rfl⟩⟩
      clear hdone
      go_wp2
      go_ret2
      exact ⟨by rw [hkey.out.1, hkey.out.2]; rfl, hb.out⟩
theorem class_Number.calls (a0 : ByteArray) (a1 : Int) (a2 : Int) (r1 : Int) (r2 : Bool) (w : World) (h : class_Number.f a0 a1 a2 = some (r1, r2)) :
    Calls Tryz.prog 86 #[.string a0, .int .i64 a1, .int .i64 a2] w fun e w' => e = .returned (.tuple #[.int .i64 r1, .bool r2]) ∧ Below w.heap.size w w' := by
  unfold class_Number.f at h
  split at h
  case isFalse => cases h
  rename_i hs
  obtain ⟨hs, hb, h0, hm⟩ := hs
  have h := Option.some.inj h
  by_cases hnil : a0.data.toList = []
  · rw [numberV, if_pos hnil] at h
    simp only [Prod.mk.injEq] at h
    obtain ⟨rfl, rfl⟩ := h
    have hem : a0.toList.isEmpty = true := by rw [Lib.toList_data, hnil]; rfl
    have hm0 : ¬ a2 < 0 := by omega
    have hm1 : ¬ 1125899906842624 < a2 := by omega
    go_enter Tryz.func86, Tryz.ntmps86
    go_wp2
    go_ret2
    exact ⟨rfl, Below.refl _ _⟩
  · rw [numberV, if_neg hnil] at h
    have hem : a0.toList.isEmpty = false := by
      rw [Lib.toList_data]
      cases hx : a0.data.toList with
      | nil => exact absurd hx hnil
      | cons x xs => rfl
    obtain ⟨res, hres⟩ : ∃ res, res = numFrom a1 a2 0 a0.data.toList := ⟨_, rfl⟩
    rw [← hres] at h
    have hr : r1 = res.getD 0 ∧ r2 = res.isSome := by
      cases res with
      | none => simp at h; exact ⟨h.1.symm, h.2⟩
      | some n => simp at h; exact ⟨h.1.symm, h.2⟩
    obtain ⟨rfl, rfl⟩ := hr
    rcases hb with rfl | rfl
    · exact Number_10 a2 h0 hm a0 hem hs w res ⟨hres⟩
    · exact Number_16 a2 h0 hm a0 hem hs w res ⟨hres⟩
end Go.Proofs.YtoacojkmclngmaaGreatDoor.Pz
namespace Go.Proofs.YtoacojkmclngmaaGreatDoor.Pz
open Go.RowKit Go.Proofs.YtoacojkmclngmaaGreatDoorW.PrintWords Go.Proofs.YtoacojkmclngmaaGreatDoorW.PrintLast Go.Proofs.YtoacojkmclngmaaGreatDoorW.PrintMore
attribute [local go_sem] max2_int min2_int max_two min_two max_three min_three max_four min_four   -- for this text's walks alone
attribute [local go_sem] rune_str
set_option linter.unusedVariables false
set_option linter.unusedSimpArgs false
def fig (base c : Int) : Bool := isDigit c || decide (base = 16) && isHex c
theorem fig_closure (base c : Int) (hb : base = 10 ∨ base = 16) (h0 : 0 ≤ c) (h1 : c ≤ 255) (b : Nat) (w : World) (hc : w.cell? ⟨b, 0, none⟩ = some (.int .i64 base)) :
    Calls Tryz.prog 84 #[.int .u8 c, .pointer (some ⟨b, 0, none⟩)] w fun e w' => e = .returned (.bool (fig base c)) ∧ w = w' := by
  cases hd : isDigit c
  · rcases hb with rfl | rfl
    · go_enter Tryz.func84, Tryz.ntmps84
      go_wp2_with (first | (go_at_call 41; refine (Digit_same _ _).mono ?_; rintro e w2 ⟨rfl, rfl⟩) | (go_at_call 85; refine (Hex_same _ h0 h1 _).mono ?_; rintro e w2 ⟨rfl, rfl⟩))
      go_ret
      exact ⟨by simp [fig, hd], rfl⟩
    · go_enter Tryz.func84, Tryz.ntmps84
      go_wp2_with (first | (go_at_call 41; refine (Digit_same _ _).mono ?_; rintro e w2 ⟨rfl, rfl⟩) | (go_at_call 85; refine (Hex_same _ h0 h1 _).mono ?_; rintro e w2 ⟨rfl, rfl⟩))
      go_ret
      exact ⟨by simp [fig, hd], rfl⟩
  · go_enter Tryz.func84, Tryz.ntmps84
    go_wp2_with (first | (go_at_call 41; refine (Digit_same _ _).mono ?_; rintro e w2 ⟨rfl, rfl⟩) | (go_at_call 85; refine (Hex_same _ h0 h1 _).mono ?_; rintro e w2 ⟨rfl, rfl⟩))
    go_ret
    exact ⟨by simp [fig, hd], rfl⟩
def isX (l : List UInt8) : Bool := match l.drop 2 with
  | c :: _ => decide (c.toNat = 120) || decide (c.toNat = 88)
  | [] => false
def numericV (l : List UInt8) : ByteArray × Int :=
  let base : Int := if isX l = true then 16 else 10
  let i : Nat := if isX l = true then 3 else 2
  let ds := (l.drop i).takeWhile fun c => fig base (c.toNat : Int)
  let j := i + ds.length
  if (numberV base 1114112 ds).2 = true then (Utf8.encode (codedV (numberV base 1114112 ds).1), if (l.drop j).head? = some 59 then (j : Int) + 1 else j) else (⟨#[]⟩, 0)
def charref_numeric.f (a0 : ByteArray) : Option (ByteArray × Int) := if 2 ≤ a0.size ∧ a0.size ≤ 140737488355328 then some (numericV a0.data.toList) else none
theorem x_bits (c : UInt8) : (bits BinOp.or IntKind.u8 (c.toNat : Int) 32 == 120) = (decide (c.toNat = 120) || decide (c.toNat = 88)) := by
  have h : ∀ n : Fin 256, (bits BinOp.or IntKind.u8 ((UInt8.ofNat n.val).toNat : Int) 32 == 120) = (decide ((UInt8.ofNat n.val).toNat = 120) || decide ((UInt8.ofNat n.val).toNat = 88)) := by decide +kernel
  have := h ⟨c.toNat, c.toNat_lt⟩
  simpa using this
theorem takeWhile_at {α : Type} (p : α → Bool) : ∀ (l : List α) (j : Nat) (h : j < l.length), j < (l.takeWhile p).length → p l[j] = true
  | [], j, h, _ => absurd h (by simp)
  | x :: l, 0, _, h1 => by
    by_cases hx : p x = true
    · exact hx
    · simp [List.takeWhile_cons, hx] at h1
  | x :: l, j + 1, h, h1 => by
    by_cases hx : p x = true
    · simp [List.takeWhile_cons, hx] at h1
      exact takeWhile_at p l j (by simpa using h) h1
    · simp [List.takeWhile_cons, hx] at h1
theorem takeWhile_end {α : Type} (p : α → Bool) : ∀ (l : List α) (h : (l.takeWhile p).length < l.length), p (l[(l.takeWhile p).length]) = false
  | [], h => absurd h (by simp)
  | x :: l, h => by
    by_cases hx : p x = true
    · simp only [List.takeWhile_cons, hx, if_true, List.length_cons, List.getElem_cons_succ]
      exact takeWhile_end p l (by simpa [List.takeWhile_cons, hx] using h)
    · simp [List.takeWhile_cons, hx]
theorem takeWhile_le {α : Type} (p : α → Bool) (l : List α) : (l.takeWhile p).length ≤ l.length := (List.takeWhile_prefix p).length_le
theorem takeWhile_take {α : Type} (p : α → Bool) (l : List α) : l.takeWhile p = l.take (l.takeWhile p).length := (List.prefix_iff_eq_take.1 (List.takeWhile_prefix p))
theorem byte_at (a0 : ByteArray) (k : Nat) (h : k < a0.size) (h2 : k < a0.data.toList.length) : a0[k]'h = a0.data.toList[k] := rfl
def figsFrom (base : Int) (l : List UInt8) (i : Nat) : List UInt8 := (l.drop i).takeWhile fun c => fig base (c.toNat : Int)
theorem figs_in (base : Int) (l : List UInt8) (i k : Nat) (hk : k < l.length) (hi : i ≤ k) (h : k < i + (figsFrom base l i).length) : fig base (l[k].toNat : Int) = true := by
  have := takeWhile_at (fun c : UInt8 => fig base (c.toNat : Int)) (l.drop i) (k - i) (by simp; omega) (by unfold figsFrom at h; omega)
  simpa [List.getElem_drop, show i + (k - i) = k by omega] using this
theorem figs_end (base : Int) (l : List UInt8) (i : Nat) (hk : i + (figsFrom base l i).length < l.length) : fig base (l[i + (figsFrom base l i).length].toNat : Int) = false := by
  have := takeWhile_end (fun c : UInt8 => fig base (c.toNat : Int)) (l.drop i) (by unfold figsFrom at hk; simp; omega)
  simpa [List.getElem_drop, figsFrom] using this
theorem figs_le (base : Int) (l : List UInt8) (i : Nat) (h : i ≤ l.length) : i + (figsFrom base l i).length ≤ l.length := by
  have := takeWhile_le (fun c : UInt8 => fig base (c.toNat : Int)) (l.drop i)
  rw [List.length_drop] at this
  unfold figsFrom
  omega
theorem figs_take (base : Int) (l : List UInt8) (i : Nat) : figsFrom base l i = (l.drop i).take (figsFrom base l i).length := takeWhile_take _ _
theorem extract_list (a : ByteArray) (i j : Nat) : (a.extract i j).data.toList = (a.data.toList.drop i).take (j - i) := by
  simp [ByteArray.data_extract]
theorem semi_head (a0 : ByteArray) (k : Nat) : Lib.hasPrefix (a0.extract k a0.size).data.toList [59] = decide ((a0.data.toList.drop k).head? = some 59) := by
  rw [extract_list, List.take_of_length_le (by rw [List.length_drop, Array.length_toList]; exact Nat.le_refl _)]
  unfold Lib.hasPrefix
  cases h : a0.data.toList.drop k with
  | nil => simp [List.isPrefixOf]
  | cons x xs =>
    simp only [List.isPrefixOf, Bool.and_true, List.head?_cons, Option.some.injEq]
    rw [Bool.eq_iff_iff]
    simp only [beq_iff_eq, decide_eq_true_eq]
    exact eq_comm
theorem numericV_x (l : List UInt8) (hx : isX l = true) : numericV l = if (numberV 16 1114112 (figsFrom 16 l 3)).2 = true then (Utf8.encode (codedV (numberV 16 1114112 (figsFrom 16 l 3)).1), if (l.drop (3 + (figsFrom 16 l 3).length)).head? = some 59 then ((3 + (figsFrom 16 l 3).length : Nat) : Int) + 1 else ((3 + (figsFrom 16 l 3).length : Nat) : Int)) else (⟨#[]⟩, 0) := by
  unfold numericV figsFrom
  simp only [hx, if_true]
theorem numericV_d (l : List UInt8) (hx : isX l = false) : numericV l = if (numberV 10 1114112 (figsFrom 10 l 2)).2 = true then (Utf8.encode (codedV (numberV 10 1114112 (figsFrom 10 l 2)).1), if (l.drop (2 + (figsFrom 10 l 2).length)).head? = some 59 then ((2 + (figsFrom 10 l 2).length : Nat) : Int) + 1 else ((2 + (figsFrom 10 l 2).length : Nat) : Int)) else (⟨#[]⟩, 0) := by
  unfold numericV figsFrom
  simp only [hx, Bool.false_eq_true, if_false]
set_option maxHeartbeats 4000000 in
set_option maxRecDepth 100000 in
theorem numeric_dec (a0 : ByteArray) (w : World) (hG : Glob w) (h2 : 2 ≤ a0.size) (hsz : a0.size ≤ 140737488355328) (hx : isX a0.data.toList = false) (h3 : 2 < a0.size) :
    Calls Tryz.prog 64 #[.string a0] w fun e w' => e = .returned (.tuple #[.string (numericV a0.data.toList).1, .int .i64 (numericV a0.data.toList).2]) ∧ Below w.heap.size w w' := by
  have HL : Aside0 (a0.data.toList.length = a0.size) := ⟨by rw [Array.length_toList]; rfl⟩
  have hd3 : a0.data.toList.drop 2 = a0[2] :: a0.data.toList.drop 3 := by
    rw [List.drop_eq_getElem_cons (by rw [HL.out]; exact h3)]; rfl
  have hxb : (bits BinOp.or IntKind.u8 ((a0[2]'h3).toNat : Int) 32 == 120) = false := by
    rw [x_bits]
    simpa [isX, hd3] using hx
  clear hd3
  have HX := Aside0.mk hx
  clear hx
  have HG0 := Aside0.mk hG
  clear hG
  go_enter Tryz.func64, Tryz.ntmps64
  go_wp2
  have hcb : (w.alloc (Obj.cells #[Value.int IntKind.i64 10] 3)).cell? ⟨w.heap.size, 0, none⟩ = some (.int .i64 10) := by go_simp
  have hB : Below w.heap.size w (w.alloc (Obj.cells #[Value.int IntKind.i64 10] 3)) := (Below.refl _ _).alloc (Nat.le_refl _) _
  generalize w.alloc (Obj.cells #[Value.int IntKind.i64 10] 3) = wA at hcb hB ⊢
  obtain ⟨n, hn⟩ : ∃ n, n = 2 + (figsFrom 10 a0.data.toList 2).length := ⟨_, rfl⟩
  have hnle : n ≤ a0.size := by
    rw [hn, ← HL.out]; exact figs_le _ _ _ (by rw [HL.out]; omega)
  have HN := Aside0.mk hn
  have hin : 2 ≤ n := by omega
  clear hn
  have HBB := Aside0.mk hB
  clear hB
  go_loop [5] (fun v => ∃ k : Nat, 2 ≤ k ∧ k ≤ n ∧ v = .int .i64 k) (fun v => n - (intOf v).toNat)
  case atStart => exact ⟨2, Nat.le_refl _, hin, rfl⟩
  case round =>
    obtain ⟨k, hk0, hk1, rfl⟩ := hrel
    by_cases hlt : k < n
    · have hks : k < a0.size := by omega
      obtain ⟨c, hc⟩ : ∃ c, c = a0[k]'hks := ⟨_, rfl⟩
      have hfig : fig 10 (c.toNat : Int) = true := by
        rw [hc, byte_at a0 k hks (by rw [HL.out]; exact hks)]
        exact figs_in _ _ 2 k _ hk0 (by rw [← HN.out]; exact hlt)
      have hc0 : (0 : Int) ≤ ((a0[k]'hks).toNat : Int) := by omega
      have hc1 : ((a0[k]'hks).toNat : Int) ≤ 255 := by have := (a0[k]'hks).toNat_lt; omega
      rw [hc] at hfig
      clear hc
      go_wp2_with (go_at_call 84; refine (fig_closure 10 _ (by omega) hc0 hc1 _ _ hcb).mono ?_; rintro e w2 ⟨rfl, rfl⟩)
      go_round
      case rel => exact ⟨k + 1, by omega, by omega, by go_num⟩
      case measure => simp [intOf]; omega
    · obtain rfl : k = n := by omega
      by_cases hend : k < a0.size
      · obtain ⟨c, hc⟩ : ∃ c, c = a0[k]'hend := ⟨_, rfl⟩
        have hfig : fig 10 (c.toNat : Int) = false := by
          have hk2 : k < a0.data.toList.length := by rw [HL.out]; exact hend
          rw [hc, byte_at a0 k hend hk2]
          have := figs_end 10 a0.data.toList 2 (by rw [← HN.out]; exact hk2)
          simpa only [← HN.out] using this
        have hc0 : (0 : Int) ≤ ((a0[k]'hend).toNat : Int) := by omega
        have hc1 : ((a0[k]'hend).toNat : Int) ≤ 255 := by have := (a0[k]'hend).toNat_lt; omega
        rw [hc] at hfig
        clear hc
        go_wp2_with (go_at_call 84; refine (fig_closure 10 _ (by omega) hc0 hc1 _ _ hcb).mono ?_; rintro e w2 ⟨rfl, rfl⟩)
        have hk0' : (2 : Int) ≤ (k : Int) := by omega
        have hk1' : (k : Int) ≤ (a0.size : Int) := by omega
        obtain ⟨v1, v2, hv⟩ : ∃ v1 v2, (v1, v2) = numberV 10 1114112 (figsFrom 10 a0.data.toList 2) := ⟨_, _, rfl⟩
        have hnum : class_Number.f (a0.extract 2 k) 10 1114112 = some (v1, v2) := by
          unfold class_Number.f
          rw [if_pos ⟨by rw [ByteArray.size_extract]; omega, by omega, by omega, by omega⟩, hv, extract_list]
          congr 2
          rw [figs_take]
          congr 1
          have := HN.out
          omega
        have hsemi : Lib.hasPrefix (a0.extract k a0.size).data.toList [59] = decide ((a0.data.toList.drop k).head? = some 59) := semi_head a0 k
        have hval : numericV a0.data.toList = if v2 = true then (Utf8.encode (codedV v1), if decide ((a0.data.toList.drop k).head? = some 59) = true then (k : Int) + 1 else (k : Int)) else (⟨#[]⟩, 0) := by
          rw [numericV_d _ HX.out, ← hv, ← HN.out]
          simp only [decide_eq_true_eq]
        generalize decide ((a0.data.toList.drop k).head? = some 59) = sm at hsemi hval
        have hpx : ∀ W : World, Calls Tryz.prog 63 #[.string (a0.extract k a0.size), .string ⟨#[59]⟩] W fun e w' => e = .returned (.bool sm) ∧ w' = W := fun W => (Tryz.strings_HasPrefix _ _ _).mono fun e w' ⟨he, hw⟩ => ⟨by rw [he, ← hsemi], hw⟩
        have HVAL := Aside0.mk hval
        clear hv hval hsemi
        go_region_held3 (fun w' => w'.cell? ⟨w.heap.size, 0, none⟩ = some (.int .i64 10) ∧ Aside0 (Below w.heap.size w w')) (first | exact ⟨hcb, ⟨HBB.out.drew⟩⟩ | (go_split_ands; refine ⟨pw_cell_below hbn (by assumption), ⟨below_step (Aside0.out (by assumption)) hbn⟩⟩)) (first | (go_at_call 86; refine (class_Number.calls _ _ _ v1 v2 _ hnum).mono ?_; rintro e w2 ⟨rfl, hbn⟩))
        go_split_ands
        cases v2
        · go_wp2
          go_ret2
          exact ⟨by rw [HVAL.out]; rfl, Aside0.out (by assumption)⟩
        · cases sm
          · have htok : True := trivial
            go_wp2_with (first | (go_at_call 63; refine (hpx _).mono ?_; rintro e w3 ⟨rfl, rfl⟩) | (go_at_call 87; refine (Coded_same _ _ (HG0.out.below (Aside0.out (by assumption)))).mono ?_; rintro e w4 ⟨rfl, m4, rfl⟩))
            go_ret2
            exact ⟨by rw [HVAL.out]; rfl, pw_below_drewN (Aside0.out (by assumption)) _⟩
          · have htok : True := trivial
            go_wp2_with (first | (go_at_call 63; refine (hpx _).mono ?_; rintro e w3 ⟨rfl, rfl⟩) | (go_at_call 87; refine (Coded_same _ _ (HG0.out.below (Aside0.out (by assumption)))).mono ?_; rintro e w4 ⟨rfl, m4, rfl⟩))
            go_ret2
            exact ⟨by rw [HVAL.out]; rfl, pw_below_drewN (Aside0.out (by assumption)) _⟩
      · go_wp2_with (fail)
        have hk0' : (2 : Int) ≤ (k : Int) := by omega
        have hk1' : (k : Int) ≤ (a0.size : Int) := by omega
        obtain ⟨v1, v2, hv⟩ : ∃ v1 v2, (v1, v2) = numberV 10 1114112 (figsFrom 10 a0.data.toList 2) := ⟨_, _, rfl⟩
        have hnum : class_Number.f (a0.extract 2 k) 10 1114112 = some (v1, v2) := by
          unfold class_Number.f
          rw [if_pos ⟨by rw [ByteArray.size_extract]; omega, by omega, by omega, by omega⟩, hv, extract_list]
          congr 2
          rw [figs_take]
          congr 1
          have := HN.out
          omega
        have hsemi : Lib.hasPrefix (a0.extract k a0.size).data.toList [59] = decide ((a0.data.toList.drop k).head? = some 59) := semi_head a0 k
        have hval : numericV a0.data.toList = if v2 = true then (Utf8.encode (codedV v1), if decide ((a0.data.toList.drop k).head? = some 59) = true then (k : Int) + 1 else (k : Int)) else (⟨#[]⟩, 0) := by
          rw [numericV_d _ HX.out, ← hv, ← HN.out]
          simp only [decide_eq_true_eq]
        generalize decide ((a0.data.toList.drop k).head? = some 59) = sm at hsemi hval
        have hpx : ∀ W : World, Calls Tryz.prog 63 #[.string (a0.extract k a0.size), .string ⟨#[59]⟩] W fun e w' => e = .returned (.bool sm) ∧ w' = W := fun W => (Tryz.strings_HasPrefix _ _ _).mono fun e w' ⟨he, hw⟩ => ⟨by rw [he, ← hsemi], hw⟩
        have HVAL := Aside0.mk hval
        clear hv hval hsemi
        go_region_held3 (fun w' => w'.cell? ⟨w.heap.size, 0, none⟩ = some (.int .i64 10) ∧ Aside0 (Below w.heap.size w w')) (first | exact ⟨hcb, ⟨HBB.out.drew⟩⟩ | (go_split_ands; refine ⟨pw_cell_below hbn (by assumption), ⟨below_step (Aside0.out (by assumption)) hbn⟩⟩)) (first | (go_at_call 86; refine (class_Number.calls _ _ _ v1 v2 _ hnum).mono ?_; rintro e w2 ⟨rfl, hbn⟩))
        go_split_ands
        cases v2
        · go_wp2
          go_ret2
          exact ⟨by rw [HVAL.out]; rfl, Aside0.out (by assumption)⟩
        · cases sm
          · have htok : True := trivial
            go_wp2_with (first | (go_at_call 63; refine (hpx _).mono ?_; rintro e w3 ⟨rfl, rfl⟩) | (go_at_call 87; refine (Coded_same _ _ (HG0.out.below (Aside0.out (by assumption)))).mono ?_; rintro e w4 ⟨rfl, m4, rfl⟩))
            go_ret2
            exact ⟨by rw [HVAL.out]; rfl, pw_below_drewN (Aside0.out (by assumption)) _⟩
          · have htok : True := trivial
            go_wp2_with (first | (go_at_call 63; refine (hpx _).mono ?_; rintro e w3 ⟨rfl, rfl⟩) | (go_at_call 87; refine (Coded_same _ _ (HG0.out.below (Aside0.out (by assumption)))).mono ?_; rintro e w4 ⟨rfl, m4, rfl⟩))
            go_ret2
            exact ⟨by rw [HVAL.out]; rfl, pw_below_drewN (Aside0.out (by assumption)) _⟩
set_option maxHeartbeats 4000000 in
set_option maxRecDepth 100000 in
theorem numeric_short (a0 : ByteArray) (w : World) (hG : Glob w) (h2 : 2 ≤ a0.size) (hsz : a0.size ≤ 140737488355328) (hx : isX a0.data.toList = false) (h3 : ¬ 2 < a0.size) :
    Calls Tryz.prog 64 #[.string a0] w fun e w' => e = .returned (.tuple #[.string (numericV a0.data.toList).1, .int .i64 (numericV a0.data.toList).2]) ∧ Below w.heap.size w w' := by
  have HL : Aside0 (a0.data.toList.length = a0.size) := ⟨by rw [Array.length_toList]; rfl⟩
  have HX := Aside0.mk hx
  clear hx
  have HG0 := Aside0.mk hG
  clear hG
  go_enter Tryz.func64, Tryz.ntmps64
  go_wp2
  have hcb : (w.alloc (Obj.cells #[Value.int IntKind.i64 10] 3)).cell? ⟨w.heap.size, 0, none⟩ = some (.int .i64 10) := by go_simp
  have hB : Below w.heap.size w (w.alloc (Obj.cells #[Value.int IntKind.i64 10] 3)) := (Below.refl _ _).alloc (Nat.le_refl _) _
  generalize w.alloc (Obj.cells #[Value.int IntKind.i64 10] 3) = wA at hcb hB ⊢
  obtain ⟨n, hn⟩ : ∃ n, n = 2 + (figsFrom 10 a0.data.toList 2).length := ⟨_, rfl⟩
  have hnle : n ≤ a0.size := by
    rw [hn, ← HL.out]; exact figs_le _ _ _ (by rw [HL.out]; omega)
  have HN := Aside0.mk hn
  have hin : 2 ≤ n := by omega
  clear hn
  have HBB := Aside0.mk hB
  clear hB
  go_loop [5] (fun v => ∃ k : Nat, 2 ≤ k ∧ k ≤ n ∧ v = .int .i64 k) (fun v => n - (intOf v).toNat)
  case atStart => exact ⟨2, Nat.le_refl _, hin, rfl⟩
  case round =>
    obtain ⟨k, hk0, hk1, rfl⟩ := hrel
    by_cases hlt : k < n
    · have hks : k < a0.size := by omega
      obtain ⟨c, hc⟩ : ∃ c, c = a0[k]'hks := ⟨_, rfl⟩
      have hfig : fig 10 (c.toNat : Int) = true := by
        rw [hc, byte_at a0 k hks (by rw [HL.out]; exact hks)]
        exact figs_in _ _ 2 k _ hk0 (by rw [← HN.out]; exact hlt)
      have hc0 : (0 : Int) ≤ ((a0[k]'hks).toNat : Int) := by omega
      have hc1 : ((a0[k]'hks).toNat : Int) ≤ 255 := by have := (a0[k]'hks).toNat_lt; omega
      rw [hc] at hfig
      clear hc
      go_wp2_with (go_at_call 84; refine (fig_closure 10 _ (by omega) hc0 hc1 _ _ hcb).mono ?_; rintro e w2 ⟨rfl, rfl⟩)
      go_round
      case rel => exact ⟨k + 1, by omega, by omega, by go_num⟩
      case measure => simp [intOf]; omega
    · obtain rfl : k = n := by omega
      by_cases hend : k < a0.size
      · obtain ⟨c, hc⟩ : ∃ c, c = a0[k]'hend := ⟨_, rfl⟩
        have hfig : fig 10 (c.toNat : Int) = false := by
          have hk2 : k < a0.data.toList.length := by rw [HL.out]; exact hend
          rw [hc, byte_at a0 k hend hk2]
          have := figs_end 10 a0.data.toList 2 (by rw [← HN.out]; exact hk2)
          simpa only [← HN.out] using this
        have hc0 : (0 : Int) ≤ ((a0[k]'hend).toNat : Int) := by omega
        have hc1 : ((a0[k]'hend).toNat : Int) ≤ 255 := by have := (a0[k]'hend).toNat_lt; omega
        rw [hc] at hfig
        clear hc
        go_wp2_with (go_at_call 84; refine (fig_closure 10 _ (by omega) hc0 hc1 _ _ hcb).mono ?_; rintro e w2 ⟨rfl, rfl⟩)
        have hk0' : (2 : Int) ≤ (k : Int) := by omega
        have hk1' : (k : Int) ≤ (a0.size : Int) := by omega
        obtain ⟨v1, v2, hv⟩ : ∃ v1 v2, (v1, v2) = numberV 10 1114112 (figsFrom 10 a0.data.toList 2) := ⟨_, _, rfl⟩
        have hnum : class_Number.f (a0.extract 2 k) 10 1114112 = some (v1, v2) := by
          unfold class_Number.f
          rw [if_pos ⟨by rw [ByteArray.size_extract]; omega, by omega, by omega, by omega⟩, hv, extract_list]
          congr 2
          rw [figs_take]
          congr 1
          have := HN.out
          omega
        have hsemi : Lib.hasPrefix (a0.extract k a0.size).data.toList [59] = decide ((a0.data.toList.drop k).head? = some 59) := semi_head a0 k
        have hval : numericV a0.data.toList = if v2 = true then (Utf8.encode (codedV v1), if decide ((a0.data.toList.drop k).head? = some 59) = true then (k : Int) + 1 else (k : Int)) else (⟨#[]⟩, 0) := by
          rw [numericV_d _ HX.out, ← hv, ← HN.out]
          simp only [decide_eq_true_eq]
        generalize decide ((a0.data.toList.drop k).head? = some 59) = sm at hsemi hval
        have hpx : ∀ W : World, Calls Tryz.prog 63 #[.string (a0.extract k a0.size), .string ⟨#[59]⟩] W fun e w' => e = .returned (.bool sm) ∧ w' = W := fun W => (Tryz.strings_HasPrefix _ _ _).mono fun e w' ⟨he, hw⟩ => ⟨by rw [he, ← hsemi], hw⟩
        have HVAL := Aside0.mk hval
        clear hv hval hsemi
        go_region_held3 (fun w' => w'.cell? ⟨w.heap.size, 0, none⟩ = some (.int .i64 10) ∧ Aside0 (Below w.heap.size w w')) (first | exact ⟨hcb, ⟨HBB.out.drew⟩⟩ | (go_split_ands; refine ⟨pw_cell_below hbn (by assumption), ⟨below_step (Aside0.out (by assumption)) hbn⟩⟩)) (first | (go_at_call 86; refine (class_Number.calls _ _ _ v1 v2 _ hnum).mono ?_; rintro e w2 ⟨rfl, hbn⟩))
        go_split_ands
        cases v2
        · go_wp2
          go_ret2
          exact ⟨by rw [HVAL.out]; rfl, Aside0.out (by assumption)⟩
        · cases sm
          · have htok : True := trivial
            go_wp2_with (first | (go_at_call 63; refine (hpx _).mono ?_; rintro e w3 ⟨rfl, rfl⟩) | (go_at_call 87; refine (Coded_same _ _ (HG0.out.below (Aside0.out (by assumption)))).mono ?_; rintro e w4 ⟨rfl, m4, rfl⟩))
            go_ret2
            exact ⟨by rw [HVAL.out]; rfl, pw_below_drewN (Aside0.out (by assumption)) _⟩
          · have htok : True := trivial
            go_wp2_with (first | (go_at_call 63; refine (hpx _).mono ?_; rintro e w3 ⟨rfl, rfl⟩) | (go_at_call 87; refine (Coded_same _ _ (HG0.out.below (Aside0.out (by assumption)))).mono ?_; rintro e w4 ⟨rfl, m4, rfl⟩))
            go_ret2
            exact ⟨by rw [HVAL.out]; rfl, pw_below_drewN (Aside0.out (by assumption)) _⟩
      · go_wp2_with (fail)
        have hk0' : (2 : Int) ≤ (k : Int) := by omega
        have hk1' : (k : Int) ≤ (a0.size : Int) := by omega
        obtain ⟨v1, v2, hv⟩ : ∃ v1 v2, (v1, v2) = numberV 10 1114112 (figsFrom 10 a0.data.toList 2) := ⟨_, _, rfl⟩
        have hnum : class_Number.f (a0.extract 2 k) 10 1114112 = some (v1, v2) := by
          unfold class_Number.f
          rw [if_pos ⟨by rw [ByteArray.size_extract]; omega, by omega, by omega, by omega⟩, hv, extract_list]
          congr 2
          rw [figs_take]
          congr 1
          have := HN.out
          omega
        have hsemi : Lib.hasPrefix (a0.extract k a0.size).data.toList [59] = decide ((a0.data.toList.drop k).head? = some 59) := semi_head a0 k
        have hval : numericV a0.data.toList = if v2 = true then (Utf8.encode (codedV v1), if decide ((a0.data.toList.drop k).head? = some 59) = true then (k : Int) + 1 else (k : Int)) else (⟨#[]⟩, 0) := by
          rw [numericV_d _ HX.out, ← hv, ← HN.out]
          simp only [decide_eq_true_eq]
        generalize decide ((a0.data.toList.drop k).head? = some 59) = sm at hsemi hval
        have hpx : ∀ W : World, Calls Tryz.prog 63 #[.string (a0.extract k a0.size), .string ⟨#[59]⟩] W fun e w' => e = .returned (.bool sm) ∧ w' = W := fun W => (Tryz.strings_HasPrefix _ _ _).mono fun e w' ⟨he, hw⟩ => ⟨by rw [he, ← hsemi], hw⟩
        have HVAL := Aside0.mk hval
        clear hv hval hsemi
        go_region_held3 (fun w' => w'.cell? ⟨w.heap.size, 0, none⟩ = some (.int .i64 10) ∧ Aside0 (Below w.heap.size w w')) (first | exact ⟨hcb, ⟨HBB.out.drew⟩⟩ | (go_split_ands; refine ⟨pw_cell_below hbn (by assumption), ⟨below_step (Aside0.out (by assumption)) hbn⟩⟩)) (first | (go_at_call 86; refine (class_Number.calls _ _ _ v1 v2 _ hnum).mono ?_; rintro e w2 ⟨rfl, hbn⟩))
        go_split_ands
        cases v2
        · go_wp2
          go_ret2
          exact ⟨by rw [HVAL.out]; rfl, Aside0.out (by assumption)⟩
        · cases sm
          · have htok : True := trivial
            go_wp2_with (first | (go_at_call 63; refine (hpx _).mono ?_; rintro e w3 ⟨rfl, rfl⟩) | (go_at_call 87; refine (Coded_same _ _ (HG0.out.below (Aside0.out (by assumption)))).mono ?_; rintro e w4 ⟨rfl, m4, rfl⟩))
            go_ret2
            exact ⟨by rw [HVAL.out]; rfl, pw_below_drewN (Aside0.out (by assumption)) _⟩
          · have htok : True := trivial
            go_wp2_with (first | (go_at_call 63; refine (hpx _).mono ?_; rintro e w3 ⟨rfl, rfl⟩) | (go_at_call 87; refine (Coded_same _ _ (HG0.out.below (Aside0.out (by assumption)))).mono ?_; rintro e w4 ⟨rfl, m4, rfl⟩))
            go_ret2
            exact ⟨by rw [HVAL.out]; rfl, pw_below_drewN (Aside0.out (by assumption)) _⟩
set_option maxHeartbeats 4000000 in
set_option maxRecDepth 100000 in
theorem numeric_hex (a0 : ByteArray) (w : World) (hG : Glob w) (h2 : 2 ≤ a0.size) (hsz : a0.size ≤ 140737488355328) (hx : isX a0.data.toList = true) (h3 : 2 < a0.size) :
    Calls Tryz.prog 64 #[.string a0] w fun e w' => e = .returned (.tuple #[.string (numericV a0.data.toList).1, .int .i64 (numericV a0.data.toList).2]) ∧ Below w.heap.size w w' := by
  have HL : Aside0 (a0.data.toList.length = a0.size) := ⟨by rw [Array.length_toList]; rfl⟩
  have hd3 : a0.data.toList.drop 2 = a0[2] :: a0.data.toList.drop 3 := by
    rw [List.drop_eq_getElem_cons (by rw [HL.out]; exact h3)]; rfl
  have hxb : (bits BinOp.or IntKind.u8 ((a0[2]'h3).toNat : Int) 32 == 120) = true := by
    rw [x_bits]
    simpa [isX, hd3] using hx
  clear hd3
  have HX := Aside0.mk hx
  clear hx
  have HG0 := Aside0.mk hG
  clear hG
  go_enter Tryz.func64, Tryz.ntmps64
  go_wp2
  have hcb : (w.alloc (Obj.cells #[Value.int IntKind.i64 16] 3)).cell? ⟨w.heap.size, 0, none⟩ = some (.int .i64 16) := by go_simp
  have hB : Below w.heap.size w (w.alloc (Obj.cells #[Value.int IntKind.i64 16] 3)) := (Below.refl _ _).alloc (Nat.le_refl _) _
  generalize w.alloc (Obj.cells #[Value.int IntKind.i64 16] 3) = wA at hcb hB ⊢
  obtain ⟨n, hn⟩ : ∃ n, n = 3 + (figsFrom 16 a0.data.toList 3).length := ⟨_, rfl⟩
  have hnle : n ≤ a0.size := by
    rw [hn, ← HL.out]; exact figs_le _ _ _ (by rw [HL.out]; omega)
  have HN := Aside0.mk hn
  have hin : 3 ≤ n := by omega
  clear hn
  have HBB := Aside0.mk hB
  clear hB
  go_loop [5] (fun v => ∃ k : Nat, 3 ≤ k ∧ k ≤ n ∧ v = .int .i64 k) (fun v => n - (intOf v).toNat)
  case atStart => exact ⟨3, Nat.le_refl _, hin, rfl⟩
  case round =>
    obtain ⟨k, hk0, hk1, rfl⟩ := hrel
    by_cases hlt : k < n
    · have hks : k < a0.size := by omega
      obtain ⟨c, hc⟩ : ∃ c, c = a0[k]'hks := ⟨_, rfl⟩
      have hfig : fig 16 (c.toNat : Int) = true := by
        rw [hc, byte_at a0 k hks (by rw [HL.out]; exact hks)]
        exact figs_in _ _ 3 k _ hk0 (by rw [← HN.out]; exact hlt)
      have hc0 : (0 : Int) ≤ ((a0[k]'hks).toNat : Int) := by omega
      have hc1 : ((a0[k]'hks).toNat : Int) ≤ 255 := by have := (a0[k]'hks).toNat_lt; omega
      rw [hc] at hfig
      clear hc
      go_wp2_with (go_at_call 84; refine (fig_closure 16 _ (by omega) hc0 hc1 _ _ hcb).mono ?_; rintro e w2 ⟨rfl, rfl⟩)
      go_round
      case rel => exact ⟨k + 1, by omega, by omega, by go_num⟩
      case measure => simp [intOf]; omega
    · obtain rfl : k = n := by omega
      by_cases hend : k < a0.size
      · obtain ⟨c, hc⟩ : ∃ c, c = a0[k]'hend := ⟨_, rfl⟩
        have hfig : fig 16 (c.toNat : Int) = false := by
          have hk2 : k < a0.data.toList.length := by rw [HL.out]; exact hend
          rw [hc, byte_at a0 k hend hk2]
          have := figs_end 16 a0.data.toList 3 (by rw [← HN.out]; exact hk2)
          simpa only [← HN.out] using this
        have hc0 : (0 : Int) ≤ ((a0[k]'hend).toNat : Int) := by omega
        have hc1 : ((a0[k]'hend).toNat : Int) ≤ 255 := by have := (a0[k]'hend).toNat_lt; omega
        rw [hc] at hfig
        clear hc
        go_wp2_with (go_at_call 84; refine (fig_closure 16 _ (by omega) hc0 hc1 _ _ hcb).mono ?_; rintro e w2 ⟨rfl, rfl⟩)
        have hk0' : (3 : Int) ≤ (k : Int) := by omega
        have hk1' : (k : Int) ≤ (a0.size : Int) := by omega
        obtain ⟨v1, v2, hv⟩ : ∃ v1 v2, (v1, v2) = numberV 16 1114112 (figsFrom 16 a0.data.toList 3) := ⟨_, _, rfl⟩
        have hnum : class_Number.f (a0.extract 3 k) 16 1114112 = some (v1, v2) := by
          unfold class_Number.f
          rw [if_pos ⟨by rw [ByteArray.size_extract]; omega, by omega, by omega, by omega⟩, hv, extract_list]
          congr 2
          rw [figs_take]
          congr 1
          have := HN.out
          omega
        have hsemi : Lib.hasPrefix (a0.extract k a0.size).data.toList [59] = decide ((a0.data.toList.drop k).head? = some 59) := semi_head a0 k
        have hval : numericV a0.data.toList = if v2 = true then (Utf8.encode (codedV v1), if decide ((a0.data.toList.drop k).head? = some 59) = true then (k : Int) + 1 else (k : Int)) else (⟨#[]⟩, 0) := by
          rw [numericV_x _ HX.out, ← hv, ← HN.out]
          simp only [decide_eq_true_eq]
        generalize decide ((a0.data.toList.drop k).head? = some 59) = sm at hsemi hval
        have hpx : ∀ W : World, Calls Tryz.prog 63 #[.string (a0.extract k a0.size), .string ⟨#[59]⟩] W fun e w' => e = .returned (.bool sm) ∧ w' = W := fun W => (Tryz.strings_HasPrefix _ _ _).mono fun e w' ⟨he, hw⟩ => ⟨by rw [he, ← hsemi], hw⟩
        have HVAL := Aside0.mk hval
        clear hv hval hsemi
        go_region_held3 (fun w' => w'.cell? ⟨w.heap.size, 0, none⟩ = some (.int .i64 16) ∧ Aside0 (Below w.heap.size w w')) (first | exact ⟨hcb, ⟨HBB.out.drew⟩⟩ | (go_split_ands; refine ⟨pw_cell_below hbn (by assumption), ⟨below_step (Aside0.out (by assumption)) hbn⟩⟩)) (first | (go_at_call 86; refine (class_Number.calls _ _ _ v1 v2 _ hnum).mono ?_; rintro e w2 ⟨rfl, hbn⟩))
        go_split_ands
        cases v2
        · go_wp2
          go_ret2
          exact ⟨by rw [HVAL.out]; rfl, Aside0.out (by assumption)⟩
        · cases sm
          · have htok : True := trivial
            go_wp2_with (first | (go_at_call 63; refine (hpx _).mono ?_; rintro e w3 ⟨rfl, rfl⟩) | (go_at_call 87; refine (Coded_same _ _ (HG0.out.below (Aside0.out (by assumption)))).mono ?_; rintro e w4 ⟨rfl, m4, rfl⟩))
            go_ret2
            exact ⟨by rw [HVAL.out]; rfl, pw_below_drewN (Aside0.out (by assumption)) _⟩
          · have htok : True := trivial
            go_wp2_with (first | (go_at_call 63; refine (hpx _).mono ?_; rintro e w3 ⟨rfl, rfl⟩) | (go_at_call 87; refine (Coded_same _ _ (HG0.out.below (Aside0.out (by assumption)))).mono ?_; rintro e w4 ⟨rfl, m4, rfl⟩))
            go_ret2
            exact ⟨by rw [HVAL.out]; rfl, pw_below_drewN (Aside0.out (by assumption)) _⟩
      · go_wp2_with (fail)
        have hk0' : (3 : Int) ≤ (k : Int) := by omega
        have hk1' : (k : Int) ≤ (a0.size : Int) := by omega
        obtain ⟨v1, v2, hv⟩ : ∃ v1 v2, (v1, v2) = numberV 16 1114112 (figsFrom 16 a0.data.toList 3) := ⟨_, _, rfl⟩
        have hnum : class_Number.f (a0.extract 3 k) 16 1114112 = some (v1, v2) := by
          unfold class_Number.f
          rw [if_pos ⟨by rw [ByteArray.size_extract]; omega, by omega, by omega, by omega⟩, hv, extract_list]
          congr 2
          rw [figs_take]
          congr 1
          have := HN.out
          omega
        have hsemi : Lib.hasPrefix (a0.extract k a0.size).data.toList [59] = decide ((a0.data.toList.drop k).head? = some 59) := semi_head a0 k
        have hval : numericV a0.data.toList = if v2 = true then (Utf8.encode (codedV v1), if decide ((a0.data.toList.drop k).head? = some 59) = true then (k : Int) + 1 else (k : Int)) else (⟨#[]⟩, 0) := by
          rw [numericV_x _ HX.out, ← hv, ← HN.out]
          simp only [decide_eq_true_eq]
        generalize decide ((a0.data.toList.drop k).head? = some 59) = sm at hsemi hval
        have hpx : ∀ W : World, Calls Tryz.prog 63 #[.string (a0.extract k a0.size), .string ⟨#[59]⟩] W fun e w' => e = .returned (.bool sm) ∧ w' = W := fun W => (Tryz.strings_HasPrefix _ _ _).mono fun e w' ⟨he, hw⟩ => ⟨by rw [he, ← hsemi], hw⟩
        have HVAL := Aside0.mk hval
        clear hv hval hsemi
        go_region_held3 (fun w' => w'.cell? ⟨w.heap.size, 0, none⟩ = some (.int .i64 16) ∧ Aside0 (Below w.heap.size w w')) (first | exact ⟨hcb, ⟨HBB.out.drew⟩⟩ | (go_split_ands; refine ⟨pw_cell_below hbn (by assumption), ⟨below_step (Aside0.out (by assumption)) hbn⟩⟩)) (first | (go_at_call 86; refine (class_Number.calls _ _ _ v1 v2 _ hnum).mono ?_; rintro e w2 ⟨rfl, hbn⟩))
        go_split_ands
        cases v2
        · go_wp2
          go_ret2
          exact ⟨by rw [HVAL.out]; rfl, Aside0.out (by assumption)⟩
        · cases sm
          · have htok : True := trivial
            go_wp2_with (first | (go_at_call 63; refine (hpx _).mono ?_; rintro e w3 ⟨rfl, rfl⟩) | (go_at_call 87; refine (Coded_same _ _ (HG0.out.below (Aside0.out (by assumption)))).mono ?_; rintro e w4 ⟨rfl, m4, rfl⟩))
            go_ret2
            exact ⟨by rw [HVAL.out]; rfl, pw_below_drewN (Aside0.out (by assumption)) _⟩
          · have htok : True := trivial
            go_wp2_with (first | (go_at_call 63; refine (hpx _).mono ?_; rintro e w3 ⟨rfl, rfl⟩) | (go_at_call 87; refine (Coded_same _ _ (HG0.out.below (Aside0.out (by assumption)))).mono ?_; rintro e w4 ⟨rfl, m4, rfl⟩))
            go_ret2
            exact ⟨by rw [HVAL.out]; rfl, pw_below_drewN (Aside0.out (by assumption)) _⟩
theorem charref_numeric.calls (a0 : ByteArray) (r1 : ByteArray) (r2 : Int) (w : World) (hG : Glob w) (h : charref_numeric.f a0 = some (r1, r2)) :
    Calls Tryz.prog 64 #[.string a0] w fun e w' => e = .returned (.tuple #[.string r1, .int .i64 r2]) ∧ Below w.heap.size w w' := by
  unfold charref_numeric.f at h
  split at h
  case isFalse => cases h
  rename_i hs
  have h := Option.some.inj h
  have e1 : r1 = (numericV a0.data.toList).1 := by rw [h]
  have e2 : r2 = (numericV a0.data.toList).2 := by rw [h]
  subst e1; subst e2
  cases hx : isX a0.data.toList
  · by_cases h3 : 2 < a0.size
    · exact numeric_dec a0 w hG hs.1 hs.2 hx h3
    · exact numeric_short a0 w hG hs.1 hs.2 hx h3
  · have h3 : 2 < a0.size := by
      rcases Nat.lt_or_ge 2 a0.size with h3 | h3
      · exact h3
      · have : a0.data.toList.drop 2 = [] := List.drop_eq_nil_of_le (by rw [Array.length_toList]; exact h3)
        simp [isX, this] at hx
    exact numeric_hex a0 w hG hs.1 hs.2 hx h3
end Go.Proofs.YtoacojkmclngmaaGreatDoor.Pz
namespace Go.Proofs.YtoacojkmclngmaaGreatDoor.Pz
open Go.RowKit Go.Proofs.YtoacojkmclngmaaGreatDoorW.PrintWords Go.Proofs.YtoacojkmclngmaaGreatDoorW.PrintLast Go.Proofs.YtoacojkmclngmaaGreatDoorW.PrintMore
attribute [local go_sem] max2_int min2_int max_two min_two max_three min_three max_four min_four   -- for this text's walks alone
attribute [local go_sem] rune_str
set_option linter.unusedVariables false
set_option linter.unusedSimpArgs false
def entity_bare.f  : Option ((List (S107))) := some (([(⟨(⟨#[65, 77, 80]⟩ : ByteArray), (⟨#[38]⟩ : ByteArray)⟩ : S107), (⟨(⟨#[97, 109, 112]⟩ : ByteArray), (⟨#[38]⟩ : ByteArray)⟩ : S107), (⟨(⟨#[67, 79, 80, 89]⟩ : ByteArray), (⟨#[194, 169]⟩ : ByteArray)⟩ : S107), (⟨(⟨#[99, 111, 112, 121]⟩ : ByteArray), (⟨#[194, 169]⟩ : ByteArray)⟩ : S107), (⟨(⟨#[71, 84]⟩ : ByteArray), (⟨#[62]⟩ : ByteArray)⟩ : S107), (⟨(⟨#[103, 116]⟩ : ByteArray), (⟨#[62]⟩ : ByteArray)⟩ : S107), (⟨(⟨#[76, 84]⟩ : ByteArray), (⟨#[60]⟩ : ByteArray)⟩ : S107), (⟨(⟨#[108, 116]⟩ : ByteArray), (⟨#[60]⟩ : ByteArray)⟩ : S107), (⟨(⟨#[81, 85, 79, 84]⟩ : ByteArray), (⟨#[34]⟩ : ByteArray)⟩ : S107), (⟨(⟨#[113, 117, 111, 116]⟩ : ByteArray), (⟨#[34]⟩ : ByteArray)⟩ : S107), (⟨(⟨#[82, 69, 71]⟩ : ByteArray), (⟨#[194, 174]⟩ : ByteArray)⟩ : S107), (⟨(⟨#[114, 101, 103]⟩ : ByteArray), (⟨#[194, 174]⟩ : ByteArray)⟩ : S107), (⟨(⟨#[110, 98, 115, 112]⟩ : ByteArray), (⟨#[194, 160]⟩ : ByteArray)⟩ : S107), (⟨(⟨#[105, 101, 120, 99, 108]⟩ : ByteArray), (⟨#[194, 161]⟩ : ByteArray)⟩ : S107), (⟨(⟨#[99, 101, 110, 116]⟩ : ByteArray), (⟨#[194, 162]⟩ : ByteArray)⟩ : S107), (⟨(⟨#[112, 111, 117, 110, 100]⟩ : ByteArray), (⟨#[194, 163]⟩ : ByteArray)⟩ : S107), (⟨(⟨#[121, 101, 110]⟩ : ByteArray), (⟨#[194, 165]⟩ : ByteArray)⟩ : S107), (⟨(⟨#[115, 101, 99, 116]⟩ : ByteArray), (⟨#[194, 167]⟩ : ByteArray)⟩ : S107), (⟨(⟨#[117, 109, 108]⟩ : ByteArray), (⟨#[194, 168]⟩ : ByteArray)⟩ : S107), (⟨(⟨#[108, 97, 113, 117, 111]⟩ : ByteArray), (⟨#[194, 171]⟩ : ByteArray)⟩ : S107), (⟨(⟨#[110, 111, 116]⟩ : ByteArray), (⟨#[194, 172]⟩ : ByteArray)⟩ : S107), (⟨(⟨#[115, 104, 121]⟩ : ByteArray), (⟨#[194, 173]⟩ : ByteArray)⟩ : S107), (⟨(⟨#[100, 101, 103]⟩ : ByteArray), (⟨#[194, 176]⟩ : ByteArray)⟩ : S107), (⟨(⟨#[112, 108, 117, 115, 109, 110]⟩ : ByteArray), (⟨#[194, 177]⟩ : ByteArray)⟩ : S107), (⟨(⟨#[115, 117, 112, 49]⟩ : ByteArray), (⟨#[194, 185]⟩ : ByteArray)⟩ : S107), (⟨(⟨#[115, 117, 112, 50]⟩ : ByteArray), (⟨#[194, 178]⟩ : ByteArray)⟩ : S107), (⟨(⟨#[115, 117, 112, 51]⟩ : ByteArray), (⟨#[194, 179]⟩ : ByteArray)⟩ : S107), (⟨(⟨#[97, 99, 117, 116, 101]⟩ : ByteArray), (⟨#[194, 180]⟩ : ByteArray)⟩ : S107), (⟨(⟨#[109, 105, 99, 114, 111]⟩ : ByteArray), (⟨#[194, 181]⟩ : ByteArray)⟩ : S107), (⟨(⟨#[112, 97, 114, 97]⟩ : ByteArray), (⟨#[194, 182]⟩ : ByteArray)⟩ : S107), (⟨(⟨#[109, 105, 100, 100, 111, 116]⟩ : ByteArray), (⟨#[194, 183]⟩ : ByteArray)⟩ : S107), (⟨(⟨#[114, 97, 113, 117, 111]⟩ : ByteArray), (⟨#[194, 187]⟩ : ByteArray)⟩ : S107), (⟨(⟨#[102, 114, 97, 99, 49, 52]⟩ : ByteArray), (⟨#[194, 188]⟩ : ByteArray)⟩ : S107), (⟨(⟨#[102, 114, 97, 99, 49, 50]⟩ : ByteArray), (⟨#[194, 189]⟩ : ByteArray)⟩ : S107), (⟨(⟨#[102, 114, 97, 99, 51, 52]⟩ : ByteArray), (⟨#[194, 190]⟩ : ByteArray)⟩ : S107), (⟨(⟨#[105, 113, 117, 101, 115, 116]⟩ : ByteArray), (⟨#[194, 191]⟩ : ByteArray)⟩ : S107), (⟨(⟨#[116, 105, 109, 101, 115]⟩ : ByteArray), (⟨#[195, 151]⟩ : ByteArray)⟩ : S107), (⟨(⟨#[100, 105, 118, 105, 100, 101]⟩ : ByteArray), (⟨#[195, 183]⟩ : ByteArray)⟩ : S107), (⟨(⟨#[65, 117, 109, 108]⟩ : ByteArray), (⟨#[195, 132]⟩ : ByteArray)⟩ : S107), (⟨(⟨#[79, 117, 109, 108]⟩ : ByteArray), (⟨#[195, 150]⟩ : ByteArray)⟩ : S107), (⟨(⟨#[85, 117, 109, 108]⟩ : ByteArray), (⟨#[195, 156]⟩ : ByteArray)⟩ : S107), (⟨(⟨#[97, 117, 109, 108]⟩ : ByteArray), (⟨#[195, 164]⟩ : ByteArray)⟩ : S107), (⟨(⟨#[111, 117, 109, 108]⟩ : ByteArray), (⟨#[195, 182]⟩ : ByteArray)⟩ : S107), (⟨(⟨#[117, 117, 109, 108]⟩ : ByteArray), (⟨#[195, 188]⟩ : ByteArray)⟩ : S107), (⟨(⟨#[115, 122, 108, 105, 103]⟩ : ByteArray), (⟨#[195, 159]⟩ : ByteArray)⟩ : S107), (⟨(⟨#[97, 103, 114, 97, 118, 101]⟩ : ByteArray), (⟨#[195, 160]⟩ : ByteArray)⟩ : S107), (⟨(⟨#[101, 97, 99, 117, 116, 101]⟩ : ByteArray), (⟨#[195, 169]⟩ : ByteArray)⟩ : S107), (⟨(⟨#[101, 103, 114, 97, 118, 101]⟩ : ByteArray), (⟨#[195, 168]⟩ : ByteArray)⟩ : S107), (⟨(⟨#[99, 99, 101, 100, 105, 108]⟩ : ByteArray), (⟨#[195, 167]⟩ : ByteArray)⟩ : S107), (⟨(⟨#[110, 116, 105, 108, 100, 101]⟩ : ByteArray), (⟨#[195, 177]⟩ : ByteArray)⟩ : S107)] : List (S107)))
set_option maxHeartbeats 8000000 in
set_option maxRecDepth 100000 in
theorem entity_bare.calls  (r : List (S107)) (w : World) (h : entity_bare.f  = some r) :
    Calls Tryz.prog 121 #[] w fun e w' => ∃ v0_ : Value, e = .returned (v0_) ∧ Kd.R k107 107 w' w.heap.size (fun _ => True) v0_ r ∧ Below w.heap.size w w' := by
  have hu107 := Tryz.underlying107
  have HB := Aside0.mk (Below.refl w.heap.size w)
  have H : (some (([(⟨(⟨#[65, 77, 80]⟩ : ByteArray), (⟨#[38]⟩ : ByteArray)⟩ : S107), (⟨(⟨#[97, 109, 112]⟩ : ByteArray), (⟨#[38]⟩ : ByteArray)⟩ : S107), (⟨(⟨#[67, 79, 80, 89]⟩ : ByteArray), (⟨#[194, 169]⟩ : ByteArray)⟩ : S107), (⟨(⟨#[99, 111, 112, 121]⟩ : ByteArray), (⟨#[194, 169]⟩ : ByteArray)⟩ : S107), (⟨(⟨#[71, 84]⟩ : ByteArray), (⟨#[62]⟩ : ByteArray)⟩ : S107), (⟨(⟨#[103, 116]⟩ : ByteArray), (⟨#[62]⟩ : ByteArray)⟩ : S107), (⟨(⟨#[76, 84]⟩ : ByteArray), (⟨#[60]⟩ : ByteArray)⟩ : S107), (⟨(⟨#[108, 116]⟩ : ByteArray), (⟨#[60]⟩ : ByteArray)⟩ : S107), (⟨(⟨#[81, 85, 79, 84]⟩ : ByteArray), (⟨#[34]⟩ : ByteArray)⟩ : S107), (⟨(⟨#[113, 117, 111, 116]⟩ : ByteArray), (⟨#[34]⟩ : ByteArray)⟩ : S107), (⟨(⟨#[82, 69, 71]⟩ : ByteArray), (⟨#[194, 174]⟩ : ByteArray)⟩ : S107), (⟨(⟨#[114, 101, 103]⟩ : ByteArray), (⟨#[194, 174]⟩ : ByteArray)⟩ : S107), (⟨(⟨#[110, 98, 115, 112]⟩ : ByteArray), (⟨#[194, 160]⟩ : ByteArray)⟩ : S107), (⟨(⟨#[105, 101, 120, 99, 108]⟩ : ByteArray), (⟨#[194, 161]⟩ : ByteArray)⟩ : S107), (⟨(⟨#[99, 101, 110, 116]⟩ : ByteArray), (⟨#[194, 162]⟩ : ByteArray)⟩ : S107), (⟨(⟨#[112, 111, 117, 110, 100]⟩ : ByteArray), (⟨#[194, 163]⟩ : ByteArray)⟩ : S107), (⟨(⟨#[121, 101, 110]⟩ : ByteArray), (⟨#[194, 165]⟩ : ByteArray)⟩ : S107), (⟨(⟨#[115, 101, 99, 116]⟩ : ByteArray), (⟨#[194, 167]⟩ : ByteArray)⟩ : S107), (⟨(⟨#[117, 109, 108]⟩ : ByteArray), (⟨#[194, 168]⟩ : ByteArray)⟩ : S107), (⟨(⟨#[108, 97, 113, 117, 111]⟩ : ByteArray), (⟨#[194, 171]⟩ : ByteArray)⟩ : S107), (⟨(⟨#[110, 111, 116]⟩ : ByteArray), (⟨#[194, 172]⟩ : ByteArray)⟩ : S107), (⟨(⟨#[115, 104, 121]⟩ : ByteArray), (⟨#[194, 173]⟩ : ByteArray)⟩ : S107), (⟨(⟨#[100, 101, 103]⟩ : ByteArray), (⟨#[194, 176]⟩ : ByteArray)⟩ : S107), (⟨(⟨#[112, 108, 117, 115, 109, 110]⟩ : ByteArray), (⟨#[194, 177]⟩ : ByteArray)⟩ : S107), (⟨(⟨#[115, 117, 112, 49]⟩ : ByteArray), (⟨#[194, 185]⟩ : ByteArray)⟩ : S107), (⟨(⟨#[115, 117, 112, 50]⟩ : ByteArray), (⟨#[194, 178]⟩ : ByteArray)⟩ : S107), (⟨(⟨#[115, 117, 112, 51]⟩ : ByteArray), (⟨#[194, 179]⟩ : ByteArray)⟩ : S107), (⟨(⟨#[97, 99, 117, 116, 101]⟩ : ByteArray), (⟨#[194, 180]⟩ : ByteArray)⟩ : S107), (⟨(⟨#[109, 105, 99, 114, 111]⟩ : ByteArray), (⟨#[194, 181]⟩ : ByteArray)⟩ : S107), (⟨(⟨#[112, 97, 114, 97]⟩ : ByteArray), (⟨#[194, 182]⟩ : ByteArray)⟩ : S107), (⟨(⟨#[109, 105, 100, 100, 111, 116]⟩ : ByteArray), (⟨#[194, 183]⟩ : ByteArray)⟩ : S107), (⟨(⟨#[114, 97, 113, 117, 111]⟩ : ByteArray), (⟨#[194, 187]⟩ : ByteArray)⟩ : S107), (⟨(⟨#[102, 114, 97, 99, 49, 52]⟩ : ByteArray), (⟨#[194, 188]⟩ : ByteArray)⟩ : S107), (⟨(⟨#[102, 114, 97, 99, 49, 50]⟩ : ByteArray), (⟨#[194, 189]⟩ : ByteArray)⟩ : S107), (⟨(⟨#[102, 114, 97, 99, 51, 52]⟩ : ByteArray), (⟨#[194, 190]⟩ : ByteArray)⟩ : S107), (⟨(⟨#[105, 113, 117, 101, 115, 116]⟩ : ByteArray), (⟨#[194, 191]⟩ : ByteArray)⟩ : S107), (⟨(⟨#[116, 105, 109, 101, 115]⟩ : ByteArray), (⟨#[195, 151]⟩ : ByteArray)⟩ : S107), (⟨(⟨#[100, 105, 118, 105, 100, 101]⟩ : ByteArray), (⟨#[195, 183]⟩ : ByteArray)⟩ : S107), (⟨(⟨#[65, 117, 109, 108]⟩ : ByteArray), (⟨#[195, 132]⟩ : ByteArray)⟩ : S107), (⟨(⟨#[79, 117, 109, 108]⟩ : ByteArray), (⟨#[195, 150]⟩ : ByteArray)⟩ : S107), (⟨(⟨#[85, 117, 109, 108]⟩ : ByteArray), (⟨#[195, 156]⟩ : ByteArray)⟩ : S107), (⟨(⟨#[97, 117, 109, 108]⟩ : ByteArray), (⟨#[195, 164]⟩ : ByteArray)⟩ : S107), (⟨(⟨#[111, 117, 109, 108]⟩ : ByteArray), (⟨#[195, 182]⟩ : ByteArray)⟩ : S107), (⟨(⟨#[117, 117, 109, 108]⟩ : ByteArray), (⟨#[195, 188]⟩ : ByteArray)⟩ : S107), (⟨(⟨#[115, 122, 108, 105, 103]⟩ : ByteArray), (⟨#[195, 159]⟩ : ByteArray)⟩ : S107), (⟨(⟨#[97, 103, 114, 97, 118, 101]⟩ : ByteArray), (⟨#[195, 160]⟩ : ByteArray)⟩ : S107), (⟨(⟨#[101, 97, 99, 117, 116, 101]⟩ : ByteArray), (⟨#[195, 169]⟩ : ByteArray)⟩ : S107), (⟨(⟨#[101, 103, 114, 97, 118, 101]⟩ : ByteArray), (⟨#[195, 168]⟩ : ByteArray)⟩ : S107), (⟨(⟨#[99, 99, 101, 100, 105, 108]⟩ : ByteArray), (⟨#[195, 167]⟩ : ByteArray)⟩ : S107), (⟨(⟨#[110, 116, 105, 108, 100, 101]⟩ : ByteArray), (⟨#[195, 177]⟩ : ByteArray)⟩ : S107)] : List (S107)))) = some r := h
  clear h
  obtain ⟨y102, hy102⟩ : ∃ y_ : List (S107), y_ = (([(⟨(⟨#[65, 77, 80]⟩ : ByteArray), (⟨#[38]⟩ : ByteArray)⟩ : S107), (⟨(⟨#[97, 109, 112]⟩ : ByteArray), (⟨#[38]⟩ : ByteArray)⟩ : S107), (⟨(⟨#[67, 79, 80, 89]⟩ : ByteArray), (⟨#[194, 169]⟩ : ByteArray)⟩ : S107), (⟨(⟨#[99, 111, 112, 121]⟩ : ByteArray), (⟨#[194, 169]⟩ : ByteArray)⟩ : S107), (⟨(⟨#[71, 84]⟩ : ByteArray), (⟨#[62]⟩ : ByteArray)⟩ : S107), (⟨(⟨#[103, 116]⟩ : ByteArray), (⟨#[62]⟩ : ByteArray)⟩ : S107), (⟨(⟨#[76, 84]⟩ : ByteArray), (⟨#[60]⟩ : ByteArray)⟩ : S107), (⟨(⟨#[108, 116]⟩ : ByteArray), (⟨#[60]⟩ : ByteArray)⟩ : S107), (⟨(⟨#[81, 85, 79, 84]⟩ : ByteArray), (⟨#[34]⟩ : ByteArray)⟩ : S107), (⟨(⟨#[113, 117, 111, 116]⟩ : ByteArray), (⟨#[34]⟩ : ByteArray)⟩ : S107), (⟨(⟨#[82, 69, 71]⟩ : ByteArray), (⟨#[194, 174]⟩ : ByteArray)⟩ : S107), (⟨(⟨#[114, 101, 103]⟩ : ByteArray), (⟨#[194, 174]⟩ : ByteArray)⟩ : S107), (⟨(⟨#[110, 98, 115, 112]⟩ : ByteArray), (⟨#[194, 160]⟩ : ByteArray)⟩ : S107), (⟨(⟨#[105, 101, 120, 99, 108]⟩ : ByteArray), (⟨#[194, 161]⟩ : ByteArray)⟩ : S107), (⟨(⟨#[99, 101, 110, 116]⟩ : ByteArray), (⟨#[194, 162]⟩ : ByteArray)⟩ : S107), (⟨(⟨#[112, 111, 117, 110, 100]⟩ : ByteArray), (⟨#[194, 163]⟩ : ByteArray)⟩ : S107), (⟨(⟨#[121, 101, 110]⟩ : ByteArray), (⟨#[194, 165]⟩ : ByteArray)⟩ : S107), (⟨(⟨#[115, 101, 99, 116]⟩ : ByteArray), (⟨#[194, 167]⟩ : ByteArray)⟩ : S107), (⟨(⟨#[117, 109, 108]⟩ : ByteArray), (⟨#[194, 168]⟩ : ByteArray)⟩ : S107), (⟨(⟨#[108, 97, 113, 117, 111]⟩ : ByteArray), (⟨#[194, 171]⟩ : ByteArray)⟩ : S107), (⟨(⟨#[110, 111, 116]⟩ : ByteArray), (⟨#[194, 172]⟩ : ByteArray)⟩ : S107), (⟨(⟨#[115, 104, 121]⟩ : ByteArray), (⟨#[194, 173]⟩ : ByteArray)⟩ : S107), (⟨(⟨#[100, 101, 103]⟩ : ByteArray), (⟨#[194, 176]⟩ : ByteArray)⟩ : S107), (⟨(⟨#[112, 108, 117, 115, 109, 110]⟩ : ByteArray), (⟨#[194, 177]⟩ : ByteArray)⟩ : S107), (⟨(⟨#[115, 117, 112, 49]⟩ : ByteArray), (⟨#[194, 185]⟩ : ByteArray)⟩ : S107), (⟨(⟨#[115, 117, 112, 50]⟩ : ByteArray), (⟨#[194, 178]⟩ : ByteArray)⟩ : S107), (⟨(⟨#[115, 117, 112, 51]⟩ : ByteArray), (⟨#[194, 179]⟩ : ByteArray)⟩ : S107), (⟨(⟨#[97, 99, 117, 116, 101]⟩ : ByteArray), (⟨#[194, 180]⟩ : ByteArray)⟩ : S107), (⟨(⟨#[109, 105, 99, 114, 111]⟩ : ByteArray), (⟨#[194, 181]⟩ : ByteArray)⟩ : S107), (⟨(⟨#[112, 97, 114, 97]⟩ : ByteArray), (⟨#[194, 182]⟩ : ByteArray)⟩ : S107), (⟨(⟨#[109, 105, 100, 100, 111, 116]⟩ : ByteArray), (⟨#[194, 183]⟩ : ByteArray)⟩ : S107), (⟨(⟨#[114, 97, 113, 117, 111]⟩ : ByteArray), (⟨#[194, 187]⟩ : ByteArray)⟩ : S107), (⟨(⟨#[102, 114, 97, 99, 49, 52]⟩ : ByteArray), (⟨#[194, 188]⟩ : ByteArray)⟩ : S107), (⟨(⟨#[102, 114, 97, 99, 49, 50]⟩ : ByteArray), (⟨#[194, 189]⟩ : ByteArray)⟩ : S107), (⟨(⟨#[102, 114, 97, 99, 51, 52]⟩ : ByteArray), (⟨#[194, 190]⟩ : ByteArray)⟩ : S107), (⟨(⟨#[105, 113, 117, 101, 115, 116]⟩ : ByteArray), (⟨#[194, 191]⟩ : ByteArray)⟩ : S107), (⟨(⟨#[116, 105, 109, 101, 115]⟩ : ByteArray), (⟨#[195, 151]⟩ : ByteArray)⟩ : S107), (⟨(⟨#[100, 105, 118, 105, 100, 101]⟩ : ByteArray), (⟨#[195, 183]⟩ : ByteArray)⟩ : S107), (⟨(⟨#[65, 117, 109, 108]⟩ : ByteArray), (⟨#[195, 132]⟩ : ByteArray)⟩ : S107), (⟨(⟨#[79, 117, 109, 108]⟩ : ByteArray), (⟨#[195, 150]⟩ : ByteArray)⟩ : S107), (⟨(⟨#[85, 117, 109, 108]⟩ : ByteArray), (⟨#[195, 156]⟩ : ByteArray)⟩ : S107), (⟨(⟨#[97, 117, 109, 108]⟩ : ByteArray), (⟨#[195, 164]⟩ : ByteArray)⟩ : S107), (⟨(⟨#[111, 117, 109, 108]⟩ : ByteArray), (⟨#[195, 182]⟩ : ByteArray)⟩ : S107), (⟨(⟨#[117, 117, 109, 108]⟩ : ByteArray), (⟨#[195, 188]⟩ : ByteArray)⟩ : S107), (⟨(⟨#[115, 122, 108, 105, 103]⟩ : ByteArray), (⟨#[195, 159]⟩ : ByteArray)⟩ : S107), (⟨(⟨#[97, 103, 114, 97, 118, 101]⟩ : ByteArray), (⟨#[195, 160]⟩ : ByteArray)⟩ : S107), (⟨(⟨#[101, 97, 99, 117, 116, 101]⟩ : ByteArray), (⟨#[195, 169]⟩ : ByteArray)⟩ : S107), (⟨(⟨#[101, 103, 114, 97, 118, 101]⟩ : ByteArray), (⟨#[195, 168]⟩ : ByteArray)⟩ : S107), (⟨(⟨#[99, 99, 101, 100, 105, 108]⟩ : ByteArray), (⟨#[195, 167]⟩ : ByteArray)⟩ : S107), (⟨(⟨#[110, 116, 105, 108, 100, 101]⟩ : ByteArray), (⟨#[195, 177]⟩ : ByteArray)⟩ : S107)] : List (S107))) := ⟨_, rfl⟩
  replace H : (some y102) = some r := by first | (rw [hy102]; with_reducible exact H) | (have H2_ := (Option.bind_some _ _).symm.trans H; rw [hy102]; with_reducible exact H2_) | (have H2_ := (Option.bind_some _ _).symm.trans H; with_reducible exact H2_) | with_reducible exact H | (rw [hy102]; exact H) | exact H
  have Ny102 := Aside0.mk hy102
  clear hy102
  obtain rfl := Option.some.inj H
  go_enter Tryz.func121, Tryz.ntmps121
  go_wp2_with (first | ((with_reducible refine gate_dst (N := 51) rfl ?_); refine Kd.R_lit k107 _ 107 ?hg (N := 51) ?hd (xs := ([(⟨(⟨#[65, 77, 80]⟩ : ByteArray), (⟨#[38]⟩ : ByteArray)⟩ : S107), (⟨(⟨#[97, 109, 112]⟩ : ByteArray), (⟨#[38]⟩ : ByteArray)⟩ : S107), (⟨(⟨#[67, 79, 80, 89]⟩ : ByteArray), (⟨#[194, 169]⟩ : ByteArray)⟩ : S107), (⟨(⟨#[99, 111, 112, 121]⟩ : ByteArray), (⟨#[194, 169]⟩ : ByteArray)⟩ : S107), (⟨(⟨#[71, 84]⟩ : ByteArray), (⟨#[62]⟩ : ByteArray)⟩ : S107), (⟨(⟨#[103, 116]⟩ : ByteArray), (⟨#[62]⟩ : ByteArray)⟩ : S107), (⟨(⟨#[76, 84]⟩ : ByteArray), (⟨#[60]⟩ : ByteArray)⟩ : S107), (⟨(⟨#[108, 116]⟩ : ByteArray), (⟨#[60]⟩ : ByteArray)⟩ : S107), (⟨(⟨#[81, 85, 79, 84]⟩ : ByteArray), (⟨#[34]⟩ : ByteArray)⟩ : S107), (⟨(⟨#[113, 117, 111, 116]⟩ : ByteArray), (⟨#[34]⟩ : ByteArray)⟩ : S107), (⟨(⟨#[82, 69, 71]⟩ : ByteArray), (⟨#[194, 174]⟩ : ByteArray)⟩ : S107), (⟨(⟨#[114, 101, 103]⟩ : ByteArray), (⟨#[194, 174]⟩ : ByteArray)⟩ : S107), (⟨(⟨#[110, 98, 115, 112]⟩ : ByteArray), (⟨#[194, 160]⟩ : ByteArray)⟩ : S107), (⟨(⟨#[105, 101, 120, 99, 108]⟩ : ByteArray), (⟨#[194, 161]⟩ : ByteArray)⟩ : S107), (⟨(⟨#[99, 101, 110, 116]⟩ : ByteArray), (⟨#[194, 162]⟩ : ByteArray)⟩ : S107), (⟨(⟨#[112, 111, 117, 110, 100]⟩ : ByteArray), (⟨#[194, 163]⟩ : ByteArray)⟩ : S107), (⟨(⟨#[121, 101, 110]⟩ : ByteArray), (⟨#[194, 165]⟩ : ByteArray)⟩ : S107), (⟨(⟨#[115, 101, 99, 116]⟩ : ByteArray), (⟨#[194, 167]⟩ : ByteArray)⟩ : S107), (⟨(⟨#[117, 109, 108]⟩ : ByteArray), (⟨#[194, 168]⟩ : ByteArray)⟩ : S107), (⟨(⟨#[108, 97, 113, 117, 111]⟩ : ByteArray), (⟨#[194, 171]⟩ : ByteArray)⟩ : S107), (⟨(⟨#[110, 111, 116]⟩ : ByteArray), (⟨#[194, 172]⟩ : ByteArray)⟩ : S107), (⟨(⟨#[115, 104, 121]⟩ : ByteArray), (⟨#[194, 173]⟩ : ByteArray)⟩ : S107), (⟨(⟨#[100, 101, 103]⟩ : ByteArray), (⟨#[194, 176]⟩ : ByteArray)⟩ : S107), (⟨(⟨#[112, 108, 117, 115, 109, 110]⟩ : ByteArray), (⟨#[194, 177]⟩ : ByteArray)⟩ : S107), (⟨(⟨#[115, 117, 112, 49]⟩ : ByteArray), (⟨#[194, 185]⟩ : ByteArray)⟩ : S107), (⟨(⟨#[115, 117, 112, 50]⟩ : ByteArray), (⟨#[194, 178]⟩ : ByteArray)⟩ : S107), (⟨(⟨#[115, 117, 112, 51]⟩ : ByteArray), (⟨#[194, 179]⟩ : ByteArray)⟩ : S107), (⟨(⟨#[97, 99, 117, 116, 101]⟩ : ByteArray), (⟨#[194, 180]⟩ : ByteArray)⟩ : S107), (⟨(⟨#[109, 105, 99, 114, 111]⟩ : ByteArray), (⟨#[194, 181]⟩ : ByteArray)⟩ : S107), (⟨(⟨#[112, 97, 114, 97]⟩ : ByteArray), (⟨#[194, 182]⟩ : ByteArray)⟩ : S107), (⟨(⟨#[109, 105, 100, 100, 111, 116]⟩ : ByteArray), (⟨#[194, 183]⟩ : ByteArray)⟩ : S107), (⟨(⟨#[114, 97, 113, 117, 111]⟩ : ByteArray), (⟨#[194, 187]⟩ : ByteArray)⟩ : S107), (⟨(⟨#[102, 114, 97, 99, 49, 52]⟩ : ByteArray), (⟨#[194, 188]⟩ : ByteArray)⟩ : S107), (⟨(⟨#[102, 114, 97, 99, 49, 50]⟩ : ByteArray), (⟨#[194, 189]⟩ : ByteArray)⟩ : S107), (⟨(⟨#[102, 114, 97, 99, 51, 52]⟩ : ByteArray), (⟨#[194, 190]⟩ : ByteArray)⟩ : S107), (⟨(⟨#[105, 113, 117, 101, 115, 116]⟩ : ByteArray), (⟨#[194, 191]⟩ : ByteArray)⟩ : S107), (⟨(⟨#[116, 105, 109, 101, 115]⟩ : ByteArray), (⟨#[195, 151]⟩ : ByteArray)⟩ : S107), (⟨(⟨#[100, 105, 118, 105, 100, 101]⟩ : ByteArray), (⟨#[195, 183]⟩ : ByteArray)⟩ : S107), (⟨(⟨#[65, 117, 109, 108]⟩ : ByteArray), (⟨#[195, 132]⟩ : ByteArray)⟩ : S107), (⟨(⟨#[79, 117, 109, 108]⟩ : ByteArray), (⟨#[195, 150]⟩ : ByteArray)⟩ : S107), (⟨(⟨#[85, 117, 109, 108]⟩ : ByteArray), (⟨#[195, 156]⟩ : ByteArray)⟩ : S107), (⟨(⟨#[97, 117, 109, 108]⟩ : ByteArray), (⟨#[195, 164]⟩ : ByteArray)⟩ : S107), (⟨(⟨#[111, 117, 109, 108]⟩ : ByteArray), (⟨#[195, 182]⟩ : ByteArray)⟩ : S107), (⟨(⟨#[117, 117, 109, 108]⟩ : ByteArray), (⟨#[195, 188]⟩ : ByteArray)⟩ : S107), (⟨(⟨#[115, 122, 108, 105, 103]⟩ : ByteArray), (⟨#[195, 159]⟩ : ByteArray)⟩ : S107), (⟨(⟨#[97, 103, 114, 97, 118, 101]⟩ : ByteArray), (⟨#[195, 160]⟩ : ByteArray)⟩ : S107), (⟨(⟨#[101, 97, 99, 117, 116, 101]⟩ : ByteArray), (⟨#[195, 169]⟩ : ByteArray)⟩ : S107), (⟨(⟨#[101, 103, 114, 97, 118, 101]⟩ : ByteArray), (⟨#[195, 168]⟩ : ByteArray)⟩ : S107), (⟨(⟨#[99, 99, 101, 100, 105, 108]⟩ : ByteArray), (⟨#[195, 167]⟩ : ByteArray)⟩ : S107), (⟨(⟨#[110, 116, 105, 108, 100, 101]⟩ : ByteArray), (⟨#[195, 177]⟩ : ByteArray)⟩ : S107)] : List (S107))) (inner := [.string (⟨#[65, 77, 80]⟩ : ByteArray), .string (⟨#[38]⟩ : ByteArray), .string (⟨#[97, 109, 112]⟩ : ByteArray), .string (⟨#[38]⟩ : ByteArray), .string (⟨#[67, 79, 80, 89]⟩ : ByteArray), .string (⟨#[194, 169]⟩ : ByteArray), .string (⟨#[99, 111, 112, 121]⟩ : ByteArray), .string (⟨#[194, 169]⟩ : ByteArray), .string (⟨#[71, 84]⟩ : ByteArray), .string (⟨#[62]⟩ : ByteArray), .string (⟨#[103, 116]⟩ : ByteArray), .string (⟨#[62]⟩ : ByteArray), .string (⟨#[76, 84]⟩ : ByteArray), .string (⟨#[60]⟩ : ByteArray), .string (⟨#[108, 116]⟩ : ByteArray), .string (⟨#[60]⟩ : ByteArray), .string (⟨#[81, 85, 79, 84]⟩ : ByteArray), .string (⟨#[34]⟩ : ByteArray), .string (⟨#[113, 117, 111, 116]⟩ : ByteArray), .string (⟨#[34]⟩ : ByteArray), .string (⟨#[82, 69, 71]⟩ : ByteArray), .string (⟨#[194, 174]⟩ : ByteArray), .string (⟨#[114, 101, 103]⟩ : ByteArray), .string (⟨#[194, 174]⟩ : ByteArray), .string (⟨#[110, 98, 115, 112]⟩ : ByteArray), .string (⟨#[194, 160]⟩ : ByteArray), .string (⟨#[105, 101, 120, 99, 108]⟩ : ByteArray), .string (⟨#[194, 161]⟩ : ByteArray), .string (⟨#[99, 101, 110, 116]⟩ : ByteArray), .string (⟨#[194, 162]⟩ : ByteArray), .string (⟨#[112, 111, 117, 110, 100]⟩ : ByteArray), .string (⟨#[194, 163]⟩ : ByteArray), .string (⟨#[121, 101, 110]⟩ : ByteArray), .string (⟨#[194, 165]⟩ : ByteArray), .string (⟨#[115, 101, 99, 116]⟩ : ByteArray), .string (⟨#[194, 167]⟩ : ByteArray), .string (⟨#[117, 109, 108]⟩ : ByteArray), .string (⟨#[194, 168]⟩ : ByteArray), .string (⟨#[108, 97, 113, 117, 111]⟩ : ByteArray), .string (⟨#[194, 171]⟩ : ByteArray), .string (⟨#[110, 111, 116]⟩ : ByteArray), .string (⟨#[194, 172]⟩ : ByteArray), .string (⟨#[115, 104, 121]⟩ : ByteArray), .string (⟨#[194, 173]⟩ : ByteArray), .string (⟨#[100, 101, 103]⟩ : ByteArray), .string (⟨#[194, 176]⟩ : ByteArray), .string (⟨#[112, 108, 117, 115, 109, 110]⟩ : ByteArray), .string (⟨#[194, 177]⟩ : ByteArray), .string (⟨#[115, 117, 112, 49]⟩ : ByteArray), .string (⟨#[194, 185]⟩ : ByteArray), .string (⟨#[115, 117, 112, 50]⟩ : ByteArray), .string (⟨#[194, 178]⟩ : ByteArray), .string (⟨#[115, 117, 112, 51]⟩ : ByteArray), .string (⟨#[194, 179]⟩ : ByteArray), .string (⟨#[97, 99, 117, 116, 101]⟩ : ByteArray), .string (⟨#[194, 180]⟩ : ByteArray), .string (⟨#[109, 105, 99, 114, 111]⟩ : ByteArray), .string (⟨#[194, 181]⟩ : ByteArray), .string (⟨#[112, 97, 114, 97]⟩ : ByteArray), .string (⟨#[194, 182]⟩ : ByteArray), .string (⟨#[109, 105, 100, 100, 111, 116]⟩ : ByteArray), .string (⟨#[194, 183]⟩ : ByteArray), .string (⟨#[114, 97, 113, 117, 111]⟩ : ByteArray), .string (⟨#[194, 187]⟩ : ByteArray), .string (⟨#[102, 114, 97, 99, 49, 52]⟩ : ByteArray), .string (⟨#[194, 188]⟩ : ByteArray), .string (⟨#[102, 114, 97, 99, 49, 50]⟩ : ByteArray), .string (⟨#[194, 189]⟩ : ByteArray), .string (⟨#[102, 114, 97, 99, 51, 52]⟩ : ByteArray), .string (⟨#[194, 190]⟩ : ByteArray), .string (⟨#[105, 113, 117, 101, 115, 116]⟩ : ByteArray), .string (⟨#[194, 191]⟩ : ByteArray), .string (⟨#[116, 105, 109, 101, 115]⟩ : ByteArray), .string (⟨#[195, 151]⟩ : ByteArray), .string (⟨#[100, 105, 118, 105, 100, 101]⟩ : ByteArray), .string (⟨#[195, 183]⟩ : ByteArray), .string (⟨#[65, 117, 109, 108]⟩ : ByteArray), .string (⟨#[195, 132]⟩ : ByteArray), .string (⟨#[79, 117, 109, 108]⟩ : ByteArray), .string (⟨#[195, 150]⟩ : ByteArray), .string (⟨#[85, 117, 109, 108]⟩ : ByteArray), .string (⟨#[195, 156]⟩ : ByteArray), .string (⟨#[97, 117, 109, 108]⟩ : ByteArray), .string (⟨#[195, 164]⟩ : ByteArray), .string (⟨#[111, 117, 109, 108]⟩ : ByteArray), .string (⟨#[195, 182]⟩ : ByteArray), .string (⟨#[117, 117, 109, 108]⟩ : ByteArray), .string (⟨#[195, 188]⟩ : ByteArray), .string (⟨#[115, 122, 108, 105, 103]⟩ : ByteArray), .string (⟨#[195, 159]⟩ : ByteArray), .string (⟨#[97, 103, 114, 97, 118, 101]⟩ : ByteArray), .string (⟨#[195, 160]⟩ : ByteArray), .string (⟨#[101, 97, 99, 117, 116, 101]⟩ : ByteArray), .string (⟨#[195, 169]⟩ : ByteArray), .string (⟨#[101, 103, 114, 97, 118, 101]⟩ : ByteArray), .string (⟨#[195, 168]⟩ : ByteArray), .string (⟨#[99, 99, 101, 100, 105, 108]⟩ : ByteArray), .string (⟨#[195, 167]⟩ : ByteArray), .string (⟨#[110, 116, 105, 108, 100, 101]⟩ : ByteArray), .string (⟨#[195, 177]⟩ : ByteArray)]) (ok := fun _ => True) (okp := fun _ => True) ?hr ?hp (fun _ hk => hk) trivial (Below.refl _ _) (Nat.le_refl _) (by simp) ?_; (case hd => rfl); (case hg => rfl); (case hr => first | (go_simp; done) | (go_simp; rfl)); (case hp => exact (Reps.c2 (show Kd.M k107 _ _ _ (⟨(⟨#[65, 77, 80]⟩ : ByteArray), (⟨#[38]⟩ : ByteArray)⟩ : S107) [.string (⟨#[65, 77, 80]⟩ : ByteArray), .string (⟨#[38]⟩ : ByteArray)] from (k107_mkM _ _ _ (⟨(⟨#[65, 77, 80]⟩ : ByteArray), (⟨#[38]⟩ : ByteArray)⟩ : S107) )) (Reps.c2 (show Kd.M k107 _ _ _ (⟨(⟨#[97, 109, 112]⟩ : ByteArray), (⟨#[38]⟩ : ByteArray)⟩ : S107) [.string (⟨#[97, 109, 112]⟩ : ByteArray), .string (⟨#[38]⟩ : ByteArray)] from (k107_mkM _ _ _ (⟨(⟨#[97, 109, 112]⟩ : ByteArray), (⟨#[38]⟩ : ByteArray)⟩ : S107) )) (Reps.c2 (show Kd.M k107 _ _ _ (⟨(⟨#[67, 79, 80, 89]⟩ : ByteArray), (⟨#[194, 169]⟩ : ByteArray)⟩ : S107) [.string (⟨#[67, 79, 80, 89]⟩ : ByteArray), .string (⟨#[194, 169]⟩ : ByteArray)] from (k107_mkM _ _ _ (⟨(⟨#[67, 79, 80, 89]⟩ : ByteArray), (⟨#[194, 169]⟩ : ByteArray)⟩ : S107) )) (Reps.c2 (show Kd.M k107 _ _ _ (⟨(⟨#[99, 111, 112, 121]⟩ : ByteArray), (⟨#[194, 169]⟩ : ByteArray)⟩ : S107) [.string (⟨#[99, 111, 112, 121]⟩ : ByteArray), .string (⟨#[194, 169]⟩ : ByteArray)] from (k107_mkM _ _ _ (⟨(⟨#[99, 111, 112, 121]⟩ : ByteArray), (⟨#[194, 169]⟩ : ByteArray)⟩ : S107) )) (Reps.c2 (show Kd.M k107 _ _ _ (⟨(⟨#[71, 84]⟩ : ByteArray), (⟨#[62]⟩ : ByteArray)⟩ : S107) [.string (⟨#[71, 84]⟩ : ByteArray), .string (⟨#[62]⟩ : ByteArray)] from (k107_mkM _ _ _ (⟨(⟨#[71, 84]⟩ : ByteArray), (⟨#[62]⟩ : ByteArray)⟩ : S107) )) (Reps.c2 (show Kd.M k107 _ _ _ (⟨(⟨#[103, 116]⟩ : ByteArray), (⟨#[62]⟩ : ByteArray)⟩ : S107) [.string (⟨#[103, 116]⟩ : ByteArray), .string (⟨#[62]⟩ : ByteArray)] from (k107_mkM _ _ _ (⟨(⟨#[103, 116]⟩ : ByteArray), (⟨#[62]⟩ : ByteArray)⟩ : S107) )) (Reps.c2 (show Kd.M k107 _ _ _ (⟨(⟨#[76, 84]⟩ : ByteArray), (⟨#[60]⟩ : ByteArray)⟩ : S107) [.string (⟨#[76, 84]⟩ : ByteArray), .string (⟨#[60]⟩ : ByteArray)] from (k107_mkM _ _ _ (⟨(⟨#[76, 84]⟩ : ByteArray), (⟨#[60]⟩ : ByteArray)⟩ : S107) )) (Reps.c2 (show Kd.M k107 _ _ _ (⟨(⟨#[108, 116]⟩ : ByteArray), (⟨#[60]⟩ : ByteArray)⟩ : S107) [.string (⟨#[108, 116]⟩ : ByteArray), .string (⟨#[60]⟩ : ByteArray)] from (k107_mkM _ _ _ (⟨(⟨#[108, 116]⟩ : ByteArray), (⟨#[60]⟩ : ByteArray)⟩ : S107) )) (Reps.c2 (show Kd.M k107 _ _ _ (⟨(⟨#[81, 85, 79, 84]⟩ : ByteArray), (⟨#[34]⟩ : ByteArray)⟩ : S107) [.string (⟨#[81, 85, 79, 84]⟩ : ByteArray), .string (⟨#[34]⟩ : ByteArray)] from (k107_mkM _ _ _ (⟨(⟨#[81, 85, 79, 84]⟩ : ByteArray), (⟨#[34]⟩ : ByteArray)⟩ : S107) )) (Reps.c2 (show Kd.M k107 _ _ _ (⟨(⟨#[113, 117, 111, 116]⟩ : ByteArray), (⟨#[34]⟩ : ByteArray)⟩ : S107) [.string (⟨#[113, 117, 111, 116]⟩ : ByteArray), .string (⟨#[34]⟩ : ByteArray)] from (k107_mkM _ _ _ (⟨(⟨#[113, 117, 111, 116]⟩ : ByteArray), (⟨#[34]⟩ : ByteArray)⟩ : S107) )) (Reps.c2 (show Kd.M k107 _ _ _ (⟨(⟨#[82, 69, 71]⟩ : ByteArray), (⟨#[194, 174]⟩ : ByteArray)⟩ : S107) [.string (⟨#[82, 69, 71]⟩ : ByteArray), .string (⟨#[194, 174]⟩ : ByteArray)] from (k107_mkM _ _ _ (⟨(⟨#[82, 69, 71]⟩ : ByteArray), (⟨#[194, 174]⟩ : ByteArray)⟩ : S107) )) (Reps.c2 (show Kd.M k107 _ _ _ (⟨(⟨#[114, 101, 103]⟩ : ByteArray), (⟨#[194, 174]⟩ : ByteArray)⟩ : S107) [.string (⟨#[114, 101, 103]⟩ : ByteArray), .string (⟨#[194, 174]⟩ : ByteArray)] from (k107_mkM _ _ _ (⟨(⟨#[114, 101, 103]⟩ : ByteArray), (⟨#[194, 174]⟩ : ByteArray)⟩ : S107) )) (Reps.c2 (show Kd.M k107 _ _ _ (⟨(⟨#[110, 98, 115, 112]⟩ : ByteArray), (⟨#[194, 160]⟩ : ByteArray)⟩ : S107) [.string (⟨#[110, 98, 115, 112]⟩ : ByteArray), .string (⟨#[194, 160]⟩ : ByteArray)] from (k107_mkM _ _ _ (⟨(⟨#[110, 98, 115, 112]⟩ : ByteArray), (⟨#[194, 160]⟩ : ByteArray)⟩ : S107) )) (Reps.c2 (show Kd.M k107 _ _ _ (⟨(⟨#[105, 101, 120, 99, 108]⟩ : ByteArray), (⟨#[194, 161]⟩ : ByteArray)⟩ : S107) [.string (⟨#[105, 101, 120, 99, 108]⟩ : ByteArray), .string (⟨#[194, 161]⟩ : ByteArray)] from (k107_mkM _ _ _ (⟨(⟨#[105, 101, 120, 99, 108]⟩ : ByteArray), (⟨#[194, 161]⟩ : ByteArray)⟩ : S107) )) (Reps.c2 (show Kd.M k107 _ _ _ (⟨(⟨#[99, 101, 110, 116]⟩ : ByteArray), (⟨#[194, 162]⟩ : ByteArray)⟩ : S107) [.string (⟨#[99, 101, 110, 116]⟩ : ByteArray), .string (⟨#[194, 162]⟩ : ByteArray)] from (k107_mkM _ _ _ (⟨(⟨#[99, 101, 110, 116]⟩ : ByteArray), (⟨#[194, 162]⟩ : ByteArray)⟩ : S107) )) (Reps.c2 (show Kd.M k107 _ _ _ (⟨(⟨#[112, 111, 117, 110, 100]⟩ : ByteArray), (⟨#[194, 163]⟩ : ByteArray)⟩ : S107) [.string (⟨#[112, 111, 117, 110, 100]⟩ : ByteArray), .string (⟨#[194, 163]⟩ : ByteArray)] from (k107_mkM _ _ _ (⟨(⟨#[112, 111, 117, 110, 100]⟩ : ByteArray), (⟨#[194, 163]⟩ : ByteArray)⟩ : S107) )) (Reps.c2 (show Kd.M k107 _ _ _ (⟨(⟨#[121, 101, 110]⟩ : ByteArray), (⟨#[194, 165]⟩ : ByteArray)⟩ : S107) [.string (⟨#[121, 101, 110]⟩ : ByteArray), .string (⟨#[194, 165]⟩ : ByteArray)] from (k107_mkM _ _ _ (⟨(⟨#[121, 101, 110]⟩ : ByteArray), (⟨#[194, 165]⟩ : ByteArray)⟩ : S107) )) (Reps.c2 (show Kd.M k107 _ _ _ (⟨(⟨#[115, 101, 99, 116]⟩ : ByteArray), (⟨#[194, 167]⟩ : ByteArray)⟩ : S107) [.string (⟨#[115, 101, 99, 116]⟩ : ByteArray), .string (⟨#[194, 167]⟩ : ByteArray)] from (k107_mkM _ _ _ (⟨(⟨#[115, 101, 99, 116]⟩ : ByteArray), (⟨#[194, 167]⟩ : ByteArray)⟩ : S107) )) (Reps.c2 (show Kd.M k107 _ _ _ (⟨(⟨#[117, 109, 108]⟩ : ByteArray), (⟨#[194, 168]⟩ : ByteArray)⟩ : S107) [.string (⟨#[117, 109, 108]⟩ : ByteArray), .string (⟨#[194, 168]⟩ : ByteArray)] from (k107_mkM _ _ _ (⟨(⟨#[117, 109, 108]⟩ : ByteArray), (⟨#[194, 168]⟩ : ByteArray)⟩ : S107) )) (Reps.c2 (show Kd.M k107 _ _ _ (⟨(⟨#[108, 97, 113, 117, 111]⟩ : ByteArray), (⟨#[194, 171]⟩ : ByteArray)⟩ : S107) [.string (⟨#[108, 97, 113, 117, 111]⟩ : ByteArray), .string (⟨#[194, 171]⟩ : ByteArray)] from (k107_mkM _ _ _ (⟨(⟨#[108, 97, 113, 117, 111]⟩ : ByteArray), (⟨#[194, 171]⟩ : ByteArray)⟩ : S107) )) (Reps.c2 (show Kd.M k107 _ _ _ (⟨(⟨#[110, 111, 116]⟩ : ByteArray), (⟨#[194, 172]⟩ : ByteArray)⟩ : S107) [.string (⟨#[110, 111, 116]⟩ : ByteArray), .string (⟨#[194, 172]⟩ : ByteArray)] from (k107_mkM _ _ _ (⟨(⟨#[110, 111, 116]⟩ : ByteArray), (⟨#[194, 172]⟩ : ByteArray)⟩ : S107) )) (Reps.c2 (show Kd.M k107 _ _ _ (⟨(⟨#[115, 104, 121]⟩ : ByteArray), (⟨#[194, 173]⟩ : ByteArray)⟩ : S107) [.string (⟨#[115, 104, 121]⟩ : ByteArray), .string (⟨#[194, 173]⟩ : ByteArray)] from (k107_mkM _ _ _ (⟨(⟨#[115, 104, 121]⟩ : ByteArray), (⟨#[194, 173]⟩ : ByteArray)⟩ : S107) )) (Reps.c2 (show Kd.M k107 _ _ _ (⟨(⟨#[100, 101, 103]⟩ : ByteArray), (⟨#[194, 176]⟩ : ByteArray)⟩ : S107) [.string (⟨#[100, 101, 103]⟩ : ByteArray), .string (⟨#[194, 176]⟩ : ByteArray)] from (k107_mkM _ _ _ (⟨(⟨#[100, 101, 103]⟩ : ByteArray), (⟨#[194, 176]⟩ : ByteArray)⟩ : S107) )) (Reps.c2 (show Kd.M k107 _ _ _ (⟨(⟨#[112, 108, 117, 115, 109, 110]⟩ : ByteArray), (⟨#[194, 177]⟩ : ByteArray)⟩ : S107) [.string (⟨#[112, 108, 117, 115, 109, 110]⟩ : ByteArray), .string (⟨#[194, 177]⟩ : ByteArray)] from (k107_mkM _ _ _ (⟨(⟨#[112, 108, 117, 115, 109, 110]⟩ : ByteArray), (⟨#[194, 177]⟩ : ByteArray)⟩ : S107) )) (Reps.c2 (show Kd.M k107 _ _ _ (⟨(⟨#[115, 117, 112, 49]⟩ : ByteArray), (⟨#[194, 185]⟩ : ByteArray)⟩ : S107) [.string (⟨#[115, 117, 112, 49]⟩ : ByteArray), .string (⟨#[194, 185]⟩ : ByteArray)] from (k107_mkM _ _ _ (⟨(⟨#[115, 117, 112, 49]⟩ : ByteArray), (⟨#[194, 185]⟩ : ByteArray)⟩ : S107) )) (Reps.c2 (show Kd.M k107 _ _ _ (⟨(⟨#[115, 117, 112, 50]⟩ : ByteArray), (⟨#[194, 178]⟩ : ByteArray)⟩ : S107) [.string (⟨#[115, 117, 112, 50]⟩ : ByteArray), .string (⟨#[194, 178]⟩ : ByteArray)] from (k107_mkM _ _ _ (⟨(⟨#[115, 117, 112, 50]⟩ : ByteArray), (⟨#[194, 178]⟩ : ByteArray)⟩ : S107) )) (Reps.c2 (show Kd.M k107 _ _ _ (⟨(⟨#[115, 117, 112, 51]⟩ : ByteArray), (⟨#[194, 179]⟩ : ByteArray)⟩ : S107) [.string (⟨#[115, 117, 112, 51]⟩ : ByteArray), .string (⟨#[194, 179]⟩ : ByteArray)] from (k107_mkM _ _ _ (⟨(⟨#[115, 117, 112, 51]⟩ : ByteArray), (⟨#[194, 179]⟩ : ByteArray)⟩ : S107) )) (Reps.c2 (show Kd.M k107 _ _ _ (⟨(⟨#[97, 99, 117, 116, 101]⟩ : ByteArray), (⟨#[194, 180]⟩ : ByteArray)⟩ : S107) [.string (⟨#[97, 99, 117, 116, 101]⟩ : ByteArray), .string (⟨#[194, 180]⟩ : ByteArray)] from (k107_mkM _ _ _ (⟨(⟨#[97, 99, 117, 116, 101]⟩ : ByteArray), (⟨#[194, 180]⟩ : ByteArray)⟩ : S107) )) (Reps.c2 (show Kd.M k107 _ _ _ (⟨(⟨#[109, 105, 99, 114, 111]⟩ : ByteArray), (⟨#[194, 181]⟩ : ByteArray)⟩ : S107) [.string (⟨#[109, 105, 99, 114, 111]⟩ : ByteArray), .string (⟨#[194, 181]⟩ : ByteArray)] from (k107_mkM _ _ _ (⟨(⟨#[109, 105, 99, 114, 111]⟩ : ByteArray), (⟨#[194, 181]⟩ : ByteArray)⟩ : S107) )) (Reps.c2 (show Kd.M k107 _ _ _ (⟨(⟨#[112, 97, 114, 97]⟩ : ByteArray), (⟨#[194, 182]⟩ : ByteArray)⟩ : S107) [.string (⟨#[112, 97, 114, 97]⟩ : ByteArray), .string (⟨#[194, 182]⟩ : ByteArray)] from (k107_mkM _ _ _ (⟨(⟨#[112, 97, 114, 97]⟩ : ByteArray), (⟨#[194, 182]⟩ : ByteArray)⟩ : S107) )) (Reps.c2 (show Kd.M k107 _ _ _ (⟨(⟨#[109, 105, 100, 100, 111, 116]⟩ : ByteArray), (⟨#[194, 183]⟩ : ByteArray)⟩ : S107) [.string (⟨#[109, 105, 100, 100, 111, 116]⟩ : ByteArray), .string (⟨#[194, 183]⟩ : ByteArray)] from (k107_mkM _ _ _ (⟨(⟨#[109, 105, 100, 100, 111, 116]⟩ : ByteArray), (⟨#[194, 183]⟩ : ByteArray)⟩ : S107) )) (Reps.c2 (show Kd.M k107 _ _ _ (⟨(⟨#[114, 97, 113, 117, 111]⟩ : ByteArray), (⟨#[194, 187]⟩ : ByteArray)⟩ : S107) [.string (⟨#[114, 97, 113, 117, 111]⟩ : ByteArray), .string (⟨#[194, 187]⟩ : ByteArray)] from (k107_mkM _ _ _ (⟨(⟨#[114, 97, 113, 117, 111]⟩ : ByteArray), (⟨#[194, 187]⟩ : ByteArray)⟩ : S107) )) (Reps.c2 (show Kd.M k107 _ _ _ (⟨(⟨#[102, 114, 97, 99, 49, 52]⟩ : ByteArray), (⟨#[194, 188]⟩ : ByteArray)⟩ : S107) [.string (⟨#[102, 114, 97, 99, 49, 52]⟩ : ByteArray), .string (⟨#[194, 188]⟩ : ByteArray)] from (k107_mkM _ _ _ (⟨(⟨#[102, 114, 97, 99, 49, 52]⟩ : ByteArray), (⟨#[194, 188]⟩ : ByteArray)⟩ : S107) )) (Reps.c2 (show Kd.M k107 _ _ _ (⟨(⟨#[102, 114, 97, 99, 49, 50]⟩ : ByteArray), (⟨#[194, 189]⟩ : ByteArray)⟩ : S107) [.string (⟨#[102, 114, 97, 99, 49, 50]⟩ : ByteArray), .string (⟨#[194, 189]⟩ : ByteArray)] from (k107_mkM _ _ _ (⟨(⟨#[102, 114, 97, 99, 49, 50]⟩ : ByteArray), (⟨#[194, 189]⟩ : ByteArray)⟩ : S107) )) (Reps.c2 (show Kd.M k107 _ _ _ (⟨(⟨#[102, 114, 97, 99, 51, 52]⟩ : ByteArray), (⟨#[194, 190]⟩ : ByteArray)⟩ : S107) [.string (⟨#[102, 114, 97, 99, 51, 52]⟩ : ByteArray), .string (⟨#[194, 190]⟩ : ByteArray)] from (k107_mkM _ _ _ (⟨(⟨#[102, 114, 97, 99, 51, 52]⟩ : ByteArray), (⟨#[194, 190]⟩ : ByteArray)⟩ : S107) )) (Reps.c2 (show Kd.M k107 _ _ _ (⟨(⟨#[105, 113, 117, 101, 115, 116]⟩ : ByteArray), (⟨#[194, 191]⟩ : ByteArray)⟩ : S107) [.string (⟨#[105, 113, 117, 101, 115, 116]⟩ : ByteArray), .string (⟨#[194, 191]⟩ : ByteArray)] from (k107_mkM _ _ _ (⟨(⟨#[105, 113, 117, 101, 115, 116]⟩ : ByteArray), (⟨#[194, 191]⟩ : ByteArray)⟩ : S107) )) (Reps.c2 (show Kd.M k107 _ _ _ (⟨(⟨#[116, 105, 109, 101, 115]⟩ : ByteArray), (⟨#[195, 151]⟩ : ByteArray)⟩ : S107) [.string (⟨#[116, 105, 109, 101, 115]⟩ : ByteArray), .string (⟨#[195, 151]⟩ : ByteArray)] from (k107_mkM _ _ _ (⟨(⟨#[116, 105, 109, 101, 115]⟩ : ByteArray), (⟨#[195, 151]⟩ : ByteArray)⟩ : S107) )) (Reps.c2 (show Kd.M k107 _ _ _ (⟨(⟨#[100, 105, 118, 105, 100, 101]⟩ : ByteArray), (⟨#[195, 183]⟩ : ByteArray)⟩ : S107) [.string (⟨#[100, 105, 118, 105, 100, 101]⟩ : ByteArray), .string (⟨#[195, 183]⟩ : ByteArray)] from (k107_mkM _ _ _ (⟨(⟨#[100, 105, 118, 105, 100, 101]⟩ : ByteArray), (⟨#[195, 183]⟩ : ByteArray)⟩ : S107) )) (Reps.c2 (show Kd.M k107 _ _ _ (⟨(⟨#[65, 117, 109, 108]⟩ : ByteArray), (⟨#[195, 132]⟩ : ByteArray)⟩ : S107) [.string (⟨#[65, 117, 109, 108]⟩ : ByteArray), .string (⟨#[195, 132]⟩ : ByteArray)] from (k107_mkM _ _ _ (⟨(⟨#[65, 117, 109, 108]⟩ : ByteArray), (⟨#[195, 132]⟩ : ByteArray)⟩ : S107) )) (Reps.c2 (show Kd.M k107 _ _ _ (⟨(⟨#[79, 117, 109, 108]⟩ : ByteArray), (⟨#[195, 150]⟩ : ByteArray)⟩ : S107) [.string (⟨#[79, 117, 109, 108]⟩ : ByteArray), .string (⟨#[195, 150]⟩ : ByteArray)] from (k107_mkM _ _ _ (⟨(⟨#[79, 117, 109, 108]⟩ : ByteArray), (⟨#[195, 150]⟩ : ByteArray)⟩ : S107) )) (Reps.c2 (show Kd.M k107 _ _ _ (⟨(⟨#[85, 117, 109, 108]⟩ : ByteArray), (⟨#[195, 156]⟩ : ByteArray)⟩ : S107) [.string (⟨#[85, 117, 109, 108]⟩ : ByteArray), .string (⟨#[195, 156]⟩ : ByteArray)] from (k107_mkM _ _ _ (⟨(⟨#[85, 117, 109, 108]⟩ : ByteArray), (⟨#[195, 156]⟩ : ByteArray)⟩ : S107) )) (Reps.c2 (show Kd.M k107 _ _ _ (⟨(⟨#[97, 117, 109, 108]⟩ : ByteArray), (⟨#[195, 164]⟩ : ByteArray)⟩ : S107) [.string (⟨#[97, 117, 109, 108]⟩ : ByteArray), .string (⟨#[195, 164]⟩ : ByteArray)] from (k107_mkM _ _ _ (⟨(⟨#[97, 117, 109, 108]⟩ : ByteArray), (⟨#[195, 164]⟩ : ByteArray)⟩ : S107) )) (Reps.c2 (show Kd.M k107 _ _ _ (⟨(⟨#[111, 117, 109, 108]⟩ : ByteArray), (⟨#[195, 182]⟩ : ByteArray)⟩ : S107) [.string (⟨#[111, 117, 109, 108]⟩ : ByteArray), .string (⟨#[195, 182]⟩ : ByteArray)] from (k107_mkM _ _ _ (⟨(⟨#[111, 117, 109, 108]⟩ : ByteArray), (⟨#[195, 182]⟩ : ByteArray)⟩ : S107) )) (Reps.c2 (show Kd.M k107 _ _ _ (⟨(⟨#[117, 117, 109, 108]⟩ : ByteArray), (⟨#[195, 188]⟩ : ByteArray)⟩ : S107) [.string (⟨#[117, 117, 109, 108]⟩ : ByteArray), .string (⟨#[195, 188]⟩ : ByteArray)] from (k107_mkM _ _ _ (⟨(⟨#[117, 117, 109, 108]⟩ : ByteArray), (⟨#[195, 188]⟩ : ByteArray)⟩ : S107) )) (Reps.c2 (show Kd.M k107 _ _ _ (⟨(⟨#[115, 122, 108, 105, 103]⟩ : ByteArray), (⟨#[195, 159]⟩ : ByteArray)⟩ : S107) [.string (⟨#[115, 122, 108, 105, 103]⟩ : ByteArray), .string (⟨#[195, 159]⟩ : ByteArray)] from (k107_mkM _ _ _ (⟨(⟨#[115, 122, 108, 105, 103]⟩ : ByteArray), (⟨#[195, 159]⟩ : ByteArray)⟩ : S107) )) (Reps.c2 (show Kd.M k107 _ _ _ (⟨(⟨#[97, 103, 114, 97, 118, 101]⟩ : ByteArray), (⟨#[195, 160]⟩ : ByteArray)⟩ : S107) [.string (⟨#[97, 103, 114, 97, 118, 101]⟩ : ByteArray), .string (⟨#[195, 160]⟩ : ByteArray)] from (k107_mkM _ _ _ (⟨(⟨#[97, 103, 114, 97, 118, 101]⟩ : ByteArray), (⟨#[195, 160]⟩ : ByteArray)⟩ : S107) )) (Reps.c2 (show Kd.M k107 _ _ _ (⟨(⟨#[101, 97, 99, 117, 116, 101]⟩ : ByteArray), (⟨#[195, 169]⟩ : ByteArray)⟩ : S107) [.string (⟨#[101, 97, 99, 117, 116, 101]⟩ : ByteArray), .string (⟨#[195, 169]⟩ : ByteArray)] from (k107_mkM _ _ _ (⟨(⟨#[101, 97, 99, 117, 116, 101]⟩ : ByteArray), (⟨#[195, 169]⟩ : ByteArray)⟩ : S107) )) (Reps.c2 (show Kd.M k107 _ _ _ (⟨(⟨#[101, 103, 114, 97, 118, 101]⟩ : ByteArray), (⟨#[195, 168]⟩ : ByteArray)⟩ : S107) [.string (⟨#[101, 103, 114, 97, 118, 101]⟩ : ByteArray), .string (⟨#[195, 168]⟩ : ByteArray)] from (k107_mkM _ _ _ (⟨(⟨#[101, 103, 114, 97, 118, 101]⟩ : ByteArray), (⟨#[195, 168]⟩ : ByteArray)⟩ : S107) )) (Reps.c2 (show Kd.M k107 _ _ _ (⟨(⟨#[99, 99, 101, 100, 105, 108]⟩ : ByteArray), (⟨#[195, 167]⟩ : ByteArray)⟩ : S107) [.string (⟨#[99, 99, 101, 100, 105, 108]⟩ : ByteArray), .string (⟨#[195, 167]⟩ : ByteArray)] from (k107_mkM _ _ _ (⟨(⟨#[99, 99, 101, 100, 105, 108]⟩ : ByteArray), (⟨#[195, 167]⟩ : ByteArray)⟩ : S107) )) (Reps.c2 (show Kd.M k107 _ _ _ (⟨(⟨#[110, 116, 105, 108, 100, 101]⟩ : ByteArray), (⟨#[195, 177]⟩ : ByteArray)⟩ : S107) [.string (⟨#[110, 116, 105, 108, 100, 101]⟩ : ByteArray), .string (⟨#[195, 177]⟩ : ByteArray)] from (k107_mkM _ _ _ (⟨(⟨#[110, 116, 105, 108, 100, 101]⟩ : ByteArray), (⟨#[195, 177]⟩ : ByteArray)⟩ : S107) )) (Reps.none _ _)))))))))))))))))))))))))))))))))))))))))))))))))))); intro v103 w1 ho2 hb hg_ hnew_; clear hg_ hnew_; (first | rw [← Ny102.out] at ho2 | (simp only [Int.reduceToNat] at ho2; rw [← Ny102.out] at ho2)); have n0_ := Aside0.mk (Kd.R_lower ho2 (below_size (by repeat (first | (with_reducible first | exact HB.out | apply below_alloc | apply pw_below_drewN | apply below_drew1) | exact HB.out)))); have n1_ := Aside0.mk (below_step (by repeat (first | (with_reducible first | exact HB.out | apply below_alloc | apply pw_below_drewN | apply below_drew1) | exact HB.out)) hb); clear HB; have HO104 := n0_; have HB := n1_; clear n0_ n1_; clear hb ho2))
  go_ret
  exact ⟨_, by first | rfl | (simp [errW_none, errW_some] <;> rfl) | (simp [*, errW_none, errW_some] <;> rfl), by (with_reducible repeat (first | apply Kd.R_alloc | apply Kd.R_drewN | apply Kd.R_drew)); exact HO104.out, by repeat (first | (with_reducible first | exact HB.out | apply below_alloc | apply pw_below_drewN | apply below_drew1) | exact HB.out)⟩
end Go.Proofs.YtoacojkmclngmaaGreatDoor.Pz
