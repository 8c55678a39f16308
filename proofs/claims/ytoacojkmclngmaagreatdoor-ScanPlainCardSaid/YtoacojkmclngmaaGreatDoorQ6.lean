/- Texts of the session, one behind the other: what the code computes, function by function, and its contracts. -/
import Derived.Deep.RegionHeld3
import Derived.Test.YtoacojkmclngmaaGreatDoorQ1
import Derived.Test.YtoacojkmclngmaaGreatDoorQ2
import Derived.Test.YtoacojkmclngmaaGreatDoorQ3
import Derived.Test.YtoacojkmclngmaaGreatDoorQ4
import Derived.Test.YtoacojkmclngmaaGreatDoorQ5
-- written by the session's own program hookprint.py
namespace Go.Proofs.YtoacojkmclngmaaGreatDoor.Pz
open Go.RowKit Go.Proofs.YtoacojkmclngmaaGreatDoorW.PrintWords Go.Proofs.YtoacojkmclngmaaGreatDoorW.PrintLast Go.Proofs.YtoacojkmclngmaaGreatDoorW.PrintMore
attribute [local go_sem] max2_int min2_int max_two min_two max_three min_three max_four min_four   -- for this text's walks alone
attribute [local go_sem] rune_str
set_option linter.unusedVariables false
set_option linter.unusedSimpArgs false

/-! ### scan_Scanner_step: function 59 (by hand) -/
-- IMPORTS: @S@HandWords Derived.Deep.RegionHeld3
/-- how much text there is ahead of what is held back, and how much is held back -/
def stepHold (s0_0 : ByteArray) (s0_3 : Int) (a1 : Bool) (n : Int) (sure : Bool) : Option (Int × Int) :=
  if sure = true then some (n, 0)
  else if a1 = true then some ((s0_0.size : Int), 0)
  else if n = (s0_0.size : Int) ∧ s0_3 < 2 then (scan_open.f s0_0).bind fun o => some (n, o)
  else if s0_3 < 2 then (if 0 ≤ n ∧ n ≤ (s0_0.size : Int) then (scan_open.f (s0_0.extract 0 n.toNat)).bind fun o => some (n, o) else none)
  else some (n, 0)
def stepText (s0_0 : ByteArray) (s0_1 : Bool) (s0_2 : ByteArray) (s0_3 : Int) (n : Int) : Option ((List (S33)) × Bool × ByteArray × Bool × ByteArray × Int) :=
  (scan_reader_skip.f s0_0 s0_1 n).bind fun k => (scan_mode_text.f s0_2 s0_3 k.1).bind fun t => some ([⟨1, ByteArray.empty, t, [], false⟩], true, k.2.1, k.2.2, s0_2, s0_3)
def stepMark (s0_0 : ByteArray) (s0_1 : Bool) (s0_2 : ByteArray) (s0_3 : Int) (a1 : Bool) : Option ((List (S33)) × Bool × ByteArray × Bool × ByteArray × Int) :=
  (scan_reader_markup.f s0_0 false).bind fun m =>
  if m.2.2.2.2.2.2 = true ∧ a1 = false then some ([], false, s0_0, s0_1, s0_2, s0_3)
  else if m.1 = 0 then some ([], true, m.2.2.2.2.2.1, s0_1, ByteArray.empty, 0)
  else if m.1 = 2 then (scan_Raw.f 8 m.2.1).bind fun r => some ([⟨m.1, m.2.1, m.2.2.1, m.2.2.2.1, m.2.2.2.2.1⟩], true, m.2.2.2.2.2.1, s0_1, m.2.1, r)
  else some ([⟨m.1, m.2.1, m.2.2.1, m.2.2.2.1, m.2.2.2.2.1⟩], true, m.2.2.2.2.2.1, s0_1, ByteArray.empty, 0)
def stepRest (s0_0 : ByteArray) (s0_1 : Bool) (s0_2 : ByteArray) (s0_3 : Int) (a1 sure : Bool) (nh : Int × Int) : Option ((List (S33)) × Bool × ByteArray × Bool × ByteArray × Int) :=
  if -9223372036854775808 ≤ nh.1 - nh.2 ∧ nh.1 - nh.2 ≤ 9223372036854775807 then
    if 0 < nh.1 - nh.2 then stepText s0_0 s0_1 s0_2 s0_3 (nh.1 - nh.2)
    else if sure = false ∨ s0_0.toList = [] then some ([], false, s0_0, s0_1, s0_2, s0_3)
    else stepMark s0_0 s0_1 s0_2 s0_3 a1
  else none
def scan_Scanner_step.f (s0_0 : ByteArray) (s0_1 : Bool) (s0_2 : ByteArray) (s0_3 : Int) (a1 : Bool) : Option ((List (S33)) × Bool × ByteArray × Bool × ByteArray × Int) :=
  (scan_Scanner_run.f s0_0 s0_1 s0_2 s0_3).bind fun q => (stepHold s0_0 s0_3 a1 q.1 q.2.1).bind fun nh => stepRest s0_0 s0_1 s0_2 s0_3 a1 q.2.1 nh
theorem run_same {s0 : ByteArray} {s1 : Bool} {s2 : ByteArray} {s3 : Int} {n : Int} {b : Bool} {r3 : ByteArray} {r4 : Bool} {r5 : ByteArray} {r6 : Int} (h : scan_Scanner_run.f s0 s1 s2 s3 = some (n, b, r3, r4, r5, r6)) : r3 = s0 ∧ r4 = s1 ∧ r5 = s2 ∧ r6 = s3 := by
  unfold scan_Scanner_run.f at h
  split at h
  · simp only [Option.some.injEq, Prod.mk.injEq] at h
    obtain ⟨_, _, rfl, rfl, rfl, rfl⟩ := h
    exact ⟨rfl, rfl, rfl, rfl⟩
  · split at h
    · obtain ⟨e, _, h⟩ := Option.bind_eq_some_iff.1 h
      simp only [Option.some.injEq, Prod.mk.injEq] at h
      obtain ⟨_, _, rfl, rfl, rfl, rfl⟩ := h
      exact ⟨rfl, rfl, rfl, rfl⟩
    · split at h
      · obtain ⟨e, _, h⟩ := Option.bind_eq_some_iff.1 h
        simp only [Option.some.injEq, Prod.mk.injEq] at h
        obtain ⟨_, _, rfl, rfl, rfl, rfl⟩ := h
        exact ⟨rfl, rfl, rfl, rfl⟩
      · cases h
/-- One token in a row of its own. -/
theorem V_one {W : World} {ok : Nat → Prop} {b base : Nat} {x : S33} {cs : List Value} (hok : ok b) (hb : W.heap[b]? = some (.cells cs.toArray 33 (0, 0))) (hFK : Kd.FK k33 W ok x cs) : Kd.V k33 33 W base ok (.slice (some ⟨b, 0, none⟩) 1 1) [x] := by
  refine Kd.V_mk (xs := [x]) (by simp) ?_
  intro W' hW
  have hlt : b < W.heap.size := by
    rcases Nat.lt_or_ge b W.heap.size with h | h
    · exact h
    · rw [Array.getElem?_eq_none h] at hb; cases hb
  have hb' := (hW b hok hlt).trans hb
  refine ⟨rfl, by simp, fun _ => ⟨⟨b, 0, none⟩, rfl, fun j p hj => ?_⟩⟩
  cases j with
  | succ j => simp at hj
  | zero =>
    simp only [List.getElem?_cons_zero, Option.some.injEq] at hj
    subst hj
    refine ⟨cs, k33.K_len (Kd.FK_now hFK), hFK W' hW, fun i u hu => ?_⟩
    have h2 := blk_cell hb' i
    simp only [Nat.zero_mul, Nat.zero_add, Addr.add]
    have e : (if i = 0 then (⟨b, 0, none⟩ : Addr) else ⟨b, i, none⟩) = ⟨b, i, none⟩ := by
      by_cases h0 : i = 0
      · rw [if_pos h0, h0]
      · rw [if_neg h0]
    first | rw [e] | rw [show (if i = 0 then (⟨b, 0, none⟩ : Addr) else ⟨b, 0 + i, none⟩) = ⟨b, i, none⟩ from by rw [Nat.zero_add]; exact e]
    rw [h2]
    simpa using hu
/-- What was done to a new block leaves the elder ones. -/
theorem keep_new {w W : World} {o : Obj} (h : KeepBut (w.alloc o) W w.heap.size none) (g : Nat) : KeepBut w W g none := by
  have hs : (w.alloc o).heap.size = w.heap.size + 1 := by show (w.heap.push o).size = _; exact Array.size_push _
  refine ⟨by have := h.1; omega, fun i hi _ hr => ?_⟩
  rw [h.2 i (by omega) (by omega) hr]
  show (w.heap.push o)[i]? = w.heap[i]?
  rw [Array.getElem?_push, if_neg (Nat.ne_of_lt hi)]
set_option maxHeartbeats 1000000 in
set_option maxRecDepth 100000 in
/-- skip, at the reader that lies in a Scanner -/
theorem scan_reader_skip.callsE (g : Nat) (s0_0 : ByteArray) (s0_1 : Bool) (s0_2 : ByteArray) (s0_3 : Int) (a1 : Int) (r1 : ByteArray) (r2 : ByteArray) (r3 : Bool) (w0 w : World) (hI : IsS56 w0 w g s0_0 s0_1 s0_2 s0_3) (hB : Below w0.heap.size w0 w) (h : scan_reader_skip.f s0_0 s0_1 a1 = some (r1, r2, r3)) :
    Calls Tryz.prog 79 #[.pointer (some ⟨g, 0, none⟩), .int .i64 a1] w fun e w' => e = .returned (.string r1) ∧ IsS56 w0 w' g r2 r3 s0_2 s0_3 ∧ Below w0.heap.size w0 w' ∧ KeepBut w w' g none := by
  unfold scan_reader_skip.f at h
  split at h
  case isFalse => cases h
  rename_i h0
  simp only [Option.some.injEq, Prod.mk.injEq] at h
  obtain ⟨rfl, rfl, rfl⟩ := h
  obtain ⟨n, rfl⟩ : ∃ n : Nat, a1 = n := ⟨a1.toNat, by omega⟩
  have HI0 := Aside0.mk hI
  have HK := Aside0.mk (KeepBut.refl w g none)
  have HB := Aside0.mk hB
  obtain ⟨HGz8, hgz8⟩ := hI
  have hcz8_0 := cellS56_0 HGz8
  have hcz8_1 := cellS56_1 HGz8
  have hfz8_0 := blk_frozen HGz8 0
  have hfz8_1 := blk_frozen HGz8 1
  clear HGz8 hgz8 hB
  by_cases hlt : n ≤ s0_0.size
  · have e1 : min (n : Int).toNat s0_0.size = n := by simp; omega
    rw [e1]
    have hm : ¬ (s0_0.size : Int) < (n : Int) := by omega
    have hsz : (s0_0.extract 0 n).size = n := by rw [ByteArray.size_extract]; omega
    clear e1
    go_enter Tryz.func79, Tryz.ntmps79
    go_wp2
    repeat (go_quiet (fail); try go_wp2)
    go_ret
    exact ⟨rfl, by repeat (first | (with_reducible first | exact HI0.out | apply IsS56.drewN | apply IsS56.drew | apply IsS56.set_0) | exact HI0.out), by repeat (first | (with_reducible first | exact HB.out | apply pw_below_drewN | refine below_set ?_ (IsS56.ge HI0.out)) | exact HB.out), by repeat (first | (with_reducible first | exact HK.out | apply KeepBut.set_ | apply keep_drewN) | exact HK.out)⟩
  · have e1 : min (n : Int).toNat s0_0.size = s0_0.size := by simp; omega
    have hE : s0_0.extract s0_0.size s0_0.size = ByteArray.empty := by simp
    rw [e1, hE]
    have hm : (s0_0.size : Int) < (n : Int) := by omega
    have hsz : (s0_0.extract 0 s0_0.size).size = s0_0.size := by rw [ByteArray.size_extract]; omega
    clear e1
    go_enter Tryz.func79, Tryz.ntmps79
    go_wp2
    repeat (go_quiet (fail); try go_wp2)
    go_ret
    exact ⟨by simp, by repeat (first | (with_reducible first | exact HI0.out | apply IsS56.drewN | apply IsS56.drew | apply IsS56.set_0) | exact HI0.out), by repeat (first | (with_reducible first | exact HB.out | apply pw_below_drewN | refine below_set ?_ (IsS56.ge HI0.out)) | exact HB.out), by repeat (first | (with_reducible first | exact HK.out | apply KeepBut.set_ | apply keep_drewN) | exact HK.out)⟩
set_option maxHeartbeats 4000000 in
set_option maxRecDepth 100000 in
theorem scan_Scanner_step.calls (g : Nat) (s0_0 : ByteArray) (s0_1 : Bool) (s0_2 : ByteArray) (s0_3 : Int) (a1 : Bool) (r1 : List (S33)) (r2 : Bool) (r3 : ByteArray) (r4 : Bool) (r5 : ByteArray) (r6 : Int) (w0 w : World) (hI : IsS56 w0 w g s0_0 s0_1 s0_2 s0_3) (hB : Below w0.heap.size w0 w) (hG : Glob w0) (h : scan_Scanner_step.f s0_0 s0_1 s0_2 s0_3 a1 = some (r1, r2, r3, r4, r5, r6)) :
    Calls Tryz.prog 59 #[.pointer (some ⟨g, 0, none⟩), .bool a1] w fun e w' => ∃ v0_ : Value, e = .returned (.tuple #[v0_, .bool r2]) ∧ Kd.V k33 33 w' w.heap.size (fun k_ => (w.heap.size ≤ k_)) v0_ r1 ∧ IsS56 w0 w' g r3 r4 r5 r6 ∧ Below w0.heap.size w0 w' ∧ KeepBut w w' g none := by
  unfold scan_Scanner_step.f at h
  replace h := Option.bind_eq_some_iff.1 h
  obtain ⟨⟨n, sure, z0, z1, z2, z3⟩, hr, h⟩ := h
  obtain ⟨rfl, rfl, rfl, rfl⟩ := run_same hr
  replace h := Option.bind_eq_some_iff.1 h
  obtain ⟨⟨n2, hold⟩, hh, h⟩ := h
  simp only at hh h
  have HR := Aside0.mk hr
  have HH := Aside0.mk hh
  have HS := Aside0.mk h
  clear hr hh h
  have HI0 := Aside0.mk hI
  have HK0 := Aside0.mk (KeepBut.refl w g none)
  have HB0 := Aside0.mk hB
  have HG0 := Aside0.mk hG
  clear hI hB hG
  go_enter Tryz.func59, Tryz.ntmps59
  go_upto_block 0 with (first | (go_at_call 76; (with_reducible refine (scan_Scanner_run.calls g z0 z1 z2 z3 n sure z0 z1 z2 z3 w0 _ HI0.out HB0.out HG0.out HR.out).mono ?_); rintro e w1 ⟨rfl, hi, hb, hk⟩; have HI1 := Aside0.mk hi; have HB1 := Aside0.mk hb; have HK1 := Aside0.mk (KeepBut.trans HK0.out hk (.inl rfl)); clear hi hb hk))
  go_cut [6, 8] (fun v6 v8 wc => v6 = .int .i64 n2 ∧ v8 = .int .i64 hold ∧ Aside0 (IsS56 w0 wc g z0 z1 z2 z3) ∧ Aside0 (Below w0.heap.size w0 wc) ∧ Aside0 (KeepBut w wc g none))
  case first =>
    clear HS
    have hh := HH.out
    clear HH
    unfold stepHold at hh
    obtain ⟨HGz, hgz⟩ := HI1.out
    have hc0 := cellS56_0 HGz
    have hc3 := cellS56_3 HGz
    clear HGz hgz
    cases sure with
    | true =>
      rw [if_pos rfl] at hh
      simp only [Option.some.injEq, Prod.mk.injEq] at hh
      obtain ⟨rfl, rfl⟩ := hh
      go_wp2
      go_meet
      case rel => exact ⟨rfl, rfl, HI1, HB1, HK1⟩
    | false =>
      rw [if_neg (by simp)] at hh
      cases a1 with
      | true =>
        rw [if_pos rfl] at hh
        simp only [Option.some.injEq, Prod.mk.injEq] at hh
        obtain ⟨rfl, rfl⟩ := hh
        go_wp2
        go_meet
        case rel => exact ⟨rfl, rfl, HI1, HB1, HK1⟩
      | false =>
        rw [if_neg (by simp)] at hh
        by_cases hlt : z3 < 2
        · by_cases hn : n = (z0.size : Int)
          · rw [if_pos ⟨hn, hlt⟩] at hh
            subst hn
            replace hh := Option.bind_eq_some_iff.1 hh
            obtain ⟨o, ho, hh⟩ := hh
            simp only [Option.some.injEq, Prod.mk.injEq] at hh
            obtain ⟨rfl, rfl⟩ := hh
            have HO := Aside0.mk ho
            clear ho
            go_wp2_with (first | (go_at_call 77; (with_reducible refine (scan_open.calls z0 o _ (HG0.out.below HB1.out) HO.out).mono ?_); rintro e w2 ⟨rfl, hb⟩; have HI2 := Aside0.mk (IsS56.below HI1.out hb); have HB2 := Aside0.mk (below_weaken HB1.out HB1.out.size hb); have HK2 := Aside0.mk (KeepBut.trans HK1.out (KeepBut.of_below hb g none) (.inl rfl)); clear hb))
            go_meet
            case rel => exact ⟨rfl, rfl, HI2, HB2, HK2⟩
          · rw [if_neg (fun c => hn c.1), if_pos hlt] at hh
            split at hh
            case isFalse => cases hh
            rename_i hb0
            replace hh := Option.bind_eq_some_iff.1 hh
            obtain ⟨o, ho, hh⟩ := hh
            simp only [Option.some.injEq, Prod.mk.injEq] at hh
            obtain ⟨rfl, rfl⟩ := hh
            obtain ⟨m, rfl⟩ : ∃ m : Nat, n = m := ⟨n.toNat, by omega⟩
            rw [Int.toNat_natCast] at ho
            have HO := Aside0.mk ho
            clear ho
            have hn' : ((m : Int) == (z0.size : Int)) = false := by simpa using hn
            have hn2 : (m == z0.size) = false := by simpa using (show m ≠ z0.size by omega)
            have hm1 : (m : Int) ≤ (z0.size : Int) := by omega
            have hm2 : m ≤ z0.size := by omega
            clear hn hb0
            go_wp2_with (first | (go_at_call 77; (with_reducible refine (scan_open.calls (z0.extract 0 m) o _ (HG0.out.below HB1.out) HO.out).mono ?_); rintro e w2 ⟨rfl, hb⟩; have HI2 := Aside0.mk (IsS56.below HI1.out hb); have HB2 := Aside0.mk (below_weaken HB1.out HB1.out.size hb); have HK2 := Aside0.mk (KeepBut.trans HK1.out (KeepBut.of_below hb g none) (.inl rfl)); clear hb))
            go_meet
            case rel => exact ⟨rfl, rfl, HI2, HB2, HK2⟩
        · rw [if_neg (fun c => hlt c.2), if_neg hlt] at hh
          simp only [Option.some.injEq, Prod.mk.injEq] at hh
          obtain ⟨rfl, rfl⟩ := hh
          by_cases hn : n = (z0.size : Int)
          · subst hn
            go_wp2
            go_meet
            case rel => exact ⟨rfl, rfl, HI1, HB1, HK1⟩
          · have hn' : (n == (z0.size : Int)) = false := by simpa using hn
            go_wp2
            go_meet
            case rel => exact ⟨rfl, rfl, HI1, HB1, HK1⟩
  case rest =>
    obtain ⟨rfl, rfl, HI2, HB2, HK2⟩ := hcut
    have h := HS.out
    clear HS
    unfold stepRest at h
    split at h
    case isFalse => cases h
    rename_i hb0
    obtain ⟨HGz, hgz⟩ := HI2.out
    have hc0 := cellS56_0 HGz
    have hc2 := cellS56_2 HGz
    have hc3 := cellS56_3 HGz
    clear HGz hgz
    by_cases hpos : 0 < n2 - hold
    · rw [if_pos hpos] at h
      unfold stepText at h
      replace h := Option.bind_eq_some_iff.1 h
      obtain ⟨⟨k0, k1, k2⟩, hx, h⟩ := h
      have HSK := Aside0.mk hx
      clear hx
      replace h := Option.bind_eq_some_iff.1 h
      obtain ⟨t, hx, h⟩ := h
      have HTX := Aside0.mk hx
      clear hx
      simp only at HSK HTX h
      simp only [Option.some.injEq, Prod.mk.injEq] at h
      obtain ⟨rfl, rfl, rfl, rfl, rfl, rfl⟩ := h
      have hb1 := hb0.1
      have hb2 := hb0.2
      clear hb0
      obtain ⟨m, hm⟩ : ∃ m : Int, m = n2 - hold := ⟨_, rfl⟩
      rw [← hm] at hb1 hb2 hpos HSK
      have hw : wrap64 (n2 - hold) = m := by rw [← hm]; unfold wrap64; omega
      clear hm
      go_upto_region 12 with (fail)
      go_region_held3 (fun w' => w'.cell? ⟨g, 2, none⟩ = some (.string z2) ∧ w'.cell? ⟨g, 3, none⟩ = some (.int .i64 z3)) (first | exact ⟨hc2, hc3⟩ | exact ⟨cellS56_2 hi.1, cellS56_3 hi.1⟩ | exact ⟨pw_cell_below hbn (cellS56_2 hi.1), pw_cell_below hbn (cellS56_3 hi.1)⟩ | exact ⟨pw_cell_below (below_alloc hbn _) (cellS56_2 hi.1), pw_cell_below (below_alloc hbn _) (cellS56_3 hi.1)⟩) (first | (go_at_call 79; refine (scan_reader_skip.callsE g z0 z1 z2 z3 m k0 k1 k2 w0 _ HI2.out.drew (below_drew1 HB2.out) HSK.out).mono ?_; rintro e w3 ⟨rfl, hi, hb, hk⟩) | (go_at_call 78; refine (scan_mode_text.calls z2 z3 k0 t _ (HG0.out.below hb) HTX.out).mono ?_; rintro e w4 ⟨rfl, hbn⟩))
      go_wp2
      go_ret2
      have hk2 := KeepBut.trans (keep_drew HK2.out) (KeepBut.trans hk (KeepBut.of_below hbn g none) (.inl rfl)) (.inl rfl)
      exact ⟨_, rfl, V_one (keep_size hk2) (heap_alloc_new w4 _) (k33_mkF _ _ ⟨1, ByteArray.empty, t, [], false⟩ (Nat.le_refl 0) (Kd.F_nil _ _ _)), IsS56.alloc (IsS56.below hi hbn) _, below_alloc (below_weaken hb hb.size hbn) _, keep_alloc hk2 _⟩
    · rw [if_neg hpos] at h
      by_cases hnone : sure = false ∨ z0.toList = []
      · rw [if_pos hnone] at h
        simp only [Option.some.injEq, Prod.mk.injEq] at h
        obtain ⟨rfl, rfl, rfl, rfl, rfl, rfl⟩ := h
        obtain ⟨m, hm⟩ : ∃ m : Int, m = n2 - hold := ⟨_, rfl⟩
        have hw : wrap64 (n2 - hold) = m := by rw [← hm] at hb0; rw [← hm]; unfold wrap64; omega
        rw [← hm] at hpos
        clear hm hb0
        cases sure with
        | false =>
          clear hnone
          go_wp2
          go_ret2
          exact ⟨_, rfl, Kd.V_nil _ _ _ _ _, HI2.out, HB2.out, HK2.out⟩
        | true =>
          have hz : z0.toList = [] := by simpa using hnone
          have hz2 : (z0.toList == ([] : List UInt8)) = true := beq_iff_eq.mpr hz
          clear hnone
          go_wp2
          go_ret2
          exact ⟨_, rfl, Kd.V_nil _ _ _ _ _, HI2.out, HB2.out, HK2.out⟩
      · rw [if_neg hnone] at h
        simp only [not_or, Bool.not_eq_false] at hnone
        obtain ⟨rfl, hz⟩ := hnone
        have hz2 : (z0.toList == ([] : List UInt8)) = false := beq_eq_false_iff_ne.mpr hz
        obtain ⟨m, hm⟩ : ∃ m : Int, m = n2 - hold := ⟨_, rfl⟩
        have hw : wrap64 (n2 - hold) = m := by rw [← hm] at hb0; rw [← hm]; unfold wrap64; omega
        rw [← hm] at hpos
        clear hm hb0 hz
        unfold stepMark at h
        replace h := Option.bind_eq_some_iff.1 h
        obtain ⟨⟨m1, m2, m3, m4, m5, m6, m7⟩, hx, h⟩ := h
        have HMK := Aside0.mk hx
        clear hx
        simp only at HMK h
        have HS := Aside0.mk h
        clear h
        go_upto_region 17 with (first | (go_at_call 80; (with_reducible refine (scan_reader_markup.calls _ z0 false m1 m2 m3 m4 m5 m6 m7 w0 _ (IsS52.new w0 wc z0 false HB2.out) (below_alloc HB2.out _) HG0.out HMK.out).mono ?_); rintro e w3 ⟨v3, rfl, ho, hi, hb, hk⟩; obtain ⟨A, c, rfl⟩ := Kd.R_slice ho; have HO3 := Aside0.mk ho; have HI3 := Aside0.mk hi; have HB3 := Aside0.mk hb; have HK3 := Aside0.mk hk; clear hi hb hk ho))
        obtain ⟨W4, hW4⟩ : ∃ W4, W4 = w3.alloc (Obj.cells #[.int .i64 m1, .string m2, .string m3, .slice A m4.length c, .bool m5] 33) := ⟨_, rfl⟩
        rw [← hW4]
        have hsz3 : wc.heap.size < w3.heap.size := by have := HK3.out.1; have h2 : (wc.alloc (Obj.cells #[Value.string z0, Value.bool false] 52)).heap.size = wc.heap.size + 1 := (by show (wc.heap.push _).size = _; exact Array.size_push _); omega
        have hgc : g < wc.heap.size := IsS56.lt HI2.out
        have HBT := Aside0.mk (show W4.heap[w3.heap.size]? = some (.cells #[.int .i64 m1, .string m2, .string m3, .slice A m4.length c, .bool m5] 33 (0, 0)) from by rw [hW4]; exact heap_alloc_new w3 _)
        have HIR := Aside0.mk (show IsS52 w0 W4 wc.heap.size m6 m7 from by rw [hW4]; exact IsS52.alloc HI3.out _)
        have HB4 := Aside0.mk (show Below w0.heap.size w0 W4 from by rw [hW4]; exact below_alloc HB3.out _)
        have HKN := keep_new HK3.out g
        have HK4 := Aside0.mk (show KeepBut wc W4 g none from by rw [hW4]; exact keep_alloc HKN _)
        have HI4 := Aside0.mk (show IsS56 w0 W4 g z0 z1 z2 z3 from by
          rw [hW4]
          exact IsS56.alloc ⟨((keep_new HK3.out (g + 1)).2 g hgc (by omega) (by simp)).trans HI2.out.1, HI2.out.2⟩ _)
        have hbase : w.heap.size ≤ wc.heap.size := keep_size HK2.out
        have HO4 := Aside0.mk (show Kd.R k36 36 W4 wc.heap.size (fun k_ => wc.heap.size ≤ k_ ∧ k_ ≠ g) (.slice A m4.length c) m4 from by
          rw [hW4]
          refine Kd.R_alloc (Kd.R_lower (Kd.R_mono (Kd.R_bound HO3.out) (fun k_ hk_ => ?_)) (by show wc.heap.size ≤ (wc.heap.push _).size; rw [Array.size_push]; omega)) _
          have h1 : (wc.heap.push (Obj.cells #[Value.string z0, Value.bool false] 52)).size ≤ k_ := hk_.2.1
          rw [Array.size_push] at h1
          exact ⟨by omega, by omega⟩)
        have hne3 : w3.heap.size ≠ g := by omega
        clear hW4 HO3 HI3 HB3 HK3 HKN
        obtain ⟨HGz, hgz⟩ := HIR.out
        have hr0 := cellS52_0 HGz
        have hr1 := cellS52_1 HGz
        clear HGz hgz
        have HS2 := HS.out
        clear HS
        by_cases hshort : m7 = true ∧ a1 = false
        · rw [if_pos hshort] at HS2
          obtain ⟨rfl, rfl⟩ := hshort
          simp only [Option.some.injEq, Prod.mk.injEq] at HS2
          obtain ⟨rfl, rfl, rfl, rfl, rfl, rfl⟩ := HS2
          go_wp2
          go_ret2
          exact ⟨_, rfl, Kd.V_nil _ _ _ _ _, HI4.out, HB4.out, KeepBut.trans HK2.out HK4.out (.inl rfl)⟩
        · rw [if_neg hshort] at HS2
          have hshort2 : (m7 = true → a1 = true) := fun h1 => by
            cases a1
            · exact absurd ⟨h1, rfl⟩ hshort
            · rfl
          have HS3 := Aside0.mk HS2
          clear hshort HS2
          obtain ⟨HGz, hgz⟩ := HI4.out
          have hf0 := blk_frozen HGz 0
          have hf2 := blk_frozen HGz 2
          have hf3 := blk_frozen HGz 3
          have hd0 := cellS56_0 HGz
          have hd2 := cellS56_2 HGz
          have hd3 := cellS56_3 HGz
          clear HGz hgz hc0 hc2 hc3
          have hcut19 : ∃ b : Bool, (if m7 = true then !a1 else false) = b ∧ b = false := ⟨false, by cases m7 <;> simp_all, rfl⟩
          clear hcut19
          cases m7
          · clear hshort2
            go_upto_region 20 with (fail)
            obtain ⟨W5, hW5⟩ : ∃ W5, W5 = (((W4.setCell ⟨g, 0, none⟩ (.string m6)).setCell ⟨g, 2, none⟩ (.string ⟨#[]⟩)).setCell ⟨g, 3, none⟩ (.int .i64 0)) := ⟨_, rfl⟩
            rw [← hW5]
            have hge := HI4.out.2
            have HI5 : Aside0 (IsS56 w0 W5 g m6 z1 ByteArray.empty 0) := ⟨by rw [hW5]; exact IsS56.set_3 (IsS56.set_2 (IsS56.set_0 HI4.out m6) _) 0⟩
            have HB5 : Aside0 (Below w0.heap.size w0 W5) := ⟨by rw [hW5]; exact below_set (below_set (below_set HB4.out hge) hge) hge⟩
            have HK5 : Aside0 (KeepBut w W5 g none) := ⟨by rw [hW5]; exact KeepBut.trans HK2.out (KeepBut.set_ (KeepBut.set_ (KeepBut.set_ HK4.out _ _) _ _) _ _) (.inl rfl)⟩
            have HT5 := Aside0.mk (show W5.heap[w3.heap.size]? = some (.cells #[.int .i64 m1, .string m2, .string m3, .slice A m4.length c, .bool m5] 33 (0, 0)) from by rw [hW5]; exact blk_far (blk_far (blk_far HBT.out hne3 _) hne3 _) hne3 _)
            have HO5 := Aside0.mk (show Kd.R k36 36 W5 wc.heap.size (fun k_ => wc.heap.size ≤ k_ ∧ k_ ≠ g) (.slice A m4.length c) m4 from by rw [hW5]; exact Kd.R_far (Kd.R_far (Kd.R_far HO4.out (fun _ hk => hk.2) _) (fun _ hk => hk.2) _) (fun _ hk => hk.2) _)
            clear hW5 hd0 hd2 hd3 hf0 hf2 hf3 hr0 hr1 HIR HBT HO4 HK4 HB4 HI4
            have ht0 := (blk_cell HT5.out 0).trans rfl
            have ht1 : W5.cell? ⟨w3.heap.size, 1, none⟩ = some (.string m2) := (blk_cell HT5.out 1).trans rfl
            have ht2 : W5.cell? ⟨w3.heap.size, 2, none⟩ = some (.string m3) := (blk_cell HT5.out 2).trans rfl
            have ht3 : W5.cell? ⟨w3.heap.size, 3, none⟩ = some (.slice A m4.length c) := (blk_cell HT5.out 3).trans rfl
            have ht4 : W5.cell? ⟨w3.heap.size, 4, none⟩ = some (.bool m5) := (blk_cell HT5.out 4).trans rfl
            replace ht0 : W5.cell? ⟨w3.heap.size, 0, none⟩ = some (.int .i64 m1) := ht0
            have h := HS3.out
            clear HS3
            by_cases hk0 : m1 = 0
            · rw [if_pos hk0] at h
              simp only [Option.some.injEq, Prod.mk.injEq] at h
              obtain ⟨rfl, rfl, rfl, rfl, rfl, rfl⟩ := h
              subst hk0
              go_wp2
              go_ret2
              exact ⟨_, rfl, Kd.V_nil _ _ _ _ _, HI5.out, HB5.out, HK5.out⟩
            · rw [if_neg hk0] at h
              have hk0' : (m1 == 0) = false := by simpa using hk0
              by_cases hk2 : m1 = 2
              · rw [if_pos hk2] at h
                subst hk2
                replace h := Option.bind_eq_some_iff.1 h
                obtain ⟨r, hx, h⟩ := h
                have HRW := Aside0.mk hx
                clear hx
                simp only [Option.some.injEq, Prod.mk.injEq] at h
                obtain ⟨rfl, rfl, rfl, rfl, rfl, rfl⟩ := h
                go_upto_region 23 with (fail)
                go_region_held3 (fun w' => w'.cell? ⟨w3.heap.size, 1, none⟩ = some (.string m2)) (first | exact ht1 | exact pw_cell_below hd.below ht1 | exact (blk_cell (blk_far (blk_far HT6.out hne3 _) hne3 _) 1).trans rfl) (first | (go_at_call 24; refine (scan_Raw.calls 8 m2 r _ HRW.out).mono ?_; rintro e w6 ⟨rfl, hd⟩; have HI6 := Aside0.mk (IsS56.below HI5.out.drew hd.below); have HB6 := Aside0.mk (below_weaken (below_drew1 HB5.out) (below_drew1 HB5.out).size hd.below); have HK6 := Aside0.mk (KeepBut.trans (keep_drew HK5.out) (KeepBut.of_below hd.below g none) (.inl rfl)); have HT6 := Aside0.mk ((hd.below.block _ (blk_lt HT5.out)).trans HT5.out); have HO6 := Aside0.mk (Kd.R_below (Kd.R_drew HO5.out) hd.below); have hf2 := blk_frozen HI6.out.1 2; have hf3 := blk_frozen HI6.out.1 3; have hd2 := cellS56_2 HI6.out.1; have hd3 := cellS56_3 HI6.out.1))
                obtain ⟨W7, hW7⟩ : ∃ W7, W7 = ((w6.setCell ⟨g, 2, none⟩ (.string m2)).setCell ⟨g, 3, none⟩ (.int .i64 r)) := ⟨_, rfl⟩
                rw [← hW7]
                have hge7 := HI6.out.2
                have HI7 : Aside0 (IsS56 w0 W7 g m6 z1 m2 r) := ⟨by rw [hW7]; exact IsS56.set_3 (IsS56.set_2 HI6.out m2) r⟩
                have HB7 : Aside0 (Below w0.heap.size w0 W7) := ⟨by rw [hW7]; exact below_set (below_set HB6.out hge7) hge7⟩
                have HK7 : Aside0 (KeepBut w W7 g none) := ⟨by rw [hW7]; exact KeepBut.set_ (KeepBut.set_ HK6.out _ _) _ _⟩
                have HT7 := (show W7.heap[w3.heap.size]? = some (.cells #[.int .i64 2, .string m2, .string m3, .slice A m4.length c, .bool m5] 33 (0, 0)) from by rw [hW7]; exact blk_far (blk_far HT6.out hne3 _) hne3 _)
                have HO7 := Aside0.mk (show Kd.R k36 36 W7 wc.heap.size (fun k_ => wc.heap.size ≤ k_ ∧ k_ ≠ g) (.slice A m4.length c) m4 from by rw [hW7]; exact Kd.R_far (Kd.R_far HO6.out (fun _ hk => hk.2) _) (fun _ hk => hk.2) _)
                clear hW7 ht0 ht1 ht2 ht3 ht4
                have ht0 : W7.cell? ⟨w3.heap.size, 0, none⟩ = some (.int .i64 2) := (blk_cell HT7 0).trans rfl
                have ht1 : W7.cell? ⟨w3.heap.size, 1, none⟩ = some (.string m2) := (blk_cell HT7 1).trans rfl
                have ht2 : W7.cell? ⟨w3.heap.size, 2, none⟩ = some (.string m3) := (blk_cell HT7 2).trans rfl
                have ht3 : W7.cell? ⟨w3.heap.size, 3, none⟩ = some (.slice A m4.length c) := (blk_cell HT7 3).trans rfl
                have ht4 : W7.cell? ⟨w3.heap.size, 4, none⟩ = some (.bool m5) := (blk_cell HT7 4).trans rfl
                go_wp2
                go_ret2
                exact ⟨_, rfl, V_one (keep_size HK7.out) (heap_alloc_new W7 _) (k33_mkF _ _ ⟨2, m2, m3, m4, m5⟩ (Kd.R_reads' HO7.out).2.1 (Kd.F_alloc (Kd.F_mono (Kd.R_F HO7.out) (fun k_ hk_ => Nat.le_trans hbase hk_.1)) _)), IsS56.alloc HI7.out _, below_alloc HB7.out _, keep_alloc HK7.out _⟩
              · rw [if_neg hk2] at h
                have hk2' : (m1 == 2) = false := by simpa using hk2
                simp only [Option.some.injEq, Prod.mk.injEq] at h
                obtain ⟨rfl, rfl, rfl, rfl, rfl, rfl⟩ := h
                go_wp2
                go_ret2
                exact ⟨_, rfl, V_one (keep_size HK5.out) (heap_alloc_new W5 _) (k33_mkF _ _ ⟨m1, m2, m3, m4, m5⟩ (Kd.R_reads' HO5.out).2.1 (Kd.F_alloc (Kd.F_mono (Kd.R_F HO5.out) (fun k_ hk_ => Nat.le_trans hbase hk_.1)) _)), IsS56.alloc HI5.out _, below_alloc HB5.out _, keep_alloc HK5.out _⟩
          · obtain rfl := hshort2 rfl
            clear hshort2
            go_upto_region 20 with (fail)
            obtain ⟨W5, hW5⟩ : ∃ W5, W5 = (((W4.setCell ⟨g, 0, none⟩ (.string m6)).setCell ⟨g, 2, none⟩ (.string ⟨#[]⟩)).setCell ⟨g, 3, none⟩ (.int .i64 0)) := ⟨_, rfl⟩
            rw [← hW5]
            have hge := HI4.out.2
            have HI5 : Aside0 (IsS56 w0 W5 g m6 z1 ByteArray.empty 0) := ⟨by rw [hW5]; exact IsS56.set_3 (IsS56.set_2 (IsS56.set_0 HI4.out m6) _) 0⟩
            have HB5 : Aside0 (Below w0.heap.size w0 W5) := ⟨by rw [hW5]; exact below_set (below_set (below_set HB4.out hge) hge) hge⟩
            have HK5 : Aside0 (KeepBut w W5 g none) := ⟨by rw [hW5]; exact KeepBut.trans HK2.out (KeepBut.set_ (KeepBut.set_ (KeepBut.set_ HK4.out _ _) _ _) _ _) (.inl rfl)⟩
            have HT5 := Aside0.mk (show W5.heap[w3.heap.size]? = some (.cells #[.int .i64 m1, .string m2, .string m3, .slice A m4.length c, .bool m5] 33 (0, 0)) from by rw [hW5]; exact blk_far (blk_far (blk_far HBT.out hne3 _) hne3 _) hne3 _)
            have HO5 := Aside0.mk (show Kd.R k36 36 W5 wc.heap.size (fun k_ => wc.heap.size ≤ k_ ∧ k_ ≠ g) (.slice A m4.length c) m4 from by rw [hW5]; exact Kd.R_far (Kd.R_far (Kd.R_far HO4.out (fun _ hk => hk.2) _) (fun _ hk => hk.2) _) (fun _ hk => hk.2) _)
            clear hW5 hd0 hd2 hd3 hf0 hf2 hf3 hr0 hr1 HIR HBT HO4 HK4 HB4 HI4
            have ht0 := (blk_cell HT5.out 0).trans rfl
            have ht1 : W5.cell? ⟨w3.heap.size, 1, none⟩ = some (.string m2) := (blk_cell HT5.out 1).trans rfl
            have ht2 : W5.cell? ⟨w3.heap.size, 2, none⟩ = some (.string m3) := (blk_cell HT5.out 2).trans rfl
            have ht3 : W5.cell? ⟨w3.heap.size, 3, none⟩ = some (.slice A m4.length c) := (blk_cell HT5.out 3).trans rfl
            have ht4 : W5.cell? ⟨w3.heap.size, 4, none⟩ = some (.bool m5) := (blk_cell HT5.out 4).trans rfl
            replace ht0 : W5.cell? ⟨w3.heap.size, 0, none⟩ = some (.int .i64 m1) := ht0
            have h := HS3.out
            clear HS3
            by_cases hk0 : m1 = 0
            · rw [if_pos hk0] at h
              simp only [Option.some.injEq, Prod.mk.injEq] at h
              obtain ⟨rfl, rfl, rfl, rfl, rfl, rfl⟩ := h
              subst hk0
              go_wp2
              go_ret2
              exact ⟨_, rfl, Kd.V_nil _ _ _ _ _, HI5.out, HB5.out, HK5.out⟩
            · rw [if_neg hk0] at h
              have hk0' : (m1 == 0) = false := by simpa using hk0
              by_cases hk2 : m1 = 2
              · rw [if_pos hk2] at h
                subst hk2
                replace h := Option.bind_eq_some_iff.1 h
                obtain ⟨r, hx, h⟩ := h
                have HRW := Aside0.mk hx
                clear hx
                simp only [Option.some.injEq, Prod.mk.injEq] at h
                obtain ⟨rfl, rfl, rfl, rfl, rfl, rfl⟩ := h
                go_upto_region 23 with (fail)
                go_region_held3 (fun w' => w'.cell? ⟨w3.heap.size, 1, none⟩ = some (.string m2)) (first | exact ht1 | exact pw_cell_below hd.below ht1 | exact (blk_cell (blk_far (blk_far HT6.out hne3 _) hne3 _) 1).trans rfl) (first | (go_at_call 24; refine (scan_Raw.calls 8 m2 r _ HRW.out).mono ?_; rintro e w6 ⟨rfl, hd⟩; have HI6 := Aside0.mk (IsS56.below HI5.out.drew hd.below); have HB6 := Aside0.mk (below_weaken (below_drew1 HB5.out) (below_drew1 HB5.out).size hd.below); have HK6 := Aside0.mk (KeepBut.trans (keep_drew HK5.out) (KeepBut.of_below hd.below g none) (.inl rfl)); have HT6 := Aside0.mk ((hd.below.block _ (blk_lt HT5.out)).trans HT5.out); have HO6 := Aside0.mk (Kd.R_below (Kd.R_drew HO5.out) hd.below); have hf2 := blk_frozen HI6.out.1 2; have hf3 := blk_frozen HI6.out.1 3; have hd2 := cellS56_2 HI6.out.1; have hd3 := cellS56_3 HI6.out.1))
                obtain ⟨W7, hW7⟩ : ∃ W7, W7 = ((w6.setCell ⟨g, 2, none⟩ (.string m2)).setCell ⟨g, 3, none⟩ (.int .i64 r)) := ⟨_, rfl⟩
                rw [← hW7]
                have hge7 := HI6.out.2
                have HI7 : Aside0 (IsS56 w0 W7 g m6 z1 m2 r) := ⟨by rw [hW7]; exact IsS56.set_3 (IsS56.set_2 HI6.out m2) r⟩
                have HB7 : Aside0 (Below w0.heap.size w0 W7) := ⟨by rw [hW7]; exact below_set (below_set HB6.out hge7) hge7⟩
                have HK7 : Aside0 (KeepBut w W7 g none) := ⟨by rw [hW7]; exact KeepBut.set_ (KeepBut.set_ HK6.out _ _) _ _⟩
                have HT7 := (show W7.heap[w3.heap.size]? = some (.cells #[.int .i64 2, .string m2, .string m3, .slice A m4.length c, .bool m5] 33 (0, 0)) from by rw [hW7]; exact blk_far (blk_far HT6.out hne3 _) hne3 _)
                have HO7 := Aside0.mk (show Kd.R k36 36 W7 wc.heap.size (fun k_ => wc.heap.size ≤ k_ ∧ k_ ≠ g) (.slice A m4.length c) m4 from by rw [hW7]; exact Kd.R_far (Kd.R_far HO6.out (fun _ hk => hk.2) _) (fun _ hk => hk.2) _)
                clear hW7 ht0 ht1 ht2 ht3 ht4
                have ht0 : W7.cell? ⟨w3.heap.size, 0, none⟩ = some (.int .i64 2) := (blk_cell HT7 0).trans rfl
                have ht1 : W7.cell? ⟨w3.heap.size, 1, none⟩ = some (.string m2) := (blk_cell HT7 1).trans rfl
                have ht2 : W7.cell? ⟨w3.heap.size, 2, none⟩ = some (.string m3) := (blk_cell HT7 2).trans rfl
                have ht3 : W7.cell? ⟨w3.heap.size, 3, none⟩ = some (.slice A m4.length c) := (blk_cell HT7 3).trans rfl
                have ht4 : W7.cell? ⟨w3.heap.size, 4, none⟩ = some (.bool m5) := (blk_cell HT7 4).trans rfl
                go_wp2
                go_ret2
                exact ⟨_, rfl, V_one (keep_size HK7.out) (heap_alloc_new W7 _) (k33_mkF _ _ ⟨2, m2, m3, m4, m5⟩ (Kd.R_reads' HO7.out).2.1 (Kd.F_alloc (Kd.F_mono (Kd.R_F HO7.out) (fun k_ hk_ => Nat.le_trans hbase hk_.1)) _)), IsS56.alloc HI7.out _, below_alloc HB7.out _, keep_alloc HK7.out _⟩
              · rw [if_neg hk2] at h
                have hk2' : (m1 == 2) = false := by simpa using hk2
                simp only [Option.some.injEq, Prod.mk.injEq] at h
                obtain ⟨rfl, rfl, rfl, rfl, rfl, rfl⟩ := h
                go_wp2
                go_ret2
                exact ⟨_, rfl, V_one (keep_size HK5.out) (heap_alloc_new W5 _) (k33_mkF _ _ ⟨m1, m2, m3, m4, m5⟩ (Kd.R_reads' HO5.out).2.1 (Kd.F_alloc (Kd.F_mono (Kd.R_F HO5.out) (fun k_ hk_ => Nat.le_trans hbase hk_.1)) _)), IsS56.alloc HI5.out _, below_alloc HB5.out _, keep_alloc HK5.out _⟩

end Go.Proofs.YtoacojkmclngmaaGreatDoor.Pz

-- written by the session's own program hookprint.py
namespace Go.Proofs.YtoacojkmclngmaaGreatDoor.Pz
open Go.RowKit Go.Proofs.YtoacojkmclngmaaGreatDoorW.PrintWords Go.Proofs.YtoacojkmclngmaaGreatDoorW.PrintLast Go.Proofs.YtoacojkmclngmaaGreatDoorW.PrintMore
attribute [local go_sem] max2_int min2_int max_two min_two max_three min_three max_four min_four   -- for this text's walks alone
attribute [local go_sem] rune_str
set_option linter.unusedVariables false
set_option linter.unusedSimpArgs false

/-! ### scan_Scanner_told: function 38 -/
def scan_Scanner_told.l0 : Nat → Bool → List (S33) → ByteArray → Bool → ByteArray → Int → Option ((List (S33)) × ByteArray × Bool × ByteArray × Int)
  | 0, _, _, _, _, _, _ => none
  | k + 1, x1, x5, x1000, x1001, x1002, x1003 => (scan_Scanner_step.f x1000 x1001 x1002 x1003 x1).bind fun bt144 => (if bt144.2.1 = true then (if x5.length + bt144.1.length < 1954687338268 then (scan_Scanner_told.l0 k x1 (x5 ++ bt144.1) bt144.2.2.1 bt144.2.2.2.1 bt144.2.2.2.2.1 bt144.2.2.2.2.2) else (none)) else (some (x5, bt144.2.2.1, bt144.2.2.2.1, bt144.2.2.2.2.1, bt144.2.2.2.2.2)))
def scan_Scanner_told.f (k : Nat) (s0_0 : ByteArray) (s0_1 : Bool) (s0_2 : ByteArray) (s0_3 : Int) (a1 : Bool) : Option ((List (S33)) × ByteArray × Bool × ByteArray × Int) := scan_Scanner_told.l0 k a1 ([] : List (S33)) s0_0 s0_1 s0_2 s0_3
theorem scan_Scanner_told.mono_l : ∀ k, (∀ y0 y1 y2 y3 y4 y5, LeO (scan_Scanner_told.l0 k y0 y1 y2 y3 y4 y5) (scan_Scanner_told.l0 (k + 1) y0 y1 y2 y3 y4 y5))
  | 0 => fun _ _ _ _ _ _ r h => by simp [scan_Scanner_told.l0] at h
  | k + 1 => by
    have ih0 := scan_Scanner_told.mono_l k
    · intro y0 y1 y2 y3 y4 y5
      unfold scan_Scanner_told.l0
      repeat' first
      | (with_reducible exact ih0 _ _ _ _ _ _)
      | (with_reducible exact LeO.refl _)
      | (with_reducible exact LeO.none _)
      | (with_reducible refine LeO.ite ?_ ?_)
      | (with_reducible refine LeO.bind ?_ (fun _ => ?_))
      | exact ih0 _ _ _ _ _ _
      | exact LeO.none _
      | refine LeO.ite ?_ ?_
      | refine LeO.bind ?_ (fun _ => ?_)
theorem scan_Scanner_told.mono : ∀ a0 a1 a2 a3 a4 k, LeO (scan_Scanner_told.f k a0 a1 a2 a3 a4) (scan_Scanner_told.f (k + 1) a0 a1 a2 a3 a4) := by
  intro a0 a1 a2 a3 a4 k
  have ih0 := scan_Scanner_told.mono_l k
  unfold scan_Scanner_told.f
  repeat' first
      | (with_reducible exact ih0 _ _ _ _ _ _)
      | (with_reducible exact LeO.refl _)
      | (with_reducible exact LeO.none _)
      | (with_reducible refine LeO.ite ?_ ?_)
      | (with_reducible refine LeO.bind ?_ (fun _ => ?_))
      | exact ih0 _ _ _ _ _ _
      | exact LeO.none _
      | refine LeO.ite ?_ ?_
      | refine LeO.bind ?_ (fun _ => ?_)
set_option maxHeartbeats 8000000 in
set_option maxRecDepth 100000 in
theorem scan_Scanner_told.calls (k : Nat) (g : Nat) (s0_0 : ByteArray) (s0_1 : Bool) (s0_2 : ByteArray) (s0_3 : Int) (a1 : Bool) (r1 : List (S33)) (r2 : ByteArray) (r3 : Bool) (r4 : ByteArray) (r5 : Int) (w0 w : World) (hI : IsS56 w0 w g s0_0 s0_1 s0_2 s0_3) (hB : Below w0.heap.size w0 w) (hG : Glob w0) (h : scan_Scanner_told.f k s0_0 s0_1 s0_2 s0_3 a1 = some (r1, r2, r3, r4, r5)) :
    Calls Tryz.prog 38 #[.pointer (some ⟨g, 0, none⟩), .bool a1] w fun e w' => ∃ v0_ : Value, e = .returned (v0_) ∧ Kd.N k33 33 w' w.heap.size (fun k_ => (w.heap.size ≤ k_)) v0_ r1 ∧ IsS56 w0 w' g r2 r3 r4 r5 ∧ Below w0.heap.size w0 w' ∧ KeepBut w w' g none := by
  have HI0 := Aside0.mk hI
  have HK := Aside0.mk (KeepBut.refl w g none)
  have HL := Aside0.mk hB.size
  clear hI
  have HW0 := Aside0.mk hB.size
  have HB := Aside0.mk hB
  clear hB
  have H : (scan_Scanner_told.l0 k a1 ([] : List (S33)) s0_0 s0_1 s0_2 s0_3) = some (r1, r2, r3, r4, r5) := h
  clear h
  have H' := Aside0.mk H
  clear H
  go_enter Tryz.func38, Tryz.ntmps38
  go_wp2
  go_loopg [5] k (fun kq v5 w' => ∃ (x5_1 : List (S33)) (x1000_1 : ByteArray) (x1001_1 : Bool) (x1002_1 : ByteArray) (x1003_1 : Int), Aside0 (scan_Scanner_told.l0 kq a1 x5_1 x1000_1 x1001_1 x1002_1 x1003_1 = some (r1, r2, r3, r4, r5)) ∧ Aside0 (kq ≤ k) ∧ Aside0 (Kd.N k33 33 w' w.heap.size (fun k_ => (w.heap.size ≤ k_) ∧ k_ ≠ g) v5 x5_1) ∧ Aside0 (IsS56 w0 w' g x1000_1 x1001_1 x1002_1 x1003_1) ∧ Aside0 (KeepBut w w' g none) ∧ Aside0 (Below w0.heap.size w0 w'))
  case atStart => exact ⟨(([] : List (S33))), (s0_0), (s0_1), (s0_2), (s0_3), H', ⟨Nat.le_refl _⟩, ⟨by first | exact Kd.S_nil _ _ _ _ _ | exact Kd.N_nil _ _ _ _ _ | exact Kd.V_nil _ _ _ _ _ | exact Kd.Q_nil _ _ _ _ _ | exact Kd.R_nil _ _ _ _ _⟩, ⟨by repeat (first | (with_reducible first | exact HI0.out | apply IsS56.alloc | apply IsS56.drewN | apply IsS56.drew | apply IsS56.set_0 | apply IsS56.set_1 | apply IsS56.set_2 | apply IsS56.set_3) | exact HI0.out)⟩, ⟨by repeat (first | (with_reducible first | exact HK.out | apply KeepBut.set_ | apply keep_drewN | apply keep_drew | apply keep_alloc) | exact HK.out)⟩, ⟨by repeat (first | (with_reducible first | exact HB.out | apply below_alloc | apply pw_below_drewN | apply below_drew1 | refine below_set ?_ (IsS56.ge HI0.out)) | exact HB.out)⟩⟩
  case round =>
    clear H'
    try clear p2
    obtain ⟨x5_1, x1000_1, x1001_1, x1002_1, x1003_1, HA, HK1, HO_5, HI0, HK, HB⟩ := hrel
    cases gk with
    | zero => exact absurd HA.out (by simp [scan_Scanner_told.l0])
    | succ k1 =>
      have H := HA.out
      clear HA
      simp only [scan_Scanner_told.l0] at H
      replace H := Option.bind_eq_some_iff.mp H
      obtain ⟨⟨t144, t147, t148, t149, t150, t151⟩, A30, H⟩ := H
      replace H : (if t147 = true then (if x5_1.length + t144.length < 1954687338268 then (scan_Scanner_told.l0 k1 a1 (x5_1 ++ t144) t148 t149 t150 t151) else (none)) else (some (x5_1, t148, t149, t150, t151))) = some (r1, r2, r3, r4, r5) := H
      have A3 := Aside0.mk A30
      clear A30
      by_cases c4 : t147 = true
      · subst c4
        have H1 : (if x5_1.length + t144.length < 1954687338268 then (scan_Scanner_told.l0 k1 a1 (x5_1 ++ t144) t148 t149 t150 t151) else (none)) = some (r1, r2, r3, r4, r5) := by rw [if_pos rfl] at H; exact H
        clear H
        have H := H1
        clear H1
        by_cases c5 : x5_1.length + t144.length < 1954687338268
        · rw [if_pos c5] at H
          have LMc5 := Aside0.mk c5
          clear c5
          obtain ⟨y152, hy152⟩ : ∃ y_ : List (S33), y_ = (x5_1 ++ t144) := ⟨_, rfl⟩
          replace H : (scan_Scanner_told.l0 k1 a1 y152 t148 t149 t150 t151) = some (r1, r2, r3, r4, r5) := by first | (rw [hy152]; with_reducible exact H) | (have H2_ := (Option.bind_some _ _).symm.trans H; rw [hy152]; with_reducible exact H2_) | (have H2_ := (Option.bind_some _ _).symm.trans H; with_reducible exact H2_) | with_reducible exact H | (rw [hy152]; exact H) | exact H
          have Ny152 := Aside0.mk hy152
          clear hy152
          have H' := Aside0.mk H
          clear H
          go_wp2_with (first | ((with_reducible refine gate_callee (f := 59) rfl ?_); refine goesL_ (some 11) rfl rfl Tryz.func59 (by kernel_rfl) rfl #[.pointer (some ⟨g, 0, none⟩), .bool a1] rfl (by (try simp only [List.map_toArray, List.map_cons, List.map_nil]); first | done | rfl | (simp only [List.length_drop, List.length_take]; rfl)) ?_; (with_reducible refine (scan_Scanner_step.calls g x1000_1 x1001_1 x1002_1 x1003_1 a1 t144 true t148 t149 t150 t151 w0 _ ?side1 ?side2 hG A3.out).mono ?_); (case side1 => repeat (first | (with_reducible first | exact HI0.out | apply IsS56.alloc | apply IsS56.drewN | apply IsS56.drew | apply IsS56.set_0 | apply IsS56.set_1 | apply IsS56.set_2 | apply IsS56.set_3) | exact HI0.out)); (case side2 => repeat (first | (with_reducible first | exact HB.out | apply below_alloc | apply pw_below_drewN | apply below_drew1 | refine below_set ?_ (IsS56.ge HI0.out)) | exact HB.out)); rintro e w6 ⟨v145, rfl, ho0, hi, hb, hk⟩; refine ⟨_, rfl, ?_⟩; have n0_ := Aside0.mk (Kd.N_mono (Kd.N_keep (Kd.N_mono (ok := fun k_ => (((w.heap.size ≤ k_)) ∧ k_ ≠ g)) (by (with_reducible repeat (first | apply Kd.N_alloc | apply Kd.N_drewN | apply Kd.N_drew)); exact HO_5.out) (fun k_ hk_ => (⟨hk_, hk_.2⟩ : _ ∧ k_ ≠ g))) hk (fun _ h => h.2)) (fun _ h => h.1)); have n1_ := Aside0.mk (Kd.V_lower (Kd.V_mono (ok' := fun k_ => (w.heap.size ≤ k_) ∧ some k_ ≠ (u5 : Value).ownBlock ∧ k_ ≠ g) ho0 (fun k_ hk_ => ⟨(Nat.le_trans (keep_size (w := w) (g := g) (row := none) (by repeat (first | (with_reducible first | exact HK.out | apply KeepBut.set_ | apply keep_drewN | apply keep_drew | apply keep_alloc) | exact HK.out))) hk_), (Kd.fresh' (Kd.N_lt (by (with_reducible repeat (first | apply Kd.N_alloc | apply Kd.N_drewN | apply Kd.N_drew)); exact HO_5.out)) k_ hk_), (IsS56.fresh (by repeat (first | (with_reducible first | exact HI0.out | apply IsS56.alloc | apply IsS56.drewN | apply IsS56.drew | apply IsS56.set_0 | apply IsS56.set_1 | apply IsS56.set_2 | apply IsS56.set_3) | exact HI0.out)) k_ hk_)⟩)) (keep_size (w := w) (g := g) (row := none) (by repeat (first | (with_reducible first | exact HK.out | apply KeepBut.set_ | apply keep_drewN | apply keep_drew | apply keep_alloc) | exact HK.out)))); have n2_ := Aside0.mk (KeepBut.trans (by repeat (first | (with_reducible first | exact HK.out | apply KeepBut.set_ | apply keep_drewN | apply keep_drew | apply keep_alloc) | exact HK.out)) hk (.inl rfl)); have n3_ := Aside0.mk (hb); have n4_ := Aside0.mk (hi); clear HO_5; clear HK; clear HB; clear HI0; have HO_5 := n0_; have HO146 := n1_; have HK := n2_; have HB := n3_; have HI0 := n4_; clear n0_ n1_ n2_ n3_ n4_; (try clear hb); (try clear hb2); (try clear hk); (try clear hi); (try clear ho0); obtain ⟨Ao8, co8, eo8⟩ := Kd.V_slice HO146.out; subst eo8) | ((with_reducible refine gate_builtin (b := .append) (xs := #[.tmp 17, .tmp 18]) rfl ?_); at_builtin; refine Kd.N_append_rows k33 w.heap.size rfl (.tmp 17) (.tmp 18) 24 33 (.agg #[(.int .i64 0), (.string ⟨#[]⟩), (.string ⟨#[]⟩), (.slice none 0 0), (.bool false)]) 72 rfl Tryz.underlying24 info33 rfl (by decide) (by omega) u5 x5_1 t144 _ _ _ (fun k_ => (w.heap.size ≤ k_) ∧ k_ ≠ g) (fun k_ => ((fun k_ => (w.heap.size ≤ k_) ∧ k_ ≠ g)) k_ ∧ some k_ ≠ (u5 : Value).ownBlock) rfl rfl ?aO ?aR (fun _ hk => hk) ?aF (Below.refl _ _) ?aS ?aL ?_; (case aR => exact (by skip; exact Kd.V_F (Kd.V_mono (ok' := (fun k_ => ((fun k_ => (w.heap.size ≤ k_) ∧ k_ ≠ g)) k_ ∧ some k_ ≠ (u5 : Value).ownBlock)) (HO146.out) (fun k_ hk => ⟨⟨hk.1, hk.2.2⟩, hk.2.1⟩)))); (case aF => exact (fun k_ hk => ⟨(Nat.le_trans (keep_size (w := w) (g := g) (row := none) (by repeat (first | (with_reducible first | exact HK.out | apply KeepBut.set_ | apply keep_drewN | apply keep_drew | apply keep_alloc) | exact HK.out))) hk), IsS56.fresh (by repeat (first | (with_reducible first | exact HI0.out | apply IsS56.alloc | apply IsS56.drewN | apply IsS56.drew | apply IsS56.set_0 | apply IsS56.set_1 | apply IsS56.set_2 | apply IsS56.set_3) | exact HI0.out)) k_ hk⟩)); (case aO => exact (by (with_reducible repeat (first | apply Kd.N_alloc | apply Kd.N_drewN | apply Kd.N_drew)); exact HO_5.out)); (case aS => exact (keep_size (w := w) (g := g) (row := none) (by repeat (first | (with_reducible first | exact HK.out | apply KeepBut.set_ | apply keep_drewN | apply keep_drew | apply keep_alloc) | exact HK.out)))); (case aL => have := LMc5.out; omega); intro v153 w7 ho hb hg hat; rw [← Ny152.out] at ho; have n0_ := Aside0.mk (IsS56.grown (by repeat (first | (with_reducible first | exact HI0.out | apply IsS56.alloc | apply IsS56.drewN | apply IsS56.drew | apply IsS56.set_0 | apply IsS56.set_1 | apply IsS56.set_2 | apply IsS56.set_3) | exact HI0.out)) hg (IsS56.own_neN HI0.out HO_5.out (by decide))); have n1_ := Aside0.mk (Kd.V_afterv (ok := (fun k_ => (w.heap.size ≤ k_) ∧ k_ ≠ g)) (by (with_reducible repeat (first | apply Kd.V_alloc | apply Kd.V_drewN | apply Kd.V_drew)); exact Kd.V_mono HO146.out (fun _ hk => ⟨⟨hk.1, hk.2.2⟩, hk.2.1⟩)) hg hat); have n2_ := Aside0.mk (below_weaken (by repeat (first | (with_reducible first | exact HB.out | apply below_alloc | apply pw_below_drewN | apply below_drew1 | refine below_set ?_ (IsS56.ge HI0.out)) | exact HB.out)) HL.out hb); have n3_ := Aside0.mk (KeepBut.trans (by repeat (first | (with_reducible first | exact HK.out | apply KeepBut.set_ | apply keep_drewN | apply keep_drew | apply keep_alloc) | exact HK.out)) (KeepBut.of_grown hg g) (Kd.N_base2 HO_5.out)); have n4_ := Aside0.mk (ho); clear HI0; clear HO146; clear HB; clear HK; clear HO_5; have HI0 := n0_; have HO146 := n1_; have HB := n2_; have HK := n3_; have HO154 := n4_; clear n0_ n1_ n2_ n3_ n4_; clear ho hb hg hat))
          go_roundg k1
          case measure => have := HK1.out; omega
          case rel => exact ⟨(y152), (t148), (t149), (t150), (t151), H', ⟨by have := HK1.out; omega⟩, ⟨by (with_reducible repeat (first | apply Kd.N_alloc | apply Kd.N_drewN | apply Kd.N_drew)); exact HO154.out⟩, ⟨by repeat (first | (with_reducible first | exact HI0.out | apply IsS56.alloc | apply IsS56.drewN | apply IsS56.drew | apply IsS56.set_0 | apply IsS56.set_1 | apply IsS56.set_2 | apply IsS56.set_3) | exact HI0.out)⟩, ⟨by repeat (first | (with_reducible first | exact HK.out | apply KeepBut.set_ | apply keep_drewN | apply keep_drew | apply keep_alloc) | exact HK.out)⟩, ⟨by repeat (first | (with_reducible first | exact HB.out | apply below_alloc | apply pw_below_drewN | apply below_drew1 | refine below_set ?_ (IsS56.ge HI0.out)) | exact HB.out)⟩⟩
        · rw [if_neg c5] at H
          exact absurd H (by simp)
      · replace c4 := Bool.eq_false_iff.mpr c4
        subst c4
        have H1 : (some (x5_1, t148, t149, t150, t151)) = some (r1, r2, r3, r4, r5) := by rw [if_neg (show ¬ (false = true) by decide)] at H; exact H
        clear H
        have H := H1
        clear H1
        simp only [Option.some.injEq, Prod.mk.injEq] at H
        obtain ⟨rfl, rfl, rfl, rfl, rfl⟩ := H
        go_wp2_with (first | ((with_reducible refine gate_callee (f := 59) rfl ?_); refine goesL_ (some 11) rfl rfl Tryz.func59 (by kernel_rfl) rfl #[.pointer (some ⟨g, 0, none⟩), .bool a1] rfl (by (try simp only [List.map_toArray, List.map_cons, List.map_nil]); first | done | rfl | (simp only [List.length_drop, List.length_take]; rfl)) ?_; (with_reducible refine (scan_Scanner_step.calls g x1000_1 x1001_1 x1002_1 x1003_1 a1 t144 false t148 t149 t150 t151 w0 _ ?side1 ?side2 hG A3.out).mono ?_); (case side1 => repeat (first | (with_reducible first | exact HI0.out | apply IsS56.alloc | apply IsS56.drewN | apply IsS56.drew | apply IsS56.set_0 | apply IsS56.set_1 | apply IsS56.set_2 | apply IsS56.set_3) | exact HI0.out)); (case side2 => repeat (first | (with_reducible first | exact HB.out | apply below_alloc | apply pw_below_drewN | apply below_drew1 | refine below_set ?_ (IsS56.ge HI0.out)) | exact HB.out)); rintro e w9 ⟨v145, rfl, ho0, hi, hb, hk⟩; refine ⟨_, rfl, ?_⟩; have n0_ := Aside0.mk (Kd.N_mono (Kd.N_keep (Kd.N_mono (ok := fun k_ => (((w.heap.size ≤ k_)) ∧ k_ ≠ g)) (by (with_reducible repeat (first | apply Kd.N_alloc | apply Kd.N_drewN | apply Kd.N_drew)); exact HO_5.out) (fun k_ hk_ => (⟨hk_, hk_.2⟩ : _ ∧ k_ ≠ g))) hk (fun _ h => h.2)) (fun _ h => h.1)); have n1_ := Aside0.mk (Kd.V_lower (Kd.V_mono (ok' := fun k_ => (w.heap.size ≤ k_) ∧ some k_ ≠ (u5 : Value).ownBlock ∧ k_ ≠ g) ho0 (fun k_ hk_ => ⟨(Nat.le_trans (keep_size (w := w) (g := g) (row := none) (by repeat (first | (with_reducible first | exact HK.out | apply KeepBut.set_ | apply keep_drewN | apply keep_drew | apply keep_alloc) | exact HK.out))) hk_), (Kd.fresh' (Kd.N_lt (by (with_reducible repeat (first | apply Kd.N_alloc | apply Kd.N_drewN | apply Kd.N_drew)); exact HO_5.out)) k_ hk_), (IsS56.fresh (by repeat (first | (with_reducible first | exact HI0.out | apply IsS56.alloc | apply IsS56.drewN | apply IsS56.drew | apply IsS56.set_0 | apply IsS56.set_1 | apply IsS56.set_2 | apply IsS56.set_3) | exact HI0.out)) k_ hk_)⟩)) (keep_size (w := w) (g := g) (row := none) (by repeat (first | (with_reducible first | exact HK.out | apply KeepBut.set_ | apply keep_drewN | apply keep_drew | apply keep_alloc) | exact HK.out)))); have n2_ := Aside0.mk (KeepBut.trans (by repeat (first | (with_reducible first | exact HK.out | apply KeepBut.set_ | apply keep_drewN | apply keep_drew | apply keep_alloc) | exact HK.out)) hk (.inl rfl)); have n3_ := Aside0.mk (hb); have n4_ := Aside0.mk (hi); clear HO_5; clear HK; clear HB; clear HI0; have HO_5 := n0_; have HO146 := n1_; have HK := n2_; have HB := n3_; have HI0 := n4_; clear n0_ n1_ n2_ n3_ n4_; (try clear hb); (try clear hb2); (try clear hk); (try clear hi); (try clear ho0)))
        go_ret
        exact ⟨_, by first | rfl | (simp [errW_none, errW_some] <;> rfl) | (simp [*, errW_none, errW_some] <;> rfl), by (with_reducible repeat (first | apply Kd.N_alloc | apply Kd.N_drewN | apply Kd.N_drew)); exact Kd.N_mono HO_5.out (fun _ hk => hk.1), by repeat (first | (with_reducible first | exact HI0.out | apply IsS56.alloc | apply IsS56.drewN | apply IsS56.drew | apply IsS56.set_0 | apply IsS56.set_1 | apply IsS56.set_2 | apply IsS56.set_3) | exact HI0.out), by repeat (first | (with_reducible first | exact HB.out | apply below_alloc | apply pw_below_drewN | apply below_drew1 | refine below_set ?_ (IsS56.ge HI0.out)) | exact HB.out), by repeat (first | (with_reducible first | exact HK.out | apply KeepBut.set_ | apply keep_drewN | apply keep_drew | apply keep_alloc) | exact HK.out)⟩

end Go.Proofs.YtoacojkmclngmaaGreatDoor.Pz

-- written by the session's own program hookprint.py
namespace Go.Proofs.YtoacojkmclngmaaGreatDoor.Pz
open Go.RowKit Go.Proofs.YtoacojkmclngmaaGreatDoorW.PrintWords Go.Proofs.YtoacojkmclngmaaGreatDoorW.PrintLast Go.Proofs.YtoacojkmclngmaaGreatDoorW.PrintMore
attribute [local go_sem] max2_int min2_int max_two min_two max_three min_three max_four min_four   -- for this text's walks alone
attribute [local go_sem] rune_str
set_option linter.unusedVariables false
set_option linter.unusedSimpArgs false

/-! ### scan_Scanner_Write: function 17 -/
def scan_Scanner_Write.f (k : Nat) (s0_0 : ByteArray) (s0_1 : Bool) (s0_2 : ByteArray) (s0_3 : Int) (a1 : ByteArray) : Option ((List (S33)) × ByteArray × Bool × ByteArray × Int) := if s0_0.size + a1.size ≤ 9223372036854775807 then ((scan_Scanner_told.f k (s0_0 ++ a1) s0_1 s0_2 s0_3 false).bind fun bt155 => (some (bt155.1, bt155.2.1, bt155.2.2.1, bt155.2.2.2.1, bt155.2.2.2.2))) else (none)
theorem scan_Scanner_Write.mono : ∀ a0 a1 a2 a3 a4 k, LeO (scan_Scanner_Write.f k a0 a1 a2 a3 a4) (scan_Scanner_Write.f (k + 1) a0 a1 a2 a3 a4) := by
  intro a0 a1 a2 a3 a4 k
  unfold scan_Scanner_Write.f
  repeat' first
      | (with_reducible exact scan_Scanner_told.mono _ _ _ _ _ _)
      | (with_reducible exact LeO.refl _)
      | (with_reducible exact LeO.none _)
      | (with_reducible refine LeO.ite ?_ ?_)
      | (with_reducible refine LeO.bind ?_ (fun _ => ?_))
      | exact scan_Scanner_told.mono _ _ _ _ _ _
      | exact LeO.none _
      | refine LeO.ite ?_ ?_
      | refine LeO.bind ?_ (fun _ => ?_)
set_option maxHeartbeats 8000000 in
set_option maxRecDepth 100000 in
theorem scan_Scanner_Write.calls (k : Nat) (g : Nat) (s0_0 : ByteArray) (s0_1 : Bool) (s0_2 : ByteArray) (s0_3 : Int) (a1 : ByteArray) (r1 : List (S33)) (r2 : ByteArray) (r3 : Bool) (r4 : ByteArray) (r5 : Int) (w0 w : World) (hI : IsS56 w0 w g s0_0 s0_1 s0_2 s0_3) (hB : Below w0.heap.size w0 w) (hG : Glob w0) (h : scan_Scanner_Write.f k s0_0 s0_1 s0_2 s0_3 a1 = some (r1, r2, r3, r4, r5)) :
    Calls Tryz.prog 17 #[.pointer (some ⟨g, 0, none⟩), .string a1] w fun e w' => ∃ v0_ : Value, e = .returned (v0_) ∧ Kd.N k33 33 w' w.heap.size (fun k_ => (w.heap.size ≤ k_)) v0_ r1 ∧ IsS56 w0 w' g r2 r3 r4 r5 ∧ Below w0.heap.size w0 w' ∧ KeepBut w w' g none := by
  have HI0 := Aside0.mk hI
  have HK := Aside0.mk (KeepBut.refl w g none)
  have HL := Aside0.mk hB.size
  clear hI
  have HW0 := Aside0.mk hB.size
  have HB := Aside0.mk hB
  clear hB
  have H : (if s0_0.size + a1.size ≤ 9223372036854775807 then ((scan_Scanner_told.f k (s0_0 ++ a1) s0_1 s0_2 s0_3 false).bind fun bt155 => (some (bt155.1, bt155.2.1, bt155.2.2.1, bt155.2.2.2.1, bt155.2.2.2.2))) else (none)) = some (r1, r2, r3, r4, r5) := h
  clear h
  by_cases c3 : s0_0.size + a1.size ≤ 9223372036854775807
  · rw [if_pos c3] at H
    have c3b0 := eq_true c3
    have c3b1 : decide (s0_0.size + a1.size ≤ 9223372036854775807) = true := decide_eq_true c3
    try have c3b2 : (9223372036854775807 < s0_0.size + a1.size) = False := eq_false (Nat.not_lt.2 c3)
    replace H := Option.bind_eq_some_iff.mp H
    obtain ⟨⟨t155, t158, t159, t160, t161⟩, A40, H⟩ := H
    replace H : (some (t155, t158, t159, t160, t161)) = some (r1, r2, r3, r4, r5) := H
    have A4 := Aside0.mk A40
    clear A40
    simp only [Option.some.injEq, Prod.mk.injEq] at H
    obtain ⟨rfl, rfl, rfl, rfl, rfl⟩ := H
    obtain ⟨HGz5, hgz5⟩ := HI0.out
    have hcz5_0 := cellS56_0 HGz5
    have hcz5_1 := cellS56_1 HGz5
    have hcz5_2 := cellS56_2 HGz5
    have hcz5_3 := cellS56_3 HGz5
    have hfz5_0 := blk_frozen HGz5 0
    have hfz5_1 := blk_frozen HGz5 1
    have hfz5_2 := blk_frozen HGz5 2
    have hfz5_3 := blk_frozen HGz5 3
    clear HGz5 hgz5
    go_enter Tryz.func17, Tryz.ntmps17
    go_wp2_with (first | ((with_reducible refine gate_callee (f := 38) rfl ?_); refine goesL_ (some 16) rfl rfl Tryz.func38 (by kernel_rfl) rfl #[.pointer (some ⟨g, 0, none⟩), .bool false] rfl (by (try simp only [List.map_toArray, List.map_cons, List.map_nil]); first | done | rfl | (simp only [List.length_drop, List.length_take]; rfl)) ?_; (with_reducible refine (scan_Scanner_told.calls k g (s0_0 ++ a1) s0_1 s0_2 s0_3 false t155 t158 t159 t160 t161 w0 _ ?side1 ?side2 hG A4.out).mono ?_); (case side1 => repeat (first | (with_reducible first | exact HI0.out | apply IsS56.alloc | apply IsS56.drewN | apply IsS56.drew | apply IsS56.set_0 | apply IsS56.set_1 | apply IsS56.set_2 | apply IsS56.set_3) | exact HI0.out)); (case side2 => repeat (first | (with_reducible first | exact HB.out | apply below_alloc | apply pw_below_drewN | apply below_drew1 | refine below_set ?_ (IsS56.ge HI0.out)) | exact HB.out)); rintro e w6 ⟨v156, rfl, ho0, hi, hb, hk⟩; refine ⟨_, rfl, ?_⟩; have n0_ := Aside0.mk (Kd.N_lower (Kd.N_mono (ok' := fun k_ => (w.heap.size ≤ k_) ∧ k_ ≠ g) ho0 (fun k_ hk_ => ⟨(Nat.le_trans (keep_size (w := w) (g := g) (row := none) (by repeat (first | (with_reducible first | exact HK.out | apply KeepBut.set_ | apply keep_drewN | apply keep_drew | apply keep_alloc) | exact HK.out))) hk_), (IsS56.fresh (by repeat (first | (with_reducible first | exact HI0.out | apply IsS56.alloc | apply IsS56.drewN | apply IsS56.drew | apply IsS56.set_0 | apply IsS56.set_1 | apply IsS56.set_2 | apply IsS56.set_3) | exact HI0.out)) k_ hk_)⟩)) (keep_size (w := w) (g := g) (row := none) (by repeat (first | (with_reducible first | exact HK.out | apply KeepBut.set_ | apply keep_drewN | apply keep_drew | apply keep_alloc) | exact HK.out)))); have n1_ := Aside0.mk (KeepBut.trans (by repeat (first | (with_reducible first | exact HK.out | apply KeepBut.set_ | apply keep_drewN | apply keep_drew | apply keep_alloc) | exact HK.out)) hk (.inl rfl)); have n2_ := Aside0.mk (hb); have n3_ := Aside0.mk (hi); clear HK; clear HB; clear HI0; have HO157 := n0_; have HK := n1_; have HB := n2_; have HI0 := n3_; clear n0_ n1_ n2_ n3_; (try clear hb); (try clear hb2); (try clear hk); (try clear hi); (try clear ho0)))
    go_ret
    exact ⟨_, by first | rfl | (simp [errW_none, errW_some] <;> rfl) | (simp [*, errW_none, errW_some] <;> rfl), by (with_reducible repeat (first | apply Kd.N_alloc | apply Kd.N_drewN | apply Kd.N_drew)); exact Kd.N_mono HO157.out (fun _ hk => hk.1), by repeat (first | (with_reducible first | exact HI0.out | apply IsS56.alloc | apply IsS56.drewN | apply IsS56.drew | apply IsS56.set_0 | apply IsS56.set_1 | apply IsS56.set_2 | apply IsS56.set_3) | exact HI0.out), by repeat (first | (with_reducible first | exact HB.out | apply below_alloc | apply pw_below_drewN | apply below_drew1 | refine below_set ?_ (IsS56.ge HI0.out)) | exact HB.out), by repeat (first | (with_reducible first | exact HK.out | apply KeepBut.set_ | apply keep_drewN | apply keep_drew | apply keep_alloc) | exact HK.out)⟩
  · rw [if_neg c3] at H
    exact absurd H (by simp)

end Go.Proofs.YtoacojkmclngmaaGreatDoor.Pz

-- written by the session's own program hookprint.py
namespace Go.Proofs.YtoacojkmclngmaaGreatDoor.Pz
open Go.RowKit Go.Proofs.YtoacojkmclngmaaGreatDoorW.PrintWords Go.Proofs.YtoacojkmclngmaaGreatDoorW.PrintLast Go.Proofs.YtoacojkmclngmaaGreatDoorW.PrintMore
attribute [local go_sem] max2_int min2_int max_two min_two max_three min_three max_four min_four   -- for this text's walks alone
attribute [local go_sem] rune_str
set_option linter.unusedVariables false
set_option linter.unusedSimpArgs false

/-! ### scan_Scanner_Close: function 18 -/
def scan_Scanner_Close.f (k : Nat) (s0_0 : ByteArray) (s0_1 : Bool) (s0_2 : ByteArray) (s0_3 : Int) : Option ((List (S33)) × ByteArray × Bool × ByteArray × Int) := (scan_Scanner_told.f k s0_0 s0_1 s0_2 s0_3 true).bind fun bt162 => (some (bt162.1, (⟨#[]⟩ : ByteArray), false, (⟨#[]⟩ : ByteArray), 0))
theorem scan_Scanner_Close.mono : ∀ a0 a1 a2 a3 k, LeO (scan_Scanner_Close.f k a0 a1 a2 a3) (scan_Scanner_Close.f (k + 1) a0 a1 a2 a3) := by
  intro a0 a1 a2 a3 k
  unfold scan_Scanner_Close.f
  repeat' first
      | (with_reducible exact scan_Scanner_told.mono _ _ _ _ _ _)
      | (with_reducible exact LeO.refl _)
      | (with_reducible exact LeO.none _)
      | (with_reducible refine LeO.ite ?_ ?_)
      | (with_reducible refine LeO.bind ?_ (fun _ => ?_))
      | exact scan_Scanner_told.mono _ _ _ _ _ _
      | exact LeO.none _
      | refine LeO.ite ?_ ?_
      | refine LeO.bind ?_ (fun _ => ?_)
set_option maxHeartbeats 8000000 in
set_option maxRecDepth 100000 in
theorem scan_Scanner_Close.calls (k : Nat) (g : Nat) (s0_0 : ByteArray) (s0_1 : Bool) (s0_2 : ByteArray) (s0_3 : Int) (r1 : List (S33)) (r2 : ByteArray) (r3 : Bool) (r4 : ByteArray) (r5 : Int) (w0 w : World) (hI : IsS56 w0 w g s0_0 s0_1 s0_2 s0_3) (hB : Below w0.heap.size w0 w) (hG : Glob w0) (h : scan_Scanner_Close.f k s0_0 s0_1 s0_2 s0_3 = some (r1, r2, r3, r4, r5)) :
    Calls Tryz.prog 18 #[.pointer (some ⟨g, 0, none⟩)] w fun e w' => ∃ v0_ : Value, e = .returned (v0_) ∧ Kd.N k33 33 w' w.heap.size (fun k_ => (w.heap.size ≤ k_)) v0_ r1 ∧ IsS56 w0 w' g r2 r3 r4 r5 ∧ Below w0.heap.size w0 w' ∧ KeepBut w w' g none := by
  have hu56 := Tryz.underlying56
  have HI0 := Aside0.mk hI
  have HK := Aside0.mk (KeepBut.refl w g none)
  have HL := Aside0.mk hB.size
  clear hI
  have HW0 := Aside0.mk hB.size
  have HB := Aside0.mk hB
  clear hB
  have H : ((scan_Scanner_told.f k s0_0 s0_1 s0_2 s0_3 true).bind fun bt162 => (some (bt162.1, (⟨#[]⟩ : ByteArray), false, (⟨#[]⟩ : ByteArray), 0))) = some (r1, r2, r3, r4, r5) := h
  clear h
  replace H := Option.bind_eq_some_iff.mp H
  obtain ⟨⟨t162, t165, t166, t167, t168⟩, A20, H⟩ := H
  replace H : (some (t162, (⟨#[]⟩ : ByteArray), false, (⟨#[]⟩ : ByteArray), 0)) = some (r1, r2, r3, r4, r5) := H
  have A2 := Aside0.mk A20
  clear A20
  simp only [Option.some.injEq, Prod.mk.injEq] at H
  obtain ⟨rfl, rfl, rfl, rfl, rfl⟩ := H
  go_enter Tryz.func18, Tryz.ntmps18
  go_wp2_with (first | ((with_reducible refine gate_callee (f := 38) rfl ?_); refine goesL_ (some 5) rfl rfl Tryz.func38 (by kernel_rfl) rfl #[.pointer (some ⟨g, 0, none⟩), .bool true] rfl (by (try simp only [List.map_toArray, List.map_cons, List.map_nil]); first | done | rfl | (simp only [List.length_drop, List.length_take]; rfl)) ?_; (with_reducible refine (scan_Scanner_told.calls k g s0_0 s0_1 s0_2 s0_3 true t162 t165 t166 t167 t168 w0 _ ?side1 ?side2 hG A2.out).mono ?_); (case side1 => repeat (first | (with_reducible first | exact HI0.out | apply IsS56.alloc | apply IsS56.drewN | apply IsS56.drew | apply IsS56.set_0 | apply IsS56.set_1 | apply IsS56.set_2 | apply IsS56.set_3) | exact HI0.out)); (case side2 => repeat (first | (with_reducible first | exact HB.out | apply below_alloc | apply pw_below_drewN | apply below_drew1 | refine below_set ?_ (IsS56.ge HI0.out)) | exact HB.out)); rintro e w3 ⟨v163, rfl, ho0, hi, hb, hk⟩; refine ⟨_, rfl, ?_⟩; have n0_ := Aside0.mk (Kd.N_lower (Kd.N_mono (ok' := fun k_ => (w.heap.size ≤ k_) ∧ k_ ≠ g) ho0 (fun k_ hk_ => ⟨(Nat.le_trans (keep_size (w := w) (g := g) (row := none) (by repeat (first | (with_reducible first | exact HK.out | apply KeepBut.set_ | apply keep_drewN | apply keep_drew | apply keep_alloc) | exact HK.out))) hk_), (IsS56.fresh (by repeat (first | (with_reducible first | exact HI0.out | apply IsS56.alloc | apply IsS56.drewN | apply IsS56.drew | apply IsS56.set_0 | apply IsS56.set_1 | apply IsS56.set_2 | apply IsS56.set_3) | exact HI0.out)) k_ hk_)⟩)) (keep_size (w := w) (g := g) (row := none) (by repeat (first | (with_reducible first | exact HK.out | apply KeepBut.set_ | apply keep_drewN | apply keep_drew | apply keep_alloc) | exact HK.out)))); have n1_ := Aside0.mk (KeepBut.trans (by repeat (first | (with_reducible first | exact HK.out | apply KeepBut.set_ | apply keep_drewN | apply keep_drew | apply keep_alloc) | exact HK.out)) hk (.inl rfl)); have n2_ := Aside0.mk (hb); have n3_ := Aside0.mk (hi); clear HK; clear HB; clear HI0; have HO164 := n0_; have HK := n1_; have HB := n2_; have HI0 := n3_; clear n0_ n1_ n2_ n3_; (try clear hb); (try clear hb2); (try clear hk); (try clear hi); (try clear ho0); obtain ⟨HGz4, hgz4⟩ := HI0.out; have hcz4_0 := cellS56_0 HGz4; have hcz4_1 := cellS56_1 HGz4; have hcz4_2 := cellS56_2 HGz4; have hcz4_3 := cellS56_3 HGz4; have hfz4_0 := blk_frozen HGz4 0; have hfz4_1 := blk_frozen HGz4 1; have hfz4_2 := blk_frozen HGz4 2; have hfz4_3 := blk_frozen HGz4 3; clear HGz4 hgz4))
  go_ret
  exact ⟨_, by first | rfl | (simp [errW_none, errW_some] <;> rfl) | (simp [*, errW_none, errW_some] <;> rfl), by (with_reducible repeat (first | apply Kd.N_alloc | apply Kd.N_drewN | apply Kd.N_drew)); exact Kd.N_mono (Kd.N_far (p := ⟨g, 3, none⟩) (Kd.N_far (p := ⟨g, 2, none⟩) (Kd.N_far (p := ⟨g, 1, none⟩) (Kd.N_far (p := ⟨g, 0, none⟩) (Kd.N_mono HO164.out (fun k_ hk => (⟨hk, hk.2⟩ : _ ∧ k_ ≠ g))) (fun _ hk => hk.2) (.string (⟨#[]⟩ : ByteArray))) (fun _ hk => hk.2) (.bool false)) (fun _ hk => hk.2) (.string (⟨#[]⟩ : ByteArray))) (fun _ hk => hk.2) (.int .i64 0)) (fun _ hk => hk.1.1), by repeat (first | (with_reducible first | exact HI0.out | apply IsS56.alloc | apply IsS56.drewN | apply IsS56.drew | apply IsS56.set_0 | apply IsS56.set_1 | apply IsS56.set_2 | apply IsS56.set_3) | exact HI0.out), by repeat (first | (with_reducible first | exact HB.out | apply below_alloc | apply pw_below_drewN | apply below_drew1 | refine below_set ?_ (IsS56.ge HI0.out)) | exact HB.out), by repeat (first | (with_reducible first | exact HK.out | apply KeepBut.set_ | apply keep_drewN | apply keep_drew | apply keep_alloc) | exact HK.out)⟩

end Go.Proofs.YtoacojkmclngmaaGreatDoor.Pz

-- written by the session's own program hookprint.py
namespace Go.Proofs.YtoacojkmclngmaaGreatDoor.Pz
open Go.RowKit Go.Proofs.YtoacojkmclngmaaGreatDoorW.PrintWords Go.Proofs.YtoacojkmclngmaaGreatDoorW.PrintLast Go.Proofs.YtoacojkmclngmaaGreatDoorW.PrintMore
attribute [local go_sem] max2_int min2_int max_two min_two max_three min_three max_four min_four   -- for this text's walks alone
attribute [local go_sem] rune_str
set_option linter.unusedVariables false
set_option linter.unusedSimpArgs false

/-! ### scan_Merge: function 19 (by hand) -/
-- IMPORTS: @S@HandWords Derived.Deep.RegionHeld3
/-- one more piece behind those put together: texts that stand behind one another become one, empty ones are left out -/
def mergeStep (out : List S33) (t : S33) : Option (List S33) :=
  if t.f0 = 1 ∧ t.f2.toList = [] then some out
  else if t.f0 = 1 ∧ 0 < out.length ∧ (rd_T33 out ((out.length : Int) - 1)).f0 = 1 then
    (if (rd_T33 out ((out.length : Int) - 1)).f2.size + t.f2.size ≤ 140737488355328 then
      some (out.set (out.length - 1) ⟨1, (rd_T33 out ((out.length : Int) - 1)).f1, (rd_T33 out ((out.length : Int) - 1)).f2 ++ t.f2, (rd_T33 out ((out.length : Int) - 1)).f3, (rd_T33 out ((out.length : Int) - 1)).f4⟩) else none)
  else if out.length < 1954687338268 then some (out ++ [t]) else none
def mergeGo : List S33 → List S33 → Option (List S33)
  | out, [] => some out
  | out, t :: ts => (mergeStep out t).bind fun o => mergeGo o ts
def scan_Merge.f (l0 : List S33) : Option (List S33) := mergeGo [] l0
set_option maxHeartbeats 4000000 in
set_option maxRecDepth 100000 in
theorem scan_Merge.calls (P0_ : Nat → Prop) (A0 : Option Addr) (c0 : Nat) (l0 : List (S33)) (r : List (S33)) (w : World) (hs0 : Kd.V k33 33 w w.heap.size (fun k_ => P0_ k_) (.slice A0 l0.length c0) l0) (h : scan_Merge.f l0 = some r) :
    Calls Tryz.prog 19 #[.slice A0 l0.length c0] w fun e w' => ∃ v0_ : Value, e = .returned (v0_) ∧ Kd.V k33 33 w' w.heap.size (fun k_ => (P0_ k_ ∨ w.heap.size ≤ k_)) v0_ r ∧ Below w.heap.size w w' := by
  unfold scan_Merge.f at h
  have HM := Aside0.mk h
  have HS := Aside0.mk (Kd.V_bound hs0)
  have HLC := Aside0.mk (Kd.V_reads' hs0)
  have hlc : l0.length ≤ c0 := (Kd.V_reads' hs0).2.1
  have hl63 : (l0.length : Int) ≤ 9223372036854775807 := by have := (Kd.V_reads' hs0).2.2.2.1; omega
  have HB0 := Aside0.mk (Below.refl w.heap.size w)
  clear h hs0
  go_enter Tryz.func19, Tryz.ntmps19
  go_wp2
  go_loopw [9, 3] (fun i v3 wr => ∃ (k : Nat) (out : List S33), k ≤ l0.length ∧ i = .int .i64 k ∧ Aside0 (mergeGo out (l0.drop k) = some r) ∧ Aside0 (Kd.N k33 33 wr w.heap.size (fun k_ => P0_ k_ ∨ w.heap.size ≤ k_) v3 out) ∧ Aside0 (Below w.heap.size w wr)) (fun i _ _ => l0.length - (intOf i).toNat)
  case atStart => exact ⟨0, [], Nat.zero_le _, rfl, HM, ⟨Kd.N_nil _ _ _ _ _⟩, HB0⟩
  case round =>
    obtain ⟨k, out, hk, rfl, HM1, HN1, HB1⟩ := hrel
    obtain ⟨Ao, co, rfl⟩ := Kd.N_slice HN1.out
    by_cases hlt : k < l0.length
    · have hlti : (k : Int) < (l0.length : Int) := by omega
      obtain ⟨t, ht⟩ : ∃ t, l0[k]? = some t := ⟨l0[k], List.getElem?_eq_getElem hlt⟩
      have hdrop : l0.drop k = t :: l0.drop (k + 1) := by
        rw [List.drop_eq_getElem_cons hlt]
        rw [List.getElem?_eq_getElem hlt] at ht
        rw [Option.some.inj ht]
      have hm := HM1.out
      rw [hdrop] at hm
      unfold mergeGo at hm
      obtain ⟨o, hstep, hm⟩ := Option.bind_eq_some_iff.1 hm
      have HM2 := Aside0.mk hm
      clear hm hdrop HM1
      have hV := Kd.V_below HS.out HB1.out
      obtain ⟨ad, rfl⟩ : ∃ ad, A0 = some ad := by obtain ⟨ad, h, _⟩ := (Kd.V_reads' hV).2.2.2.2 (by omega); exact ⟨ad, h⟩
      obtain ⟨cs, hcl, hFK, hcc⟩ := Kd.V_get hV t (k : Int) (by omega) (by omega)
      have hget : l0.getD (k : Int).toNat t = t := by rw [Int.toNat_natCast, List.getD_eq_getElem?_getD, ht]; rfl
      rw [hget] at hFK
      obtain ⟨A3, c3, rfl, hl3, hF3⟩ := k33_openF hFK
      rw [Int.toNat_natCast] at hcc
      have hc0 : wr.cell? (ad.add (k * 5)) = some (.int .i64 t.f0) := hcc 0 _ rfl
      have hc1 : wr.cell? ⟨(ad.add (k * 5)).block, (ad.add (k * 5)).off + 1, none⟩ = some (.string t.f1) := by rw [← add_field _ _ 1 (by omega)]; exact hcc 1 _ rfl
      have hc2 : wr.cell? ⟨(ad.add (k * 5)).block, (ad.add (k * 5)).off + 2, none⟩ = some (.string t.f2) := by rw [← add_field _ _ 2 (by omega)]; exact hcc 2 _ rfl
      have hc3 : wr.cell? ⟨(ad.add (k * 5)).block, (ad.add (k * 5)).off + 3, none⟩ = some (.slice A3 t.f3.length c3) := by rw [← add_field _ _ 3 (by omega)]; exact hcc 3 _ rfl
      have hc4 : wr.cell? ⟨(ad.add (k * 5)).block, (ad.add (k * 5)).off + 4, none⟩ = some (.bool t.f4) := by rw [← add_field _ _ 4 (by omega)]; exact hcc 4 _ rfl
      have HFK1 := Aside0.mk hFK
      clear hV hcl hcc hFK hget hF3 ht
      go_upto_region 5 with (fail)
      obtain ⟨W2, hW2⟩ : ∃ W2, W2 = wr.alloc (Obj.cells #[.int .i64 t.f0, .string t.f1, .string t.f2, .slice A3 t.f3.length c3, .bool t.f4] 33) := ⟨_, rfl⟩
      rw [← hW2]
      have hBT : W2.heap[wr.heap.size]? = some (.cells #[.int .i64 t.f0, .string t.f1, .string t.f2, .slice A3 t.f3.length c3, .bool t.f4] 33 (0, 0)) := by rw [hW2]; exact heap_alloc_new wr _
      have HN2 := Aside0.mk (show Kd.N k33 33 W2 w.heap.size (fun k_ => P0_ k_ ∨ w.heap.size ≤ k_) (.slice Ao out.length co) out from by rw [hW2]; exact Kd.N_alloc HN1.out _)
      have HB2 := Aside0.mk (show Below w.heap.size w W2 from by rw [hW2]; exact below_alloc HB1.out _)
      have HFK := Aside0.mk (show Kd.FK k33 W2 (fun k_ => P0_ k_ ∧ k_ < w.heap.size) t [.int .i64 t.f0, .string t.f1, .string t.f2, .slice A3 t.f3.length c3, .bool t.f4] from by rw [hW2]; exact Kd.FK_below HFK1.out (below_alloc (Below.refl _ _) _))
      have HOKP : Aside0 (∀ k_, (P0_ k_ ∧ k_ < w.heap.size) → (P0_ k_ ∨ w.heap.size ≤ k_) ∧ some k_ ≠ (Value.slice Ao out.length co).ownBlock) := ⟨fun k_ hk_ => ⟨.inl hk_.1, fun he => by have := Kd.N_base HN1.out k_ he.symm; omega⟩⟩
      have HFR : Aside0 (∀ k_, W2.heap.size ≤ k_ → (P0_ k_ ∨ w.heap.size ≤ k_)) := ⟨fun k_ hk_ => .inr (Nat.le_trans HB2.out.size hk_)⟩
      have ht0 : W2.cell? ⟨wr.heap.size, 0, none⟩ = some (.int .i64 t.f0) := (blk_cell hBT 0).trans rfl
      have ht1 : W2.cell? ⟨wr.heap.size, 1, none⟩ = some (.string t.f1) := (blk_cell hBT 1).trans rfl
      have ht2 : W2.cell? ⟨wr.heap.size, 2, none⟩ = some (.string t.f2) := (blk_cell hBT 2).trans rfl
      have ht3 : W2.cell? ⟨wr.heap.size, 3, none⟩ = some (.slice A3 t.f3.length c3) := (blk_cell hBT 3).trans rfl
      have ht4 : W2.cell? ⟨wr.heap.size, 4, none⟩ = some (.bool t.f4) := (blk_cell hBT 4).trans rfl
      have HBT := Aside0.mk hBT
      clear hW2 hc0 hc1 hc2 hc3 hc4 HFK1 hBT HN1 HB1
      unfold mergeStep at hstep
      by_cases h1 : t.f0 = 1
      · have h1' : (t.f0 == 1) = true := by simpa using h1
        by_cases he : t.f2.toList = []
        · rw [if_pos ⟨h1, he⟩] at hstep
          obtain rfl := Option.some.inj hstep
          have he' : (t.f2.toList == ([] : List UInt8)) = true := beq_iff_eq.mpr he
          clear hstep h1 he
          go_wp2
          go_roundw
          case rel => exact ⟨k + 1, out, by omega, by go_num, HM2, HN2, HB2⟩
          case measure => simp [intOf]; omega
        · rw [if_neg (fun c => he c.2)] at hstep
          have he' : (t.f2.toList == ([] : List UInt8)) = false := beq_eq_false_iff_ne.mpr he
          by_cases hp : 0 < out.length
          · have hpi : (0 : Int) < (out.length : Int) := by omega
            obtain ⟨gb, cb, hsl, hgb1, hgb2, -⟩ := Kd.N_form HN2.out hp
            injection hsl with hAo hn_ hco
            subst hAo
            obtain ⟨m, hm⟩ : ∃ m : Nat, out.length = m + 1 := ⟨out.length - 1, by omega⟩
            have h63 := (Kd.N_reads' HN2.out).2.2.2.1
            have hwr : wrap64 ((out.length : Int) - 1) = (m : Int) := by unfold wrap64; omega
            have hmlt : (m : Int) < (out.length : Int) := by omega
            have hm0 : (out.length : Int) - 1 = (m : Int) := by omega
            rw [hm0] at hstep
            obtain ⟨q, hq⟩ : ∃ q, q = rd_T33 out (m : Int) := ⟨_, rfl⟩
            obtain ⟨cq, hql, hqF, hqc, hqf⟩ := Kd.N_elem HN2.out (⟨0, ByteArray.empty, ByteArray.empty, [], false⟩ : S33) (m : Int) (by omega) (by omega)
            have hqe : out.getD (m : Int).toNat (⟨0, ByteArray.empty, ByteArray.empty, [], false⟩ : S33) = q := by rw [hq]; rfl
            rw [hqe] at hqF
            rw [← hq] at hstep
            obtain ⟨Aq, cpq, rfl, hlq, hFq⟩ := k33_openF hqF
            rw [Int.toNat_natCast] at hqc hqf
            have hd0 : W2.cell? ⟨gb, m * 5, none⟩ = some (.int .i64 q.f0) := hqc 0 _ rfl
            have hd2 : W2.cell? ⟨gb, m * 5 + 2, none⟩ = some (.string q.f2) := hqc 2 _ rfl
            have hfz2 : W2.frozen? ⟨gb, m * 5 + 2, none⟩ = false := hqf 2
            have HQC := Aside0.mk hqc
            have HQF := Aside0.mk hqF
            have HM := Aside0.mk hm
            have HFQ := Aside0.mk hFq
            have HLQ := Aside0.mk hlq
            clear hlq hqc hqf hFq hqF hqe hq hm h63 hm0 hn_ hco
            by_cases hlk : q.f0 = 1
            · have hlk' : (q.f0 == 1) = true := by simpa using hlk
              rw [if_pos ⟨h1, hp, hlk⟩] at hstep
              split at hstep
              case isFalse => cases hstep
              rename_i hsz
              obtain rfl := Option.some.inj hstep
              clear hstep
              go_upto_region 9 with (fail)
              have hszi : (q.f2.size : Int) + (t.f2.size : Int) ≤ 140737488355328 := by omega
              go_region
              all_goals (try go_wp2)
              have hN4 := (Kd.N_seg HN2.out (m : Int) (by omega) (by omega) (c := [.int .i64 q.f0, .string q.f1, .string q.f2, .slice Aq q.f3.length cpq, .bool q.f4]) (seg := [.string (q.f2 ++ t.f2)]) (j := 2) rfl (fun j u hu => HQC.out j u hu) (show 2 + 1 ≤ 5 from by decide) (okp := fun k_ => (P0_ k_ ∨ w.heap.size ≤ k_) ∧ k_ ≠ gb) (x' := (⟨1, q.f1, q.f2 ++ t.f2, q.f3, q.f4⟩ : S33)) (by rw [hlk]; exact k33_mkF _ _ ⟨1, q.f1, q.f2 ++ t.f2, q.f3, q.f4⟩ HLQ.out HFQ.out) (fun _ hk => hk)).1
              have e1 : out.length - 1 = (m : Int).toNat := by have := HM.out; omega
              have hm2 := HM2.out
              rw [e1] at hm2
              exact ⟨⟨k + 1, _, by omega, by go_num, ⟨hm2⟩, ⟨Kd.N_drew hN4⟩, ⟨below_drew1 (below_set HB2.out hgb1)⟩⟩, by simp [intOf]; omega⟩
            · have hlk' : (q.f0 == 1) = false := by simpa using hlk
              rw [if_neg (fun c => hlk c.2.2)] at hstep
              clear h1 he hlk
              split at hstep
              case isFalse => cases hstep
              rename_i hcap
              obtain rfl := Option.some.inj hstep
              have HCAP := Aside0.mk hcap
              clear hcap hstep
              go_wp2_with (first | ((with_reducible refine gate_builtin (b := .append) (xs := #[.tmp 15, .tmp 17]) rfl ?_); at_builtin; refine Kd.N_append k33 (w0 := w) w.heap.size rfl (.tmp 15) (.tmp 17) 24 33 (.agg #[(.int .i64 0), (.string ⟨#[]⟩), (.string ⟨#[]⟩), (.slice none 0 0), (.bool false)]) 72 rfl Tryz.underlying24 info33 rfl (by decide) (by omega) (.slice (some ⟨gb, 0, none⟩) out.length co) out t [.int .i64 t.f0, .string t.f1, .string t.f2, .slice A3 t.f3.length c3, .bool t.f4] (fun k_ => P0_ k_ ∨ w.heap.size ≤ k_) (fun k_ => P0_ k_ ∧ k_ < w.heap.size) rfl rfl HFK.out HOKP.out HFR.out HN2.out HB2.out HB2.out.size (by have := HCAP.out; omega) ?_; intro v1 w1 ho hb hg hat; have HN3 := Aside0.mk ho; have HB3 := Aside0.mk hb; clear ho hb hg hat))
              go_roundw
              case rel => exact ⟨k + 1, out ++ [t], by omega, by go_num, HM2, HN3, HB3⟩
              case measure => simp [intOf]; omega
          · rw [if_neg (fun c => hp c.2.1)] at hstep
            have hpi : ¬ (0 : Int) < (out.length : Int) := by omega
            clear h1 he
            split at hstep
            case isFalse => cases hstep
            rename_i hcap
            obtain rfl := Option.some.inj hstep
            have HCAP := Aside0.mk hcap
            clear hcap hstep
            go_wp2_with (first | ((with_reducible refine gate_builtin (b := .append) (xs := #[.tmp 15, .tmp 17]) rfl ?_); at_builtin; refine Kd.N_append k33 (w0 := w) w.heap.size rfl (.tmp 15) (.tmp 17) 24 33 (.agg #[(.int .i64 0), (.string ⟨#[]⟩), (.string ⟨#[]⟩), (.slice none 0 0), (.bool false)]) 72 rfl Tryz.underlying24 info33 rfl (by decide) (by omega) (.slice Ao out.length co) out t [.int .i64 t.f0, .string t.f1, .string t.f2, .slice A3 t.f3.length c3, .bool t.f4] (fun k_ => P0_ k_ ∨ w.heap.size ≤ k_) (fun k_ => P0_ k_ ∧ k_ < w.heap.size) rfl rfl HFK.out HOKP.out HFR.out HN2.out HB2.out HB2.out.size (by have := HCAP.out; omega) ?_; intro v1 w1 ho hb hg hat; have HN3 := Aside0.mk ho; have HB3 := Aside0.mk hb; clear ho hb hg hat))
            go_roundw
            case rel => exact ⟨k + 1, out ++ [t], by omega, by go_num, HM2, HN3, HB3⟩
            case measure => simp [intOf]; omega
      · have h1' : (t.f0 == 1) = false := by simpa using h1
        rw [if_neg (fun c => h1 c.1), if_neg (fun c => h1 c.1)] at hstep
        clear h1
        split at hstep
        case isFalse => cases hstep
        rename_i hcap
        obtain rfl := Option.some.inj hstep
        have HCAP := Aside0.mk hcap
        clear hcap hstep
        go_wp2_with (first | ((with_reducible refine gate_builtin (b := .append) (xs := #[.tmp 15, .tmp 17]) rfl ?_); at_builtin; refine Kd.N_append k33 (w0 := w) w.heap.size rfl (.tmp 15) (.tmp 17) 24 33 (.agg #[(.int .i64 0), (.string ⟨#[]⟩), (.string ⟨#[]⟩), (.slice none 0 0), (.bool false)]) 72 rfl Tryz.underlying24 info33 rfl (by decide) (by omega) (.slice Ao out.length co) out t [.int .i64 t.f0, .string t.f1, .string t.f2, .slice A3 t.f3.length c3, .bool t.f4] (fun k_ => P0_ k_ ∨ w.heap.size ≤ k_) (fun k_ => P0_ k_ ∧ k_ < w.heap.size) rfl rfl HFK.out HOKP.out HFR.out HN2.out HB2.out HB2.out.size (by have := HCAP.out; omega) ?_; intro v1 w1 ho hb hg hat; have HN3 := Aside0.mk ho; have HB3 := Aside0.mk hb; clear ho hb hg hat))
        go_roundw
        case rel => exact ⟨k + 1, out ++ [t], by omega, by go_num, HM2, HN3, HB3⟩
        case measure => simp [intOf]; omega
    · have hkk : k = l0.length := by omega
      subst hkk
      have hm := HM1.out
      rw [List.drop_length] at hm
      obtain rfl := Option.some.inj hm
      go_wp2
      go_ret
      exact ⟨_, rfl, Kd.N_V HN1.out, HB1.out⟩

end Go.Proofs.YtoacojkmclngmaaGreatDoor.Pz

-- written by the session's own program hookprint.py
namespace Go.Proofs.YtoacojkmclngmaaGreatDoor.Pz
open Go.RowKit Go.Proofs.YtoacojkmclngmaaGreatDoorW.PrintWords Go.Proofs.YtoacojkmclngmaaGreatDoorW.PrintLast Go.Proofs.YtoacojkmclngmaaGreatDoorW.PrintMore
attribute [local go_sem] max2_int min2_int max_two min_two max_three min_three max_four min_four   -- for this text's walks alone
attribute [local go_sem] rune_str
set_option linter.unusedVariables false
set_option linter.unusedSimpArgs false

/-! ### scan_Tokens: function 14 -/
def scan_Tokens.f (k : Nat) (a0 : ByteArray) : Option ((List (S33))) := (scan_New.f).bind fun bt169 => ((scan_Scanner_Write.f k bt169.1 bt169.2.1 bt169.2.2.1 bt169.2.2.2 a0).bind fun bt174 => ((scan_Scanner_Close.f k bt174.2.1 bt174.2.2.1 bt174.2.2.2.1 bt174.2.2.2.2).bind fun bt181 => (if bt174.1.length + bt181.1.length < 1954687338268 then ((scan_Merge.f (bt174.1 ++ bt181.1)).bind fun t191 => (some t191)) else (none))))
theorem scan_Tokens.mono : ∀ a0 k, LeO (scan_Tokens.f k a0) (scan_Tokens.f (k + 1) a0) := by
  intro a0 k
  unfold scan_Tokens.f
  repeat' first
      | (with_reducible exact scan_Scanner_Close.mono _ _ _ _ _)
      | (with_reducible exact scan_Scanner_Write.mono _ _ _ _ _ _)
      | (with_reducible exact LeO.refl _)
      | (with_reducible exact LeO.none _)
      | (with_reducible refine LeO.ite ?_ ?_)
      | (with_reducible refine LeO.bind ?_ (fun _ => ?_))
      | exact scan_Scanner_Close.mono _ _ _ _ _
      | exact scan_Scanner_Write.mono _ _ _ _ _ _
      | exact LeO.none _
      | refine LeO.ite ?_ ?_
      | refine LeO.bind ?_ (fun _ => ?_)
set_option maxHeartbeats 8000000 in
set_option maxRecDepth 100000 in
theorem scan_Tokens.calls (k : Nat) (a0 : ByteArray) (r : List (S33)) (w : World) (hG : Glob w) (h : scan_Tokens.f k a0 = some r) :
    Calls Tryz.prog 14 #[.string a0] w fun e w' => ∃ v0_ : Value, e = .returned (v0_) ∧ Kd.V k33 33 w' w.heap.size (fun k_ => (w.heap.size ≤ k_)) v0_ r ∧ Below w.heap.size w w' := by
  have HB := Aside0.mk (Below.refl w.heap.size w)
  have H : ((scan_New.f).bind fun bt169 => ((scan_Scanner_Write.f k bt169.1 bt169.2.1 bt169.2.2.1 bt169.2.2.2 a0).bind fun bt174 => ((scan_Scanner_Close.f k bt174.2.1 bt174.2.2.1 bt174.2.2.2.1 bt174.2.2.2.2).bind fun bt181 => (if bt174.1.length + bt181.1.length < 1954687338268 then ((scan_Merge.f (bt174.1 ++ bt181.1)).bind fun t191 => (some t191)) else (none))))) = some r := h
  clear h
  replace H := Option.bind_eq_some_iff.mp H
  obtain ⟨⟨t169, t170, t171, t172⟩, A20, H⟩ := H
  replace H : ((scan_Scanner_Write.f k t169 t170 t171 t172 a0).bind fun bt174 => ((scan_Scanner_Close.f k bt174.2.1 bt174.2.2.1 bt174.2.2.2.1 bt174.2.2.2.2).bind fun bt181 => (if bt174.1.length + bt181.1.length < 1954687338268 then ((scan_Merge.f (bt174.1 ++ bt181.1)).bind fun t191 => (some t191)) else (none)))) = some r := H
  have A2 := Aside0.mk A20
  clear A20
  replace H := Option.bind_eq_some_iff.mp H
  obtain ⟨⟨t174, t177, t178, t179, t180⟩, A30, H⟩ := H
  replace H : ((scan_Scanner_Close.f k t177 t178 t179 t180).bind fun bt181 => (if t174.length + bt181.1.length < 1954687338268 then ((scan_Merge.f (t174 ++ bt181.1)).bind fun t191 => (some t191)) else (none))) = some r := H
  have A3 := Aside0.mk A30
  clear A30
  replace H := Option.bind_eq_some_iff.mp H
  obtain ⟨⟨t181, t184, t185, t186, t187⟩, A40, H⟩ := H
  replace H : (if t174.length + t181.length < 1954687338268 then ((scan_Merge.f (t174 ++ t181)).bind fun t191 => (some t191)) else (none)) = some r := H
  have A4 := Aside0.mk A40
  clear A40
  by_cases c5 : t174.length + t181.length < 1954687338268
  · rw [if_pos c5] at H
    have LMc5 := Aside0.mk c5
    clear c5
    obtain ⟨y188, hy188⟩ : ∃ y_ : List (S33), y_ = (t174 ++ t181) := ⟨_, rfl⟩
    replace H : ((scan_Merge.f y188).bind fun t191 => (some t191)) = some r := by first | (rw [hy188]; with_reducible exact H) | (have H2_ := (Option.bind_some _ _).symm.trans H; rw [hy188]; with_reducible exact H2_) | (have H2_ := (Option.bind_some _ _).symm.trans H; with_reducible exact H2_) | with_reducible exact H | (rw [hy188]; exact H) | exact H
    have Ny188 := Aside0.mk hy188
    clear hy188
    replace H := Option.bind_eq_some_iff.mp H
    obtain ⟨t191, A60, H⟩ := H
    replace H : (some t191) = some r := H
    have A6 := Aside0.mk A60
    clear A60
    obtain rfl := Option.some.inj H
    go_enter Tryz.func14, Tryz.ntmps14
    go_wp2_with (first | ((with_reducible refine gate_callee (f := 16) rfl ?_); refine goesL_ (some 4) rfl rfl Tryz.func16 (by kernel_rfl) rfl #[] rfl (by (try simp only [List.map_toArray, List.map_cons, List.map_nil]); first | done | rfl | (simp only [List.length_drop, List.length_take]; rfl)) ?_; (with_reducible refine (scan_New.calls  t169 t170 t171 t172 w _ ?side1 A2.out).mono ?_); (case side1 => repeat (first | (with_reducible first | exact HB.out | apply below_alloc | apply pw_below_drewN | apply below_drew1) | exact HB.out)); rintro e w7 ⟨g173, rfl, hi, hb, hb2⟩; refine ⟨_, rfl, ?_⟩; have n0_ := Aside0.mk (hb); have n1_ := Aside0.mk (hi); clear HB; have HB := n0_; have HI173 := n1_; clear n0_ n1_; (try clear hb); (try clear hb2); (try clear hk); (try clear hi)) | ((with_reducible refine gate_callee (f := 17) rfl ?_); refine goesL_ (some 7) rfl rfl Tryz.func17 (by kernel_rfl) rfl #[.pointer (some ⟨g173, 0, none⟩), .string a0] rfl (by (try simp only [List.map_toArray, List.map_cons, List.map_nil]); first | done | rfl | (simp only [List.length_drop, List.length_take]; rfl)) ?_; (with_reducible refine (scan_Scanner_Write.calls k g173 t169 t170 t171 t172 a0 t174 t177 t178 t179 t180 w _ ?side1 ?side2 hG A3.out).mono ?_); (case side1 => repeat (first | (with_reducible first | exact HI173.out | apply IsS56.alloc | apply IsS56.drewN | apply IsS56.drew | apply IsS56.set_0 | apply IsS56.set_1 | apply IsS56.set_2 | apply IsS56.set_3) | exact HI173.out)); (case side2 => repeat (first | (with_reducible first | exact HB.out | apply below_alloc | apply pw_below_drewN | apply below_drew1 | refine below_set ?_ (IsS56.ge HI173.out)) | exact HB.out)); rintro e w8 ⟨v175, rfl, ho0, hi, hb, hk⟩; refine ⟨_, rfl, ?_⟩; have n0_ := Aside0.mk (Kd.N_lower (Kd.N_mono (ok' := fun k_ => (w.heap.size ≤ k_) ∧ k_ ≠ g173) ho0 (fun k_ hk_ => ⟨(Nat.le_trans (below_size (by repeat (first | (with_reducible first | exact HB.out | apply below_alloc | apply pw_below_drewN | apply below_drew1 | refine below_set ?_ (IsS56.ge HI173.out)) | exact HB.out))) hk_), (IsS56.fresh (by repeat (first | (with_reducible first | exact HI173.out | apply IsS56.alloc | apply IsS56.drewN | apply IsS56.drew | apply IsS56.set_0 | apply IsS56.set_1 | apply IsS56.set_2 | apply IsS56.set_3) | exact HI173.out)) k_ hk_)⟩)) (below_size (by repeat (first | (with_reducible first | exact HB.out | apply below_alloc | apply pw_below_drewN | apply below_drew1 | refine below_set ?_ (IsS56.ge HI173.out)) | exact HB.out)))); have n1_ := Aside0.mk (hb); have n2_ := Aside0.mk (hi); clear HB; clear HI173; have HO176 := n0_; have HB := n1_; have HI173 := n2_; clear n0_ n1_ n2_; (try clear hb); (try clear hb2); (try clear hk); (try clear hi); (try clear ho0)) | ((with_reducible refine gate_callee (f := 18) rfl ?_); refine goesL_ (some 9) rfl rfl Tryz.func18 (by kernel_rfl) rfl #[.pointer (some ⟨g173, 0, none⟩)] rfl (by (try simp only [List.map_toArray, List.map_cons, List.map_nil]); first | done | rfl | (simp only [List.length_drop, List.length_take]; rfl)) ?_; (with_reducible refine (scan_Scanner_Close.calls k g173 t177 t178 t179 t180 t181 t184 t185 t186 t187 w _ ?side1 ?side2 hG A4.out).mono ?_); (case side1 => repeat (first | (with_reducible first | exact HI173.out | apply IsS56.alloc | apply IsS56.drewN | apply IsS56.drew | apply IsS56.set_0 | apply IsS56.set_1 | apply IsS56.set_2 | apply IsS56.set_3) | exact HI173.out)); (case side2 => repeat (first | (with_reducible first | exact HB.out | apply below_alloc | apply pw_below_drewN | apply below_drew1 | refine below_set ?_ (IsS56.ge HI173.out)) | exact HB.out)); rintro e w9 ⟨v182, rfl, ho0, hi, hb, hk⟩; refine ⟨_, rfl, ?_⟩; have n0_ := Aside0.mk (Kd.N_mono (Kd.N_told (Kd.N_oldK (Kd.N_mono (ok := fun k_ => (((w.heap.size ≤ k_)) ∧ k_ ≠ g173)) (by (with_reducible repeat (first | apply Kd.N_alloc | apply Kd.N_drewN | apply Kd.N_drew)); exact HO176.out) (fun k_ hk_ => (⟨hk_, hk_.2⟩ : _ ∧ k_ ≠ g173))) hk) (Kd.N_base ho0)) (fun _ h_ => h_.1)); have n1_ := Aside0.mk (Kd.N_lower (Kd.N_mono (ok' := fun k_ => (w.heap.size ≤ k_) ∧ some k_ ≠ (v175 : Value).ownBlock ∧ k_ ≠ g173) ho0 (fun k_ hk_ => ⟨(Nat.le_trans (below_size (by repeat (first | (with_reducible first | exact HB.out | apply below_alloc | apply pw_below_drewN | apply below_drew1 | refine below_set ?_ (IsS56.ge HI173.out)) | exact HB.out))) hk_), (Kd.fresh' (Kd.N_lt (by (with_reducible repeat (first | apply Kd.N_alloc | apply Kd.N_drewN | apply Kd.N_drew)); exact HO176.out)) k_ hk_), (IsS56.fresh (by repeat (first | (with_reducible first | exact HI173.out | apply IsS56.alloc | apply IsS56.drewN | apply IsS56.drew | apply IsS56.set_0 | apply IsS56.set_1 | apply IsS56.set_2 | apply IsS56.set_3) | exact HI173.out)) k_ hk_)⟩)) (below_size (by repeat (first | (with_reducible first | exact HB.out | apply below_alloc | apply pw_below_drewN | apply below_drew1 | refine below_set ?_ (IsS56.ge HI173.out)) | exact HB.out)))); have n2_ := Aside0.mk (hb); have n3_ := Aside0.mk (hi); clear HO176; clear HB; clear HI173; have HO176 := n0_; have HO183 := n1_; have HB := n2_; have HI173 := n3_; clear n0_ n1_ n2_ n3_; (try clear hb); (try clear hb2); (try clear hk); (try clear hi); (try clear ho0); obtain ⟨Ao11, co11, eo11⟩ := Kd.N_slice HO183.out; subst eo11) | ((with_reducible refine gate_builtin (b := .append) (xs := #[.tmp 7, .tmp 9]) rfl ?_); at_builtin; refine Kd.N_append_rows k33 (w0 := w) w.heap.size rfl (.tmp 7) (.tmp 9) 24 33 (.agg #[(.int .i64 0), (.string ⟨#[]⟩), (.string ⟨#[]⟩), (.slice none 0 0), (.bool false)]) 72 rfl Tryz.underlying24 info33 rfl (by decide) (by omega) v175 t174 t181 _ _ _ (fun k_ => (w.heap.size ≤ k_) ∧ k_ ≠ g173) (fun k_ => ((fun k_ => (w.heap.size ≤ k_) ∧ k_ ≠ g173)) k_ ∧ some k_ ≠ (v175 : Value).ownBlock) rfl rfl ?aO ?aR (fun _ hk => hk) ?aF ?aB ?aS ?aL ?_; (case aR => exact (by skip; exact Kd.N_F (Kd.N_mono (ok' := (fun k_ => ((fun k_ => (w.heap.size ≤ k_) ∧ k_ ≠ g173)) k_ ∧ some k_ ≠ (v175 : Value).ownBlock)) (HO183.out) (fun k_ hk => ⟨⟨hk.1, hk.2.2⟩, hk.2.1⟩)))); (case aB => exact (by repeat (first | (with_reducible first | exact HB.out | apply below_alloc | apply pw_below_drewN | apply below_drew1 | refine below_set ?_ (IsS56.ge HI173.out)) | exact HB.out))); (case aF => exact (fun k_ hk => ⟨(Nat.le_trans (below_size (by repeat (first | (with_reducible first | exact HB.out | apply below_alloc | apply pw_below_drewN | apply below_drew1 | refine below_set ?_ (IsS56.ge HI173.out)) | exact HB.out))) hk), IsS56.fresh (by repeat (first | (with_reducible first | exact HI173.out | apply IsS56.alloc | apply IsS56.drewN | apply IsS56.drew | apply IsS56.set_0 | apply IsS56.set_1 | apply IsS56.set_2 | apply IsS56.set_3) | exact HI173.out)) k_ hk⟩)); (case aO => exact (by (with_reducible repeat (first | apply Kd.N_alloc | apply Kd.N_drewN | apply Kd.N_drew)); exact Kd.N_mono HO176.out (fun _ hk => ⟨hk.1.1, hk.1.2⟩))); (case aS => exact (below_size (by repeat (first | (with_reducible first | exact HB.out | apply below_alloc | apply pw_below_drewN | apply below_drew1 | refine below_set ?_ (IsS56.ge HI173.out)) | exact HB.out)))); (case aL => have := LMc5.out; omega); intro v189 w10 ho hb hg hat; rw [← Ny188.out] at ho; have n0_ := Aside0.mk (IsS56.grown (by repeat (first | (with_reducible first | exact HI173.out | apply IsS56.alloc | apply IsS56.drewN | apply IsS56.drew | apply IsS56.set_0 | apply IsS56.set_1 | apply IsS56.set_2 | apply IsS56.set_3) | exact HI173.out)) hg (IsS56.own_neN HI173.out HO176.out (by decide))); have n1_ := Aside0.mk (Kd.N_afterv (ok := (fun k_ => (w.heap.size ≤ k_) ∧ k_ ≠ g173)) (by (with_reducible repeat (first | apply Kd.N_alloc | apply Kd.N_drewN | apply Kd.N_drew)); exact Kd.N_mono HO183.out (fun _ hk => ⟨⟨hk.1, hk.2.2⟩, hk.2.1⟩)) hg hat); have n2_ := Aside0.mk (hb); have n3_ := Aside0.mk (ho); clear HI173; clear HO183; clear HB; clear HO176; have HI173 := n0_; have HO183 := n1_; have HB := n2_; have HO190 := n3_; clear n0_ n1_ n2_ n3_; clear ho hb hg hat; obtain ⟨Ao12, co12, eo12⟩ := Kd.N_slice HO190.out; subst eo12) | ((with_reducible refine gate_callee (f := 19) rfl ?_); refine goesL_ (some 11) rfl rfl Tryz.func19 (by kernel_rfl) rfl #[.slice Ao12 y188.length co12] rfl (by (try simp only [List.map_toArray, List.map_cons, List.map_nil]); first | done | rfl | (simp only [List.length_drop, List.length_take]; rfl)) ?_; (with_reducible refine (scan_Merge.calls (fun k_ => ((w.heap.size ≤ k_) ∧ k_ ≠ g173)) _ _ y188 t191 _ ?side1 A6.out).mono ?_); (case side1 => exact Kd.N_V (HO190.out)); rintro e w13 ⟨v192, rfl, ho0, hb⟩; refine ⟨_, rfl, ?_⟩; have n0_ := Aside0.mk (Kd.N_below (by (with_reducible repeat (first | apply Kd.N_alloc | apply Kd.N_drewN | apply Kd.N_drew)); exact HO183.out) hb); have n1_ := Aside0.mk (Kd.N_below (by (with_reducible repeat (first | apply Kd.N_alloc | apply Kd.N_drewN | apply Kd.N_drew)); exact HO190.out) hb); have n2_ := Aside0.mk (Kd.V_lower (Kd.V_mono (ok' := fun k_ => (w.heap.size ≤ k_) ∧ k_ ≠ g173) ho0 (fun k_ hk_ => ⟨Or.elim hk_ (fun hs_ => hs_.1) (fun hn_ => (Nat.le_trans (below_size (by repeat (first | (with_reducible first | exact HB.out | apply below_alloc | apply pw_below_drewN | apply below_drew1 | refine below_set ?_ (IsS56.ge HI173.out)) | exact HB.out))) hn_)), Or.elim hk_ (fun hs_ => hs_.2) (fun hn_ => (IsS56.fresh (by repeat (first | (with_reducible first | exact HI173.out | apply IsS56.alloc | apply IsS56.drewN | apply IsS56.drew | apply IsS56.set_0 | apply IsS56.set_1 | apply IsS56.set_2 | apply IsS56.set_3) | exact HI173.out)) k_ hn_))⟩)) (below_size (by repeat (first | (with_reducible first | exact HB.out | apply below_alloc | apply pw_below_drewN | apply below_drew1 | refine below_set ?_ (IsS56.ge HI173.out)) | exact HB.out)))); have n3_ := Aside0.mk (IsS56.below (by repeat (first | (with_reducible first | exact HI173.out | apply IsS56.alloc | apply IsS56.drewN | apply IsS56.drew | apply IsS56.set_0 | apply IsS56.set_1 | apply IsS56.set_2 | apply IsS56.set_3) | exact HI173.out)) hb); have n4_ := Aside0.mk (below_step (by repeat (first | (with_reducible first | exact HB.out | apply below_alloc | apply pw_below_drewN | apply below_drew1 | refine below_set ?_ (IsS56.ge HI173.out)) | exact HB.out)) hb); clear HO183; clear HO190; clear HI173; clear HB; have HO183 := n0_; have HO190 := n1_; have HO193 := n2_; have HI173 := n3_; have HB := n4_; clear n0_ n1_ n2_ n3_ n4_; (try clear hb); (try clear hb2); (try clear hk); (try clear hi); (try clear ho0)))
    go_ret
    exact ⟨_, by first | rfl | (simp [errW_none, errW_some] <;> rfl) | (simp [*, errW_none, errW_some] <;> rfl), by (with_reducible repeat (first | apply Kd.V_alloc | apply Kd.V_drewN | apply Kd.V_drew)); exact Kd.V_mono HO193.out (fun _ hk => hk.1), by repeat (first | (with_reducible first | exact HB.out | apply below_alloc | apply pw_below_drewN | apply below_drew1 | refine below_set ?_ (IsS56.ge HI173.out)) | exact HB.out)⟩
  · rw [if_neg c5] at H
    exact absurd H (by simp)

end Go.Proofs.YtoacojkmclngmaaGreatDoor.Pz

-- written by the session's own program hookprint.py
namespace Go.Proofs.YtoacojkmclngmaaGreatDoor.Pz
open Go.RowKit Go.Proofs.YtoacojkmclngmaaGreatDoorW.PrintWords Go.Proofs.YtoacojkmclngmaaGreatDoorW.PrintLast Go.Proofs.YtoacojkmclngmaaGreatDoorW.PrintMore
attribute [local go_sem] max2_int min2_int max_two min_two max_three min_three max_four min_four   -- for this text's walks alone
attribute [local go_sem] rune_str
set_option linter.unusedVariables false
set_option linter.unusedSimpArgs false

/-! ### cribblelaw18_awake: function 12 (by hand) -/
-- IMPORTS: @S@HandWords Derived.Deep.RegionHeld3
def awakeText : ByteArray := ⟨#[97, 60, 66, 32, 99, 61, 49, 32, 67, 61, 50, 62, 120, 60, 47, 62, 121]⟩
def awakeList : List S33 := [⟨1, ⟨#[]⟩, ⟨#[97]⟩, [], false⟩, ⟨2, ⟨#[98]⟩, ⟨#[]⟩, [⟨⟨#[99]⟩, ⟨#[49]⟩⟩], false⟩, ⟨1, ⟨#[]⟩, ⟨#[120, 121]⟩, [], false⟩]
instance decAttr : DecidableEq S36 := fun x y => decidable_of_iff (x.f0 = y.f0 ∧ x.f1 = y.f1) (by cases x; cases y; simp)
instance decToken : DecidableEq S33 := fun x y => decidable_of_iff (x.f0 = y.f0 ∧ x.f1 = y.f1 ∧ x.f2 = y.f2 ∧ x.f3 = y.f3 ∧ x.f4 = y.f4) (by cases x; cases y; simp)
def cribblelaw18_awake.f : Option Bool := if scan_Tokens.f 32 awakeText = some awakeList then some true else none
set_option maxHeartbeats 4000000 in
set_option maxRecDepth 100000 in
theorem cribblelaw18_awake.calls  (r : Bool) (w : World) (hG : Glob w) (h : cribblelaw18_awake.f  = some r) :
    Calls Tryz.prog 12 #[] w fun e w' => e = .returned (.bool r) ∧ Below w.heap.size w w' := by
  unfold cribblelaw18_awake.f at h
  split at h
  case isFalse => cases h
  rename_i ht
  obtain rfl := Option.some.inj h
  have HT : Aside0 (scan_Tokens.f 32 (⟨#[97, 60, 66, 32, 99, 61, 49, 32, 67, 61, 50, 62, 120, 60, 47, 62, 121]⟩ : ByteArray) = some awakeList) := ⟨ht⟩
  have HG0 := Aside0.mk hG
  clear ht h hG
  go_enter Tryz.func12, Tryz.ntmps12
  go_upto_region 2 with (first | (go_at_call 14; (with_reducible refine (scan_Tokens.calls 32 (⟨#[97, 60, 66, 32, 99, 61, 49, 32, 67, 61, 50, 62, 120, 60, 47, 62, 121]⟩ : ByteArray) awakeList _ HG0.out HT.out).mono ?_); rintro e w1 ⟨v, rfl, ho, hb⟩; have HV := Aside0.mk ho; have HB1 := Aside0.mk hb; clear ho hb))
  obtain ⟨A, c, rfl⟩ := Kd.V_slice HV.out
  have hc63 : (3 : Nat) ≤ c := (Kd.V_at HV.out).2.1
  obtain ⟨ad, rfl⟩ : ∃ ad, A = some ad := by obtain ⟨ad, h, _⟩ := (Kd.V_reads' HV.out).2.2.2.2 (show 0 < awakeList.length from by decide); exact ⟨ad, h⟩
  obtain ⟨c1, hl1, hF1, hc1⟩ := Kd.V_get HV.out (⟨0, ⟨#[]⟩, ⟨#[]⟩, [], false⟩ : S33) 1 (by decide) (by decide)
  obtain ⟨c2, hl2, hF2, hc2⟩ := Kd.V_get HV.out (⟨0, ⟨#[]⟩, ⟨#[]⟩, [], false⟩ : S33) 2 (by decide) (by decide)
  obtain ⟨A1, p1, rfl, hq1, hG1⟩ := k33_openF hF1
  obtain ⟨A2, p2, rfl, hq2, hG2⟩ := k33_openF hF2
  have hC1 := Kd.F_now hG1
  obtain ⟨ae, rfl⟩ : ∃ ae, A1 = some ae := by obtain ⟨ad, h, _⟩ := hC1.2.2 (show 0 < 1 from by decide); exact ⟨ad, h⟩
  obtain ⟨ad', ce, he', hle, hKe, hce⟩ := Kd.C_get hC1 (⟨⟨#[]⟩, ⟨#[]⟩⟩ : S36) 0 (by decide) (by decide)
  injection he' with he'
  subst he'
  obtain rfl := k36_open hKe
  have hn1 : w1.cell? ⟨(ad.add 5).block, (ad.add 5).off + 1, none⟩ = some (.string ⟨#[98]⟩) := by rw [← add_field _ _ 1 (by omega)]; exact hc1 1 _ rfl
  have hn3 : w1.cell? ⟨(ad.add 5).block, (ad.add 5).off + 3, none⟩ = some (.slice (some ae) 1 p1) := by rw [← add_field _ _ 3 (by omega)]; exact hc1 3 _ rfl
  have hm2 : w1.cell? ⟨(ad.add 10).block, (ad.add 10).off + 2, none⟩ = some (.string ⟨#[120, 121]⟩) := by rw [← add_field _ _ 2 (by omega)]; exact hc2 2 _ rfl
  have he0 : w1.cell? (ae.add 0) = some (.string ⟨#[99]⟩) := hce 0 _ rfl
  have he1 : w1.cell? (ae.add 1) = some (.string ⟨#[49]⟩) := hce 1 _ rfl
  clear hc1 hc2 hF1 hF2 hG1 hG2 hC1 hKe hce
  have hlen : awakeList.length = 3 := rfl
  rw [hlen]
  replace hn1 : w1.cell? ⟨ad.block, ad.off + 5 + 1, none⟩ = some (.string ⟨#[98]⟩) := hn1
  replace hn3 : w1.cell? ⟨ad.block, ad.off + 5 + 3, none⟩ = some (.slice (some ae) 1 p1) := hn3
  replace hm2 : w1.cell? ⟨ad.block, ad.off + 10 + 2, none⟩ = some (.string ⟨#[120, 121]⟩) := hm2
  have he2 : w1.cell? ae = some (.string ⟨#[99]⟩) := he0
  have he3 : w1.cell? ⟨ae.block, ae.off + 1, none⟩ = some (.string ⟨#[49]⟩) := he1
  clear hl1 hl2 hle hq1 hq2 hlen
  go_wp2_with (first | (go_at_call 16; (with_reducible refine (scan_New.calls _ _ _ _ w _ HB1.out rfl).mono ?_); rintro e w2 ⟨gn, rfl, -, hb1, hb2⟩; have HB2 := Aside0.mk hb1; clear hb1 hb2))
  go_ret
  exact ⟨rfl, HB2.out⟩

end Go.Proofs.YtoacojkmclngmaaGreatDoor.Pz

-- written by the session's own program hookprint.py
namespace Go.Proofs.YtoacojkmclngmaaGreatDoor.Pz
open Go.RowKit Go.Proofs.YtoacojkmclngmaaGreatDoorW.PrintWords Go.Proofs.YtoacojkmclngmaaGreatDoorW.PrintLast Go.Proofs.YtoacojkmclngmaaGreatDoorW.PrintMore
attribute [local go_sem] max2_int min2_int max_two min_two max_three min_three max_four min_four   -- for this text's walks alone
attribute [local go_sem] rune_str
set_option linter.unusedVariables false
set_option linter.unusedSimpArgs false

/-! ### scan_Scanner_Held: function 21 -/
def scan_Scanner_Held.f (s0_0 : ByteArray) (s0_1 : Bool) (s0_2 : ByteArray) (s0_3 : Int) : Option (Int × ByteArray × Bool × ByteArray × Int) := some ((s0_0.size : Int), s0_0, s0_1, s0_2, s0_3)
set_option maxHeartbeats 8000000 in
set_option maxRecDepth 100000 in
theorem scan_Scanner_Held.calls (g : Nat) (s0_0 : ByteArray) (s0_1 : Bool) (s0_2 : ByteArray) (s0_3 : Int) (r1 : Int) (r2 : ByteArray) (r3 : Bool) (r4 : ByteArray) (r5 : Int) (w0 w : World) (hI : IsS56 w0 w g s0_0 s0_1 s0_2 s0_3) (hB : Below w0.heap.size w0 w) (h : scan_Scanner_Held.f s0_0 s0_1 s0_2 s0_3 = some (r1, r2, r3, r4, r5)) :
    Calls Tryz.prog 21 #[.pointer (some ⟨g, 0, none⟩)] w fun e w' => e = .returned (.int .i64 r1) ∧ IsS56 w0 w' g r2 r3 r4 r5 ∧ Below w0.heap.size w0 w' ∧ KeepBut w w' g none := by
  have HI0 := Aside0.mk hI
  have HK := Aside0.mk (KeepBut.refl w g none)
  have HL := Aside0.mk hB.size
  clear hI
  have HW0 := Aside0.mk hB.size
  have HB := Aside0.mk hB
  clear hB
  have H : (some ((s0_0.size : Int), s0_0, s0_1, s0_2, s0_3)) = some (r1, r2, r3, r4, r5) := h
  clear h
  simp only [Option.some.injEq, Prod.mk.injEq] at H
  obtain ⟨rfl, rfl, rfl, rfl, rfl⟩ := H
  obtain ⟨HGz2, hgz2⟩ := HI0.out
  have hcz2_0 := cellS56_0 HGz2
  have hcz2_1 := cellS56_1 HGz2
  have hcz2_2 := cellS56_2 HGz2
  have hcz2_3 := cellS56_3 HGz2
  have hfz2_0 := blk_frozen HGz2 0
  have hfz2_1 := blk_frozen HGz2 1
  have hfz2_2 := blk_frozen HGz2 2
  have hfz2_3 := blk_frozen HGz2 3
  clear HGz2 hgz2
  go_enter Tryz.func21, Tryz.ntmps21
  go_wp2
  go_ret
  exact ⟨by first | rfl | (simp [errW_none, errW_some] <;> rfl) | (simp [*, errW_none, errW_some] <;> rfl), by repeat (first | (with_reducible first | exact HI0.out | apply IsS56.alloc | apply IsS56.drewN | apply IsS56.drew | apply IsS56.set_0 | apply IsS56.set_1 | apply IsS56.set_2 | apply IsS56.set_3) | exact HI0.out), by repeat (first | (with_reducible first | exact HB.out | apply below_alloc | apply pw_below_drewN | apply below_drew1 | refine below_set ?_ (IsS56.ge HI0.out)) | exact HB.out), by repeat (first | (with_reducible first | exact HK.out | apply KeepBut.set_ | apply keep_drewN | apply keep_drew | apply keep_alloc) | exact HK.out)⟩

end Go.Proofs.YtoacojkmclngmaaGreatDoor.Pz
