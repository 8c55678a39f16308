/- Texts of the session, one behind the other: what the code computes, function by function, and its contracts. -/
import Derived.Deep.RegionHeld3
import Derived.KernelRfl
import Derived.Test.YtoacojkmclngmaaGreatDoorK1
import Derived.Test.YtoacojkmclngmaaGreatDoorK2
import Derived.Test.YtoacojkmclngmaaGreatDoorK3
import Derived.Test.YtoacojkmclngmaaGreatDoorK4
import Derived.Test.YtoacojkmclngmaaGreatDoorK5
import Derived.Test.YtoacojkmclngmaaGreatDoorK6
import Derived.Test.YtoacojkmclngmaaGreatDoorK7
import Derived.Test.YtoacojkmclngmaaGreatDoorK8
import Derived.Test.YtoacojkmclngmaaGreatDoorK9
namespace Go.Proofs.YtoacojkmclngmaaGreatDoor.Pz
open Go.RowKit Go.Proofs.YtoacojkmclngmaaGreatDoorW.PrintWords Go.Proofs.YtoacojkmclngmaaGreatDoorW.PrintLast Go.Proofs.YtoacojkmclngmaaGreatDoorW.PrintMore
attribute [local go_sem] max2_int min2_int max_two min_two max_three min_three max_four min_four   -- for this text's walks alone
attribute [local go_sem] rune_str
set_option linter.unusedVariables false
set_option linter.unusedSimpArgs false
def stepHold (s0_0 : ByteArray) (s0_3 : Int) (a1 : Bool) (n : Int) (sure : Bool) : Option (Int × Int) :=
  if sure = true then some (n, 0)
  else if a1 = true then some ((s0_0.size : Int), 0)
  else if n = (s0_0.size : Int) ∧ s0_3 < 2 then (scan_open.f s0_0).bind fun o => some (n, o)
  else if s0_3 < 2 then (if 0 ≤ n ∧ n ≤ (s0_0.size : Int) then (scan_open.f (s0_0.extract 0 n.toNat)).bind fun o => some (n, o) else none)
  else some (n, 0)
def stepText (s0_0 : ByteArray) (s0_1 : Bool) (s0_2 : ByteArray) (s0_3 : Int) (n : Int) : Option ((List (S33)) × Bool × ByteArray × Bool × ByteArray × Int) :=
  (scan_reader_skip.f s0_0 s0_1 n).bind fun k => (scan_mode_text.f s0_2 s0_3 k.1).bind fun t => some ([⟨1, ByteArray.empty, t, [], false⟩], true, k.2.1, k.2.2, s0_2, s0_3)
def stepMark (s0_0 : ByteArray) (s0_1 : Bool) (s0_2 : ByteArray) (s0_3 : Int) (a1 : Bool) : Option ((List (S33)) × Bool × ByteArray × Bool × ByteArray × Int) :=
  (scan_reader_markup.f s0_0 false).bind fun m =>
  if m.2.2.2.2.2.2 = true ∧ a1 = false then some ([], false, s0_0, s0_1, s0_2, s0_3)
  else if m.1 = 0 then some ([], true, m.2.2.2.2.2.1, s0_1, ByteArray.empty, 0)
  else if m.1 = 2 then (scan_Raw.f 8 m.2.1).bind fun r => some ([⟨m.1, m.2.1, m.2.2.1, m.2.2.2.1, m.2.2.2.2.1⟩], true, m.2.2.2.2.2.1, s0_1, m.2.1, r)
  else some ([⟨m.1, m.2.1, m.2.2.1, m.2.2.2.1, m.2.2.2.2.1⟩], true, m.2.2.2.2.2.1, s0_1, ByteArray.empty, 0)
def stepRest (s0_0 : ByteArray) (s0_1 : Bool) (s0_2 : ByteArray) (s0_3 : Int) (a1 sure : Bool) (nh : Int × Int) : Option ((List (S33)) × Bool × ByteArray × Bool × ByteArray × Int) :=
  if -9223372036854775808 ≤ nh.1 - nh.2 ∧ nh.1 - nh.2 ≤ 9223372036854775807 then
    if 0 < nh.1 - nh.2 then stepText s0_0 s0_1 s0_2 s0_3 (nh.1 - nh.2)
    else if sure = false ∨ s0_0.toList = [] then some ([], false, s0_0, s0_1, s0_2, s0_3)
    else stepMark s0_0 s0_1 s0_2 s0_3 a1
  else none
def scan_Scanner_step.f (s0_0 : ByteArray) (s0_1 : Bool) (s0_2 : ByteArray) (s0_3 : Int) (a1 : Bool) : Option ((List (S33)) × Bool × ByteArray × Bool × ByteArray × Int) :=
  (scan_Scanner_run.f s0_0 s0_1 s0_2 s0_3).bind fun q => (stepHold s0_0 s0_3 a1 q.1 q.2.1).bind fun nh => stepRest s0_0 s0_1 s0_2 s0_3 a1 q.2.1 nh
theorem run_same {s0 : ByteArray} {s1 : Bool} {s2 : ByteArray} {s3 : Int} {n : Int} {b : Bool} {r3 : ByteArray} {r4 : Bool} {r5 : ByteArray} {r6 : Int} (h : scan_Scanner_run.f s0 s1 s2 s3 = some (n, b, r3, r4, r5, r6)) : r3 = s0 ∧ r4 = s1 ∧ r5 = s2 ∧ r6 = s3 := by
  unfold scan_Scanner_run.f at h
  split at h
  · simp only [Option.some.injEq, Prod.mk.injEq] at h
    obtain ⟨_, _, rfl, rfl, rfl, rfl⟩ := h
    exact ⟨rfl, rfl, rfl, rfl⟩
  · split at h
    · obtain ⟨e, _, h⟩ := Option.bind_eq_some_iff.1 h
      simp only [Option.some.injEq, Prod.mk.injEq] at h
      obtain ⟨_, _, rfl, rfl, rfl, rfl⟩ := h
      exact ⟨rfl, rfl, rfl, rfl⟩
    · split at h
      · obtain ⟨e, _, h⟩ := Option.bind_eq_some_iff.1 h
        simp only [Option.some.injEq, Prod.mk.injEq] at h
        obtain ⟨_, _, rfl, rfl, rfl, rfl⟩ := h
        exact ⟨rfl, rfl, rfl, rfl⟩
      · cases h
theorem V_one {W : World} {ok : Nat → Prop} {b base : Nat} {x : S33} {cs : List Value} (hok : ok b) (hb : W.heap[b]? = some (.cells cs.toArray 33 (0, 0))) (hFK : Kd.FK k33 W ok x cs) : Kd.V k33 33 W base ok (.slice (some ⟨b, 0, none⟩) 1 1) [x] := by
  refine Kd.V_mk (xs := [x]) (by simp) ?_
  intro W' hW
  have hlt : b < W.heap.size := by
    rcases Nat.lt_or_ge b W.heap.size with h | h
    · exact h
    · rw [Array.getElem?_eq_none h] at hb; cases hb
  have hb' := (hW b hok hlt).trans hb
  refine ⟨rfl, by simp, fun _ => ⟨⟨b, 0, none⟩, rfl, fun j p hj => ?_⟩⟩
  cases j with
  | succ j => simp at hj
  | zero =>
    simp only [List.getElem?_cons_zero, Option.some.injEq] at hj
    subst hj
    refine ⟨cs, k33.K_len (Kd.FK_now hFK), hFK W' hW, fun i u hu => ?_⟩
    have h2 := blk_cell hb' i
    simp only [Nat.zero_mul, Nat.zero_add, Addr.add]
    have e : (if i = 0 then (⟨b, 0, none⟩ : Addr) else ⟨b, i, none⟩) = ⟨b, i, none⟩ := by
      by_cases h0 : i = 0
      · rw [if_pos h0, h0]
      · rw [if_neg h0]
    first | rw [e] | rw [show (if i = 0 then (⟨b, 0, none⟩ : Addr) else ⟨b, 0 + i, none⟩) = ⟨b, i, none⟩ from by rw [Nat.zero_add]; exact e]
    rw [h2]
    simpa using hu
theorem keep_new {w W : World} {o : Obj} (h : KeepBut (w.alloc o) W w.heap.size none) (g : Nat) : KeepBut w W g none := by
  have hs : (w.alloc o).heap.size = w.heap.size + 1 := by show (w.heap.push o).size = _; exact Array.size_push _
  refine ⟨by have := h.1; omega, fun i hi _ hr => ?_⟩
  rw [h.2 i (by omega) (by omega) hr]
  show (w.heap.push o)[i]? = w.heap[i]?
  rw [Array.getElem?_push, if_neg (Nat.ne_of_lt hi)]
set_option maxHeartbeats 1000000 in
set_option maxRecDepth 100000 in
theorem scan_reader_skip.callsE (g : Nat) (s0_0 : ByteArray) (s0_1 : Bool) (s0_2 : ByteArray) (s0_3 : Int) (a1 : Int) (r1 : ByteArray) (r2 : ByteArray) (r3 : Bool) (w0 w : World) (hI : IsS56 w0 w g s0_0 s0_1 s0_2 s0_3) (hB : Below w0.heap.size w0 w) (h : scan_reader_skip.f s0_0 s0_1 a1 = some (r1, r2, r3)) :
    Calls Tryz.prog 79 #[.pointer (some ⟨g, 0, none⟩), .int .i64 a1] w fun e w' => e = .returned (.string r1) ∧ IsS56 w0 w' g r2 r3 s0_2 s0_3 ∧ Below w0.heap.size w0 w' ∧ KeepBut w w' g none := by
  unfold scan_reader_skip.f at h
  split at h
  case isFalse => cases h
  rename_i h0
  simp only [Option.some.injEq, Prod.mk.injEq] at h
  obtain ⟨rfl, rfl, rfl⟩ := h
  obtain ⟨n, rfl⟩ : ∃ n : Nat, a1 = n := ⟨a1.toNat, by omega⟩
  have HI0 := Aside0.mk hI
  have HK := Aside0.mk (KeepBut.refl w g none)
  have HB := Aside0.mk hB
  obtain ⟨HGz8, hgz8⟩ := hI
  have hcz8_0 := cellS56_0 HGz8
  have hcz8_1 := cellS56_1 HGz8
  have hfz8_0 := blk_frozen HGz8 0
  have hfz8_1 := blk_frozen HGz8 1
  clear HGz8 hgz8 hB
  by_cases hlt : n ≤ s0_0.size
  · have e1 : min (n : Int).toNat s0_0.size = n := by simp; omega
    rw [e1]
    have hm : ¬ (s0_0.size : Int) < (n : Int) := by omega
    have hsz : (s0_0.extract 0 n).size = n := by rw [ByteArray.size_extract]; omega
    clear e1
    go_enter Tryz.func79, Tryz.ntmps79
    go_wp2
    repeat (go_quiet (fail); try go_wp2)
    go_ret
    exact ⟨rfl, by repeat (first | (with_reducible first | exact HI0.out | apply IsS56.drewN | apply IsS56.drew | apply IsS56.set_0) | exact HI0.out), by repeat (first | (with_reducible first | exact HB.out | apply pw_below_drewN | refine below_set ?_ (IsS56.ge HI0.out)) | exact HB.out), by repeat (first | (with_reducible first | exact HK.out | apply KeepBut.set_ | apply keep_drewN) | exact HK.out)⟩
  · have e1 : min (n : Int).toNat s0_0.size = s0_0.size := by simp; omega
    have hE : s0_0.extract s0_0.size s0_0.size = ByteArray.empty := by simp
    rw [e1, hE]
    have hm : (s0_0.size : Int) < (n : Int) := by omega
    have hsz : (s0_0.extract 0 s0_0.size).size = s0_0.size := by rw [ByteArray.size_extract]; omega
    clear e1
    go_enter Tryz.func79, Tryz.ntmps79
    go_wp2
    repeat (go_quiet (fail); try go_wp2)
    go_ret
    exact ⟨by simp, by repeat (first | (with_reducible first | exact HI0.out | apply IsS56.drewN | apply IsS56.drew | apply IsS56.set_0) | exact HI0.out), by repeat (first | (with_reducible first | exact HB.out | apply pw_below_drewN | refine below_set ?_ (IsS56.ge HI0.out)) | exact HB.out), by repeat (first | (with_reducible first | exact HK.out | apply KeepBut.set_ | apply keep_drewN) | exact HK.out)⟩
set_option maxHeartbeats 4000000 in
set_option maxRecDepth 100000 in
theorem scan_Scanner_step.calls (g : Nat) (s0_0 : ByteArray) (s0_1 : Bool) (s0_2 : ByteArray) (s0_3 : Int) (a1 : Bool) (r1 : List (S33)) (r2 : Bool) (r3 : ByteArray) (r4 : Bool) (r5 : ByteArray) (r6 : Int) (w0 w : World) (hI : IsS56 w0 w g s0_0 s0_1 s0_2 s0_3) (hB : Below w0.heap.size w0 w) (hG : Glob w0) (h : scan_Scanner_step.f s0_0 s0_1 s0_2 s0_3 a1 = some (r1, r2, r3, r4, r5, r6)) :
    Calls Tryz.prog 59 #[.pointer (some ⟨g, 0, none⟩), .bool a1] w fun e w' => ∃ v0_ : Value, e = .returned (.tuple #[v0_, .bool r2]) ∧ Kd.V k33 33 w' w.heap.size (fun k_ => (w.heap.size ≤ k_)) v0_ r1 ∧ IsS56 w0 w' g r3 r4 r5 r6 ∧ Below w0.heap.size w0 w' ∧ KeepBut w w' g none := by
  unfold scan_Scanner_step.f at h
  replace h := Option.bind_eq_some_iff.1 h
  obtain ⟨⟨n, sure, z0, z1, z2, z3⟩, hr, h⟩ := h
  obtain ⟨rfl, rfl, rfl, rfl⟩ := run_same hr
  replace h := Option.bind_eq_some_iff.1 h
  obtain ⟨⟨n2, hold⟩, hh, h⟩ := h
  simp only at hh h
  have HR := Aside0.mk hr
  have HH := Aside0.mk hh
  have HS := Aside0.mk h
  clear hr hh h
  have HI0 := Aside0.mk hI
  have HK0 := Aside0.mk (KeepBut.refl w g none)
  have HB0 := Aside0.mk hB
  have HG0 := Aside0.mk hG
  clear hI hB hG
  go_enter Tryz.func59, Tryz.ntmps59
  go_upto_block 0 with (first | (go_at_call 76; (with_reducible refine (scan_Scanner_run.calls g z0 z1 z2 z3 n sure z0 z1 z2 z3 w0 _ HI0.out HB0.out HG0.out HR.out).mono ?_); rintro e w1 ⟨rfl, hi, hb, hk⟩; have HI1 := Aside0.mk hi; have HB1 := Aside0.mk hb; have HK1 := Aside0.mk (KeepBut.trans HK0.out hk (.inl rfl)); clear hi hb hk))
  go_cut [6, 8] (fun v6 v8 wc => v6 = .int .i64 n2 ∧ v8 = .int .i64 hold ∧ Aside0 (IsS56 w0 wc g z0 z1 z2 z3) ∧ Aside0 (Below w0.heap.size w0 wc) ∧ Aside0 (KeepBut w wc g none))
  case first =>
    clear HS
    have hh := HH.out
    clear HH
    unfold stepHold at hh
    obtain ⟨HGz, hgz⟩ := HI1.out
    have hc0 := cellS56_0 HGz
    have hc3 := cellS56_3 HGz
    clear HGz hgz
    cases sure with
    | true =>
      rw [if_pos rfl] at hh
      simp only [Option.some.injEq, Prod.mk.injEq] at hh
      obtain ⟨rfl, rfl⟩ := hh
      go_wp2
      go_meet
      case rel => exact ⟨rfl, rfl, HI1, HB1, HK1⟩
    | false =>
      rw [if_neg (by simp)] at hh
      cases a1 with
      | true =>
        rw [if_pos rfl] at hh
        simp only [Option.some.injEq, Prod.mk.injEq] at hh
        obtain ⟨rfl, rfl⟩ := hh
        go_wp2
        go_meet
        case rel => exact ⟨rfl, rfl, HI1, HB1, HK1⟩
      | false =>
        rw [if_neg (by simp)] at hh
        by_cases hlt : z3 < 2
        · by_cases hn : n = (z0.size : Int)
          · rw [if_pos ⟨hn, hlt⟩] at hh
            subst hn
            replace hh := Option.bind_eq_some_iff.1 hh
            obtain ⟨o, ho, hh⟩ := hh
            simp only [Option.some.injEq, Prod.mk.injEq] at hh
            obtain ⟨rfl, rfl⟩ := hh
            have HO := Aside0.mk ho
            clear ho
            go_wp2_with (first | (go_at_call 77; (with_reducible refine (scan_open.calls z0 o _ (HG0.out.below HB1.out) HO.out).mono ?_); rintro e w2 ⟨rfl, hb⟩; have HI2 := Aside0.mk (IsS56.below HI1.out hb); have HB2 := Aside0.mk (below_weaken HB1.out HB1.out.size hb); have HK2 := Aside0.mk (KeepBut.trans HK1.out (KeepBut.of_below hb g none) (.inl rfl)); clear hb))
            go_meet
            case rel => exact ⟨rfl, rfl, HI2, HB2, HK2⟩
          · rw [if_neg (fun c => hn c.1), if_pos hlt] at hh
            split at hh
            case isFalse => cases hh
            rename_i hb0
            replace hh := Option.bind_eq_some_iff.1 hh
            obtain ⟨o, ho, hh⟩ := hh
            simp only [Option.some.injEq, Prod.mk.injEq] at hh
            obtain ⟨rfl, rfl⟩ := hh
            obtain ⟨m, rfl⟩ : ∃ m : Nat, n = m := ⟨n.toNat, by omega⟩
            rw [Int.toNat_natCast] at ho
            have HO := Aside0.mk ho
            clear ho
            have hn' : ((m : Int) == (z0.size : Int)) = false := by simpa using hn
            have hn2 : (m == z0.size) = false := by simpa using (show m ≠ z0.size by omega)
            have hm1 : (m : Int) ≤ (z0.size : Int) := by omega
            have hm2 : m ≤ z0.size := by omega
            clear hn hb0
            go_wp2_with (first | (go_at_call 77; (with_reducible refine (scan_open.calls (z0.extract 0 m) o _ (HG0.out.below HB1.out) HO.out).mono ?_); rintro e w2 ⟨rfl, hb⟩; have HI2 := Aside0.mk (IsS56.below HI1.out hb); have HB2 := Aside0.mk (below_weaken HB1.out HB1.out.size hb); have HK2 := Aside0.mk (KeepBut.trans HK1.out (KeepBut.of_below hb g none) (.inl rfl)); clear hb))
            go_meet
            case rel => exact ⟨rfl, rfl, HI2, HB2, HK2⟩
        · rw [if_neg (fun c => hlt c.2), if_neg hlt] at hh
          simp only [Option.some.injEq, Prod.mk.injEq] at hh
          obtain ⟨rfl, rfl⟩ := hh
          by_cases hn : n = (z0.size : Int)
          · subst hn
            go_wp2
            go_meet
            case rel => exact ⟨rfl, rfl, HI1, HB1, HK1⟩
          · have hn' : (n == (z0.size : Int)) = false := by simpa using hn
            go_wp2
            go_meet
            case rel => exact ⟨rfl, rfl, HI1, HB1, HK1⟩
  case rest =>
    obtain ⟨rfl, rfl, HI2, HB2, HK2⟩ := hcut
    have h := HS.out
    clear HS
    unfold stepRest at h
    split at h
    case isFalse => cases h
    rename_i hb0
    obtain ⟨HGz, hgz⟩ := HI2.out
    have hc0 := cellS56_0 HGz
    have hc2 := cellS56_2 HGz
    have hc3 := cellS56_3 HGz
    clear HGz hgz
    by_cases hpos : 0 < n2 - hold
    · rw [if_pos hpos] at h
      unfold stepText at h
      replace h := Option.bind_eq_some_iff.1 h
      obtain ⟨⟨k0, k1, k2⟩, hx, h⟩ := h
      have HSK := Aside0.mk hx
      clear hx
      replace h := Option.bind_eq_some_iff.1 h
      obtain ⟨t, hx, h⟩ := h
      have HTX := Aside0.mk hx
      clear hx
      simp only at HSK HTX h
      simp only [Option.some.injEq, Prod.mk.injEq] at h
      obtain ⟨rfl, rfl, rfl, rfl, rfl, rfl⟩ := h
      have hb1 := hb0.1
      have hb2 := hb0.2
      clear hb0
      obtain ⟨m, hm⟩ : ∃ m : Int, m = n2 - hold := ⟨_, rfl⟩
      rw [← hm] at hb1 hb2 hpos HSK
      have hw : wrap64 (n2 - hold) = m := by rw [← hm]; unfold wrap64; omega
      clear hm
      go_upto_region 12 with (fail)
      go_region_held3 (fun w' => w'.cell? ⟨g, 2, none⟩ = some (.string z2) ∧ w'.cell? ⟨g, 3, none⟩ = some (.int .i64 z3)) (first | exact ⟨hc2, hc3⟩ | exact ⟨cellS56_2 hi.1, cellS56_3 hi.1⟩ | exact ⟨pw_cell_below hbn (cellS56_2 hi.1), pw_cell_below hbn (cellS56_3 hi.1)⟩ | exact ⟨pw_cell_below (below_alloc hbn _) (cellS56_2 hi.1), pw_cell_below (below_alloc hbn _) (cellS56_3 hi.1)⟩) (first | (go_at_call 79; refine (scan_reader_skip.callsE g z0 z1 z2 z3 m k0 k1 k2 w0 _ HI2.out.drew (below_drew1 HB2.out) HSK.out).mono ?_; rintro e w3 ⟨rfl, hi, hb, hk⟩) | (go_at_call 78; refine (scan_mode_text.calls z2 z3 k0 t _ (HG0.out.below hb) HTX.out).mono ?_; rintro e w4 ⟨rfl, hbn⟩))
      go_wp2
      go_ret2
      have hk2 := KeepBut.trans (keep_drew HK2.out) (KeepBut.trans hk (KeepBut.of_below hbn g none) (.inl rfl)) (.inl rfl)
      exact ⟨_, rfl, V_one (keep_size hk2) (heap_alloc_new w4 _) (k33_mkF _ _ ⟨1, ByteArray.empty, t, [], false⟩ (Nat.le_refl 0) (Kd.F_nil _ _ _)), IsS56.alloc (IsS56.below hi hbn) _, below_alloc (below_weaken hb hb.size hbn) _, keep_alloc hk2 _⟩
    · rw [if_neg hpos] at h
      by_cases hnone : sure = false ∨ z0.toList = []
      · rw [if_pos hnone] at h
        simp only [Option.some.injEq, Prod.mk.injEq] at h
        obtain ⟨rfl, rfl, rfl, rfl, rfl, rfl⟩ := h
        obtain ⟨m, hm⟩ : ∃ m : Int, m = n2 - hold := ⟨_, rfl⟩
        have hw : wrap64 (n2 - hold) = m := by rw [← hm] at hb0; rw [← hm]; unfold wrap64; omega
        rw [← hm] at hpos
        clear hm hb0
        cases sure with
        | false =>
          clear hnone
          go_wp2
          go_ret2
          exact ⟨_, rfl, Kd.V_nil _ _ _ _ _, HI2.out, HB2.out, HK2.out⟩
        | true =>
          have hz : z0.toList = [] := by simpa using hnone
          have hz2 : (z0.toList == ([] : List UInt8)) = true := beq_iff_eq.mpr hz
          clear hnone
          go_wp2
          go_ret2
          exact ⟨_, rfl, Kd.V_nil _ _ _ _ _, HI2.out, HB2.out, HK2.out⟩
      · rw [if_neg hnone] at h
        simp only [not_or, Bool.not_eq_false] at hnone
        obtain ⟨rfl, hz⟩ := hnone
        have hz2 : (z0.toList == ([] : List UInt8)) = false := beq_eq_false_iff_ne.mpr hz
        obtain ⟨m, hm⟩ : ∃ m : Int, m = n2 - hold := ⟨_, rfl⟩
        have hw : wrap64 (n2 - hold) = m := by rw [← hm] at hb0; rw [← hm]; unfold wrap64; omega
        rw [← hm] at hpos
        clear hm hb0 hz
        unfold stepMark at h
        replace h := Option.bind_eq_some_iff.1 h
        obtain ⟨⟨m1, m2, m3, m4, m5, m6, m7⟩, hx, h⟩ := h
        have HMK := Aside0.mk hx
        clear hx
        simp only at HMK h
        have HS := Aside0.mk h
        clear h
        go_upto_region 17 with (first | (go_at_call 80; (with_reducible refine (scan_reader_markup.calls _ z0 false m1 m2 m3 m4 m5 m6 m7 w0 _ (IsS52.new w0 wc z0 false HB2.out) (below_alloc HB2.out _) HG0.out HMK.out).mono ?_); rintro e w3 ⟨v3, rfl, ho, hi, hb, hk⟩; obtain ⟨A, c, rfl⟩ := Kd.R_slice ho; have HO3 := Aside0.mk ho; have HI3 := Aside0.mk hi; have HB3 := Aside0.mk hb; have HK3 := Aside0.mk hk; clear hi hb hk ho))
        obtain ⟨W4, hW4⟩ : ∃ W4, W4 = w3.alloc (Obj.cells #[.int .i64 m1, .string m2, .string m3, .slice A m4.length c, .bool m5] 33) := ⟨_, rfl⟩
        rw [← hW4]
        have hsz3 : wc.heap.size < w3.heap.size := by have := HK3.out.1; have h2 : (wc.alloc (Obj.cells #[Value.string z0, Value.bool false] 52)).heap.size = wc.heap.size + 1 := (by show (wc.heap.push _).size = _; exact Array.size_push _); omega
        have hgc : g < wc.heap.size := IsS56.lt HI2.out
        have HBT := Aside0.mk (show W4.heap[w3.heap.size]? = some (.cells #[.int .i64 m1, .string m2, .string m3, .slice A m4.length c, .bool m5] 33 (0, 0)) from by rw [hW4]; exact heap_alloc_new w3 _)
        have HIR := Aside0.mk (show IsS52 w0 W4 wc.heap.size m6 m7 from by rw [hW4]; exact IsS52.alloc HI3.out _)
        have HB4 := Aside0.mk (show Below w0.heap.size w0 W4 from by rw [hW4]; exact below_alloc HB3.out _)
        have HKN := keep_new HK3.out g
        have HK4 := Aside0.mk (show KeepBut wc W4 g none from by rw [hW4]; exact keep_alloc HKN _)
        have HI4 := Aside0.mk (show IsS56 w0 W4 g z0 z1 z2 z3 from by
          rw [hW4]
          exact IsS56.alloc ⟨((keep_new HK3.out (g + 1)).2 g hgc (by omega) (by simp)).trans HI2.out.1, HI2.out.2⟩ _)
        have hbase : w.heap.size ≤ wc.heap.size := keep_size HK2.out
        have HO4 := Aside0.mk (show Kd.R k36 36 W4 wc.heap.size (fun k_ => wc.heap.size ≤ k_ ∧ k_ ≠ g) (.slice A m4.length c) m4 from by
          rw [hW4]
          refine Kd.R_alloc (Kd.R_lower (Kd.R_mono (Kd.R_bound HO3.out) (fun k_ hk_ => ?_)) (by show wc.heap.size ≤ (wc.heap.push _).size; rw [Array.size_push]; omega)) _
          have h1 : (wc.heap.push (Obj.cells #[Value.string z0, Value.bool false] 52)).size ≤ k_ := hk_.2.1
          rw [Array.size_push] at h1
          exact ⟨by omega, by omega⟩)
        have hne3 : w3.heap.size ≠ g := by omega
        clear hW4 HO3 HI3 HB3 HK3 HKN
        obtain ⟨HGz, hgz⟩ := HIR.out
        have hr0 := cellS52_0 HGz
        have hr1 := cellS52_1 HGz
        clear HGz hgz
        have HS2 := HS.out
        clear HS
        by_cases hshort : m7 = true ∧ a1 = false
        · rw [if_pos hshort] at HS2
          obtain ⟨rfl, rfl⟩ := hshort
          simp only [Option.some.injEq, Prod.mk.injEq] at HS2
          obtain ⟨rfl, rfl, rfl, rfl, rfl, rfl⟩ := HS2
          go_wp2
          go_ret2
          exact ⟨_, rfl, Kd.V_nil _ _ _ _ _, HI4.out, HB4.out, KeepBut.trans HK2.out HK4.out (.inl rfl)⟩
        · rw [if_neg hshort] at HS2
          have hshort2 : (m7 = true → a1 = true) := fun h1 => by
            cases a1
            · exact absurd ⟨h1, rfl⟩ hshort
            · rfl
          have HS3 := Aside0.mk HS2
          clear hshort HS2
          obtain ⟨HGz, hgz⟩ := HI4.out
          have hf0 := blk_frozen HGz 0
          have hf2 := blk_frozen HGz 2
          have hf3 := blk_frozen HGz 3
          have hd0 := cellS56_0 HGz
          have hd2 := cellS56_2 HGz
          have hd3 := cellS56_3 HGz
          clear HGz hgz hc0 hc2 hc3
          have hcut19 : ∃ b : Bool, (if m7 = true then !a1 else false) = b ∧ b = false := ⟨false, by cases m7 <;> simp_all, rfl⟩
          clear hcut19
          cases m7
          · clear hshort2
            go_upto_region 20 with (fail)
            obtain ⟨W5, hW5⟩ : ∃ W5, W5 = (((W4.setCell ⟨g, 0, none⟩ (.string m6)).setCell ⟨g, 2, none⟩ (.string ⟨#[]⟩)).setCell ⟨g, 3, none⟩ (.int .i64 0)) := ⟨_, rfl⟩
            rw [← hW5]
            have hge := HI4.out.2
            have HI5 : Aside0 (IsS56 w0 W5 g m6 z1 ByteArray.empty 0) := ⟨by rw [hW5]; exact IsS56.set_3 (IsS56.set_2 (IsS56.set_0 HI4.out m6) _) 0⟩
            have HB5 : Aside0 (Below w0.heap.size w0 W5) := ⟨by rw [hW5]; exact below_set (below_set (below_set HB4.out hge) hge) hge⟩
            have HK5 : Aside0 (KeepBut w W5 g none) := ⟨by rw [hW5]; exact KeepBut.trans HK2.out (KeepBut.set_ (KeepBut.set_ (KeepBut.set_ HK4.out _ _) _ _) _ _) (.inl rfl)⟩
            have HT5 := Aside0.mk (show W5.heap[w3.heap.size]? = some (.cells #[.int .i64 m1, .string m2, .string m3, .slice A m4.length c, .bool m5] 33 (0, 0)) from by rw [hW5]; exact blk_far (blk_far (blk_far HBT.out hne3 _) hne3 _) hne3 _)
            have HO5 := Aside0.mk (show Kd.R k36 36 W5 wc.heap.size (fun k_ => wc.heap.size ≤ k_ ∧ k_ ≠ g) (.slice A m4.length c) m4 from by rw [hW5]; exact Kd.R_far (Kd.R_far (Kd.R_far HO4.out (fun _ hk => hk.2) _) (fun _ hk => hk.2) _) (fun _ hk => hk.2) _)
            clear hW5 hd0 hd2 hd3 hf0 hf2 hf3 hr0 hr1 HIR HBT HO4 HK4 HB4 HI4
            have ht0 := (blk_cell HT5.out 0).trans rfl
            have ht1 : W5.cell? ⟨w3.heap.size, 1, none⟩ = some (.string m2) := (blk_cell HT5.out 1).trans rfl
            have ht2 : W5.cell? ⟨w3.heap.size, 2, none⟩ = some (.string m3) := (blk_cell HT5.out 2).trans rfl
            have ht3 : W5.cell? ⟨w3.heap.size, 3, none⟩ = some (.slice A m4.length c) := (blk_cell HT5.out 3).trans rfl
            have ht4 : W5.cell? ⟨w3.heap.size, 4, none⟩ = some (.bool m5) := (blk_cell HT5.out 4).trans rfl
            replace ht0 : W5.cell? ⟨w3.heap.size, 0, none⟩ = some (.int .i64 m1) := ht0
            have h := HS3.out
            clear HS3
            by_cases hk0 : m1 = 0
            · rw [if_pos hk0] at h
              simp only [Option.some.injEq, Prod.mk.injEq] at h
              obtain ⟨rfl, rfl, rfl, rfl, rfl, rfl⟩ := h
              subst hk0
              go_wp2
              go_ret2
              exact ⟨_, rfl, Kd.V_nil _ _ _ _ _, HI5.out, HB5.out, HK5.out⟩
            · rw [if_neg hk0] at h
              have hk0' : (m1 == 0) = false := by simpa using hk0
              by_cases hk2 : m1 = 2
              · rw [if_pos hk2] at h
                subst hk2
                replace h := Option.bind_eq_some_iff.1 h
                obtain ⟨r, hx, h⟩ := h
                have HRW := Aside0.mk hx
                clear hx
                simp only [Option.some.injEq, Prod.mk.injEq] at h
                obtain ⟨rfl, rfl, rfl, rfl, rfl, rfl⟩ := h
                go_upto_region 23 with (fail)
                go_region_held3 (fun w' => w'.cell? ⟨w3.heap.size, 1, none⟩ = some (.string m2)) (first | exact ht1 | exact pw_cell_below hd.below ht1 | exact (blk_cell (blk_far (blk_far HT6.out hne3 _) hne3 _) 1).trans rfl) (first | (go_at_call 24; refine (scan_Raw.calls 8 m2 r _ HRW.out).mono ?_; rintro e w6 ⟨rfl, hd⟩; have HI6 := Aside0.mk (IsS56.below HI5.out.drew hd.below); have HB6 := Aside0.mk (below_weaken (below_drew1 HB5.out) (below_drew1 HB5.out).size hd.below); have HK6 := Aside0.mk (KeepBut.trans (keep_drew HK5.out) (KeepBut.of_below hd.below g none) (.inl rfl)); have HT6 := Aside0.mk ((hd.below.block _ (blk_lt HT5.out)).trans HT5.out); have HO6 := Aside0.mk (Kd.R_below (Kd.R_drew HO5.out) hd.below); have hf2 := blk_frozen HI6.out.1 2; have hf3 := blk_frozen HI6.out.1 3; have hd2 := cellS56_2 HI6.out.1; have hd3 := cellS56_3 HI6.out.1))
                obtain ⟨W7, hW7⟩ : ∃ W7, W7 = ((w6.setCell ⟨g, 2, none⟩ (.string m2)).setCell ⟨g, 3, none⟩ (.int .i64 r)) := ⟨_, rfl⟩
                rw [← hW7]
                have hge7 := HI6.out.2
                have HI7 : Aside0 (IsS56 w0 W7 g m6 z1 m2 r) := ⟨by rw [hW7]; exact IsS56.set_3 (IsS56.set_2 HI6.out m2) r⟩
                have HB7 : Aside0 (Below w0.heap.size w0 W7) := ⟨by rw [hW7]; exact below_set (below_set HB6.out hge7) hge7⟩
                have HK7 : Aside0 (KeepBut w W7 g none) := ⟨by rw [hW7]; exact KeepBut.set_ (KeepBut.set_ HK6.out _ _) _ _⟩
                have HT7 := (show W7.heap[w3.heap.size]? = some (.cells #[.int .i64 2, .string m2, .string m3, .slice A m4.length c, .bool m5] 33 (0, 0)) from by rw [hW7]; exact blk_far (blk_far HT6.out hne3 _) hne3 _)
                have HO7 := Aside0.mk (show Kd.R k36 36 W7 wc.heap.size (fun k_ => wc.heap.size ≤ k_ ∧ k_ ≠ g) (.slice A m4.length c) m4 from by rw [hW7]; exact Kd.R_far (Kd.R_far HO6.out (fun _ hk => hk.2) _) (fun _ hk => hk.2) _)
                clear hW7 ht0 ht1 ht2 ht3 ht4
                have ht0 : W7.cell? ⟨w3.heap.size, 0, none⟩ = some (.int .i64 2) := (blk_cell HT7 0).trans rfl
                have ht1 : W7.cell? ⟨w3.heap.size, 1, none⟩ = some (.string m2) := (blk_cell HT7 1).trans rfl
                have ht2 : W7.cell? ⟨w3.heap.size, 2, none⟩ = some (.string m3) := (blk_cell HT7 2).trans rfl
                have ht3 : W7.cell? ⟨w3.heap.size, 3, none⟩ = some (.slice A m4.length c) := (blk_cell HT7 3).trans rfl
                have ht4 : W7.cell? ⟨w3.heap.size, 4, none⟩ = some (.bool m5) := (blk_cell HT7 4).trans rfl
                go_wp2
                go_ret2
                exact ⟨_, rfl, V_one (keep_size HK7.out) (heap_alloc_new W7 _) (k33_mkF _ _ ⟨2, m2, m3, m4, m5⟩ (Kd.R_reads' HO7.out).2.1 (Kd.F_alloc (Kd.F_mono (Kd.R_F HO7.out) (fun k_ hk_ => Nat.le_trans hbase hk_.1)) _)), IsS56.alloc HI7.out _, below_alloc HB7.out _, keep_alloc HK7.out _⟩
              · rw [if_neg hk2] at h
                have hk2' : (m1 == 2) = false := by simpa using hk2
                simp only [Option.some.injEq, Prod.mk.injEq] at h
                obtain ⟨rfl, rfl, rfl, rfl, rfl, rfl⟩ := h
                go_wp2
                go_ret2
                exact ⟨_, rfl, V_one (keep_size HK5.out) (heap_alloc_new W5 _) (k33_mkF _ _ ⟨m1, m2, m3, m4, m5⟩ (Kd.R_reads' HO5.out).2.1 (Kd.F_alloc (Kd.F_mono (Kd.R_F HO5.out) (fun k_ hk_ => Nat.le_trans hbase hk_.1)) _)), IsS56.alloc HI5.out _, below_alloc HB5.out _, keep_alloc HK5.out _⟩
          · obtain rfl := hshort2 rfl
            clear hshort2
            go_upto_region 20 with (fail)
            obtain ⟨W5, hW5⟩ : ∃ W5, W5 = (((W4.setCell ⟨g, 0, none⟩ (.string m6)).setCell ⟨g, 2, none⟩ (.string ⟨#[]⟩)).setCell ⟨g, 3, none⟩ (.int .i64 0)) := ⟨_, rfl⟩
            rw [← hW5]
            have hge := HI4.out.2
            have HI5 : Aside0 (IsS56 w0 W5 g m6 z1 ByteArray.empty 0) := ⟨by rw [hW5]; exact IsS56.set_3 (IsS56.set_2 (IsS56.set_0 HI4.out m6) _) 0⟩
            have HB5 : Aside0 (Below w0.heap.size w0 W5) := ⟨by rw [hW5]; exact below_set (below_set (below_set HB4.out hge) hge) hge⟩
            have HK5 : Aside0 (KeepBut w W5 g none) := ⟨by rw [hW5]; exact KeepBut.trans HK2.out (KeepBut.set_ (KeepBut.set_ (KeepBut.set_ HK4.out _ _) _ _) _ _) (.inl rfl)⟩
            have HT5 := Aside0.mk (show W5.heap[w3.heap.size]? = some (.cells #[.int .i64 m1, .string m2, .string m3, .slice A m4.length c, .bool m5] 33 (0, 0)) from by rw [hW5]; exact blk_far (blk_far (blk_far HBT.out hne3 _) hne3 _) hne3 _)
            have HO5 := Aside0.mk (show Kd.R k36 36 W5 wc.heap.size (fun k_ => wc.heap.size ≤ k_ ∧ k_ ≠ g) (.slice A m4.length c) m4 from by rw [hW5]; exact Kd.R_far (Kd.R_far (Kd.R_far HO4.out (fun _ hk => hk.2) _) (fun _ hk => hk.2) _) (fun _ hk => hk.2) _)
            clear hW5 hd0 hd2 hd3 hf0 hf2 hf3 hr0 hr1 HIR HBT HO4 HK4 HB4 HI4
            have ht0 := (blk_cell HT5.out 0).trans rfl
            have ht1 : W5.cell? ⟨w3.heap.size, 1, none⟩ = some (.string m2) := (blk_cell HT5.out 1).trans rfl
            have ht2 : W5.cell? ⟨w3.heap.size, 2, none⟩ = some (.string m3) := (blk_cell HT5.out 2).trans rfl
            have ht3 : W5.cell? ⟨w3.heap.size, 3, none⟩ = some (.slice A m4.length c) := (blk_cell HT5.out 3).trans rfl
            have ht4 : W5.cell? ⟨w3.heap.size, 4, none⟩ = some (.bool m5) := (blk_cell HT5.out 4).trans rfl
            replace ht0 : W5.cell? ⟨w3.heap.size, 0, none⟩ = some (.int .i64 m1) := ht0
            have h := HS3.out
            clear HS3
            by_cases hk0 : m1 = 0
            · rw [if_pos hk0] at h
              simp only [Option.some.injEq, Prod.mk.injEq] at h
              obtain ⟨rfl, rfl, rfl, rfl, rfl, rfl⟩ := h
              subst hk0
              go_wp2
              go_ret2
              exact ⟨_, rfl, Kd.V_nil _ _ _ _ _, HI5.out, HB5.out, HK5.out⟩
            · rw [if_neg hk0] at h
              have hk0' : (m1 == 0) = false := by simpa using hk0
              by_cases hk2 : m1 = 2
              · rw [if_pos hk2] at h
                subst hk2
                replace h := Option.bind_eq_some_iff.1 h
                obtain ⟨r, hx, h⟩ := h
                have HRW := Aside0.mk hx
                clear hx
                simp only [Option.some.injEq, Prod.mk.injEq] at h
                obtain ⟨rfl, rfl, rfl, rfl, rfl, rfl⟩ := h
                go_upto_region 23 with (fail)
                go_region_held3 (fun w' => w'.cell? ⟨w3.heap.size, 1, none⟩ = some (.string m2)) (first | exact ht1 | exact pw_cell_below hd.below ht1 | exact (blk_cell (blk_far (blk_far HT6.out hne3 _) hne3 _) 1).trans rfl) (first | (go_at_call 24; refine (scan_Raw.calls 8 m2 r _ HRW.out).mono ?_; rintro e w6 ⟨rfl, hd⟩; have HI6 := Aside0.mk (IsS56.below HI5.out.drew hd.below); have HB6 := Aside0.mk (below_weaken (below_drew1 HB5.out) (below_drew1 HB5.out).size hd.below); have HK6 := Aside0.mk (KeepBut.trans (keep_drew HK5.out) (KeepBut.of_below hd.below g none) (.inl rfl)); have HT6 := Aside0.mk ((hd.below.block _ (blk_lt HT5.out)).trans HT5.out); have HO6 := Aside0.mk (Kd.R_below (Kd.R_drew HO5.out) hd.below); have hf2 := blk_frozen HI6.out.1 2; have hf3 := blk_frozen HI6.out.1 3; have hd2 := cellS56_2 HI6.out.1; have hd3 := cellS56_3 HI6.out.1))
                obtain ⟨W7, hW7⟩ : ∃ W7, W7 = ((w6.setCell ⟨g, 2, none⟩ (.string m2)).setCell ⟨g, 3, none⟩ (.int .i64 r)) := ⟨_, rfl⟩
                rw [← hW7]
                have hge7 := HI6.out.2
                have HI7 : Aside0 (IsS56 w0 W7 g m6 z1 m2 r) := ⟨by rw [hW7]; exact IsS56.set_3 (IsS56.set_2 HI6.out m2) r⟩
                have HB7 : Aside0 (Below w0.heap.size w0 W7) := ⟨by rw [hW7]; exact below_set (below_set HB6.out hge7) hge7⟩
                have HK7 : Aside0 (KeepBut w W7 g none) := ⟨by rw [hW7]; exact KeepBut.set_ (KeepBut.set_ HK6.out _ _) _ _⟩
                have HT7 := (show W7.heap[w3.heap.size]? = some (.cells #[.int .i64 2, .string m2, .string m3, .slice A m4.length c, .bool m5] 33 (0, 0)) from by rw [hW7]; exact blk_far (blk_far HT6.out hne3 _) hne3 _)
                have HO7 := Aside0.mk (show Kd.R k36 36 W7 wc.heap.size (fun k_ => wc.heap.size ≤ k_ ∧ k_ ≠ g) (.slice A m4.length c) m4 from by rw [hW7]; exact Kd.R_far (Kd.R_far HO6.out (fun _ hk => hk.2) _) (fun _ hk => hk.2) _)
                clear hW7 ht0 ht1 ht2 ht3 ht4
                have ht0 : W7.cell? ⟨w3.heap.size, 0, none⟩ = some (.int .i64 2) := (blk_cell HT7 0).trans rfl
                have ht1 : W7.cell? ⟨w3.heap.size, 1, none⟩ = some (.string m2) := (blk_cell HT7 1).trans rfl
                have ht2 : W7.cell? ⟨w3.heap.size, 2, none⟩ = some (.string m3) := (blk_cell HT7 2).trans rfl
                have ht3 : W7.cell? ⟨w3.heap.size, 3, none⟩ = some (.slice A m4.length c) := (blk_cell HT7 3).trans rfl
                have ht4 : W7.cell? ⟨w3.heap.size, 4, none⟩ = some (.bool m5) := (blk_cell HT7 4).trans rfl
                go_wp2
                go_ret2
                exact ⟨_, rfl, V_one (keep_size HK7.out) (heap_alloc_new W7 _) (k33_mkF _ _ ⟨2, m2, m3, m4, m5⟩ (Kd.R_reads' HO7.out).2.1 (Kd.F_alloc (Kd.F_mono (Kd.R_F HO7.out) (fun k_ hk_ => Nat.le_trans hbase hk_.1)) _)), IsS56.alloc HI7.out _, below_alloc HB7.out _, keep_alloc HK7.out _⟩
              · rw [if_neg hk2] at h
                have hk2' : (m1 == 2) = false := by simpa using hk2
                simp only [Option.some.injEq, Prod.mk.injEq] at h
                obtain ⟨rfl, rfl, rfl, rfl, rfl, rfl⟩ := h
                go_wp2
                go_ret2
                exact ⟨_, rfl, V_one (keep_size HK5.out) (heap_alloc_new W5 _) (k33_mkF _ _ ⟨m1, m2, m3, m4, m5⟩ (Kd.R_reads' HO5.out).2.1 (Kd.F_alloc (Kd.F_mono (Kd.R_F HO5.out) (fun k_ hk_ => Nat.le_trans hbase hk_.1)) _)), IsS56.alloc HI5.out _, below_alloc HB5.out _, keep_alloc HK5.out _⟩
end Go.Proofs.YtoacojkmclngmaaGreatDoor.Pz
namespace Go.Proofs.YtoacojkmclngmaaGreatDoor.Pz
open Go.RowKit Go.Proofs.YtoacojkmclngmaaGreatDoorW.PrintWords Go.Proofs.YtoacojkmclngmaaGreatDoorW.PrintLast Go.Proofs.YtoacojkmclngmaaGreatDoorW.PrintMore
attribute [local go_sem] max2_int min2_int max_two min_two max_three min_three max_four min_four   -- for this text's walks alone
attribute [local go_sem] rune_str
set_option linter.unusedVariables false
set_option linter.unusedSimpArgs false
def scan_Scanner_told.l0 : Nat → Bool → List (S33) → ByteArray → Bool → ByteArray → Int → Option ((List (S33)) × ByteArray × Bool × ByteArray × Int)
  | 0, _, _, _, _, _, _ => none
  | k + 1, x1, x5, x1000, x1001, x1002, x1003 => (scan_Scanner_step.f x1000 x1001 x1002 x1003 x1).bind fun bt166 => (if bt166.2.1 = true then (if x5.length + bt166.1.length < 1954687338268 then (scan_Scanner_told.l0 k x1 (x5 ++ bt166.1) bt166.2.2.1 bt166.2.2.2.1 bt166.2.2.2.2.1 bt166.2.2.2.2.2) else (none)) else (some (x5, bt166.2.2.1, bt166.2.2.2.1, bt166.2.2.2.2.1, bt166.2.2.2.2.2)))
def scan_Scanner_told.f (k : Nat) (s0_0 : ByteArray) (s0_1 : Bool) (s0_2 : ByteArray) (s0_3 : Int) (a1 : Bool) : Option ((List (S33)) × ByteArray × Bool × ByteArray × Int) := scan_Scanner_told.l0 k a1 ([] : List (S33)) s0_0 s0_1 s0_2 s0_3
theorem scan_Scanner_told.mono_l : ∀ k, (∀ y0 y1 y2 y3 y4 y5, LeO (scan_Scanner_told.l0 k y0 y1 y2 y3 y4 y5) (scan_Scanner_told.l0 (k + 1) y0 y1 y2 y3 y4 y5))
  | 0 => fun _ _ _ _ _ _ r h => by simp [scan_Scanner_told.l0] at h
  | k + 1 => by
    have ih0 := scan_Scanner_told.mono_l k
    · intro y0 y1 y2 y3 y4 y5
      unfold scan_Scanner_told.l0
      repeat' first
      | (with_reducible exact ih0 _ _ _ _ _ _)
      | (with_reducible exact LeO.refl _)
      | (with_reducible exact LeO.none _)
      | (with_reducible refine LeO.ite ?_ ?_)
      | (with_reducible refine LeO.bind ?_ (fun _ => ?_))
      | exact ih0 _ _ _ _ _ _
      | exact LeO.none _
      | refine LeO.ite ?_ ?_
      | refine LeO.bind ?_ (fun _ => ?_)
theorem scan_Scanner_told.mono : ∀ a0 a1 a2 a3 a4 k, LeO (scan_Scanner_told.f k a0 a1 a2 a3 a4) (scan_Scanner_told.f (k + 1) a0 a1 a2 a3 a4) := by
  intro a0 a1 a2 a3 a4 k
  have ih0 := scan_Scanner_told.mono_l k
  unfold scan_Scanner_told.f
  repeat' first
      | (with_reducible exact ih0 _ _ _ _ _ _)
      | (with_reducible exact LeO.refl _)
      | (with_reducible exact LeO.none _)
      | (with_reducible refine LeO.ite ?_ ?_)
      | (with_reducible refine LeO.bind ?_ (fun _ => ?_))
      | exact ih0 _ _ _ _ _ _
      | exact LeO.none _
      | refine LeO.ite ?_ ?_
      | refine LeO.bind ?_ (fun _ => ?_)
set_option maxHeartbeats 8000000 in
set_option maxRecDepth 100000 in
theorem scan_Scanner_told.calls (k : Nat) (g : Nat) (s0_0 : ByteArray) (s0_1 : Bool) (s0_2 : ByteArray) (s0_3 : Int) (a1 : Bool) (r1 : List (S33)) (r2 : ByteArray) (r3 : Bool) (r4 : ByteArray) (r5 : Int) (w0 w : World) (hI : IsS56 w0 w g s0_0 s0_1 s0_2 s0_3) (hB : Below w0.heap.size w0 w) (hG : Glob w0) (h : scan_Scanner_told.f k s0_0 s0_1 s0_2 s0_3 a1 = some (r1, r2, r3, r4, r5)) :
    Calls Tryz.prog 38 #[.pointer (some ⟨g, 0, none⟩), .bool a1] w fun e w' => ∃ v0_ : Value, e = .returned (v0_) ∧ Kd.N k33 33 w' w.heap.size (fun k_ => (w.heap.size ≤ k_)) v0_ r1 ∧ IsS56 w0 w' g r2 r3 r4 r5 ∧ Below w0.heap.size w0 w' ∧ KeepBut w w' g none := by
  have HI0 := Aside0.mk hI
  have HK := Aside0.mk (KeepBut.refl w g none)
  have HL := Aside0.mk hB.size
  clear hI
  have HW0 := Aside0.mk hB.size
  have HB := Aside0.mk hB
  clear hB
  have H : (scan_Scanner_told.l0 k a1 ([] : List (S33)) s0_0 s0_1 s0_2 s0_3) = some (r1, r2, r3, r4, r5) := h
  clear h
  have H' := Aside0.mk H
  clear H
  go_enter Tryz.func38, Tryz.ntmps38
  go_wp2
  go_loopg [5] k (fun kq v5 w' => ∃ (x5_1 : List (S33)) (x1000_1 : ByteArray) (x1001_1 : Bool) (x1002_1 : ByteArray) (x1003_1 : Int), Aside0 (scan_Scanner_told.l0 kq a1 x5_1 x1000_1 x1001_1 x1002_1 x1003_1 = some (r1, r2, r3, r4, r5)) ∧ Aside0 (kq ≤ k) ∧ Aside0 (Kd.N k33 33 w' w.heap.size (fun k_ => (w.heap.size ≤ k_) ∧ k_ ≠ g) v5 x5_1) ∧ Aside0 (IsS56 w0 w' g x1000_1 x1001_1 x1002_1 x1003_1) ∧ Aside0 (KeepBut w w' g none) ∧ Aside0 (Below w0.heap.size w0 w'))
  case atStart => exact ⟨(([] : List (S33))), (s0_0), (s0_1), (s0_2), (s0_3), H', ⟨Nat.le_refl _⟩, ⟨by first | exact Kd.S_nil _ _ _ _ _ | exact Kd.N_nil _ _ _ _ _ | exact Kd.V_nil _ _ _ _ _ | exact Kd.Q_nil _ _ _ _ _ | exact Kd.R_nil _ _ _ _ _⟩, ⟨by repeat (first | (with_reducible first | exact HI0.out | apply IsS56.alloc | apply IsS56.drewN | apply IsS56.drew | apply IsS56.set_0 | apply IsS56.set_1 | apply IsS56.set_2 | apply IsS56.set_3) | exact HI0.out)⟩, ⟨by repeat (first | (with_reducible first | exact HK.out | apply KeepBut.set_ | apply keep_drewN | apply keep_drew | apply keep_alloc) | exact HK.out)⟩, ⟨by repeat (first | (with_reducible first | exact HB.out | apply below_alloc | apply pw_below_drewN | apply below_drew1 | refine below_set ?_ (IsS56.ge HI0.out)) | exact HB.out)⟩⟩
  case round =>
    clear H'
    try clear p2
    obtain ⟨x5_1, x1000_1, x1001_1, x1002_1, x1003_1, HA, HK1, HO_5, HI0, HK, HB⟩ := hrel
    cases gk with
    | zero => exact absurd HA.out (by simp [scan_Scanner_told.l0])
    | succ k1 =>
      have H := HA.out
      clear HA
      simp only [scan_Scanner_told.l0] at H
      replace H := Option.bind_eq_some_iff.mp H
      obtain ⟨⟨t166, t169, t170, t171, t172, t173⟩, A30, H⟩ := H
      replace H : (if t169 = true then (if x5_1.length + t166.length < 1954687338268 then (scan_Scanner_told.l0 k1 a1 (x5_1 ++ t166) t170 t171 t172 t173) else (none)) else (some (x5_1, t170, t171, t172, t173))) = some (r1, r2, r3, r4, r5) := H
      have A3 := Aside0.mk A30
      clear A30
      by_cases c4 : t169 = true
      · subst c4
        have H1 : (if x5_1.length + t166.length < 1954687338268 then (scan_Scanner_told.l0 k1 a1 (x5_1 ++ t166) t170 t171 t172 t173) else (none)) = some (r1, r2, r3, r4, r5) := by rw [if_pos rfl] at H; exact H
        clear H
        have H := H1
        clear H1
        by_cases c5 : x5_1.length + t166.length < 1954687338268
        · rw [if_pos c5] at H
          have LMc5 := Aside0.mk c5
          clear c5
          obtain ⟨y174, hy174⟩ : ∃ y_ : List (S33), y_ = (x5_1 ++ t166) := ⟨_, rfl⟩
          replace H : (scan_Scanner_told.l0 k1 a1 y174 t170 t171 t172 t173) = some (r1, r2, r3, r4, r5) := by first | (rw [hy174]; with_reducible exact H) | (have H2_ := (Option.bind_some _ _).symm.trans H; rw [hy174]; with_reducible exact H2_) | (have H2_ := (Option.bind_some _ _).symm.trans H; with_reducible exact H2_) | with_reducible exact H | (rw [hy174]; exact H) | exact H
          have Ny174 := Aside0.mk hy174
          clear hy174
          have H' := Aside0.mk H
          clear H
          go_wp2_with (first | ((with_reducible refine gate_callee (f := 59) rfl ?_); refine goesL_ (some 11) rfl rfl Tryz.func59 (by kernel_rfl) rfl #[.pointer (some ⟨g, 0, none⟩), .bool a1] rfl (by (try simp only [List.map_toArray, List.map_cons, List.map_nil]); first | done | rfl | (simp only [List.length_drop, List.length_take]; rfl)) ?_; (with_reducible refine (scan_Scanner_step.calls g x1000_1 x1001_1 x1002_1 x1003_1 a1 t166 true t170 t171 t172 t173 w0 _ ?side1 ?side2 hG A3.out).mono ?_); (case side1 => repeat (first | (with_reducible first | exact HI0.out | apply IsS56.alloc | apply IsS56.drewN | apply IsS56.drew | apply IsS56.set_0 | apply IsS56.set_1 | apply IsS56.set_2 | apply IsS56.set_3) | exact HI0.out)); (case side2 => repeat (first | (with_reducible first | exact HB.out | apply below_alloc | apply pw_below_drewN | apply below_drew1 | refine below_set ?_ (IsS56.ge HI0.out)) | exact HB.out)); rintro e w6 ⟨v167, rfl, ho0, hi, hb, hk⟩; refine ⟨_, rfl, ?_⟩; have n0_ := Aside0.mk (Kd.N_mono (Kd.N_keep (Kd.N_mono (ok := fun k_ => (((w.heap.size ≤ k_)) ∧ k_ ≠ g)) (by (with_reducible repeat (first | apply Kd.N_alloc | apply Kd.N_drewN | apply Kd.N_drew)); exact HO_5.out) (fun k_ hk_ => (⟨hk_, hk_.2⟩ : _ ∧ k_ ≠ g))) hk (fun _ h => h.2)) (fun _ h => h.1)); have n1_ := Aside0.mk (Kd.V_lower (Kd.V_mono (ok' := fun k_ => (w.heap.size ≤ k_) ∧ some k_ ≠ (u5 : Value).ownBlock ∧ k_ ≠ g) ho0 (fun k_ hk_ => ⟨(Nat.le_trans (keep_size (w := w) (g := g) (row := none) (by repeat (first | (with_reducible first | exact HK.out | apply KeepBut.set_ | apply keep_drewN | apply keep_drew | apply keep_alloc) | exact HK.out))) hk_), (Kd.fresh' (Kd.N_lt (by (with_reducible repeat (first | apply Kd.N_alloc | apply Kd.N_drewN | apply Kd.N_drew)); exact HO_5.out)) k_ hk_), (IsS56.fresh (by repeat (first | (with_reducible first | exact HI0.out | apply IsS56.alloc | apply IsS56.drewN | apply IsS56.drew | apply IsS56.set_0 | apply IsS56.set_1 | apply IsS56.set_2 | apply IsS56.set_3) | exact HI0.out)) k_ hk_)⟩)) (keep_size (w := w) (g := g) (row := none) (by repeat (first | (with_reducible first | exact HK.out | apply KeepBut.set_ | apply keep_drewN | apply keep_drew | apply keep_alloc) | exact HK.out)))); have n2_ := Aside0.mk (KeepBut.trans (by repeat (first | (with_reducible first | exact HK.out | apply KeepBut.set_ | apply keep_drewN | apply keep_drew | apply keep_alloc) | exact HK.out)) hk (.inl rfl)); have n3_ := Aside0.mk (hb); have n4_ := Aside0.mk (hi); clear HO_5; clear HK; clear HB; clear HI0; have HO_5 := n0_; have HO168 := n1_; have HK := n2_; have HB := n3_; have HI0 := n4_; clear n0_ n1_ n2_ n3_ n4_; (try clear hb); (try clear hb2); (try clear hk); (try clear hi); (try clear ho0); obtain ⟨Ao8, co8, eo8⟩ := Kd.V_slice HO168.out; subst eo8) | ((with_reducible refine gate_builtin (b := .append) (xs := #[.tmp 17, .tmp 18]) rfl ?_); at_builtin; refine Kd.N_append_rows k33 w.heap.size rfl (.tmp 17) (.tmp 18) 24 33 (.agg #[(.int .i64 0), (.string ⟨#[]⟩), (.string ⟨#[]⟩), (.slice none 0 0), (.bool false)]) 72 rfl Tryz.underlying24 info33 rfl (by decide) (by omega) u5 x5_1 t166 _ _ _ (fun k_ => (w.heap.size ≤ k_) ∧ k_ ≠ g) (fun k_ => ((fun k_ => (w.heap.size ≤ k_) ∧ k_ ≠ g)) k_ ∧ some k_ ≠ (u5 : Value).ownBlock) rfl rfl ?aO ?aR (fun _ hk => hk) ?aF (Below.refl _ _) ?aS ?aL ?_; (case aR => exact (by skip; exact Kd.V_F (Kd.V_mono (ok' := (fun k_ => ((fun k_ => (w.heap.size ≤ k_) ∧ k_ ≠ g)) k_ ∧ some k_ ≠ (u5 : Value).ownBlock)) (HO168.out) (fun k_ hk => ⟨⟨hk.1, hk.2.2⟩, hk.2.1⟩)))); (case aF => exact (fun k_ hk => ⟨(Nat.le_trans (keep_size (w := w) (g := g) (row := none) (by repeat (first | (with_reducible first | exact HK.out | apply KeepBut.set_ | apply keep_drewN | apply keep_drew | apply keep_alloc) | exact HK.out))) hk), IsS56.fresh (by repeat (first | (with_reducible first | exact HI0.out | apply IsS56.alloc | apply IsS56.drewN | apply IsS56.drew | apply IsS56.set_0 | apply IsS56.set_1 | apply IsS56.set_2 | apply IsS56.set_3) | exact HI0.out)) k_ hk⟩)); (case aO => exact (by (with_reducible repeat (first | apply Kd.N_alloc | apply Kd.N_drewN | apply Kd.N_drew)); exact HO_5.out)); (case aS => exact (keep_size (w := w) (g := g) (row := none) (by repeat (first | (with_reducible first | exact HK.out | apply KeepBut.set_ | apply keep_drewN | apply keep_drew | apply keep_alloc) | exact HK.out)))); (case aL => have := LMc5.out; omega); intro v175 w7 ho hb hg hat; rw [← Ny174.out] at ho; have n0_ := Aside0.mk (IsS56.grown (by repeat (first | (with_reducible first | exact HI0.out | apply IsS56.alloc | apply IsS56.drewN | apply IsS56.drew | apply IsS56.set_0 | apply IsS56.set_1 | apply IsS56.set_2 | apply IsS56.set_3) | exact HI0.out)) hg (IsS56.own_neN HI0.out HO_5.out (by decide))); have n1_ := Aside0.mk (Kd.V_afterv (ok := (fun k_ => (w.heap.size ≤ k_) ∧ k_ ≠ g)) (by (with_reducible repeat (first | apply Kd.V_alloc | apply Kd.V_drewN | apply Kd.V_drew)); exact Kd.V_mono HO168.out (fun _ hk => ⟨⟨hk.1, hk.2.2⟩, hk.2.1⟩)) hg hat); have n2_ := Aside0.mk (below_weaken (by repeat (first | (with_reducible first | exact HB.out | apply below_alloc | apply pw_below_drewN | apply below_drew1 | refine below_set ?_ (IsS56.ge HI0.out)) | exact HB.out)) HL.out hb); have n3_ := Aside0.mk (KeepBut.trans (by repeat (first | (with_reducible first | exact HK.out | apply KeepBut.set_ | apply keep_drewN | apply keep_drew | apply keep_alloc) | exact HK.out)) (KeepBut.of_grown hg g) (Kd.N_base2 HO_5.out)); have n4_ := Aside0.mk (ho); clear HI0; clear HO168; clear HB; clear HK; clear HO_5; have HI0 := n0_; have HO168 := n1_; have HB := n2_; have HK := n3_; have HO176 := n4_; clear n0_ n1_ n2_ n3_ n4_; clear ho hb hg hat))
          go_roundg k1
          case measure => have := HK1.out; omega
          case rel => exact ⟨(y174), (t170), (t171), (t172), (t173), H', ⟨by have := HK1.out; omega⟩, ⟨by (with_reducible repeat (first | apply Kd.N_alloc | apply Kd.N_drewN | apply Kd.N_drew)); exact HO176.out⟩, ⟨by repeat (first | (with_reducible first | exact HI0.out | apply IsS56.alloc | apply IsS56.drewN | apply IsS56.drew | apply IsS56.set_0 | apply IsS56.set_1 | apply IsS56.set_2 | apply IsS56.set_3) | exact HI0.out)⟩, ⟨by repeat (first | (with_reducible first | exact HK.out | apply KeepBut.set_ | apply keep_drewN | apply keep_drew | apply keep_alloc) | exact HK.out)⟩, ⟨by repeat (first | (with_reducible first | exact HB.out | apply below_alloc | apply pw_below_drewN | apply below_drew1 | refine below_set ?_ (IsS56.ge HI0.out)) | exact HB.out)⟩⟩
        · rw [if_neg c5] at H
          exact absurd H (by simp)
      · replace c4 := Bool.eq_false_iff.mpr c4
        subst c4
        have H1 : (some (x5_1, t170, t171, t172, t173)) = some (r1, r2, r3, r4, r5) := by rw [if_neg (show ¬ (false = true) by decide)] at H; exact H
        clear H
        have H := H1
        clear H1
        simp only [Option.some.injEq, Prod.mk.injEq] at H
        obtain ⟨rfl, rfl, rfl, rfl, rfl⟩ := H
        go_wp2_with (first | ((with_reducible refine gate_callee (f := 59) rfl ?_); refine goesL_ (some 11) rfl rfl Tryz.func59 (by kernel_rfl) rfl #[.pointer (some ⟨g, 0, none⟩), .bool a1] rfl (by (try simp only [List.map_toArray, List.map_cons, List.map_nil]); first | done | rfl | (simp only [List.length_drop, List.length_take]; rfl)) ?_; (with_reducible refine (scan_Scanner_step.calls g x1000_1 x1001_1 x1002_1 x1003_1 a1 t166 false t170 t171 t172 t173 w0 _ ?side1 ?side2 hG A3.out).mono ?_); (case side1 => repeat (first | (with_reducible first | exact HI0.out | apply IsS56.alloc | apply IsS56.drewN | apply IsS56.drew | apply IsS56.set_0 | apply IsS56.set_1 | apply IsS56.set_2 | apply IsS56.set_3) | exact HI0.out)); (case side2 => repeat (first | (with_reducible first | exact HB.out | apply below_alloc | apply pw_below_drewN | apply below_drew1 | refine below_set ?_ (IsS56.ge HI0.out)) | exact HB.out)); rintro e w9 ⟨v167, rfl, ho0, hi, hb, hk⟩; refine ⟨_, rfl, ?_⟩; have n0_ := Aside0.mk (Kd.N_mono (Kd.N_keep (Kd.N_mono (ok := fun k_ => (((w.heap.size ≤ k_)) ∧ k_ ≠ g)) (by (with_reducible repeat (first | apply Kd.N_alloc | apply Kd.N_drewN | apply Kd.N_drew)); exact HO_5.out) (fun k_ hk_ => (⟨hk_, hk_.2⟩ : _ ∧ k_ ≠ g))) hk (fun _ h => h.2)) (fun _ h => h.1)); have n1_ := Aside0.mk (Kd.V_lower (Kd.V_mono (ok' := fun k_ => (w.heap.size ≤ k_) ∧ some k_ ≠ (u5 : Value).ownBlock ∧ k_ ≠ g) ho0 (fun k_ hk_ => ⟨(Nat.le_trans (keep_size (w := w) (g := g) (row := none) (by repeat (first | (with_reducible first | exact HK.out | apply KeepBut.set_ | apply keep_drewN | apply keep_drew | apply keep_alloc) | exact HK.out))) hk_), (Kd.fresh' (Kd.N_lt (by (with_reducible repeat (first | apply Kd.N_alloc | apply Kd.N_drewN | apply Kd.N_drew)); exact HO_5.out)) k_ hk_), (IsS56.fresh (by repeat (first | (with_reducible first | exact HI0.out | apply IsS56.alloc | apply IsS56.drewN | apply IsS56.drew | apply IsS56.set_0 | apply IsS56.set_1 | apply IsS56.set_2 | apply IsS56.set_3) | exact HI0.out)) k_ hk_)⟩)) (keep_size (w := w) (g := g) (row := none) (by repeat (first | (with_reducible first | exact HK.out | apply KeepBut.set_ | apply keep_drewN | apply keep_drew | apply keep_alloc) | exact HK.out)))); have n2_ := Aside0.mk (KeepBut.trans (by repeat (first | (with_reducible first | exact HK.out | apply KeepBut.set_ | apply keep_drewN | apply keep_drew | apply keep_alloc) | exact HK.out)) hk (.inl rfl)); have n3_ := Aside0.mk (hb); have n4_ := Aside0.mk (hi); clear HO_5; clear HK; clear HB; clear HI0; have HO_5 := n0_; have HO168 := n1_; have HK := n2_; have HB := n3_; have HI0 := n4_; clear n0_ n1_ n2_ n3_ n4_; (try clear hb); (try clear hb2); (try clear hk); (try clear hi); (try clear ho0)))
        go_ret
        exact ⟨_, by first | rfl | (simp [errW_none, errW_some] <;> rfl) | (simp [*, errW_none, errW_some] <;> rfl), by (with_reducible repeat (first | apply Kd.N_alloc | apply Kd.N_drewN | apply Kd.N_drew)); exact Kd.N_mono HO_5.out (fun _ hk => hk.1), by repeat (first | (with_reducible first | exact HI0.out | apply IsS56.alloc | apply IsS56.drewN | apply IsS56.drew | apply IsS56.set_0 | apply IsS56.set_1 | apply IsS56.set_2 | apply IsS56.set_3) | exact HI0.out), by repeat (first | (with_reducible first | exact HB.out | apply below_alloc | apply pw_below_drewN | apply below_drew1 | refine below_set ?_ (IsS56.ge HI0.out)) | exact HB.out), by repeat (first | (with_reducible first | exact HK.out | apply KeepBut.set_ | apply keep_drewN | apply keep_drew | apply keep_alloc) | exact HK.out)⟩
end Go.Proofs.YtoacojkmclngmaaGreatDoor.Pz
/- Every step of the scanner answers, and goes on. -/
namespace Go.Proofs.YtoacojkmclngmaaGreatDoor.Pz
open Go.RowKit Go.Proofs.YtoacojkmclngmaaGreatDoorW.PrintWords Go.Proofs.YtoacojkmclngmaaGreatDoorW.PrintLast Go.Proofs.YtoacojkmclngmaaGreatDoorW.PrintMore
set_option linter.unusedVariables false
set_option linter.unusedSimpArgs false
theorem one4 : (1 : Int) ≤ 4 := by decide
theorem one5 : (1 : Int) ≤ 5 := by decide
theorem skip_size (rest : ByteArray) (n : Nat) : (rest.extract (min n rest.size) rest.size).size = rest.size - n := by rw [ByteArray.size_extract]; omega
theorem remark_tot (rest : ByteArray) (sh : Bool) (h : rest.size ≤ 100000) : ∃ r, scan_reader_remark.f rest sh = some r ∧ r.2.2.2.2.2.1.size ≤ rest.size ∧ r.2.1.size ≤ 4 * rest.size ∧ 1 ≤ r.1 := by
  unfold scan_reader_remark.f
  obtain ⟨a, b, sh1, e1, s1⟩ := until_tot rest sh ⟨#[62]⟩ (by omega) (by decide) (by decide)
  rw [e1, Option.bind_some]
  simp only
  obtain ⟨d, e2, s2⟩ := heal_tot a (by omega)
  rw [e2, Option.bind_some, skip_tot b sh1 1 (by decide), Option.bind_some]
  refine ⟨_, rfl, ?_, Nat.zero_le _, one4⟩
  simp only
  rw [ByteArray.size_extract]; omega
theorem rdOf_mem (d : ByteArray) (l : List ByteArray) (h : 0 < l.length) : rdOf d l 0 ∈ l := by
  cases l with
  | nil => cases h
  | cons a l => exact List.mem_cons_self
theorem fieldsGo_size : ∀ (k : Nat) (s : ByteArray) (x : ByteArray), x ∈ fieldsGo k s → x.size ≤ s.size
  | 0, s, x, h => by simp [fieldsGo] at h
  | k + 1, s, x, h => by
    unfold fieldsGo at h
    split at h
    · simp at h
    · rcases List.mem_cons.1 h with rfl | h
      · rw [ByteArray.size_extract]; omega
      · have h1 := fieldsGo_size k _ x h
        have h2 := trimV_size (s.extract (wordLen s) s.size)
        rw [ByteArray.size_extract] at h2
        omega
theorem doctype_tot (rest : ByteArray) (sh : Bool) (h : rest.size ≤ 100000) : ∃ r, scan_reader_doctype.f rest sh = some r ∧ r.2.2.2.2.2.1.size ≤ rest.size ∧ r.2.1.size ≤ 4 * rest.size ∧ 1 ≤ r.1 := by
  unfold scan_reader_doctype.f
  obtain ⟨a, b, sh1, e1, s1⟩ := until_tot rest sh ⟨#[62]⟩ (by omega) (by decide) (by decide)
  rw [e1, Option.bind_some]
  simp only
  rw [show class_Fields.f a = some (fieldsV a) from by unfold class_Fields.f; rw [if_pos (by omega)], Option.bind_some, skip_tot b sh1 1 (by decide), Option.bind_some]
  have hsz : (b.extract (min (1 : Int).toNat b.size) b.size).size ≤ rest.size := by rw [ByteArray.size_extract]; omega
  by_cases hl : ((fieldsV a).length : Int) > 0
  · rw [if_pos hl, if_pos hl]
    have hx := fieldsGo_size _ _ _ (rdOf_mem ByteArray.empty (fieldsV a) (by omega))
    have h2 := trimV_size a
    obtain ⟨nm, e2, s2⟩ := named_tot (rdOf ByteArray.empty (fieldsV a) 0) (by omega)
    rw [e2, Option.bind_some]
    exact ⟨_, rfl, hsz, by show nm.size ≤ _; omega, one5⟩
  · rw [if_neg hl]
    exact ⟨_, rfl, hsz, Nat.zero_le _, one5⟩
theorem trim_tot (s p : ByteArray) (h : s.size ≤ 1000000) : ∃ r, strings_TrimSuffix.f s p = some r ∧ r.size ≤ s.size := by
  unfold strings_TrimSuffix.f
  rw [if_pos (by omega)]
  refine ⟨_, rfl, ?_⟩
  rw [size_mk]
  unfold Lib.trimSuffix
  split
  · rw [List.length_take, len_list]; omega
  · rw [len_list]; exact Nat.le_refl _
theorem suffix_tot (s p : ByteArray) (h : s.size ≤ 1000000) : ∃ r, strings_HasSuffix.f s p = some r := by
  unfold strings_HasSuffix.f
  rw [if_pos (by omega)]
  exact ⟨_, rfl⟩
theorem strip_tot (s : ByteArray) (h : s.size ≤ 1000000) : ∃ r, strip3 s = some r ∧ r.size ≤ s.size := by
  unfold strip3 strip2 strip1
  obtain ⟨p3, e3⟩ := suffix_tot s ⟨#[45, 45, 33]⟩ h
  obtain ⟨p2, e2⟩ := suffix_tot s ⟨#[45, 45]⟩ h
  obtain ⟨p1, e1⟩ := suffix_tot s ⟨#[45]⟩ h
  obtain ⟨t3, f3, g3⟩ := trim_tot s ⟨#[45, 45, 33]⟩ h
  obtain ⟨t2, f2, g2⟩ := trim_tot s ⟨#[45, 45]⟩ h
  obtain ⟨t1, f1, g1⟩ := trim_tot s ⟨#[45]⟩ h
  rw [e3, e2, e1, f3, f2, f1]
  cases p3
  · cases p2
    · cases p1
      · exact ⟨s, rfl, Nat.le_refl _⟩
      · exact ⟨t1, rfl, g1⟩
    · exact ⟨t2, rfl, g2⟩
  · exact ⟨t3, rfl, g3⟩
theorem cut_tot (rest : ByteArray) (sh : Bool) (at_ n : Int) (h : rest.size ≤ 100000) (h1 : 0 ≤ at_) (h2 : 0 ≤ n) : ∃ r, commentCut rest sh at_ n = some r ∧ r.2.2.2.2.2.1.size ≤ rest.size ∧ r.2.1.size ≤ 4 * rest.size ∧ 1 ≤ r.1 := by
  unfold commentCut
  rw [skip_tot rest sh at_ h1, Option.bind_some]
  simp only
  obtain ⟨d, e, s⟩ := heal_tot (rest.extract 0 (min at_.toNat rest.size)) (by rw [ByteArray.size_extract]; omega)
  rw [e, Option.bind_some, skip_tot _ sh n h2, Option.bind_some]
  refine ⟨_, rfl, ?_, Nat.zero_le _, one4⟩
  simp only
  rw [ByteArray.size_extract, ByteArray.size_extract]; omega
theorem comment_tot (rest : ByteArray) (sh : Bool) (h : rest.size ≤ 100000) : ∃ r, scan_reader_comment.f rest sh = some r ∧ r.2.2.2.2.2.1.size ≤ rest.size ∧ r.2.1.size ≤ 4 * rest.size ∧ 1 ≤ r.1 := by
  unfold scan_reader_comment.f
  rw [if_pos (by omega), show strings_HasPrefix.f rest (⟨#[62]⟩ : ByteArray) = some (Lib.hasPrefix rest.data.toList [62]) from rfl, Option.bind_some]
  by_cases h1 : Lib.hasPrefix rest.data.toList [62] = true
  · rw [if_pos h1, skip_tot rest sh 1 (by decide), Option.bind_some]
    refine ⟨_, rfl, ?_, Nat.zero_le _, one4⟩
    simp only
    rw [ByteArray.size_extract]; omega
  · rw [if_neg h1]
    unfold comment1
    rw [show strings_HasPrefix.f rest (⟨#[45, 62]⟩ : ByteArray) = some (Lib.hasPrefix rest.data.toList [45, 62]) from rfl, Option.bind_some]
    by_cases h2 : Lib.hasPrefix rest.data.toList [45, 62] = true
    · rw [if_pos h2, skip_tot rest sh 2 (by decide), Option.bind_some]
      refine ⟨_, rfl, ?_, Nat.zero_le _, one4⟩
      simp only
      rw [ByteArray.size_extract]; omega
    · rw [if_neg h2]
      unfold commentRest
      obtain ⟨i1, e1⟩ : ∃ i, strings_Index.f rest ⟨#[45, 45, 62]⟩ = some i := by unfold strings_Index.f; rw [if_pos (by omega)]; exact ⟨_, rfl⟩
      obtain ⟨i2, e2⟩ : ∃ i, strings_Index.f rest ⟨#[45, 45, 33, 62]⟩ = some i := by unfold strings_Index.f; rw [if_pos (by omega)]; exact ⟨_, rfl⟩
      rw [e1, Option.bind_some, e2, Option.bind_some]
      by_cases hc : 0 ≤ i1 ∧ (i2 < 0 ∨ i1 < i2)
      · rw [if_pos hc]; exact cut_tot rest sh i1 3 h hc.1 (by decide)
      · rw [if_neg hc]
        by_cases hd : 0 ≤ i2
        · rw [if_pos hd]; exact cut_tot rest sh i2 4 h hd (by decide)
        · rw [if_neg hd]
          unfold commentShort
          rw [skip_tot rest true rest.size (by omega), Option.bind_some]
          simp only
          obtain ⟨t, e3, s3⟩ := strip_tot (rest.extract 0 (min ((rest.size : Nat) : Int).toNat rest.size)) (by rw [ByteArray.size_extract]; omega)
          rw [ByteArray.size_extract] at s3
          obtain ⟨d, e4, s4⟩ := heal_tot t (by omega)
          rw [e3, Option.bind_some, e4, Option.bind_some]
          refine ⟨_, rfl, ?_, Nat.zero_le _, one4⟩
          simp only
          rw [ByteArray.size_extract]; omega
theorem markup_tot (rest : ByteArray) (sh : Bool) (h : rest.size ≤ 100000) (h2 : 2 ≤ rest.size) (h3 : bt rest 1 = 47 → 3 ≤ rest.size) : ∃ r, scan_reader_markup.f rest sh = some r ∧ r.2.2.2.2.2.1.size < rest.size ∧ r.2.1.size ≤ 4 * rest.size := by
  unfold scan_reader_markup.f
  rw [if_pos h2, letter_tot _ (bt_range rest 1), Option.bind_some]
  have hb : ∀ n : Nat, 1 ≤ n → (rest.extract (min n rest.size) rest.size).size < rest.size ∧ (rest.extract (min n rest.size) rest.size).size ≤ 100000 := fun n hn => by rw [skip_size]; omega
  by_cases hl : isLetter (bt rest 1) = true
  · rw [if_pos hl, skip_tot rest sh 1 (by decide), Option.bind_some]
    obtain ⟨r, e, s1, s2⟩ := tag_tot (rest.extract (min (1 : Int).toNat rest.size) rest.size) sh (hb 1 (by decide)).2
    have := hb 1 (by decide)
    exact ⟨r, e, by have h1 : (1 : Int).toNat = 1 := rfl; rw [h1] at s1; omega, by have h1 : (1 : Int).toNat = 1 := rfl; rw [h1] at s2; omega⟩
  · rw [if_neg hl]
    by_cases h63 : bt rest 1 = 63
    · rw [if_pos h63, skip_tot rest sh 1 (by decide), Option.bind_some]
      obtain ⟨r, e, s1, s2, _⟩ := remark_tot (rest.extract (min (1 : Int).toNat rest.size) rest.size) sh (hb 1 (by decide)).2
      have := hb 1 (by decide)
      exact ⟨r, e, by have h1 : (1 : Int).toNat = 1 := rfl; rw [h1] at s1; omega, by have h1 : (1 : Int).toNat = 1 := rfl; rw [h1] at s2; omega⟩
    · rw [if_neg h63]
      by_cases h33 : bt rest 1 = 33
      · rw [if_pos h33]
        obtain ⟨b1, e1, _⟩ := begins_tot (rest.extract 2 rest.size) ⟨#[45, 45]⟩ (by rw [ByteArray.size_extract]; omega)
        rw [e1, Option.bind_some]
        cases b1 with
        | true =>
          rw [if_pos rfl, skip_tot rest sh 4 (by decide), Option.bind_some]
          obtain ⟨r, e, s1, s2, _⟩ := comment_tot (rest.extract (min (4 : Int).toNat rest.size) rest.size) sh (hb 4 (by decide)).2
          have := hb 4 (by decide)
          exact ⟨r, e, by have h1 : (4 : Int).toNat = 4 := rfl; rw [h1] at s1; omega, by have h1 : (4 : Int).toNat = 4 := rfl; rw [h1] at s2; omega⟩
        | false =>
          rw [if_neg Bool.false_ne_true]
          obtain ⟨b2, e2, _⟩ := begins_tot (rest.extract 2 rest.size) ⟨#[100, 111, 99, 116, 121, 112, 101]⟩ (by rw [ByteArray.size_extract]; omega)
          rw [e2, Option.bind_some]
          cases b2 with
          | true =>
            rw [if_pos rfl, skip_tot rest sh 9 (by decide), Option.bind_some]
            obtain ⟨r, e, s1, s2, _⟩ := doctype_tot (rest.extract (min (9 : Int).toNat rest.size) rest.size) sh (hb 9 (by decide)).2
            have := hb 9 (by decide)
            exact ⟨r, e, by have h1 : (9 : Int).toNat = 9 := rfl; rw [h1] at s1; omega, by have h1 : (9 : Int).toNat = 9 := rfl; rw [h1] at s2; omega⟩
          | false =>
            rw [if_neg Bool.false_ne_true, skip_tot rest sh 2 (by decide), Option.bind_some]
            obtain ⟨r, e, s1, s2, _⟩ := remark_tot (rest.extract (min (2 : Int).toNat rest.size) rest.size) sh (hb 2 (by decide)).2
            have := hb 2 (by decide)
            exact ⟨r, e, by have h1 : (2 : Int).toNat = 2 := rfl; rw [h1] at s1; omega, by have h1 : (2 : Int).toNat = 2 := rfl; rw [h1] at s2; omega⟩
      · rw [if_neg h33, skip_tot rest sh 2 (by decide), Option.bind_some]
        have hb2 := hb 2 (by decide)
        have h22 : (2 : Int).toNat = 2 := rfl
        have hrem : ∃ r, scan_reader_remark.f (rest.extract (min (2 : Int).toNat rest.size) rest.size) sh = some r ∧ r.2.2.2.2.2.1.size < rest.size ∧ r.2.1.size ≤ 4 * rest.size := by
          obtain ⟨r, e, s1, s2, _⟩ := remark_tot (rest.extract (min (2 : Int).toNat rest.size) rest.size) sh hb2.2
          exact ⟨r, e, by rw [h22] at s1; omega, by rw [h22] at s2; omega⟩
        by_cases h47 : bt rest 1 = 47
        · rw [if_pos h47, show strings_HasPrefix.f (rest.extract 2 rest.size) (⟨#[62]⟩ : ByteArray) = some (Lib.hasPrefix (rest.extract 2 rest.size).data.toList [62]) from rfl, Option.bind_some]
          by_cases hp : Lib.hasPrefix (rest.extract 2 rest.size).data.toList [62] = true
          · rw [if_pos hp, skip_tot _ sh 1 (by decide), Option.bind_some]
            refine ⟨_, rfl, ?_, Nat.zero_le _⟩
            simp only
            rw [ByteArray.size_extract, h22]; omega
          · rw [if_neg hp, if_pos (h3 h47), letter_tot _ (bt_range rest 2), Option.bind_some]
            by_cases hl2 : isLetter (bt rest 2) = true
            · rw [if_pos hl2]
              obtain ⟨r, e, s1, s2⟩ := tag_tot (rest.extract (min (2 : Int).toNat rest.size) rest.size) sh hb2.2
              rw [e, Option.bind_some]
              refine ⟨_, rfl, ?_⟩
              unfold markupEnd
              rw [h22] at s1 s2
              split
              · exact ⟨by show r.2.2.2.2.2.1.size < _; omega, by show r.2.1.size ≤ _; omega⟩
              · exact ⟨by omega, by omega⟩
            · rw [if_neg hl2]; exact hrem
        · rw [if_neg h47]; exact hrem
end Go.Proofs.YtoacojkmclngmaaGreatDoor.Pz
/- Every step of the scanner answers, and goes on: the steps. -/
namespace Go.Proofs.YtoacojkmclngmaaGreatDoor.Pz
open Go.RowKit Go.Proofs.YtoacojkmclngmaaGreatDoorW.PrintWords Go.Proofs.YtoacojkmclngmaaGreatDoorW.PrintLast Go.Proofs.YtoacojkmclngmaaGreatDoorW.PrintMore
set_option linter.unusedVariables false
set_option linter.unusedSimpArgs false
theorem bt_ext (s : ByteArray) (a b i : Nat) (hb : b ≤ s.size) (hi : a + i < b) : bt (s.extract a b) (i : Int) = bt s ((a + i : Nat) : Int) := by
  have h1 : i < (s.extract a b).size := by rw [ByteArray.size_extract]; omega
  have h2 : a + i < s.size := by omega
  have e1 : (((s.extract a b)[i]'h1).toNat : Int) = bt (s.extract a b) (i : Int) := bt_at (s.extract a b) i h1
  have e2 : ((s[a + i]'h2).toNat : Int) = bt s ((a + i : Nat) : Int) := bt_at s ((a + i : Nat) : Int) h2
  rw [← e1, ← e2, ByteArray.getElem_extract]
theorem bt_list (s : ByteArray) (i : Nat) (h : i < s.size) : bt s (i : Int) = ((s.data.toList[i]'(by rw [len_list]; exact h)).toNat : Int) := by
  have e2 : ((s[i]'h).toNat : Int) = bt s (i : Int) := bt_at s (i : Int) h
  rw [← e2]; rfl
theorem opens_j0 (x0 : ByteArray) (x5 : Bool) : scan_opens.j0 2 x0 x5 = if x5 = true then (some (false, false)) else (if (x0.size : Int) = 1 then (some (false, true)) else (if x0.toList = ([60, 47] : List UInt8) then (some (false, true)) else (if 1 < (x0.size : Int) then ((class_Letter.f (bt x0 1)).bind fun t128 => (if t128 = true then (some (true, false)) else (if (bt x0 1) = 33 then (some (true, false)) else (if (bt x0 1) = 63 then (some (true, false)) else (some (((bt x0 1) == 47), false)))))) else (none)))) := rfl
theorem opens_tot (s : ByteArray) : ∃ is more, scan_opens.f 2 s = some (is, more) ∧ ((is = true ∨ more = true) → bt s 0 = 60) ∧ (is = true → 2 ≤ s.size ∧ (bt s 1 = 47 → 3 ≤ s.size)) := by
  unfold scan_opens.f
  by_cases h0 : s.size = 0
  · rw [if_pos ((toList_nil s).2 h0)]
    exact ⟨false, false, rfl, fun h => by simp at h, fun h => by cases h⟩
  · rw [if_neg (fun e => h0 ((toList_nil s).1 e)), if_pos (by omega)]
    rw [opens_j0]
    by_cases h60 : bt s 0 = 60
    · have hb : (bt s 0 != 60) = false := by simp [h60]
      rw [hb, if_neg Bool.false_ne_true]
      by_cases h1 : (s.size : Int) = 1
      · rw [if_pos h1]; exact ⟨false, true, rfl, fun _ => h60, fun h => by cases h⟩
      · rw [if_neg h1]
        by_cases h2 : s.toList = ([60, 47] : List UInt8)
        · rw [if_pos h2]; exact ⟨false, true, rfl, fun _ => h60, fun h => by cases h⟩
        · rw [if_neg h2, if_pos (by omega), letter_tot _ (bt_range s 1), Option.bind_some]
          have hk : 2 ≤ s.size ∧ (bt s 1 = 47 → 3 ≤ s.size) := by
            refine ⟨by omega, fun h47 => ?_⟩
            by_cases h3 : 3 ≤ s.size
            · exact h3
            · exfalso
              apply h2
              have hs2 : s.size = 2 := by omega
              have hl : s.data.toList.length = 2 := by rw [len_list]; exact hs2
              have g0 := bt_list s 0 (by omega)
              have g1 := bt_list s 1 (by omega)
              rw [Lib.toList_data]
              match hm : s.data.toList, hl with
              | [a, b], _ =>
                simp only [hm] at g0 g1
                have ha : a = 60 := UInt8.toNat_inj.1 (by have : (a.toNat : Int) = 60 := by rw [← h60]; simpa using g0.symm
                                                          have h : (60 : UInt8).toNat = 60 := rfl
                                                          omega)
                have hb' : b = 47 := UInt8.toNat_inj.1 (by have : (b.toNat : Int) = 47 := by rw [← h47]; simpa using g1.symm
                                                           have h : (47 : UInt8).toNat = 47 := rfl
                                                           omega)
                rw [ha, hb']
          repeat' split
          all_goals exact ⟨_, _, rfl, fun _ => h60, fun _ => hk⟩
    · have hb : (bt s 0 != 60) = true := by simp [h60]
      rw [hb, if_pos rfl]
      exact ⟨false, false, rfl, fun h => by simp at h, fun h => by cases h⟩
theorem runGo_tot (s : ByteArray) : ∀ (k n : Nat), n + k = s.size → ∃ (m : Nat) (sure : Bool), runGo s k n = some ((m : Int), sure) ∧ n ≤ m ∧ m ≤ s.size ∧ (m < s.size → bt s (m : Int) = 60) ∧ (sure = true → m + 2 ≤ s.size ∧ (bt s ((m + 1 : Nat) : Int) = 47 → m + 3 ≤ s.size))
  | 0, n, h => ⟨s.size, false, rfl, by omega, Nat.le_refl _, fun h => absurd h (by omega), fun h => by cases h⟩
  | k + 1, n, h => by
    unfold runGo
    obtain ⟨is, more, e, h1, h2⟩ := opens_tot (s.extract n s.size)
    rw [e, Option.bind_some]
    by_cases hc : is = true ∨ more = true
    · rw [if_pos hc]
      have hsz : (s.extract n s.size).size = s.size - n := by rw [ByteArray.size_extract]; omega
      refine ⟨n, is, rfl, Nat.le_refl _, by omega, fun hlt => ?_, fun hi => ?_⟩
      · have := h1 hc
        rwa [show (0 : Int) = ((0 : Nat) : Int) from rfl, bt_ext s n s.size 0 (Nat.le_refl _) (by omega)] at this
      · have h3 := h2 hi
        rw [hsz] at h3
        refine ⟨by omega, fun h47 => ?_⟩
        have := h3.2 (by rw [show (1 : Int) = ((1 : Nat) : Int) from rfl, bt_ext s n s.size 1 (Nat.le_refl _) (by omega)]; exact h47)
        omega
    · rw [if_neg hc]
      obtain ⟨m, sure, e2, g1, g2⟩ := runGo_tot s k (n + 1) (by omega)
      exact ⟨m, sure, e2, by omega, g2⟩
theorem endsGo_tot (e s : ByteArray) (he : 2 ≤ e.size) : ∀ (k n : Nat), n + k = s.size → ∃ (m : Nat) (sure : Bool), endsGo e s k n = ((m : Int), sure) ∧ m ≤ s.size ∧ (sure = true → m + 3 ≤ s.size)
  | 0, n, h => ⟨s.size, false, rfl, Nat.le_refl _, fun h => by cases h⟩
  | k + 1, n, h => by
    unfold endsGo
    cases hq : endAt e s n with
    | some b =>
      refine ⟨n, b, rfl, by omega, fun hb => ?_⟩
      subst hb
      unfold endAt at hq
      split at hq
      · split at hq
        · split at hq <;> simp at hq
        · omega
      · cases hq
    | none =>
      obtain ⟨m, sure, e2, g⟩ := endsGo_tot e s he k (n + 1) (by omega)
      exact ⟨m, sure, e2, g⟩
theorem open_tot (s : ByteArray) (h : s.size ≤ 1000000) : ∃ o : Int, scan_open.f s = some o ∧ 0 ≤ o ∧ o ≤ s.size ∧ (o ≠ 0 → ∃ m : Nat, m < s.size ∧ o = (s.size : Int) - m ∧ bt s (m : Int) = 38) := by
  unfold scan_open.f
  rw [if_pos (by omega)]
  refine ⟨openV s, rfl, ?_⟩
  unfold openV
  rcases Lib.lastIdx_spec s 38 s.size with h1 | ⟨i, hi, h2, hc, _⟩
  · have h1' : Lib.lastIndexByte s 38 = -1 := h1.1
    rw [h1', if_pos (by decide)]
    exact ⟨Int.le_refl _, by omega, fun h => absurd rfl h⟩
  · have h2' : Lib.lastIndexByte s 38 = i := h2
    rw [h2', if_neg (by omega)]
    split
    · refine ⟨by omega, by omega, fun _ => ⟨i, hi, rfl, ?_⟩⟩
      rw [bt_list s i hi]
      have hx : (s.data[i]!) = s.data.toList[i]'(by rw [len_list]; exact hi) := by
        have h3 : i < s.data.size := hi
        rw [getElem!_pos s.data i h3]; rfl
      rw [hx] at hc
      exact hc
    · exact ⟨Int.le_refl _, by omega, fun h => absurd rfl h⟩
theorem text_tot (name : ByteArray) (raw : Int) (s : ByteArray) (h : s.size ≤ 100000) : ∃ r, scan_mode_text.f name raw s = some r := by
  unfold scan_mode_text.f
  obtain ⟨d, e⟩ := decode_tot s false (by omega)
  obtain ⟨t, e2, s2⟩ := heal_tot s (by omega)
  obtain ⟨d2, e3⟩ := decode_tot t false (by omega)
  rw [e, e2, Option.bind_some, Option.bind_some, e3, Option.bind_some]
  repeat' split
  all_goals exact ⟨_, rfl⟩
theorem raw_j1 (x : ByteArray) (b : Bool) : ∃ r : Int, scan_Raw.j1 (6 + 1) x b = some r ∧ 0 ≤ r ∧ r ≤ 3 := by
  rw [scan_Raw.j1]
  repeat' split
  · exact ⟨2, rfl, by decide, by decide⟩
  · exact ⟨3, rfl, by decide, by decide⟩
  · exact ⟨0, rfl, by decide, by decide⟩
theorem raw_j0 (x : ByteArray) (b : Bool) : ∃ r : Int, scan_Raw.j0 (7 + 1) x b = some r ∧ 0 ≤ r ∧ r ≤ 3 := by
  rw [scan_Raw.j0]
  split
  · exact ⟨1, rfl, by decide, by decide⟩
  · repeat' split
    all_goals exact raw_j1 x _
theorem raw_tot (s : ByteArray) : ∃ r : Int, scan_Raw.f 8 s = some r ∧ 0 ≤ r ∧ r ≤ 3 := by
  unfold scan_Raw.f
  split
  · exact raw_j0 s _
  · exact raw_j0 s _
theorem run_tot (rest : ByteArray) (sh : Bool) (name : ByteArray) (raw : Int) (h : rest.size ≤ 100000) (hn : name.size ≤ 400000) (hr : 0 ≤ raw ∧ raw ≤ 3) :
    ∃ (m : Nat) (sure : Bool), scan_Scanner_run.f rest sh name raw = some ((m : Int), sure, rest, sh, name, raw) ∧ m ≤ rest.size ∧ (sure = true → m + 2 ≤ rest.size ∧ (bt rest ((m + 1 : Nat) : Int) = 47 → m + 3 ≤ rest.size)) ∧ (raw = 0 → m < rest.size → bt rest (m : Int) = 60) := by
  unfold scan_Scanner_run.f
  by_cases h3 : raw = 3
  · rw [if_pos h3]
    exact ⟨rest.size, false, rfl, Nat.le_refl _, fun h => (by cases h), fun h0 => absurd h0 (by omega)⟩
  · rw [if_neg h3]
    by_cases h1 : raw = 1 ∨ raw = 2
    · rw [if_pos h1]
      unfold scan_mode_ends.f
      rw [if_pos ⟨by omega, by omega⟩, Option.bind_some]
      obtain ⟨m, sure, e, g1, g2⟩ := endsGo_tot (tagEnd name) rest (by unfold tagEnd; rw [ByteArray.size_append]; exact Nat.le_add_right _ _) rest.size 0 (by omega)
      rw [e]
      exact ⟨m, sure, rfl, g1, fun hs => ⟨by have := g2 hs; omega, fun _ => g2 hs⟩, fun h0 => absurd h0 (by omega)⟩
    · rw [if_neg h1, if_pos (by omega)]
      obtain ⟨m, sure, e, g1, g2, g3, g4⟩ := runGo_tot rest rest.size 0 (by omega)
      rw [e, Option.bind_some]
      exact ⟨m, sure, rfl, g2, g4, fun _ => g3⟩
abbrev StepRes := List S33 × Bool × ByteArray × Bool × ByteArray × Int
structure StepOk (rest : ByteArray) (sh : Bool) (raw : Int) (last : Bool) (r : StepRes) : Prop where
  len : r.1.length ≤ 1
  le : r.2.2.1.size ≤ rest.size
  lt : r.2.1 = true → r.2.2.1.size < rest.size
  rsh : r.2.2.2.1 = sh
  rname : r.2.2.2.2.1.size ≤ 400000
  rraw : 0 ≤ r.2.2.2.2.2 ∧ r.2.2.2.2.2 ≤ 3
  held : raw = 0 → last = false → ∀ i : Nat, i ≤ rest.size → (∀ j : Nat, j < i → bt rest (j : Int) ≠ 60 ∧ bt rest (j : Int) ≠ 38) → r.2.2.1.size ≤ rest.size - i
theorem mark_tot (rest : ByteArray) (sh : Bool) (name : ByteArray) (raw : Int) (last : Bool) (h : rest.size ≤ 100000) (hn : name.size ≤ 400000) (hr : 0 ≤ raw ∧ raw ≤ 3) (h2 : 2 ≤ rest.size) (h3 : bt rest 1 = 47 → 3 ≤ rest.size) :
    ∃ r : StepRes, stepMark rest sh name raw last = some r ∧ r.1.length ≤ 1 ∧ r.2.2.1.size ≤ rest.size ∧ (r.2.1 = true → r.2.2.1.size < rest.size) ∧ r.2.2.2.1 = sh ∧ r.2.2.2.2.1.size ≤ 400000 ∧ 0 ≤ r.2.2.2.2.2 ∧ r.2.2.2.2.2 ≤ 3 := by
  unfold stepMark
  obtain ⟨m, e, s1, s2⟩ := markup_tot rest false h h2 h3
  rw [e, Option.bind_some]
  split
  · exact ⟨_, rfl, Nat.zero_le _, Nat.le_refl _, fun h => by simp at h, rfl, hn, hr⟩
  · split
    · exact ⟨_, rfl, Nat.zero_le _, Nat.le_of_lt s1, fun _ => s1, rfl, Nat.zero_le _, Int.le_refl _, by show (0 : Int) ≤ 3; decide⟩
    · split
      · obtain ⟨q, e2, q1, q2⟩ := raw_tot m.2.1
        rw [e2, Option.bind_some]
        exact ⟨_, rfl, Nat.le_refl _, Nat.le_of_lt s1, fun _ => s1, rfl, by show m.2.1.size ≤ 400000; omega, q1, q2⟩
      · exact ⟨_, rfl, Nat.le_refl _, Nat.le_of_lt s1, fun _ => s1, rfl, Nat.zero_le _, Int.le_refl _, by show (0 : Int) ≤ 3; decide⟩
theorem step_tot (rest : ByteArray) (sh : Bool) (name : ByteArray) (raw : Int) (last : Bool) (h : rest.size ≤ 100000) (hn : name.size ≤ 400000) (hr : 0 ≤ raw ∧ raw ≤ 3) :
    ∃ r, scan_Scanner_step.f rest sh name raw last = some r ∧ StepOk rest sh raw last r := by
  unfold scan_Scanner_step.f
  obtain ⟨m, sure, e, g1, g2, g3⟩ := run_tot rest sh name raw h hn hr
  rw [e, Option.bind_some]
  -- what is held
  obtain ⟨n, hold, e2, k1, k2, k3, k4⟩ : ∃ (n hold : Int), stepHold rest raw last (m : Int) sure = some (n, hold) ∧ 0 ≤ hold ∧ hold ≤ n ∧ n ≤ rest.size ∧ ((sure = true → n = m ∧ hold = 0) ∧ (raw = 0 → last = false → n = m ∧ (hold ≠ 0 → ∃ a : Nat, a < m ∧ hold = (m : Int) - a ∧ bt rest (a : Int) = 38))) := by
    unfold stepHold
    by_cases hs : sure = true
    · rw [if_pos hs]
      exact ⟨m, 0, rfl, Int.le_refl _, by omega, by omega, fun _ => ⟨rfl, rfl⟩, fun _ _ => ⟨rfl, fun h => absurd rfl h⟩⟩
    · rw [if_neg hs]
      by_cases hl : last = true
      · rw [if_pos hl]
        exact ⟨rest.size, 0, rfl, Int.le_refl _, by omega, by omega, fun h => absurd h hs, fun _ h => absurd hl (by rw [h]; decide)⟩
      · rw [if_neg hl]
        by_cases hc : (m : Int) = (rest.size : Int) ∧ raw < 2
        · rw [if_pos hc]
          obtain ⟨o, e3, o1, o2, o3⟩ := open_tot rest (by omega)
          rw [e3, Option.bind_some]
          refine ⟨m, o, rfl, o1, by omega, by omega, fun h => absurd h hs, fun _ _ => ⟨rfl, fun ho => ?_⟩⟩
          obtain ⟨a, a1, a2, a3⟩ := o3 ho
          exact ⟨a, by omega, by omega, a3⟩
        · rw [if_neg hc]
          by_cases h2 : raw < 2
          · rw [if_pos h2, if_pos ⟨by omega, by omega⟩]
            have hsz : (rest.extract 0 (m : Int).toNat).size = m := by rw [ByteArray.size_extract, Int.toNat_natCast]; omega
            obtain ⟨o, e3, o1, o2, o3⟩ := open_tot (rest.extract 0 (m : Int).toNat) (by omega)
            rw [e3, Option.bind_some]
            refine ⟨m, o, rfl, o1, by omega, by omega, fun h => absurd h hs, fun _ _ => ⟨rfl, fun ho => ?_⟩⟩
            obtain ⟨a, a1, a2, a3⟩ := o3 ho
            rw [hsz] at a1 a2
            refine ⟨a, a1, a2, ?_⟩
            rw [Int.toNat_natCast, bt_ext rest 0 m a g1 (by omega)] at a3
            simpa using a3
          · rw [if_neg h2]
            exact ⟨m, 0, rfl, Int.le_refl _, by omega, by omega, fun h => absurd h hs, fun h0 => absurd h0 (by omega)⟩
  rw [e2, Option.bind_some]
  have hheld : raw = 0 → last = false → ∀ i : Nat, i ≤ rest.size → (∀ j : Nat, j < i → bt rest (j : Int) ≠ 60 ∧ bt rest (j : Int) ≠ 38) → (i : Int) ≤ n - hold := by
    intro h0 hlf i hi hcalm
    obtain ⟨q1, q2⟩ := k4.2 h0 hlf
    have him : i ≤ m := by
      rcases Nat.lt_or_ge m i with hlt | hge
      · exact absurd (g3 h0 (by omega)) (hcalm m hlt).1
      · exact hge
    by_cases hz : hold = 0
    · omega
    · obtain ⟨a, a1, a2, a3⟩ := q2 hz
      rcases Nat.lt_or_ge a i with hlt | hge
      · exact absurd a3 (hcalm a hlt).2
      · omega
  unfold stepRest
  simp only
  rw [if_pos ⟨by omega, by omega⟩]
  by_cases hp : 0 < n - hold
  · rw [if_pos hp]
    unfold stepText
    rw [skip_tot rest sh (n - hold) (by omega), Option.bind_some]
    obtain ⟨t, e4⟩ := text_tot name raw (rest.extract 0 (min (n - hold).toNat rest.size)) (by rw [ByteArray.size_extract]; omega)
    simp only
    rw [e4, Option.bind_some]
    have hsz := skip_size rest (n - hold).toNat
    exact ⟨_, rfl, Nat.le_refl _, by show (rest.extract (min (n - hold).toNat rest.size) rest.size).size ≤ _; omega, fun _ => by show (rest.extract (min (n - hold).toNat rest.size) rest.size).size < _; omega, rfl, hn, hr, fun h0 hlf i hi hcalm => by
      have := hheld h0 hlf i hi hcalm
      show (rest.extract (min (n - hold).toNat rest.size) rest.size).size ≤ _; omega⟩
  · rw [if_neg hp]
    have hzero : raw = 0 → last = false → ∀ i : Nat, i ≤ rest.size → (∀ j : Nat, j < i → bt rest (j : Int) ≠ 60 ∧ bt rest (j : Int) ≠ 38) → i = 0 := fun h0 hlf i hi hcalm => by
      have := hheld h0 hlf i hi hcalm
      omega
    by_cases hc : sure = false ∨ rest.toList = []
    · rw [if_pos hc]
      exact ⟨_, rfl, Nat.zero_le _, Nat.le_refl _, fun h => by simp at h, rfl, hn, hr, fun h0 hlf i hi hcalm => by rw [hzero h0 hlf i hi hcalm]; exact Nat.le_refl _⟩
    · rw [if_neg hc]
      have hs : sure = true := by cases sure with | true => rfl | false => exact absurd (.inl rfl) hc
      have hm0 : m = 0 := by have := k4.1 hs; omega
      subst hm0
      have hg := g2 hs
      obtain ⟨r, e5, r1, r2, r3, r4, r5, r6, r7⟩ := mark_tot rest sh name raw last h hn hr (by omega) (fun h47 => by have := hg.2 h47; omega)
      exact ⟨r, e5, r1, r2, r3, r4, r5, ⟨r6, r7⟩, fun h0 hlf i hi hcalm => by rw [hzero h0 hlf i hi hcalm]; exact r2⟩
theorem told_tot : ∀ (k : Nat) (last : Bool) (l : List S33) (rest : ByteArray) (sh : Bool) (name : ByteArray) (raw : Int), rest.size ≤ 100000 → name.size ≤ 400000 → (0 ≤ raw ∧ raw ≤ 3) → rest.size + 1 ≤ k → l.length + rest.size ≤ 1000000 →
    ∃ l' rest' name' raw', scan_Scanner_told.l0 k last l rest sh name raw = some (l', rest', sh, name', raw') ∧ rest'.size ≤ rest.size ∧ name'.size ≤ 400000 ∧ (0 ≤ raw' ∧ raw' ≤ 3) ∧
      (raw = 0 → last = false → ∀ i : Nat, i ≤ rest.size → (∀ j : Nat, j < i → bt rest (j : Int) ≠ 60 ∧ bt rest (j : Int) ≠ 38) → rest'.size ≤ rest.size - i)
  | 0, _, _, _, _, _, _, _, _, _, hk, _ => absurd hk (by omega)
  | k + 1, last, l, rest, sh, name, raw, h, hn, hr, hk, hl => by
    unfold scan_Scanner_told.l0
    obtain ⟨r, e, ok⟩ := step_tot rest sh name raw last h hn hr
    obtain ⟨r1, r2, r3, r4, r5, r6⟩ := r
    have o1 := ok.len; have o2 := ok.le; have o3 := ok.lt; have o4 := ok.rsh; have o5 := ok.rname; have o6 := ok.rraw; have o7 := ok.held
    simp only at o1 o2 o3 o4 o5 o6 o7
    subst o4
    rw [e, Option.bind_some]
    simp only
    cases r2 with
    | true =>
      have o3' := o3 rfl
      rw [if_pos rfl, if_pos (by omega)]
      obtain ⟨l', rest', name', raw', e2, q1, q2, q3, _⟩ := told_tot k last (l ++ r1) r3 r4 r5 r6 (by omega) o5 o6 (by omega) (by rw [List.length_append]; omega)
      exact ⟨l', rest', name', raw', e2, by omega, q2, q3, fun h0 hlf i hi hcalm => by have := o7 h0 hlf i hi hcalm; omega⟩
    | false =>
      rw [if_neg Bool.false_ne_true]
      exact ⟨l, r3, r5, r6, rfl, o2, o5, o6, o7⟩
end Go.Proofs.YtoacojkmclngmaaGreatDoor.Pz
/- Decode of a text in two parts, cut ahead of an &. -/
namespace Go.Proofs.YtoacojkmclngmaaGreatDoor.Pz
open Go.RowKit Go.Proofs.YtoacojkmclngmaaGreatDoorW.PrintWords Go.Proofs.YtoacojkmclngmaaGreatDoorW.PrintLast Go.Proofs.YtoacojkmclngmaaGreatDoorW.PrintMore
set_option linter.unusedVariables false
set_option linter.unusedSimpArgs false
theorem ba_ext {a b : ByteArray} (h : a.data.toList = b.data.toList) : a = b := ByteArray.ext (Array.toList_inj.1 h)
theorem ba_append (a b : ByteArray) : (a ++ b).data.toList = a.data.toList ++ b.data.toList := by simp [ByteArray.data_append]
theorem ba_tail (a : ByteArray) (i : Nat) : (a.extract i a.size).data.toList = a.data.toList.drop i := by
  rw [extract_list, List.take_of_length_le (by rw [List.length_drop, len_list]; exact Nat.le_refl _)]
theorem ba_head (a : ByteArray) (i : Nat) : (a.extract 0 i).data.toList = a.data.toList.take i := by
  rw [extract_list, List.drop_zero, Nat.sub_zero]
theorem ba_nil {a : ByteArray} (h : a.size = 0) : a = ByteArray.empty := ba_ext (by
  have h2 : a.data.toList.length = 0 := by rw [len_list]; exact h
  rw [List.eq_nil_of_length_eq_zero h2]; rfl)
def Amp (b : ByteArray) : Prop := ∃ m, b.data.toList = 38 :: m
theorem Amp.pos {b : ByteArray} (h : Amp b) : 0 < b.size := by
  obtain ⟨m, h⟩ := h
  rw [← len_list, h]; simp
theorem Amp.append {b : ByteArray} (h : Amp b) (c : ByteArray) : Amp (b ++ c) := by
  obtain ⟨m, h⟩ := h
  exact ⟨m ++ c.data.toList, by rw [ba_append, h]; rfl⟩
theorem takeWhile_stop {α : Type} (p : α → Bool) (c : α) (y : List α) (hc : p c = false) : ∀ x : List α, (x ++ c :: y).takeWhile p = x.takeWhile p
  | [] => by simp [List.takeWhile_cons, hc]
  | a :: x => by
    cases ha : p a with
    | true => simp [List.takeWhile_cons, ha, takeWhile_stop p c y hc x]
    | false => simp [List.takeWhile_cons, ha]
theorem isX_append (l m : List UInt8) (h : 2 ≤ l.length) : isX (l ++ 38 :: m) = isX l := by
  unfold isX
  rw [List.drop_append_of_le_length h]
  cases hd : l.drop 2 with
  | nil => rfl
  | cons c x => rfl
theorem isX_len (l : List UInt8) (h : isX l = true) : 3 ≤ l.length := by
  unfold isX at h
  cases hd : l.drop 2 with
  | nil => rw [hd] at h; cases h
  | cons c x =>
    have := congrArg List.length hd
    rw [List.length_drop, List.length_cons] at this
    omega
theorem fig_amp (base : Int) : fig base ((38 : UInt8).toNat : Int) = false := by
  have h1 : isDigit ((38 : UInt8).toNat : Int) = false := by decide
  have h2 : isHex ((38 : UInt8).toNat : Int) = false := by decide
  unfold fig
  rw [h1, h2]; simp
theorem numericV_append (l m : List UInt8) (h : 2 ≤ l.length) : numericV (l ++ 38 :: m) = numericV l := by
  unfold numericV
  rw [isX_append l m h]
  simp only
  have hi : (if isX l = true then 3 else 2) ≤ l.length := by
    split
    · exact isX_len l (by assumption)
    · exact h
  generalize (if isX l = true then (3 : Nat) else 2) = i at hi ⊢
  generalize (if isX l = true then (16 : Int) else 10) = base
  have key : ((l ++ 38 :: m).drop i).takeWhile (fun c => fig base (c.toNat : Int)) = (l.drop i).takeWhile (fun c => fig base (c.toNat : Int)) := by
    rw [List.drop_append_of_le_length hi]
    exact takeWhile_stop (fun c : UInt8 => fig base (c.toNat : Int)) 38 m (fig_amp base) _
  have hj : i + ((l.drop i).takeWhile (fun c => fig base (c.toNat : Int))).length ≤ l.length := figs_le base l i hi
  rw [key]
  generalize i + ((l.drop i).takeWhile (fun c => fig base (c.toNat : Int))).length = j at hj ⊢
  have hh : ((l ++ 38 :: m).drop j).head? = some 59 ↔ (l.drop j).head? = some 59 := by
    rw [List.drop_append_of_le_length hj]
    cases l.drop j with
    | nil => simp
    | cons c x => simp
  simp only [hh]
theorem names_noamp : ∀ s ∈ namesV, (38 : UInt8) ∉ s.data.toList := by
  have h : namesV.all (fun s => !s.data.toList.contains 38) = true := by kernel_rfl
  intro s hs
  have := List.all_eq_true.1 h s hs
  simpa using this
theorem path_noamp (q : Path) (h : q ∈ trieV.1) : (38 : UInt8) ∉ q := by
  rcases (trieV_of.2.1.pre q).1 h with rfl | ⟨d, hd, hp⟩
  · simp
  · obtain ⟨s, hs, rfl⟩ := List.mem_map.1 hd
    exact fun hm => names_noamp s hs (hp.subset hm)
theorem prefGo_append (u m : List UInt8) : ∀ (k i e : Nat), i + k = u.length → prefGo trieV.1 trieV.2 (u ++ 38 :: m) (k + e) i = prefGo trieV.1 trieV.2 u k i
  | 0, i, 0, h => rfl
  | 0, i, e + 1, h => by
    rw [Nat.zero_add]
    unfold prefGo
    have ht : (u ++ 38 :: m).take (i + 1) = u ++ [38] := by
      have : i = u.length := by omega
      subst this
      rw [List.take_length_add_append]
      simp
    rw [if_neg (fun hm => path_noamp _ hm (by rw [ht]; simp))]
  | k + 1, i, e, h => by
    have e1 : k + 1 + e = (k + e) + 1 := by omega
    rw [e1]
    unfold prefGo
    have ht : (u ++ 38 :: m).take (i + 1) = u.take (i + 1) := List.take_append_of_le_length (by omega)
    rw [ht, prefGo_append u m k (i + 1) e (by omega)]
theorem namedV_append (a b : ByteArray) (hb : Amp b) : namedV (a ++ b) = namedV a := by
  obtain ⟨m, hm⟩ := hb
  have h : longV (a ++ b) = longV a := by
    unfold longV
    rw [ba_append, hm, ByteArray.size_append, prefGo_append a.data.toList m a.size 0 b.size (by rw [len_list]; omega)]
  unfold namedV
  rw [h]
theorem named_tot3 (s : ByteArray) (h : s.size ≤ 1000000) : entity_Named.f s = some (namedV s) := by
  unfold entity_Named.f
  rw [if_pos (by omega)]
theorem prefix_amp {s : ByteArray} (h : Amp s) : Lib.hasPrefix s.data.toList [38] = true := by
  obtain ⟨m, h⟩ := h
  rw [h]
  simp [Lib.hasPrefix, List.isPrefixOf]
theorem one_append (s b : ByteArray) (hs : Amp s) (hb : Amp b) (hz : s.size + b.size ≤ 1000000) : charref_One.f (s ++ b) false = charref_One.f s false := by
  have hps := hs.pos
  have hsz : (s ++ b).size = s.size + b.size := ByteArray.size_append
  have hpf : ∀ x : ByteArray, strings_HasPrefix.f x (⟨#[38]⟩ : ByteArray) = some (Lib.hasPrefix x.data.toList [38]) := fun _ => rfl
  have hpf2 : ∀ x : ByteArray, strings_HasPrefix.f x (⟨#[38, 35]⟩ : ByteArray) = some (Lib.hasPrefix x.data.toList [38, 35]) := fun _ => rfl
  have e1 : (s ++ b).extract 1 (s ++ b).size = s.extract 1 s.size ++ b := by
    apply ba_ext
    rw [ba_tail, ba_append, ba_append, ba_tail, List.drop_append_of_le_length (by rw [len_list]; omega)]
  have hex : (s.extract 1 s.size).size = s.size - 1 := by rw [ByteArray.size_extract]; omega
  have h2 : Lib.hasPrefix (s ++ b).data.toList [38, 35] = Lib.hasPrefix s.data.toList [38, 35] := by
    obtain ⟨m, hm⟩ := hb
    obtain ⟨l, hl⟩ := hs
    rw [ba_append, hm, hl]
    cases l with
    | nil => simp [Lib.hasPrefix, List.isPrefixOf]
    | cons c l => simp [Lib.hasPrefix, List.isPrefixOf]
  have h3 : Lib.hasPrefix s.data.toList [38, 35] = true → charref_numeric.f (s ++ b) = charref_numeric.f s := fun hp => by
    have h2l : 2 ≤ s.size := prefix_size s _ hp
    unfold charref_numeric.f
    rw [if_pos (by omega), if_pos (by omega)]
    obtain ⟨m, hm⟩ := hb
    rw [ba_append, hm, numericV_append _ _ (by rw [len_list]; exact h2l)]
  unfold charref_One.f
  rw [hpf, hpf, prefix_amp hs, prefix_amp (hs.append b), Option.bind_some, Option.bind_some, if_pos rfl, if_pos rfl, hpf2, hpf2, h2, Option.bind_some, Option.bind_some]
  by_cases hp : Lib.hasPrefix s.data.toList [38, 35] = true
  · rw [if_pos hp, if_pos hp, h3 hp]
  · rw [if_neg hp, if_neg hp, if_pos (by omega), if_pos (by omega), e1, named_tot3 _ (by rw [ByteArray.size_append]; omega), named_tot3 _ (by omega), namedV_append _ _ hb]
    simp only [Option.bind_some, Bool.false_eq_true, if_false]
theorem decGo_mono (attr : Bool) : ∀ (k : Nat) (s : ByteArray) (r : List UInt8), decGo attr k s = some r → decGo attr (k + 1) s = some r
  | 0, s, r, h => by
    unfold decGo at h ⊢
    split at h
    · rw [if_pos (by assumption)]; exact h
    · cases h
  | k + 1, s, r, h => by
    unfold decGo at h ⊢
    split at h
    · rw [if_pos (by assumption)]; exact h
    · rw [if_neg (by assumption)]
      obtain ⟨t0, e0, h⟩ := Option.bind_eq_some_iff.1 h
      rw [e0, Option.bind_some]
      simp only at h ⊢
      split at h
      · rw [if_pos (by assumption)]
        obtain ⟨r1, e1, h⟩ := Option.map_eq_some_iff.1 h
        rw [decGo_mono attr k _ r1 e1]
        simp only [Option.map_some, h]
      · cases h
theorem decGo_le (attr : Bool) (s : ByteArray) (r : List UInt8) : ∀ (d k : Nat), decGo attr k s = some r → decGo attr (k + d) s = some r
  | 0, k, h => h
  | d + 1, k, h => decGo_mono attr (k + d) s r (decGo_le attr s r d k h)
theorem idx_take : ∀ l : List UInt8, (if Lib.indexByte l 38 < 0 then l.length else (Lib.indexByte l 38).toNat) = (l.takeWhile (fun c => c != 38)).length
  | [] => by simp [Lib.indexByte]
  | c :: l => by
    have ih := idx_take l
    have hlo := Lib.indexByte_ge l 38
    have hdef : Lib.indexByte (c :: l) 38 = if c == 38 then 0 else if Lib.indexByte l 38 == -1 then -1 else Lib.indexByte l 38 + 1 := rfl
    rw [hdef, List.takeWhile_cons]
    by_cases hc : c = 38
    · subst hc; simp
    · have hb : (c == 38) = false := by simpa using hc
      have hb2 : (c != 38) = true := by simpa using hc
      rw [hb, if_neg Bool.false_ne_true, if_pos hb2]
      simp only [List.length_cons]
      rw [← ih]
      by_cases h : Lib.indexByte l 38 = -1
      · simp [h]
      · have h1 : ¬ Lib.indexByte l 38 < 0 := by omega
        have h2 : ¬ Lib.indexByte l 38 + 1 < 0 := by omega
        have h3 : (Lib.indexByte l 38 == -1) = false := by simpa using h
        rw [h3, if_neg Bool.false_ne_true, if_neg h1, if_neg h2]
        omega
theorem ampAt_take (s : ByteArray) : ampAt s = (s.data.toList.takeWhile (fun c => c != 38)).length := by
  rw [← idx_take, len_list]; rfl
theorem ampAt_append (a b : ByteArray) (hb : Amp b) : ampAt (a ++ b) = ampAt a := by
  obtain ⟨m, hm⟩ := hb
  rw [ampAt_take, ampAt_take, ba_append, hm, takeWhile_stop _ _ _ (by decide)]
theorem ampAt_amp (b : ByteArray) (hb : Amp b) : ampAt b = 0 := by
  obtain ⟨m, hm⟩ := hb
  rw [ampAt_take, hm]; rfl
theorem amp_at (a : ByteArray) (h : ampAt a < a.size) : Amp (a.extract (ampAt a) a.size) := by
  have h2 : ampAt a < a.data.toList.length := by rw [len_list]; exact h
  refine ⟨a.data.toList.drop (ampAt a + 1), ?_⟩
  rw [ba_tail, List.drop_eq_getElem_cons h2]
  congr 1
  have h3 := h2
  rw [ampAt_take] at h3
  have := takeWhile_end (fun c : UInt8 => c != 38) a.data.toList h3
  simp only [← ampAt_take] at this
  simpa using this
theorem one_empty : charref_One.f ByteArray.empty false = some (ByteArray.empty, 0) := by kernel_rfl
theorem decGo_split (b : ByteArray) (hb : Amp b) (m : Nat) (rb : List UInt8) (hm : decGo false m b = some rb) : ∀ (k : Nat) (a : ByteArray) (ra : List UInt8), decGo false k a = some ra → a.size + b.size ≤ 1000000 → decGo false (k + m) (a ++ b) = some (ra ++ rb)
  | 0, a, ra, h, hz => by
    unfold decGo at h
    split at h
    · rename_i h0
      obtain rfl := Option.some.inj h
      rw [ba_nil h0, ByteArray.empty_append, Nat.zero_add]
      exact hm
    · cases h
  | k + 1, a, ra, h, hz => by
    by_cases h0 : a.size = 0
    · unfold decGo at h
      rw [if_pos h0] at h
      obtain rfl := Option.some.inj h
      rw [ba_nil h0, ByteArray.empty_append, Nat.add_comm (k + 1) m]
      exact decGo_le false b rb (k + 1) m hm
    · have hbp := hb.pos
      unfold decGo at h
      rw [if_neg h0] at h
      obtain ⟨t0, ht0, h⟩ := Option.bind_eq_some_iff.1 h
      simp only at h
      split at h
      case isFalse => cases h
      rename_i hr
      obtain ⟨r1, hr1, rfl⟩ := Option.map_eq_some_iff.1 h
      have hsz : (a ++ b).size = a.size + b.size := ByteArray.size_append
      have hle := ampAt_le a
      have e1 : (a ++ b).extract (ampAt a) (a ++ b).size = a.extract (ampAt a) a.size ++ b := by
        apply ba_ext
        rw [ba_tail, ba_append, ba_append, ba_tail, List.drop_append_of_le_length (by rw [len_list]; exact hle)]
      have e2 : (a ++ b).extract 0 (ampAt a) = a.extract 0 (ampAt a) := by
        apply ba_ext
        rw [ba_head, ba_head, ba_append, List.take_append_of_le_length (by rw [len_list]; exact hle)]
      have hxs : (a.extract (ampAt a) a.size).size = a.size - ampAt a := by rw [ByteArray.size_extract]; omega
      rw [show k + 1 + m = (k + m) + 1 by omega]
      unfold decGo
      rw [if_neg (by omega), ampAt_append a b hb, e1, e2]
      by_cases hi : ampAt a < a.size
      · have hA := amp_at a hi
        obtain ⟨s1, hs1⟩ : ∃ s1, s1 = a.extract (ampAt a) a.size := ⟨_, rfl⟩
        rw [← hs1] at hA hxs ht0 hr hr1 ⊢
        rw [one_append s1 b hA hb (by omega), ht0, Option.bind_some]
        have hs1b : (s1 ++ b).size = s1.size + b.size := ByteArray.size_append
        have hd : decStep (s1 ++ b) t0 = decStep s1 t0 := by
          unfold decStep
          have ex : (s1 ++ b).extract 0 1 = s1.extract 0 1 := by
            apply ba_ext
            rw [ba_head, ba_head, ba_append, List.take_append_of_le_length (by rw [len_list]; omega)]
          rw [ex]
          by_cases ht : t0.2 = 0
          · rw [if_pos ⟨ht, by omega⟩, if_pos ⟨ht, by omega⟩]
          · rw [if_neg (fun c => ht c.1), if_neg (fun c => ht c.1)]
        simp only
        rw [hd, if_pos ⟨hr.1, by omega⟩]
        have ee : (s1 ++ b).extract (decStep s1 t0).2.toNat (s1 ++ b).size = s1.extract (decStep s1 t0).2.toNat s1.size ++ b := by
          apply ba_ext
          rw [ba_tail, ba_append, ba_append, ba_tail, List.drop_append_of_le_length (by rw [len_list]; omega)]
        rw [ee, decGo_split b hb m rb hm k _ r1 hr1 (by rw [ByteArray.size_extract]; omega)]
        simp only [Option.map_some, List.append_assoc]
      · have hie : ampAt a = a.size := by omega
        have hs1 : a.extract (ampAt a) a.size = ByteArray.empty := ba_nil (by omega)
        rw [hs1] at ht0 hr hr1 ⊢
        rw [one_empty] at ht0
        obtain rfl := Option.some.inj ht0
        have hd0 : decStep ByteArray.empty (ByteArray.empty, 0) = (ByteArray.empty, 0) := rfl
        rw [hd0] at hr1 ⊢
        have hr1e : r1 = [] := by
          have he : ByteArray.empty.extract (0 : Int).toNat ByteArray.empty.size = ByteArray.empty := rfl
          simp only at hr1
          rw [he] at hr1
          cases k with
          | zero => exact (Option.some.inj hr1).symm
          | succ k => exact (Option.some.inj hr1).symm
        subst hr1e
        rw [ByteArray.empty_append]
        cases m with
        | zero =>
          unfold decGo at hm
          rw [if_neg (by omega)] at hm
          cases hm
        | succ m =>
          unfold decGo at hm
          rw [if_neg (by omega), ampAt_amp b hb] at hm
          have hb0 : b.extract 0 b.size = b := ba_ext (by rw [ba_tail, List.drop_zero])
          rw [hb0] at hm
          obtain ⟨t1, ht1, hm⟩ := Option.bind_eq_some_iff.1 hm
          simp only at hm
          split at hm
          case isFalse => cases hm
          rename_i hr2
          obtain ⟨r2, hr2e, rfl⟩ := Option.map_eq_some_iff.1 hm
          rw [ht1, Option.bind_some]
          simp only
          rw [if_pos hr2, show k + (m + 1) = m + (k + 1) by omega, decGo_le false _ r2 (k + 1) m hr2e]
          have hz0 : (b.extract 0 0).data.toList = [] := by rw [ba_head]; rfl
          rw [hz0]
          have hze : ByteArray.empty.data.toList = [] := rfl
          simp only [Option.map_some, hze, List.append_nil, List.nil_append, List.append_assoc]
set_option maxRecDepth 100000 in
theorem decode_spec (s : ByteArray) (h : s.size ≤ 100000) : ∃ r, charref_Decode.f s false = some ⟨r.toArray⟩ ∧ decGo false (s.size + 1) s = some r ∧ r.length ≤ 200000000 := by
  obtain ⟨r, hr, hl⟩ := decGo_tot false (s.size + 1) s (by omega) (by omega)
  refine ⟨r, ?_, hr, by omega⟩
  unfold charref_Decode.f
  rw [if_pos (by omega), hr, Option.bind_some, if_pos (by omega)]
theorem decode_split (a b da db : ByteArray) (hb : b.size = 0 ∨ Amp b) (hz : a.size + b.size ≤ 100000) (ha : charref_Decode.f a false = some da) (hd : charref_Decode.f b false = some db) : charref_Decode.f (a ++ b) false = some (da ++ db) := by
  rcases hb with h0 | hb
  · have hb := ba_nil h0
    subst hb
    have : db = ByteArray.empty := by
      have e : charref_Decode.f ByteArray.empty false = some ByteArray.empty := by kernel_rfl
      rw [e] at hd
      exact (Option.some.inj hd).symm
    subst this
    rw [ByteArray.append_empty, ByteArray.append_empty]; exact ha
  · have hsz : (a ++ b).size = a.size + b.size := ByteArray.size_append
    obtain ⟨ra, h1, h2, _⟩ := decode_spec a (by omega)
    obtain ⟨rb, h3, h4, _⟩ := decode_spec b (by omega)
    obtain ⟨r, h5, h6, _⟩ := decode_spec (a ++ b) (by omega)
    have hs := decGo_split b hb _ rb h4 _ a ra h2 (by omega)
    have hl := decGo_le false _ r 1 _ h6
    rw [show (a ++ b).size + 1 + 1 = a.size + 1 + (b.size + 1) by omega, hs] at hl
    obtain rfl := Option.some.inj hl
    rw [ha] at h1
    rw [hd] at h3
    obtain rfl := Option.some.inj h1
    obtain rfl := Option.some.inj h3
    rw [h5]
    exact congrArg some (ba_ext (by rw [ba_append]))
end Go.Proofs.YtoacojkmclngmaaGreatDoor.Pz
