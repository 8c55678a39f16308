/- Texts of the session, one behind the other: what the code computes, function by function, and its contracts. -/
import Derived.RangeFuncNested
import Derived.RangeFuncBound
import Derived.RangeFuncCalls
import Derived.RangeFuncLeaves
import Derived.Shelf.Abstract
import Derived.Shelf.RegionOpen
import Derived.WalkKit
import Derived.OwnWalkIn
import Derived.TacticsInMore
import Derived.LoopNIn
import Derived.LoopIn
import Derived.Lib.Strings
import Derived.Maps.OwnIn
import Derived.Maps.AppendAt
import Derived.RangeFuncBox
import Derived.Test.YtoacojkmclngmaaGreatDoorK1
import Derived.Test.YtoacojkmclngmaaGreatDoorK2
import Derived.Test.YtoacojkmclngmaaGreatDoorK3
import Derived.Test.YtoacojkmclngmaaGreatDoorK4
import Derived.Test.YtoacojkmclngmaaGreatDoorK5
import Derived.Test.YtoacojkmclngmaaGreatDoorK6
import Derived.Test.YtoacojkmclngmaaGreatDoorK7
namespace Go.Proofs.YtoacojkmclngmaaGreatDoor.Pz
open Go.RowKit Go.Proofs.YtoacojkmclngmaaGreatDoorW.PrintWords Go.Proofs.YtoacojkmclngmaaGreatDoorW.PrintLast Go.Proofs.YtoacojkmclngmaaGreatDoorW.PrintMore
attribute [local go_sem] max2_int min2_int max_two min_two max_three min_three max_four min_four   -- for this text's walks alone
attribute [local go_sem] rune_str
set_option linter.unusedVariables false
set_option linter.unusedSimpArgs false
abbrev MkRes := Int × ByteArray × ByteArray × (List (S36)) × Bool × ByteArray × Bool
def strip1 (s : ByteArray) : Option ByteArray := (strings_HasSuffix.f s ⟨#[45]⟩).bind fun p => if p = true then strings_TrimSuffix.f s ⟨#[45]⟩ else some s
def strip2 (s : ByteArray) : Option ByteArray := (strings_HasSuffix.f s ⟨#[45, 45]⟩).bind fun p => if p = true then strings_TrimSuffix.f s ⟨#[45, 45]⟩ else strip1 s
def strip3 (s : ByteArray) : Option ByteArray := (strings_HasSuffix.f s ⟨#[45, 45, 33]⟩).bind fun p => if p = true then strings_TrimSuffix.f s ⟨#[45, 45, 33]⟩ else strip2 s
def commentCut (rest : ByteArray) (short : Bool) (at_ n : Int) : Option MkRes :=
  (scan_reader_skip.f rest short at_).bind fun k => (scan_heal.f k.1).bind fun d => (scan_reader_skip.f k.2.1 k.2.2 n).bind fun j => some (4, ⟨#[]⟩, d, [], false, j.2.1, j.2.2)
def commentShort (rest : ByteArray) : Option MkRes :=
  (scan_reader_skip.f rest true rest.size).bind fun k => (strip3 k.1).bind fun s => (scan_heal.f s).bind fun d => some (4, ⟨#[]⟩, d, [], false, k.2.1, k.2.2)
def commentRest (rest : ByteArray) (short : Bool) : Option MkRes :=
  (strings_Index.f rest ⟨#[45, 45, 62]⟩).bind fun one => (strings_Index.f rest ⟨#[45, 45, 33, 62]⟩).bind fun two =>
  if 0 ≤ one ∧ (two < 0 ∨ one < two) then commentCut rest short one 3 else if 0 ≤ two then commentCut rest short two 4 else commentShort rest
def comment1 (rest : ByteArray) (short : Bool) : Option MkRes :=
  (strings_HasPrefix.f rest ⟨#[45, 62]⟩).bind fun p => if p = true then (scan_reader_skip.f rest short 2).bind fun k => some (4, ⟨#[]⟩, ⟨#[]⟩, [], false, k.2.1, k.2.2) else commentRest rest short
def scan_reader_comment.f (s0_0 : ByteArray) (s0_1 : Bool) : Option (Int × ByteArray × ByteArray × (List (S36)) × Bool × ByteArray × Bool) :=
  if s0_0.size ≤ 9223372036854775807 then (strings_HasPrefix.f s0_0 ⟨#[62]⟩).bind fun p => if p = true then (scan_reader_skip.f s0_0 s0_1 1).bind fun k => some (4, ⟨#[]⟩, ⟨#[]⟩, [], false, k.2.1, k.2.2) else comment1 s0_0 s0_1 else none
theorem store5_done {w0 w wr : World} {g : Nat} {rest : ByteArray} {short : Bool} {c0 c1 c2 c3 c4 : Value} (hI : IsS52 w0 wr g rest short) (hB : Below w0.heap.size w0 wr) (hK : KeepBut w wr g none)
    (hR : wr.heap[w.heap.size]? = some (.cells #[c0, c1, c2, c3, c4] 33 (0, 0))) (h1 : g < w.heap.size) (a0 a1 a2 a3 a4 : Value) :
    ∀ W, W = (((((wr.setCell ⟨w.heap.size, 0, none⟩ a0).setCell ⟨w.heap.size, 1, none⟩ a1).setCell ⟨w.heap.size, 2, none⟩ a2).setCell ⟨w.heap.size, 3, none⟩ a3).setCell ⟨w.heap.size, 4, none⟩ a4) →
    W.heap[w.heap.size]? = some (.cells #[a0, a1, a2, a3, a4] 33 (0, 0)) ∧ IsS52 w0 W g rest short ∧ Below w0.heap.size w0 W ∧ KeepBut w W g none ∧
      (∀ base ok va attrs, (∀ k, ok k → k ≠ w.heap.size) → Kd.R k36 36 wr base ok va attrs → Kd.R k36 36 W base ok va attrs) := by
  rintro W rfl
  have hne : g ≠ w.heap.size := by omega
  have hge : w0.heap.size ≤ w.heap.size := Nat.le_of_lt (Nat.lt_of_le_of_lt hI.2 h1)
  exact ⟨blk_put5 hR _ _ _ _ _,
    IsS52.far (p := ⟨w.heap.size, 4, none⟩) (IsS52.far (p := ⟨w.heap.size, 3, none⟩) (IsS52.far (p := ⟨w.heap.size, 2, none⟩) (IsS52.far (p := ⟨w.heap.size, 1, none⟩) (IsS52.far (p := ⟨w.heap.size, 0, none⟩) hI hne a0) hne a1) hne a2) hne a3) hne a4,
    below_set (below_set (below_set (below_set (below_set hB hge) hge) hge) hge) hge,
    keep_far (p := ⟨w.heap.size, 4, none⟩) (keep_far (p := ⟨w.heap.size, 3, none⟩) (keep_far (p := ⟨w.heap.size, 2, none⟩) (keep_far (p := ⟨w.heap.size, 1, none⟩) (keep_far (p := ⟨w.heap.size, 0, none⟩) hK (Nat.le_refl _) a0) (Nat.le_refl _) a1) (Nat.le_refl _) a2) (Nat.le_refl _) a3) (Nat.le_refl _) a4,
    fun base ok va attrs hok hr => Kd.R_far (p := ⟨w.heap.size, 4, none⟩) (Kd.R_far (p := ⟨w.heap.size, 3, none⟩) (Kd.R_far (p := ⟨w.heap.size, 2, none⟩) (Kd.R_far (p := ⟨w.heap.size, 1, none⟩) (Kd.R_far (p := ⟨w.heap.size, 0, none⟩) hr hok a0) hok a1) hok a2) hok a3) hok a4⟩
theorem strings_Index.same (a0 a1 : ByteArray) (r : Int) (w : World) (hG : Glob w) (h : strings_Index.f a0 a1 = some r) : Calls Tryz.prog 97 #[.string a0, .string a1] w fun e w' => e = .returned (.int .i64 r) ∧ w' = w := by
  unfold strings_Index.f at h
  split at h
  case isFalse => cases h
  rename_i hs
  obtain rfl := Option.some.inj h
  obtain ⟨m, hm⟩ := hG.maxLen
  exact Tryz.strings_Index a0 a1 m w hs hm
structure CmAt (w0 w wr : World) (g bt : Nat) (rest : ByteArray) (short : Bool) (data : ByteArray) : Prop where
  I : IsS52 w0 wr g rest short
  B : Below w0.heap.size w0 wr
  K : KeepBut w wr g none
  R : wr.heap[w.heap.size]? = some (.cells #[.int .i64 0, .string ⟨#[]⟩, .string ⟨#[]⟩, .slice none 0 0, .bool false] 33 (0, 0))
  T : wr.heap[bt]? = some (.cells #[.int .i64 4, .string ⟨#[]⟩, .string data, .slice none 0 0, .bool false] 33 (0, 0))
  h1 : g < w.heap.size
  h2 : w.heap.size < bt
theorem CmAt.below {w0 w wr w1 : World} {g bt : Nat} {rest data : ByteArray} {short : Bool} (h : CmAt w0 w wr g bt rest short data) (hb : Below wr.heap.size wr w1) : CmAt w0 w w1 g bt rest short data :=
  ⟨IsS52.below h.I hb, below_weaken h.B h.B.size hb, KeepBut.trans h.K (KeepBut.of_below hb g none) (.inl rfl), (hb.block w.heap.size (blk_lt h.R)).trans h.R, (hb.block bt (blk_lt h.T)).trans h.T, h.h1, h.h2⟩
theorem CmAt.drewN {w0 w wr : World} {g bt : Nat} {rest data : ByteArray} {short : Bool} (h : CmAt w0 w wr g bt rest short data) (n : Nat) : CmAt w0 w (wr.drewN n) g bt rest short data :=
  ⟨IsS52.drewN h.I n, pw_below_drewN h.B n, keep_drewN h.K n, h.R, h.T, h.h1, h.h2⟩
theorem CmAt.keep {w0 w wr w1 : World} {g bt : Nat} {rest rest' data : ByteArray} {short short' : Bool} (h : CmAt w0 w wr g bt rest short data) (hi : IsS52 w0 w1 g rest' short') (hb : Below w0.heap.size w0 w1) (hk : KeepBut wr w1 g none) : CmAt w0 w w1 g bt rest' short' data :=
  have h1 := h.h1; have h2 := h.h2
  ⟨hi, hb, KeepBut.trans h.K hk (.inl rfl), (hk.2 w.heap.size (blk_lt h.R) (by omega) (by simp)).trans h.R, (hk.2 bt (blk_lt h.T) (by omega) (by simp)).trans h.T, h.h1, h.h2⟩
theorem CmAt.setShort {w0 w wr : World} {g bt : Nat} {rest data : ByteArray} {short : Bool} (h : CmAt w0 w wr g bt rest short data) (x : Bool) : CmAt w0 w (wr.setCell ⟨g, 1, none⟩ (.bool x)) g bt rest x data :=
  have h1 := h.h1; have h2 := h.h2
  ⟨IsS52.set_1 h.I x, below_set h.B h.I.2, KeepBut.set_ h.K _ _, blk_far (p := ⟨g, 1, none⟩) h.R (show w.heap.size ≠ g by omega) _, blk_far (p := ⟨g, 1, none⟩) h.T (show bt ≠ g by omega) _, h.h1, h.h2⟩
theorem CmAt.setData {w0 w wr : World} {g bt : Nat} {rest data : ByteArray} {short : Bool} (h : CmAt w0 w wr g bt rest short data) (d : ByteArray) : CmAt w0 w (wr.setCell ⟨bt, 2, none⟩ (.string d)) g bt rest short d :=
  have h1 := h.h1; have h2 := h.h2; have hge : w0.heap.size ≤ bt := by have := h.I.2; omega
  ⟨IsS52.far (p := ⟨bt, 2, none⟩) h.I (show g ≠ bt by omega) _, below_set h.B hge, keep_far (p := ⟨bt, 2, none⟩) h.K (show w.heap.size ≤ bt by omega) _, blk_far (p := ⟨bt, 2, none⟩) h.R (show w.heap.size ≠ bt by omega) _, blk_put h.T 2 _ rfl, h.h1, h.h2⟩
theorem CmAt.cells {w0 w wr : World} {g bt : Nat} {rest data : ByteArray} {short : Bool} (h : CmAt w0 w wr g bt rest short data) :
    wr.cell? ⟨g, 0, none⟩ = some (.string rest) ∧ wr.cell? ⟨g, 1, none⟩ = some (.bool short) ∧ wr.frozen? ⟨g, 1, none⟩ = false ∧
    wr.cell? ⟨bt, 0, none⟩ = some (.int .i64 4) ∧ wr.cell? ⟨bt, 1, none⟩ = some (.string ⟨#[]⟩) ∧ wr.cell? ⟨bt, 2, none⟩ = some (.string data) ∧ wr.cell? ⟨bt, 3, none⟩ = some (.slice none 0 0) ∧ wr.cell? ⟨bt, 4, none⟩ = some (.bool false) ∧ wr.frozen? ⟨bt, 2, none⟩ = false ∧
    wr.cell? ⟨w.heap.size, 0, none⟩ = some (.int .i64 0) ∧ wr.cell? ⟨w.heap.size, 1, none⟩ = some (.string ⟨#[]⟩) ∧ wr.cell? ⟨w.heap.size, 2, none⟩ = some (.string ⟨#[]⟩) ∧ wr.cell? ⟨w.heap.size, 3, none⟩ = some (.slice none 0 0) ∧ wr.cell? ⟨w.heap.size, 4, none⟩ = some (.bool false) ∧
    wr.frozen? ⟨w.heap.size, 0, none⟩ = false ∧ wr.frozen? ⟨w.heap.size, 1, none⟩ = false ∧ wr.frozen? ⟨w.heap.size, 2, none⟩ = false ∧ wr.frozen? ⟨w.heap.size, 3, none⟩ = false ∧ wr.frozen? ⟨w.heap.size, 4, none⟩ = false :=
  ⟨(blk_cell h.I.1 0).trans rfl, (blk_cell h.I.1 1).trans rfl, blk_frozen h.I.1 1, (blk_cell h.T 0).trans rfl, (blk_cell h.T 1).trans rfl, (blk_cell h.T 2).trans rfl, (blk_cell h.T 3).trans rfl, (blk_cell h.T 4).trans rfl, blk_frozen h.T 2, (blk_cell h.R 0).trans rfl, (blk_cell h.R 1).trans rfl, (blk_cell h.R 2).trans rfl, (blk_cell h.R 3).trans rfl, (blk_cell h.R 4).trans rfl, blk_frozen h.R 0, blk_frozen h.R 1, blk_frozen h.R 2, blk_frozen h.R 3, blk_frozen h.R 4⟩
set_option maxHeartbeats 8000000 in
set_option maxRecDepth 100000 in
theorem scan_reader_comment.calls (g : Nat) (s0_0 : ByteArray) (s0_1 : Bool) (r1 : Int) (r2 : ByteArray) (r3 : ByteArray) (r4 : List (S36)) (r5 : Bool) (r6 : ByteArray) (r7 : Bool) (w0 w : World) (hI : IsS52 w0 w g s0_0 s0_1) (hB : Below w0.heap.size w0 w) (hG : Glob w0) (h : scan_reader_comment.f s0_0 s0_1 = some (r1, r2, r3, r4, r5, r6, r7)) :
    Calls Tryz.prog 113 #[.pointer (some ⟨g, 0, none⟩)] w fun e w' => ∃ v3_ : Value, e = .returned (.agg #[.int .i64 r1, .string r2, .string r3, v3_, .bool r5]) ∧ Kd.R k36 36 w' w.heap.size (fun _ => True) v3_ r4 ∧ IsS52 w0 w' g r6 r7 ∧ Below w0.heap.size w0 w' ∧ KeepBut w w' g none := by
  have hu33 := Tryz.underlying33
  have hia0 : ∀ W, (Instr.index 146 (.agg #[.string ⟨#[62]⟩, .string ⟨#[45, 62]⟩]) (.int .i64 0)).run Tryz.prog W = .ok (.string ⟨#[62]⟩) W := fun W => by kernel_rfl
  have hia1 : ∀ W, (Instr.index 146 (.agg #[.string ⟨#[62]⟩, .string ⟨#[45, 62]⟩]) (.int .i64 1)).run Tryz.prog W = .ok (.string ⟨#[45, 62]⟩) W := fun W => by kernel_rfl
  have hib0 : ∀ W, (Instr.index 147 (.agg #[.string ⟨#[45, 45, 33]⟩, .string ⟨#[45, 45]⟩, .string ⟨#[45]⟩]) (.int .i64 0)).run Tryz.prog W = .ok (.string ⟨#[45, 45, 33]⟩) W := fun W => by kernel_rfl
  have hib1 : ∀ W, (Instr.index 147 (.agg #[.string ⟨#[45, 45, 33]⟩, .string ⟨#[45, 45]⟩, .string ⟨#[45]⟩]) (.int .i64 1)).run Tryz.prog W = .ok (.string ⟨#[45, 45]⟩) W := fun W => by kernel_rfl
  have hib2 : ∀ W, (Instr.index 147 (.agg #[.string ⟨#[45, 45, 33]⟩, .string ⟨#[45, 45]⟩, .string ⟨#[45]⟩]) (.int .i64 2)).run Tryz.prog W = .ok (.string ⟨#[45]⟩) W := fun W => by kernel_rfl
  unfold scan_reader_comment.f at h
  split at h
  case isFalse => cases h
  rename_i hsz
  have HF := Aside0.mk h
  clear h
  have hgl := IsS52.lt hI
  obtain ⟨bt, hbt⟩ : ∃ bt, bt = w.heap.size + 1 := ⟨_, rfl⟩
  obtain ⟨W1, hW1⟩ : ∃ W1, W1 = (w.alloc (Obj.cells #[.int .i64 0, .string ⟨#[]⟩, .string ⟨#[]⟩, .slice none 0 0, .bool false] 33)).alloc (Obj.cells #[.int .i64 4, .string ⟨#[]⟩, .string ⟨#[]⟩, .slice none 0 0, .bool false] 33) := ⟨_, rfl⟩
  have hs1 : (w.alloc (Obj.cells #[.int .i64 0, .string ⟨#[]⟩, .string ⟨#[]⟩, .slice none 0 0, .bool false] 33)).heap.size = w.heap.size + 1 := by show (w.heap.push _).size = _; exact Array.size_push _
  have M1 := Aside0.mk (show CmAt w0 w W1 g bt s0_0 s0_1 ⟨#[]⟩ from by
    rw [hW1, hbt]
    exact ⟨IsS52.alloc (IsS52.alloc hI _) _, below_alloc (below_alloc hB _) _, keep_alloc (keep_alloc (KeepBut.refl w g none) _) _, blk_alloc (heap_alloc_new w _) _, by have := heap_alloc_new (w.alloc (Obj.cells #[.int .i64 0, .string ⟨#[]⟩, .string ⟨#[]⟩, .slice none 0 0, .bool false] 33)) (Obj.cells #[.int .i64 4, .string ⟨#[]⟩, .string ⟨#[]⟩, .slice none 0 0, .bool false] 33); rw [hs1] at this; exact this, hgl, by omega⟩)
  have HG0 := Aside0.mk hG
  clear hI hB hG
  go_enter Tryz.func113, Tryz.ntmps113
  go_upto_block 0 with (fail)
  rw [← hW1, ← hbt]
  clear hW1 hbt hs1
  go_wp2
  go_loopg [13] 2 (fun kq v13 wr => kq ≤ 2 ∧ ((kq = 2 → v13 = .int .i64 0) ∧ (kq = 1 → v13 = .int .i64 1) ∧ (kq = 0 → v13 = .int .i64 2)) ∧ (kq = 2 → Aside0 (((strings_HasPrefix.f s0_0 ⟨#[62]⟩).bind fun p => if p = true then (scan_reader_skip.f s0_0 s0_1 1).bind fun k => some (4, ⟨#[]⟩, ⟨#[]⟩, [], false, k.2.1, k.2.2) else comment1 s0_0 s0_1) = some (r1, r2, r3, r4, r5, r6, r7))) ∧ (kq = 1 → Aside0 (comment1 s0_0 s0_1 = some (r1, r2, r3, r4, r5, r6, r7))) ∧ (kq = 0 → Aside0 (commentRest s0_0 s0_1 = some (r1, r2, r3, r4, r5, r6, r7))) ∧ Aside0 (CmAt w0 w wr g bt s0_0 s0_1 ⟨#[]⟩))
  case atStart => exact ⟨Nat.le_refl _, ⟨fun _ => rfl, fun h => absurd h (by decide), fun h => absurd h (by decide)⟩, fun _ => HF, fun h => absurd h (by decide), fun h => absurd h (by decide), M1⟩
  case round =>
    obtain ⟨hkq, ⟨e2, e1, e0⟩, hA, hB, hC, M2⟩ := hrel
    obtain ⟨wo, hwo⟩ : ∃ wo, wo = wr := ⟨_, rfl⟩
    subst hwo
    obtain ⟨cz0, cz1, fz1, ct0, ct1, ct2, ct3, ct4, ft2, cr0, cr1, cr2, cr3, cr4, fr0, fr1, fr2, fr3, fr4⟩ := M2.out.cells
    rcases (show gk = 2 ∨ gk = 1 ∨ gk = 0 by omega) with rfl | rfl | rfl
    · obtain rfl := e2 rfl
      clear e0 e1 e2
      have h := (hA rfl).out
      clear hA hB hC HF
      replace h := Option.bind_eq_some_iff.1 h
      obtain ⟨p, hx, h⟩ := h
      have HP := Aside0.mk hx
      clear hx
      cases p with
      | true =>
        rw [if_pos rfl] at h
        replace h := Option.bind_eq_some_iff.1 h
        obtain ⟨⟨k0, k1, k2⟩, hx, h⟩ := h
        have HSK := Aside0.mk hx
        clear hx
        simp only [Option.some.injEq, Prod.mk.injEq] at h
        obtain ⟨rfl, rfl, rfl, rfl, rfl, rfl, rfl⟩ := h
        go_wp2_with (first | (go_at_call 63; (with_reducible refine (strings_HasPrefix.calls s0_0 (⟨#[62]⟩ : ByteArray) true _ HP.out).mono ?_); rintro e w3 ⟨rfl, hd⟩; have M3 := Aside0.mk (M2.out.below hd.below); clear hd; obtain ⟨cz0, cz1, fz1, ct0, ct1, ct2, ct3, ct4, ft2, cr0, cr1, cr2, cr3, cr4, fr0, fr1, fr2, fr3, fr4⟩ := M3.out.cells) | (go_at_call 79; (with_reducible refine (scan_reader_skip.calls g s0_0 s0_1 1 k0 k1 k2 w0 _ M3.out.I M3.out.B HSK.out).mono ?_); rintro e w4 ⟨rfl, hi, hb, hk⟩; have M4 := Aside0.mk (M3.out.keep hi hb hk); clear hi hb hk; obtain ⟨cz0, cz1, fz1, ct0, ct1, ct2, ct3, ct4, ft2, cr0, cr1, cr2, cr3, cr4, fr0, fr1, fr2, fr3, fr4⟩ := M4.out.cells))
        refine bodyPost_ret (results_cell_row rfl _ _ w.heap.size 33 #[.int .i64 4, .string ⟨#[]⟩, .string ⟨#[]⟩, .slice none 0 0, .bool false] (0, 0) _ rfl ((store5_done M4.out.I M4.out.B M4.out.K M4.out.R hgl (.int .i64 4) (.string ⟨#[]⟩) (.string ⟨#[]⟩) (.slice none 0 0) (.bool false) _ rfl).1) hu33 rfl (by kernel_rfl)) rfl ?_
        obtain ⟨-, d2, d3, d4, d5⟩ := store5_done M4.out.I M4.out.B M4.out.K M4.out.R hgl (.int .i64 4) (.string ⟨#[]⟩) (.string ⟨#[]⟩) (.slice none 0 0) (.bool false) _ rfl
        exact ⟨_, rfl, Kd.R_nil _ _ _ _ _, d2, d3, d4⟩
      | false =>
        rw [if_neg (by simp)] at h
        have HR := Aside0.mk h
        clear h
        go_wp2_with (first | (go_at_call 63; (with_reducible refine (strings_HasPrefix.calls s0_0 (⟨#[62]⟩ : ByteArray) false _ HP.out).mono ?_); rintro e w3 ⟨rfl, hd⟩; have M3 := Aside0.mk (M2.out.below hd.below); clear hd; obtain ⟨cz0, cz1, fz1, ct0, ct1, ct2, ct3, ct4, ft2, cr0, cr1, cr2, cr3, cr4, fr0, fr1, fr2, fr3, fr4⟩ := M3.out.cells))
        go_roundg 1
        case measure => omega
        case rel => exact ⟨by omega, ⟨fun h => absurd h (by decide), fun _ => by go_num, fun h => absurd h (by decide)⟩, fun h => absurd h (by decide), fun _ => HR, fun h => absurd h (by decide), M3⟩
    · obtain rfl := e1 rfl
      clear e0 e1 e2
      have h := (hB rfl).out
      unfold comment1 at h
      clear hA hB hC HF
      replace h := Option.bind_eq_some_iff.1 h
      obtain ⟨p, hx, h⟩ := h
      have HP := Aside0.mk hx
      clear hx
      cases p with
      | true =>
        rw [if_pos rfl] at h
        replace h := Option.bind_eq_some_iff.1 h
        obtain ⟨⟨k0, k1, k2⟩, hx, h⟩ := h
        have HSK := Aside0.mk hx
        clear hx
        simp only [Option.some.injEq, Prod.mk.injEq] at h
        obtain ⟨rfl, rfl, rfl, rfl, rfl, rfl, rfl⟩ := h
        go_wp2_with (first | (go_at_call 63; (with_reducible refine (strings_HasPrefix.calls s0_0 (⟨#[45, 62]⟩ : ByteArray) true _ HP.out).mono ?_); rintro e w3 ⟨rfl, hd⟩; have M3 := Aside0.mk (M2.out.below hd.below); clear hd; obtain ⟨cz0, cz1, fz1, ct0, ct1, ct2, ct3, ct4, ft2, cr0, cr1, cr2, cr3, cr4, fr0, fr1, fr2, fr3, fr4⟩ := M3.out.cells) | (go_at_call 79; (with_reducible refine (scan_reader_skip.calls g s0_0 s0_1 2 k0 k1 k2 w0 _ M3.out.I M3.out.B HSK.out).mono ?_); rintro e w4 ⟨rfl, hi, hb, hk⟩; have M4 := Aside0.mk (M3.out.keep hi hb hk); clear hi hb hk; obtain ⟨cz0, cz1, fz1, ct0, ct1, ct2, ct3, ct4, ft2, cr0, cr1, cr2, cr3, cr4, fr0, fr1, fr2, fr3, fr4⟩ := M4.out.cells))
        refine bodyPost_ret (results_cell_row rfl _ _ w.heap.size 33 #[.int .i64 4, .string ⟨#[]⟩, .string ⟨#[]⟩, .slice none 0 0, .bool false] (0, 0) _ rfl ((store5_done M4.out.I M4.out.B M4.out.K M4.out.R hgl (.int .i64 4) (.string ⟨#[]⟩) (.string ⟨#[]⟩) (.slice none 0 0) (.bool false) _ rfl).1) hu33 rfl (by kernel_rfl)) rfl ?_
        obtain ⟨-, d2, d3, d4, d5⟩ := store5_done M4.out.I M4.out.B M4.out.K M4.out.R hgl (.int .i64 4) (.string ⟨#[]⟩) (.string ⟨#[]⟩) (.slice none 0 0) (.bool false) _ rfl
        exact ⟨_, rfl, Kd.R_nil _ _ _ _ _, d2, d3, d4⟩
      | false =>
        rw [if_neg (by simp)] at h
        have HR := Aside0.mk h
        clear h
        go_wp2_with (first | (go_at_call 63; (with_reducible refine (strings_HasPrefix.calls s0_0 (⟨#[45, 62]⟩ : ByteArray) false _ HP.out).mono ?_); rintro e w3 ⟨rfl, hd⟩; have M3 := Aside0.mk (M2.out.below hd.below); clear hd; obtain ⟨cz0, cz1, fz1, ct0, ct1, ct2, ct3, ct4, ft2, cr0, cr1, cr2, cr3, cr4, fr0, fr1, fr2, fr3, fr4⟩ := M3.out.cells))
        go_roundg 0
        case measure => omega
        case rel => exact ⟨by omega, ⟨fun h => absurd h (by decide), fun h => absurd h (by decide), fun _ => by go_num⟩, fun h => absurd h (by decide), fun h => absurd h (by decide), fun _ => HR, M3⟩
    · obtain rfl := e0 rfl
      clear e0 e1 e2
      have h := (hC rfl).out
      clear hA hB hC HF
      unfold commentRest at h
      replace h := Option.bind_eq_some_iff.1 h
      obtain ⟨one, hx, h⟩ := h
      have H1 := Aside0.mk hx
      clear hx
      replace h := Option.bind_eq_some_iff.1 h
      obtain ⟨two, hx, h⟩ := h
      have H2 := Aside0.mk hx
      clear hx
      have HQ1 : ∀ n, Calls Tryz.prog 97 #[.string s0_0, .string ⟨#[45, 45, 62]⟩] (wo.drewN n) fun e w' => e = .returned (.int .i64 one) ∧ w' = wo.drewN n := fun n => strings_Index.same _ _ _ _ (HG0.out.below (pw_below_drewN M2.out.B n)) H1.out
      have HQ2 : ∀ n, Calls Tryz.prog 97 #[.string s0_0, .string ⟨#[45, 45, 33, 62]⟩] (wo.drewN n) fun e w' => e = .returned (.int .i64 two) ∧ w' = wo.drewN n := fun n => strings_Index.same _ _ _ _ (HG0.out.below (pw_below_drewN M2.out.B n)) H2.out
      have HQ1 := Aside0.mk HQ1
      have HQ2 := Aside0.mk HQ2
      by_cases hc : 0 ≤ one ∧ (two < 0 ∨ one < two)
      · rw [if_pos hc] at h
        unfold commentCut at h
        replace h := Option.bind_eq_some_iff.1 h
        obtain ⟨⟨k0, k1, k2⟩, hx, h⟩ := h
        have HSK := Aside0.mk hx
        clear hx
        replace h := Option.bind_eq_some_iff.1 h
        obtain ⟨d, hx, h⟩ := h
        have HD := Aside0.mk hx
        clear hx
        replace h := Option.bind_eq_some_iff.1 h
        obtain ⟨⟨j0, j1, j2⟩, hx, h⟩ := h
        have HSJ := Aside0.mk (show scan_reader_skip.f k1 k2 3 = some (j0, j1, j2) from hx)
        clear hx
        simp only [Option.some.injEq, Prod.mk.injEq] at h
        obtain ⟨rfl, rfl, rfl, rfl, rfl, rfl, rfl⟩ := h
        rcases hc with ⟨hc1, hc2 | hc2⟩
        · go_upto_region 9 with (fail)
          go_quiet (first | (go_at_call 97; with_reducible refine Calls.quiet_of_same (HQ1.out _)) | (go_at_call 97; with_reducible refine Calls.quiet_of_same (HQ2.out _)))
          have M4 := Aside0.mk (M2.out.drewN nq)
          obtain ⟨cz0, cz1, fz1, ct0, ct1, ct2, ct3, ct4, ft2, cr0, cr1, cr2, cr3, cr4, fr0, fr1, fr2, fr3, fr4⟩ := M4.out.cells
          go_wp2_with (first | (go_at_call 79; (with_reducible refine (scan_reader_skip.calls g s0_0 s0_1 one k0 k1 k2 w0 _ M4.out.I M4.out.B HSK.out).mono ?_); rintro e w5 ⟨rfl, hi, hb, hk⟩; have M5 := Aside0.mk (M4.out.keep hi hb hk); clear hi hb hk; obtain ⟨cz0, cz1, fz1, ct0, ct1, ct2, ct3, ct4, ft2, cr0, cr1, cr2, cr3, cr4, fr0, fr1, fr2, fr3, fr4⟩ := M5.out.cells) | (go_at_call 109; (with_reducible refine (scan_heal.calls k0 d _ (HG0.out.below M5.out.B) HD.out).mono ?_); rintro e w6 ⟨rfl, hb⟩; have M6 := Aside0.mk ((M5.out.below hb).setData d); obtain ⟨cz0, cz1, fz1, ct0, ct1, ct2, ct3, ct4, ft2, cr0, cr1, cr2, cr3, cr4, fr0, fr1, fr2, fr3, fr4⟩ := M6.out.cells; have M6b := Aside0.mk (M5.out.below hb); clear hb; obtain ⟨_, _, _, _, _, _, _, _, ft2, _⟩ := M6b.out.cells) | (go_at_call 79; (with_reducible refine (scan_reader_skip.calls g k1 k2 3 j0 j1 j2 w0 _ M6.out.I M6.out.B HSJ.out).mono ?_); rintro e w7 ⟨rfl, hi, hb, hk⟩; have M7 := Aside0.mk (M6.out.keep hi hb hk); clear hi hb hk; obtain ⟨cz0, cz1, fz1, ct0, ct1, ct2, ct3, ct4, ft2, cr0, cr1, cr2, cr3, cr4, fr0, fr1, fr2, fr3, fr4⟩ := M7.out.cells))
          refine bodyPost_ret (results_cell_row rfl _ _ w.heap.size 33 #[.int .i64 4, .string ⟨#[]⟩, .string d, .slice none 0 0, .bool false] (0, 0) _ rfl ((store5_done M7.out.I M7.out.B M7.out.K M7.out.R hgl (.int .i64 4) (.string ⟨#[]⟩) (.string d) (.slice none 0 0) (.bool false) _ rfl).1) hu33 rfl (by kernel_rfl)) rfl ?_
          obtain ⟨-, d2, d3, d4, d5⟩ := store5_done M7.out.I M7.out.B M7.out.K M7.out.R hgl (.int .i64 4) (.string ⟨#[]⟩) (.string d) (.slice none 0 0) (.bool false) _ rfl
          exact ⟨_, rfl, Kd.R_nil _ _ _ _ _, d2, d3, d4⟩
        · have hc3 : ¬ two < 0 := by omega
          go_upto_region 9 with (fail)
          go_quiet (first | (go_at_call 97; with_reducible refine Calls.quiet_of_same (HQ1.out _)) | (go_at_call 97; with_reducible refine Calls.quiet_of_same (HQ2.out _)))
          have M4 := Aside0.mk (M2.out.drewN nq)
          obtain ⟨cz0, cz1, fz1, ct0, ct1, ct2, ct3, ct4, ft2, cr0, cr1, cr2, cr3, cr4, fr0, fr1, fr2, fr3, fr4⟩ := M4.out.cells
          go_wp2_with (first | (go_at_call 79; (with_reducible refine (scan_reader_skip.calls g s0_0 s0_1 one k0 k1 k2 w0 _ M4.out.I M4.out.B HSK.out).mono ?_); rintro e w5 ⟨rfl, hi, hb, hk⟩; have M5 := Aside0.mk (M4.out.keep hi hb hk); clear hi hb hk; obtain ⟨cz0, cz1, fz1, ct0, ct1, ct2, ct3, ct4, ft2, cr0, cr1, cr2, cr3, cr4, fr0, fr1, fr2, fr3, fr4⟩ := M5.out.cells) | (go_at_call 109; (with_reducible refine (scan_heal.calls k0 d _ (HG0.out.below M5.out.B) HD.out).mono ?_); rintro e w6 ⟨rfl, hb⟩; have M6 := Aside0.mk ((M5.out.below hb).setData d); obtain ⟨cz0, cz1, fz1, ct0, ct1, ct2, ct3, ct4, ft2, cr0, cr1, cr2, cr3, cr4, fr0, fr1, fr2, fr3, fr4⟩ := M6.out.cells; have M6b := Aside0.mk (M5.out.below hb); clear hb; obtain ⟨_, _, _, _, _, _, _, _, ft2, _⟩ := M6b.out.cells) | (go_at_call 79; (with_reducible refine (scan_reader_skip.calls g k1 k2 3 j0 j1 j2 w0 _ M6.out.I M6.out.B HSJ.out).mono ?_); rintro e w7 ⟨rfl, hi, hb, hk⟩; have M7 := Aside0.mk (M6.out.keep hi hb hk); clear hi hb hk; obtain ⟨cz0, cz1, fz1, ct0, ct1, ct2, ct3, ct4, ft2, cr0, cr1, cr2, cr3, cr4, fr0, fr1, fr2, fr3, fr4⟩ := M7.out.cells))
          refine bodyPost_ret (results_cell_row rfl _ _ w.heap.size 33 #[.int .i64 4, .string ⟨#[]⟩, .string d, .slice none 0 0, .bool false] (0, 0) _ rfl ((store5_done M7.out.I M7.out.B M7.out.K M7.out.R hgl (.int .i64 4) (.string ⟨#[]⟩) (.string d) (.slice none 0 0) (.bool false) _ rfl).1) hu33 rfl (by kernel_rfl)) rfl ?_
          obtain ⟨-, d2, d3, d4, d5⟩ := store5_done M7.out.I M7.out.B M7.out.K M7.out.R hgl (.int .i64 4) (.string ⟨#[]⟩) (.string d) (.slice none 0 0) (.bool false) _ rfl
          exact ⟨_, rfl, Kd.R_nil _ _ _ _ _, d2, d3, d4⟩
      · rw [if_neg hc] at h
        by_cases hd : 0 ≤ two
        · rw [if_pos hd] at h
          unfold commentCut at h
          replace h := Option.bind_eq_some_iff.1 h
          obtain ⟨⟨k0, k1, k2⟩, hx, h⟩ := h
          have HSK := Aside0.mk hx
          clear hx
          replace h := Option.bind_eq_some_iff.1 h
          obtain ⟨d, hx, h⟩ := h
          have HD := Aside0.mk hx
          clear hx
          replace h := Option.bind_eq_some_iff.1 h
          obtain ⟨⟨j0, j1, j2⟩, hx, h⟩ := h
          have HSJ := Aside0.mk (show scan_reader_skip.f k1 k2 4 = some (j0, j1, j2) from hx)
          clear hx
          simp only [Option.some.injEq, Prod.mk.injEq] at h
          obtain ⟨rfl, rfl, rfl, rfl, rfl, rfl, rfl⟩ := h
          have hnt : ¬ two < 0 := by omega
          by_cases ho : 0 ≤ one
          · have hlt : ¬ one < two := by omega
            clear hc
            go_upto_region 9 with (fail)
            go_quiet (first | (go_at_call 97; with_reducible refine Calls.quiet_of_same (HQ1.out _)) | (go_at_call 97; with_reducible refine Calls.quiet_of_same (HQ2.out _)))
            have M4 := Aside0.mk (M2.out.drewN nq)
            obtain ⟨cz0, cz1, fz1, ct0, ct1, ct2, ct3, ct4, ft2, cr0, cr1, cr2, cr3, cr4, fr0, fr1, fr2, fr3, fr4⟩ := M4.out.cells
            go_wp2_with (first | (go_at_call 79; (with_reducible refine (scan_reader_skip.calls g s0_0 s0_1 two k0 k1 k2 w0 _ M4.out.I M4.out.B HSK.out).mono ?_); rintro e w5 ⟨rfl, hi, hb, hk⟩; have M5 := Aside0.mk (M4.out.keep hi hb hk); clear hi hb hk; obtain ⟨cz0, cz1, fz1, ct0, ct1, ct2, ct3, ct4, ft2, cr0, cr1, cr2, cr3, cr4, fr0, fr1, fr2, fr3, fr4⟩ := M5.out.cells) | (go_at_call 109; (with_reducible refine (scan_heal.calls k0 d _ (HG0.out.below M5.out.B) HD.out).mono ?_); rintro e w6 ⟨rfl, hb⟩; have M6 := Aside0.mk ((M5.out.below hb).setData d); obtain ⟨cz0, cz1, fz1, ct0, ct1, ct2, ct3, ct4, ft2, cr0, cr1, cr2, cr3, cr4, fr0, fr1, fr2, fr3, fr4⟩ := M6.out.cells; have M6b := Aside0.mk (M5.out.below hb); clear hb; obtain ⟨_, _, _, _, _, _, _, _, ft2, _⟩ := M6b.out.cells) | (go_at_call 79; (with_reducible refine (scan_reader_skip.calls g k1 k2 4 j0 j1 j2 w0 _ M6.out.I M6.out.B HSJ.out).mono ?_); rintro e w7 ⟨rfl, hi, hb, hk⟩; have M7 := Aside0.mk (M6.out.keep hi hb hk); clear hi hb hk; obtain ⟨cz0, cz1, fz1, ct0, ct1, ct2, ct3, ct4, ft2, cr0, cr1, cr2, cr3, cr4, fr0, fr1, fr2, fr3, fr4⟩ := M7.out.cells))
            refine bodyPost_ret (results_cell_row rfl _ _ w.heap.size 33 #[.int .i64 4, .string ⟨#[]⟩, .string d, .slice none 0 0, .bool false] (0, 0) _ rfl ((store5_done M7.out.I M7.out.B M7.out.K M7.out.R hgl (.int .i64 4) (.string ⟨#[]⟩) (.string d) (.slice none 0 0) (.bool false) _ rfl).1) hu33 rfl (by kernel_rfl)) rfl ?_
            obtain ⟨-, d2, d3, d4, d5⟩ := store5_done M7.out.I M7.out.B M7.out.K M7.out.R hgl (.int .i64 4) (.string ⟨#[]⟩) (.string d) (.slice none 0 0) (.bool false) _ rfl
            exact ⟨_, rfl, Kd.R_nil _ _ _ _ _, d2, d3, d4⟩
          · clear hc
            go_upto_region 9 with (fail)
            go_quiet (first | (go_at_call 97; with_reducible refine Calls.quiet_of_same (HQ1.out _)) | (go_at_call 97; with_reducible refine Calls.quiet_of_same (HQ2.out _)))
            have M4 := Aside0.mk (M2.out.drewN nq)
            obtain ⟨cz0, cz1, fz1, ct0, ct1, ct2, ct3, ct4, ft2, cr0, cr1, cr2, cr3, cr4, fr0, fr1, fr2, fr3, fr4⟩ := M4.out.cells
            go_wp2_with (first | (go_at_call 79; (with_reducible refine (scan_reader_skip.calls g s0_0 s0_1 two k0 k1 k2 w0 _ M4.out.I M4.out.B HSK.out).mono ?_); rintro e w5 ⟨rfl, hi, hb, hk⟩; have M5 := Aside0.mk (M4.out.keep hi hb hk); clear hi hb hk; obtain ⟨cz0, cz1, fz1, ct0, ct1, ct2, ct3, ct4, ft2, cr0, cr1, cr2, cr3, cr4, fr0, fr1, fr2, fr3, fr4⟩ := M5.out.cells) | (go_at_call 109; (with_reducible refine (scan_heal.calls k0 d _ (HG0.out.below M5.out.B) HD.out).mono ?_); rintro e w6 ⟨rfl, hb⟩; have M6 := Aside0.mk ((M5.out.below hb).setData d); obtain ⟨cz0, cz1, fz1, ct0, ct1, ct2, ct3, ct4, ft2, cr0, cr1, cr2, cr3, cr4, fr0, fr1, fr2, fr3, fr4⟩ := M6.out.cells; have M6b := Aside0.mk (M5.out.below hb); clear hb; obtain ⟨_, _, _, _, _, _, _, _, ft2, _⟩ := M6b.out.cells) | (go_at_call 79; (with_reducible refine (scan_reader_skip.calls g k1 k2 4 j0 j1 j2 w0 _ M6.out.I M6.out.B HSJ.out).mono ?_); rintro e w7 ⟨rfl, hi, hb, hk⟩; have M7 := Aside0.mk (M6.out.keep hi hb hk); clear hi hb hk; obtain ⟨cz0, cz1, fz1, ct0, ct1, ct2, ct3, ct4, ft2, cr0, cr1, cr2, cr3, cr4, fr0, fr1, fr2, fr3, fr4⟩ := M7.out.cells))
            refine bodyPost_ret (results_cell_row rfl _ _ w.heap.size 33 #[.int .i64 4, .string ⟨#[]⟩, .string d, .slice none 0 0, .bool false] (0, 0) _ rfl ((store5_done M7.out.I M7.out.B M7.out.K M7.out.R hgl (.int .i64 4) (.string ⟨#[]⟩) (.string d) (.slice none 0 0) (.bool false) _ rfl).1) hu33 rfl (by kernel_rfl)) rfl ?_
            obtain ⟨-, d2, d3, d4, d5⟩ := store5_done M7.out.I M7.out.B M7.out.K M7.out.R hgl (.int .i64 4) (.string ⟨#[]⟩) (.string d) (.slice none 0 0) (.bool false) _ rfl
            exact ⟨_, rfl, Kd.R_nil _ _ _ _ _, d2, d3, d4⟩
        · rw [if_neg hd] at h
          have ho : ¬ 0 ≤ one := by omega
          clear hc
          unfold commentShort at h
          replace h := Option.bind_eq_some_iff.1 h
          obtain ⟨⟨k0, k1, k2⟩, hx, h⟩ := h
          have HSK := Aside0.mk (show scan_reader_skip.f s0_0 true s0_0.size = some (k0, k1, k2) from hx)
          clear hx
          replace h := Option.bind_eq_some_iff.1 h
          obtain ⟨sx, hx, h⟩ := h
          have HST := Aside0.mk hx
          clear hx
          replace h := Option.bind_eq_some_iff.1 h
          obtain ⟨d, hx, h⟩ := h
          have HD := Aside0.mk hx
          clear hx
          simp only [Option.some.injEq, Prod.mk.injEq] at h
          obtain ⟨rfl, rfl, rfl, rfl, rfl, rfl, rfl⟩ := h
          have HM5 : ∀ wx, CmAt w0 w wx g bt s0_0 s0_1 ⟨#[]⟩ → CmAt w0 w (wx.setCell ⟨g, 1, none⟩ (.bool true)) g bt s0_0 true ⟨#[]⟩ := fun wx hx => hx.setShort true
          clear HM5
          go_upto_region 9 with (fail)
          go_quiet (first | (go_at_call 97; with_reducible refine Calls.quiet_of_same (HQ1.out _)) | (go_at_call 97; with_reducible refine Calls.quiet_of_same (HQ2.out _)))
          have M4 := Aside0.mk (M2.out.drewN nq)
          obtain ⟨cz0, cz1, fz1, ct0, ct1, ct2, ct3, ct4, ft2, cr0, cr1, cr2, cr3, cr4, fr0, fr1, fr2, fr3, fr4⟩ := M4.out.cells
          have M5 := Aside0.mk (M4.out.setShort true)
          obtain ⟨cz0, cz1, fz1, ct0, ct1, ct2, ct3, ct4, ft2, cr0, cr1, cr2, cr3, cr4, fr0, fr1, fr2, fr3, fr4⟩ := M5.out.cells
          obtain ⟨cz0, cz1, fz1, ct0, ct1, ct2, ct3, ct4, ft2, cr0, cr1, cr2, cr3, cr4, fr0, fr1, fr2, fr3, fr4⟩ := M4.out.cells
          go_upto_block 3 with (first | (go_at_call 79; (with_reducible refine (scan_reader_skip.calls g s0_0 true s0_0.size k0 k1 k2 w0 _ M5.out.I M5.out.B HSK.out).mono ?_); rintro e w6 ⟨rfl, hi, hb, hk⟩; have M6 := Aside0.mk (M5.out.keep hi hb hk); clear hi hb hk; obtain ⟨cz0, cz1, fz1, ct0, ct1, ct2, ct3, ct4, ft2, cr0, cr1, cr2, cr3, cr4, fr0, fr1, fr2, fr3, fr4⟩ := M6.out.cells))
          go_wp2
          go_loopg [80, 8] 3 (fun kq v80 v8 wr => ∃ s : ByteArray, kq ≤ 3 ∧ ((kq = 3 → v80 = .int .i64 0) ∧ (kq = 2 → v80 = .int .i64 1) ∧ (kq = 1 → v80 = .int .i64 2) ∧ (kq = 0 → v80 = .int .i64 3)) ∧ v8 = .string s ∧ (kq = 3 → Aside0 (strip3 s = some sx)) ∧ (kq = 2 → Aside0 (strip2 s = some sx)) ∧ (kq = 1 → Aside0 (strip1 s = some sx)) ∧ (kq = 0 → s = sx) ∧ Aside0 (CmAt w0 w wr g bt k1 k2 ⟨#[]⟩))
          case atStart => exact ⟨k0, Nat.le_refl _, ⟨fun _ => rfl, fun h => absurd h (by decide), fun h => absurd h (by decide), fun h => absurd h (by decide)⟩, rfl, fun _ => HST, fun h => absurd h (by decide), fun h => absurd h (by decide), fun h => absurd h (by decide), M6⟩
          case round =>
            obtain ⟨s, hkq, ⟨e3, e2, e1, e0⟩, rfl, hA, hB, hC, hD, M7⟩ := hrel
            obtain ⟨wp, hwp⟩ : ∃ wp, wp = wr := ⟨_, rfl⟩
            subst hwp
            obtain ⟨cz0, cz1, fz1, ct0, ct1, ct2, ct3, ct4, ft2, cr0, cr1, cr2, cr3, cr4, fr0, fr1, fr2, fr3, fr4⟩ := M7.out.cells
            rcases (show gk = 3 ∨ gk = 2 ∨ gk = 1 ∨ gk = 0 by omega) with rfl | rfl | rfl | rfl
            · obtain rfl := e3 rfl
              clear e0 e1 e2 e3
              have h := (hA rfl).out
              unfold strip3 at h
              clear hA hB hC hD
              replace h := Option.bind_eq_some_iff.1 h
              obtain ⟨p, hx, h⟩ := h
              have HP := Aside0.mk hx
              clear hx
              cases p with
              | true =>
                rw [if_pos rfl] at h
                have HTR := Aside0.mk h
                clear h
                go_wp2_with (first | (go_at_call 140; (with_reducible refine (strings_HasSuffix.calls s (⟨#[45, 45, 33]⟩ : ByteArray) true _ HP.out).mono ?_); rintro e w8 ⟨rfl, hd⟩; have M8 := Aside0.mk (M7.out.below hd.below); clear hd; obtain ⟨cz0, cz1, fz1, ct0, ct1, ct2, ct3, ct4, ft2, cr0, cr1, cr2, cr3, cr4, fr0, fr1, fr2, fr3, fr4⟩ := M8.out.cells) | (go_at_call 141; (with_reducible refine (strings_TrimSuffix.calls s (⟨#[45, 45, 33]⟩ : ByteArray) sx _ HTR.out).mono ?_); rintro e w9 ⟨rfl, hd⟩; have M9 := Aside0.mk (M8.out.below hd.below); clear hd; obtain ⟨cz0, cz1, fz1, ct0, ct1, ct2, ct3, ct4, ft2, cr0, cr1, cr2, cr3, cr4, fr0, fr1, fr2, fr3, fr4⟩ := M9.out.cells) | (go_at_call 109; (with_reducible refine (scan_heal.calls sx d _ (HG0.out.below M9.out.B) HD.out).mono ?_); rintro e w10 ⟨rfl, hb⟩; have M10 := Aside0.mk ((M9.out.below hb).setData d); obtain ⟨cz0, cz1, fz1, ct0, ct1, ct2, ct3, ct4, ft2, cr0, cr1, cr2, cr3, cr4, fr0, fr1, fr2, fr3, fr4⟩ := M10.out.cells; have M10b := Aside0.mk (M9.out.below hb); clear hb; obtain ⟨_, _, _, _, _, _, _, _, ft2, _⟩ := M10b.out.cells))
                refine bodyPost_ret (results_cell_row rfl _ _ w.heap.size 33 #[.int .i64 4, .string ⟨#[]⟩, .string d, .slice none 0 0, .bool false] (0, 0) _ rfl ((store5_done M10.out.I M10.out.B M10.out.K M10.out.R hgl (.int .i64 4) (.string ⟨#[]⟩) (.string d) (.slice none 0 0) (.bool false) _ rfl).1) hu33 rfl (by kernel_rfl)) rfl ?_
                obtain ⟨-, d2, d3, d4, d5⟩ := store5_done M10.out.I M10.out.B M10.out.K M10.out.R hgl (.int .i64 4) (.string ⟨#[]⟩) (.string d) (.slice none 0 0) (.bool false) _ rfl
                exact ⟨_, rfl, Kd.R_nil _ _ _ _ _, d2, d3, d4⟩
              | false =>
                rw [if_neg (by simp)] at h
                have HR := Aside0.mk h
                clear h
                go_wp2_with (first | (go_at_call 140; (with_reducible refine (strings_HasSuffix.calls s (⟨#[45, 45, 33]⟩ : ByteArray) false _ HP.out).mono ?_); rintro e w8 ⟨rfl, hd⟩; have M8 := Aside0.mk (M7.out.below hd.below); clear hd; obtain ⟨cz0, cz1, fz1, ct0, ct1, ct2, ct3, ct4, ft2, cr0, cr1, cr2, cr3, cr4, fr0, fr1, fr2, fr3, fr4⟩ := M8.out.cells))
                go_roundg 2
                case measure => omega
                case rel => exact ⟨s, by omega, ⟨fun h => absurd h (by decide), fun _ => by go_num, fun h => absurd h (by decide), fun h => absurd h (by decide)⟩, rfl, fun h => absurd h (by decide), fun _ => HR, fun h => absurd h (by decide), fun h => absurd h (by decide), M8⟩
            · obtain rfl := e2 rfl
              clear e0 e1 e2 e3
              have h := (hB rfl).out
              unfold strip2 at h
              clear hA hB hC hD
              replace h := Option.bind_eq_some_iff.1 h
              obtain ⟨p, hx, h⟩ := h
              have HP := Aside0.mk hx
              clear hx
              cases p with
              | true =>
                rw [if_pos rfl] at h
                have HTR := Aside0.mk h
                clear h
                go_wp2_with (first | (go_at_call 140; (with_reducible refine (strings_HasSuffix.calls s (⟨#[45, 45]⟩ : ByteArray) true _ HP.out).mono ?_); rintro e w8 ⟨rfl, hd⟩; have M8 := Aside0.mk (M7.out.below hd.below); clear hd; obtain ⟨cz0, cz1, fz1, ct0, ct1, ct2, ct3, ct4, ft2, cr0, cr1, cr2, cr3, cr4, fr0, fr1, fr2, fr3, fr4⟩ := M8.out.cells) | (go_at_call 141; (with_reducible refine (strings_TrimSuffix.calls s (⟨#[45, 45]⟩ : ByteArray) sx _ HTR.out).mono ?_); rintro e w9 ⟨rfl, hd⟩; have M9 := Aside0.mk (M8.out.below hd.below); clear hd; obtain ⟨cz0, cz1, fz1, ct0, ct1, ct2, ct3, ct4, ft2, cr0, cr1, cr2, cr3, cr4, fr0, fr1, fr2, fr3, fr4⟩ := M9.out.cells) | (go_at_call 109; (with_reducible refine (scan_heal.calls sx d _ (HG0.out.below M9.out.B) HD.out).mono ?_); rintro e w10 ⟨rfl, hb⟩; have M10 := Aside0.mk ((M9.out.below hb).setData d); obtain ⟨cz0, cz1, fz1, ct0, ct1, ct2, ct3, ct4, ft2, cr0, cr1, cr2, cr3, cr4, fr0, fr1, fr2, fr3, fr4⟩ := M10.out.cells; have M10b := Aside0.mk (M9.out.below hb); clear hb; obtain ⟨_, _, _, _, _, _, _, _, ft2, _⟩ := M10b.out.cells))
                refine bodyPost_ret (results_cell_row rfl _ _ w.heap.size 33 #[.int .i64 4, .string ⟨#[]⟩, .string d, .slice none 0 0, .bool false] (0, 0) _ rfl ((store5_done M10.out.I M10.out.B M10.out.K M10.out.R hgl (.int .i64 4) (.string ⟨#[]⟩) (.string d) (.slice none 0 0) (.bool false) _ rfl).1) hu33 rfl (by kernel_rfl)) rfl ?_
                obtain ⟨-, d2, d3, d4, d5⟩ := store5_done M10.out.I M10.out.B M10.out.K M10.out.R hgl (.int .i64 4) (.string ⟨#[]⟩) (.string d) (.slice none 0 0) (.bool false) _ rfl
                exact ⟨_, rfl, Kd.R_nil _ _ _ _ _, d2, d3, d4⟩
              | false =>
                rw [if_neg (by simp)] at h
                have HR := Aside0.mk h
                clear h
                go_wp2_with (first | (go_at_call 140; (with_reducible refine (strings_HasSuffix.calls s (⟨#[45, 45]⟩ : ByteArray) false _ HP.out).mono ?_); rintro e w8 ⟨rfl, hd⟩; have M8 := Aside0.mk (M7.out.below hd.below); clear hd; obtain ⟨cz0, cz1, fz1, ct0, ct1, ct2, ct3, ct4, ft2, cr0, cr1, cr2, cr3, cr4, fr0, fr1, fr2, fr3, fr4⟩ := M8.out.cells))
                go_roundg 1
                case measure => omega
                case rel => exact ⟨s, by omega, ⟨fun h => absurd h (by decide), fun h => absurd h (by decide), fun _ => by go_num, fun h => absurd h (by decide)⟩, rfl, fun h => absurd h (by decide), fun h => absurd h (by decide), fun _ => HR, fun h => absurd h (by decide), M8⟩
            · obtain rfl := e1 rfl
              clear e0 e1 e2 e3
              have h := (hC rfl).out
              unfold strip1 at h
              clear hA hB hC hD
              replace h := Option.bind_eq_some_iff.1 h
              obtain ⟨p, hx, h⟩ := h
              have HP := Aside0.mk hx
              clear hx
              cases p with
              | true =>
                rw [if_pos rfl] at h
                have HTR := Aside0.mk h
                clear h
                go_wp2_with (first | (go_at_call 140; (with_reducible refine (strings_HasSuffix.calls s (⟨#[45]⟩ : ByteArray) true _ HP.out).mono ?_); rintro e w8 ⟨rfl, hd⟩; have M8 := Aside0.mk (M7.out.below hd.below); clear hd; obtain ⟨cz0, cz1, fz1, ct0, ct1, ct2, ct3, ct4, ft2, cr0, cr1, cr2, cr3, cr4, fr0, fr1, fr2, fr3, fr4⟩ := M8.out.cells) | (go_at_call 141; (with_reducible refine (strings_TrimSuffix.calls s (⟨#[45]⟩ : ByteArray) sx _ HTR.out).mono ?_); rintro e w9 ⟨rfl, hd⟩; have M9 := Aside0.mk (M8.out.below hd.below); clear hd; obtain ⟨cz0, cz1, fz1, ct0, ct1, ct2, ct3, ct4, ft2, cr0, cr1, cr2, cr3, cr4, fr0, fr1, fr2, fr3, fr4⟩ := M9.out.cells) | (go_at_call 109; (with_reducible refine (scan_heal.calls sx d _ (HG0.out.below M9.out.B) HD.out).mono ?_); rintro e w10 ⟨rfl, hb⟩; have M10 := Aside0.mk ((M9.out.below hb).setData d); obtain ⟨cz0, cz1, fz1, ct0, ct1, ct2, ct3, ct4, ft2, cr0, cr1, cr2, cr3, cr4, fr0, fr1, fr2, fr3, fr4⟩ := M10.out.cells; have M10b := Aside0.mk (M9.out.below hb); clear hb; obtain ⟨_, _, _, _, _, _, _, _, ft2, _⟩ := M10b.out.cells))
                refine bodyPost_ret (results_cell_row rfl _ _ w.heap.size 33 #[.int .i64 4, .string ⟨#[]⟩, .string d, .slice none 0 0, .bool false] (0, 0) _ rfl ((store5_done M10.out.I M10.out.B M10.out.K M10.out.R hgl (.int .i64 4) (.string ⟨#[]⟩) (.string d) (.slice none 0 0) (.bool false) _ rfl).1) hu33 rfl (by kernel_rfl)) rfl ?_
                obtain ⟨-, d2, d3, d4, d5⟩ := store5_done M10.out.I M10.out.B M10.out.K M10.out.R hgl (.int .i64 4) (.string ⟨#[]⟩) (.string d) (.slice none 0 0) (.bool false) _ rfl
                exact ⟨_, rfl, Kd.R_nil _ _ _ _ _, d2, d3, d4⟩
              | false =>
                rw [if_neg (by simp)] at h
                have HR := Aside0.mk h
                clear h
                go_wp2_with (first | (go_at_call 140; (with_reducible refine (strings_HasSuffix.calls s (⟨#[45]⟩ : ByteArray) false _ HP.out).mono ?_); rintro e w8 ⟨rfl, hd⟩; have M8 := Aside0.mk (M7.out.below hd.below); clear hd; obtain ⟨cz0, cz1, fz1, ct0, ct1, ct2, ct3, ct4, ft2, cr0, cr1, cr2, cr3, cr4, fr0, fr1, fr2, fr3, fr4⟩ := M8.out.cells))
                go_roundg 0
                case measure => omega
                case rel => exact ⟨s, by omega, ⟨fun h => absurd h (by decide), fun h => absurd h (by decide), fun h => absurd h (by decide), fun _ => by go_num⟩, rfl, fun h => absurd h (by decide), fun h => absurd h (by decide), fun h => absurd h (by decide), fun _ => Option.some.inj HR.out, M8⟩
            · obtain rfl := e0 rfl
              clear e0 e1 e2 e3
              obtain rfl := hD rfl
              clear hA hB hC
              go_wp2_with (first | (go_at_call 109; (with_reducible refine (scan_heal.calls s d _ (HG0.out.below M7.out.B) HD.out).mono ?_); rintro e w10 ⟨rfl, hb⟩; have M10 := Aside0.mk ((M7.out.below hb).setData d); obtain ⟨cz0, cz1, fz1, ct0, ct1, ct2, ct3, ct4, ft2, cr0, cr1, cr2, cr3, cr4, fr0, fr1, fr2, fr3, fr4⟩ := M10.out.cells; have M10b := Aside0.mk (M7.out.below hb); clear hb; obtain ⟨_, _, _, _, _, _, _, _, ft2, _⟩ := M10b.out.cells))
              refine bodyPost_ret (results_cell_row rfl _ _ w.heap.size 33 #[.int .i64 4, .string ⟨#[]⟩, .string d, .slice none 0 0, .bool false] (0, 0) _ rfl ((store5_done M10.out.I M10.out.B M10.out.K M10.out.R hgl (.int .i64 4) (.string ⟨#[]⟩) (.string d) (.slice none 0 0) (.bool false) _ rfl).1) hu33 rfl (by kernel_rfl)) rfl ?_
              obtain ⟨-, d2, d3, d4, d5⟩ := store5_done M10.out.I M10.out.B M10.out.K M10.out.R hgl (.int .i64 4) (.string ⟨#[]⟩) (.string d) (.slice none 0 0) (.bool false) _ rfl
              exact ⟨_, rfl, Kd.R_nil _ _ _ _ _, d2, d3, d4⟩
end Go.Proofs.YtoacojkmclngmaaGreatDoor.Pz
namespace Go.Proofs.YtoacojkmclngmaaGreatDoor.Pz
open Go.RowKit Go.Proofs.YtoacojkmclngmaaGreatDoorW.PrintWords Go.Proofs.YtoacojkmclngmaaGreatDoorW.PrintLast Go.Proofs.YtoacojkmclngmaaGreatDoorW.PrintMore
attribute [local go_sem] max2_int min2_int max_two min_two max_three min_three max_four min_four   -- for this text's walks alone
attribute [local go_sem] rune_str
set_option linter.unusedVariables false
set_option linter.unusedSimpArgs false
def isSpace (c : Int) : Bool := decide (c = 32) || decide (c = 9) || decide (c = 10) || decide (c = 12) || decide (c = 13)
theorem Space_same (c : Int) (w : World) : Calls Tryz.prog 185 #[.int .u8 c] w fun e w' => e = .returned (.bool (isSpace c)) ∧ w = w' := by
  by_cases h1 : c = 32
  · subst h1
    go_enter Tryz.func185, Tryz.ntmps185
    go_wp2
    go_ret
    exact ⟨rfl, rfl⟩
  · have h1' : (c == 32) = false := by simpa using h1
    by_cases h2 : 9 ≤ c ∧ c ≤ 13
    · have hb : (decide (9 ≤ c) && decide (c ≤ 13)) = true := by simp; exact h2
      by_cases h3 : c = 11
      · subst h3
        go_enter Tryz.func185, Tryz.ntmps185
        go_wp2_with (go_at_call 39; refine (between_same _ _ _ _).mono ?_; rintro e w2 ⟨rfl, rfl⟩)
        go_ret
        exact ⟨rfl, rfl⟩
      · have h3' : (c != 11) = true := by simpa using h3
        go_enter Tryz.func185, Tryz.ntmps185
        go_wp2_with (go_at_call 39; refine (between_same _ _ _ _).mono ?_; rintro e w2 ⟨rfl, rfl⟩)
        go_ret
        exact ⟨by have : isSpace c = true := by { unfold isSpace; simp; omega }
                  simp [this], rfl⟩
    · have hb : (decide (9 ≤ c) && decide (c ≤ 13)) = false := by simp; omega
      go_enter Tryz.func185, Tryz.ntmps185
      go_wp2_with (go_at_call 39; refine (between_same _ _ _ _).mono ?_; rintro e w2 ⟨rfl, rfl⟩)
      go_ret
      exact ⟨by have : isSpace c = false := by { unfold isSpace; simp; omega }
                simp [this], rfl⟩
def class_Space.f (a0 : Int) : Option Bool := some (isSpace a0)
theorem class_Space.calls (a0 : Int) (r : Bool) (w : World) (h : class_Space.f a0 = some r) :
    Calls Tryz.prog 185 #[.int .u8 a0] w fun e w' => e = .returned (.bool r) ∧ Drawn0 w w' := by
  obtain rfl := Option.some.inj h
  exact (Space_same a0 w).mono fun e w' ⟨he, hw⟩ => ⟨he, hw ▸ Drawn0.refl w⟩
end Go.Proofs.YtoacojkmclngmaaGreatDoor.Pz
namespace Go.Proofs.YtoacojkmclngmaaGreatDoor.Pz
open Go.RowKit Go.Proofs.YtoacojkmclngmaaGreatDoorW.PrintWords Go.Proofs.YtoacojkmclngmaaGreatDoorW.PrintLast Go.Proofs.YtoacojkmclngmaaGreatDoorW.PrintMore
attribute [local go_sem] max2_int min2_int max_two min_two max_three min_three max_four min_four   -- for this text's walks alone
attribute [local go_sem] rune_str
set_option linter.unusedVariables false
set_option linter.unusedSimpArgs false
def trimLo (s : ByteArray) : Nat → Nat → Nat
  | 0, lo => lo
  | k + 1, lo => if lo < s.size ∧ isSpace (bt s lo) = true then trimLo s k (lo + 1) else lo
def trimHi (s : ByteArray) (lo : Nat) : Nat → Nat
  | 0 => 0
  | k + 1 => if lo < k + 1 ∧ isSpace (bt s k) = true then trimHi s lo k else k + 1
def trimV (s : ByteArray) : ByteArray := s.extract (trimLo s s.size 0) (trimHi s (trimLo s s.size 0) s.size)
theorem trimLo_step (s : ByteArray) (lo : Nat) (h : lo < s.size) (hs : isSpace (bt s lo) = true) : trimLo s (s.size - lo) lo = trimLo s (s.size - (lo + 1)) (lo + 1) := by
  rw [show s.size - lo = (s.size - (lo + 1)) + 1 by omega, trimLo, if_pos ⟨h, hs⟩]
theorem trimLo_stop (s : ByteArray) (lo : Nat) (h : ¬ (lo < s.size ∧ isSpace (bt s lo) = true)) (k : Nat) : trimLo s k lo = lo := by
  cases k with
  | zero => rfl
  | succ k => rw [trimLo, if_neg h]
theorem trimHi_step (s : ByteArray) (lo k : Nat) (h : lo < k + 1) (hs : isSpace (bt s k) = true) : trimHi s lo (k + 1) = trimHi s lo k := by rw [trimHi, if_pos ⟨h, hs⟩]
set_option maxHeartbeats 4000000 in
set_option maxRecDepth 100000 in
theorem Trim_same (s : ByteArray) (w : World) (hs : s.size ≤ 140737488355328) : Calls Tryz.prog 184 #[.string s] w fun e w' => e = .returned (.string (trimV s)) ∧ w = w' := by
  obtain ⟨LO, hLO⟩ : ∃ LO, LO = trimLo s s.size 0 := ⟨_, rfl⟩
  obtain ⟨HI, hHI⟩ : ∃ HI, HI = trimHi s LO s.size := ⟨_, rfl⟩
  have hv : trimV s = s.extract LO HI := by rw [hHI, hLO]; rfl
  rw [hv]
  have HLO : Aside0 (trimLo s (s.size - 0) 0 = LO) := ⟨by rw [hLO]; rfl⟩
  have HHI : Aside0 (trimHi s LO s.size = HI) := ⟨hHI.symm⟩
  clear hLO hHI hv
  go_enter Tryz.func184, Tryz.ntmps184
  go_wp2
  go_loopw [3] (fun i wr => ∃ k : Nat, k ≤ s.size ∧ i = .int .i64 k ∧ w = wr ∧ Aside0 (trimLo s (s.size - k) k = LO)) (fun i _ => s.size - (intOf i).toNat)
  case atStart => exact ⟨0, Nat.zero_le _, rfl, rfl, HLO⟩
  case round =>
    obtain ⟨k, hk, rfl, rfl, HA⟩ := hrel
    by_cases hlt : k < s.size
    · have hlti : (k : Int) < (s.size : Int) := by omega
      have hbt : ((s[k]'hlt).toNat : Int) = bt s k := bt_at s k hlt
      cases hsp : isSpace (bt s k) with
      | true =>
        have HSP := Aside0.mk hsp
        go_wp2_with (first | (go_at_call 185; (with_reducible refine (Space_same (bt s k) _).mono ?_); rintro e w2 ⟨rfl, rfl⟩; rw [hsp]))
        go_roundw
        case rel => exact ⟨k + 1, by omega, by go_num, (by first | rfl | trivial), ⟨by rw [← trimLo_step s k hlt HSP.out]; exact HA.out⟩⟩
        case measure => first | (simp [intOf]; done) | (simp [intOf]; omega)
      | false =>
        have hkl : k = LO := by rw [← HA.out]; exact (trimLo_stop s k (by simp [hsp]) _).symm
        subst hkl
        go_wp2_with (first | (go_at_call 185; (with_reducible refine (Space_same (bt s k) _).mono ?_); rintro e w2 ⟨rfl, rfl⟩; rw [hsp]))
        go_loopw [4] (fun i wr => ∃ j : Nat, j ≤ s.size ∧ k ≤ j ∧ i = .int .i64 j ∧ w = wr ∧ Aside0 (trimHi s (k) j = HI)) (fun i _ => (intOf i).toNat)
        case atStart => exact ⟨s.size, Nat.le_refl _, by omega, rfl, rfl, HHI⟩
        case round =>
          obtain ⟨j, hj, hLj, rfl, rfl, HB⟩ := hrel
          by_cases hlj : k < j
          · obtain ⟨m, rfl⟩ : ∃ m, j = m + 1 := ⟨j - 1, by omega⟩
            have hljz : ((k : Nat) : Int) < ((m + 1 : Nat) : Int) := by omega
            have hm : m < s.size := by omega
            have hmz : (m : Int) < (s.size : Int) := by omega
            have hm0 : (0 : Int) ≤ (m : Int) := by omega
            have hw : wrap64 (((m + 1 : Nat) : Int) - 1) = (m : Int) := by unfold wrap64; omega
            have hbm : ((s[m]'hm).toNat : Int) = bt s m := bt_at s m hm
            cases hsq : isSpace (bt s m) with
            | true =>
              have HSQ := Aside0.mk hsq
              go_wp2_with (first | (go_at_call 185; (with_reducible refine (Space_same (bt s m) _).mono ?_); rintro e w2 ⟨rfl, rfl⟩; rw [hsq]))
              go_roundw
              case rel => exact ⟨m, by omega, by omega, by go_num, (by first | rfl | trivial), ⟨by rw [← trimHi_step s (k) m hlj HSQ.out]; exact HB.out⟩⟩
              case measure => first | (simp [intOf]; done) | (simp [intOf]; omega)
            | false =>
              have hhi : HI = m + 1 := by rw [← HB.out, trimHi, if_neg (by simp [hsq])]
              subst hhi
              have hle : (k : Int) ≤ (m : Int) + 1 := by omega
              have hle2 : (m : Int) + 1 ≤ (s.size : Int) := by omega
              go_wp2_with (first | (go_at_call 185; (with_reducible refine (Space_same (bt s m) _).mono ?_); rintro e w2 ⟨rfl, rfl⟩; rw [hsq]))
              go_ret
              exact ⟨rfl, rfl⟩
          · have hnz : ¬ ((k : Nat) : Int) < (j : Int) := by omega
            have hhi : HI = j := by
              rw [← HB.out]
              cases j with
              | zero => rfl
              | succ q => rw [trimHi, if_neg (fun hx => hlj hx.1)]
            subst hhi
            have hle : ((k : Nat) : Int) ≤ (HI : Int) := by omega
            have hle2 : (HI : Int) ≤ (s.size : Int) := by omega
            go_wp2
            go_ret
            exact ⟨rfl, rfl⟩
    · have : k = s.size := by omega
      subst this
      have hkl : s.size = LO := by rw [← HA.out]; exact (trimLo_stop s s.size (by simp) _).symm
      go_wp2
      go_loopw [4] (fun i wr => ∃ j : Nat, j ≤ s.size ∧ LO ≤ j ∧ i = .int .i64 j ∧ w = wr ∧ Aside0 (trimHi s (LO) j = HI)) (fun i _ => (intOf i).toNat)
      case atStart => exact ⟨s.size, Nat.le_refl _, by omega, rfl, rfl, HHI⟩
      case round =>
        obtain ⟨j, hj, hLj, rfl, rfl, HB⟩ := hrel
        by_cases hlj : LO < j
        · exact absurd hlj (by omega)
        · have hnz : ¬ ((LO : Nat) : Int) < (j : Int) := by omega
          have hhi : HI = j := by
            rw [← HB.out]
            cases j with
            | zero => rfl
            | succ q => rw [trimHi, if_neg (fun hx => hlj hx.1)]
          subst hhi
          have hle : ((LO : Nat) : Int) ≤ (HI : Int) := by omega
          have hle2 : (HI : Int) ≤ (s.size : Int) := by omega
          go_wp2
          go_ret
          exact ⟨rfl, rfl⟩
def class_Trim.f (a0 : ByteArray) : Option ByteArray := if a0.size ≤ 140737488355328 then some (trimV a0) else none
theorem class_Trim.calls (a0 : ByteArray) (r : ByteArray) (w : World) (h : class_Trim.f a0 = some r) :
    Calls Tryz.prog 184 #[.string a0] w fun e w' => e = .returned (.string r) ∧ Drawn0 w w' := by
  unfold class_Trim.f at h
  split at h
  case isFalse => cases h
  rename_i hs
  obtain rfl := Option.some.inj h
  exact (Trim_same a0 w hs).mono fun e w' ⟨he, hw⟩ => ⟨he, hw ▸ Drawn0.refl w⟩
end Go.Proofs.YtoacojkmclngmaaGreatDoor.Pz
namespace Go.Proofs.YtoacojkmclngmaaGreatDoor.Pz
open Go.RowKit Go.Proofs.YtoacojkmclngmaaGreatDoorW.PrintWords Go.Proofs.YtoacojkmclngmaaGreatDoorW.PrintLast Go.Proofs.YtoacojkmclngmaaGreatDoorW.PrintMore
attribute [local go_sem] max2_int min2_int max_two min_two max_three min_three max_four min_four   -- for this text's walks alone
attribute [local go_sem] rune_str
set_option linter.unusedVariables false
set_option linter.unusedSimpArgs false
attribute [local go_sem] Oper.semAt_some
def wordTo (s : ByteArray) : Nat → Nat → Nat
  | 0, n => n
  | k + 1, n => if n < s.size ∧ isSpace (bt s n) = false then wordTo s k (n + 1) else n
def wordLen (s : ByteArray) : Nat := wordTo s s.size 0
def fieldsGo : Nat → ByteArray → List ByteArray
  | 0, _ => []
  | k + 1, s => if s.size = 0 then [] else s.extract 0 (wordLen s) :: fieldsGo k (trimV (s.extract (wordLen s) s.size))
def fieldsV (s : ByteArray) : List ByteArray := fieldsGo (s.size + 1) (trimV s)
theorem fieldsGo_length : ∀ (k : Nat) (s : ByteArray), (fieldsGo k s).length ≤ k
  | 0, _ => Nat.le_refl _
  | k + 1, s => by
    unfold fieldsGo
    split
    · simp
    · have := fieldsGo_length k (trimV (s.extract (wordLen s) s.size)); simp; omega
theorem trimLo_spec (s : ByteArray) : ∀ (k lo : Nat), lo + k = s.size → lo ≤ trimLo s k lo ∧ trimLo s k lo ≤ s.size ∧ (trimLo s k lo < s.size → isSpace (bt s (trimLo s k lo : Nat)) = false)
  | 0, lo, h => ⟨Nat.le_refl _, by show lo ≤ s.size; omega, fun hx => by have : lo < s.size := hx; omega⟩
  | k + 1, lo, h => by
    unfold trimLo
    split
    · have := trimLo_spec s k (lo + 1) (by omega)
      exact ⟨by omega, this.2⟩
    · rename_i hn
      exact ⟨Nat.le_refl _, by omega, fun hx => by cases hb : isSpace (bt s lo) with | false => rfl | true => exact absurd ⟨hx, hb⟩ hn⟩
theorem trimV_size (s : ByteArray) : (trimV s).size ≤ s.size := by
  unfold trimV
  rw [ByteArray.size_extract]
  omega
theorem bt_extract (s : ByteArray) (a b : Nat) (h : 0 < (s.extract a b).size) : bt (s.extract a b) 0 = bt s (a : Nat) := by
  have hlt : a < s.size := by rw [ByteArray.size_extract] at h; omega
  have h1 : (((s.extract a b)[0]'h).toNat : Int) = bt (s.extract a b) 0 := bt_at (s.extract a b) 0 h
  have h2 : ((s[a]'hlt).toNat : Int) = bt s (a : Nat) := bt_at s a hlt
  rw [← h1, ← h2, ByteArray.getElem_extract]
  simp
theorem trimV_first (s : ByteArray) (h : 0 < (trimV s).size) : isSpace (bt (trimV s) 0) = false := by
  have hs := trimLo_spec s s.size 0 (by omega)
  have hz : (trimV s).size = min (trimHi s (trimLo s s.size 0) s.size) s.size - trimLo s s.size 0 := by unfold trimV; rw [ByteArray.size_extract]
  have hlt : trimLo s s.size 0 < s.size := by omega
  have e : bt (trimV s) 0 = bt s (trimLo s s.size 0 : Nat) := by
    unfold trimV at h ⊢
    exact bt_extract s _ _ h
  rw [e]
  exact hs.2.2 hlt
theorem wordTo_spec (s : ByteArray) : ∀ (k n : Nat), n + k = s.size → n ≤ wordTo s k n ∧ wordTo s k n ≤ s.size
  | 0, n, h => ⟨Nat.le_refl _, by show n ≤ s.size; omega⟩
  | k + 1, n, h => by
    unfold wordTo
    split
    · have := wordTo_spec s k (n + 1) (by omega)
      exact ⟨by omega, this.2⟩
    · exact ⟨Nat.le_refl _, by omega⟩
theorem wordLen_pos (s : ByteArray) (h : 0 < s.size) (hf : isSpace (bt s 0) = false) : 1 ≤ wordLen s ∧ wordLen s ≤ s.size := by
  refine ⟨?_, (wordTo_spec s s.size 0 (by omega)).2⟩
  unfold wordLen
  obtain ⟨k, hk⟩ : ∃ k, s.size = k + 1 := ⟨s.size - 1, by omega⟩
  rw [hk]
  unfold wordTo
  rw [if_pos ⟨h, by simpa using hf⟩]
  exact (wordTo_spec s k (0 + 1) (by omega)).1
theorem wordTo_step (s : ByteArray) (n : Nat) (h : n < s.size) (hs : isSpace (bt s n) = false) : wordTo s (s.size - n) n = wordTo s (s.size - (n + 1)) (n + 1) := by
  rw [show s.size - n = (s.size - (n + 1)) + 1 by omega, wordTo, if_pos ⟨h, hs⟩]
theorem wordTo_stop (s : ByteArray) (n : Nat) (h : ¬ (n < s.size ∧ isSpace (bt s n) = false)) (k : Nat) : wordTo s k n = n := by
  cases k with
  | zero => rfl
  | succ k => rw [wordTo, if_neg h]
theorem isEmpty_sz (s : ByteArray) : s.toList.isEmpty = decide (s.size = 0) := by
  rw [Lib.toList_data, Bool.eq_iff_iff]
  simp only [List.isEmpty_iff, decide_eq_true_eq]
  constructor
  · intro h; have := congrArg List.length h; rw [Array.length_toList] at this; exact this
  · intro h; exact List.eq_nil_of_length_eq_zero (by rw [Array.length_toList]; exact h)
def boxLeft (B : Nat) (wr : World) : Nat := match wr.cell? ⟨B, 0, none⟩ with
  | some (.string t) => t.size
  | _ => 0
theorem boxLeft_of {B : Nat} {wr : World} {t : ByteArray} (h : wr.cell? ⟨B, 0, none⟩ = some (.string t)) : boxLeft B wr = t.size := by unfold boxLeft; rw [h]
set_option maxHeartbeats 8000000 in
set_option maxRecDepth 100000 in
theorem fields1_in (n l Bs : Nat) (s : ByteArray) (hs : s.size ≤ 140737488355328) (hn : 1 ≤ n) (J : List ByteArray → World → Prop)
    (hset : ∀ pre W v, J pre W → J pre (W.setCell ⟨Bs, 0, none⟩ v))
    (hY : ∀ pre x W, J pre W → pre.length < s.size + 1 → YieldAt Fence.wide (n - 1) Tryz.prog l #[.string x] W fun e W' => e = .returned (.bool true) ∧ J (pre ++ [x]) W' ∧ W'.cell? ⟨Bs, 0, none⟩ = W.cell? ⟨Bs, 0, none⟩ ∧ W'.frozen? ⟨Bs, 0, none⟩ = W.frozen? ⟨Bs, 0, none⟩)
    (W : World) (hc : W.cell? ⟨Bs, 0, none⟩ = some (.string s)) (hf : W.frozen? ⟨Bs, 0, none⟩ = false) (h0 : J [] W) :
    CallsIn Fence.wide n Tryz.prog 183 #[.func (.yield l) #[] #[], .pointer (some ⟨Bs, 0, none⟩)] W fun e W' => (∃ v, e = .returned v) ∧ J (fieldsV s) W' := by
  have HSET := Aside0.mk hset
  have HY := Aside0.mk hY
  have HJ := Aside0.mk h0
  clear hset hY h0
  refine callsIn_of_wp Tryz.func183 rfl trivial ?_ rfl
  simp only [Tryz.ntmps183, List.size_toArray, List.length_cons, List.length_nil, Nat.reduceAdd, Nat.reduceSub, Array.replicate_succ, Array.replicate_zero, List.push_toArray, List.append_toArray, List.nil_append, List.cons_append]
  gi_wp2_with (first | (refine ⟨trivial, ?_⟩; gi_at_call 184; (with_reducible refine (callsIn_wide.2 (Trim_same s _ hs)).mono ?_); rintro e w2 ⟨rfl, rfl⟩))
  have hc2 : (W.setCell ⟨Bs, 0, none⟩ (.string (trimV s))).cell? ⟨Bs, 0, none⟩ = some (.string (trimV s)) := World.cell?_setCell_same' _ _ _ (by rw [hc]; rfl)
  have hf2 : (W.setCell ⟨Bs, 0, none⟩ (.string (trimV s))).frozen? ⟨Bs, 0, none⟩ = false := by rw [World.frozen?_setCell]; exact hf
  have HJ2 := Aside0.mk (HSET.out [] W (.string (trimV s)) HJ.out)
  generalize W.setCell ⟨Bs, 0, none⟩ (.string (trimV s)) = W2 at hc2 hf2 HJ2 ⊢
  have HSZ := Aside0.mk (trimV_size s)
  clear HJ hc hf
  gi_loopw [3] (fun _ wr => ∃ (k : Nat) (pre : List ByteArray) (t u : ByteArray), Aside0 (fieldsV s = pre ++ fieldsGo k t) ∧ Aside0 (t.size < k) ∧ Aside0 (t.size ≤ s.size) ∧ Aside0 (t = trimV u) ∧ wr.cell? ⟨Bs, 0, none⟩ = some (.string t) ∧ wr.frozen? ⟨Bs, 0, none⟩ = false ∧ Aside0 (J pre wr)) (fun _ wr => boxLeft Bs wr)
  case atStart => exact ⟨s.size + 1, [], trimV s, s, ⟨rfl⟩, ⟨by have := HSZ.out; omega⟩, HSZ, ⟨rfl⟩, hc2, hf2, HJ2⟩
  case round =>
    obtain ⟨k, pre, t, u, HA, HK, HT, HU, hct, hft, HJ3⟩ := hrel
    clear hc2 hf2 HJ2 HSZ
    have HEM := Aside0.mk (isEmpty_sz t)
    cases hem : t.toList.isEmpty with
    | true =>
      have hz : t.size = 0 := by have := HEM.out; rw [hem] at this; exact of_decide_eq_true this.symm
      have hres : fieldsV s = pre := by
        rw [HA.out]
        cases k with
        | zero => exact absurd HK.out (by omega)
        | succ k => rw [fieldsGo, if_pos hz, List.append_nil]
      gi_wp2
      go_end0
      exact ⟨⟨_, rfl⟩, hres ▸ HJ3.out⟩
    | false =>
      have hz : ¬ t.size = 0 := by have := HEM.out; rw [hem] at this; exact of_decide_eq_false this.symm
      have HP := Aside0.mk (wordLen_pos t (by omega) (by rw [HU.out]; exact trimV_first u (by rw [← HU.out]; omega)))
      gi_wp2
      gi_loopw [3] (fun v3 wr' => ∃ m : Nat, m ≤ t.size ∧ v3 = .int .i64 m ∧ wr = wr' ∧ Aside0 (wordTo t (t.size - m) m = wordLen t)) (fun v3 _ => t.size - (intOf v3).toNat)
      case atStart => exact ⟨0, Nat.zero_le _, rfl, rfl, ⟨rfl⟩⟩
      case round =>
        obtain ⟨m, hm, rfl, rfl, HW⟩ := hrel
        have ht1 : t.size ≤ 140737488355328 := by have := HT.out; omega
        by_cases hlt : m < t.size
        · have hlti : (m : Int) < (t.size : Int) := by omega
          have hbt : ((t[m]'hlt).toNat : Int) = bt t m := bt_at t m hlt
          cases hsp : isSpace (bt t m) with
          | false =>
            have HSP := Aside0.mk hsp
            gi_wp2_with (first | (refine ⟨trivial, ?_⟩; gi_at_call 185; (with_reducible refine (callsIn_wide.2 (Space_same (bt t m) _)).mono ?_); rintro e w2 ⟨rfl, rfl⟩; rw [hsp]))
            go_roundw
            case rel => exact ⟨m + 1, by omega, by go_num, (by first | rfl | trivial), ⟨by rw [← wordTo_step t m hlt HSP.out]; exact HW.out⟩⟩
            case measure => first | (simp [intOf]; done) | (simp [intOf]; omega)
          | true =>
            obtain rfl : m = wordLen t := by rw [← HW.out]; exact (wordTo_stop t m (by simp [hsp]) _).symm
            obtain ⟨fn, tmps, assign, body, hy, hR⟩ := HY.out pre (t.extract 0 (wordLen t)) wr HJ3.out (by
              have h1 : (fieldsV s).length ≤ s.size + 1 := fieldsGo_length (s.size + 1) (trimV s)
              have h2 := congrArg List.length HA.out
              cases k with
              | zero => exact absurd HK.out (by omega)
              | succ k => rw [fieldsGo, if_neg hz, List.length_append, List.length_cons] at h2; omega)
            have hle0 : (0 : Int) ≤ (wordLen t : Int) := by omega
            have hle1 : (wordLen t : Int) ≤ (t.size : Int) := by omega
            gi_wp2_with (first | (refine ⟨trivial, ?_⟩; gi_at_call 185; (with_reducible refine (callsIn_wide.2 (Space_same (bt t (wordLen t : Nat)) _)).mono ?_); rintro e w2 ⟨rfl, rfl⟩; rw [hsp]))
            refine hR.mono ?_
            rintro e W3 ⟨rfl, hJ3, hc3, hf3⟩
            have hc4 := hc3.trans hct
            have hf4 := hf3.trans hft
            have HJ4 := Aside0.mk hJ3
            clear hJ3 hc3 hf3
            have HQ := Aside0.mk (HSET.out _ W3 (.string (t.extract (wordLen t) t.size)) HJ4.out)
            have hc5 : (W3.setCell ⟨Bs, 0, none⟩ (.string (t.extract (wordLen t) t.size))).cell? ⟨Bs, 0, none⟩ = some (.string (t.extract (wordLen t) t.size)) := World.cell?_setCell_same' _ _ _ (by rw [hc4]; rfl)
            have hf5 : (W3.setCell ⟨Bs, 0, none⟩ (.string (t.extract (wordLen t) t.size))).frozen? ⟨Bs, 0, none⟩ = false := by rw [World.frozen?_setCell]; exact hf4
            have hsx : (t.extract (wordLen t) t.size).size ≤ 140737488355328 := by rw [ByteArray.size_extract]; omega
            gi_wp2_with (first | (refine ⟨trivial, ?_⟩; gi_at_call 184; (with_reducible refine (callsIn_wide.2 (Trim_same (t.extract (wordLen t) t.size) _ hsx)).mono ?_); rintro e w2 ⟨rfl, rfl⟩))
            go_roundw
            case rel =>
              refine ⟨k - 1, pre ++ [t.extract 0 (wordLen t)], trimV (t.extract (wordLen t) t.size), t.extract (wordLen t) t.size, ⟨?_⟩, ⟨?_⟩, ⟨?_⟩, ⟨rfl⟩, World.cell?_setCell_same' _ _ _ (by rw [hc5]; rfl), by rw [World.frozen?_setCell]; exact hf5, ⟨HSET.out _ _ _ HQ.out⟩⟩
              · rw [HA.out]
                cases k with
                | zero => exact absurd HK.out (by omega)
                | succ k => rw [fieldsGo, if_neg hz, List.append_assoc]; rfl
              · have h1 := trimV_size (t.extract (wordLen t) t.size)
                rw [ByteArray.size_extract] at h1
                have := HP.out; have := HK.out; omega
              · have h1 := trimV_size (t.extract (wordLen t) t.size)
                rw [ByteArray.size_extract] at h1
                have := HT.out; omega
            case measure =>
              rw [boxLeft_of (World.cell?_setCell_same' _ _ _ (by rw [hc5]; rfl)), boxLeft_of hct]
              have h1 := trimV_size (t.extract (wordLen t) t.size)
              rw [ByteArray.size_extract] at h1
              have := HP.out; omega
        · obtain rfl : m = wordLen t := by rw [← HW.out]; exact (wordTo_stop t m (by simp [hlt]) _).symm
          obtain ⟨fn, tmps, assign, body, hy, hR⟩ := HY.out pre (t.extract 0 (wordLen t)) wr HJ3.out (by
            have h1 : (fieldsV s).length ≤ s.size + 1 := fieldsGo_length (s.size + 1) (trimV s)
            have h2 := congrArg List.length HA.out
            cases k with
            | zero => exact absurd HK.out (by omega)
            | succ k => rw [fieldsGo, if_neg hz, List.length_append, List.length_cons] at h2; omega)
          have hle0 : (0 : Int) ≤ (wordLen t : Int) := by omega
          have hle1 : (wordLen t : Int) ≤ (t.size : Int) := by omega
          have hnlt : ¬ (wordLen t : Int) < (t.size : Int) := by omega
          gi_wp2
          refine ⟨trivial, ?_⟩
          gi_wp2
          refine hR.mono ?_
          rintro e W3 ⟨rfl, hJ3, hc3, hf3⟩
          have hc4 := hc3.trans hct
          have hf4 := hf3.trans hft
          have HJ4 := Aside0.mk hJ3
          clear hJ3 hc3 hf3
          have HQ := Aside0.mk (HSET.out _ W3 (.string (t.extract (wordLen t) t.size)) HJ4.out)
          have hc5 : (W3.setCell ⟨Bs, 0, none⟩ (.string (t.extract (wordLen t) t.size))).cell? ⟨Bs, 0, none⟩ = some (.string (t.extract (wordLen t) t.size)) := World.cell?_setCell_same' _ _ _ (by rw [hc4]; rfl)
          have hf5 : (W3.setCell ⟨Bs, 0, none⟩ (.string (t.extract (wordLen t) t.size))).frozen? ⟨Bs, 0, none⟩ = false := by rw [World.frozen?_setCell]; exact hf4
          have hsx : (t.extract (wordLen t) t.size).size ≤ 140737488355328 := by rw [ByteArray.size_extract]; omega
          gi_wp2_with (first | (refine ⟨trivial, ?_⟩; gi_at_call 184; (with_reducible refine (callsIn_wide.2 (Trim_same (t.extract (wordLen t) t.size) _ hsx)).mono ?_); rintro e w2 ⟨rfl, rfl⟩))
          go_roundw
          case rel =>
            refine ⟨k - 1, pre ++ [t.extract 0 (wordLen t)], trimV (t.extract (wordLen t) t.size), t.extract (wordLen t) t.size, ⟨?_⟩, ⟨?_⟩, ⟨?_⟩, ⟨rfl⟩, World.cell?_setCell_same' _ _ _ (by rw [hc5]; rfl), by rw [World.frozen?_setCell]; exact hf5, ⟨HSET.out _ _ _ HQ.out⟩⟩
            · rw [HA.out]
              cases k with
              | zero => exact absurd HK.out (by omega)
              | succ k => rw [fieldsGo, if_neg hz, List.append_assoc]; rfl
            · have h1 := trimV_size (t.extract (wordLen t) t.size)
              rw [ByteArray.size_extract] at h1
              have := HP.out; have := HK.out; omega
            · have h1 := trimV_size (t.extract (wordLen t) t.size)
              rw [ByteArray.size_extract] at h1
              have := HT.out; omega
          case measure =>
            rw [boxLeft_of (World.cell?_setCell_same' _ _ _ (by rw [hc5]; rfl)), boxLeft_of hct]
            have h1 := trimV_size (t.extract (wordLen t) t.size)
            rw [ByteArray.size_extract] at h1
            have := HP.out; omega
theorem fields_made (s : ByteArray) (w : World) : Calls Tryz.prog 164 #[.string s] w fun e w' => e = .returned (.func (.func 183) #[] #[.pointer (some ⟨w.heap.size, 0, none⟩)]) ∧ w' = w.alloc (.cells #[.string s] 9) := by
  go_enter Tryz.func164, Tryz.ntmps164
  go_wp2
  go_ret
  exact ⟨rfl, rfl⟩
theorem reps_strings (W : World) (base : Nat) (ok : Nat → Prop) : ∀ l : List ByteArray, Reps (Kd.string.M W base ok) 1 l (l.map Value.string)
  | [] => Reps.none _ _
  | x :: l => Reps.one (by first | rfl | exact ⟨_, rfl⟩) (reps_strings W base ok l)
structure FdAt (w : World) (pre : List ByteArray) (W : World) : Prop where
  box : ∃ v, Boxed W w.heap.size 37 v ∧ W.ownsRow w.heap.size 9 1 v pre.length (pre.map Value.string) ∧ ∀ k, v.ownBlock = some k → w.heap.size + 2 ≤ k
  below : Below w.heap.size w W
  size : w.heap.size + 2 ≤ W.heap.size
theorem row_put {W : World} {base l n : Nat} {e : TypeId} {size : Nat} {v : Value} {xs : List Value} {o o' : Obj} (hr : W.ownsRow base e size v n xs) (hb : W.heap[l]? = some o) (hc : o.isCells = false) : (W.putObj l o').ownsRow base e size v n xs := by
  refine hr.kept (grownBy_putObj' W l o') ?_
  rcases hr.2 with ⟨rfl, _⟩ | ⟨g, cap, cur, rfl, _, hgb, _⟩
  · exact .inl rfl
  · refine .inr fun e => ?_
    have e2 : g = l := by simpa [Value.ownBlock] using e
    subst e2
    rw [hgb] at hb; cases hb; cases hc
theorem FdAt.put {w W : World} {pre : List ByteArray} {l : Nat} {o o' : Obj} (h : FdAt w pre W) (hl : w.heap.size + 2 ≤ l) (hb : W.heap[l]? = some o) (hc : o.isCells = false) : FdAt w pre (W.putObj l o') := by
  obtain ⟨v, hv, hr, hk⟩ := h.box
  have hg := grownBy_putObj' W l o'
  refine ⟨⟨v, hv.kept hg (by intro e; injection e; omega), row_put hr hb hc, hk⟩, h.below.grown hg h.below.size (fun k e => by cases e; omega), by rw [World.putObj_size]; exact h.size⟩
theorem FdAt.setRest {w W : World} {pre : List ByteArray} (u : Value) (h : FdAt w pre W) : FdAt w pre (W.setCell ⟨w.heap.size + 1, 0, none⟩ u) := by
  obtain ⟨v, hv, hr, hk⟩ := h.box
  have hg := grownBy_setCell' W (w.heap.size + 1) u
  refine ⟨⟨v, hv.kept hg (by intro e; injection e; omega), hr.kept hg ?_, hk⟩, h.below.grown hg h.below.size (fun k e => by cases e; omega), Nat.le_trans h.size hg.size⟩
  cases hv : v.ownBlock with
  | none => exact .inl rfl
  | some k => exact .inr (by intro e; injection e; have := hk k hv; omega)
theorem FdAt.start (w : World) (a0 : ByteArray) (o₁ o₂ : Obj) : FdAt w [] (((((w.alloc (.cells #[.slice none 0 0] 37)).alloc (.cells #[.string a0] 9))).alloc o₁).alloc o₂) := by
  refine ⟨⟨_, (((Boxed.new w 37 (.slice none 0 0)).alloc _).alloc _).alloc _, own_nil _ _ _ _, fun k hk => by simp [Value.ownBlock] at hk⟩, below_alloc (below_alloc (below_alloc (below_alloc (Below.refl _ _) _) _) _) _, ?_⟩
  simp only [World.size_alloc]; omega
def class_Fields.f (a0 : ByteArray) : Option (List ByteArray) := if a0.size ≤ 4398046511104 then some (fieldsV a0) else none
set_option maxHeartbeats 8000000 in
set_option maxRecDepth 100000 in
theorem class_Fields.calls (a0 : ByteArray) (r : List ByteArray) (w : World) (h : class_Fields.f a0 = some r) :
    Calls Tryz.prog 142 #[.string a0] w fun e w' => ∃ v0_ : Value, e = .returned (v0_) ∧ Kd.R Kd.string 9 w' w.heap.size (fun _ => True) v0_ r ∧ Below w.heap.size w w' := by
  unfold class_Fields.f at h
  split at h
  case isFalse => cases h
  rename_i hs
  obtain rfl := Option.some.inj h
  clear h
  obtain ⟨i0, hi, hz0, hz1, hz2⟩ := info_parts info9
  refine (callsIn_wide (n := 5)).1 ?_
  refine callsIn_of_wp_marks Tryz.func142 rfl trivial ?_ rfl
  simp only [Tryz.ntmps142, List.size_toArray, List.length_cons, List.length_nil, Nat.reduceAdd, Nat.reduceSub, Array.replicate_succ, Array.replicate_zero, List.push_toArray, List.append_toArray, List.nil_append, List.cons_append]
  gi_wp2_with (first | (refine ⟨trivial, ?_⟩; gi_at_call 164; (with_reducible refine (callsIn_wide.2 (fields_made a0 _)).mono ?_); rintro e w2 ⟨rfl, rfl⟩))
  have hszb : ((w.alloc (.cells #[.slice none 0 0] 37)).alloc (.cells #[.string a0] 9)).heap.size = w.heap.size + 2 := by simp only [World.size_alloc]
  refine wp_range1 (gf := 183) (lb := #[.pointer (some ⟨w.heap.size + 1, 0, none⟩)]) (α := ByteArray) (encs := fun x => #[.string x]) rfl (enters_of Tryz.func183 (by kernel_rfl) rfl) (fun _ => rfl)
    (FdAt w) (fun W W' => W'.cell? ⟨w.heap.size + 1, 0, none⟩ = W.cell? ⟨w.heap.size + 1, 0, none⟩ ∧ W'.frozen? ⟨w.heap.size + 1, 0, none⟩ = W.frozen? ⟨w.heap.size + 1, 0, none⟩) (fieldsV a0) (a0.size + 1)
    (fun pre W l o o' hl h hb hc => h.put (by omega) hb hc) (fun o₁ o₂ => FdAt.start w a0 o₁ o₂) (fun h1 h2 => ⟨h2.1.trans h1.1, h2.2.trans h1.2⟩)
    (fun W l o' hl => by
      have e := World.putObj_heap_other (w := W) (r := l) (k := w.heap.size + 1) (o := o') (by omega)
      simp only [World.cell?, World.frozen?, e, and_self])
    (fun x => { tmps := #[.string a0, undef, .slice none 0 0, .pointer (some ⟨w.heap.size, 0, none⟩), .string x, .string a0, .func (.func 183) #[] #[.pointer (some ⟨w.heap.size + 1, 0, none⟩)], .string x, undef, undef, undef, undef, undef], defers := [] }) ?assign ?body ?seq ?done
  case assign =>
    intro l x W K hK
    gi_wp2
    exact hK
  case body =>
    rintro l pre x W hF hlt
    obtain ⟨v, hv, hrow, hk⟩ := hF.box
    have hB := hF.below
    have hvc := hv.cell
    have hle := hF.size
    gi_wp2_with (first | (gi_at_builtin; refine wpListIn_append_own_at _ rfl _ _ 37 rfl w.heap.size 9 i0 (.string ⟨#[]⟩) 1 16 Tryz.underlying37 hi hz0 hz1 hz2 rfl (by decide) _ _ _ rfl (hrow.alloc _) ⟨W.heap.size, 0, none⟩ 1 1 [.string x] rfl rfl (cell_one_new _ _ _) (by simp [Value.oneCell']) (by unfold maxLen; omega) (by omega) (by have := hB.size; simp; omega) ?_; intro v' w1 hown' hgrow hnil hat; obtain ⟨g', cap', rfl⟩ := ownsRow_succ hown'; obtain ⟨hv1, hv2, hr2, hk2, hb2⟩ := hv.appended (by decide) hrow hB.size (Nat.le_refl _) hown' hgrow; have hc1 := hv1.cell; have hf1 := hv1.frozen))
    have hbs : w1.heap[w.heap.size + 1]? = W.heap[w.heap.size + 1]? := by
      have h1 := hgrow.block (w.heap.size + 1) (by simp; omega) (by intro e; have := hk _ e.symm; omega)
      exact h1.trans (Below.heap_alloc W _ _ (by omega))
    have hcs : w1.cell? ⟨w.heap.size + 1, 0, none⟩ = W.cell? ⟨w.heap.size + 1, 0, none⟩ ∧ w1.frozen? ⟨w.heap.size + 1, 0, none⟩ = W.frozen? ⟨w.heap.size + 1, 0, none⟩ := by simp only [World.cell?, World.frozen?, hbs, and_self]
    have hsz1 : W.heap.size + 1 ≤ w1.heap.size := by have := hgrow.size; simpa using this
    have hF2 : FdAt w (pre ++ [x]) (w1.setCell ⟨w.heap.size, 0, none⟩ (.slice (some ⟨g', 0, none⟩) (pre.length + 1) cap')) := by
      refine ⟨⟨_, hv2, by rw [List.length_append, List.map_append]; exact hr2, fun k hk' => ?_⟩, hB.trans hb2, ?_⟩
      · rcases hat with e | e
        · exact hk k (e ▸ hk')
        · rw [hk'] at e; injection e with e; rw [e]; simp; omega
      · have := (grownBy_setCell' w1 w.heap.size (.slice (some ⟨g', 0, none⟩) (pre.length + 1) cap')).size; omega
    exact ⟨hcs, hF2⟩
  case seq =>
    rintro l D r W hl hD _ ⟨o₁, o₂, rfl⟩ hY h0
    have hl2 : w.heap.size + 2 ≤ l := by omega
    have hD2 : w.heap.size + 2 ≤ D := by omega
    refine fields1_in (5 - 1) l (w.heap.size + 1) a0 (by omega) (by omega) (fun pre W => FdAt w pre W ∧ W.heap[l]? = some r ∧ W.heap[D]? = some (.deferred (some []))) (fun pre W v h => ⟨h.1.setRest v, (Below.heap_setCell W _ v l (by show l ≠ w.heap.size + 1; omega)).trans h.2.1, (Below.heap_setCell W _ v D (by show D ≠ w.heap.size + 1; omega)).trans h.2.2⟩)
      (fun pre x W1 hj hlt => (hY pre x W1 hj hlt).mono (fun e w' h => ⟨h.1, h.2.1, h.2.2.1, h.2.2.2⟩)) _ ?_ ?_ h0
    · have hb : Boxed ((((w.alloc (.cells #[.slice none 0 0] 37)).alloc (.cells #[.string a0] 9)).alloc o₁).alloc o₂) (w.heap.size + 1) 9 (.string a0) := by
        have := (((Boxed.new (w.alloc (.cells #[.slice none 0 0] 37)) 9 (.string a0)).alloc o₁).alloc o₂)
        rwa [World.size_alloc] at this
      exact hb.cell
    · have hb : Boxed ((((w.alloc (.cells #[.slice none 0 0] 37)).alloc (.cells #[.string a0] 9)).alloc o₁).alloc o₂) (w.heap.size + 1) 9 (.string a0) := by
        have := (((Boxed.new (w.alloc (.cells #[.slice none 0 0] 37)) 9 (.string a0)).alloc o₁).alloc o₂)
        rwa [World.size_alloc] at this
      exact hb.frozen
  case done =>
    rintro D W hD hF hK
    have hD2 : w.heap.size + 2 ≤ D := by omega
    obtain ⟨v, hv, hrow, hk⟩ := hF.box
    have hvc := hv.cell
    have hF3 := hF.put (o' := .deferred none) hD2 hK rfl
    gi_wp2
    refine ⟨by simp, .inl ⟨_, _, rfl, run_takeDeferred hK, ?_⟩⟩
    exact ⟨_, results_tmp rfl _ _ _, v, rfl, ⟨fun _ _ => trivial, _, row_put hrow hK rfl, reps_strings _ _ _ _⟩, hF3.below⟩
end Go.Proofs.YtoacojkmclngmaaGreatDoor.Pz
