/- Texts of the session, one behind the other: what the code computes, function by function, and its contracts. -/
import Derived.Lib.Strings
import Derived.Lib.Walk
import Derived.Deep.RegionHeld3
import Derived.Test.YtoacojkmclngmaaGreatDoorProg
import Derived.Shelf.Strings.BuilderK
import Derived.Test.YtoacojkmclngmaaGreatDoorQ1
import Derived.Test.YtoacojkmclngmaaGreatDoorQ2
-- written by the session's own program hookprint.py
namespace Go.Proofs.YtoacojkmclngmaaGreatDoor.Pz
open Go.RowKit Go.Proofs.YtoacojkmclngmaaGreatDoorW.PrintWords Go.Proofs.YtoacojkmclngmaaGreatDoorW.PrintLast Go.Proofs.YtoacojkmclngmaaGreatDoorW.PrintMore
attribute [local go_sem] max2_int min2_int max_two min_two max_three min_three max_four min_four   -- for this text's walks alone
attribute [local go_sem] rune_str
set_option linter.unusedVariables false
set_option linter.unusedSimpArgs false

/-! ### class_Number: function 86 (by hand) -/
-- IMPORTS: @S@HandWords Derived.Lib.Strings Derived.Lib.Walk
/-- the value of a figure -/
def figV (c : Int) : Int := if c ≤ 57 then c - 48 else if c ≤ 90 then c - 55 else c - 87
/-- figures to a base, from n on, never above most; none: a byte is no figure -/
def numFrom (base most : Int) : Int → List UInt8 → Option Int
  | n, [] => some n
  | n, c :: l => if isDigit (c.toNat : Int) = true ∨ base = 16 ∧ isHex (c.toNat : Int) = true then numFrom base most (min (n * base + figV (c.toNat : Int)) most) l else none
def numberV (base most : Int) (l : List UInt8) : Int × Bool := if l = [] then (0, false) else match numFrom base most 0 l with
  | some n => (n, true)
  | none => (0, false)
def class_Number.f (a0 : ByteArray) (a1 a2 : Int) : Option (Int × Bool) :=
  if a0.size ≤ 140737488355328 ∧ (a1 = 10 ∨ a1 = 16) ∧ 0 ≤ a2 ∧ a2 ≤ 1125899906842624 then some (numberV a1 a2 a0.data.toList) else none
theorem numFrom_cons (base most n : Int) (l : List UInt8) (k : Nat) (h : k < l.length) : numFrom base most n (l.drop k) =
    if isDigit (l[k].toNat : Int) = true ∨ base = 16 ∧ isHex (l[k].toNat : Int) = true then numFrom base most (min (n * base + figV (l[k].toNat : Int)) most) (l.drop (k + 1)) else none := by
  rw [List.drop_eq_getElem_cons h]; rfl
theorem hexfig_bits (c : Int) (h0 : 0 ≤ c) (h1 : c ≤ 255) (hd : isDigit c = false) (hx : isHex c = true) : IntKind.u8.wrap (bits BinOp.or IntKind.u8 c 32 - 97) + 10 = figV c ∧ IntKind.u8.wrap (bits BinOp.or IntKind.u8 c 32 - 97) ≤ 5 ∧ 0 ≤ IntKind.u8.wrap (bits BinOp.or IntKind.u8 c 32 - 97) := by
  have h : ∀ n : Fin 256, isDigit (n.val : Int) = false → isHex (n.val : Int) = true → IntKind.u8.wrap (bits BinOp.or IntKind.u8 (n.val : Int) 32 - 97) + 10 = figV (n.val : Int) ∧ IntKind.u8.wrap (bits BinOp.or IntKind.u8 (n.val : Int) 32 - 97) ≤ 5 ∧ 0 ≤ IntKind.u8.wrap (bits BinOp.or IntKind.u8 (n.val : Int) 32 - 97) := by decide +kernel
  have := h ⟨c.toNat, by omega⟩
  simp only [Int.toNat_of_nonneg h0] at this
  exact this hd hx
theorem mn_min (a b : Int) : mn a b = min a b := by unfold mn; omega
theorem isDigit_bd {c : Int} (h : isDigit c = true) : 48 ≤ c ∧ c ≤ 57 := by simpa [isDigit] using h
set_option maxHeartbeats 4000000 in
theorem Number_10 (most : Int) (h0 : 0 ≤ most) (hm : most ≤ 1125899906842624) (a0 : ByteArray) (hne : a0.toList.isEmpty = false) (hsz : a0.size ≤ 140737488355328) (w : World) (res : Option Int) (hres : Aside0 (res = numFrom 10 most 0 a0.data.toList)) :
    Calls Tryz.prog 86 #[.string a0, .int .i64 10, .int .i64 most] w fun e w' => e = .returned (.tuple #[.int .i64 (res.getD 0), .bool res.isSome]) ∧ Below w.heap.size w w' := by
  have hconv := fun W => Lib.run_convert_string_bytes (P := Tryz.prog) W 9 58 5 a0 Tryz.underlying9 Tryz.underlying58 Tryz.underlying5
  have HL : Aside0 (a0.data.toList.length = a0.size) := ⟨by rw [Array.length_toList]; rfl⟩
  have hm0 : ¬ most < 0 := by omega
  have hm1 : ¬ 1125899906842624 < most := by omega
  go_enter Tryz.func86, Tryz.ntmps86
  go_wp2
  have HR := Aside0.mk (BRow.conv w a0)
  have HB := Aside0.mk (bytes_below (Below.refl w.heap.size w) (Nat.le_refl _) 5 a0)
  clear hconv
  generalize Lib.bytesWorld w 5 a0 = w1 at HR HB ⊢
  generalize grownCap w a0.size 0 5 = cap
  go_loopw [8, 30] (fun v i wr => ∃ (k : Nat) (n : Int), k ≤ a0.size ∧ i = .int .i64 k ∧ v = .int .i64 n ∧ 0 ≤ n ∧ n ≤ most ∧ Aside0 (numFrom 10 most n (a0.data.toList.drop k) = res) ∧ Aside0 (BRow wr w.heap.size a0.data.toList) ∧ Aside0 (Below w.heap.size w wr)) (fun _ i _ => a0.size - (intOf i).toNat)
  case atStart => exact ⟨0, 0, Nat.zero_le _, rfl, rfl, by omega, h0, ⟨by rw [hres.out, List.drop_zero]⟩, HR, HB⟩
  case round =>
    obtain ⟨k, n, hk, rfl, rfl, hn0, hn1, hr, hrow, hb⟩ := hrel
    by_cases hlt : k < a0.size
    · have hkl : k < a0.data.toList.length := by rw [HL.out]; exact hlt
      obtain ⟨c, hc⟩ : ∃ c, c = a0.data.toList[k] := ⟨_, rfl⟩
      have hcell : wr.cell? ⟨w.heap.size, k, none⟩ = some (.int .u8 c.toNat) := by rw [hrow.out.cell hkl, hc]
      have hstep := Aside0.mk (numFrom_cons 10 most n a0.data.toList k hkl)
      rw [← hc] at hstep
      clear hc
      have hc0 : (0 : Int) ≤ (c.toNat : Int) := by omega
      have hc1 : (c.toNat : Int) ≤ 255 := by have := c.toNat_lt; omega
      cases hd : isDigit (c.toNat : Int)
      · have hd1 := Aside0.mk hd
        go_wp2_with (first | (go_at_call 41; refine (Digit_same _ _).mono ?_; rintro e w2 ⟨rfl, rfl⟩))
        have hnone : res = none := by
          rw [← hr.out, hstep.out, if_neg]
          simp [hd1.out]
        go_ret2
        exact ⟨by rw [hnone]; rfl, hb.out⟩
      · have hd1 := Aside0.mk hd
        obtain ⟨hd2, hd3⟩ := isDigit_bd hd
        go_wp2_with (first | (go_at_call 41; refine (Digit_same _ _).mono ?_; rintro e w2 ⟨rfl, rfl⟩))
        all_goals
          go_roundw
          case rel =>
            refine ⟨k + 1, min (n * 10 + (c.toNat - 48)) most, by omega, by go_num, ?_, by omega, by omega, ⟨?_⟩, hrow, hb⟩
            · congr 1 <;> omega
            · rw [← hr.out, hstep.out, if_pos (.inl hd1.out)]
              congr 1
              unfold figV
              rw [if_pos hd3]
          case measure => simp [intOf]; omega
    · have hdone : res = some n := by
        rw [← hr.out, List.drop_eq_nil_of_le (by rw [HL.out]; omega)]; rfl
      have hkey : Aside0 (res.getD 0 = n ∧ res.isSome = true) := ⟨by rw [hdone]; exact ⟨rfl, rfl⟩⟩
      clear hdone
      go_wp2
      go_ret2
      exact ⟨by rw [hkey.out.1, hkey.out.2]; rfl, hb.out⟩
set_option maxHeartbeats 4000000 in
theorem Number_16 (most : Int) (h0 : 0 ≤ most) (hm : most ≤ 1125899906842624) (a0 : ByteArray) (hne : a0.toList.isEmpty = false) (hsz : a0.size ≤ 140737488355328) (w : World) (res : Option Int) (hres : Aside0 (res = numFrom 16 most 0 a0.data.toList)) :
    Calls Tryz.prog 86 #[.string a0, .int .i64 16, .int .i64 most] w fun e w' => e = .returned (.tuple #[.int .i64 (res.getD 0), .bool res.isSome]) ∧ Below w.heap.size w w' := by
  have hconv := fun W => Lib.run_convert_string_bytes (P := Tryz.prog) W 9 58 5 a0 Tryz.underlying9 Tryz.underlying58 Tryz.underlying5
  have HL : Aside0 (a0.data.toList.length = a0.size) := ⟨by rw [Array.length_toList]; rfl⟩
  have hm0 : ¬ most < 0 := by omega
  have hm1 : ¬ 1125899906842624 < most := by omega
  go_enter Tryz.func86, Tryz.ntmps86
  go_wp2
  have HR := Aside0.mk (BRow.conv w a0)
  have HB := Aside0.mk (bytes_below (Below.refl w.heap.size w) (Nat.le_refl _) 5 a0)
  clear hconv
  generalize Lib.bytesWorld w 5 a0 = w1 at HR HB ⊢
  generalize grownCap w a0.size 0 5 = cap
  go_loopw [8, 30] (fun v i wr => ∃ (k : Nat) (n : Int), k ≤ a0.size ∧ i = .int .i64 k ∧ v = .int .i64 n ∧ 0 ≤ n ∧ n ≤ most ∧ Aside0 (numFrom 16 most n (a0.data.toList.drop k) = res) ∧ Aside0 (BRow wr w.heap.size a0.data.toList) ∧ Aside0 (Below w.heap.size w wr)) (fun _ i _ => a0.size - (intOf i).toNat)
  case atStart => exact ⟨0, 0, Nat.zero_le _, rfl, rfl, by omega, h0, ⟨by rw [hres.out, List.drop_zero]⟩, HR, HB⟩
  case round =>
    obtain ⟨k, n, hk, rfl, rfl, hn0, hn1, hr, hrow, hb⟩ := hrel
    by_cases hlt : k < a0.size
    · have hkl : k < a0.data.toList.length := by rw [HL.out]; exact hlt
      obtain ⟨c, hc⟩ : ∃ c, c = a0.data.toList[k] := ⟨_, rfl⟩
      have hcell : wr.cell? ⟨w.heap.size, k, none⟩ = some (.int .u8 c.toNat) := by rw [hrow.out.cell hkl, hc]
      have hstep := Aside0.mk (numFrom_cons 16 most n a0.data.toList k hkl)
      rw [← hc] at hstep
      clear hc
      have hc0 : (0 : Int) ≤ (c.toNat : Int) := by omega
      have hc1 : (c.toNat : Int) ≤ 255 := by have := c.toNat_lt; omega
      cases hd : isDigit (c.toNat : Int)
      · have hd1 := Aside0.mk hd
        cases hx : isHex (c.toNat : Int)
        · have hx1 := Aside0.mk hx
          go_wp2_with (first | (go_at_call 41; refine (Digit_same _ _).mono ?_; rintro e w2 ⟨rfl, rfl⟩) | (go_at_call 85; refine (Hex_same _ hc0 hc1 _).mono ?_; rintro e w2 ⟨rfl, rfl⟩))
          have hnone : res = none := by
            rw [← hr.out, hstep.out, if_neg]
            simp [hd1.out, hx1.out]
          go_ret2
          exact ⟨by rw [hnone]; rfl, hb.out⟩
        · have hx1 := Aside0.mk hx
          obtain ⟨hv, hv1, hv2⟩ := hexfig_bits (c.toNat : Int) hc0 hc1 hd hx
          obtain ⟨f, hf⟩ : ∃ f, f = IntKind.u8.wrap (bits BinOp.or IntKind.u8 (c.toNat : Int) 32 - 97) := ⟨_, rfl⟩
          rw [← hf] at hv hv1 hv2
          have HV := Aside0.mk hv
          have hf' := hf.symm
          clear hf hv
          go_wp2_with (first | (go_at_call 41; refine (Digit_same _ _).mono ?_; rintro e w2 ⟨rfl, rfl⟩) | (go_at_call 85; refine (Hex_same _ hc0 hc1 _).mono ?_; rintro e w2 ⟨rfl, rfl⟩))
          all_goals
            go_roundw
            case rel =>
              refine ⟨k + 1, min (n * 16 + f + 10) most, by omega, by go_num, ?_, by omega, by omega, ⟨?_⟩, hrow, hb⟩
              · congr 1 <;> omega
              · rw [← hr.out, hstep.out, if_pos (Or.inr (And.intro trivial hx1.out)), ← HV.out]
                congr 1
                omega
            case measure => simp [intOf]; omega
      · have hd1 := Aside0.mk hd
        obtain ⟨hd2, hd3⟩ := isDigit_bd hd
        go_wp2_with (first | (go_at_call 41; refine (Digit_same _ _).mono ?_; rintro e w2 ⟨rfl, rfl⟩))
        all_goals
          go_roundw
          case rel =>
            refine ⟨k + 1, min (n * 16 + (c.toNat - 48)) most, by omega, by go_num, ?_, by omega, by omega, ⟨?_⟩, hrow, hb⟩
            · congr 1 <;> omega
            · rw [← hr.out, hstep.out, if_pos (.inl hd1.out)]
              congr 1
              unfold figV
              rw [if_pos hd3]
          case measure => simp [intOf]; omega
    · have hdone : res = some n := by
        rw [← hr.out, List.drop_eq_nil_of_le (by rw [HL.out]; omega)]; rfl
      have hkey : Aside0 (res.getD 0 = n ∧ res.isSome = true) := ⟨by rw [hdone]; exact ⟨rfl, rfl⟩⟩
      clear hdone
      go_wp2
      go_ret2
      exact ⟨by rw [hkey.out.1, hkey.out.2]; rfl, hb.out⟩
theorem class_Number.calls (a0 : ByteArray) (a1 : Int) (a2 : Int) (r1 : Int) (r2 : Bool) (w : World) (h : class_Number.f a0 a1 a2 = some (r1, r2)) :
    Calls Tryz.prog 86 #[.string a0, .int .i64 a1, .int .i64 a2] w fun e w' => e = .returned (.tuple #[.int .i64 r1, .bool r2]) ∧ Below w.heap.size w w' := by
  unfold class_Number.f at h
  split at h
  case isFalse => cases h
  rename_i hs
  obtain ⟨hs, hb, h0, hm⟩ := hs
  have h := Option.some.inj h
  by_cases hnil : a0.data.toList = []
  · rw [numberV, if_pos hnil] at h
    simp only [Prod.mk.injEq] at h
    obtain ⟨rfl, rfl⟩ := h
    have hem : a0.toList.isEmpty = true := by rw [Lib.toList_data, hnil]; rfl
    have hm0 : ¬ a2 < 0 := by omega
    have hm1 : ¬ 1125899906842624 < a2 := by omega
    go_enter Tryz.func86, Tryz.ntmps86
    go_wp2
    go_ret2
    exact ⟨rfl, Below.refl _ _⟩
  · rw [numberV, if_neg hnil] at h
    have hem : a0.toList.isEmpty = false := by
      rw [Lib.toList_data]
      cases hx : a0.data.toList with
      | nil => exact absurd hx hnil
      | cons x xs => rfl
    obtain ⟨res, hres⟩ : ∃ res, res = numFrom a1 a2 0 a0.data.toList := ⟨_, rfl⟩
    rw [← hres] at h
    have hr : r1 = res.getD 0 ∧ r2 = res.isSome := by
      cases res with
      | none => simp at h; exact ⟨h.1.symm, h.2⟩
      | some n => simp at h; exact ⟨h.1.symm, h.2⟩
    obtain ⟨rfl, rfl⟩ := hr
    rcases hb with rfl | rfl
    · exact Number_10 a2 h0 hm a0 hem hs w res ⟨hres⟩
    · exact Number_16 a2 h0 hm a0 hem hs w res ⟨hres⟩

end Go.Proofs.YtoacojkmclngmaaGreatDoor.Pz

-- written by the session's own program hookprint.py
namespace Go.Proofs.YtoacojkmclngmaaGreatDoor.Pz
open Go.RowKit Go.Proofs.YtoacojkmclngmaaGreatDoorW.PrintWords Go.Proofs.YtoacojkmclngmaaGreatDoorW.PrintLast Go.Proofs.YtoacojkmclngmaaGreatDoorW.PrintMore
attribute [local go_sem] max2_int min2_int max_two min_two max_three min_three max_four min_four   -- for this text's walks alone
attribute [local go_sem] rune_str
set_option linter.unusedVariables false
set_option linter.unusedSimpArgs false

/-! ### charref_numeric: function 64 (by hand) -/
-- IMPORTS: @S@HandWords @S@Shelf Derived.Deep.RegionHeld3 Derived.Lib.Strings
def fig (base c : Int) : Bool := isDigit c || decide (base = 16) && isHex c
theorem fig_closure (base c : Int) (hb : base = 10 ∨ base = 16) (h0 : 0 ≤ c) (h1 : c ≤ 255) (b : Nat) (w : World) (hc : w.cell? ⟨b, 0, none⟩ = some (.int .i64 base)) :
    Calls Tryz.prog 84 #[.int .u8 c, .pointer (some ⟨b, 0, none⟩)] w fun e w' => e = .returned (.bool (fig base c)) ∧ w = w' := by
  cases hd : isDigit c
  · rcases hb with rfl | rfl
    · go_enter Tryz.func84, Tryz.ntmps84
      go_wp2_with (first | (go_at_call 41; refine (Digit_same _ _).mono ?_; rintro e w2 ⟨rfl, rfl⟩) | (go_at_call 85; refine (Hex_same _ h0 h1 _).mono ?_; rintro e w2 ⟨rfl, rfl⟩))
      go_ret
      exact ⟨by simp [fig, hd], rfl⟩
    · go_enter Tryz.func84, Tryz.ntmps84
      go_wp2_with (first | (go_at_call 41; refine (Digit_same _ _).mono ?_; rintro e w2 ⟨rfl, rfl⟩) | (go_at_call 85; refine (Hex_same _ h0 h1 _).mono ?_; rintro e w2 ⟨rfl, rfl⟩))
      go_ret
      exact ⟨by simp [fig, hd], rfl⟩
  · go_enter Tryz.func84, Tryz.ntmps84
    go_wp2_with (first | (go_at_call 41; refine (Digit_same _ _).mono ?_; rintro e w2 ⟨rfl, rfl⟩) | (go_at_call 85; refine (Hex_same _ h0 h1 _).mono ?_; rintro e w2 ⟨rfl, rfl⟩))
    go_ret
    exact ⟨by simp [fig, hd], rfl⟩
def isX (l : List UInt8) : Bool := match l.drop 2 with
  | c :: _ => decide (c.toNat = 120) || decide (c.toNat = 88)
  | [] => false
def numericV (l : List UInt8) : ByteArray × Int :=
  let base : Int := if isX l = true then 16 else 10
  let i : Nat := if isX l = true then 3 else 2
  let ds := (l.drop i).takeWhile fun c => fig base (c.toNat : Int)
  let j := i + ds.length
  if (numberV base 1114112 ds).2 = true then (Utf8.encode (codedV (numberV base 1114112 ds).1), if (l.drop j).head? = some 59 then (j : Int) + 1 else j) else (⟨#[]⟩, 0)
def charref_numeric.f (a0 : ByteArray) : Option (ByteArray × Int) := if 2 ≤ a0.size ∧ a0.size ≤ 140737488355328 then some (numericV a0.data.toList) else none
theorem x_bits (c : UInt8) : (bits BinOp.or IntKind.u8 (c.toNat : Int) 32 == 120) = (decide (c.toNat = 120) || decide (c.toNat = 88)) := by
  have h : ∀ n : Fin 256, (bits BinOp.or IntKind.u8 ((UInt8.ofNat n.val).toNat : Int) 32 == 120) = (decide ((UInt8.ofNat n.val).toNat = 120) || decide ((UInt8.ofNat n.val).toNat = 88)) := by decide +kernel
  have := h ⟨c.toNat, c.toNat_lt⟩
  simpa using this
theorem takeWhile_at {α : Type} (p : α → Bool) : ∀ (l : List α) (j : Nat) (h : j < l.length), j < (l.takeWhile p).length → p l[j] = true
  | [], j, h, _ => absurd h (by simp)
  | x :: l, 0, _, h1 => by
    by_cases hx : p x = true
    · exact hx
    · simp [List.takeWhile_cons, hx] at h1
  | x :: l, j + 1, h, h1 => by
    by_cases hx : p x = true
    · simp [List.takeWhile_cons, hx] at h1
      exact takeWhile_at p l j (by simpa using h) h1
    · simp [List.takeWhile_cons, hx] at h1
theorem takeWhile_end {α : Type} (p : α → Bool) : ∀ (l : List α) (h : (l.takeWhile p).length < l.length), p (l[(l.takeWhile p).length]) = false
  | [], h => absurd h (by simp)
  | x :: l, h => by
    by_cases hx : p x = true
    · simp only [List.takeWhile_cons, hx, if_true, List.length_cons, List.getElem_cons_succ]
      exact takeWhile_end p l (by simpa [List.takeWhile_cons, hx] using h)
    · simp [List.takeWhile_cons, hx]
theorem takeWhile_le {α : Type} (p : α → Bool) (l : List α) : (l.takeWhile p).length ≤ l.length := (List.takeWhile_prefix p).length_le
theorem takeWhile_take {α : Type} (p : α → Bool) (l : List α) : l.takeWhile p = l.take (l.takeWhile p).length := (List.prefix_iff_eq_take.1 (List.takeWhile_prefix p))
theorem byte_at (a0 : ByteArray) (k : Nat) (h : k < a0.size) (h2 : k < a0.data.toList.length) : a0[k]'h = a0.data.toList[k] := rfl
/-- the figures from place i on -/
def figsFrom (base : Int) (l : List UInt8) (i : Nat) : List UInt8 := (l.drop i).takeWhile fun c => fig base (c.toNat : Int)
theorem figs_in (base : Int) (l : List UInt8) (i k : Nat) (hk : k < l.length) (hi : i ≤ k) (h : k < i + (figsFrom base l i).length) : fig base (l[k].toNat : Int) = true := by
  have := takeWhile_at (fun c : UInt8 => fig base (c.toNat : Int)) (l.drop i) (k - i) (by simp; omega) (by unfold figsFrom at h; omega)
  simpa [List.getElem_drop, show i + (k - i) = k by omega] using this
theorem figs_end (base : Int) (l : List UInt8) (i : Nat) (hk : i + (figsFrom base l i).length < l.length) : fig base (l[i + (figsFrom base l i).length].toNat : Int) = false := by
  have := takeWhile_end (fun c : UInt8 => fig base (c.toNat : Int)) (l.drop i) (by unfold figsFrom at hk; simp; omega)
  simpa [List.getElem_drop, figsFrom] using this
theorem figs_le (base : Int) (l : List UInt8) (i : Nat) (h : i ≤ l.length) : i + (figsFrom base l i).length ≤ l.length := by
  have := takeWhile_le (fun c : UInt8 => fig base (c.toNat : Int)) (l.drop i)
  rw [List.length_drop] at this
  unfold figsFrom
  omega
theorem figs_take (base : Int) (l : List UInt8) (i : Nat) : figsFrom base l i = (l.drop i).take (figsFrom base l i).length := takeWhile_take _ _
theorem extract_list (a : ByteArray) (i j : Nat) : (a.extract i j).data.toList = (a.data.toList.drop i).take (j - i) := by
  simp [ByteArray.data_extract]
theorem semi_head (a0 : ByteArray) (k : Nat) : Lib.hasPrefix (a0.extract k a0.size).data.toList [59] = decide ((a0.data.toList.drop k).head? = some 59) := by
  rw [extract_list, List.take_of_length_le (by rw [List.length_drop, Array.length_toList]; exact Nat.le_refl _)]
  unfold Lib.hasPrefix
  cases h : a0.data.toList.drop k with
  | nil => simp [List.isPrefixOf]
  | cons x xs =>
    simp only [List.isPrefixOf, Bool.and_true, List.head?_cons, Option.some.injEq]
    rw [Bool.eq_iff_iff]
    simp only [beq_iff_eq, decide_eq_true_eq]
    exact eq_comm
theorem numericV_x (l : List UInt8) (hx : isX l = true) : numericV l = if (numberV 16 1114112 (figsFrom 16 l 3)).2 = true then (Utf8.encode (codedV (numberV 16 1114112 (figsFrom 16 l 3)).1), if (l.drop (3 + (figsFrom 16 l 3).length)).head? = some 59 then ((3 + (figsFrom 16 l 3).length : Nat) : Int) + 1 else ((3 + (figsFrom 16 l 3).length : Nat) : Int)) else (⟨#[]⟩, 0) := by
  unfold numericV figsFrom
  simp only [hx, if_true]
theorem numericV_d (l : List UInt8) (hx : isX l = false) : numericV l = if (numberV 10 1114112 (figsFrom 10 l 2)).2 = true then (Utf8.encode (codedV (numberV 10 1114112 (figsFrom 10 l 2)).1), if (l.drop (2 + (figsFrom 10 l 2).length)).head? = some 59 then ((2 + (figsFrom 10 l 2).length : Nat) : Int) + 1 else ((2 + (figsFrom 10 l 2).length : Nat) : Int)) else (⟨#[]⟩, 0) := by
  unfold numericV figsFrom
  simp only [hx, Bool.false_eq_true, if_false]
set_option maxHeartbeats 4000000 in
set_option maxRecDepth 100000 in
theorem numeric_dec (a0 : ByteArray) (w : World) (hG : Glob w) (h2 : 2 ≤ a0.size) (hsz : a0.size ≤ 140737488355328) (hx : isX a0.data.toList = false) (h3 : 2 < a0.size) :
    Calls Tryz.prog 64 #[.string a0] w fun e w' => e = .returned (.tuple #[.string (numericV a0.data.toList).1, .int .i64 (numericV a0.data.toList).2]) ∧ Below w.heap.size w w' := by
  have HL : Aside0 (a0.data.toList.length = a0.size) := ⟨by rw [Array.length_toList]; rfl⟩
  have hd3 : a0.data.toList.drop 2 = a0[2] :: a0.data.toList.drop 3 := by
    rw [List.drop_eq_getElem_cons (by rw [HL.out]; exact h3)]; rfl
  have hxb : (bits BinOp.or IntKind.u8 ((a0[2]'h3).toNat : Int) 32 == 120) = false := by
    rw [x_bits]
    simpa [isX, hd3] using hx
  clear hd3
  have HX := Aside0.mk hx
  clear hx
  have HG0 := Aside0.mk hG
  clear hG
  go_enter Tryz.func64, Tryz.ntmps64
  go_wp2
  have hcb : (w.alloc (Obj.cells #[Value.int IntKind.i64 10] 3)).cell? ⟨w.heap.size, 0, none⟩ = some (.int .i64 10) := by go_simp
  have hB : Below w.heap.size w (w.alloc (Obj.cells #[Value.int IntKind.i64 10] 3)) := (Below.refl _ _).alloc (Nat.le_refl _) _
  generalize w.alloc (Obj.cells #[Value.int IntKind.i64 10] 3) = wA at hcb hB ⊢
  obtain ⟨n, hn⟩ : ∃ n, n = 2 + (figsFrom 10 a0.data.toList 2).length := ⟨_, rfl⟩
  have hnle : n ≤ a0.size := by
    rw [hn, ← HL.out]; exact figs_le _ _ _ (by rw [HL.out]; omega)
  have HN := Aside0.mk hn
  have hin : 2 ≤ n := by omega
  clear hn
  have HBB := Aside0.mk hB
  clear hB
  go_loop [5] (fun v => ∃ k : Nat, 2 ≤ k ∧ k ≤ n ∧ v = .int .i64 k) (fun v => n - (intOf v).toNat)
  case atStart => exact ⟨2, Nat.le_refl _, hin, rfl⟩
  case round =>
    obtain ⟨k, hk0, hk1, rfl⟩ := hrel
    by_cases hlt : k < n
    · have hks : k < a0.size := by omega
      obtain ⟨c, hc⟩ : ∃ c, c = a0[k]'hks := ⟨_, rfl⟩
      have hfig : fig 10 (c.toNat : Int) = true := by
        rw [hc, byte_at a0 k hks (by rw [HL.out]; exact hks)]
        exact figs_in _ _ 2 k _ hk0 (by rw [← HN.out]; exact hlt)
      have hc0 : (0 : Int) ≤ ((a0[k]'hks).toNat : Int) := by omega
      have hc1 : ((a0[k]'hks).toNat : Int) ≤ 255 := by have := (a0[k]'hks).toNat_lt; omega
      rw [hc] at hfig
      clear hc
      go_wp2_with (go_at_call 84; refine (fig_closure 10 _ (by omega) hc0 hc1 _ _ hcb).mono ?_; rintro e w2 ⟨rfl, rfl⟩)
      go_round
      case rel => exact ⟨k + 1, by omega, by omega, by go_num⟩
      case measure => simp [intOf]; omega
    · obtain rfl : k = n := by omega
      by_cases hend : k < a0.size
      · obtain ⟨c, hc⟩ : ∃ c, c = a0[k]'hend := ⟨_, rfl⟩
        have hfig : fig 10 (c.toNat : Int) = false := by
          have hk2 : k < a0.data.toList.length := by rw [HL.out]; exact hend
          rw [hc, byte_at a0 k hend hk2]
          have := figs_end 10 a0.data.toList 2 (by rw [← HN.out]; exact hk2)
          simpa only [← HN.out] using this
        have hc0 : (0 : Int) ≤ ((a0[k]'hend).toNat : Int) := by omega
        have hc1 : ((a0[k]'hend).toNat : Int) ≤ 255 := by have := (a0[k]'hend).toNat_lt; omega
        rw [hc] at hfig
        clear hc
        go_wp2_with (go_at_call 84; refine (fig_closure 10 _ (by omega) hc0 hc1 _ _ hcb).mono ?_; rintro e w2 ⟨rfl, rfl⟩)
        have hk0' : (2 : Int) ≤ (k : Int) := by omega
        have hk1' : (k : Int) ≤ (a0.size : Int) := by omega
        obtain ⟨v1, v2, hv⟩ : ∃ v1 v2, (v1, v2) = numberV 10 1114112 (figsFrom 10 a0.data.toList 2) := ⟨_, _, rfl⟩
        have hnum : class_Number.f (a0.extract 2 k) 10 1114112 = some (v1, v2) := by
          unfold class_Number.f
          rw [if_pos ⟨by rw [ByteArray.size_extract]; omega, by omega, by omega, by omega⟩, hv, extract_list]
          congr 2
          rw [figs_take]
          congr 1
          have := HN.out
          omega
        have hsemi : Lib.hasPrefix (a0.extract k a0.size).data.toList [59] = decide ((a0.data.toList.drop k).head? = some 59) := semi_head a0 k
        have hval : numericV a0.data.toList = if v2 = true then (Utf8.encode (codedV v1), if decide ((a0.data.toList.drop k).head? = some 59) = true then (k : Int) + 1 else (k : Int)) else (⟨#[]⟩, 0) := by
          rw [numericV_d _ HX.out, ← hv, ← HN.out]
          simp only [decide_eq_true_eq]
        generalize decide ((a0.data.toList.drop k).head? = some 59) = sm at hsemi hval
        have hpx : ∀ W : World, Calls Tryz.prog 63 #[.string (a0.extract k a0.size), .string ⟨#[59]⟩] W fun e w' => e = .returned (.bool sm) ∧ w' = W := fun W => (Tryz.strings_HasPrefix _ _ _).mono fun e w' ⟨he, hw⟩ => ⟨by rw [he, ← hsemi], hw⟩
        have HVAL := Aside0.mk hval
        clear hv hval hsemi
        go_region_held3 (fun w' => w'.cell? ⟨w.heap.size, 0, none⟩ = some (.int .i64 10) ∧ Aside0 (Below w.heap.size w w')) (first | exact ⟨hcb, ⟨HBB.out.drew⟩⟩ | (go_split_ands; refine ⟨pw_cell_below hbn (by assumption), ⟨below_step (Aside0.out (by assumption)) hbn⟩⟩)) (first | (go_at_call 86; refine (class_Number.calls _ _ _ v1 v2 _ hnum).mono ?_; rintro e w2 ⟨rfl, hbn⟩))
        go_split_ands
        cases v2
        · go_wp2
          go_ret2
          exact ⟨by rw [HVAL.out]; rfl, Aside0.out (by assumption)⟩
        · cases sm
          · have htok : True := trivial
            go_wp2_with (first | (go_at_call 63; refine (hpx _).mono ?_; rintro e w3 ⟨rfl, rfl⟩) | (go_at_call 87; refine (Coded_same _ _ (HG0.out.below (Aside0.out (by assumption)))).mono ?_; rintro e w4 ⟨rfl, m4, rfl⟩))
            go_ret2
            exact ⟨by rw [HVAL.out]; rfl, pw_below_drewN (Aside0.out (by assumption)) _⟩
          · have htok : True := trivial
            go_wp2_with (first | (go_at_call 63; refine (hpx _).mono ?_; rintro e w3 ⟨rfl, rfl⟩) | (go_at_call 87; refine (Coded_same _ _ (HG0.out.below (Aside0.out (by assumption)))).mono ?_; rintro e w4 ⟨rfl, m4, rfl⟩))
            go_ret2
            exact ⟨by rw [HVAL.out]; rfl, pw_below_drewN (Aside0.out (by assumption)) _⟩
      · go_wp2_with (fail)
        have hk0' : (2 : Int) ≤ (k : Int) := by omega
        have hk1' : (k : Int) ≤ (a0.size : Int) := by omega
        obtain ⟨v1, v2, hv⟩ : ∃ v1 v2, (v1, v2) = numberV 10 1114112 (figsFrom 10 a0.data.toList 2) := ⟨_, _, rfl⟩
        have hnum : class_Number.f (a0.extract 2 k) 10 1114112 = some (v1, v2) := by
          unfold class_Number.f
          rw [if_pos ⟨by rw [ByteArray.size_extract]; omega, by omega, by omega, by omega⟩, hv, extract_list]
          congr 2
          rw [figs_take]
          congr 1
          have := HN.out
          omega
        have hsemi : Lib.hasPrefix (a0.extract k a0.size).data.toList [59] = decide ((a0.data.toList.drop k).head? = some 59) := semi_head a0 k
        have hval : numericV a0.data.toList = if v2 = true then (Utf8.encode (codedV v1), if decide ((a0.data.toList.drop k).head? = some 59) = true then (k : Int) + 1 else (k : Int)) else (⟨#[]⟩, 0) := by
          rw [numericV_d _ HX.out, ← hv, ← HN.out]
          simp only [decide_eq_true_eq]
        generalize decide ((a0.data.toList.drop k).head? = some 59) = sm at hsemi hval
        have hpx : ∀ W : World, Calls Tryz.prog 63 #[.string (a0.extract k a0.size), .string ⟨#[59]⟩] W fun e w' => e = .returned (.bool sm) ∧ w' = W := fun W => (Tryz.strings_HasPrefix _ _ _).mono fun e w' ⟨he, hw⟩ => ⟨by rw [he, ← hsemi], hw⟩
        have HVAL := Aside0.mk hval
        clear hv hval hsemi
        go_region_held3 (fun w' => w'.cell? ⟨w.heap.size, 0, none⟩ = some (.int .i64 10) ∧ Aside0 (Below w.heap.size w w')) (first | exact ⟨hcb, ⟨HBB.out.drew⟩⟩ | (go_split_ands; refine ⟨pw_cell_below hbn (by assumption), ⟨below_step (Aside0.out (by assumption)) hbn⟩⟩)) (first | (go_at_call 86; refine (class_Number.calls _ _ _ v1 v2 _ hnum).mono ?_; rintro e w2 ⟨rfl, hbn⟩))
        go_split_ands
        cases v2
        · go_wp2
          go_ret2
          exact ⟨by rw [HVAL.out]; rfl, Aside0.out (by assumption)⟩
        · cases sm
          · have htok : True := trivial
            go_wp2_with (first | (go_at_call 63; refine (hpx _).mono ?_; rintro e w3 ⟨rfl, rfl⟩) | (go_at_call 87; refine (Coded_same _ _ (HG0.out.below (Aside0.out (by assumption)))).mono ?_; rintro e w4 ⟨rfl, m4, rfl⟩))
            go_ret2
            exact ⟨by rw [HVAL.out]; rfl, pw_below_drewN (Aside0.out (by assumption)) _⟩
          · have htok : True := trivial
            go_wp2_with (first | (go_at_call 63; refine (hpx _).mono ?_; rintro e w3 ⟨rfl, rfl⟩) | (go_at_call 87; refine (Coded_same _ _ (HG0.out.below (Aside0.out (by assumption)))).mono ?_; rintro e w4 ⟨rfl, m4, rfl⟩))
            go_ret2
            exact ⟨by rw [HVAL.out]; rfl, pw_below_drewN (Aside0.out (by assumption)) _⟩
set_option maxHeartbeats 4000000 in
set_option maxRecDepth 100000 in
theorem numeric_short (a0 : ByteArray) (w : World) (hG : Glob w) (h2 : 2 ≤ a0.size) (hsz : a0.size ≤ 140737488355328) (hx : isX a0.data.toList = false) (h3 : ¬ 2 < a0.size) :
    Calls Tryz.prog 64 #[.string a0] w fun e w' => e = .returned (.tuple #[.string (numericV a0.data.toList).1, .int .i64 (numericV a0.data.toList).2]) ∧ Below w.heap.size w w' := by
  have HL : Aside0 (a0.data.toList.length = a0.size) := ⟨by rw [Array.length_toList]; rfl⟩
  have HX := Aside0.mk hx
  clear hx
  have HG0 := Aside0.mk hG
  clear hG
  go_enter Tryz.func64, Tryz.ntmps64
  go_wp2
  have hcb : (w.alloc (Obj.cells #[Value.int IntKind.i64 10] 3)).cell? ⟨w.heap.size, 0, none⟩ = some (.int .i64 10) := by go_simp
  have hB : Below w.heap.size w (w.alloc (Obj.cells #[Value.int IntKind.i64 10] 3)) := (Below.refl _ _).alloc (Nat.le_refl _) _
  generalize w.alloc (Obj.cells #[Value.int IntKind.i64 10] 3) = wA at hcb hB ⊢
  obtain ⟨n, hn⟩ : ∃ n, n = 2 + (figsFrom 10 a0.data.toList 2).length := ⟨_, rfl⟩
  have hnle : n ≤ a0.size := by
    rw [hn, ← HL.out]; exact figs_le _ _ _ (by rw [HL.out]; omega)
  have HN := Aside0.mk hn
  have hin : 2 ≤ n := by omega
  clear hn
  have HBB := Aside0.mk hB
  clear hB
  go_loop [5] (fun v => ∃ k : Nat, 2 ≤ k ∧ k ≤ n ∧ v = .int .i64 k) (fun v => n - (intOf v).toNat)
  case atStart => exact ⟨2, Nat.le_refl _, hin, rfl⟩
  case round =>
    obtain ⟨k, hk0, hk1, rfl⟩ := hrel
    by_cases hlt : k < n
    · have hks : k < a0.size := by omega
      obtain ⟨c, hc⟩ : ∃ c, c = a0[k]'hks := ⟨_, rfl⟩
      have hfig : fig 10 (c.toNat : Int) = true := by
        rw [hc, byte_at a0 k hks (by rw [HL.out]; exact hks)]
        exact figs_in _ _ 2 k _ hk0 (by rw [← HN.out]; exact hlt)
      have hc0 : (0 : Int) ≤ ((a0[k]'hks).toNat : Int) := by omega
      have hc1 : ((a0[k]'hks).toNat : Int) ≤ 255 := by have := (a0[k]'hks).toNat_lt; omega
      rw [hc] at hfig
      clear hc
      go_wp2_with (go_at_call 84; refine (fig_closure 10 _ (by omega) hc0 hc1 _ _ hcb).mono ?_; rintro e w2 ⟨rfl, rfl⟩)
      go_round
      case rel => exact ⟨k + 1, by omega, by omega, by go_num⟩
      case measure => simp [intOf]; omega
    · obtain rfl : k = n := by omega
      by_cases hend : k < a0.size
      · obtain ⟨c, hc⟩ : ∃ c, c = a0[k]'hend := ⟨_, rfl⟩
        have hfig : fig 10 (c.toNat : Int) = false := by
          have hk2 : k < a0.data.toList.length := by rw [HL.out]; exact hend
          rw [hc, byte_at a0 k hend hk2]
          have := figs_end 10 a0.data.toList 2 (by rw [← HN.out]; exact hk2)
          simpa only [← HN.out] using this
        have hc0 : (0 : Int) ≤ ((a0[k]'hend).toNat : Int) := by omega
        have hc1 : ((a0[k]'hend).toNat : Int) ≤ 255 := by have := (a0[k]'hend).toNat_lt; omega
        rw [hc] at hfig
        clear hc
        go_wp2_with (go_at_call 84; refine (fig_closure 10 _ (by omega) hc0 hc1 _ _ hcb).mono ?_; rintro e w2 ⟨rfl, rfl⟩)
        have hk0' : (2 : Int) ≤ (k : Int) := by omega
        have hk1' : (k : Int) ≤ (a0.size : Int) := by omega
        obtain ⟨v1, v2, hv⟩ : ∃ v1 v2, (v1, v2) = numberV 10 1114112 (figsFrom 10 a0.data.toList 2) := ⟨_, _, rfl⟩
        have hnum : class_Number.f (a0.extract 2 k) 10 1114112 = some (v1, v2) := by
          unfold class_Number.f
          rw [if_pos ⟨by rw [ByteArray.size_extract]; omega, by omega, by omega, by omega⟩, hv, extract_list]
          congr 2
          rw [figs_take]
          congr 1
          have := HN.out
          omega
        have hsemi : Lib.hasPrefix (a0.extract k a0.size).data.toList [59] = decide ((a0.data.toList.drop k).head? = some 59) := semi_head a0 k
        have hval : numericV a0.data.toList = if v2 = true then (Utf8.encode (codedV v1), if decide ((a0.data.toList.drop k).head? = some 59) = true then (k : Int) + 1 else (k : Int)) else (⟨#[]⟩, 0) := by
          rw [numericV_d _ HX.out, ← hv, ← HN.out]
          simp only [decide_eq_true_eq]
        generalize decide ((a0.data.toList.drop k).head? = some 59) = sm at hsemi hval
        have hpx : ∀ W : World, Calls Tryz.prog 63 #[.string (a0.extract k a0.size), .string ⟨#[59]⟩] W fun e w' => e = .returned (.bool sm) ∧ w' = W := fun W => (Tryz.strings_HasPrefix _ _ _).mono fun e w' ⟨he, hw⟩ => ⟨by rw [he, ← hsemi], hw⟩
        have HVAL := Aside0.mk hval
        clear hv hval hsemi
        go_region_held3 (fun w' => w'.cell? ⟨w.heap.size, 0, none⟩ = some (.int .i64 10) ∧ Aside0 (Below w.heap.size w w')) (first | exact ⟨hcb, ⟨HBB.out.drew⟩⟩ | (go_split_ands; refine ⟨pw_cell_below hbn (by assumption), ⟨below_step (Aside0.out (by assumption)) hbn⟩⟩)) (first | (go_at_call 86; refine (class_Number.calls _ _ _ v1 v2 _ hnum).mono ?_; rintro e w2 ⟨rfl, hbn⟩))
        go_split_ands
        cases v2
        · go_wp2
          go_ret2
          exact ⟨by rw [HVAL.out]; rfl, Aside0.out (by assumption)⟩
        · cases sm
          · have htok : True := trivial
            go_wp2_with (first | (go_at_call 63; refine (hpx _).mono ?_; rintro e w3 ⟨rfl, rfl⟩) | (go_at_call 87; refine (Coded_same _ _ (HG0.out.below (Aside0.out (by assumption)))).mono ?_; rintro e w4 ⟨rfl, m4, rfl⟩))
            go_ret2
            exact ⟨by rw [HVAL.out]; rfl, pw_below_drewN (Aside0.out (by assumption)) _⟩
          · have htok : True := trivial
            go_wp2_with (first | (go_at_call 63; refine (hpx _).mono ?_; rintro e w3 ⟨rfl, rfl⟩) | (go_at_call 87; refine (Coded_same _ _ (HG0.out.below (Aside0.out (by assumption)))).mono ?_; rintro e w4 ⟨rfl, m4, rfl⟩))
            go_ret2
            exact ⟨by rw [HVAL.out]; rfl, pw_below_drewN (Aside0.out (by assumption)) _⟩
      · go_wp2_with (fail)
        have hk0' : (2 : Int) ≤ (k : Int) := by omega
        have hk1' : (k : Int) ≤ (a0.size : Int) := by omega
        obtain ⟨v1, v2, hv⟩ : ∃ v1 v2, (v1, v2) = numberV 10 1114112 (figsFrom 10 a0.data.toList 2) := ⟨_, _, rfl⟩
        have hnum : class_Number.f (a0.extract 2 k) 10 1114112 = some (v1, v2) := by
          unfold class_Number.f
          rw [if_pos ⟨by rw [ByteArray.size_extract]; omega, by omega, by omega, by omega⟩, hv, extract_list]
          congr 2
          rw [figs_take]
          congr 1
          have := HN.out
          omega
        have hsemi : Lib.hasPrefix (a0.extract k a0.size).data.toList [59] = decide ((a0.data.toList.drop k).head? = some 59) := semi_head a0 k
        have hval : numericV a0.data.toList = if v2 = true then (Utf8.encode (codedV v1), if decide ((a0.data.toList.drop k).head? = some 59) = true then (k : Int) + 1 else (k : Int)) else (⟨#[]⟩, 0) := by
          rw [numericV_d _ HX.out, ← hv, ← HN.out]
          simp only [decide_eq_true_eq]
        generalize decide ((a0.data.toList.drop k).head? = some 59) = sm at hsemi hval
        have hpx : ∀ W : World, Calls Tryz.prog 63 #[.string (a0.extract k a0.size), .string ⟨#[59]⟩] W fun e w' => e = .returned (.bool sm) ∧ w' = W := fun W => (Tryz.strings_HasPrefix _ _ _).mono fun e w' ⟨he, hw⟩ => ⟨by rw [he, ← hsemi], hw⟩
        have HVAL := Aside0.mk hval
        clear hv hval hsemi
        go_region_held3 (fun w' => w'.cell? ⟨w.heap.size, 0, none⟩ = some (.int .i64 10) ∧ Aside0 (Below w.heap.size w w')) (first | exact ⟨hcb, ⟨HBB.out.drew⟩⟩ | (go_split_ands; refine ⟨pw_cell_below hbn (by assumption), ⟨below_step (Aside0.out (by assumption)) hbn⟩⟩)) (first | (go_at_call 86; refine (class_Number.calls _ _ _ v1 v2 _ hnum).mono ?_; rintro e w2 ⟨rfl, hbn⟩))
        go_split_ands
        cases v2
        · go_wp2
          go_ret2
          exact ⟨by rw [HVAL.out]; rfl, Aside0.out (by assumption)⟩
        · cases sm
          · have htok : True := trivial
            go_wp2_with (first | (go_at_call 63; refine (hpx _).mono ?_; rintro e w3 ⟨rfl, rfl⟩) | (go_at_call 87; refine (Coded_same _ _ (HG0.out.below (Aside0.out (by assumption)))).mono ?_; rintro e w4 ⟨rfl, m4, rfl⟩))
            go_ret2
            exact ⟨by rw [HVAL.out]; rfl, pw_below_drewN (Aside0.out (by assumption)) _⟩
          · have htok : True := trivial
            go_wp2_with (first | (go_at_call 63; refine (hpx _).mono ?_; rintro e w3 ⟨rfl, rfl⟩) | (go_at_call 87; refine (Coded_same _ _ (HG0.out.below (Aside0.out (by assumption)))).mono ?_; rintro e w4 ⟨rfl, m4, rfl⟩))
            go_ret2
            exact ⟨by rw [HVAL.out]; rfl, pw_below_drewN (Aside0.out (by assumption)) _⟩
set_option maxHeartbeats 4000000 in
set_option maxRecDepth 100000 in
theorem numeric_hex (a0 : ByteArray) (w : World) (hG : Glob w) (h2 : 2 ≤ a0.size) (hsz : a0.size ≤ 140737488355328) (hx : isX a0.data.toList = true) (h3 : 2 < a0.size) :
    Calls Tryz.prog 64 #[.string a0] w fun e w' => e = .returned (.tuple #[.string (numericV a0.data.toList).1, .int .i64 (numericV a0.data.toList).2]) ∧ Below w.heap.size w w' := by
  have HL : Aside0 (a0.data.toList.length = a0.size) := ⟨by rw [Array.length_toList]; rfl⟩
  have hd3 : a0.data.toList.drop 2 = a0[2] :: a0.data.toList.drop 3 := by
    rw [List.drop_eq_getElem_cons (by rw [HL.out]; exact h3)]; rfl
  have hxb : (bits BinOp.or IntKind.u8 ((a0[2]'h3).toNat : Int) 32 == 120) = true := by
    rw [x_bits]
    simpa [isX, hd3] using hx
  clear hd3
  have HX := Aside0.mk hx
  clear hx
  have HG0 := Aside0.mk hG
  clear hG
  go_enter Tryz.func64, Tryz.ntmps64
  go_wp2
  have hcb : (w.alloc (Obj.cells #[Value.int IntKind.i64 16] 3)).cell? ⟨w.heap.size, 0, none⟩ = some (.int .i64 16) := by go_simp
  have hB : Below w.heap.size w (w.alloc (Obj.cells #[Value.int IntKind.i64 16] 3)) := (Below.refl _ _).alloc (Nat.le_refl _) _
  generalize w.alloc (Obj.cells #[Value.int IntKind.i64 16] 3) = wA at hcb hB ⊢
  obtain ⟨n, hn⟩ : ∃ n, n = 3 + (figsFrom 16 a0.data.toList 3).length := ⟨_, rfl⟩
  have hnle : n ≤ a0.size := by
    rw [hn, ← HL.out]; exact figs_le _ _ _ (by rw [HL.out]; omega)
  have HN := Aside0.mk hn
  have hin : 3 ≤ n := by omega
  clear hn
  have HBB := Aside0.mk hB
  clear hB
  go_loop [5] (fun v => ∃ k : Nat, 3 ≤ k ∧ k ≤ n ∧ v = .int .i64 k) (fun v => n - (intOf v).toNat)
  case atStart => exact ⟨3, Nat.le_refl _, hin, rfl⟩
  case round =>
    obtain ⟨k, hk0, hk1, rfl⟩ := hrel
    by_cases hlt : k < n
    · have hks : k < a0.size := by omega
      obtain ⟨c, hc⟩ : ∃ c, c = a0[k]'hks := ⟨_, rfl⟩
      have hfig : fig 16 (c.toNat : Int) = true := by
        rw [hc, byte_at a0 k hks (by rw [HL.out]; exact hks)]
        exact figs_in _ _ 3 k _ hk0 (by rw [← HN.out]; exact hlt)
      have hc0 : (0 : Int) ≤ ((a0[k]'hks).toNat : Int) := by omega
      have hc1 : ((a0[k]'hks).toNat : Int) ≤ 255 := by have := (a0[k]'hks).toNat_lt; omega
      rw [hc] at hfig
      clear hc
      go_wp2_with (go_at_call 84; refine (fig_closure 16 _ (by omega) hc0 hc1 _ _ hcb).mono ?_; rintro e w2 ⟨rfl, rfl⟩)
      go_round
      case rel => exact ⟨k + 1, by omega, by omega, by go_num⟩
      case measure => simp [intOf]; omega
    · obtain rfl : k = n := by omega
      by_cases hend : k < a0.size
      · obtain ⟨c, hc⟩ : ∃ c, c = a0[k]'hend := ⟨_, rfl⟩
        have hfig : fig 16 (c.toNat : Int) = false := by
          have hk2 : k < a0.data.toList.length := by rw [HL.out]; exact hend
          rw [hc, byte_at a0 k hend hk2]
          have := figs_end 16 a0.data.toList 3 (by rw [← HN.out]; exact hk2)
          simpa only [← HN.out] using this
        have hc0 : (0 : Int) ≤ ((a0[k]'hend).toNat : Int) := by omega
        have hc1 : ((a0[k]'hend).toNat : Int) ≤ 255 := by have := (a0[k]'hend).toNat_lt; omega
        rw [hc] at hfig
        clear hc
        go_wp2_with (go_at_call 84; refine (fig_closure 16 _ (by omega) hc0 hc1 _ _ hcb).mono ?_; rintro e w2 ⟨rfl, rfl⟩)
        have hk0' : (3 : Int) ≤ (k : Int) := by omega
        have hk1' : (k : Int) ≤ (a0.size : Int) := by omega
        obtain ⟨v1, v2, hv⟩ : ∃ v1 v2, (v1, v2) = numberV 16 1114112 (figsFrom 16 a0.data.toList 3) := ⟨_, _, rfl⟩
        have hnum : class_Number.f (a0.extract 3 k) 16 1114112 = some (v1, v2) := by
          unfold class_Number.f
          rw [if_pos ⟨by rw [ByteArray.size_extract]; omega, by omega, by omega, by omega⟩, hv, extract_list]
          congr 2
          rw [figs_take]
          congr 1
          have := HN.out
          omega
        have hsemi : Lib.hasPrefix (a0.extract k a0.size).data.toList [59] = decide ((a0.data.toList.drop k).head? = some 59) := semi_head a0 k
        have hval : numericV a0.data.toList = if v2 = true then (Utf8.encode (codedV v1), if decide ((a0.data.toList.drop k).head? = some 59) = true then (k : Int) + 1 else (k : Int)) else (⟨#[]⟩, 0) := by
          rw [numericV_x _ HX.out, ← hv, ← HN.out]
          simp only [decide_eq_true_eq]
        generalize decide ((a0.data.toList.drop k).head? = some 59) = sm at hsemi hval
        have hpx : ∀ W : World, Calls Tryz.prog 63 #[.string (a0.extract k a0.size), .string ⟨#[59]⟩] W fun e w' => e = .returned (.bool sm) ∧ w' = W := fun W => (Tryz.strings_HasPrefix _ _ _).mono fun e w' ⟨he, hw⟩ => ⟨by rw [he, ← hsemi], hw⟩
        have HVAL := Aside0.mk hval
        clear hv hval hsemi
        go_region_held3 (fun w' => w'.cell? ⟨w.heap.size, 0, none⟩ = some (.int .i64 16) ∧ Aside0 (Below w.heap.size w w')) (first | exact ⟨hcb, ⟨HBB.out.drew⟩⟩ | (go_split_ands; refine ⟨pw_cell_below hbn (by assumption), ⟨below_step (Aside0.out (by assumption)) hbn⟩⟩)) (first | (go_at_call 86; refine (class_Number.calls _ _ _ v1 v2 _ hnum).mono ?_; rintro e w2 ⟨rfl, hbn⟩))
        go_split_ands
        cases v2
        · go_wp2
          go_ret2
          exact ⟨by rw [HVAL.out]; rfl, Aside0.out (by assumption)⟩
        · cases sm
          · have htok : True := trivial
            go_wp2_with (first | (go_at_call 63; refine (hpx _).mono ?_; rintro e w3 ⟨rfl, rfl⟩) | (go_at_call 87; refine (Coded_same _ _ (HG0.out.below (Aside0.out (by assumption)))).mono ?_; rintro e w4 ⟨rfl, m4, rfl⟩))
            go_ret2
            exact ⟨by rw [HVAL.out]; rfl, pw_below_drewN (Aside0.out (by assumption)) _⟩
          · have htok : True := trivial
            go_wp2_with (first | (go_at_call 63; refine (hpx _).mono ?_; rintro e w3 ⟨rfl, rfl⟩) | (go_at_call 87; refine (Coded_same _ _ (HG0.out.below (Aside0.out (by assumption)))).mono ?_; rintro e w4 ⟨rfl, m4, rfl⟩))
            go_ret2
            exact ⟨by rw [HVAL.out]; rfl, pw_below_drewN (Aside0.out (by assumption)) _⟩
      · go_wp2_with (fail)
        have hk0' : (3 : Int) ≤ (k : Int) := by omega
        have hk1' : (k : Int) ≤ (a0.size : Int) := by omega
        obtain ⟨v1, v2, hv⟩ : ∃ v1 v2, (v1, v2) = numberV 16 1114112 (figsFrom 16 a0.data.toList 3) := ⟨_, _, rfl⟩
        have hnum : class_Number.f (a0.extract 3 k) 16 1114112 = some (v1, v2) := by
          unfold class_Number.f
          rw [if_pos ⟨by rw [ByteArray.size_extract]; omega, by omega, by omega, by omega⟩, hv, extract_list]
          congr 2
          rw [figs_take]
          congr 1
          have := HN.out
          omega
        have hsemi : Lib.hasPrefix (a0.extract k a0.size).data.toList [59] = decide ((a0.data.toList.drop k).head? = some 59) := semi_head a0 k
        have hval : numericV a0.data.toList = if v2 = true then (Utf8.encode (codedV v1), if decide ((a0.data.toList.drop k).head? = some 59) = true then (k : Int) + 1 else (k : Int)) else (⟨#[]⟩, 0) := by
          rw [numericV_x _ HX.out, ← hv, ← HN.out]
          simp only [decide_eq_true_eq]
        generalize decide ((a0.data.toList.drop k).head? = some 59) = sm at hsemi hval
        have hpx : ∀ W : World, Calls Tryz.prog 63 #[.string (a0.extract k a0.size), .string ⟨#[59]⟩] W fun e w' => e = .returned (.bool sm) ∧ w' = W := fun W => (Tryz.strings_HasPrefix _ _ _).mono fun e w' ⟨he, hw⟩ => ⟨by rw [he, ← hsemi], hw⟩
        have HVAL := Aside0.mk hval
        clear hv hval hsemi
        go_region_held3 (fun w' => w'.cell? ⟨w.heap.size, 0, none⟩ = some (.int .i64 16) ∧ Aside0 (Below w.heap.size w w')) (first | exact ⟨hcb, ⟨HBB.out.drew⟩⟩ | (go_split_ands; refine ⟨pw_cell_below hbn (by assumption), ⟨below_step (Aside0.out (by assumption)) hbn⟩⟩)) (first | (go_at_call 86; refine (class_Number.calls _ _ _ v1 v2 _ hnum).mono ?_; rintro e w2 ⟨rfl, hbn⟩))
        go_split_ands
        cases v2
        · go_wp2
          go_ret2
          exact ⟨by rw [HVAL.out]; rfl, Aside0.out (by assumption)⟩
        · cases sm
          · have htok : True := trivial
            go_wp2_with (first | (go_at_call 63; refine (hpx _).mono ?_; rintro e w3 ⟨rfl, rfl⟩) | (go_at_call 87; refine (Coded_same _ _ (HG0.out.below (Aside0.out (by assumption)))).mono ?_; rintro e w4 ⟨rfl, m4, rfl⟩))
            go_ret2
            exact ⟨by rw [HVAL.out]; rfl, pw_below_drewN (Aside0.out (by assumption)) _⟩
          · have htok : True := trivial
            go_wp2_with (first | (go_at_call 63; refine (hpx _).mono ?_; rintro e w3 ⟨rfl, rfl⟩) | (go_at_call 87; refine (Coded_same _ _ (HG0.out.below (Aside0.out (by assumption)))).mono ?_; rintro e w4 ⟨rfl, m4, rfl⟩))
            go_ret2
            exact ⟨by rw [HVAL.out]; rfl, pw_below_drewN (Aside0.out (by assumption)) _⟩
theorem charref_numeric.calls (a0 : ByteArray) (r1 : ByteArray) (r2 : Int) (w : World) (hG : Glob w) (h : charref_numeric.f a0 = some (r1, r2)) :
    Calls Tryz.prog 64 #[.string a0] w fun e w' => e = .returned (.tuple #[.string r1, .int .i64 r2]) ∧ Below w.heap.size w w' := by
  unfold charref_numeric.f at h
  split at h
  case isFalse => cases h
  rename_i hs
  have h := Option.some.inj h
  have e1 : r1 = (numericV a0.data.toList).1 := by rw [h]
  have e2 : r2 = (numericV a0.data.toList).2 := by rw [h]
  subst e1; subst e2
  cases hx : isX a0.data.toList
  · by_cases h3 : 2 < a0.size
    · exact numeric_dec a0 w hG hs.1 hs.2 hx h3
    · exact numeric_short a0 w hG hs.1 hs.2 hx h3
  · have h3 : 2 < a0.size := by
      rcases Nat.lt_or_ge 2 a0.size with h3 | h3
      · exact h3
      · have : a0.data.toList.drop 2 = [] := List.drop_eq_nil_of_le (by rw [Array.length_toList]; exact h3)
        simp [isX, this] at hx
    exact numeric_hex a0 w hG hs.1 hs.2 hx h3

end Go.Proofs.YtoacojkmclngmaaGreatDoor.Pz

-- written by the session's own program hookprint.py
namespace Go.Proofs.YtoacojkmclngmaaGreatDoor.Pz
open Go.RowKit Go.Proofs.YtoacojkmclngmaaGreatDoorW.PrintWords Go.Proofs.YtoacojkmclngmaaGreatDoorW.PrintLast Go.Proofs.YtoacojkmclngmaaGreatDoorW.PrintMore
attribute [local go_sem] max2_int min2_int max_two min_two max_three min_three max_four min_four   -- for this text's walks alone
attribute [local go_sem] rune_str
set_option linter.unusedVariables false
set_option linter.unusedSimpArgs false

/-! ### entity_Named: function 65 (by hand) -/
def entity_Named.f (a0 : ByteArray) : Option (ByteArray × Int) := none
theorem entity_Named.calls (a0 : ByteArray) (r1 : ByteArray) (r2 : Int) (w : World) (hG : Glob w) (h : entity_Named.f a0 = some (r1, r2)) :
    Calls Tryz.prog 65 #[.string a0] w fun e w' => e = .returned (.tuple #[.string r1, .int .i64 r2]) ∧ Below w.heap.size w w' := by
  exact absurd h (by simp [entity_Named.f])

end Go.Proofs.YtoacojkmclngmaaGreatDoor.Pz

-- written by the session's own program hookprint.py
namespace Go.Proofs.YtoacojkmclngmaaGreatDoor.Pz
open Go.RowKit Go.Proofs.YtoacojkmclngmaaGreatDoorW.PrintWords Go.Proofs.YtoacojkmclngmaaGreatDoorW.PrintLast Go.Proofs.YtoacojkmclngmaaGreatDoorW.PrintMore
attribute [local go_sem] max2_int min2_int max_two min_two max_three min_three max_four min_four   -- for this text's walks alone
attribute [local go_sem] rune_str
set_option linter.unusedVariables false
set_option linter.unusedSimpArgs false

/-! ### class_Letter: function 92 (by hand) -/
def isLetter (c : Int) : Bool := decide (65 ≤ c) && decide (c ≤ 90) || decide (97 ≤ c) && decide (c ≤ 122)
theorem letter_bits (c : Int) (h0 : 0 ≤ c) (h1 : c ≤ 255) : (decide (97 ≤ bits BinOp.or IntKind.u8 c 32) && decide (bits BinOp.or IntKind.u8 c 32 ≤ 122)) = isLetter c := by
  have h : ∀ n : Fin 256, (decide (97 ≤ bits BinOp.or IntKind.u8 (n.val : Int) 32) && decide (bits BinOp.or IntKind.u8 (n.val : Int) 32 ≤ 122)) = isLetter (n.val : Int) := by decide +kernel
  have := h ⟨c.toNat, by omega⟩
  simpa [Int.toNat_of_nonneg h0] using this
theorem Letter_same (c : Int) (h0 : 0 ≤ c) (h1 : c ≤ 255) (w : World) : Calls Tryz.prog 92 #[.int .u8 c] w fun e w' => e = .returned (.bool (isLetter c)) ∧ w = w' := by
  rw [← letter_bits c h0 h1]
  go_enter Tryz.func92, Tryz.ntmps92
  go_wp2_with (go_at_call 39; refine (between_same _ _ _ _).mono ?_; rintro e w2 ⟨rfl, rfl⟩)
  go_ret
  exact ⟨rfl, rfl⟩
def class_Letter.f (a0 : Int) : Option Bool := if 0 ≤ a0 ∧ a0 ≤ 255 then some (isLetter a0) else none
theorem class_Letter.calls (a0 : Int) (r : Bool) (w : World) (h : class_Letter.f a0 = some r) :
    Calls Tryz.prog 92 #[.int .u8 a0] w fun e w' => e = .returned (.bool r) ∧ Drawn0 w w' := by
  unfold class_Letter.f at h
  split at h
  case isFalse => cases h
  rename_i hs
  obtain rfl := Option.some.inj h
  exact (Letter_same a0 hs.1 hs.2 w).mono fun e w' ⟨he, hw⟩ => ⟨he, hw ▸ Drawn0.refl w⟩

end Go.Proofs.YtoacojkmclngmaaGreatDoor.Pz

-- written by the session's own program hookprint.py
namespace Go.Proofs.YtoacojkmclngmaaGreatDoor.Pz
open Go.RowKit Go.Proofs.YtoacojkmclngmaaGreatDoorW.PrintWords Go.Proofs.YtoacojkmclngmaaGreatDoorW.PrintLast Go.Proofs.YtoacojkmclngmaaGreatDoorW.PrintMore
attribute [local go_sem] max2_int min2_int max_two min_two max_three min_three max_four min_four   -- for this text's walks alone
attribute [local go_sem] rune_str
set_option linter.unusedVariables false
set_option linter.unusedSimpArgs false

/-! ### charref_goes: function 66 -/
def charref_goes.f (a0 : Int) : Option (Bool) := if a0 = 61 then (some true) else ((class_Letter.f a0).bind fun t113 => (if t113 = true then (some true) else ((class_Digit.f a0).bind fun t114 => (some t114))))
set_option maxHeartbeats 8000000 in
set_option maxRecDepth 100000 in
theorem charref_goes.calls (a0 : Int) (r : Bool) (w : World) (h : charref_goes.f a0 = some r) :
    Calls Tryz.prog 66 #[.int .u8 a0] w fun e w' => e = .returned (.bool r) ∧ Drawn0 w w' := by
  have H : (if a0 = 61 then (some true) else ((class_Letter.f a0).bind fun t113 => (if t113 = true then (some true) else ((class_Digit.f a0).bind fun t114 => (some t114))))) = some r := h
  clear h
  by_cases c2 : a0 = 61
  · rw [if_pos c2] at H
    have c2b0 : (a0 == 61) = true := beq_iff_eq.mpr c2
    have c2b1 : (a0 != 61) = false := bne_eq_false_iff_eq.mpr c2
    clear c2
    obtain rfl := Option.some.inj H
    go_enter Tryz.func66, Tryz.ntmps66
    go_wp2
    go_ret
    exact ⟨by first | rfl | (simp; done) | (simp [*]; done), by repeat (first | exact Drawn0.refl _ | apply Drawn0.step)⟩
  · rw [if_neg c2] at H
    have c2b0 : (a0 == 61) = false := beq_eq_false_iff_ne.mpr c2
    have c2b1 : (a0 != 61) = true := bne_iff_ne.mpr c2
    replace H := Option.bind_eq_some_iff.mp H
    obtain ⟨t113, A30, H⟩ := H
    replace H : (if t113 = true then (some true) else ((class_Digit.f a0).bind fun t114 => (some t114))) = some r := H
    have A3 := Aside0.mk A30
    clear A30
    by_cases c4 : t113 = true
    · subst c4
      have H1 : (some true) = some r := by rw [if_pos rfl] at H; exact H
      clear H
      have H := H1
      clear H1
      obtain rfl := Option.some.inj H
      go_enter Tryz.func66, Tryz.ntmps66
      go_wp2_with (first | (go_at_call 92; refine calls_of_args (args' := #[.int .u8 a0]) (by first | rfl | rfl) ?_; (with_reducible refine (class_Letter.calls a0 true _ A3.out).mono ?_); rintro e w' ⟨rfl, ⟨nd, rfl⟩⟩))
      go_ret
      exact ⟨by first | rfl | (simp; done) | (simp [*]; done), by repeat (first | exact Drawn0.refl _ | apply Drawn0.step)⟩
    · replace c4 := Bool.eq_false_iff.mpr c4
      subst c4
      have H1 : ((class_Digit.f a0).bind fun t114 => (some t114)) = some r := by rw [if_neg (show ¬ (false = true) by decide)] at H; exact H
      clear H
      have H := H1
      clear H1
      replace H := Option.bind_eq_some_iff.mp H
      obtain ⟨t114, A50, H⟩ := H
      replace H : (some t114) = some r := H
      have A5 := Aside0.mk A50
      clear A50
      obtain rfl := Option.some.inj H
      go_enter Tryz.func66, Tryz.ntmps66
      go_wp2_with (first | (go_at_call 92; refine calls_of_args (args' := #[.int .u8 a0]) (by first | rfl | rfl) ?_; (with_reducible refine (class_Letter.calls a0 false _ A3.out).mono ?_); rintro e w' ⟨rfl, ⟨nd, rfl⟩⟩) | (go_at_call 41; refine calls_of_args (args' := #[.int .u8 a0]) (by first | rfl | rfl) ?_; (with_reducible refine (class_Digit.calls a0 t114 _ A5.out).mono ?_); rintro e w' ⟨rfl, ⟨nd, rfl⟩⟩))
      go_ret
      exact ⟨by first | rfl | (simp; done) | (simp [*]; done), by repeat (first | exact Drawn0.refl _ | apply Drawn0.step)⟩

end Go.Proofs.YtoacojkmclngmaaGreatDoor.Pz

-- written by the session's own program hookprint.py
namespace Go.Proofs.YtoacojkmclngmaaGreatDoor.Pz
open Go.RowKit Go.Proofs.YtoacojkmclngmaaGreatDoorW.PrintWords Go.Proofs.YtoacojkmclngmaaGreatDoorW.PrintLast Go.Proofs.YtoacojkmclngmaaGreatDoorW.PrintMore
attribute [local go_sem] max2_int min2_int max_two min_two max_three min_three max_four min_four   -- for this text's walks alone
attribute [local go_sem] rune_str
set_option linter.unusedVariables false
set_option linter.unusedSimpArgs false

/-! ### charref_One: function 45 -/
def charref_One.f (a0 : ByteArray) (a1 : Bool) : Option (ByteArray × Int) := (strings_HasPrefix.f a0 (⟨#[38]⟩ : ByteArray)).bind fun t115 => (if t115 = true then ((strings_HasPrefix.f a0 (⟨#[38, 35]⟩ : ByteArray)).bind fun t116 => (if t116 = true then ((charref_numeric.f a0).bind fun bt117 => (some (bt117.1, bt117.2))) else (if 1 ≤ (a0.size : Int) then ((entity_Named.f (a0.extract 1 a0.size)).bind fun bt119 => (if bt119.2 = 0 then (some ((⟨#[]⟩ : ByteArray), 0)) else (if a1 = true then (if 0 ≤ bt119.2 then (if bt119.2 < (a0.size : Int) then (if (bt a0 bt119.2) = 59 then (some (bt119.1, wrap64 (bt119.2 + 1))) else (if (wrap64 (bt119.2 + 1)) < (a0.size : Int) then (if 0 ≤ (wrap64 (bt119.2 + 1)) then ((charref_goes.f (bt a0 (wrap64 (bt119.2 + 1)))).bind fun t121 => (if t121 = true then (some ((⟨#[]⟩ : ByteArray), 0)) else (some (bt119.1, wrap64 (bt119.2 + 1))))) else (none)) else (some (bt119.1, wrap64 (bt119.2 + 1))))) else (none)) else (none)) else (some (bt119.1, wrap64 (bt119.2 + 1)))))) else (none)))) else (some ((⟨#[]⟩ : ByteArray), 0)))
set_option maxHeartbeats 8000000 in
set_option maxRecDepth 100000 in
theorem charref_One.calls (a0 : ByteArray) (a1 : Bool) (r1 : ByteArray) (r2 : Int) (w : World) (hG : Glob w) (h : charref_One.f a0 a1 = some (r1, r2)) :
    Calls Tryz.prog 45 #[.string a0, .bool a1] w fun e w' => e = .returned (.tuple #[.string r1, .int .i64 r2]) ∧ Below w.heap.size w w' := by
  have HB := Aside0.mk (Below.refl w.heap.size w)
  have H : ((strings_HasPrefix.f a0 (⟨#[38]⟩ : ByteArray)).bind fun t115 => (if t115 = true then ((strings_HasPrefix.f a0 (⟨#[38, 35]⟩ : ByteArray)).bind fun t116 => (if t116 = true then ((charref_numeric.f a0).bind fun bt117 => (some (bt117.1, bt117.2))) else (if 1 ≤ (a0.size : Int) then ((entity_Named.f (a0.extract 1 a0.size)).bind fun bt119 => (if bt119.2 = 0 then (some ((⟨#[]⟩ : ByteArray), 0)) else (if a1 = true then (if 0 ≤ bt119.2 then (if bt119.2 < (a0.size : Int) then (if (bt a0 bt119.2) = 59 then (some (bt119.1, wrap64 (bt119.2 + 1))) else (if (wrap64 (bt119.2 + 1)) < (a0.size : Int) then (if 0 ≤ (wrap64 (bt119.2 + 1)) then ((charref_goes.f (bt a0 (wrap64 (bt119.2 + 1)))).bind fun t121 => (if t121 = true then (some ((⟨#[]⟩ : ByteArray), 0)) else (some (bt119.1, wrap64 (bt119.2 + 1))))) else (none)) else (some (bt119.1, wrap64 (bt119.2 + 1))))) else (none)) else (none)) else (some (bt119.1, wrap64 (bt119.2 + 1)))))) else (none)))) else (some ((⟨#[]⟩ : ByteArray), 0)))) = some (r1, r2) := h
  clear h
  replace H := Option.bind_eq_some_iff.mp H
  obtain ⟨t115, A30, H⟩ := H
  replace H : (if t115 = true then ((strings_HasPrefix.f a0 (⟨#[38, 35]⟩ : ByteArray)).bind fun t116 => (if t116 = true then ((charref_numeric.f a0).bind fun bt117 => (some (bt117.1, bt117.2))) else (if 1 ≤ (a0.size : Int) then ((entity_Named.f (a0.extract 1 a0.size)).bind fun bt119 => (if bt119.2 = 0 then (some ((⟨#[]⟩ : ByteArray), 0)) else (if a1 = true then (if 0 ≤ bt119.2 then (if bt119.2 < (a0.size : Int) then (if (bt a0 bt119.2) = 59 then (some (bt119.1, wrap64 (bt119.2 + 1))) else (if (wrap64 (bt119.2 + 1)) < (a0.size : Int) then (if 0 ≤ (wrap64 (bt119.2 + 1)) then ((charref_goes.f (bt a0 (wrap64 (bt119.2 + 1)))).bind fun t121 => (if t121 = true then (some ((⟨#[]⟩ : ByteArray), 0)) else (some (bt119.1, wrap64 (bt119.2 + 1))))) else (none)) else (some (bt119.1, wrap64 (bt119.2 + 1))))) else (none)) else (none)) else (some (bt119.1, wrap64 (bt119.2 + 1)))))) else (none)))) else (some ((⟨#[]⟩ : ByteArray), 0))) = some (r1, r2) := H
  have A3 := Aside0.mk A30
  clear A30
  by_cases c4 : t115 = true
  · subst c4
    have H1 : ((strings_HasPrefix.f a0 (⟨#[38, 35]⟩ : ByteArray)).bind fun t116 => (if t116 = true then ((charref_numeric.f a0).bind fun bt117 => (some (bt117.1, bt117.2))) else (if 1 ≤ (a0.size : Int) then ((entity_Named.f (a0.extract 1 a0.size)).bind fun bt119 => (if bt119.2 = 0 then (some ((⟨#[]⟩ : ByteArray), 0)) else (if a1 = true then (if 0 ≤ bt119.2 then (if bt119.2 < (a0.size : Int) then (if (bt a0 bt119.2) = 59 then (some (bt119.1, wrap64 (bt119.2 + 1))) else (if (wrap64 (bt119.2 + 1)) < (a0.size : Int) then (if 0 ≤ (wrap64 (bt119.2 + 1)) then ((charref_goes.f (bt a0 (wrap64 (bt119.2 + 1)))).bind fun t121 => (if t121 = true then (some ((⟨#[]⟩ : ByteArray), 0)) else (some (bt119.1, wrap64 (bt119.2 + 1))))) else (none)) else (some (bt119.1, wrap64 (bt119.2 + 1))))) else (none)) else (none)) else (some (bt119.1, wrap64 (bt119.2 + 1)))))) else (none)))) = some (r1, r2) := by rw [if_pos rfl] at H; exact H
    clear H
    have H := H1
    clear H1
    replace H := Option.bind_eq_some_iff.mp H
    obtain ⟨t116, A50, H⟩ := H
    replace H : (if t116 = true then ((charref_numeric.f a0).bind fun bt117 => (some (bt117.1, bt117.2))) else (if 1 ≤ (a0.size : Int) then ((entity_Named.f (a0.extract 1 a0.size)).bind fun bt119 => (if bt119.2 = 0 then (some ((⟨#[]⟩ : ByteArray), 0)) else (if a1 = true then (if 0 ≤ bt119.2 then (if bt119.2 < (a0.size : Int) then (if (bt a0 bt119.2) = 59 then (some (bt119.1, wrap64 (bt119.2 + 1))) else (if (wrap64 (bt119.2 + 1)) < (a0.size : Int) then (if 0 ≤ (wrap64 (bt119.2 + 1)) then ((charref_goes.f (bt a0 (wrap64 (bt119.2 + 1)))).bind fun t121 => (if t121 = true then (some ((⟨#[]⟩ : ByteArray), 0)) else (some (bt119.1, wrap64 (bt119.2 + 1))))) else (none)) else (some (bt119.1, wrap64 (bt119.2 + 1))))) else (none)) else (none)) else (some (bt119.1, wrap64 (bt119.2 + 1)))))) else (none))) = some (r1, r2) := H
    have A5 := Aside0.mk A50
    clear A50
    by_cases c6 : t116 = true
    · subst c6
      have H1 : ((charref_numeric.f a0).bind fun bt117 => (some (bt117.1, bt117.2))) = some (r1, r2) := by rw [if_pos rfl] at H; exact H
      clear H
      have H := H1
      clear H1
      replace H := Option.bind_eq_some_iff.mp H
      obtain ⟨⟨t117, t118⟩, A70, H⟩ := H
      replace H : (some (t117, t118)) = some (r1, r2) := H
      have A7 := Aside0.mk A70
      clear A70
      simp only [Option.some.injEq, Prod.mk.injEq] at H
      obtain ⟨rfl, rfl⟩ := H
      go_enter Tryz.func45, Tryz.ntmps45
      go_wp2_with (first | ((with_reducible refine gate_callee (f := 63) rfl ?_); refine goesL_ (some 11) rfl rfl Tryz.func63 (by kernel_rfl) rfl #[.string a0, .string (⟨#[38]⟩ : ByteArray)] rfl (by (try simp only [List.map_toArray, List.map_cons, List.map_nil]); first | done | rfl | (simp only [List.length_drop, List.length_take]; rfl)) ?_; (with_reducible refine (strings_HasPrefix.calls a0 (⟨#[38]⟩ : ByteArray) true _ A3.out).mono ?_); rintro e w' ⟨rfl, ⟨nd, rfl⟩⟩; refine ⟨_, rfl, ?_⟩) | ((with_reducible refine gate_callee (f := 63) rfl ?_); refine goesL_ (some 15) rfl rfl Tryz.func63 (by kernel_rfl) rfl #[.string a0, .string (⟨#[38, 35]⟩ : ByteArray)] rfl (by (try simp only [List.map_toArray, List.map_cons, List.map_nil]); first | done | rfl | (simp only [List.length_drop, List.length_take]; rfl)) ?_; (with_reducible refine (strings_HasPrefix.calls a0 (⟨#[38, 35]⟩ : ByteArray) true _ A5.out).mono ?_); rintro e w' ⟨rfl, ⟨nd, rfl⟩⟩; refine ⟨_, rfl, ?_⟩) | ((with_reducible refine gate_callee (f := 64) rfl ?_); refine goesL_ (some 17) rfl rfl Tryz.func64 (by kernel_rfl) rfl #[.string a0] rfl (by (try simp only [List.map_toArray, List.map_cons, List.map_nil]); first | done | rfl | (simp only [List.length_drop, List.length_take]; rfl)) ?_; (with_reducible refine (charref_numeric.calls a0 t117 t118 _ ?side1 A7.out).mono ?_); (case side1 => exact Glob.below hG (by repeat (first | (with_reducible first | exact HB.out | apply below_alloc | apply pw_below_drewN | apply below_drew1) | exact HB.out))); rintro e w8 ⟨rfl, hb⟩; refine ⟨_, rfl, ?_⟩; have n0_ := Aside0.mk (below_step (by repeat (first | (with_reducible first | exact HB.out | apply below_alloc | apply pw_below_drewN | apply below_drew1) | exact HB.out)) hb); clear HB; have HB := n0_; clear n0_; (try clear hb); (try clear hb2); (try clear hk); (try clear hi)))
      go_ret2
      exact ⟨by first | rfl | (simp [errW_none, errW_some] <;> rfl) | (simp [*, errW_none, errW_some] <;> rfl), by repeat (first | (with_reducible first | exact HB.out | apply below_alloc | apply pw_below_drewN | apply below_drew1) | exact HB.out)⟩
    · replace c6 := Bool.eq_false_iff.mpr c6
      subst c6
      have H1 : (if 1 ≤ (a0.size : Int) then ((entity_Named.f (a0.extract 1 a0.size)).bind fun bt119 => (if bt119.2 = 0 then (some ((⟨#[]⟩ : ByteArray), 0)) else (if a1 = true then (if 0 ≤ bt119.2 then (if bt119.2 < (a0.size : Int) then (if (bt a0 bt119.2) = 59 then (some (bt119.1, wrap64 (bt119.2 + 1))) else (if (wrap64 (bt119.2 + 1)) < (a0.size : Int) then (if 0 ≤ (wrap64 (bt119.2 + 1)) then ((charref_goes.f (bt a0 (wrap64 (bt119.2 + 1)))).bind fun t121 => (if t121 = true then (some ((⟨#[]⟩ : ByteArray), 0)) else (some (bt119.1, wrap64 (bt119.2 + 1))))) else (none)) else (some (bt119.1, wrap64 (bt119.2 + 1))))) else (none)) else (none)) else (some (bt119.1, wrap64 (bt119.2 + 1)))))) else (none)) = some (r1, r2) := by rw [if_neg (show ¬ (false = true) by decide)] at H; exact H
      clear H
      have H := H1
      clear H1
      by_cases c9 : 1 ≤ (a0.size : Int)
      · rw [if_pos c9] at H
        have c9b0 := eq_true c9
        have c9b1 : decide (1 ≤ (a0.size : Int)) = true := decide_eq_true c9
        clear c9
        replace H := Option.bind_eq_some_iff.mp H
        obtain ⟨⟨t119, t120⟩, A100, H⟩ := H
        replace H : (if t120 = 0 then (some ((⟨#[]⟩ : ByteArray), 0)) else (if a1 = true then (if 0 ≤ t120 then (if t120 < (a0.size : Int) then (if (bt a0 t120) = 59 then (some (t119, wrap64 (t120 + 1))) else (if (wrap64 (t120 + 1)) < (a0.size : Int) then (if 0 ≤ (wrap64 (t120 + 1)) then ((charref_goes.f (bt a0 (wrap64 (t120 + 1)))).bind fun t121 => (if t121 = true then (some ((⟨#[]⟩ : ByteArray), 0)) else (some (t119, wrap64 (t120 + 1))))) else (none)) else (some (t119, wrap64 (t120 + 1))))) else (none)) else (none)) else (some (t119, wrap64 (t120 + 1))))) = some (r1, r2) := H
        have A10 := Aside0.mk A100
        clear A100
        by_cases c11 : t120 = 0
        · rw [if_pos c11] at H
          have c11b0 : (t120 == 0) = true := beq_iff_eq.mpr c11
          have c11b1 : (t120 != 0) = false := bne_eq_false_iff_eq.mpr c11
          clear c11
          simp only [Option.some.injEq, Prod.mk.injEq] at H
          obtain ⟨rfl, rfl⟩ := H
          go_enter Tryz.func45, Tryz.ntmps45
          go_wp2_with (first | ((with_reducible refine gate_callee (f := 63) rfl ?_); refine goesL_ (some 11) rfl rfl Tryz.func63 (by kernel_rfl) rfl #[.string a0, .string (⟨#[38]⟩ : ByteArray)] rfl (by (try simp only [List.map_toArray, List.map_cons, List.map_nil]); first | done | rfl | (simp only [List.length_drop, List.length_take]; rfl)) ?_; (with_reducible refine (strings_HasPrefix.calls a0 (⟨#[38]⟩ : ByteArray) true _ A3.out).mono ?_); rintro e w' ⟨rfl, ⟨nd, rfl⟩⟩; refine ⟨_, rfl, ?_⟩) | ((with_reducible refine gate_callee (f := 63) rfl ?_); refine goesL_ (some 15) rfl rfl Tryz.func63 (by kernel_rfl) rfl #[.string a0, .string (⟨#[38, 35]⟩ : ByteArray)] rfl (by (try simp only [List.map_toArray, List.map_cons, List.map_nil]); first | done | rfl | (simp only [List.length_drop, List.length_take]; rfl)) ?_; (with_reducible refine (strings_HasPrefix.calls a0 (⟨#[38, 35]⟩ : ByteArray) false _ A5.out).mono ?_); rintro e w' ⟨rfl, ⟨nd, rfl⟩⟩; refine ⟨_, rfl, ?_⟩) | ((with_reducible refine gate_callee (f := 65) rfl ?_); refine goesL_ (some 23) rfl rfl Tryz.func65 (by kernel_rfl) rfl #[.string (a0.extract 1 a0.size)] rfl (by (try simp only [List.map_toArray, List.map_cons, List.map_nil]); first | done | rfl | (simp only [List.length_drop, List.length_take]; rfl)) ?_; (with_reducible refine (entity_Named.calls (a0.extract 1 a0.size) t119 t120 _ ?side1 A10.out).mono ?_); (case side1 => exact Glob.below hG (by repeat (first | (with_reducible first | exact HB.out | apply below_alloc | apply pw_below_drewN | apply below_drew1) | exact HB.out))); rintro e w12 ⟨rfl, hb⟩; refine ⟨_, rfl, ?_⟩; have n0_ := Aside0.mk (below_step (by repeat (first | (with_reducible first | exact HB.out | apply below_alloc | apply pw_below_drewN | apply below_drew1) | exact HB.out)) hb); clear HB; have HB := n0_; clear n0_; (try clear hb); (try clear hb2); (try clear hk); (try clear hi)))
          go_ret2
          exact ⟨by first | rfl | (simp [errW_none, errW_some] <;> rfl) | (simp [*, errW_none, errW_some] <;> rfl), by repeat (first | (with_reducible first | exact HB.out | apply below_alloc | apply pw_below_drewN | apply below_drew1) | exact HB.out)⟩
        · rw [if_neg c11] at H
          have c11b0 : (t120 == 0) = false := beq_eq_false_iff_ne.mpr c11
          have c11b1 : (t120 != 0) = true := bne_iff_ne.mpr c11
          by_cases c13 : a1 = true
          · subst c13
            have H1 : (if 0 ≤ t120 then (if t120 < (a0.size : Int) then (if (bt a0 t120) = 59 then (some (t119, wrap64 (t120 + 1))) else (if (wrap64 (t120 + 1)) < (a0.size : Int) then (if 0 ≤ (wrap64 (t120 + 1)) then ((charref_goes.f (bt a0 (wrap64 (t120 + 1)))).bind fun t121 => (if t121 = true then (some ((⟨#[]⟩ : ByteArray), 0)) else (some (t119, wrap64 (t120 + 1))))) else (none)) else (some (t119, wrap64 (t120 + 1))))) else (none)) else (none)) = some (r1, r2) := by rw [if_pos rfl] at H; exact H
            clear H
            have H := H1
            clear H1
            by_cases c14 : 0 ≤ t120
            · rw [if_pos c14] at H
              have c14b0 : decide (0 ≤ t120) = true := decide_eq_true c14
              clear c14
              by_cases c15 : t120 < (a0.size : Int)
              · rw [if_pos c15] at H
                have c15b0 : decide (t120 < (a0.size : Int)) = true := decide_eq_true c15
                clear c15
                by_cases c17 : (bt a0 t120) = 59
                · rw [if_pos c17] at H
                  have c17b0 : ((bt a0 t120) == 59) = true := beq_iff_eq.mpr c17
                  have c17b1 : ((bt a0 t120) != 59) = false := bne_eq_false_iff_eq.mpr c17
                  clear c17
                  simp only [Option.some.injEq, Prod.mk.injEq] at H
                  obtain ⟨rfl, rfl⟩ := H
                  go_enter Tryz.func45, Tryz.ntmps45
                  go_wp2_with (first | ((with_reducible refine gate_callee (f := 63) rfl ?_); refine goesL_ (some 11) rfl rfl Tryz.func63 (by kernel_rfl) rfl #[.string a0, .string (⟨#[38]⟩ : ByteArray)] rfl (by (try simp only [List.map_toArray, List.map_cons, List.map_nil]); first | done | rfl | (simp only [List.length_drop, List.length_take]; rfl)) ?_; (with_reducible refine (strings_HasPrefix.calls a0 (⟨#[38]⟩ : ByteArray) true _ A3.out).mono ?_); rintro e w' ⟨rfl, ⟨nd, rfl⟩⟩; refine ⟨_, rfl, ?_⟩) | ((with_reducible refine gate_callee (f := 63) rfl ?_); refine goesL_ (some 15) rfl rfl Tryz.func63 (by kernel_rfl) rfl #[.string a0, .string (⟨#[38, 35]⟩ : ByteArray)] rfl (by (try simp only [List.map_toArray, List.map_cons, List.map_nil]); first | done | rfl | (simp only [List.length_drop, List.length_take]; rfl)) ?_; (with_reducible refine (strings_HasPrefix.calls a0 (⟨#[38, 35]⟩ : ByteArray) false _ A5.out).mono ?_); rintro e w' ⟨rfl, ⟨nd, rfl⟩⟩; refine ⟨_, rfl, ?_⟩) | ((with_reducible refine gate_callee (f := 65) rfl ?_); refine goesL_ (some 23) rfl rfl Tryz.func65 (by kernel_rfl) rfl #[.string (a0.extract 1 a0.size)] rfl (by (try simp only [List.map_toArray, List.map_cons, List.map_nil]); first | done | rfl | (simp only [List.length_drop, List.length_take]; rfl)) ?_; (with_reducible refine (entity_Named.calls (a0.extract 1 a0.size) t119 t120 _ ?side1 A10.out).mono ?_); (case side1 => exact Glob.below hG (by repeat (first | (with_reducible first | exact HB.out | apply below_alloc | apply pw_below_drewN | apply below_drew1) | exact HB.out))); rintro e w18 ⟨rfl, hb⟩; refine ⟨_, rfl, ?_⟩; have n0_ := Aside0.mk (below_step (by repeat (first | (with_reducible first | exact HB.out | apply below_alloc | apply pw_below_drewN | apply below_drew1) | exact HB.out)) hb); clear HB; have HB := n0_; clear n0_; (try clear hb); (try clear hb2); (try clear hk); (try clear hi); have p16 : 0 ≤ (t120 : Int) := of_decide_eq_true (by first | (with_reducible assumption) | assumption); have q16 : t120 < (a0.size : Int) := of_decide_eq_true (by first | (with_reducible assumption) | assumption); have hx16 := bt_at a0 t120; replace p16 := eq_true p16; replace q16 := eq_true q16))
                  go_ret2
                  exact ⟨by first | rfl | (simp [errW_none, errW_some] <;> rfl) | (simp [*, errW_none, errW_some] <;> rfl), by repeat (first | (with_reducible first | exact HB.out | apply below_alloc | apply pw_below_drewN | apply below_drew1) | exact HB.out)⟩
                · rw [if_neg c17] at H
                  have c17b0 : ((bt a0 t120) == 59) = false := beq_eq_false_iff_ne.mpr c17
                  have c17b1 : ((bt a0 t120) != 59) = true := bne_iff_ne.mpr c17
                  by_cases c19 : (wrap64 (t120 + 1)) < (a0.size : Int)
                  · rw [if_pos c19] at H
                    have c19b0 : decide ((wrap64 (t120 + 1)) < (a0.size : Int)) = true := decide_eq_true c19
                    clear c19
                    obtain ⟨ji20, hji20⟩ : ∃ j_ : Int, (wrap64 (t120 + 1)) = j_ := ⟨_, rfl⟩
                    replace H : (if 0 ≤ (ji20) then ((charref_goes.f (bt a0 (ji20))).bind fun t121 => (if t121 = true then (some ((⟨#[]⟩ : ByteArray), 0)) else (some (t119, ji20)))) else (none)) = some (r1, r2) := by first | (rw [hji20] at H; exact H) | (simp only [hji20] at H ⊢; exact H)
                    (try rw [hji20] at c19b0)
                    (try rw [hji20] at A3)
                    (try rw [hji20] at A5)
                    (try rw [hji20] at A10)
                    have hji20w : (IntKind.i64.wrap (t120 + 1)) = ji20 := (i64_w _).trans hji20
                    by_cases c21 : 0 ≤ (ji20)
                    · rw [if_pos c21] at H
                      have c21b0 : decide (0 ≤ (ji20)) = true := decide_eq_true c21
                      clear c21
                      replace H := Option.bind_eq_some_iff.mp H
                      obtain ⟨t121, A230, H⟩ := H
                      replace H : (if t121 = true then (some ((⟨#[]⟩ : ByteArray), 0)) else (some (t119, ji20))) = some (r1, r2) := H
                      have A23 := Aside0.mk A230
                      clear A230
                      by_cases c24 : t121 = true
                      · subst c24
                        have H1 : (some ((⟨#[]⟩ : ByteArray), 0)) = some (r1, r2) := by rw [if_pos rfl] at H; exact H
                        clear H
                        have H := H1
                        clear H1
                        simp only [Option.some.injEq, Prod.mk.injEq] at H
                        obtain ⟨rfl, rfl⟩ := H
                        go_enter Tryz.func45, Tryz.ntmps45
                        go_wp2_with (first | ((with_reducible refine gate_callee (f := 63) rfl ?_); refine goesL_ (some 11) rfl rfl Tryz.func63 (by kernel_rfl) rfl #[.string a0, .string (⟨#[38]⟩ : ByteArray)] rfl (by (try simp only [List.map_toArray, List.map_cons, List.map_nil]); first | done | rfl | (simp only [List.length_drop, List.length_take]; rfl)) ?_; (with_reducible refine (strings_HasPrefix.calls a0 (⟨#[38]⟩ : ByteArray) true _ A3.out).mono ?_); rintro e w' ⟨rfl, ⟨nd, rfl⟩⟩; refine ⟨_, rfl, ?_⟩) | ((with_reducible refine gate_callee (f := 63) rfl ?_); refine goesL_ (some 15) rfl rfl Tryz.func63 (by kernel_rfl) rfl #[.string a0, .string (⟨#[38, 35]⟩ : ByteArray)] rfl (by (try simp only [List.map_toArray, List.map_cons, List.map_nil]); first | done | rfl | (simp only [List.length_drop, List.length_take]; rfl)) ?_; (with_reducible refine (strings_HasPrefix.calls a0 (⟨#[38, 35]⟩ : ByteArray) false _ A5.out).mono ?_); rintro e w' ⟨rfl, ⟨nd, rfl⟩⟩; refine ⟨_, rfl, ?_⟩) | ((with_reducible refine gate_callee (f := 65) rfl ?_); refine goesL_ (some 23) rfl rfl Tryz.func65 (by kernel_rfl) rfl #[.string (a0.extract 1 a0.size)] rfl (by (try simp only [List.map_toArray, List.map_cons, List.map_nil]); first | done | rfl | (simp only [List.length_drop, List.length_take]; rfl)) ?_; (with_reducible refine (entity_Named.calls (a0.extract 1 a0.size) t119 t120 _ ?side1 A10.out).mono ?_); (case side1 => exact Glob.below hG (by repeat (first | (with_reducible first | exact HB.out | apply below_alloc | apply pw_below_drewN | apply below_drew1) | exact HB.out))); rintro e w25 ⟨rfl, hb⟩; refine ⟨_, rfl, ?_⟩; have n0_ := Aside0.mk (below_step (by repeat (first | (with_reducible first | exact HB.out | apply below_alloc | apply pw_below_drewN | apply below_drew1) | exact HB.out)) hb); clear HB; have HB := n0_; clear n0_; (try clear hb); (try clear hb2); (try clear hk); (try clear hi); have p16 : 0 ≤ (t120 : Int) := of_decide_eq_true (by first | (with_reducible assumption) | assumption); have q16 : t120 < (a0.size : Int) := of_decide_eq_true (by first | (with_reducible assumption) | assumption); have hx16 := bt_at a0 t120; replace p16 := eq_true p16; replace q16 := eq_true q16; have p22 : 0 ≤ ((ji20) : Int) := of_decide_eq_true (by first | (with_reducible assumption) | assumption); have q22 : (ji20) < (a0.size : Int) := of_decide_eq_true (by first | (with_reducible assumption) | assumption); have hx22 := bt_at a0 (ji20); replace p22 := eq_true p22; replace q22 := eq_true q22) | (go_at_call 66; refine calls_of_args (args' := #[.int .u8 (bt a0 (ji20))]) (by first | rfl | rfl) ?_; (with_reducible refine (charref_goes.calls (bt a0 (ji20)) true _ A23.out).mono ?_); rintro e w' ⟨rfl, ⟨nd, rfl⟩⟩))
                        go_ret2
                        exact ⟨by first | rfl | (simp [errW_none, errW_some] <;> rfl) | (simp only [← hji20]; first | rfl | (simp [errW_none, errW_some] <;> rfl)) | (simp [*, errW_none, errW_some] <;> rfl), by repeat (first | (with_reducible first | exact HB.out | apply below_alloc | apply pw_below_drewN | apply below_drew1) | exact HB.out)⟩
                      · replace c24 := Bool.eq_false_iff.mpr c24
                        subst c24
                        have H1 : (some (t119, ji20)) = some (r1, r2) := by rw [if_neg (show ¬ (false = true) by decide)] at H; exact H
                        clear H
                        have H := H1
                        clear H1
                        simp only [Option.some.injEq, Prod.mk.injEq] at H
                        obtain ⟨rfl, rfl⟩ := H
                        go_enter Tryz.func45, Tryz.ntmps45
                        go_wp2_with (first | ((with_reducible refine gate_callee (f := 63) rfl ?_); refine goesL_ (some 11) rfl rfl Tryz.func63 (by kernel_rfl) rfl #[.string a0, .string (⟨#[38]⟩ : ByteArray)] rfl (by (try simp only [List.map_toArray, List.map_cons, List.map_nil]); first | done | rfl | (simp only [List.length_drop, List.length_take]; rfl)) ?_; (with_reducible refine (strings_HasPrefix.calls a0 (⟨#[38]⟩ : ByteArray) true _ A3.out).mono ?_); rintro e w' ⟨rfl, ⟨nd, rfl⟩⟩; refine ⟨_, rfl, ?_⟩) | ((with_reducible refine gate_callee (f := 63) rfl ?_); refine goesL_ (some 15) rfl rfl Tryz.func63 (by kernel_rfl) rfl #[.string a0, .string (⟨#[38, 35]⟩ : ByteArray)] rfl (by (try simp only [List.map_toArray, List.map_cons, List.map_nil]); first | done | rfl | (simp only [List.length_drop, List.length_take]; rfl)) ?_; (with_reducible refine (strings_HasPrefix.calls a0 (⟨#[38, 35]⟩ : ByteArray) false _ A5.out).mono ?_); rintro e w' ⟨rfl, ⟨nd, rfl⟩⟩; refine ⟨_, rfl, ?_⟩) | ((with_reducible refine gate_callee (f := 65) rfl ?_); refine goesL_ (some 23) rfl rfl Tryz.func65 (by kernel_rfl) rfl #[.string (a0.extract 1 a0.size)] rfl (by (try simp only [List.map_toArray, List.map_cons, List.map_nil]); first | done | rfl | (simp only [List.length_drop, List.length_take]; rfl)) ?_; (with_reducible refine (entity_Named.calls (a0.extract 1 a0.size) t119 t120 _ ?side1 A10.out).mono ?_); (case side1 => exact Glob.below hG (by repeat (first | (with_reducible first | exact HB.out | apply below_alloc | apply pw_below_drewN | apply below_drew1) | exact HB.out))); rintro e w26 ⟨rfl, hb⟩; refine ⟨_, rfl, ?_⟩; have n0_ := Aside0.mk (below_step (by repeat (first | (with_reducible first | exact HB.out | apply below_alloc | apply pw_below_drewN | apply below_drew1) | exact HB.out)) hb); clear HB; have HB := n0_; clear n0_; (try clear hb); (try clear hb2); (try clear hk); (try clear hi); have p16 : 0 ≤ (t120 : Int) := of_decide_eq_true (by first | (with_reducible assumption) | assumption); have q16 : t120 < (a0.size : Int) := of_decide_eq_true (by first | (with_reducible assumption) | assumption); have hx16 := bt_at a0 t120; replace p16 := eq_true p16; replace q16 := eq_true q16; have p22 : 0 ≤ ((ji20) : Int) := of_decide_eq_true (by first | (with_reducible assumption) | assumption); have q22 : (ji20) < (a0.size : Int) := of_decide_eq_true (by first | (with_reducible assumption) | assumption); have hx22 := bt_at a0 (ji20); replace p22 := eq_true p22; replace q22 := eq_true q22) | (go_at_call 66; refine calls_of_args (args' := #[.int .u8 (bt a0 (ji20))]) (by first | rfl | rfl) ?_; (with_reducible refine (charref_goes.calls (bt a0 (ji20)) false _ A23.out).mono ?_); rintro e w' ⟨rfl, ⟨nd, rfl⟩⟩))
                        go_ret2
                        exact ⟨by first | rfl | (simp [errW_none, errW_some] <;> rfl) | (simp only [← hji20]; first | rfl | (simp [errW_none, errW_some] <;> rfl)) | (simp [*, errW_none, errW_some] <;> rfl), by repeat (first | (with_reducible first | exact HB.out | apply below_alloc | apply pw_below_drewN | apply below_drew1) | exact HB.out)⟩
                    · rw [if_neg c21] at H
                      exact absurd H (by simp)
                  · rw [if_neg c19] at H
                    have c19b0 : decide ((wrap64 (t120 + 1)) < (a0.size : Int)) = false := decide_eq_false c19
                    clear c19
                    simp only [Option.some.injEq, Prod.mk.injEq] at H
                    obtain ⟨rfl, rfl⟩ := H
                    go_enter Tryz.func45, Tryz.ntmps45
                    go_wp2_with (first | ((with_reducible refine gate_callee (f := 63) rfl ?_); refine goesL_ (some 11) rfl rfl Tryz.func63 (by kernel_rfl) rfl #[.string a0, .string (⟨#[38]⟩ : ByteArray)] rfl (by (try simp only [List.map_toArray, List.map_cons, List.map_nil]); first | done | rfl | (simp only [List.length_drop, List.length_take]; rfl)) ?_; (with_reducible refine (strings_HasPrefix.calls a0 (⟨#[38]⟩ : ByteArray) true _ A3.out).mono ?_); rintro e w' ⟨rfl, ⟨nd, rfl⟩⟩; refine ⟨_, rfl, ?_⟩) | ((with_reducible refine gate_callee (f := 63) rfl ?_); refine goesL_ (some 15) rfl rfl Tryz.func63 (by kernel_rfl) rfl #[.string a0, .string (⟨#[38, 35]⟩ : ByteArray)] rfl (by (try simp only [List.map_toArray, List.map_cons, List.map_nil]); first | done | rfl | (simp only [List.length_drop, List.length_take]; rfl)) ?_; (with_reducible refine (strings_HasPrefix.calls a0 (⟨#[38, 35]⟩ : ByteArray) false _ A5.out).mono ?_); rintro e w' ⟨rfl, ⟨nd, rfl⟩⟩; refine ⟨_, rfl, ?_⟩) | ((with_reducible refine gate_callee (f := 65) rfl ?_); refine goesL_ (some 23) rfl rfl Tryz.func65 (by kernel_rfl) rfl #[.string (a0.extract 1 a0.size)] rfl (by (try simp only [List.map_toArray, List.map_cons, List.map_nil]); first | done | rfl | (simp only [List.length_drop, List.length_take]; rfl)) ?_; (with_reducible refine (entity_Named.calls (a0.extract 1 a0.size) t119 t120 _ ?side1 A10.out).mono ?_); (case side1 => exact Glob.below hG (by repeat (first | (with_reducible first | exact HB.out | apply below_alloc | apply pw_below_drewN | apply below_drew1) | exact HB.out))); rintro e w27 ⟨rfl, hb⟩; refine ⟨_, rfl, ?_⟩; have n0_ := Aside0.mk (below_step (by repeat (first | (with_reducible first | exact HB.out | apply below_alloc | apply pw_below_drewN | apply below_drew1) | exact HB.out)) hb); clear HB; have HB := n0_; clear n0_; (try clear hb); (try clear hb2); (try clear hk); (try clear hi); have p16 : 0 ≤ (t120 : Int) := of_decide_eq_true (by first | (with_reducible assumption) | assumption); have q16 : t120 < (a0.size : Int) := of_decide_eq_true (by first | (with_reducible assumption) | assumption); have hx16 := bt_at a0 t120; replace p16 := eq_true p16; replace q16 := eq_true q16))
                    go_ret2
                    exact ⟨by first | rfl | (simp [errW_none, errW_some] <;> rfl) | (simp [*, errW_none, errW_some] <;> rfl), by repeat (first | (with_reducible first | exact HB.out | apply below_alloc | apply pw_below_drewN | apply below_drew1) | exact HB.out)⟩
              · rw [if_neg c15] at H
                exact absurd H (by simp)
            · rw [if_neg c14] at H
              exact absurd H (by simp)
          · replace c13 := Bool.eq_false_iff.mpr c13
            subst c13
            have H1 : (some (t119, wrap64 (t120 + 1))) = some (r1, r2) := by rw [if_neg (show ¬ (false = true) by decide)] at H; exact H
            clear H
            have H := H1
            clear H1
            simp only [Option.some.injEq, Prod.mk.injEq] at H
            obtain ⟨rfl, rfl⟩ := H
            go_enter Tryz.func45, Tryz.ntmps45
            go_wp2_with (first | ((with_reducible refine gate_callee (f := 63) rfl ?_); refine goesL_ (some 11) rfl rfl Tryz.func63 (by kernel_rfl) rfl #[.string a0, .string (⟨#[38]⟩ : ByteArray)] rfl (by (try simp only [List.map_toArray, List.map_cons, List.map_nil]); first | done | rfl | (simp only [List.length_drop, List.length_take]; rfl)) ?_; (with_reducible refine (strings_HasPrefix.calls a0 (⟨#[38]⟩ : ByteArray) true _ A3.out).mono ?_); rintro e w' ⟨rfl, ⟨nd, rfl⟩⟩; refine ⟨_, rfl, ?_⟩) | ((with_reducible refine gate_callee (f := 63) rfl ?_); refine goesL_ (some 15) rfl rfl Tryz.func63 (by kernel_rfl) rfl #[.string a0, .string (⟨#[38, 35]⟩ : ByteArray)] rfl (by (try simp only [List.map_toArray, List.map_cons, List.map_nil]); first | done | rfl | (simp only [List.length_drop, List.length_take]; rfl)) ?_; (with_reducible refine (strings_HasPrefix.calls a0 (⟨#[38, 35]⟩ : ByteArray) false _ A5.out).mono ?_); rintro e w' ⟨rfl, ⟨nd, rfl⟩⟩; refine ⟨_, rfl, ?_⟩) | ((with_reducible refine gate_callee (f := 65) rfl ?_); refine goesL_ (some 23) rfl rfl Tryz.func65 (by kernel_rfl) rfl #[.string (a0.extract 1 a0.size)] rfl (by (try simp only [List.map_toArray, List.map_cons, List.map_nil]); first | done | rfl | (simp only [List.length_drop, List.length_take]; rfl)) ?_; (with_reducible refine (entity_Named.calls (a0.extract 1 a0.size) t119 t120 _ ?side1 A10.out).mono ?_); (case side1 => exact Glob.below hG (by repeat (first | (with_reducible first | exact HB.out | apply below_alloc | apply pw_below_drewN | apply below_drew1) | exact HB.out))); rintro e w28 ⟨rfl, hb⟩; refine ⟨_, rfl, ?_⟩; have n0_ := Aside0.mk (below_step (by repeat (first | (with_reducible first | exact HB.out | apply below_alloc | apply pw_below_drewN | apply below_drew1) | exact HB.out)) hb); clear HB; have HB := n0_; clear n0_; (try clear hb); (try clear hb2); (try clear hk); (try clear hi)))
            go_ret2
            exact ⟨by first | rfl | (simp [errW_none, errW_some] <;> rfl) | (simp [*, errW_none, errW_some] <;> rfl), by repeat (first | (with_reducible first | exact HB.out | apply below_alloc | apply pw_below_drewN | apply below_drew1) | exact HB.out)⟩
      · rw [if_neg c9] at H
        exact absurd H (by simp)
  · replace c4 := Bool.eq_false_iff.mpr c4
    subst c4
    have H1 : (some ((⟨#[]⟩ : ByteArray), 0)) = some (r1, r2) := by rw [if_neg (show ¬ (false = true) by decide)] at H; exact H
    clear H
    have H := H1
    clear H1
    simp only [Option.some.injEq, Prod.mk.injEq] at H
    obtain ⟨rfl, rfl⟩ := H
    go_enter Tryz.func45, Tryz.ntmps45
    go_wp2_with (first | ((with_reducible refine gate_callee (f := 63) rfl ?_); refine goesL_ (some 11) rfl rfl Tryz.func63 (by kernel_rfl) rfl #[.string a0, .string (⟨#[38]⟩ : ByteArray)] rfl (by (try simp only [List.map_toArray, List.map_cons, List.map_nil]); first | done | rfl | (simp only [List.length_drop, List.length_take]; rfl)) ?_; (with_reducible refine (strings_HasPrefix.calls a0 (⟨#[38]⟩ : ByteArray) false _ A3.out).mono ?_); rintro e w' ⟨rfl, ⟨nd, rfl⟩⟩; refine ⟨_, rfl, ?_⟩))
    go_ret2
    exact ⟨by first | rfl | (simp [errW_none, errW_some] <;> rfl) | (simp [*, errW_none, errW_some] <;> rfl), by repeat (first | (with_reducible first | exact HB.out | apply below_alloc | apply pw_below_drewN | apply below_drew1) | exact HB.out)⟩

end Go.Proofs.YtoacojkmclngmaaGreatDoor.Pz

/- strings.Builder at this program: copyCheck, WriteString, String, of a builder that the call itself has made. After the shelf's own proofs (their layings do not fit here: copyCheck's last way is refused by the loader). -/
namespace Go.Proofs.YtoacojkmclngmaaGreatDoor
open Go.RowKit
set_option linter.unusedVariables false
theorem infoByte : (Tryz.prog.info? 5).map (fun i => (i.zero, i.size, i.bytes)) = some (some (.int .u8 0), 1, 1) := by kernel_rfl
theorem sizeBuilder : (Tryz.prog.info? 64).map (·.size) = some 2 := by kernel_rfl
theorem liesBuilder : liesAt Tryz.prog Tryz.prog.depth 64 (2 / Tryz.prog.cellsOf 64) 0 64 1 = true := by kernel_rfl
set_option maxHeartbeats 1000000 in
set_option maxRecDepth 100000 in
theorem bd_copyCheck_used (b : Nat) (w : World) (h0 : w.cell? ⟨b, 0, none⟩ = some (.pointer (some ⟨b, 0, none⟩))) :
    Calls Tryz.prog 62 #[.pointer (some ⟨b, 0, none⟩)] w fun e w' => e = .returned (.tuple #[]) ∧ w' = w := by
  obtain ⟨j, hj, _⟩ := Option.map_eq_some_iff.1 sizeBuilder
  go_enter Tryz.func62, Tryz.ntmps62
  go_wp2
  rw [Lib.run_neq_ptr_same w _ Tryz.underlying62 hj]
  go_wp2
  go_end0
  exact ⟨rfl, rfl⟩
set_option maxHeartbeats 1000000 in
set_option maxRecDepth 100000 in
theorem bd_copyCheck_fresh (b : Nat) (w : World) (h0 : w.cell? ⟨b, 0, none⟩ = some (.pointer none)) (hsh : w.shape? b = some (64, 2)) (hfz : w.frozen? ⟨b, 0, none⟩ = false) :
    Calls Tryz.prog 62 #[.pointer (some ⟨b, 0, none⟩)] w fun e w' => e = .returned (.tuple #[]) ∧ w' = w.setCell ⟨b, 0, none⟩ (.pointer (some ⟨b, 0, none⟩)) := by
  obtain ⟨j, hj, hjs⟩ := Option.map_eq_some_iff.1 sizeBuilder
  go_enter Tryz.func62, Tryz.ntmps62
  go_wp2
  rw [Lib.run_to_unsafe w ⟨b, 0, none⟩ Tryz.underlying62 Tryz.underlying95 hj (by rw [hjs]; decide) hsh (Nat.zero_lt_succ 1)]
  simp only [Result.andThen]
  rw [Oper.upon_value]
  go_wp2
  rw [run_callFunc_extern Tryz.func82 (by kernel_rfl) (by kernel_rfl) (by kernel_rfl) (e := Extern.AbiNoEscape.same) (by kernel_rfl)]
  rw [Lib.run_noEscape]
  simp only [Result.andThen]
  rw [Oper.upon_value]
  go_wp2
  rw [Lib.run_from_unsafe w ⟨b, 0, none⟩ Tryz.underlying95 Tryz.underlying62 hj hsh liesBuilder]
  simp only [Result.andThen]
  rw [Oper.upon_value]
  go_wp2
  go_end0
  exact ⟨rfl, rfl⟩
theorem bd_copyCheck (B b : Nat) (bs : List Value) (w : World) (h : Lib.IsBuilderF 64 5 B b bs w) :
    Calls Tryz.prog 62 #[.pointer (some ⟨b, 0, none⟩)] w fun e w' => e = .returned (.tuple #[]) ∧ (Lib.BuilderAtF 64 5 B b (.pointer (some ⟨b, 0, none⟩)) bs w' ∧ Below B w w' ∧ Lib.OthersKept 5 (some b) w w') := by
  rcases h with h | h
  · refine (bd_copyCheck_fresh b w h.cell0 h.shape h.frozen0).mono ?_
    rintro e w' ⟨rfl, rfl⟩
    exact ⟨rfl, h.used _, (Below.refl B w).setCell (p := ⟨b, 0, none⟩) h.1 _, (Lib.OthersKept.refl _ _ w).setCell ⟨b, 0, none⟩ rfl _⟩
  · refine (bd_copyCheck_used b w h.cell0).mono ?_
    rintro e w' ⟨rfl, rfl⟩
    exact ⟨rfl, h, Below.refl B _, Lib.OthersKept.refl _ _ _⟩
set_option maxHeartbeats 2000000 in
set_option maxRecDepth 100000 in
theorem bd_WriteString (B b : Nat) (bs : List Value) (s : ByteArray) (w : World) (h : Lib.IsBuilderF 64 5 B b bs w) (hlen : bs.length + s.size ≤ 140737488355328) (hBw : B ≤ w.heap.size) :
    Calls Tryz.prog 44 #[.pointer (some ⟨b, 0, none⟩), .string s] w fun e w' => e = .returned (.tuple #[.int .i64 s.size, .nilIface]) ∧ (Lib.BuilderAtF 64 5 B b (.pointer (some ⟨b, 0, none⟩)) (bs ++ Lib.strCells s) w' ∧ Below B w w' ∧ Lib.OthersKept 5 (some b) w w') := by
  obtain ⟨i0, hi, hz0, hz1, hz2⟩ := info_parts infoByte
  go_enter Tryz.func44, Tryz.ntmps44
  go_wp2_with (go_at_call 62; refine (bd_copyCheck B b bs _ h).mono ?_)
  rintro e w1 ⟨rfl, h1, hb1, hk1⟩
  obtain ⟨hB, v, hbk, hown, hne⟩ := h1
  have c0 : w1.cell? ⟨b, 0, none⟩ = some (.pointer (some ⟨b, 0, none⟩)) := by rw [Lib.cell_of_heap hbk]; rfl
  have c1 : w1.cell? ⟨b, 1, none⟩ = some v := by rw [Lib.cell_of_heap hbk]; rfl
  go_wp2_with (at_builtin; refine Lib.wpList_append_own_stringF _ rfl _ _ 58 9 rfl B 5 i0 Tryz.underlying58 Tryz.underlying9 hi hz0 hz1 hz2 _ _ _ rfl hown s rfl ?c3 ?c4 ?c5 ?_)
  case c3 => unfold maxLen; omega
  case c4 => omega
  case c5 => have := hb1.size; omega
  intro v' w2 hown' hgrow _
  have hlt : b < w1.heap.size := by
    rcases Nat.lt_or_ge b w1.heap.size with h' | h'
    · exact h'
    · simp [Array.getElem?_eq_none h'] at hbk
  have hb2 : w2.heap[b]? = some (.cells #[.pointer (some ⟨b, 0, none⟩), v] 64 (0, 0)) := by
    rw [hgrow.block b hlt (fun e => hne e.symm)]
    exact hbk
  have d0 : w2.cell? ⟨b, 0, none⟩ = some (.pointer (some ⟨b, 0, none⟩)) := by rw [Lib.cell_of_heap hb2]; rfl
  have d1 : w2.cell? ⟨b, 1, none⟩ = some v := by rw [Lib.cell_of_heap hb2]; rfl
  have f1 : w2.frozen? ⟨b, 1, none⟩ = false := Lib.frozen_of_heap hb2 1
  obtain ⟨ao, n', cap, rfl⟩ : ∃ ao n' cap, v' = .slice ao n' cap := by
    rcases hown'.2 with ⟨hv, _⟩ | ⟨g, cap, cur, fz, hv, _⟩
    · exact ⟨_, _, _, hv⟩
    · exact ⟨_, _, _, hv⟩
  go_wp2
  go_ret2
  refine ⟨rfl, ?_, ?_, (hk1.grown hgrow (Lib.ownsRowF_kind hown)).setCell ⟨b, 1, none⟩ rfl _⟩
  · exact Lib.BuilderAtF.put (T := 64) (e := 5) hB hb2 (bs' := bs ++ Lib.strCells s) (by simpa [Lib.strCells_length] using hown') (by decide)
  · exact (hb1.grown hgrow (by have := hb1.size; omega) (fun k hk => (hown.lt k hk).1)).setCell (p := ⟨b, 1, none⟩) hB _
open Go.Proofs.YtoacojkmclngmaaGreatDoorW.PrintWords in
theorem bd_below {T e : TypeId} {B b : Nat} {bs : List Value} {w w1 : World} (h : Lib.IsBuilderF T e B b bs w) (hb : Below w.heap.size w w1) : Lib.IsBuilderF T e B b bs w1 := by
  have one : ∀ p, Lib.BuilderAtF T e B b p bs w → Lib.BuilderAtF T e B b p bs w1 := by
    intro p h
    have hlt := h.lt
    obtain ⟨hB, v, hbk, hown, hne⟩ := h
    exact ⟨hB, v, (hb.block b hlt).trans hbk, hown.kept (grown_of_below hb none) (by cases v.ownBlock <;> simp), hne⟩
  rcases h with h | h
  · exact .inl (one _ h)
  · exact .inr (one _ h)
theorem strCells_byteCells (s : ByteArray) : Lib.strCells s = Lib.byteCells s.data.toList := by
  simp [Lib.strCells, Lib.byteCells]
theorem bd_write (B b : Nat) (l : List UInt8) (s : ByteArray) (w : World) (h : Lib.IsBuilderF 64 5 B b (Lib.byteCells l) w) (hlen : l.length + s.size ≤ 140737488355328) (hBw : B ≤ w.heap.size) :
    Calls Tryz.prog 44 #[.pointer (some ⟨b, 0, none⟩), .string s] w fun e w' => e = .returned (.tuple #[.int .i64 s.size, .nilIface]) ∧ Lib.IsBuilderF 64 5 B b (Lib.byteCells (l ++ s.data.toList)) w' ∧ Below B w w' := by
  refine (bd_WriteString B b _ s w h (by simpa [Lib.byteCells] using hlen) hBw).mono ?_
  rintro e w' ⟨he, h1, h2, _⟩
  refine ⟨he, .inr ?_, h2⟩
  rw [strCells_byteCells] at h1
  simpa [Lib.byteCells] using h1
end Go.Proofs.YtoacojkmclngmaaGreatDoor

-- written by the session's own program hookprint.py
namespace Go.Proofs.YtoacojkmclngmaaGreatDoor.Pz
open Go.RowKit Go.Proofs.YtoacojkmclngmaaGreatDoorW.PrintWords Go.Proofs.YtoacojkmclngmaaGreatDoorW.PrintLast Go.Proofs.YtoacojkmclngmaaGreatDoorW.PrintMore
attribute [local go_sem] max2_int min2_int max_two min_two max_three min_three max_four min_four   -- for this text's walks alone
attribute [local go_sem] rune_str
set_option linter.unusedVariables false
set_option linter.unusedSimpArgs false

/-! ### charref_Decode: function 25 (by hand) -/
-- IMPORTS: @S@Builder @S@Shelf
/-- where the next & stands, or the end -/
def ampAt (s : ByteArray) : Nat := if Lib.indexByte s.data.toList 38 < 0 then s.size else (Lib.indexByte s.data.toList 38).toNat
theorem indexByte_lt (l : List UInt8) (c : UInt8) : Lib.indexByte l c < l.length ∨ l = [] := by
  induction l with
  | nil => exact .inr rfl
  | cons b l ih =>
    refine .inl ?_
    unfold Lib.indexByte
    split
    · simp
    · split
      · simp; omega
      · rcases ih with h | h
        · simp only [List.length_cons]; omega
        · subst h; rename_i h2; exact absurd rfl h2
theorem ampAt_le (s : ByteArray) : ampAt s ≤ s.size := by
  unfold ampAt
  split
  · exact Nat.le_refl _
  · rename_i h
    rcases indexByte_lt s.data.toList 38 with h1 | h1
    · rw [Array.length_toList] at h1
      have : s.data.size = s.size := rfl
      omega
    · rw [h1] at h; exact absurd (by decide) h
/-- one step: what is told behind the text ahead of the next &, and how many bytes that takes -/
def decStep (s1 : ByteArray) (t : ByteArray × Int) : ByteArray × Int := if t.2 = 0 ∧ s1.size ≠ 0 then (s1.extract 0 1, 1) else t
/-- a text, all in it that stands for runes told as these; k: rounds -/
def decGo (attr : Bool) : Nat → ByteArray → Option (List UInt8)
  | 0, s => if s.size = 0 then some [] else none
  | k + 1, s => if s.size = 0 then some [] else
    (charref_One.f (s.extract (ampAt s) s.size) attr).bind fun t0 =>
      let s1 := s.extract (ampAt s) s.size
      let t := decStep s1 t0
      if 0 ≤ t.2 ∧ t.2 ≤ (s1.size : Int) then (decGo attr k (s1.extract t.2.toNat s1.size)).map fun r => (s.extract 0 (ampAt s)).data.toList ++ t.1.data.toList ++ r else none
def charref_Decode.f (a0 : ByteArray) (a1 : Bool) : Option ByteArray :=
  if a0.size ≤ 140737488355328 then (decGo a1 (a0.size + 1) a0).bind fun r => if r.length ≤ 140737488355328 then some ⟨r.toArray⟩ else none else none
def strLen : Value → Nat
  | .string s => s.size
  | _ => 0
theorem size_zero_toList {s : ByteArray} (h : s.size = 0) : s.toList = [] := by
  rw [Lib.toList_data]; exact List.eq_nil_of_length_eq_zero (by rw [Array.length_toList]; exact h)
theorem isEmpty_size (s : ByteArray) : s.toList.isEmpty = decide (s.size = 0) := by
  rw [Lib.toList_data, Bool.eq_iff_iff]
  simp only [List.isEmpty_iff, decide_eq_true_eq]
  constructor
  · intro h; have := congrArg List.length h; rw [Array.length_toList] at this; exact this
  · intro h; exact List.eq_nil_of_length_eq_zero (by rw [Array.length_toList]; exact h)
set_option maxHeartbeats 4000000 in
set_option maxRecDepth 100000 in
theorem charref_Decode.calls (a0 : ByteArray) (a1 : Bool) (r : ByteArray) (w : World) (hG : Glob w) (h : charref_Decode.f a0 a1 = some r) :
    Calls Tryz.prog 25 #[.string a0, .bool a1] w fun e w' => e = .returned (.string r) ∧ Below w.heap.size w w' := by
  unfold charref_Decode.f at h
  split at h
  case isFalse => cases h
  rename_i hsz
  obtain ⟨total, hd, h⟩ := Option.bind_eq_some_iff.1 h
  split at h
  case isFalse => cases h
  rename_i hlen
  obtain rfl := Option.some.inj h
  clear h
  have HG0 := Aside0.mk hG
  clear hG
  have HD := Aside0.mk hd
  clear hd
  go_enter Tryz.func25, Tryz.ntmps25
  go_wp2
  have HBu := Aside0.mk (Lib.IsBuilderF.of (Lib.fresh_isBuilder 64 5 w))
  have HB := Aside0.mk ((Below.refl w.heap.size w).alloc (Nat.le_refl _) (.cells #[.pointer none, .slice none 0 0] 64))
  generalize w.alloc (.cells #[.pointer none, .slice none 0 0] 64) = w1 at HBu HB ⊢
  go_loopw [0] (fun v wr => ∃ (s : ByteArray) (acc rest : List UInt8) (k : Nat), v = .string s ∧ s.size ≤ 140737488355328 ∧ Aside0 (decGo a1 k s = some rest) ∧ Aside0 (acc ++ rest = total) ∧ Aside0 (Lib.IsBuilderF 64 5 w.heap.size w.heap.size (Lib.byteCells acc) wr) ∧ Aside0 (Below w.heap.size w wr)) (fun v _ => strLen v)
  case atStart => exact ⟨a0, [], total, a0.size + 1, rfl, hsz, HD, ⟨rfl⟩, HBu, HB⟩
  case round =>
    obtain ⟨s, acc, rest, k, rfl, hs, hd, ht, hbu, hb⟩ := hrel
    by_cases h0 : s.size = 0
    · have hemp : s.toList.isEmpty = true := by rw [isEmpty_size]; simp [h0]
      have hr : rest = [] := by
        have := hd.out
        cases k <;> simpa [decGo, h0] using this.symm
      have hacc : Aside0 (acc = total) := ⟨by rw [← ht.out, hr, List.append_nil]⟩
      clear hr
      go_wp2_with (go_at_call 46; refine (Tryz.Builder_String_any_k w.heap.size w.heap.size acc wr hbu.out hb.out.size).mono ?_; rintro e w2 ⟨rfl, hx, hy, hz⟩)
      go_ret
      exact ⟨by rw [hacc.out]; rfl, hb.out.trans hy⟩
    · have hemp : s.toList.isEmpty = false := by rw [isEmpty_size]; simp [h0]
      obtain ⟨k, rfl⟩ : ∃ m, k = m + 1 := by
        cases k with
        | zero => have := hd.out; simp [decGo, h0] at this
        | succ k => exact ⟨k, rfl⟩
      have hd1 := hd.out
      rw [decGo, if_neg h0] at hd1
      obtain ⟨⟨tx, tn⟩, hone, hd1⟩ := Option.bind_eq_some_iff.1 hd1
      have HONE0 := Aside0.mk hone
      clear hone
      obtain ⟨m, hm⟩ : ∃ m, m = ampAt s := ⟨_, rfl⟩
      have hmle : m ≤ s.size := by rw [hm]; exact ampAt_le s
      obtain ⟨ix, hixv⟩ : ∃ ix, ix = Lib.indexByte s.data.toList 38 := ⟨_, rfl⟩
      have hix : ∀ W : World, Calls Tryz.prog 43 #[.string s, .int .u8 38] W fun e w' => e = .returned (.int .i64 ix) ∧ w' = W := fun W => (Tryz.strings_IndexByte s 38 W).mono fun e w' ⟨he, hw⟩ => ⟨by rw [he, hixv]; rfl, hw⟩
      have hmv : m = if ix < 0 then s.size else ix.toNat := by rw [hm, hixv]; rfl
      rw [← hm] at HONE0 hd1
      have HONE : Aside0 (charref_One.f (s.extract m s.size) a1 = some (tx, tn)) := HONE0
      have hixn := Aside0.mk hixv
      clear HONE0 hm hixv
      have hs1 : (s.extract m s.size).size = s.size - m := by rw [ByteArray.size_extract]; omega
      have hxl : (s.extract 0 m).size = m := by rw [ByteArray.size_extract]; omega
      have hxd : (s.extract 0 m).data.toList.length = m := by rw [Array.length_toList]; exact hxl
      have hfin : ∀ (text : ByteArray) (q : Nat) (r : List UInt8), rest = (s.extract 0 m).data.toList ++ text.data.toList ++ r → acc.length + (s.extract 0 m).size ≤ 140737488355328 ∧ (acc ++ (s.extract 0 m).data.toList).length + text.size ≤ 140737488355328 := by
        intro text q r hr
        have h1 := congrArg List.length ht.out
        rw [hr] at h1
        simp only [List.length_append, hxd, Array.length_toList] at h1
        have h2 : text.data.size = text.size := rfl
        rw [h2] at h1
        rw [hxl, List.length_append, hxd]
        omega
      have hemp1 := isEmpty_size (s.extract m s.size)
      by_cases hn : tn = 0
      · by_cases hz : (s.extract m s.size).size = 0
        · have hstep : decStep (s.extract m s.size) (tx, tn) = (tx, tn) := by unfold decStep; rw [if_neg (fun h => h.2 hz)]
          simp only [hstep] at hd1
          split at hd1
          case isFalse => cases hd1
          rename_i hq
          obtain ⟨r, hr, hrest⟩ := Option.map_eq_some_iff.1 hd1
          obtain ⟨hl1, hl2⟩ := hfin tx 0 r hrest.symm
          have HL1 := Aside0.mk hl1
          have HL2 := Aside0.mk hl2
          clear hl1 hl2
          subst hn
          have HR : Aside0 (decGo a1 k ((s.extract m s.size).extract 0 (s.extract m s.size).size) = some r) := ⟨hr⟩
          have hrest : Aside0 (rest = (s.extract 0 m).data.toList ++ tx.data.toList ++ r) := ⟨hrest.symm⟩
          rw [hz] at hemp1
          clear hr hstep hfin hd1 hd hq hxd hxl
          have hsame : ∀ x : ByteArray, x.extract 0 x.size = x := fun x => by simp
          rw [hsame] at HR
          by_cases hneg : ix < 0
          · obtain rfl : m = s.size := by rw [hmv, if_pos hneg]
            clear hmv
            have hnone : s.extract s.size s.size = ByteArray.empty := by simp
            rw [hsame] at HL1 HL2 hrest
            rw [hnone] at HR HONE
            clear hsame hnone hs1 hemp1 hz hmle
            go_wp2_with (first | (go_at_call 43; (with_reducible refine (hix _).mono ?_); rintro e w2 ⟨rfl, rfl⟩) | (go_at_call 44; (with_reducible refine (bd_write w.heap.size w.heap.size acc s _ hbu.out HL1.out hb.out.size).mono ?_); rintro e w2 ⟨rfl, hbu1, hb1⟩; have HBU1 := Aside0.mk hbu1; have HB1 := Aside0.mk (hb.out.trans hb1); clear hbu1 hb1) | (go_at_call 45; (with_reducible refine (charref_One.calls ByteArray.empty a1 tx 0 _ (HG0.out.below HB1.out) HONE.out).mono ?_); rintro e w3 ⟨rfl, hb3⟩; have HBU2 := Aside0.mk (bd_below HBU1.out hb3); have HB2 := Aside0.mk (below_step HB1.out hb3); clear hb3) | (go_at_call 44; (with_reducible refine (bd_write w.heap.size w.heap.size (acc ++ s.data.toList) tx _ HBU2.out HL2.out HB2.out.size).mono ?_); rintro e w4 ⟨rfl, hbu4, hb4⟩; have HBU4 := Aside0.mk hbu4; have HB4 := Aside0.mk (HB2.out.trans hb4); clear hbu4 hb4))
            go_roundw
            case rel => exact ⟨ByteArray.empty, acc ++ s.data.toList ++ tx.data.toList, r, k, rfl, by simp, HR, ⟨by rw [← ht.out, hrest.out]; simp only [List.append_assoc]⟩, HBU4, HB4⟩
            case measure => simp [strLen]; omega
          · exfalso
            have h1 : m = ix.toNat := by rw [hmv, if_neg hneg]
            rcases indexByte_lt s.data.toList 38 with h2 | h2
            · rw [Array.length_toList] at h2
              have h3 : s.data.size = s.size := rfl
              have h4 := hixn.out
              omega
            · have := congrArg List.length h2
              rw [Array.length_toList] at this
              exact h0 this
        · have hstep : decStep (s.extract m s.size) (tx, tn) = ((s.extract m s.size).extract 0 1, 1) := by unfold decStep; rw [if_pos ⟨hn, hz⟩]
          simp only [hstep] at hd1
          split at hd1
          case isFalse => cases hd1
          rename_i hq
          obtain ⟨r, hr, hrest⟩ := Option.map_eq_some_iff.1 hd1
          obtain ⟨hl1, hl2⟩ := hfin _ 0 r hrest.symm
          have HL1 := Aside0.mk hl1
          have HL2 := Aside0.mk hl2
          clear hl1 hl2
          subst hn
          have HR : Aside0 (decGo a1 k ((s.extract m s.size).extract 1 (s.extract m s.size).size) = some r) := ⟨hr⟩
          have hrest : Aside0 (rest = (s.extract 0 m).data.toList ++ ((s.extract m s.size).extract 0 1).data.toList ++ r) := ⟨hrest.symm⟩
          have hemp2 : (s.extract m s.size).toList.isEmpty = false := by rw [hemp1]; simpa using hz
          have hge1 : 1 ≤ (s.extract m s.size).size := by omega
          clear hemp1 hr hstep hfin hd1 hd hq hxd hxl
          by_cases hneg : ix < 0
          · exfalso
            have h1 : m = s.size := by rw [hmv, if_pos hneg]
            omega
          · obtain ⟨i, rfl⟩ : ∃ i : Nat, ix = i := ⟨ix.toNat, by omega⟩
            obtain rfl : m = i := by rw [hmv, if_neg hneg]; rfl
            have HMM : Aside0 (m < s.size) := ⟨by omega⟩
            have HM : Aside0 (((s.extract m s.size).extract 1 (s.extract m s.size).size).size < s.size) := ⟨by rw [ByteArray.size_extract]; omega⟩
            have hnn : ¬ (m : Int) < 0 := by omega
            clear hmv hz hs1 hneg h0
            go_wp2_with (first | (go_at_call 43; (with_reducible refine (hix _).mono ?_); rintro e w2 ⟨rfl, rfl⟩) | (go_at_call 44; (with_reducible refine (bd_write w.heap.size w.heap.size acc (s.extract 0 m) _ hbu.out HL1.out hb.out.size).mono ?_); rintro e w2 ⟨rfl, hbu1, hb1⟩; have HBU1 := Aside0.mk hbu1; have HB1 := Aside0.mk (hb.out.trans hb1); clear hbu1 hb1) | (go_at_call 45; (with_reducible refine (charref_One.calls (s.extract m s.size) a1 tx 0 _ (HG0.out.below HB1.out) HONE.out).mono ?_); rintro e w3 ⟨rfl, hb3⟩; have HBU2 := Aside0.mk (bd_below HBU1.out hb3); have HB2 := Aside0.mk (below_step HB1.out hb3); clear hb3) | (go_at_call 44; (with_reducible refine (bd_write w.heap.size w.heap.size (acc ++ (s.extract 0 m).data.toList) ((s.extract m s.size).extract 0 1) _ HBU2.out HL2.out HB2.out.size).mono ?_); rintro e w4 ⟨rfl, hbu4, hb4⟩; have HBU4 := Aside0.mk hbu4; have HB4 := Aside0.mk (HB2.out.trans hb4); clear hbu4 hb4))
            go_roundw
            case rel => exact ⟨(s.extract m s.size).extract 1 (s.extract m s.size).size, acc ++ (s.extract 0 m).data.toList ++ ((s.extract m s.size).extract 0 1).data.toList, r, k, (by first | with_reducible rfl | (simp; done)), Nat.le_trans (Nat.le_of_lt HM.out) hs, HR, ⟨by rw [← ht.out, hrest.out]; simp only [List.append_assoc]⟩, HBU4, HB4⟩
            case measure => have := HMM.out; simp only [strLen, ByteArray.size_extract]; omega
      · have hstep : decStep (s.extract m s.size) (tx, tn) = (tx, tn) := by unfold decStep; rw [if_neg (fun h => hn h.1)]
        simp only [hstep] at hd1
        split at hd1
        case isFalse => cases hd1
        rename_i hq
        obtain ⟨r, hr, hrest⟩ := Option.map_eq_some_iff.1 hd1
        obtain ⟨hl1, hl2⟩ := hfin tx 0 r hrest.symm
        have HL1 := Aside0.mk hl1
        have HL2 := Aside0.mk hl2
        clear hl1 hl2
        obtain ⟨q, rfl⟩ : ∃ q : Nat, tn = q := ⟨tn.toNat, by omega⟩
        have hq0 : 1 ≤ q := by omega
        have hq1 : q ≤ (s.extract m s.size).size := by omega
        have HR : Aside0 (decGo a1 k ((s.extract m s.size).extract q (s.extract m s.size).size) = some r) := ⟨hr⟩
        have hrest : Aside0 (rest = (s.extract 0 m).data.toList ++ tx.data.toList ++ r) := ⟨hrest.symm⟩
        have hn' : ((q : Int) == 0) = false := by simp; omega
        clear hemp1 hr hstep hfin hd1 hd hq hxd hxl hn
        by_cases hneg : ix < 0
        · exfalso
          have h1 : m = s.size := by rw [hmv, if_pos hneg]
          omega
        · obtain ⟨i, rfl⟩ : ∃ i : Nat, ix = i := ⟨ix.toNat, by omega⟩
          obtain rfl : m = i := by rw [hmv, if_neg hneg]; rfl
          have HMM : Aside0 (m + q ≤ s.size ∧ 1 ≤ q) := ⟨by omega⟩
          have HM : Aside0 (((s.extract m s.size).extract q (s.extract m s.size).size).size < s.size) := ⟨by rw [ByteArray.size_extract]; omega⟩
          have hnn : ¬ (m : Int) < 0 := by omega
          clear hmv hs1 hneg h0
          go_wp2_with (first | (go_at_call 43; (with_reducible refine (hix _).mono ?_); rintro e w2 ⟨rfl, rfl⟩) | (go_at_call 44; (with_reducible refine (bd_write w.heap.size w.heap.size acc (s.extract 0 m) _ hbu.out HL1.out hb.out.size).mono ?_); rintro e w2 ⟨rfl, hbu1, hb1⟩; have HBU1 := Aside0.mk hbu1; have HB1 := Aside0.mk (hb.out.trans hb1); clear hbu1 hb1) | (go_at_call 45; (with_reducible refine (charref_One.calls (s.extract m s.size) a1 tx q _ (HG0.out.below HB1.out) HONE.out).mono ?_); rintro e w3 ⟨rfl, hb3⟩; have HBU2 := Aside0.mk (bd_below HBU1.out hb3); have HB2 := Aside0.mk (below_step HB1.out hb3); clear hb3) | (go_at_call 44; (with_reducible refine (bd_write w.heap.size w.heap.size (acc ++ (s.extract 0 m).data.toList) tx _ HBU2.out HL2.out HB2.out.size).mono ?_); rintro e w4 ⟨rfl, hbu4, hb4⟩; have HBU4 := Aside0.mk hbu4; have HB4 := Aside0.mk (HB2.out.trans hb4); clear hbu4 hb4))
          go_roundw
          case rel => exact ⟨(s.extract m s.size).extract q (s.extract m s.size).size, acc ++ (s.extract 0 m).data.toList ++ tx.data.toList, r, k, (by first | with_reducible rfl | (simp; done)), Nat.le_trans (Nat.le_of_lt HM.out) hs, HR, ⟨by rw [← ht.out, hrest.out]; simp only [List.append_assoc]⟩, HBU4, HB4⟩
          case measure => have := HMM.out; simp only [strLen, ByteArray.size_extract]; omega

end Go.Proofs.YtoacojkmclngmaaGreatDoor.Pz

-- written by the session's own program hookprint.py
namespace Go.Proofs.YtoacojkmclngmaaGreatDoor.Pz
open Go.RowKit Go.Proofs.YtoacojkmclngmaaGreatDoorW.PrintWords Go.Proofs.YtoacojkmclngmaaGreatDoorW.PrintLast Go.Proofs.YtoacojkmclngmaaGreatDoorW.PrintMore
attribute [local go_sem] max2_int min2_int max_two min_two max_three min_three max_four min_four   -- for this text's walks alone
attribute [local go_sem] rune_str
set_option linter.unusedVariables false
set_option linter.unusedSimpArgs false

/-! ### strings_ReplaceAll: function 134 (by hand) -/
-- IMPORTS: @S@GlobShelf
def strings_ReplaceAll.f (a0 a1 a2 : ByteArray) : Option ByteArray :=
  if a0.size < 4294967281 ∧ 1 ≤ a1.size ∧ a0.size + Lib.countB a0 a1 * a2.size ≤ 140737488355328 then some ⟨(Lib.replaceAll a0.data.toList a1.data.toList a2.data.toList).toArray⟩ else none
theorem strings_ReplaceAll.calls (a0 : ByteArray) (a1 : ByteArray) (a2 : ByteArray) (r : ByteArray) (w : World) (hG : Glob w) (h : strings_ReplaceAll.f a0 a1 a2 = some r) :
    Calls Tryz.prog 134 #[.string a0, .string a1, .string a2] w fun e w' => e = .returned (.string r) ∧ Below w.heap.size w w' := by
  unfold strings_ReplaceAll.f at h
  split at h
  case isFalse => cases h
  rename_i hs
  obtain rfl := Option.some.inj h
  obtain ⟨m, hm⟩ := hG.maxLen
  exact Tryz.strings_ReplaceAll a0 a1 a2 m w hs.1 hm hs.2.1 hs.2.2

end Go.Proofs.YtoacojkmclngmaaGreatDoor.Pz

-- written by the session's own program hookprint.py
namespace Go.Proofs.YtoacojkmclngmaaGreatDoor.Pz
open Go.RowKit Go.Proofs.YtoacojkmclngmaaGreatDoorW.PrintWords Go.Proofs.YtoacojkmclngmaaGreatDoorW.PrintLast Go.Proofs.YtoacojkmclngmaaGreatDoorW.PrintMore
attribute [local go_sem] max2_int min2_int max_two min_two max_three min_three max_four min_four   -- for this text's walks alone
attribute [local go_sem] rune_str
set_option linter.unusedVariables false
set_option linter.unusedSimpArgs false

/-! ### scan_heal: function 109 -/
def scan_heal.f (a0 : ByteArray) : Option (ByteArray) := (strings_ReplaceAll.f a0 (⟨#[0]⟩ : ByteArray) (⟨#[239, 191, 189]⟩ : ByteArray)).bind fun t122 => (some t122)
set_option maxHeartbeats 8000000 in
set_option maxRecDepth 100000 in
theorem scan_heal.calls (a0 : ByteArray) (r : ByteArray) (w : World) (hG : Glob w) (h : scan_heal.f a0 = some r) :
    Calls Tryz.prog 109 #[.string a0] w fun e w' => e = .returned (.string r) ∧ Below w.heap.size w w' := by
  have HB := Aside0.mk (Below.refl w.heap.size w)
  have H : ((strings_ReplaceAll.f a0 (⟨#[0]⟩ : ByteArray) (⟨#[239, 191, 189]⟩ : ByteArray)).bind fun t122 => (some t122)) = some r := h
  clear h
  replace H := Option.bind_eq_some_iff.mp H
  obtain ⟨t122, A20, H⟩ := H
  replace H : (some t122) = some r := H
  have A2 := Aside0.mk A20
  clear A20
  obtain rfl := Option.some.inj H
  go_enter Tryz.func109, Tryz.ntmps109
  go_wp2_with (first | ((with_reducible refine gate_callee (f := 134) rfl ?_); refine goesL_ (some 4) rfl rfl Tryz.func134 (by kernel_rfl) rfl #[.string a0, .string (⟨#[0]⟩ : ByteArray), .string (⟨#[239, 191, 189]⟩ : ByteArray)] rfl (by (try simp only [List.map_toArray, List.map_cons, List.map_nil]); first | done | rfl | (simp only [List.length_drop, List.length_take]; rfl)) ?_; (with_reducible refine (strings_ReplaceAll.calls a0 (⟨#[0]⟩ : ByteArray) (⟨#[239, 191, 189]⟩ : ByteArray) t122 _ ?side1 A2.out).mono ?_); (case side1 => exact Glob.below hG (by repeat (first | (with_reducible first | exact HB.out | apply below_alloc | apply pw_below_drewN | apply below_drew1) | exact HB.out))); rintro e w3 ⟨rfl, hb⟩; refine ⟨_, rfl, ?_⟩; have n0_ := Aside0.mk (below_step (by repeat (first | (with_reducible first | exact HB.out | apply below_alloc | apply pw_below_drewN | apply below_drew1) | exact HB.out)) hb); clear HB; have HB := n0_; clear n0_; (try clear hb); (try clear hb2); (try clear hk); (try clear hi)))
  go_ret
  exact ⟨by first | rfl | (simp [errW_none, errW_some] <;> rfl) | (simp [*, errW_none, errW_some] <;> rfl), by repeat (first | (with_reducible first | exact HB.out | apply below_alloc | apply pw_below_drewN | apply below_drew1) | exact HB.out)⟩

end Go.Proofs.YtoacojkmclngmaaGreatDoor.Pz
