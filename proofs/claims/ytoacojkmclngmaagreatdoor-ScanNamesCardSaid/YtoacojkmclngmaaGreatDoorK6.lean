/- Texts of the session, one behind the other: what the code computes, function by function, and its contracts. -/
import Derived.ScopeJumps
import Derived.WalkMore
import Derived.Maps.Own
import Derived.Maps.OwnSet
import Derived.Maps.OwnOps
import Derived.Test.YtoacojkmclngmaaGreatDoorK1
import Derived.Test.YtoacojkmclngmaaGreatDoorK2
import Derived.Test.YtoacojkmclngmaaGreatDoorK3
import Derived.Test.YtoacojkmclngmaaGreatDoorK4
import Derived.Test.YtoacojkmclngmaaGreatDoorK5
namespace Go.Proofs.YtoacojkmclngmaaGreatDoor.Pz
open Go.RowKit Go.Proofs.YtoacojkmclngmaaGreatDoorW.PrintWords Go.Proofs.YtoacojkmclngmaaGreatDoorW.PrintLast Go.Proofs.YtoacojkmclngmaaGreatDoorW.PrintMore
attribute [local go_sem] max2_int min2_int max_two min_two max_three min_three max_four min_four   -- for this text's walks alone
attribute [local go_sem] rune_str
set_option linter.unusedVariables false
set_option linter.unusedSimpArgs false
def ampAt (s : ByteArray) : Nat := if Lib.indexByte s.data.toList 38 < 0 then s.size else (Lib.indexByte s.data.toList 38).toNat
theorem indexByte_lt (l : List UInt8) (c : UInt8) : Lib.indexByte l c < l.length ∨ l = [] := by
  induction l with
  | nil => exact .inr rfl
  | cons b l ih =>
    refine .inl ?_
    unfold Lib.indexByte
    split
    · simp
    · split
      · simp; omega
      · rcases ih with h | h
        · simp only [List.length_cons]; omega
        · subst h; rename_i h2; exact absurd rfl h2
theorem ampAt_le (s : ByteArray) : ampAt s ≤ s.size := by
  unfold ampAt
  split
  · exact Nat.le_refl _
  · rename_i h
    rcases indexByte_lt s.data.toList 38 with h1 | h1
    · rw [Array.length_toList] at h1
      have : s.data.size = s.size := rfl
      omega
    · rw [h1] at h; exact absurd (by decide) h
def decStep (s1 : ByteArray) (t : ByteArray × Int) : ByteArray × Int := if t.2 = 0 ∧ s1.size ≠ 0 then (s1.extract 0 1, 1) else t
def decGo (attr : Bool) : Nat → ByteArray → Option (List UInt8)
  | 0, s => if s.size = 0 then some [] else none
  | k + 1, s => if s.size = 0 then some [] else
    (charref_One.f (s.extract (ampAt s) s.size) attr).bind fun t0 =>
      let s1 := s.extract (ampAt s) s.size
      let t := decStep s1 t0
      if 0 ≤ t.2 ∧ t.2 ≤ (s1.size : Int) then (decGo attr k (s1.extract t.2.toNat s1.size)).map fun r => (s.extract 0 (ampAt s)).data.toList ++ t.1.data.toList ++ r else none
def charref_Decode.f (a0 : ByteArray) (a1 : Bool) : Option ByteArray :=
  if a0.size ≤ 140737488355328 then (decGo a1 (a0.size + 1) a0).bind fun r => if r.length ≤ 140737488355328 then some ⟨r.toArray⟩ else none else none
def strLen : Value → Nat
  | .string s => s.size
  | _ => 0
theorem size_zero_toList {s : ByteArray} (h : s.size = 0) : s.toList = [] := by
  rw [Lib.toList_data]; exact List.eq_nil_of_length_eq_zero (by rw [Array.length_toList]; exact h)
theorem isEmpty_size (s : ByteArray) : s.toList.isEmpty = decide (s.size = 0) := by
  rw [Lib.toList_data, Bool.eq_iff_iff]
  simp only [List.isEmpty_iff, decide_eq_true_eq]
  constructor
  · intro h; have := congrArg List.length h; rw [Array.length_toList] at this; exact this
  · intro h; exact List.eq_nil_of_length_eq_zero (by rw [Array.length_toList]; exact h)
set_option maxHeartbeats 4000000 in
set_option maxRecDepth 100000 in
theorem charref_Decode.calls (a0 : ByteArray) (a1 : Bool) (r : ByteArray) (w : World) (hG : Glob w) (h : charref_Decode.f a0 a1 = some r) :
    Calls Tryz.prog 25 #[.string a0, .bool a1] w fun e w' => e = .returned (.string r) ∧ Below w.heap.size w w' := by
  unfold charref_Decode.f at h
  split at h
  case isFalse => cases h
  rename_i hsz
  obtain ⟨total, hd, h⟩ := Option.bind_eq_some_iff.1 h
  split at h
  case isFalse => cases h
  rename_i hlen
  obtain rfl := Option.some.inj h
  clear h
  have HG0 := Aside0.mk hG
  clear hG
  have HD := Aside0.mk hd
  clear hd
  go_enter Tryz.func25, Tryz.ntmps25
  go_wp2
  have HBu := Aside0.mk (Lib.IsBuilderF.of (Lib.fresh_isBuilder 64 5 w))
  have HB := Aside0.mk ((Below.refl w.heap.size w).alloc (Nat.le_refl _) (.cells #[.pointer none, .slice none 0 0] 64))
  generalize w.alloc (.cells #[.pointer none, .slice none 0 0] 64) = w1 at HBu HB ⊢
  go_loopw [0] (fun v wr => ∃ (s : ByteArray) (acc rest : List UInt8) (k : Nat), v = .string s ∧ s.size ≤ 140737488355328 ∧ Aside0 (decGo a1 k s = some rest) ∧ Aside0 (acc ++ rest = total) ∧ Aside0 (Lib.IsBuilderF 64 5 w.heap.size w.heap.size (Lib.byteCells acc) wr) ∧ Aside0 (Below w.heap.size w wr)) (fun v _ => strLen v)
  case atStart => exact ⟨a0, [], total, a0.size + 1, rfl, hsz, HD, ⟨rfl⟩, HBu, HB⟩
  case round =>
    obtain ⟨s, acc, rest, k, rfl, hs, hd, ht, hbu, hb⟩ := hrel
    by_cases h0 : s.size = 0
    · have hemp : s.toList.isEmpty = true := by rw [isEmpty_size]; simp [h0]
      have hr : rest = [] := by
        have := hd.out
        cases k <;> simpa [decGo, h0] using this.symm
      have hacc : Aside0 (acc = total) := ⟨by rw [← ht.out, hr, List.append_nil]⟩
      clear hr
      go_wp2_with (go_at_call 46; refine (Tryz.Builder_String_any_k w.heap.size w.heap.size acc wr hbu.out hb.out.size).mono ?_; rintro e w2 ⟨rfl, hx, hy, hz⟩)
      go_ret
      exact ⟨by rw [hacc.out]; rfl, hb.out.trans hy⟩
    · have hemp : s.toList.isEmpty = false := by rw [isEmpty_size]; simp [h0]
      obtain ⟨k, rfl⟩ : ∃ m, k = m + 1 := by
        cases k with
        | zero => have := hd.out; simp [decGo, h0] at this
        | succ k => exact ⟨k, rfl⟩
      have hd1 := hd.out
      rw [decGo, if_neg h0] at hd1
      obtain ⟨⟨tx, tn⟩, hone, hd1⟩ := Option.bind_eq_some_iff.1 hd1
      have HONE0 := Aside0.mk hone
      clear hone
      obtain ⟨m, hm⟩ : ∃ m, m = ampAt s := ⟨_, rfl⟩
      have hmle : m ≤ s.size := by rw [hm]; exact ampAt_le s
      obtain ⟨ix, hixv⟩ : ∃ ix, ix = Lib.indexByte s.data.toList 38 := ⟨_, rfl⟩
      have hix : ∀ W : World, Calls Tryz.prog 43 #[.string s, .int .u8 38] W fun e w' => e = .returned (.int .i64 ix) ∧ w' = W := fun W => (Tryz.strings_IndexByte s 38 W).mono fun e w' ⟨he, hw⟩ => ⟨by rw [he, hixv]; rfl, hw⟩
      have hmv : m = if ix < 0 then s.size else ix.toNat := by rw [hm, hixv]; rfl
      rw [← hm] at HONE0 hd1
      have HONE : Aside0 (charref_One.f (s.extract m s.size) a1 = some (tx, tn)) := HONE0
      have hixn := Aside0.mk hixv
      clear HONE0 hm hixv
      have hs1 : (s.extract m s.size).size = s.size - m := by rw [ByteArray.size_extract]; omega
      have hxl : (s.extract 0 m).size = m := by rw [ByteArray.size_extract]; omega
      have hxd : (s.extract 0 m).data.toList.length = m := by rw [Array.length_toList]; exact hxl
      have hfin : ∀ (text : ByteArray) (q : Nat) (r : List UInt8), rest = (s.extract 0 m).data.toList ++ text.data.toList ++ r → acc.length + (s.extract 0 m).size ≤ 140737488355328 ∧ (acc ++ (s.extract 0 m).data.toList).length + text.size ≤ 140737488355328 := by
        intro text q r hr
        have h1 := congrArg List.length ht.out
        rw [hr] at h1
        simp only [List.length_append, hxd, Array.length_toList] at h1
        have h2 : text.data.size = text.size := rfl
        rw [h2] at h1
        rw [hxl, List.length_append, hxd]
        omega
      have hemp1 := isEmpty_size (s.extract m s.size)
      by_cases hn : tn = 0
      · by_cases hz : (s.extract m s.size).size = 0
        · have hstep : decStep (s.extract m s.size) (tx, tn) = (tx, tn) := by unfold decStep; rw [if_neg (fun h => h.2 hz)]
          simp only [hstep] at hd1
          split at hd1
          case isFalse => cases hd1
          rename_i hq
          obtain ⟨r, hr, hrest⟩ := Option.map_eq_some_iff.1 hd1
          obtain ⟨hl1, hl2⟩ := hfin tx 0 r hrest.symm
          have HL1 := Aside0.mk hl1
          have HL2 := Aside0.mk hl2
          clear hl1 hl2
          subst hn
          have HR : Aside0 (decGo a1 k ((s.extract m s.size).extract 0 (s.extract m s.size).size) = some r) := ⟨hr⟩
          have hrest : Aside0 (rest = (s.extract 0 m).data.toList ++ tx.data.toList ++ r) := ⟨hrest.symm⟩
          rw [hz] at hemp1
          clear hr hstep hfin hd1 hd hq hxd hxl
          have hsame : ∀ x : ByteArray, x.extract 0 x.size = x := fun x => by simp
          rw [hsame] at HR
          by_cases hneg : ix < 0
          · obtain rfl : m = s.size := by rw [hmv, if_pos hneg]
            clear hmv
            have hnone : s.extract s.size s.size = ByteArray.empty := by simp
            rw [hsame] at HL1 HL2 hrest
            rw [hnone] at HR HONE
            clear hsame hnone hs1 hemp1 hz hmle
            go_wp2_with (first | (go_at_call 43; (with_reducible refine (hix _).mono ?_); rintro e w2 ⟨rfl, rfl⟩) | (go_at_call 44; (with_reducible refine (bd_write w.heap.size w.heap.size acc s _ hbu.out HL1.out hb.out.size).mono ?_); rintro e w2 ⟨rfl, hbu1, hb1⟩; have HBU1 := Aside0.mk hbu1; have HB1 := Aside0.mk (hb.out.trans hb1); clear hbu1 hb1) | (go_at_call 45; (with_reducible refine (charref_One.calls ByteArray.empty a1 tx 0 _ (HG0.out.below HB1.out) HONE.out).mono ?_); rintro e w3 ⟨rfl, hb3⟩; have HBU2 := Aside0.mk (bd_below HBU1.out hb3); have HB2 := Aside0.mk (below_step HB1.out hb3); clear hb3) | (go_at_call 44; (with_reducible refine (bd_write w.heap.size w.heap.size (acc ++ s.data.toList) tx _ HBU2.out HL2.out HB2.out.size).mono ?_); rintro e w4 ⟨rfl, hbu4, hb4⟩; have HBU4 := Aside0.mk hbu4; have HB4 := Aside0.mk (HB2.out.trans hb4); clear hbu4 hb4))
            go_roundw
            case rel => exact ⟨ByteArray.empty, acc ++ s.data.toList ++ tx.data.toList, r, k, rfl, by simp, HR, ⟨by rw [← ht.out, hrest.out]; simp only [List.append_assoc]⟩, HBU4, HB4⟩
            case measure => simp [strLen]; omega
          · exfalso
            have h1 : m = ix.toNat := by rw [hmv, if_neg hneg]
            rcases indexByte_lt s.data.toList 38 with h2 | h2
            · rw [Array.length_toList] at h2
              have h3 : s.data.size = s.size := rfl
              have h4 := hixn.out
              omega
            · have := congrArg List.length h2
              rw [Array.length_toList] at this
              exact h0 this
        · have hstep : decStep (s.extract m s.size) (tx, tn) = ((s.extract m s.size).extract 0 1, 1) := by unfold decStep; rw [if_pos ⟨hn, hz⟩]
          simp only [hstep] at hd1
          split at hd1
          case isFalse => cases hd1
          rename_i hq
          obtain ⟨r, hr, hrest⟩ := Option.map_eq_some_iff.1 hd1
          obtain ⟨hl1, hl2⟩ := hfin _ 0 r hrest.symm
          have HL1 := Aside0.mk hl1
          have HL2 := Aside0.mk hl2
          clear hl1 hl2
          subst hn
          have HR : Aside0 (decGo a1 k ((s.extract m s.size).extract 1 (s.extract m s.size).size) = some r) := ⟨hr⟩
          have hrest : Aside0 (rest = (s.extract 0 m).data.toList ++ ((s.extract m s.size).extract 0 1).data.toList ++ r) := ⟨hrest.symm⟩
          have hemp2 : (s.extract m s.size).toList.isEmpty = false := by rw [hemp1]; simpa using hz
          have hge1 : 1 ≤ (s.extract m s.size).size := by omega
          clear hemp1 hr hstep hfin hd1 hd hq hxd hxl
          by_cases hneg : ix < 0
          · exfalso
            have h1 : m = s.size := by rw [hmv, if_pos hneg]
            omega
          · obtain ⟨i, rfl⟩ : ∃ i : Nat, ix = i := ⟨ix.toNat, by omega⟩
            obtain rfl : m = i := by rw [hmv, if_neg hneg]; rfl
            have HMM : Aside0 (m < s.size) := ⟨by omega⟩
            have HM : Aside0 (((s.extract m s.size).extract 1 (s.extract m s.size).size).size < s.size) := ⟨by rw [ByteArray.size_extract]; omega⟩
            have hnn : ¬ (m : Int) < 0 := by omega
            clear hmv hz hs1 hneg h0
            go_wp2_with (first | (go_at_call 43; (with_reducible refine (hix _).mono ?_); rintro e w2 ⟨rfl, rfl⟩) | (go_at_call 44; (with_reducible refine (bd_write w.heap.size w.heap.size acc (s.extract 0 m) _ hbu.out HL1.out hb.out.size).mono ?_); rintro e w2 ⟨rfl, hbu1, hb1⟩; have HBU1 := Aside0.mk hbu1; have HB1 := Aside0.mk (hb.out.trans hb1); clear hbu1 hb1) | (go_at_call 45; (with_reducible refine (charref_One.calls (s.extract m s.size) a1 tx 0 _ (HG0.out.below HB1.out) HONE.out).mono ?_); rintro e w3 ⟨rfl, hb3⟩; have HBU2 := Aside0.mk (bd_below HBU1.out hb3); have HB2 := Aside0.mk (below_step HB1.out hb3); clear hb3) | (go_at_call 44; (with_reducible refine (bd_write w.heap.size w.heap.size (acc ++ (s.extract 0 m).data.toList) ((s.extract m s.size).extract 0 1) _ HBU2.out HL2.out HB2.out.size).mono ?_); rintro e w4 ⟨rfl, hbu4, hb4⟩; have HBU4 := Aside0.mk hbu4; have HB4 := Aside0.mk (HB2.out.trans hb4); clear hbu4 hb4))
            go_roundw
            case rel => exact ⟨(s.extract m s.size).extract 1 (s.extract m s.size).size, acc ++ (s.extract 0 m).data.toList ++ ((s.extract m s.size).extract 0 1).data.toList, r, k, (by first | with_reducible rfl | (simp; done)), Nat.le_trans (Nat.le_of_lt HM.out) hs, HR, ⟨by rw [← ht.out, hrest.out]; simp only [List.append_assoc]⟩, HBU4, HB4⟩
            case measure => have := HMM.out; simp only [strLen, ByteArray.size_extract]; omega
      · have hstep : decStep (s.extract m s.size) (tx, tn) = (tx, tn) := by unfold decStep; rw [if_neg (fun h => hn h.1)]
        simp only [hstep] at hd1
        split at hd1
        case isFalse => cases hd1
        rename_i hq
        obtain ⟨r, hr, hrest⟩ := Option.map_eq_some_iff.1 hd1
        obtain ⟨hl1, hl2⟩ := hfin tx 0 r hrest.symm
        have HL1 := Aside0.mk hl1
        have HL2 := Aside0.mk hl2
        clear hl1 hl2
        obtain ⟨q, rfl⟩ : ∃ q : Nat, tn = q := ⟨tn.toNat, by omega⟩
        have hq0 : 1 ≤ q := by omega
        have hq1 : q ≤ (s.extract m s.size).size := by omega
        have HR : Aside0 (decGo a1 k ((s.extract m s.size).extract q (s.extract m s.size).size) = some r) := ⟨hr⟩
        have hrest : Aside0 (rest = (s.extract 0 m).data.toList ++ tx.data.toList ++ r) := ⟨hrest.symm⟩
        have hn' : ((q : Int) == 0) = false := by simp; omega
        clear hemp1 hr hstep hfin hd1 hd hq hxd hxl hn
        by_cases hneg : ix < 0
        · exfalso
          have h1 : m = s.size := by rw [hmv, if_pos hneg]
          omega
        · obtain ⟨i, rfl⟩ : ∃ i : Nat, ix = i := ⟨ix.toNat, by omega⟩
          obtain rfl : m = i := by rw [hmv, if_neg hneg]; rfl
          have HMM : Aside0 (m + q ≤ s.size ∧ 1 ≤ q) := ⟨by omega⟩
          have HM : Aside0 (((s.extract m s.size).extract q (s.extract m s.size).size).size < s.size) := ⟨by rw [ByteArray.size_extract]; omega⟩
          have hnn : ¬ (m : Int) < 0 := by omega
          clear hmv hs1 hneg h0
          go_wp2_with (first | (go_at_call 43; (with_reducible refine (hix _).mono ?_); rintro e w2 ⟨rfl, rfl⟩) | (go_at_call 44; (with_reducible refine (bd_write w.heap.size w.heap.size acc (s.extract 0 m) _ hbu.out HL1.out hb.out.size).mono ?_); rintro e w2 ⟨rfl, hbu1, hb1⟩; have HBU1 := Aside0.mk hbu1; have HB1 := Aside0.mk (hb.out.trans hb1); clear hbu1 hb1) | (go_at_call 45; (with_reducible refine (charref_One.calls (s.extract m s.size) a1 tx q _ (HG0.out.below HB1.out) HONE.out).mono ?_); rintro e w3 ⟨rfl, hb3⟩; have HBU2 := Aside0.mk (bd_below HBU1.out hb3); have HB2 := Aside0.mk (below_step HB1.out hb3); clear hb3) | (go_at_call 44; (with_reducible refine (bd_write w.heap.size w.heap.size (acc ++ (s.extract 0 m).data.toList) tx _ HBU2.out HL2.out HB2.out.size).mono ?_); rintro e w4 ⟨rfl, hbu4, hb4⟩; have HBU4 := Aside0.mk hbu4; have HB4 := Aside0.mk (HB2.out.trans hb4); clear hbu4 hb4))
          go_roundw
          case rel => exact ⟨(s.extract m s.size).extract q (s.extract m s.size).size, acc ++ (s.extract 0 m).data.toList ++ tx.data.toList, r, k, (by first | with_reducible rfl | (simp; done)), Nat.le_trans (Nat.le_of_lt HM.out) hs, HR, ⟨by rw [← ht.out, hrest.out]; simp only [List.append_assoc]⟩, HBU4, HB4⟩
          case measure => have := HMM.out; simp only [strLen, ByteArray.size_extract]; omega
end Go.Proofs.YtoacojkmclngmaaGreatDoor.Pz
namespace Go.Proofs.YtoacojkmclngmaaGreatDoor.Pz
open Go.RowKit Go.Proofs.YtoacojkmclngmaaGreatDoorW.PrintWords Go.Proofs.YtoacojkmclngmaaGreatDoorW.PrintLast Go.Proofs.YtoacojkmclngmaaGreatDoorW.PrintMore
attribute [local go_sem] max2_int min2_int max_two min_two max_three min_three max_four min_four   -- for this text's walks alone
attribute [local go_sem] rune_str
set_option linter.unusedVariables false
set_option linter.unusedSimpArgs false
theorem wp_scope_fwd {P : Program} {a : Act} {w : World} {Q : Exit → Act → World → Prop} {c rest : Code} (l : Nat) (hf : findLabel c l = some rest)
    (first : c.wp P (Exit.jump l (fun a w => rest.wp P (Exit.noGoto Q) a w) Q) a w) : (Code.scope c).wp P Q a w :=
  wp_scope_jumps l _ (fun _ _ => 0) hf first (fun a w hJ => Code.wp_mono (fun e a' w' h => by cases e <;> first | exact h | exact h.elim) hJ)
theorem jump_ret {l : Nat} {J : Act → World → Prop} {Q : Exit → Act → World → Prop} {a : Act} {w : World} : Exit.jump l J Q .ret a w = Q .ret a w := rfl
def spacesGt : ByteArray := ⟨#[9, 10, 12, 13, 32, 62]⟩
def scan_reader_value.f (s0_0 : ByteArray) (s0_1 : Bool) : Option (ByteArray × ByteArray × Bool) :=
  (scan_reader_blank.f s0_0 s0_1).bind fun b =>
  (scan_reader_next.f b.1 b.2).bind fun n =>
  if n.1 = 61 then
    (scan_reader_skip.f n.2.1 n.2.2 1).bind fun k =>
    (scan_reader_blank.f k.2.1 k.2.2).bind fun d =>
    (scan_reader_next.f d.1 d.2).bind fun m =>
    if m.1 = 34 ∨ m.1 = 39 then
      (scan_reader_skip.f m.2.1 m.2.2 1).bind fun x =>
      (scan_reader_until.f x.2.1 x.2.2 (d.1.extract 0 (min 1 d.1.size))).bind fun q =>
      (scan_reader_skip.f q.2.1 q.2.2 1).bind fun y =>
      (scan_heal.f q.1).bind fun h =>
      (charref_Decode.f h true).bind fun v => some (v, y.2.1, y.2.2)
    else if m.1 = 62 then some (⟨#[]⟩, m.2.1, m.2.2)
    else (scan_reader_until.f m.2.1 m.2.2 spacesGt).bind fun q =>
      (scan_heal.f q.1).bind fun h =>
      (charref_Decode.f h true).bind fun v => some (v, q.2.1, q.2.2)
  else some (⟨#[]⟩, n.2.1, n.2.2)
set_option maxHeartbeats 4000000 in
set_option maxRecDepth 100000 in
theorem scan_reader_value.calls (g : Nat) (s0_0 : ByteArray) (s0_1 : Bool) (r1 : ByteArray) (r2 : ByteArray) (r3 : Bool) (w0 w : World) (hI : IsS52 w0 w g s0_0 s0_1) (hB : Below w0.heap.size w0 w) (hG : Glob w0) (h : scan_reader_value.f s0_0 s0_1 = some (r1, r2, r3)) :
    Calls Tryz.prog 161 #[.pointer (some ⟨g, 0, none⟩)] w fun e w' => e = .returned (.string r1) ∧ IsS52 w0 w' g r2 r3 ∧ Below w0.heap.size w0 w' ∧ KeepBut w w' g none := by
  unfold scan_reader_value.f at h
  replace h := Option.bind_eq_some_iff.1 h
  obtain ⟨⟨b0, b1⟩, hbl, h⟩ := h
  replace h := Option.bind_eq_some_iff.1 h
  obtain ⟨⟨n0, n1, n2⟩, hnx, h⟩ := h
  have HI0 := Aside0.mk hI
  have HK0 := Aside0.mk (KeepBut.refl w g none)
  have HB0 := Aside0.mk hB
  have HG0 := Aside0.mk hG
  clear hI hB hG
  have HBL := Aside0.mk hbl
  have HNX := Aside0.mk hnx
  clear hbl hnx
  by_cases hc : n0 = 61
  · rw [if_pos hc] at h
    replace h := Option.bind_eq_some_iff.1 h
    obtain ⟨⟨k0, k1, k2⟩, hx, h⟩ := h
    have HSK := Aside0.mk hx
    clear hx
    replace h := Option.bind_eq_some_iff.1 h
    obtain ⟨⟨d0, d1⟩, hx, h⟩ := h
    have HB2L := Aside0.mk hx
    clear hx
    replace h := Option.bind_eq_some_iff.1 h
    obtain ⟨⟨m0, m1, m2⟩, hx, h⟩ := h
    have HN2 := Aside0.mk hx
    clear hx
    simp only at HSK HB2L HN2 h
    have hc' : (n0 != 61) = false := by simpa using hc
    clear hc
    have hne : m0 ≠ 0 → 1 ≤ d0.size := by
      intro hm
      rcases Nat.eq_zero_or_pos d0.size with h0 | h0
      · exfalso
        have := HN2.out
        unfold scan_reader_next.f at this
        rw [if_pos (size_zero_toList h0)] at this
        simp only [Option.some.injEq, Prod.mk.injEq] at this
        exact hm this.1.symm
      · exact h0
    by_cases hq : m0 = 34 ∨ m0 = 39
    · rw [if_pos hq] at h
      replace h := Option.bind_eq_some_iff.1 h
      obtain ⟨⟨x0, x1, x2⟩, hx, h⟩ := h
      have HS2 := Aside0.mk hx
      clear hx
      replace h := Option.bind_eq_some_iff.1 h
      obtain ⟨⟨q0, q1, q2⟩, hx, h⟩ := h
      have HUN := Aside0.mk hx
      clear hx
      replace h := Option.bind_eq_some_iff.1 h
      obtain ⟨⟨y0, y1, y2⟩, hx, h⟩ := h
      have HS3 := Aside0.mk hx
      clear hx
      replace h := Option.bind_eq_some_iff.1 h
      obtain ⟨hh, hx, h⟩ := h
      have HHE := Aside0.mk hx
      clear hx
      replace h := Option.bind_eq_some_iff.1 h
      obtain ⟨v, hx, h⟩ := h
      have HDE := Aside0.mk hx
      clear hx
      simp only at HS2 HUN HS3 HHE HDE h
      simp only [Option.some.injEq, Prod.mk.injEq] at h
      obtain ⟨rfl, rfl, rfl⟩ := h
      have hd1 : 1 ≤ d0.size := hne (by omega)
      have hmin1 : min 1 d0.size = 1 := by omega
      rw [hmin1] at HUN
      have hlt1 : ¬ (d0.size : Int) < 1 := by omega
      have hle1 : (1 : Int) ≤ (d0.size : Int) := by omega
      clear hne hmin1 hd1
      rcases hq with rfl | rfl
      · have htok : True := trivial
        go_enter Tryz.func161, Tryz.ntmps161
        go_wp2
        refine wp_scope_fwd 1 rfl ?_
        go_wp2_with (first | (go_at_call 137; (with_reducible refine (scan_reader_blank.calls g s0_0 s0_1 b0 b1 w0 _ HI0.out HB0.out HBL.out).mono ?_); rintro e w1 ⟨rfl, hi, hb, hk⟩; have HI1 := Aside0.mk hi; have HB1 := Aside0.mk hb; have HK1 := Aside0.mk (KeepBut.trans HK0.out hk (.inl rfl)); clear hi hb hk) | (go_at_call 138; (with_reducible refine (scan_reader_next.calls g b0 b1 n0 n1 n2 w0 _ HI1.out HB1.out HNX.out).mono ?_); rintro e w2 ⟨rfl, hi, hb, hk⟩; have HI2 := Aside0.mk hi; have HB2 := Aside0.mk hb; have HK2 := Aside0.mk (KeepBut.trans HK1.out hk (.inl rfl)); clear hi hb hk) | (go_at_call 79; (with_reducible refine (scan_reader_skip.calls g n1 n2 1 k0 k1 k2 w0 _ HI2.out HB2.out HSK.out).mono ?_); rintro e w3 ⟨rfl, hi, hb, hk⟩; have HI3 := Aside0.mk hi; have HB3 := Aside0.mk hb; have HK3 := Aside0.mk (KeepBut.trans HK2.out hk (.inl rfl)); clear hi hb hk) | (go_at_call 137; (with_reducible refine (scan_reader_blank.calls g k1 k2 d0 d1 w0 _ HI3.out HB3.out HB2L.out).mono ?_); rintro e w4 ⟨rfl, hi, hb, hk⟩; have HI4 := Aside0.mk hi; have HB4 := Aside0.mk hb; have HK4 := Aside0.mk (KeepBut.trans HK3.out hk (.inl rfl)); clear hi hb hk; obtain ⟨HGz, _⟩ := HI4.out; have hcz0 := cellS52_0 HGz; clear HGz))
        go_quiet (fail)
        go_wp2_with (first | (go_at_call 138; (with_reducible refine (scan_reader_next.calls g d0 d1 34 m1 m2 w0 _ (IsS52.drewN HI4.out _) (pw_below_drewN HB4.out _) HN2.out).mono ?_); rintro e w5 ⟨rfl, hi, hb, hk⟩; have HI5 := Aside0.mk hi; have HB5 := Aside0.mk hb; have HK5 := Aside0.mk (KeepBut.trans (keep_drewN HK4.out _) hk (.inl rfl)); clear hi hb hk))
        go_step3
        refine And.intro rfl ?_
        go_wp2_with (first | (go_at_call 79; (with_reducible refine (scan_reader_skip.calls g m1 m2 1 x0 x1 x2 w0 _ HI5.out HB5.out HS2.out).mono ?_); rintro e w6 ⟨rfl, hi, hb, hk⟩; have HI6 := Aside0.mk hi; have HB6 := Aside0.mk hb; have HK6 := Aside0.mk (KeepBut.trans HK5.out hk (.inl rfl)); clear hi hb hk) | (go_at_call 136; (with_reducible refine (scan_reader_until.calls g x1 x2 (d0.extract 0 1) q0 q1 q2 w0 _ HI6.out HB6.out HUN.out).mono ?_); rintro e w7 ⟨rfl, hi, hb, hk⟩; have HI7 := Aside0.mk hi; have HB7 := Aside0.mk hb; have HK7 := Aside0.mk (KeepBut.trans HK6.out hk (.inl rfl)); clear hi hb hk) | (go_at_call 79; (with_reducible refine (scan_reader_skip.calls g q1 q2 1 y0 y1 y2 w0 _ HI7.out HB7.out HS3.out).mono ?_); rintro e w8 ⟨rfl, hi, hb, hk⟩; have HI8 := Aside0.mk hi; have HB8 := Aside0.mk hb; have HK8 := Aside0.mk (KeepBut.trans HK7.out hk (.inl rfl)); clear hi hb hk) | (go_at_call 109; (with_reducible refine (scan_heal.calls q0 hh _ (HG0.out.below HB8.out) HHE.out).mono ?_); rintro e w9 ⟨rfl, hb⟩; have HI9 := Aside0.mk (IsS52.below HI8.out hb); have HB9 := Aside0.mk (below_weaken HB8.out HB8.out.size hb); have HK9 := Aside0.mk (KeepBut.trans HK8.out (KeepBut.of_below hb g none) (.inl rfl)); clear hb) | (go_at_call 25; (with_reducible refine (charref_Decode.calls hh true v _ (HG0.out.below HB9.out) HDE.out).mono ?_); rintro e w10 ⟨rfl, hb⟩; have HI10 := Aside0.mk (IsS52.below HI9.out hb); have HB10 := Aside0.mk (below_weaken HB9.out HB9.out.size hb); have HK10 := Aside0.mk (KeepBut.trans HK9.out (KeepBut.of_below hb g none) (.inl rfl)); clear hb))
        rw [Exit.noGoto_ret]
        go_ret
        exact ⟨rfl, HI10.out, HB10.out, HK10.out⟩
      · have htok : True := trivial
        go_enter Tryz.func161, Tryz.ntmps161
        go_wp2
        refine wp_scope_fwd 1 rfl ?_
        go_wp2_with (first | (go_at_call 137; (with_reducible refine (scan_reader_blank.calls g s0_0 s0_1 b0 b1 w0 _ HI0.out HB0.out HBL.out).mono ?_); rintro e w1 ⟨rfl, hi, hb, hk⟩; have HI1 := Aside0.mk hi; have HB1 := Aside0.mk hb; have HK1 := Aside0.mk (KeepBut.trans HK0.out hk (.inl rfl)); clear hi hb hk) | (go_at_call 138; (with_reducible refine (scan_reader_next.calls g b0 b1 n0 n1 n2 w0 _ HI1.out HB1.out HNX.out).mono ?_); rintro e w2 ⟨rfl, hi, hb, hk⟩; have HI2 := Aside0.mk hi; have HB2 := Aside0.mk hb; have HK2 := Aside0.mk (KeepBut.trans HK1.out hk (.inl rfl)); clear hi hb hk) | (go_at_call 79; (with_reducible refine (scan_reader_skip.calls g n1 n2 1 k0 k1 k2 w0 _ HI2.out HB2.out HSK.out).mono ?_); rintro e w3 ⟨rfl, hi, hb, hk⟩; have HI3 := Aside0.mk hi; have HB3 := Aside0.mk hb; have HK3 := Aside0.mk (KeepBut.trans HK2.out hk (.inl rfl)); clear hi hb hk) | (go_at_call 137; (with_reducible refine (scan_reader_blank.calls g k1 k2 d0 d1 w0 _ HI3.out HB3.out HB2L.out).mono ?_); rintro e w4 ⟨rfl, hi, hb, hk⟩; have HI4 := Aside0.mk hi; have HB4 := Aside0.mk hb; have HK4 := Aside0.mk (KeepBut.trans HK3.out hk (.inl rfl)); clear hi hb hk; obtain ⟨HGz, _⟩ := HI4.out; have hcz0 := cellS52_0 HGz; clear HGz))
        go_quiet (fail)
        go_wp2_with (first | (go_at_call 138; (with_reducible refine (scan_reader_next.calls g d0 d1 39 m1 m2 w0 _ (IsS52.drewN HI4.out _) (pw_below_drewN HB4.out _) HN2.out).mono ?_); rintro e w5 ⟨rfl, hi, hb, hk⟩; have HI5 := Aside0.mk hi; have HB5 := Aside0.mk hb; have HK5 := Aside0.mk (KeepBut.trans (keep_drewN HK4.out _) hk (.inl rfl)); clear hi hb hk))
        go_step3
        refine And.intro rfl ?_
        go_wp2_with (first | (go_at_call 79; (with_reducible refine (scan_reader_skip.calls g m1 m2 1 x0 x1 x2 w0 _ HI5.out HB5.out HS2.out).mono ?_); rintro e w6 ⟨rfl, hi, hb, hk⟩; have HI6 := Aside0.mk hi; have HB6 := Aside0.mk hb; have HK6 := Aside0.mk (KeepBut.trans HK5.out hk (.inl rfl)); clear hi hb hk) | (go_at_call 136; (with_reducible refine (scan_reader_until.calls g x1 x2 (d0.extract 0 1) q0 q1 q2 w0 _ HI6.out HB6.out HUN.out).mono ?_); rintro e w7 ⟨rfl, hi, hb, hk⟩; have HI7 := Aside0.mk hi; have HB7 := Aside0.mk hb; have HK7 := Aside0.mk (KeepBut.trans HK6.out hk (.inl rfl)); clear hi hb hk) | (go_at_call 79; (with_reducible refine (scan_reader_skip.calls g q1 q2 1 y0 y1 y2 w0 _ HI7.out HB7.out HS3.out).mono ?_); rintro e w8 ⟨rfl, hi, hb, hk⟩; have HI8 := Aside0.mk hi; have HB8 := Aside0.mk hb; have HK8 := Aside0.mk (KeepBut.trans HK7.out hk (.inl rfl)); clear hi hb hk) | (go_at_call 109; (with_reducible refine (scan_heal.calls q0 hh _ (HG0.out.below HB8.out) HHE.out).mono ?_); rintro e w9 ⟨rfl, hb⟩; have HI9 := Aside0.mk (IsS52.below HI8.out hb); have HB9 := Aside0.mk (below_weaken HB8.out HB8.out.size hb); have HK9 := Aside0.mk (KeepBut.trans HK8.out (KeepBut.of_below hb g none) (.inl rfl)); clear hb) | (go_at_call 25; (with_reducible refine (charref_Decode.calls hh true v _ (HG0.out.below HB9.out) HDE.out).mono ?_); rintro e w10 ⟨rfl, hb⟩; have HI10 := Aside0.mk (IsS52.below HI9.out hb); have HB10 := Aside0.mk (below_weaken HB9.out HB9.out.size hb); have HK10 := Aside0.mk (KeepBut.trans HK9.out (KeepBut.of_below hb g none) (.inl rfl)); clear hb))
        rw [Exit.noGoto_ret]
        go_ret
        exact ⟨rfl, HI10.out, HB10.out, HK10.out⟩
    · rw [if_neg hq] at h
      have hq1 : (m0 == 34) = false := by simp; omega
      have hq2 : (m0 == 39) = false := by simp; omega
      by_cases hg : m0 = 62
      · rw [if_pos hg] at h
        simp only [Option.some.injEq, Prod.mk.injEq] at h
        obtain ⟨rfl, rfl, rfl⟩ := h
        have hd1 : 1 ≤ d0.size := hne (by omega)
        have hlt1 : ¬ (d0.size : Int) < 1 := by omega
        have hle1 : (1 : Int) ≤ (d0.size : Int) := by omega
        clear hne hd1 hq
        subst hg
        go_enter Tryz.func161, Tryz.ntmps161
        go_wp2
        refine wp_scope_fwd 0 rfl ?_
        go_wp2_with (first | (go_at_call 137; (with_reducible refine (scan_reader_blank.calls g s0_0 s0_1 b0 b1 w0 _ HI0.out HB0.out HBL.out).mono ?_); rintro e w1 ⟨rfl, hi, hb, hk⟩; have HI1 := Aside0.mk hi; have HB1 := Aside0.mk hb; have HK1 := Aside0.mk (KeepBut.trans HK0.out hk (.inl rfl)); clear hi hb hk) | (go_at_call 138; (with_reducible refine (scan_reader_next.calls g b0 b1 n0 n1 n2 w0 _ HI1.out HB1.out HNX.out).mono ?_); rintro e w2 ⟨rfl, hi, hb, hk⟩; have HI2 := Aside0.mk hi; have HB2 := Aside0.mk hb; have HK2 := Aside0.mk (KeepBut.trans HK1.out hk (.inl rfl)); clear hi hb hk) | (go_at_call 79; (with_reducible refine (scan_reader_skip.calls g n1 n2 1 k0 k1 k2 w0 _ HI2.out HB2.out HSK.out).mono ?_); rintro e w3 ⟨rfl, hi, hb, hk⟩; have HI3 := Aside0.mk hi; have HB3 := Aside0.mk hb; have HK3 := Aside0.mk (KeepBut.trans HK2.out hk (.inl rfl)); clear hi hb hk) | (go_at_call 137; (with_reducible refine (scan_reader_blank.calls g k1 k2 d0 d1 w0 _ HI3.out HB3.out HB2L.out).mono ?_); rintro e w4 ⟨rfl, hi, hb, hk⟩; have HI4 := Aside0.mk hi; have HB4 := Aside0.mk hb; have HK4 := Aside0.mk (KeepBut.trans HK3.out hk (.inl rfl)); clear hi hb hk; obtain ⟨HGz, _⟩ := HI4.out; have hcz0 := cellS52_0 HGz; clear HGz))
        go_quiet (fail)
        go_wp2_with (first | (go_at_call 138; (with_reducible refine (scan_reader_next.calls g d0 d1 62 m1 m2 w0 _ (IsS52.drewN HI4.out _) (pw_below_drewN HB4.out _) HN2.out).mono ?_); rintro e w5 ⟨rfl, hi, hb, hk⟩; have HI5 := Aside0.mk hi; have HB5 := Aside0.mk hb; have HK5 := Aside0.mk (KeepBut.trans (keep_drewN HK4.out _) hk (.inl rfl)); clear hi hb hk))
        go_step3
        refine And.intro rfl ?_
        go_wp2
        rw [Exit.noGoto_ret]
        go_ret
        exact ⟨rfl, HI5.out, HB5.out, HK5.out⟩
      · rw [if_neg hg] at h
        replace h := Option.bind_eq_some_iff.1 h
        obtain ⟨⟨q0, q1, q2⟩, hx, h⟩ := h
        have HUN := Aside0.mk hx
        clear hx
        replace h := Option.bind_eq_some_iff.1 h
        obtain ⟨hh, hx, h⟩ := h
        have HHE := Aside0.mk hx
        clear hx
        replace h := Option.bind_eq_some_iff.1 h
        obtain ⟨v, hx, h⟩ := h
        have HDE := Aside0.mk hx
        clear hx
        simp only at HUN HHE HDE h
        have HUN : Aside0 (scan_reader_until.f m1 m2 (⟨#[9, 10, 12, 13, 32, 62]⟩ : ByteArray) = some (q0, q1, q2)) := ⟨HUN.out⟩
        simp only [Option.some.injEq, Prod.mk.injEq] at h
        obtain ⟨rfl, rfl, rfl⟩ := h
        have hg1 : (m0 == 62) = false := by simpa using hg
        clear hne hq hg
        by_cases hlt1 : (d0.size : Int) < 1
        · have hle1 : (0 : Int) ≤ (d0.size : Int) := by omega
          go_enter Tryz.func161, Tryz.ntmps161
          go_wp2
          refine wp_scope_fwd 0 rfl ?_
          go_wp2_with (first | (go_at_call 137; (with_reducible refine (scan_reader_blank.calls g s0_0 s0_1 b0 b1 w0 _ HI0.out HB0.out HBL.out).mono ?_); rintro e w1 ⟨rfl, hi, hb, hk⟩; have HI1 := Aside0.mk hi; have HB1 := Aside0.mk hb; have HK1 := Aside0.mk (KeepBut.trans HK0.out hk (.inl rfl)); clear hi hb hk) | (go_at_call 138; (with_reducible refine (scan_reader_next.calls g b0 b1 n0 n1 n2 w0 _ HI1.out HB1.out HNX.out).mono ?_); rintro e w2 ⟨rfl, hi, hb, hk⟩; have HI2 := Aside0.mk hi; have HB2 := Aside0.mk hb; have HK2 := Aside0.mk (KeepBut.trans HK1.out hk (.inl rfl)); clear hi hb hk) | (go_at_call 79; (with_reducible refine (scan_reader_skip.calls g n1 n2 1 k0 k1 k2 w0 _ HI2.out HB2.out HSK.out).mono ?_); rintro e w3 ⟨rfl, hi, hb, hk⟩; have HI3 := Aside0.mk hi; have HB3 := Aside0.mk hb; have HK3 := Aside0.mk (KeepBut.trans HK2.out hk (.inl rfl)); clear hi hb hk) | (go_at_call 137; (with_reducible refine (scan_reader_blank.calls g k1 k2 d0 d1 w0 _ HI3.out HB3.out HB2L.out).mono ?_); rintro e w4 ⟨rfl, hi, hb, hk⟩; have HI4 := Aside0.mk hi; have HB4 := Aside0.mk hb; have HK4 := Aside0.mk (KeepBut.trans HK3.out hk (.inl rfl)); clear hi hb hk; obtain ⟨HGz, _⟩ := HI4.out; have hcz0 := cellS52_0 HGz; clear HGz))
          go_quiet (fail)
          go_wp2_with (first | (go_at_call 138; (with_reducible refine (scan_reader_next.calls g d0 d1 m0 m1 m2 w0 _ (IsS52.drewN HI4.out _) (pw_below_drewN HB4.out _) HN2.out).mono ?_); rintro e w5 ⟨rfl, hi, hb, hk⟩; have HI5 := Aside0.mk hi; have HB5 := Aside0.mk hb; have HK5 := Aside0.mk (KeepBut.trans (keep_drewN HK4.out _) hk (.inl rfl)); clear hi hb hk) | (go_at_call 136; (with_reducible refine (scan_reader_until.calls g m1 m2 (⟨#[9, 10, 12, 13, 32, 62]⟩ : ByteArray) q0 q1 q2 w0 _ HI5.out HB5.out HUN.out).mono ?_); rintro e w6 ⟨rfl, hi, hb, hk⟩; have HI6 := Aside0.mk hi; have HB6 := Aside0.mk hb; have HK6 := Aside0.mk (KeepBut.trans HK5.out hk (.inl rfl)); clear hi hb hk) | (go_at_call 109; (with_reducible refine (scan_heal.calls q0 hh _ (HG0.out.below HB6.out) HHE.out).mono ?_); rintro e w7 ⟨rfl, hb⟩; have HI7 := Aside0.mk (IsS52.below HI6.out hb); have HB7 := Aside0.mk (below_weaken HB6.out HB6.out.size hb); have HK7 := Aside0.mk (KeepBut.trans HK6.out (KeepBut.of_below hb g none) (.inl rfl)); clear hb) | (go_at_call 25; (with_reducible refine (charref_Decode.calls hh true v _ (HG0.out.below HB7.out) HDE.out).mono ?_); rintro e w8 ⟨rfl, hb⟩; have HI8 := Aside0.mk (IsS52.below HI7.out hb); have HB8 := Aside0.mk (below_weaken HB7.out HB7.out.size hb); have HK8 := Aside0.mk (KeepBut.trans HK7.out (KeepBut.of_below hb g none) (.inl rfl)); clear hb))
          rw [jump_ret]
          go_ret
          exact ⟨rfl, HI8.out, HB8.out, HK8.out⟩
        · have hle1 : (1 : Int) ≤ (d0.size : Int) := by omega
          go_enter Tryz.func161, Tryz.ntmps161
          go_wp2
          refine wp_scope_fwd 0 rfl ?_
          go_wp2_with (first | (go_at_call 137; (with_reducible refine (scan_reader_blank.calls g s0_0 s0_1 b0 b1 w0 _ HI0.out HB0.out HBL.out).mono ?_); rintro e w1 ⟨rfl, hi, hb, hk⟩; have HI1 := Aside0.mk hi; have HB1 := Aside0.mk hb; have HK1 := Aside0.mk (KeepBut.trans HK0.out hk (.inl rfl)); clear hi hb hk) | (go_at_call 138; (with_reducible refine (scan_reader_next.calls g b0 b1 n0 n1 n2 w0 _ HI1.out HB1.out HNX.out).mono ?_); rintro e w2 ⟨rfl, hi, hb, hk⟩; have HI2 := Aside0.mk hi; have HB2 := Aside0.mk hb; have HK2 := Aside0.mk (KeepBut.trans HK1.out hk (.inl rfl)); clear hi hb hk) | (go_at_call 79; (with_reducible refine (scan_reader_skip.calls g n1 n2 1 k0 k1 k2 w0 _ HI2.out HB2.out HSK.out).mono ?_); rintro e w3 ⟨rfl, hi, hb, hk⟩; have HI3 := Aside0.mk hi; have HB3 := Aside0.mk hb; have HK3 := Aside0.mk (KeepBut.trans HK2.out hk (.inl rfl)); clear hi hb hk) | (go_at_call 137; (with_reducible refine (scan_reader_blank.calls g k1 k2 d0 d1 w0 _ HI3.out HB3.out HB2L.out).mono ?_); rintro e w4 ⟨rfl, hi, hb, hk⟩; have HI4 := Aside0.mk hi; have HB4 := Aside0.mk hb; have HK4 := Aside0.mk (KeepBut.trans HK3.out hk (.inl rfl)); clear hi hb hk; obtain ⟨HGz, _⟩ := HI4.out; have hcz0 := cellS52_0 HGz; clear HGz))
          go_quiet (fail)
          go_wp2_with (first | (go_at_call 138; (with_reducible refine (scan_reader_next.calls g d0 d1 m0 m1 m2 w0 _ (IsS52.drewN HI4.out _) (pw_below_drewN HB4.out _) HN2.out).mono ?_); rintro e w5 ⟨rfl, hi, hb, hk⟩; have HI5 := Aside0.mk hi; have HB5 := Aside0.mk hb; have HK5 := Aside0.mk (KeepBut.trans (keep_drewN HK4.out _) hk (.inl rfl)); clear hi hb hk) | (go_at_call 136; (with_reducible refine (scan_reader_until.calls g m1 m2 (⟨#[9, 10, 12, 13, 32, 62]⟩ : ByteArray) q0 q1 q2 w0 _ HI5.out HB5.out HUN.out).mono ?_); rintro e w6 ⟨rfl, hi, hb, hk⟩; have HI6 := Aside0.mk hi; have HB6 := Aside0.mk hb; have HK6 := Aside0.mk (KeepBut.trans HK5.out hk (.inl rfl)); clear hi hb hk) | (go_at_call 109; (with_reducible refine (scan_heal.calls q0 hh _ (HG0.out.below HB6.out) HHE.out).mono ?_); rintro e w7 ⟨rfl, hb⟩; have HI7 := Aside0.mk (IsS52.below HI6.out hb); have HB7 := Aside0.mk (below_weaken HB6.out HB6.out.size hb); have HK7 := Aside0.mk (KeepBut.trans HK6.out (KeepBut.of_below hb g none) (.inl rfl)); clear hb) | (go_at_call 25; (with_reducible refine (charref_Decode.calls hh true v _ (HG0.out.below HB7.out) HDE.out).mono ?_); rintro e w8 ⟨rfl, hb⟩; have HI8 := Aside0.mk (IsS52.below HI7.out hb); have HB8 := Aside0.mk (below_weaken HB7.out HB7.out.size hb); have HK8 := Aside0.mk (KeepBut.trans HK7.out (KeepBut.of_below hb g none) (.inl rfl)); clear hb))
          rw [jump_ret]
          go_ret
          exact ⟨rfl, HI8.out, HB8.out, HK8.out⟩
  · rw [if_neg hc] at h
    simp only [Option.some.injEq, Prod.mk.injEq] at h
    obtain ⟨rfl, rfl, rfl⟩ := h
    have hc' : (n0 != 61) = true := by simpa using hc
    clear hc
    go_enter Tryz.func161, Tryz.ntmps161
    go_wp2
    refine wp_scope_fwd 0 rfl ?_
    go_wp2_with (first | (go_at_call 137; (with_reducible refine (scan_reader_blank.calls g s0_0 s0_1 b0 b1 w0 _ HI0.out HB0.out HBL.out).mono ?_); rintro e w1 ⟨rfl, hi, hb, hk⟩; have HI1 := Aside0.mk hi; have HB1 := Aside0.mk hb; have HK1 := Aside0.mk (KeepBut.trans HK0.out hk (.inl rfl)); clear hi hb hk) | (go_at_call 138; (with_reducible refine (scan_reader_next.calls g b0 b1 n0 n1 n2 w0 _ HI1.out HB1.out HNX.out).mono ?_); rintro e w2 ⟨rfl, hi, hb, hk⟩; have HI2 := Aside0.mk hi; have HB2 := Aside0.mk hb; have HK2 := Aside0.mk (KeepBut.trans HK1.out hk (.inl rfl)); clear hi hb hk))
    go_step3
    refine And.intro rfl ?_
    go_wp2
    rw [Exit.noGoto_ret]
    go_ret
    exact ⟨rfl, HI2.out, HB2.out, HK2.out⟩
end Go.Proofs.YtoacojkmclngmaaGreatDoor.Pz
namespace Go.Proofs.YtoacojkmclngmaaGreatDoor.Pz
open Go.RowKit Go.Proofs.YtoacojkmclngmaaGreatDoorW.PrintWords Go.Proofs.YtoacojkmclngmaaGreatDoorW.PrintLast Go.Proofs.YtoacojkmclngmaaGreatDoorW.PrintMore
attribute [local go_sem] max2_int min2_int max_two min_two max_three min_three max_four min_four   -- for this text's walks alone
attribute [local go_sem] rune_str
set_option linter.unusedVariables false
set_option linter.unusedSimpArgs false
def scan_reader_attr.f (s0_0 : ByteArray) (s0_1 : Bool) : Option (ByteArray × ByteArray × ByteArray × Bool) := (scan_reader_skip.f s0_0 s0_1 1).bind fun bt134 => ((scan_reader_until.f bt134.2.1 bt134.2.2 (⟨#[9, 10, 12, 13, 32, 47, 62, 61]⟩ : ByteArray)).bind fun bt137 => (if bt134.1.size + bt137.1.size ≤ 9223372036854775807 then ((scan_named.f (bt134.1 ++ bt137.1)).bind fun t140 => ((scan_reader_value.f bt137.2.1 bt137.2.2).bind fun bt141 => (some (t140, bt141.1, bt141.2.1, bt141.2.2)))) else (none)))
set_option maxHeartbeats 8000000 in
set_option maxRecDepth 100000 in
theorem scan_reader_attr.calls (g : Nat) (s0_0 : ByteArray) (s0_1 : Bool) (r1 : ByteArray) (r2 : ByteArray) (r3 : ByteArray) (r4 : Bool) (w0 w : World) (hI : IsS52 w0 w g s0_0 s0_1) (hB : Below w0.heap.size w0 w) (hG : Glob w0) (h : scan_reader_attr.f s0_0 s0_1 = some (r1, r2, r3, r4)) :
    Calls Tryz.prog 139 #[.pointer (some ⟨g, 0, none⟩)] w fun e w' => e = .returned (.agg #[.string r1, .string r2]) ∧ IsS52 w0 w' g r3 r4 ∧ Below w0.heap.size w0 w' ∧ KeepBut w w' g none := by
  have hu36 := Tryz.underlying36
  have HI0 := Aside0.mk hI
  have HK := Aside0.mk (KeepBut.refl w g none)
  have HL := Aside0.mk hB.size
  clear hI
  have HW0 := Aside0.mk hB.size
  have HB := Aside0.mk hB
  clear hB
  have H : ((scan_reader_skip.f s0_0 s0_1 1).bind fun bt134 => ((scan_reader_until.f bt134.2.1 bt134.2.2 (⟨#[9, 10, 12, 13, 32, 47, 62, 61]⟩ : ByteArray)).bind fun bt137 => (if bt134.1.size + bt137.1.size ≤ 9223372036854775807 then ((scan_named.f (bt134.1 ++ bt137.1)).bind fun t140 => ((scan_reader_value.f bt137.2.1 bt137.2.2).bind fun bt141 => (some (t140, bt141.1, bt141.2.1, bt141.2.2)))) else (none)))) = some (r1, r2, r3, r4) := h
  clear h
  replace H := Option.bind_eq_some_iff.mp H
  obtain ⟨⟨t134, t135, t136⟩, A20, H⟩ := H
  replace H : ((scan_reader_until.f t135 t136 (⟨#[9, 10, 12, 13, 32, 47, 62, 61]⟩ : ByteArray)).bind fun bt137 => (if t134.size + bt137.1.size ≤ 9223372036854775807 then ((scan_named.f (t134 ++ bt137.1)).bind fun t140 => ((scan_reader_value.f bt137.2.1 bt137.2.2).bind fun bt141 => (some (t140, bt141.1, bt141.2.1, bt141.2.2)))) else (none))) = some (r1, r2, r3, r4) := H
  have A2 := Aside0.mk A20
  clear A20
  replace H := Option.bind_eq_some_iff.mp H
  obtain ⟨⟨t137, t138, t139⟩, A30, H⟩ := H
  replace H : (if t134.size + t137.size ≤ 9223372036854775807 then ((scan_named.f (t134 ++ t137)).bind fun t140 => ((scan_reader_value.f t138 t139).bind fun bt141 => (some (t140, bt141.1, bt141.2.1, bt141.2.2)))) else (none)) = some (r1, r2, r3, r4) := H
  have A3 := Aside0.mk A30
  clear A30
  by_cases c4 : t134.size + t137.size ≤ 9223372036854775807
  · rw [if_pos c4] at H
    have c4b0 := eq_true c4
    have c4b1 : decide (t134.size + t137.size ≤ 9223372036854775807) = true := decide_eq_true c4
    try have c4b2 : (9223372036854775807 < t134.size + t137.size) = False := eq_false (Nat.not_lt.2 c4)
    replace H := Option.bind_eq_some_iff.mp H
    obtain ⟨t140, A50, H⟩ := H
    replace H : ((scan_reader_value.f t138 t139).bind fun bt141 => (some (t140, bt141.1, bt141.2.1, bt141.2.2))) = some (r1, r2, r3, r4) := H
    have A5 := Aside0.mk A50
    clear A50
    replace H := Option.bind_eq_some_iff.mp H
    obtain ⟨⟨t141, t142, t143⟩, A60, H⟩ := H
    replace H : (some (t140, t141, t142, t143)) = some (r1, r2, r3, r4) := H
    have A6 := Aside0.mk A60
    clear A60
    simp only [Option.some.injEq, Prod.mk.injEq] at H
    obtain ⟨rfl, rfl, rfl, rfl⟩ := H
    go_enter Tryz.func139, Tryz.ntmps139
    go_wp2_with (first | ((with_reducible refine gate_dst (N := 2) rfl ?_); refine box_event ?hg (N := 2) ?hd (cs := #[.string (⟨#[]⟩ : ByteArray), .string (⟨#[]⟩ : ByteArray)]) (t := 36) ?hr ?_; (case hd => rfl); (case hg => rfl); (case hr => first | (go_simp; done) | (go_simp; rfl)); intro gb133 hg w7 hbox hb; have n0_ := Aside0.mk (IsS52.below (by repeat (first | (with_reducible first | exact HI0.out | apply IsS52.alloc | apply IsS52.drewN | apply IsS52.drew | apply IsS52.set_0 | apply IsS52.set_1) | exact HI0.out)) hb); have n1_ := Aside0.mk (KeepBut.trans (by repeat (first | (with_reducible first | exact HK.out | apply KeepBut.set_ | apply keep_drewN | apply keep_drew | apply keep_alloc) | exact HK.out)) (KeepBut.of_below hb g none) (.inl rfl)); have n2_ := Aside0.mk (below_step (by repeat (first | (with_reducible first | exact HB.out | apply below_alloc | apply pw_below_drewN | apply below_drew1 | refine below_set ?_ (IsS52.ge HI0.out)) | exact HB.out)) hb); have n3_ := Aside0.mk (hbox); have n4_ := Aside0.mk ((by rw [hg]; exact (keep_size (w := w) (g := g) (row := none) (by repeat (first | (with_reducible first | exact HK.out | apply KeepBut.set_ | apply keep_drewN | apply keep_drew | apply keep_alloc) | exact HK.out))) : w.heap.size ≤ gb133)); have n5_ := Aside0.mk ((Nat.le_trans HW0.out (by rw [hg]; exact (keep_size (w := w) (g := g) (row := none) (by repeat (first | (with_reducible first | exact HK.out | apply KeepBut.set_ | apply keep_drewN | apply keep_drew | apply keep_alloc) | exact HK.out))) : w.heap.size ≤ gb133) : w0.heap.size ≤ gb133)); have n6_ := Aside0.mk ((by rw [hg]; exact Nat.ne_of_lt (IsS52.lt (show IsS52 w0 _ g s0_0 s0_1 from by repeat (first | (with_reducible first | exact HI0.out | apply IsS52.alloc | apply IsS52.drewN | apply IsS52.drew | apply IsS52.set_0 | apply IsS52.set_1) | exact HI0.out))) : g ≠ gb133)); have n7_ := Aside0.mk ((by rw [hg]; exact Nat.ne_of_gt (IsS52.lt (show IsS52 w0 _ g s0_0 s0_1 from by repeat (first | (with_reducible first | exact HI0.out | apply IsS52.alloc | apply IsS52.drewN | apply IsS52.drew | apply IsS52.set_0 | apply IsS52.set_1) | exact HI0.out))) : gb133 ≠ g)); clear HI0; clear HK; clear HB; have HI0 := n0_; have HK := n1_; have HB := n2_; have BK133 := n3_; have GW133 := n4_; have GE133 := n5_; have NB0_133 := n6_; have NB133_0 := n7_; clear n0_ n1_ n2_ n3_ n4_ n5_ n6_ n7_; clear hb hbox hg) | ((with_reducible refine gate_callee (f := 79) rfl ?_); refine goesL_ (some 5) rfl rfl Tryz.func79 (by kernel_rfl) rfl #[.pointer (some ⟨g, 0, none⟩), .int .i64 1] rfl (by (try simp only [List.map_toArray, List.map_cons, List.map_nil]); first | done | rfl | (simp only [List.length_drop, List.length_take]; rfl)) ?_; (with_reducible refine (scan_reader_skip.calls g s0_0 s0_1 1 t134 t135 t136 w0 _ ?side1 ?side2 A2.out).mono ?_); (case side1 => repeat (first | (with_reducible first | exact HI0.out | apply IsS52.alloc | apply IsS52.drewN | apply IsS52.drew | apply IsS52.set_0 | apply IsS52.set_1 | refine IsS52.far ?_ NB0_133.out _) | exact HI0.out)); (case side2 => repeat (first | (with_reducible first | exact HB.out | apply below_alloc | apply pw_below_drewN | apply below_drew1 | refine below_set ?_ (IsS52.ge HI0.out) | refine below_set ?_ GE133.out) | exact HB.out)); rintro e w8 ⟨rfl, hi, hb, hk⟩; refine ⟨_, rfl, ?_⟩; have n0_ := Aside0.mk (KeepBut.blk hk (g' := gb133) (o := .cells #[.string (⟨#[]⟩ : ByteArray), .string (⟨#[]⟩ : ByteArray)] 36 (0, 0)) (by (with_reducible repeat (first | refine blk_drewN ?_ _ | refine blk_drew ?_ | refine blk_alloc ?_ _)); exact BK133.out) NB133_0.out (by simp)); have n1_ := Aside0.mk (KeepBut.trans (by repeat (first | (with_reducible first | exact HK.out | apply KeepBut.set_ | apply keep_drewN | apply keep_drew | apply keep_alloc | refine keep_far ?_ GW133.out _) | exact HK.out)) hk (.inl rfl)); have n2_ := Aside0.mk (hb); have n3_ := Aside0.mk (hi); clear BK133; clear HK; clear HB; clear HI0; have BK133 := n0_; have HK := n1_; have HB := n2_; have HI0 := n3_; clear n0_ n1_ n2_ n3_; (try clear hb); (try clear hb2); (try clear hk); (try clear hi)) | ((with_reducible refine gate_callee (f := 136) rfl ?_); refine goesL_ (some 7) rfl rfl Tryz.func136 (by kernel_rfl) rfl #[.pointer (some ⟨g, 0, none⟩), .string (⟨#[9, 10, 12, 13, 32, 47, 62, 61]⟩ : ByteArray)] rfl (by (try simp only [List.map_toArray, List.map_cons, List.map_nil]); first | done | rfl | (simp only [List.length_drop, List.length_take]; rfl)) ?_; (with_reducible refine (scan_reader_until.calls g t135 t136 (⟨#[9, 10, 12, 13, 32, 47, 62, 61]⟩ : ByteArray) t137 t138 t139 w0 _ ?side1 ?side2 A3.out).mono ?_); (case side1 => repeat (first | (with_reducible first | exact HI0.out | apply IsS52.alloc | apply IsS52.drewN | apply IsS52.drew | apply IsS52.set_0 | apply IsS52.set_1 | refine IsS52.far ?_ NB0_133.out _) | exact HI0.out)); (case side2 => repeat (first | (with_reducible first | exact HB.out | apply below_alloc | apply pw_below_drewN | apply below_drew1 | refine below_set ?_ (IsS52.ge HI0.out) | refine below_set ?_ GE133.out) | exact HB.out)); rintro e w9 ⟨rfl, hi, hb, hk⟩; refine ⟨_, rfl, ?_⟩; have n0_ := Aside0.mk (KeepBut.blk hk (g' := gb133) (o := .cells #[.string (⟨#[]⟩ : ByteArray), .string (⟨#[]⟩ : ByteArray)] 36 (0, 0)) (by (with_reducible repeat (first | refine blk_drewN ?_ _ | refine blk_drew ?_ | refine blk_alloc ?_ _)); exact BK133.out) NB133_0.out (by simp)); have n1_ := Aside0.mk (KeepBut.trans (by repeat (first | (with_reducible first | exact HK.out | apply KeepBut.set_ | apply keep_drewN | apply keep_drew | apply keep_alloc | refine keep_far ?_ GW133.out _) | exact HK.out)) hk (.inl rfl)); have n2_ := Aside0.mk (hb); have n3_ := Aside0.mk (hi); clear BK133; clear HK; clear HB; clear HI0; have BK133 := n0_; have HK := n1_; have HB := n2_; have HI0 := n3_; clear n0_ n1_ n2_ n3_; (try clear hb); (try clear hb2); (try clear hk); (try clear hi)) | ((with_reducible refine gate_callee (f := 135) rfl ?_); refine goesL_ (some 10) rfl rfl Tryz.func135 (by kernel_rfl) rfl #[.string (t134 ++ t137)] rfl (by (try simp only [List.map_toArray, List.map_cons, List.map_nil]); first | done | rfl | (simp only [List.length_drop, List.length_take]; rfl)) ?_; (with_reducible refine (scan_named.calls (t134 ++ t137) t140 _ ?side1 A5.out).mono ?_); (case side1 => exact Glob.below hG (by repeat (first | (with_reducible first | exact HB.out | apply below_alloc | apply pw_below_drewN | apply below_drew1 | refine below_set ?_ (IsS52.ge HI0.out) | refine below_set ?_ GE133.out) | exact HB.out))); rintro e w10 ⟨rfl, hb⟩; refine ⟨_, rfl, ?_⟩; have n0_ := Aside0.mk (IsS52.below (by repeat (first | (with_reducible first | exact HI0.out | apply IsS52.alloc | apply IsS52.drewN | apply IsS52.drew | apply IsS52.set_0 | apply IsS52.set_1 | refine IsS52.far ?_ NB0_133.out _) | exact HI0.out)) hb); have n1_ := Aside0.mk (blk_below (g := gb133) (o := .cells #[.string (⟨#[]⟩ : ByteArray), .string (⟨#[]⟩ : ByteArray)] 36 (0, 0)) (by (with_reducible repeat (first | refine blk_drewN ?_ _ | refine blk_drew ?_ | refine blk_alloc ?_ _)); exact BK133.out) hb); have n2_ := Aside0.mk (KeepBut.trans (by repeat (first | (with_reducible first | exact HK.out | apply KeepBut.set_ | apply keep_drewN | apply keep_drew | apply keep_alloc | refine keep_far ?_ GW133.out _) | exact HK.out)) (KeepBut.of_below hb g none) (.inl rfl)); have n3_ := Aside0.mk (below_step (by repeat (first | (with_reducible first | exact HB.out | apply below_alloc | apply pw_below_drewN | apply below_drew1 | refine below_set ?_ (IsS52.ge HI0.out) | refine below_set ?_ GE133.out) | exact HB.out)) hb); clear HI0; clear BK133; clear HK; clear HB; have HI0 := n0_; have BK133 := n1_; have HK := n2_; have HB := n3_; clear n0_ n1_ n2_ n3_; (try clear hb); (try clear hb2); (try clear hk); (try clear hi)) | ((with_reducible refine gate_callee (f := 161) rfl ?_); refine goesL_ (some 12) rfl rfl Tryz.func161 (by kernel_rfl) rfl #[.pointer (some ⟨g, 0, none⟩)] rfl (by (try simp only [List.map_toArray, List.map_cons, List.map_nil]); first | done | rfl | (simp only [List.length_drop, List.length_take]; rfl)) ?_; (with_reducible refine (scan_reader_value.calls g t138 t139 t141 t142 t143 w0 _ ?side1 ?side2 hG A6.out).mono ?_); (case side1 => repeat (first | (with_reducible first | exact HI0.out | apply IsS52.alloc | apply IsS52.drewN | apply IsS52.drew | apply IsS52.set_0 | apply IsS52.set_1 | refine IsS52.far ?_ NB0_133.out _) | exact HI0.out)); (case side2 => repeat (first | (with_reducible first | exact HB.out | apply below_alloc | apply pw_below_drewN | apply below_drew1 | refine below_set ?_ (IsS52.ge HI0.out) | refine below_set ?_ GE133.out) | exact HB.out)); rintro e w11 ⟨rfl, hi, hb, hk⟩; refine ⟨_, rfl, ?_⟩; have n0_ := Aside0.mk (KeepBut.blk hk (g' := gb133) (o := .cells #[.string (⟨#[]⟩ : ByteArray), .string (⟨#[]⟩ : ByteArray)] 36 (0, 0)) (by (with_reducible repeat (first | refine blk_drewN ?_ _ | refine blk_drew ?_ | refine blk_alloc ?_ _)); exact BK133.out) NB133_0.out (by simp)); have n1_ := Aside0.mk (KeepBut.trans (by repeat (first | (with_reducible first | exact HK.out | apply KeepBut.set_ | apply keep_drewN | apply keep_drew | apply keep_alloc | refine keep_far ?_ GW133.out _) | exact HK.out)) hk (.inl rfl)); have n2_ := Aside0.mk (hb); have n3_ := Aside0.mk (hi); clear BK133; clear HK; clear HB; clear HI0; have BK133 := n0_; have HK := n1_; have HB := n2_; have HI0 := n3_; clear n0_ n1_ n2_ n3_; (try clear hb); (try clear hb2); (try clear hk); (try clear hi); have hnb12 := NB133_0.out; have hnc12 := NB0_133.out; have hcz13_0 : w11.cell? ⟨gb133, 0, none⟩ = some (.string (⟨#[]⟩ : ByteArray)) := (blk_cell BK133.out 0).trans rfl; have hcz13_1 : w11.cell? ⟨gb133, 1, none⟩ = some (.string (⟨#[]⟩ : ByteArray)) := (blk_cell BK133.out 1).trans rfl; have hfz13_0 := blk_frozen BK133.out 0; have hfz13_1 := blk_frozen BK133.out 1))
    refine bodyPost_ret (results_cell_row rfl _ _ gb133 36 #[.string t140, .string t141] (0, 0) _ rfl (by (with_reducible repeat (first | refine blk_drewN ?_ _ | refine blk_drew ?_ | refine blk_alloc ?_ _)); refine blk_put (cs := #[.string t140, .string (⟨#[]⟩ : ByteArray)]) ?_ 1 _ rfl; (with_reducible repeat (first | refine blk_drewN ?_ _ | refine blk_drew ?_ | refine blk_alloc ?_ _)); refine blk_put (cs := #[.string (⟨#[]⟩ : ByteArray), .string (⟨#[]⟩ : ByteArray)]) ?_ 0 _ rfl; (with_reducible repeat (first | refine blk_drewN ?_ _ | refine blk_drew ?_ | refine blk_alloc ?_ _)); exact BK133.out) Tryz.underlying36 rfl (by kernel_rfl)) rfl ?_
    exact ⟨by first | rfl | (simp [errW_none, errW_some] <;> rfl) | (simp [*, errW_none, errW_some] <;> rfl), by repeat (first | (with_reducible first | exact HI0.out | apply IsS52.alloc | apply IsS52.drewN | apply IsS52.drew | apply IsS52.set_0 | apply IsS52.set_1 | refine IsS52.far ?_ NB0_133.out _) | exact HI0.out), by repeat (first | (with_reducible first | exact HB.out | apply below_alloc | apply pw_below_drewN | apply below_drew1 | refine below_set ?_ (IsS52.ge HI0.out) | refine below_set ?_ GE133.out) | exact HB.out), by repeat (first | (with_reducible first | exact HK.out | apply KeepBut.set_ | apply keep_drewN | apply keep_drew | apply keep_alloc | refine keep_far ?_ GW133.out _) | exact HK.out)⟩
  · rw [if_neg c4] at H
    exact absurd H (by simp)
end Go.Proofs.YtoacojkmclngmaaGreatDoor.Pz
namespace Go.Proofs.YtoacojkmclngmaaGreatDoor.Pz
open Go.RowKit Go.Proofs.YtoacojkmclngmaaGreatDoorW.PrintWords Go.Proofs.YtoacojkmclngmaaGreatDoorW.PrintLast Go.Proofs.YtoacojkmclngmaaGreatDoorW.PrintMore
attribute [local go_sem] max2_int min2_int max_two min_two max_three min_three max_four min_four   -- for this text's walks alone
attribute [local go_sem] rune_str
set_option linter.unusedVariables false
set_option linter.unusedSimpArgs false
abbrev TagRes := Int × ByteArray × ByteArray × (List (S36)) × Bool × ByteArray × Bool
def tagGo (name : ByteArray) : Nat → ByteArray → Bool → List S36 → Option TagRes
  | 0, _, _, _ => none
  | k + 1, rest, short, attrs =>
    if short = true then some (0, ByteArray.empty, ByteArray.empty, [], false, rest, short) else
    (scan_reader_blank.f rest short).bind fun b =>
    (scan_reader_next.f b.1 b.2).bind fun n =>
    if n.2.2 = true then tagGo name k n.2.1 n.2.2 attrs
    else if n.1 = 62 then (scan_reader_skip.f n.2.1 n.2.2 1).bind fun x => some (2, name, ByteArray.empty, attrs, false, x.2.1, x.2.2)
    else (scan_begins.f n.2.1 ⟨#[47, 62]⟩).bind fun q => if q = true then (scan_reader_skip.f n.2.1 n.2.2 2).bind fun x => some (2, name, ByteArray.empty, attrs, true, x.2.1, x.2.2)
    else if n.1 = 47 then (scan_reader_skip.f n.2.1 n.2.2 1).bind fun x => tagGo name k x.2.1 (x.2.1.toList == ([] : List UInt8)) attrs
    else (scan_reader_attr.f n.2.1 n.2.2).bind fun a => if a.1.size ≤ 140737488355328 ∧ (attrs.length + 1) * 32 ≤ 140737488355328 then
        (if attrs.any (fun y => decide (y.f0 = a.1)) = false ∧ a.2.2.2 = false then tagGo name k a.2.2.1 a.2.2.2 (attrs ++ [⟨a.1, a.2.1⟩]) else tagGo name k a.2.2.1 a.2.2.2 attrs) else none
def scan_reader_tag.f (s0_0 : ByteArray) (s0_1 : Bool) : Option TagRes :=
  (scan_reader_until.f s0_0 s0_1 ⟨#[9, 10, 12, 13, 32, 47, 62]⟩).bind fun u => (scan_named.f u.1).bind fun nm => tagGo nm (u.2.1.size + 2) u.2.1 u.2.2 []
theorem ownsMap_move {H : Type} {P : Program} {k e : TypeId} {w w1 : World} {b n : Nat} {D : DataW H} (h : w.ownsMap P k (plainElem P e) b n D) (hb : w1.heap[b]? = w.heap[b]?) : w1.ownsMap P k (plainElem P e) b n D := by
  obtain ⟨es, clock, hbb, F, hs, hD⟩ := h
  exact ⟨es, clock, hb.trans hbb, F, hs, hD⟩
structure TagInv (w0 w wr : World) (g bt bm : Nat) (name rest : ByteArray) (short : Bool) (attrs : List S36) (va : Value) : Prop where
  I : IsS52 w0 wr g rest short
  B : Below w0.heap.size w0 wr
  K : KeepBut w wr g none
  R : wr.heap[w.heap.size]? = some (.cells #[.int .i64 0, .string ⟨#[]⟩, .string ⟨#[]⟩, .slice none 0 0, .bool false] 33 (0, 0))
  T : wr.heap[bt]? = some (.cells #[.int .i64 2, .string name, .string ⟨#[]⟩, va, .bool false] 33 (0, 0))
  A : Kd.R k36 36 wr w.heap.size (fun k_ => bm < k_) va attrs
  M : ∃ D : DataW Nat, wr.ownsMap Tryz.prog 9 (plainElem Tryz.prog 3) bm attrs.length D ∧ Maps.IsMap D ∧ ∀ x : ByteArray, Maps.has D (.string x.data.toList) = attrs.any (fun y => decide (y.f0 = x))
  h1 : g < w.heap.size
  h2 : w.heap.size < bt
  h3 : bt < bm
  h4 : bm < wr.heap.size
theorem TagInv.keep {w0 w wr w1 : World} {g bt bm : Nat} {name rest rest' : ByteArray} {short short' : Bool} {attrs : List S36} {va : Value} (h : TagInv w0 w wr g bt bm name rest short attrs va)
    (hI : IsS52 w0 w1 g rest' short') (hB : Below w0.heap.size w0 w1) (hK : KeepBut wr w1 g none) : TagInv w0 w w1 g bt bm name rest' short' attrs va := by
  have h1 := h.h1; have h2 := h.h2; have h3 := h.h3; have h4 := h.h4
  have hk : ∀ k, k < wr.heap.size → k ≠ g → w1.heap[k]? = wr.heap[k]? := fun k hlt hne => hK.2 k hlt hne (by simp)
  refine ⟨hI, hB, KeepBut.trans h.K hK (.inl rfl), (hk _ (by omega) (by omega)).trans h.R, (hk _ (by omega) (by omega)).trans h.T, Kd.R_keep h.A hK (fun k hk => by omega), ?_, h1, h2, h3, Nat.lt_of_lt_of_le h4 hK.1⟩
  obtain ⟨D, hD, hm, hh⟩ := h.M
  exact ⟨D, ownsMap_move hD (hk _ h4 (by omega)), hm, hh⟩
theorem TagInv.add {w0 w W7 w8 w9 : World} {g bt bm : Nat} {name rest a1 a2 : ByteArray} {short : Bool} {attrs : List S36} {va va9 : Value} (h : TagInv w0 w W7 g bt bm name rest short attrs va)
    {D d : DataW Nat} (hmap : Maps.IsMap D) (hhas : ∀ x : ByteArray, Maps.has D (.string x.data.toList) = attrs.any (fun y => decide (y.f0 = x)))
    (hown8 : w8.ownsMap Tryz.prog 9 (plainElem Tryz.prog 3) bm (attrs.length + 1) (D.put (.string a1.data.toList) d)) (hg8 : W7.grownBy w8 (some bm))
    (ho : Kd.R k36 36 w9 w.heap.size (fun k_ => bm < k_) va9 (attrs ++ [⟨a1, a2⟩])) (hb9 : Below w.heap.size w8 w9) (hg9 : w8.grownBy w9 va.ownBlock) :
    TagInv w0 w (w9.setCell ⟨bt, 3, none⟩ va9) g bt bm name rest short (attrs ++ [⟨a1, a2⟩]) va9 := by
  have h1 := h.h1; have h2 := h.h2; have h3 := h.h3; have h4 := h.h4
  have hge : w0.heap.size ≤ w.heap.size := Nat.le_of_lt (Nat.lt_of_le_of_lt h.I.2 h1)
  have hgb : w0.heap.size ≤ bt := by omega
  have hgr : w.heap.size ≤ bt := by omega
  have hown : ∀ k, k ≤ bm → some k ≠ va.ownBlock := fun k hk e => by have := h.A.1 k e.symm; omega
  have b8 : ∀ k, k < W7.heap.size → k ≠ bm → w8.heap[k]? = W7.heap[k]? := fun k hk hne => hg8.block k hk (fun e => hne (by injection e))
  have s8 : W7.heap.size ≤ w8.heap.size := hg8.size
  have b9 : ∀ k, k ≤ bm → w9.heap[k]? = w8.heap[k]? := fun k hk => hg9.block k (by omega) (hown k hk)
  have s9 : w8.heap.size ≤ w9.heap.size := hg9.size
  have e79 : ∀ k, k < bm → w9.heap[k]? = W7.heap[k]? := fun k hk => (b9 k (by omega)).trans (b8 k (by omega) (by omega))
  have B8 : Below w0.heap.size w0 w8 := h.B.grown hg8 h.B.size (fun j hj => by cases hj; omega)
  have K8 : KeepBut w w8 g none := KeepBut.trans h.K (KeepBut.of_grown hg8 g) (.inr ⟨bm, rfl, by omega⟩)
  have K9 : KeepBut w w9 g none := KeepBut.trans K8 (KeepBut.of_grown hg9 g) (by
    cases hv : va.ownBlock with
    | none => exact .inl rfl
    | some b => exact .inr ⟨b, rfl, by have := h.A.1 b hv; omega⟩)
  refine ⟨IsS52.far (p := ⟨bt, 3, none⟩) ⟨(e79 g (by omega)).trans h.I.1, h.I.2⟩ (show g ≠ bt by omega) _, below_set (below_weaken B8 hge hb9) hgb, keep_far (p := ⟨bt, 3, none⟩) K9 hgr _, blk_far (p := ⟨bt, 3, none⟩) ((e79 _ (by omega)).trans h.R) (show w.heap.size ≠ bt by omega) _, blk_put ((e79 bt h3).trans h.T) 3 _ rfl, Kd.R_far (p := ⟨bt, 3, none⟩) ho (fun k hk => by show k ≠ bt; omega) _, ?_, h1, h2, h3, ?_⟩
  · refine ⟨D.put (.string a1.data.toList) d, ownsMap_move (w := w8) ?_ ?_, hmap.put _ _, fun x => ?_⟩
    · rw [List.length_append]; exact hown8
    · exact (Below.heap_setCell w9 ⟨bt, 3, none⟩ va9 bm (show bm ≠ bt by omega)).trans (b9 bm (Nat.le_refl _))
    · rw [List.any_append, ← hhas x]
      by_cases hx : x = a1
      · subst hx
        rw [Maps.has_put_same hmap (by simp [WideAt.IsKeyLit])]
        simp
      · rw [Maps.has_put_other (by intro e; injection e with e; exact hx (by cases x; cases a1; simp_all [← Array.toList_inj]))]
        have hq : decide (a1 = x) = false := decide_eq_false (fun e => hx e.symm)
        simp [hq]
  · have hs : (w9.setCell ⟨bt, 3, none⟩ va9).heap.size = w9.heap.size := by simp [World.setCell]
    rw [hs]; omega
theorem blk_put5 {W : World} {b : Nat} {t : TypeId} {c0 c1 c2 c3 c4 : Value} (h : W.heap[b]? = some (.cells #[c0, c1, c2, c3, c4] t (0, 0))) (a0 a1 a2 a3 a4 : Value) :
    (((((W.setCell ⟨b, 0, none⟩ a0).setCell ⟨b, 1, none⟩ a1).setCell ⟨b, 2, none⟩ a2).setCell ⟨b, 3, none⟩ a3).setCell ⟨b, 4, none⟩ a4).heap[b]? = some (.cells #[a0, a1, a2, a3, a4] t (0, 0)) :=
  blk_put (cs := #[a0, a1, a2, a3, c4]) (blk_put (cs := #[a0, a1, a2, c3, c4]) (blk_put (cs := #[a0, a1, c2, c3, c4]) (blk_put (cs := #[a0, c1, c2, c3, c4]) (blk_put h 0 a0 rfl) 1 a1 rfl) 2 a2 rfl) 3 a3 rfl) 4 a4 rfl
structure TagDone (w0 w wr : World) (g bt : Nat) (name rest : ByteArray) (short : Bool) (attrs : List S36) (va : Value) (slf : Bool) : Prop where
  I : IsS52 w0 wr g rest short
  B : Below w0.heap.size w0 wr
  K : KeepBut w wr g none
  R : wr.heap[w.heap.size]? = some (.cells #[.int .i64 0, .string ⟨#[]⟩, .string ⟨#[]⟩, .slice none 0 0, .bool false] 33 (0, 0))
  T : wr.heap[bt]? = some (.cells #[.int .i64 2, .string name, .string ⟨#[]⟩, va, .bool slf] 33 (0, 0))
  A : Kd.R k36 36 wr w.heap.size (fun k_ => bt < k_) va attrs
  h1 : g < w.heap.size
  h2 : w.heap.size < bt
theorem TagInv.toDone {w0 w wr : World} {g bt bm : Nat} {name rest : ByteArray} {short : Bool} {attrs : List S36} {va : Value} (h : TagInv w0 w wr g bt bm name rest short attrs va) : TagDone w0 w wr g bt name rest short attrs va false :=
  ⟨h.I, h.B, h.K, h.R, h.T, Kd.R_mono h.A (fun k hk => Nat.lt_trans h.h3 hk), h.h1, h.h2⟩
theorem TagInv.setSelf {w0 w wr : World} {g bt bm : Nat} {name rest : ByteArray} {short : Bool} {attrs : List S36} {va : Value} (h : TagInv w0 w wr g bt bm name rest short attrs va) : TagDone w0 w (wr.setCell ⟨bt, 4, none⟩ (.bool true)) g bt name rest short attrs va true := by
  have h1 := h.h1; have h2 := h.h2; have h3 := h.h3
  have hge : w0.heap.size ≤ bt := by have := h.I.2; omega
  exact ⟨IsS52.far (p := ⟨bt, 4, none⟩) h.I (show g ≠ bt by omega) _, below_set h.B hge, keep_far (p := ⟨bt, 4, none⟩) h.K (show w.heap.size ≤ bt by omega) _, blk_far (p := ⟨bt, 4, none⟩) h.R (show w.heap.size ≠ bt by omega) _, blk_put h.T 4 _ rfl, Kd.R_far (p := ⟨bt, 4, none⟩) (Kd.R_mono h.A (fun k hk => Nat.lt_trans h3 hk)) (fun k hk => Nat.ne_of_gt hk) _, h1, h2⟩
theorem TagDone.done {w0 w wr : World} {g bt : Nat} {name rest : ByteArray} {short : Bool} {attrs : List S36} {va : Value} {slf : Bool} (h : TagDone w0 w wr g bt name rest short attrs va slf) (a0 a1 a2 a3 a4 : Value) :
    ∀ W, W = (((((wr.setCell ⟨w.heap.size, 0, none⟩ a0).setCell ⟨w.heap.size, 1, none⟩ a1).setCell ⟨w.heap.size, 2, none⟩ a2).setCell ⟨w.heap.size, 3, none⟩ a3).setCell ⟨w.heap.size, 4, none⟩ a4) →
    W.heap[w.heap.size]? = some (.cells #[a0, a1, a2, a3, a4] 33 (0, 0)) ∧ Kd.R k36 36 W w.heap.size (fun _ => True) va attrs ∧ IsS52 w0 W g rest short ∧ Below w0.heap.size w0 W ∧ KeepBut w W g none := by
  rintro W rfl
  have h1 := h.h1; have h2 := h.h2
  have hne : g ≠ w.heap.size := by omega
  have hge : w0.heap.size ≤ w.heap.size := Nat.le_of_lt (Nat.lt_of_le_of_lt h.I.2 h1)
  have hok : ∀ k, bt < k → k ≠ w.heap.size := fun k hk => by omega
  exact ⟨blk_put5 h.R _ _ _ _ _, Kd.R_mono (Kd.R_far (p := ⟨w.heap.size, 4, none⟩) (Kd.R_far (p := ⟨w.heap.size, 3, none⟩) (Kd.R_far (p := ⟨w.heap.size, 2, none⟩) (Kd.R_far (p := ⟨w.heap.size, 1, none⟩) (Kd.R_far (p := ⟨w.heap.size, 0, none⟩) h.A hok a0) hok a1) hok a2) hok a3) hok a4) (fun _ _ => trivial),
    IsS52.far (p := ⟨w.heap.size, 4, none⟩) (IsS52.far (p := ⟨w.heap.size, 3, none⟩) (IsS52.far (p := ⟨w.heap.size, 2, none⟩) (IsS52.far (p := ⟨w.heap.size, 1, none⟩) (IsS52.far (p := ⟨w.heap.size, 0, none⟩) h.I hne a0) hne a1) hne a2) hne a3) hne a4,
    below_set (below_set (below_set (below_set (below_set h.B hge) hge) hge) hge) hge,
    keep_far (p := ⟨w.heap.size, 4, none⟩) (keep_far (p := ⟨w.heap.size, 3, none⟩) (keep_far (p := ⟨w.heap.size, 2, none⟩) (keep_far (p := ⟨w.heap.size, 1, none⟩) (keep_far (p := ⟨w.heap.size, 0, none⟩) h.K (Nat.le_refl _) a0) (Nat.le_refl _) a1) (Nat.le_refl _) a2) (Nat.le_refl _) a3) (Nat.le_refl _) a4⟩
theorem TagInv.done {w0 w wr : World} {g bt bm : Nat} {name rest : ByteArray} {short : Bool} {attrs : List S36} {va : Value} (h : TagInv w0 w wr g bt bm name rest short attrs va) (a0 a1 a2 a3 a4 : Value) :
    ∀ W, W = (((((wr.setCell ⟨w.heap.size, 0, none⟩ a0).setCell ⟨w.heap.size, 1, none⟩ a1).setCell ⟨w.heap.size, 2, none⟩ a2).setCell ⟨w.heap.size, 3, none⟩ a3).setCell ⟨w.heap.size, 4, none⟩ a4) →
    W.heap[w.heap.size]? = some (.cells #[a0, a1, a2, a3, a4] 33 (0, 0)) ∧ Kd.R k36 36 W w.heap.size (fun _ => True) va attrs ∧ IsS52 w0 W g rest short ∧ Below w0.heap.size w0 W ∧ KeepBut w W g none := h.toDone.done a0 a1 a2 a3 a4
set_option maxHeartbeats 4000000 in
set_option maxRecDepth 100000 in
theorem scan_reader_tag.calls (g : Nat) (s0_0 : ByteArray) (s0_1 : Bool) (r1 : Int) (r2 : ByteArray) (r3 : ByteArray) (r4 : List (S36)) (r5 : Bool) (r6 : ByteArray) (r7 : Bool) (w0 w : World) (hI : IsS52 w0 w g s0_0 s0_1) (hB : Below w0.heap.size w0 w) (hG : Glob w0) (h : scan_reader_tag.f s0_0 s0_1 = some (r1, r2, r3, r4, r5, r6, r7)) :
    Calls Tryz.prog 110 #[.pointer (some ⟨g, 0, none⟩)] w fun e w' => ∃ v3_ : Value, e = .returned (.agg #[.int .i64 r1, .string r2, .string r3, v3_, .bool r5]) ∧ Kd.R k36 36 w' w.heap.size (fun _ => True) v3_ r4 ∧ IsS52 w0 w' g r6 r7 ∧ Below w0.heap.size w0 w' ∧ KeepBut w w' g none := by
  have hu33 := Tryz.underlying33
  have hmm := @run_makeMap Tryz.prog
  unfold scan_reader_tag.f at h
  replace h := Option.bind_eq_some_iff.1 h
  obtain ⟨⟨u0, u1, u2⟩, hx, h⟩ := h
  have HUN : Aside0 (scan_reader_until.f s0_0 s0_1 (⟨#[9, 10, 12, 13, 32, 47, 62]⟩ : ByteArray) = some (u0, u1, u2)) := ⟨hx⟩
  clear hx
  replace h := Option.bind_eq_some_iff.1 h
  obtain ⟨nm, hx, h⟩ := h
  have HNM := Aside0.mk hx
  clear hx
  simp only at HNM h
  have HGO := Aside0.mk h
  clear h
  have hgl := IsS52.lt hI
  have HI0 := Aside0.mk (IsS52.alloc hI (Obj.cells #[.int .i64 0, .string ⟨#[]⟩, .string ⟨#[]⟩, .slice none 0 0, .bool false] 33))
  have HK0 := Aside0.mk (keep_alloc (KeepBut.refl w g none) (Obj.cells #[.int .i64 0, .string ⟨#[]⟩, .string ⟨#[]⟩, .slice none 0 0, .bool false] 33))
  have HB0 := Aside0.mk (below_alloc hB (Obj.cells #[.int .i64 0, .string ⟨#[]⟩, .string ⟨#[]⟩, .slice none 0 0, .bool false] 33))
  have HR0 := Aside0.mk (heap_alloc_new w (Obj.cells #[.int .i64 0, .string ⟨#[]⟩, .string ⟨#[]⟩, .slice none 0 0, .bool false] 33))
  have HG0 := Aside0.mk hG
  clear hI hB hG
  go_enter Tryz.func110, Tryz.ntmps110
  go_upto_block 0 with (first | (go_at_call 136; (with_reducible refine (scan_reader_until.calls g s0_0 s0_1 (⟨#[9, 10, 12, 13, 32, 47, 62]⟩ : ByteArray) u0 u1 u2 w0 _ HI0.out HB0.out HUN.out).mono ?_); rintro e w1 ⟨rfl, hi, hb, hk⟩; have HI1 := Aside0.mk hi; have HB1 := Aside0.mk hb; have HK1 := Aside0.mk (KeepBut.trans HK0.out hk (.inl rfl)); have HR1 := Aside0.mk ((hk.2 w.heap.size (blk_lt HR0.out) (by omega) (by simp)).trans HR0.out); clear hi hb hk) | (go_at_call 135; (with_reducible refine (scan_named.calls u0 nm _ (HG0.out.below HB1.out) HNM.out).mono ?_); rintro e w2 ⟨rfl, hb⟩; have HI2 := Aside0.mk (IsS52.below HI1.out hb); have HB2 := Aside0.mk (below_weaken HB1.out HB1.out.size hb); have HK2 := Aside0.mk (KeepBut.trans HK1.out (KeepBut.of_below hb g none) (.inl rfl)); have HR2 := Aside0.mk ((hb.block w.heap.size (blk_lt HR1.out)).trans HR1.out); clear hb))
  have hsz2 : (w2.alloc (Obj.cells #[.int .i64 2, .string nm, .string ⟨#[]⟩, .slice none 0 0, .bool false] 33)).heap.size = w2.heap.size + 1 := by show (w2.heap.push _).size = _; exact Array.size_push _
  have HT : TagInv w0 w ((w2.alloc (Obj.cells #[.int .i64 2, .string nm, .string ⟨#[]⟩, .slice none 0 0, .bool false] 33)).alloc (Obj.map #[] 0)) g w2.heap.size (w2.heap.size + 1) nm u1 u2 [] (.slice none 0 0) := by
    have hlt2 : w.heap.size < w2.heap.size := blk_lt HR2.out
    refine ⟨IsS52.alloc (IsS52.alloc HI2.out _) _, below_alloc (below_alloc HB2.out _) _, keep_alloc (keep_alloc HK2.out _) _, blk_alloc (blk_alloc HR2.out _) _, blk_alloc (heap_alloc_new w2 _) _, Kd.R_nil _ _ _ _ _, ⟨.map [], ?_, Maps.isMap_empty, fun x => rfl⟩, hgl, hlt2, by omega, ?_⟩
    · have hq := World.ownsMap_made (H := Nat) (w2.alloc (Obj.cells #[.int .i64 2, .string nm, .string ⟨#[]⟩, .slice none 0 0, .bool false] 33)) Tryz.prog 9 (plainElem Tryz.prog 3)
      rw [hsz2] at hq
      exact hq
    · show w2.heap.size + 1 < ((w2.heap.push _).push _).size
      rw [Array.size_push, Array.size_push]; omega
  obtain ⟨bt, hbt⟩ : ∃ bt, bt = w2.heap.size := ⟨_, rfl⟩
  obtain ⟨bm, hbm⟩ : ∃ bm, bm = w2.heap.size + 1 := ⟨_, rfl⟩
  obtain ⟨W3, hW3⟩ : ∃ W3, W3 = ((w2.alloc (Obj.cells #[.int .i64 2, .string nm, .string ⟨#[]⟩, .slice none 0 0, .bool false] 33)).alloc (Obj.map #[] 0)) := ⟨_, rfl⟩
  rw [← hW3, ← hbm, ← hbt] at HT
  rw [← hW3, ← hbm, ← hbt]
  have HT := Aside0.mk HT
  clear hW3 hbm hbt hsz2 hgl HI2 HB2 HK2 HR2 HI1 HB1 HK1 HR1 HI0 HB0 HK0 HR0
  go_wp2
  go_loopg [5] (u1.size + 2) (fun kq v5 wr => ∃ (rest : ByteArray) (short : Bool) (attrs : List S36) (va : Value), Aside0 (tagGo nm kq rest short attrs = some (r1, r2, r3, r4, r5, r6, r7)) ∧ Aside0 (kq ≤ u1.size + 2) ∧ Aside0 (TagInv w0 w wr g bt bm nm rest short attrs va))
  case atStart => exact ⟨u1, u2, [], (.slice none 0 0), HGO, ⟨Nat.le_refl _⟩, HT⟩
  case round =>
    obtain ⟨rest, short, attrs, va, HA, HKQ, HT0⟩ := hrel
    cases gk with
    | zero => exact absurd HA.out (by simp [tagGo])
    | succ k1 =>
      have h := HA.out
      clear HA HT HGO HUN HNM
      simp only [tagGo] at h
      obtain ⟨Aa, ca, rfl⟩ := Kd.R_slice HT0.out.A
      obtain ⟨wo, hwo⟩ : ∃ wo, wo = wr := ⟨_, rfl⟩
      subst hwo
      have hz1 := cellS52_1 HT0.out.I.1
      cases short with
      | true =>
        rw [if_pos rfl] at h
        simp only [Option.some.injEq, Prod.mk.injEq] at h
        obtain ⟨rfl, rfl, rfl, rfl, rfl, rfl, rfl⟩ := h
        have hr0 : wo.cell? ⟨w.heap.size, 0, none⟩ = some (.int .i64 0) := (blk_cell HT0.out.R 0).trans rfl
        have hr1 : wo.cell? ⟨w.heap.size, 1, none⟩ = some (.string ⟨#[]⟩) := (blk_cell HT0.out.R 1).trans rfl
        have hr2 : wo.cell? ⟨w.heap.size, 2, none⟩ = some (.string ⟨#[]⟩) := (blk_cell HT0.out.R 2).trans rfl
        have hr3 : wo.cell? ⟨w.heap.size, 3, none⟩ = some (.slice none 0 0) := (blk_cell HT0.out.R 3).trans rfl
        have hr4 : wo.cell? ⟨w.heap.size, 4, none⟩ = some (.bool false) := (blk_cell HT0.out.R 4).trans rfl
        have hf0 := blk_frozen HT0.out.R 0
        have hf1 := blk_frozen HT0.out.R 1
        have hf2 := blk_frozen HT0.out.R 2
        have hf3 := blk_frozen HT0.out.R 3
        have hf4 := blk_frozen HT0.out.R 4
        go_wp2
        refine bodyPost_ret (results_cell_row rfl _ _ w.heap.size 33 #[.int .i64 0, .string ⟨#[]⟩, .string ⟨#[]⟩, .slice none 0 0, .bool false] (0, 0) _ rfl (by first | exact (HT0.out.done (.int .i64 0) (.string ⟨#[]⟩) (.string ⟨#[]⟩) (.slice none 0 0) (.bool false) _ rfl).1 | exact blk_drewN (HT0.out.done (.int .i64 0) (.string ⟨#[]⟩) (.string ⟨#[]⟩) (.slice none 0 0) (.bool false) _ rfl).1 _) hu33 rfl (by kernel_rfl)) rfl ?_
        obtain ⟨-, -, d3, d4, d5⟩ := HT0.out.done (.int .i64 0) (.string ⟨#[]⟩) (.string ⟨#[]⟩) (.slice none 0 0) (.bool false) _ rfl
        exact ⟨_, rfl, Kd.R_nil _ _ _ _ _, d3, d4, d5⟩
      | false =>
        rw [if_neg (by simp)] at h
        replace h := Option.bind_eq_some_iff.1 h
        obtain ⟨⟨b0, b1⟩, hx, h⟩ := h
        have HBL := Aside0.mk hx
        clear hx
        replace h := Option.bind_eq_some_iff.1 h
        obtain ⟨⟨n0, n1, n2⟩, hx, h⟩ := h
        have HNX := Aside0.mk hx
        clear hx
        simp only at HNX h
        cases n2 with
        | true =>
          rw [if_pos rfl] at h
          have HA := Aside0.mk h
          clear h
          go_wp2_with (first | (go_at_call 137; (with_reducible refine (scan_reader_blank.calls g rest false b0 b1 w0 _ HT0.out.I HT0.out.B HBL.out).mono ?_); rintro e w4 ⟨rfl, hi, hb, hk⟩; have HT1 := Aside0.mk (HT0.out.keep hi hb hk); clear hi hb hk) | (go_at_call 138; (with_reducible refine (scan_reader_next.calls g b0 b1 n0 n1 true w0 _ HT1.out.I HT1.out.B HNX.out).mono ?_); rintro e w5 ⟨rfl, hi, hb, hk⟩; have HT2 := Aside0.mk (HT1.out.keep hi hb hk); clear hi hb hk; have hd0 := cellS52_0 HT2.out.I.1; have hd1 := cellS52_1 HT2.out.I.1))
          go_roundg k1
          case measure => have := HKQ.out; omega
          case rel => exact ⟨n1, true, attrs, _, HA, ⟨by have := HKQ.out; omega⟩, HT2⟩
        | false =>
          rw [if_neg (by simp)] at h
          by_cases hn : n0 = 62
          · rw [if_pos hn] at h
            subst hn
            replace h := Option.bind_eq_some_iff.1 h
            obtain ⟨⟨x0, x1, x2⟩, hx, h⟩ := h
            have HSK := Aside0.mk hx
            clear hx
            simp only [Option.some.injEq, Prod.mk.injEq] at h
            obtain ⟨rfl, rfl, rfl, rfl, rfl, rfl, rfl⟩ := h
            go_wp2_with (first | (go_at_call 137; (with_reducible refine (scan_reader_blank.calls g rest false b0 b1 w0 _ HT0.out.I HT0.out.B HBL.out).mono ?_); rintro e w4 ⟨rfl, hi, hb, hk⟩; have HT1 := Aside0.mk (HT0.out.keep hi hb hk); clear hi hb hk) | (go_at_call 138; (with_reducible refine (scan_reader_next.calls g b0 b1 62 n1 false w0 _ HT1.out.I HT1.out.B HNX.out).mono ?_); rintro e w5 ⟨rfl, hi, hb, hk⟩; have HT2 := Aside0.mk (HT1.out.keep hi hb hk); clear hi hb hk; have hd0 := cellS52_0 HT2.out.I.1; have hd1 := cellS52_1 HT2.out.I.1) | (go_at_call 79; (with_reducible refine (scan_reader_skip.calls g n1 false 1 x0 x1 x2 w0 _ HT2.out.I HT2.out.B HSK.out).mono ?_); rintro e w6 ⟨rfl, hi, hb, hk⟩; have HT3 := Aside0.mk (HT2.out.keep hi hb hk); clear hi hb hk; have hr0 : w6.cell? ⟨w.heap.size, 0, none⟩ = some (.int .i64 0) := (blk_cell HT3.out.R 0).trans rfl; have hr1 : w6.cell? ⟨w.heap.size, 1, none⟩ = some (.string ⟨#[]⟩) := (blk_cell HT3.out.R 1).trans rfl; have hr2 : w6.cell? ⟨w.heap.size, 2, none⟩ = some (.string ⟨#[]⟩) := (blk_cell HT3.out.R 2).trans rfl; have hr3 : w6.cell? ⟨w.heap.size, 3, none⟩ = some (.slice none 0 0) := (blk_cell HT3.out.R 3).trans rfl; have hr4 : w6.cell? ⟨w.heap.size, 4, none⟩ = some (.bool false) := (blk_cell HT3.out.R 4).trans rfl; have hf0 := blk_frozen HT3.out.R 0; have hf1 := blk_frozen HT3.out.R 1; have hf2 := blk_frozen HT3.out.R 2; have hf3 := blk_frozen HT3.out.R 3; have hf4 := blk_frozen HT3.out.R 4; have ht0 : w6.cell? ⟨bt, 0, none⟩ = some (.int .i64 2) := (blk_cell HT3.out.T 0).trans rfl; have ht1 : w6.cell? ⟨bt, 1, none⟩ = some (.string nm) := (blk_cell HT3.out.T 1).trans rfl; have ht2 : w6.cell? ⟨bt, 2, none⟩ = some (.string ⟨#[]⟩) := (blk_cell HT3.out.T 2).trans rfl; have ht3 : w6.cell? ⟨bt, 3, none⟩ = some (.slice Aa attrs.length ca) := (blk_cell HT3.out.T 3).trans rfl; have ht4 : w6.cell? ⟨bt, 4, none⟩ = some (.bool false) := (blk_cell HT3.out.T 4).trans rfl; have hg4 := blk_frozen HT3.out.T 4))
            refine bodyPost_ret (results_cell_row rfl _ _ w.heap.size 33 #[.int .i64 2, .string nm, .string ⟨#[]⟩, .slice Aa attrs.length ca, .bool false] (0, 0) _ rfl (by first | exact (HT3.out.done (.int .i64 2) (.string nm) (.string ⟨#[]⟩) (.slice Aa attrs.length ca) (.bool false) _ rfl).1 | exact blk_drewN (HT3.out.done (.int .i64 2) (.string nm) (.string ⟨#[]⟩) (.slice Aa attrs.length ca) (.bool false) _ rfl).1 _) hu33 rfl (by kernel_rfl)) rfl ?_
            obtain ⟨-, d2, d3, d4, d5⟩ := HT3.out.done (.int .i64 2) (.string nm) (.string ⟨#[]⟩) (.slice Aa attrs.length ca) (.bool false) _ rfl
            exact ⟨_, rfl, d2, d3, d4, d5⟩
          · rw [if_neg hn] at h
            have hn' : (n0 == 62) = false := by simpa using hn
            replace h := Option.bind_eq_some_iff.1 h
            obtain ⟨q, hx, h⟩ := h
            have HBG : Aside0 (scan_begins.f n1 (⟨#[47, 62]⟩ : ByteArray) = some q) := ⟨hx⟩
            clear hx hn
            cases q with
            | true =>
              rw [if_pos rfl] at h
              replace h := Option.bind_eq_some_iff.1 h
              obtain ⟨⟨x0, x1, x2⟩, hx, h⟩ := h
              have HSK := Aside0.mk hx
              clear hx
              simp only [Option.some.injEq, Prod.mk.injEq] at h
              obtain ⟨rfl, rfl, rfl, rfl, rfl, rfl, rfl⟩ := h
              go_upto_region 18 with (first | (go_at_call 137; (with_reducible refine (scan_reader_blank.calls g rest false b0 b1 w0 _ HT0.out.I HT0.out.B HBL.out).mono ?_); rintro e w4 ⟨rfl, hi, hb, hk⟩; have HT1 := Aside0.mk (HT0.out.keep hi hb hk); clear hi hb hk) | (go_at_call 138; (with_reducible refine (scan_reader_next.calls g b0 b1 n0 n1 false w0 _ HT1.out.I HT1.out.B HNX.out).mono ?_); rintro e w5 ⟨rfl, hi, hb, hk⟩; have HT2 := Aside0.mk (HT1.out.keep hi hb hk); clear hi hb hk; have hd0 := cellS52_0 HT2.out.I.1; have hd1 := cellS52_1 HT2.out.I.1) | (go_at_call 112; (with_reducible refine (scan_begins.calls n1 (⟨#[47, 62]⟩ : ByteArray) true _ HBG.out).mono ?_); rintro e w7 ⟨rfl, hb⟩; have HTB := Aside0.mk (HT2.out.keep (IsS52.below HT2.out.I hb) (below_weaken HT2.out.B HT2.out.B.size hb) (KeepBut.of_below hb g none)); clear hb) | (go_at_call 79; (with_reducible refine (scan_reader_skip.calls g n1 false 2 x0 x1 x2 w0 _ HTB.out.I HTB.out.B HSK.out).mono ?_); rintro e w6 ⟨rfl, hi, hb, hk⟩; have HT3 := Aside0.mk (HTB.out.keep hi hb hk); clear hi hb hk; have ht0 : w6.cell? ⟨bt, 0, none⟩ = some (.int .i64 2) := (blk_cell HT3.out.T 0).trans rfl; have ht1 : w6.cell? ⟨bt, 1, none⟩ = some (.string nm) := (blk_cell HT3.out.T 1).trans rfl; have ht2 : w6.cell? ⟨bt, 2, none⟩ = some (.string ⟨#[]⟩) := (blk_cell HT3.out.T 2).trans rfl; have ht3 : w6.cell? ⟨bt, 3, none⟩ = some (.slice Aa attrs.length ca) := (blk_cell HT3.out.T 3).trans rfl; have ht4 : w6.cell? ⟨bt, 4, none⟩ = some (.bool false) := (blk_cell HT3.out.T 4).trans rfl; have hg4 := blk_frozen HT3.out.T 4))
              obtain ⟨W7, hW7⟩ : ∃ W7, W7 = (w6.setCell ⟨bt, 4, none⟩ (.bool true)) := ⟨_, rfl⟩
              rw [← hW7]
              have HT7 := Aside0.mk (show TagDone w0 w W7 g bt nm x1 x2 attrs (.slice Aa attrs.length ca) true from by rw [hW7]; exact HT3.out.setSelf)
              clear hW7 ht0 ht1 ht2 ht3 ht4 hg4
              have hr0 : W7.cell? ⟨w.heap.size, 0, none⟩ = some (.int .i64 0) := (blk_cell HT7.out.R 0).trans rfl
              have hr1 : W7.cell? ⟨w.heap.size, 1, none⟩ = some (.string ⟨#[]⟩) := (blk_cell HT7.out.R 1).trans rfl
              have hr2 : W7.cell? ⟨w.heap.size, 2, none⟩ = some (.string ⟨#[]⟩) := (blk_cell HT7.out.R 2).trans rfl
              have hr3 : W7.cell? ⟨w.heap.size, 3, none⟩ = some (.slice none 0 0) := (blk_cell HT7.out.R 3).trans rfl
              have hr4 : W7.cell? ⟨w.heap.size, 4, none⟩ = some (.bool false) := (blk_cell HT7.out.R 4).trans rfl
              have hf0 := blk_frozen HT7.out.R 0
              have hf1 := blk_frozen HT7.out.R 1
              have hf2 := blk_frozen HT7.out.R 2
              have hf3 := blk_frozen HT7.out.R 3
              have hf4 := blk_frozen HT7.out.R 4
              have ht0 : W7.cell? ⟨bt, 0, none⟩ = some (.int .i64 2) := (blk_cell HT7.out.T 0).trans rfl
              have ht1 : W7.cell? ⟨bt, 1, none⟩ = some (.string nm) := (blk_cell HT7.out.T 1).trans rfl
              have ht2 : W7.cell? ⟨bt, 2, none⟩ = some (.string ⟨#[]⟩) := (blk_cell HT7.out.T 2).trans rfl
              have ht3 : W7.cell? ⟨bt, 3, none⟩ = some (.slice Aa attrs.length ca) := (blk_cell HT7.out.T 3).trans rfl
              have ht4 : W7.cell? ⟨bt, 4, none⟩ = some (.bool true) := (blk_cell HT7.out.T 4).trans rfl
              go_wp2
              refine bodyPost_ret (results_cell_row rfl _ _ w.heap.size 33 #[.int .i64 2, .string nm, .string ⟨#[]⟩, .slice Aa attrs.length ca, .bool true] (0, 0) _ rfl (by first | exact (HT7.out.done (.int .i64 2) (.string nm) (.string ⟨#[]⟩) (.slice Aa attrs.length ca) (.bool true) _ rfl).1 | exact blk_drewN (HT7.out.done (.int .i64 2) (.string nm) (.string ⟨#[]⟩) (.slice Aa attrs.length ca) (.bool true) _ rfl).1 _) hu33 rfl (by kernel_rfl)) rfl ?_
              obtain ⟨-, d2, d3, d4, d5⟩ := HT7.out.done (.int .i64 2) (.string nm) (.string ⟨#[]⟩) (.slice Aa attrs.length ca) (.bool true) _ rfl
              exact ⟨_, rfl, d2, d3, d4, d5⟩
            | false =>
              rw [if_neg (by simp)] at h
              by_cases hs : n0 = 47
              · rw [if_pos hs] at h
                subst hs
                replace h := Option.bind_eq_some_iff.1 h
                obtain ⟨⟨x0, x1, x2⟩, hx, h⟩ := h
                have HSK := Aside0.mk hx
                clear hx
                simp only at HSK h
                have HA0 := Aside0.mk h
                clear h
                go_upto_region 21 with (first | (go_at_call 137; (with_reducible refine (scan_reader_blank.calls g rest false b0 b1 w0 _ HT0.out.I HT0.out.B HBL.out).mono ?_); rintro e w4 ⟨rfl, hi, hb, hk⟩; have HT1 := Aside0.mk (HT0.out.keep hi hb hk); clear hi hb hk) | (go_at_call 138; (with_reducible refine (scan_reader_next.calls g b0 b1 47 n1 false w0 _ HT1.out.I HT1.out.B HNX.out).mono ?_); rintro e w5 ⟨rfl, hi, hb, hk⟩; have HT2 := Aside0.mk (HT1.out.keep hi hb hk); clear hi hb hk; have hd0 := cellS52_0 HT2.out.I.1; have hd1 := cellS52_1 HT2.out.I.1) | (go_at_call 112; (with_reducible refine (scan_begins.calls n1 (⟨#[47, 62]⟩ : ByteArray) false _ HBG.out).mono ?_); rintro e w7 ⟨rfl, hb⟩; have HTB := Aside0.mk (HT2.out.keep (IsS52.below HT2.out.I hb) (below_weaken HT2.out.B HT2.out.B.size hb) (KeepBut.of_below hb g none)); clear hb) | (go_at_call 79; (with_reducible refine (scan_reader_skip.calls g n1 false 1 x0 x1 x2 w0 _ HTB.out.I HTB.out.B HSK.out).mono ?_); rintro e w6 ⟨rfl, hi, hb, hk⟩; have HT3 := Aside0.mk (HTB.out.keep hi hb hk); clear hi hb hk; have hx0 := cellS52_0 HT3.out.I.1; have hx1 := cellS52_1 HT3.out.I.1; have hxf := blk_frozen HT3.out.I.1 1))
                have hstep : TagInv w0 w (w6.setCell ⟨g, 1, none⟩ (.bool (x1.toList == ([] : List UInt8)))) g bt bm nm x1 (x1.toList == ([] : List UInt8)) attrs (.slice Aa attrs.length ca) := HT3.out.keep (IsS52.set_1 HT3.out.I _) (below_set HT3.out.B HT3.out.I.2) (KeepBut.set_ (KeepBut.refl _ _ _) _ _)
                have h := HA0.out
                clear HA0
                by_cases hz : x1.toList = []
                · have hz' : (x1.toList == ([] : List UInt8)) = true := beq_iff_eq.mpr hz
                  rw [hz'] at h hstep
                  have HA := Aside0.mk h
                  have HT4 := Aside0.mk hstep
                  clear h hstep hz
                  go_wp2
                  go_roundg k1
                  case measure => have := HKQ.out; omega
                  case rel => exact ⟨x1, true, attrs, _, HA, ⟨by have := HKQ.out; omega⟩, HT4⟩
                · have hz' : (x1.toList == ([] : List UInt8)) = false := beq_eq_false_iff_ne.mpr hz
                  rw [hz'] at h hstep
                  have HA := Aside0.mk h
                  have HT4 := Aside0.mk hstep
                  clear h hstep hz
                  go_wp2
                  go_roundg k1
                  case measure => have := HKQ.out; omega
                  case rel => exact ⟨x1, false, attrs, _, HA, ⟨by have := HKQ.out; omega⟩, HT4⟩
              · rw [if_neg hs] at h
                have hs' : (n0 == 47) = false := by simpa using hs
                clear hs
                replace h := Option.bind_eq_some_iff.1 h
                obtain ⟨⟨a1, a2, a3, a4⟩, hx, h⟩ := h
                have HAT := Aside0.mk hx
                clear hx
                simp only at h
                split at h
                case isFalse => cases h
                rename_i hbd
                have hbd1 := hbd.1
                have HBD := Aside0.mk hbd.2
                clear hbd
                have HA0 := Aside0.mk h
                clear h
                have HKEY : Aside0 (keyOf Tryz.prog 9 (.string a1) = some (.string a1.data.toList)) := ⟨WideMaps.keyOf_string_mk Tryz.underlying9 (by unfold maxLen; omega)⟩
                have HZ3 : Aside0 (∀ w : World, (zeroValue 3).run Tryz.prog w = .ok (.int .i64 0) w) := ⟨fun w => by kernel_rfl⟩
                clear hbd1
                go_upto_region 7 with (first | (go_at_call 137; (with_reducible refine (scan_reader_blank.calls g rest false b0 b1 w0 _ HT0.out.I HT0.out.B HBL.out).mono ?_); rintro e w4 ⟨rfl, hi, hb, hk⟩; have HT1 := Aside0.mk (HT0.out.keep hi hb hk); clear hi hb hk) | (go_at_call 138; (with_reducible refine (scan_reader_next.calls g b0 b1 n0 n1 false w0 _ HT1.out.I HT1.out.B HNX.out).mono ?_); rintro e w5 ⟨rfl, hi, hb, hk⟩; have HT2 := Aside0.mk (HT1.out.keep hi hb hk); clear hi hb hk; have hd0 := cellS52_0 HT2.out.I.1; have hd1 := cellS52_1 HT2.out.I.1) | (go_at_call 112; (with_reducible refine (scan_begins.calls n1 (⟨#[47, 62]⟩ : ByteArray) false _ HBG.out).mono ?_); rintro e w7 ⟨rfl, hb⟩; have HTB := Aside0.mk (HT2.out.keep (IsS52.below HT2.out.I hb) (below_weaken HT2.out.B HT2.out.B.size hb) (KeepBut.of_below hb g none)); clear hb) | (go_at_call 139; (with_reducible refine (scan_reader_attr.calls g n1 false a1 a2 a3 a4 w0 _ HTB.out.I HTB.out.B HG0.out HAT.out).mono ?_); rintro e w6 ⟨rfl, hi, hb, hk⟩; have HT3 := Aside0.mk (HTB.out.keep hi hb hk); clear hi hb hk))
                obtain ⟨W7, hW7⟩ : ∃ W7, W7 = w6.alloc (Obj.cells #[.string a1, .string a2] 36) := ⟨_, rfl⟩
                rw [← hW7]
                have HT7 := Aside0.mk (show TagInv w0 w W7 g bt bm nm a3 a4 attrs (.slice Aa attrs.length ca) from by rw [hW7]; exact HT3.out.keep (IsS52.alloc HT3.out.I _) (below_alloc HT3.out.B _) (keep_alloc (KeepBut.refl _ _ _) _))
                have HBA := Aside0.mk (show W7.heap[w6.heap.size]? = some (.cells #[.string a1, .string a2] 36 (0, 0)) from by rw [hW7]; exact heap_alloc_new w6 _)
                have HNE : Aside0 (w6.heap.size ≠ bm) := ⟨by have := HT3.out.h4; omega⟩
                clear hW7 hd0 hd1
                have ha0 : W7.cell? ⟨w6.heap.size, 0, none⟩ = some (.string a1) := (blk_cell HBA.out 0).trans rfl
                have hd1 := cellS52_1 HT7.out.I.1
                have hv3 : W7.cell? ⟨bt, 3, none⟩ = some (.slice Aa attrs.length ca) := (blk_cell HT7.out.T 3).trans rfl
                obtain ⟨D, hown, hmap, hhas⟩ := HT7.out.M
                have hh := hhas a1
                have HHAS := Aside0.mk hhas
                have HMAP := Aside0.mk hmap
                have HOWN := Aside0.mk hown
                clear hown hmap hhas
                cases hany : attrs.any (fun y => decide (y.f0 = a1)) with
                | true =>
                  rw [hany] at hh
                  have h := HA0.out
                  rw [if_neg (by rw [hany]; simp)] at h
                  have HA := Aside0.mk h
                  clear h HA0 hany
                  go_wp2_with (first | (at_lookup; refine wpList_lookup_own_ok_int _ rfl _ _ 86 rfl 9 3 .i64 (Maps.string_keyed Tryz.underlying9) Tryz.underlying86 Tryz.underlying3 (HZ3.out _) bm attrs.length D rfl HOWN.out _ _ rfl HKEY.out ?_; intro c hat hwc; clear hat hwc))
                  go_roundg k1
                  case measure => have := HKQ.out; omega
                  case rel => exact ⟨a3, a4, attrs, _, HA, ⟨by have := HKQ.out; omega⟩, HT7⟩
                | false =>
                  rw [hany] at hh
                  have h := HA0.out
                  rw [hany] at h
                  clear HA0 hany
                  cases a4 with
                  | true =>
                    rw [if_neg (by simp)] at h
                    have HA := Aside0.mk h
                    clear h
                    go_wp2_with (first | (at_lookup; refine wpList_lookup_own_ok_int _ rfl _ _ 86 rfl 9 3 .i64 (Maps.string_keyed Tryz.underlying9) Tryz.underlying86 Tryz.underlying3 (HZ3.out _) bm attrs.length D rfl HOWN.out _ _ rfl HKEY.out ?_; intro c hat hwc; clear hat hwc))
                    go_roundg k1
                    case measure => have := HKQ.out; omega
                    case rel => exact ⟨a3, true, attrs, _, HA, ⟨by have := HKQ.out; omega⟩, HT7⟩
                  | false =>
                    rw [if_pos ⟨rfl, rfl⟩] at h
                    have HA := Aside0.mk h
                    clear h
                    have HML : Aside0 (attrs.length < maxLen) := ⟨by have := HBD.out; unfold maxLen; omega⟩
                    have HWF : Aside0 (-9223372036854775808 ≤ (attrs.length : Int) ∧ (attrs.length : Int) ≤ 9223372036854775807) := ⟨by have := HBD.out; omega⟩
                    have HNO : Aside0 (some bt ≠ (Value.slice Aa attrs.length ca).ownBlock) := ⟨fun e => by have := HT7.out.A.1 bt e.symm; have := HT7.out.h3; omega⟩
                    go_upto_region 10 with (first | (at_lookup; refine wpList_lookup_own_ok_int _ rfl _ _ 86 rfl 9 3 .i64 (Maps.string_keyed Tryz.underlying9) Tryz.underlying86 Tryz.underlying3 (HZ3.out _) bm attrs.length D rfl HOWN.out _ _ rfl HKEY.out ?_; intro c hat hwc; clear hat hwc) | (at_mapUpdate; refine wpList_mapUpdate_own _ rfl _ _ _ 86 rfl 9 3 (Maps.string_keyed Tryz.underlying9) Tryz.underlying86 _ bm attrs.length _ rfl HOWN.out (HML.out) _ _ _ rfl rfl HKEY.out _ [] (plainElem_int Tryz.underlying3 (WalkArith.wf_i64 HWF.out)) ?_; intro w8 hown8 hgrow8; have HOWN8 := Aside0.mk hown8; have HG8 := Aside0.mk hgrow8; have HT8 := Aside0.mk ((hgrow8.block bt (blk_lt HT7.out.T) (by intro e; injection e with e; have := HT7.out.h3; omega)).trans HT7.out.T); have HA8 := Aside0.mk (Kd.R_grown HT7.out.A hgrow8 (fun k hk => by intro e; injection e with e; omega)); have HBA8 := Aside0.mk ((hgrow8.block w6.heap.size (blk_lt HBA.out) (by intro e; injection e with e; exact HNE.out e)).trans HBA.out); clear hown8 hgrow8; have ht3 : w8.cell? ⟨bt, 3, none⟩ = some (.slice Aa attrs.length ca) := (blk_cell HT8.out 3).trans rfl; have hq0 : w8.cell? ⟨w6.heap.size, 0, none⟩ = some (.string a1) := (blk_cell HBA8.out 0).trans rfl; have hq1 : w8.cell? ⟨w6.heap.size, 1, none⟩ = some (.string a2) := (blk_cell HBA8.out 1).trans rfl))
                    have HSZ8 : Aside0 (w.heap.size ≤ w8.heap.size) := ⟨by have := HT7.out.h1; have := HT7.out.h2; have := HT7.out.h3; have := HT7.out.h4; have := HG8.out.size; omega⟩
                    have HFR8 : Aside0 (∀ k_, w8.heap.size ≤ k_ → bm < k_) := ⟨fun k_ hk_ => by have := HT7.out.h4; have := HG8.out.size; omega⟩
                    clear ha0 hd1 hv3
                    go_wp2_with (first | ((with_reducible refine gate_builtin (b := .append) (xs := #[.tmp 48, .tmp 50]) rfl ?_); at_builtin; refine Kd.R_append k36 w.heap.size rfl (.tmp 48) (.tmp 50) 31 36 (.agg #[(.string ⟨#[]⟩), (.string ⟨#[]⟩)]) 32 rfl Tryz.underlying31 info36 rfl (by decide) (by omega) (.slice Aa attrs.length ca) attrs (⟨a1, a2⟩ : S36) [.string a1, .string a2] (fun k_ => bm < k_) (fun _ => False) rfl rfl (k36_mkM _ _ _ (⟨a1, a2⟩ : S36)) (fun _ hk => hk.elim) HFR8.out HA8.out (Below.refl _ _) HSZ8.out HBD.out ?_; intro v9 w9 ho hb hg hat; obtain ⟨A9, c9, rfl⟩ := Kd.R_slice ho; have HO9 := Aside0.mk ho; have HB9 := Aside0.mk hb; have HG9 := Aside0.mk hg; clear ho hb hg hat; have HT9 := Aside0.mk ((HG9.out.block bt (blk_lt HT8.out) (HNO.out)).trans HT8.out); have hs3 : w9.cell? ⟨bt, 3, none⟩ = some (.slice Aa attrs.length ca) := (blk_cell HT9.out 3).trans rfl; have hs3f := blk_frozen HT9.out 3))
                    have HT10 : Aside0 (TagInv w0 w (w9.setCell ⟨bt, 3, none⟩ (.slice A9 (attrs.length + 1) c9)) g bt bm nm a3 false (attrs ++ [⟨a1, a2⟩]) (.slice A9 (attrs.length + 1) c9)) := by
                      have e : (attrs ++ [(⟨a1, a2⟩ : S36)]).length = attrs.length + 1 := by simp
                      have hq := TagInv.add (a2 := a2) HT7.out HMAP.out HHAS.out HOWN8.out HG8.out HO9.out HB9.out HG9.out
                      rw [e] at hq
                      exact ⟨hq⟩
                    go_roundg k1
                    case measure => have := HKQ.out; omega
                    case rel => exact ⟨a3, false, _, _, HA, ⟨by have := HKQ.out; omega⟩, HT10⟩
end Go.Proofs.YtoacojkmclngmaaGreatDoor.Pz
/- Every function of the scanner answers at every text of bounded size. -/
namespace Go.Proofs.YtoacojkmclngmaaGreatDoor.Pz
open Go.RowKit Go.Proofs.YtoacojkmclngmaaGreatDoorW.PrintWords Go.Proofs.YtoacojkmclngmaaGreatDoorW.PrintLast Go.Proofs.YtoacojkmclngmaaGreatDoorW.PrintMore
set_option linter.unusedVariables false
set_option linter.unusedSimpArgs false
theorem len_list (s : ByteArray) : s.data.toList.length = s.size := by rw [Array.length_toList]; rfl
theorem size_mk (l : List UInt8) : (⟨l.toArray⟩ : ByteArray).size = l.length := rfl
theorem skip_tot (rest : ByteArray) (sh : Bool) (n : Int) (h : 0 ≤ n) : scan_reader_skip.f rest sh n = some (rest.extract 0 (min n.toNat rest.size), rest.extract (min n.toNat rest.size) rest.size, sh) := by
  unfold scan_reader_skip.f; rw [if_pos h]
theorem anyIdx_bd (l cs : List UInt8) : -1 ≤ anyIdx l cs ∧ anyIdx l cs ≤ l.length := by
  unfold anyIdx
  cases h : l.findIdx? (fun c => cs.contains c) with
  | none => exact ⟨by decide, by show (-1 : Int) ≤ _; omega⟩
  | some i =>
    have := (List.findIdx?_eq_some_iff_getElem.1 h).1
    exact ⟨by show (-1 : Int) ≤ (i : Int); omega, by show (i : Int) ≤ _; omega⟩
theorem until_tot (rest : ByteArray) (sh : Bool) (ends : ByteArray) (h : rest.size ≤ 1000000) (he : ends.size ≤ 100) (ha : ends.data.toList.all (fun b => decide (b.toNat < 128)) = true) :
    ∃ a b sh', scan_reader_until.f rest sh ends = some (a, b, sh') ∧ a.size + b.size = rest.size := by
  unfold scan_reader_until.f scan_anyAt.f
  rw [if_pos ⟨by omega, by omega, ha⟩]
  have hb := anyIdx_bd rest.data.toList ends.data.toList
  rw [len_list] at hb
  simp only [Option.bind_some]
  by_cases hn : anyIdx rest.data.toList ends.data.toList < 0
  · rw [if_pos hn, if_pos (by omega), if_pos (by omega)]
    refine ⟨_, _, _, rfl, ?_⟩
    simp [ByteArray.size_extract]
  · rw [if_neg hn, if_pos (by omega), if_pos (by omega)]
    refine ⟨_, _, _, rfl, ?_⟩
    rw [ByteArray.size_extract, ByteArray.size_extract]
    omega
theorem blank_tot (rest : ByteArray) (sh : Bool) : ∃ b, scan_reader_blank.f rest sh = some (b, sh) ∧ b.size ≤ rest.size := by
  unfold scan_reader_blank.f strings_TrimLeft.f
  rw [if_pos ⟨by decide, by decide⟩]
  refine ⟨_, rfl, ?_⟩
  rw [size_mk]
  have := (List.dropWhile_sublist (fun c => [9, 10, 12, 13, 32].contains c) (l := rest.data.toList)).length_le
  rw [len_list] at this
  exact this
theorem toList_nil (s : ByteArray) : s.toList = [] ↔ s.size = 0 := by
  rw [Lib.toList_data, ← len_list]
  exact List.length_eq_zero_iff.symm
theorem next_tot (rest : ByteArray) (sh : Bool) : (rest.size = 0 ∧ scan_reader_next.f rest sh = some (0, rest, true)) ∨ (0 < rest.size ∧ scan_reader_next.f rest sh = some (bt rest 0, rest, sh)) := by
  unfold scan_reader_next.f
  by_cases h : rest.size = 0
  · left; rw [if_pos ((toList_nil rest).2 h)]; exact ⟨h, rfl⟩
  · right; rw [if_neg (fun e => h ((toList_nil rest).1 e)), if_pos (by omega)]; exact ⟨by omega, rfl⟩
theorem lower_tot (s : ByteArray) (h : s.size ≤ 1000000) : class_Lower.f s = some (lowerB s) ∧ (lowerB s).size = s.size := by
  unfold class_Lower.f
  rw [if_pos (by omega)]
  refine ⟨rfl, ?_⟩
  unfold lowerB
  rw [size_mk, List.length_map, len_list]
theorem replaceK_length (old new : List UInt8) : ∀ (k : Nat) (s : List UInt8), (Lib.replaceK old new k s).length ≤ s.length + k * new.length
  | 0, s => by simp [Lib.replaceK]
  | k + 1, s => by
    unfold Lib.replaceK
    split
    · omega
    · have ih := replaceK_length old new k (s.drop ((Lib.index s old).toNat + old.length))
      rw [List.length_append, List.length_append, List.length_take]
      rw [List.length_drop] at ih
      have : (k + 1) * new.length = k * new.length + new.length := Nat.succ_mul _ _
      omega
theorem heal_tot (s : ByteArray) (h : s.size ≤ 1000000) : ∃ r, scan_heal.f s = some r ∧ r.size ≤ 4 * s.size := by
  have hc := Lib.countB_le (⟨#[0]⟩ : ByteArray) (by decide) s.size s (Nat.le_refl _)
  unfold scan_heal.f strings_ReplaceAll.f
  rw [if_pos ⟨by omega, by decide, by have h3 : (⟨#[239, 191, 189]⟩ : ByteArray).size = 3 := rfl; rw [h3]; exact Nat.le_trans (Nat.add_le_add_left (Nat.mul_le_mul_right 3 hc) _) (by omega)⟩]
  refine ⟨_, rfl, ?_⟩
  rw [size_mk]
  unfold Lib.replaceAll Lib.replace
  split
  · rw [len_list]; omega
  · have hk := replaceK_length (⟨#[0]⟩ : ByteArray).data.toList (⟨#[239, 191, 189]⟩ : ByteArray).data.toList (Lib.replaceNum s.data.toList (⟨#[0]⟩ : ByteArray).data.toList (-1)) s.data.toList
    have hn : Lib.replaceNum s.data.toList (⟨#[0]⟩ : ByteArray).data.toList (-1) = Lib.countB s (⟨#[0]⟩ : ByteArray) := by unfold Lib.replaceNum; rw [if_pos (.inl (by decide))]; first | done | rfl
    rw [hn] at hk ⊢
    rw [len_list] at hk
    have h3 : (⟨#[239, 191, 189]⟩ : ByteArray).data.toList.length = 3 := rfl
    rw [h3] at hk
    omega
theorem named_tot (s : ByteArray) (h : s.size ≤ 1000000) : ∃ r, scan_named.f s = some r ∧ r.size ≤ 4 * s.size := by
  unfold scan_named.f
  obtain ⟨h1, h2⟩ := lower_tot s h
  rw [h1]
  obtain ⟨r, h3, h4⟩ := heal_tot (lowerB s) (by omega)
  exact ⟨r, by simp only [Option.bind_some, h3], by omega⟩
theorem begins_tot (s w : ByteArray) (h : s.size ≤ 1000000) : ∃ r, scan_begins.f s w = some r ∧ (r = true → w.size ≤ s.size) := by
  unfold scan_begins.f
  by_cases hw : (s.size : Int) ≥ (w.size : Int)
  · rw [if_pos hw, if_pos (by omega), if_pos (by omega)]
    obtain ⟨h1, _⟩ := lower_tot (s.extract 0 ((w.size : Int) : Int).toNat) (by rw [ByteArray.size_extract]; omega)
    rw [h1]
    exact ⟨_, rfl, fun _ => by omega⟩
  · rw [if_neg hw]
    exact ⟨false, rfl, fun e => by cases e⟩
theorem encode_size (n : Int) : (Utf8.encode n).size ≤ 4 := by
  unfold Utf8.encode
  extract_lets c b
  split
  · exact (by decide : 1 ≤ 4)
  · split
    · exact (by decide : 2 ≤ 4)
    · split
      · exact (by decide : 3 ≤ 4)
      · exact (by decide : 4 ≤ 4)
theorem numeric_tot (s : ByteArray) (h0 : 2 ≤ s.size) (h : s.size ≤ 1000000) : ∃ t n, charref_numeric.f s = some (t, n) ∧ 0 ≤ n ∧ n ≤ s.size ∧ t.size ≤ 1000 := by
  unfold charref_numeric.f
  rw [if_pos ⟨h0, by omega⟩]
  refine ⟨(numericV s.data.toList).1, (numericV s.data.toList).2, rfl, ?_⟩
  obtain ⟨l, hl⟩ : ∃ l, l = s.data.toList := ⟨_, rfl⟩
  have hll : l.length = s.size := by rw [hl, len_list]
  rw [← hl]
  unfold numericV
  simp only
  obtain ⟨i, hi⟩ : ∃ i : Nat, i = if isX l = true then 3 else 2 := ⟨_, rfl⟩
  have hil : i ≤ l.length := by
    rw [hi]
    split
    · rename_i hx
      unfold isX at hx
      split at hx
      · rename_i c r hc
        have := congrArg List.length hc
        rw [List.length_drop, List.length_cons] at this
        omega
      · cases hx
    · omega
  rw [← hi]
  obtain ⟨ds, hds⟩ : ∃ ds, ds = (l.drop i).takeWhile fun c => fig (if isX l = true then 16 else 10) (c.toNat : Int) := ⟨_, rfl⟩
  rw [← hds]
  have hdl : i + ds.length ≤ l.length := by
    have := (List.takeWhile_sublist (fun c : UInt8 => fig (if isX l = true then 16 else 10) (c.toNat : Int)) (l := l.drop i)).length_le
    rw [← hds, List.length_drop] at this
    omega
  obtain ⟨nv, hnv⟩ : ∃ nv, nv = numberV (if isX l = true then 16 else 10) 1114112 ds := ⟨_, rfl⟩
  rw [← hnv]
  by_cases hf : nv.2 = true
  · rw [if_pos hf]
    have hz := encode_size (codedV nv.1)
    refine ⟨?_, ?_, by show (Utf8.encode (codedV nv.1)).size ≤ 1000; omega⟩
    · show (0 : Int) ≤ (if (l.drop (i + ds.length)).head? = some 59 then ((i + ds.length : Nat) : Int) + 1 else ((i + ds.length : Nat) : Int))
      by_cases hh : (l.drop (i + ds.length)).head? = some 59
      · rw [if_pos hh]; omega
      · rw [if_neg hh]; omega
    · show (if (l.drop (i + ds.length)).head? = some 59 then ((i + ds.length : Nat) : Int) + 1 else ((i + ds.length : Nat) : Int)) ≤ _
      by_cases hh : (l.drop (i + ds.length)).head? = some 59
      · rw [if_pos hh]
        have hne : (l.drop (i + ds.length)) ≠ [] := by intro e; rw [e] at hh; cases hh
        have := List.length_pos_iff.2 hne
        rw [List.length_drop] at this
        omega
      · rw [if_neg hh]; omega
  · rw [if_neg hf]
    exact ⟨Int.le_refl 0, by show (0 : Int) ≤ _; omega, by show (⟨#[]⟩ : ByteArray).size ≤ 1000; decide⟩
theorem text_size : ∀ i : Nat, i < 134 → ((allV.toArray[i]!).f1).size ≤ 1000 := by
  have h : (allV.all fun x => decide (x.f1.size ≤ 1000)) = true := by kernel_rfl
  intro i hi
  have hl : i < allV.length := by rw [allV_len]; exact hi
  have e : allV.toArray[i]! = allV[i]'hl := by rw [getElem!_pos _ i (by simpa using hl)]; simp
  rw [e]
  have := List.all_eq_true.1 h _ (List.getElem_mem hl)
  simpa using this
theorem named_tot2 (s : ByteArray) (h : s.size ≤ 1000000) : ∃ t n, entity_Named.f s = some (t, n) ∧ 0 ≤ n ∧ n ≤ s.size ∧ t.size ≤ 1000 := by
  unfold entity_Named.f
  rw [if_pos (by omega)]
  refine ⟨(namedV s).1, (namedV s).2, rfl, ?_⟩
  unfold namedV
  rcases longV_spec s with h0 | ⟨h1, h2, h3, h4⟩
  · rw [if_pos h0]; exact ⟨Int.le_refl _, by show (0 : Int) ≤ _; omega, by decide⟩
  · rw [if_neg (by omega)]
    exact ⟨by show 0 ≤ (longV s).2; omega, h4, text_size _ (by omega)⟩
theorem letter_tot (c : Int) (h : 0 ≤ c ∧ c ≤ 255) : class_Letter.f c = some (isLetter c) := by unfold class_Letter.f; rw [if_pos h]
theorem goes_tot (s : ByteArray) (i : Int) : ∃ r, charref_goes.f (bt s i) = some r := by
  unfold charref_goes.f
  by_cases h : bt s i = 61
  · rw [if_pos h]; exact ⟨_, rfl⟩
  · rw [if_neg h, letter_tot _ (bt_range s i), Option.bind_some]
    cases isLetter (bt s i)
    · exact ⟨_, rfl⟩
    · exact ⟨_, rfl⟩
theorem prefix_size (s : ByteArray) (l : List UInt8) (h : Lib.hasPrefix s.data.toList l = true) : l.length ≤ s.size := by
  unfold Lib.hasPrefix at h
  have := (List.isPrefixOf_iff_prefix.1 h).length_le
  rw [len_list] at this
  exact this
theorem one_tot (s : ByteArray) (attr : Bool) (h : s.size ≤ 1000000) : ∃ t n, charref_One.f s attr = some (t, n) ∧ 0 ≤ n ∧ n ≤ s.size ∧ t.size ≤ 1000 := by
  unfold charref_One.f
  rw [show strings_HasPrefix.f s (⟨#[38]⟩ : ByteArray) = some (Lib.hasPrefix s.data.toList [38]) from rfl, Option.bind_some]
  by_cases h1 : Lib.hasPrefix s.data.toList [38] = true
  case neg => rw [if_neg h1]; exact ⟨_, _, rfl, Int.le_refl _, by omega, by decide⟩
  have hs1 : 1 ≤ s.size := prefix_size s _ h1
  rw [if_pos h1, show strings_HasPrefix.f s (⟨#[38, 35]⟩ : ByteArray) = some (Lib.hasPrefix s.data.toList [38, 35]) from rfl, Option.bind_some]
  by_cases h2 : Lib.hasPrefix s.data.toList [38, 35] = true
  · rw [if_pos h2]
    have hs2 : 2 ≤ s.size := prefix_size s _ h2
    obtain ⟨t, n, e, r⟩ := numeric_tot s hs2 h
    rw [e]
    exact ⟨t, n, rfl, r⟩
  · rw [if_neg h2, if_pos (by omega)]
    have hse : (s.extract 1 s.size).size = s.size - 1 := by rw [ByteArray.size_extract]; omega
    obtain ⟨t, n, e, r1, r2, r3⟩ := named_tot2 (s.extract 1 s.size) (by omega)
    rw [hse] at r2
    rw [e, Option.bind_some]
    have hw : wrap64 (n + 1) = n + 1 := by unfold wrap64; omega
    split
    · exact ⟨_, _, rfl, Int.le_refl _, by omega, by decide⟩
    · split
      · simp only
        rw [if_pos (by omega : n < (s.size : Int))]
        split
        · exact ⟨t, wrap64 (n + 1), rfl, by rw [hw]; omega, by rw [hw]; omega, r3⟩
        · split
          · rw [if_pos (by omega)]
            obtain ⟨g, hg⟩ := goes_tot s (wrap64 (n + 1))
            rw [hg, Option.bind_some]
            split
            · exact ⟨_, _, rfl, Int.le_refl _, by omega, by decide⟩
            · exact ⟨t, wrap64 (n + 1), rfl, by rw [hw]; omega, by rw [hw]; omega, r3⟩
          · exact ⟨t, wrap64 (n + 1), rfl, by rw [hw]; omega, by rw [hw]; omega, r3⟩
      · exact ⟨t, wrap64 (n + 1), rfl, by rw [hw]; omega, by rw [hw]; omega, r3⟩
theorem decGo_tot (attr : Bool) : ∀ (k : Nat) (s : ByteArray), s.size ≤ 1000000 → s.size ≤ k → ∃ r, decGo attr k s = some r ∧ r.length ≤ s.size + 1000 * k
  | 0, s, h, hk => by
    unfold decGo
    rw [if_pos (by omega)]
    exact ⟨[], rfl, by simp⟩
  | k + 1, s, h, hk => by
    unfold decGo
    by_cases h0 : s.size = 0
    · rw [if_pos h0]; exact ⟨[], rfl, by simp⟩
    · rw [if_neg h0]
      have ha := ampAt_le s
      have hs1 : (s.extract (ampAt s) s.size).size = s.size - ampAt s := by rw [ByteArray.size_extract]; omega
      obtain ⟨t, n, e, r1, r2, r3⟩ := one_tot (s.extract (ampAt s) s.size) attr (by omega)
      rw [hs1] at r2
      rw [e]
      simp only [Option.bind_some]
      obtain ⟨d, hd⟩ : ∃ d, d = decStep (s.extract (ampAt s) s.size) (t, n) := ⟨_, rfl⟩
      have hdd : 0 ≤ d.2 ∧ d.2 ≤ (s.size - ampAt s : Nat) ∧ d.1.size ≤ 1000 ∧ (ampAt s < s.size → 1 ≤ d.2) := by
        rw [hd]
        unfold decStep
        split
        · rename_i hh
          refine ⟨by show (0 : Int) ≤ 1; omega, by have := hh.2; show (1 : Int) ≤ _; omega, by show ((s.extract (ampAt s) s.size).extract 0 1).size ≤ 1000; rw [ByteArray.size_extract]; omega, fun _ => by show (1 : Int) ≤ 1; omega⟩
        · rename_i hh
          refine ⟨r1, by omega, r3, fun hlt => ?_⟩
          show 1 ≤ n
          by_cases hn : n = 0
          · exact absurd ⟨hn, by omega⟩ hh
          · omega
      rw [← hd, if_pos ⟨hdd.1, by rw [hs1]; omega⟩]
      have hsz : ((s.extract (ampAt s) s.size).extract d.2.toNat (s.extract (ampAt s) s.size).size).size = s.size - ampAt s - d.2.toNat := by rw [ByteArray.size_extract, hs1]; omega
      obtain ⟨r, hr, hl⟩ := decGo_tot attr k ((s.extract (ampAt s) s.size).extract d.2.toNat (s.extract (ampAt s) s.size).size) (by omega) (by
        rw [hsz]
        by_cases hlt : ampAt s < s.size
        · have := hdd.2.2.2 hlt; omega
        · omega)
      rw [hr]
      refine ⟨_, rfl, ?_⟩
      rw [hsz] at hl
      rw [List.length_append, List.length_append, len_list, len_list, ByteArray.size_extract]
      have := hdd.2.2.1
      omega
set_option maxRecDepth 100000 in
theorem decode_tot (s : ByteArray) (attr : Bool) (h : s.size ≤ 1000000) : ∃ r, charref_Decode.f s attr = some r := by
  unfold charref_Decode.f
  rw [if_pos (by omega)]
  obtain ⟨r, hr, hl⟩ := decGo_tot attr (s.size + 1) s h (by omega)
  rw [hr]
  simp only [Option.bind_some]
  rw [if_pos (by omega)]
  exact ⟨_, rfl⟩
theorem ascii_head (s : ByteArray) (h : 0 < s.size) (hb : bt s 0 < 128) : (s.extract 0 (min 1 s.size)).data.toList.all (fun b => decide (b.toNat < 128)) = true := by
  have e : (s.extract 0 (min 1 s.size)).data.toList = [s[0]'h] := by
    rw [← Lib.toList_data, Lib.extract_toList]
    have hm : min 1 s.size - 0 = 1 := by omega
    rw [hm, List.drop_zero]
    have hl : 0 < s.data.toList.length := by rw [len_list]; exact h
    cases hd : s.data.toList with
    | nil => rw [hd] at hl; cases hl
    | cons a l =>
      have : s[0]'h = s.data.toList[0]'hl := rfl
      rw [this]
      simp [hd]
  rw [e]
  have h2 : (((s[0]'h).toNat : Int)) = bt s 0 := bt_at s 0 h
  simp
  omega
theorem value_tot (rest : ByteArray) (sh : Bool) (h : rest.size ≤ 100000) : ∃ v b sh', scan_reader_value.f rest sh = some (v, b, sh') ∧ b.size ≤ rest.size := by
  unfold scan_reader_value.f
  obtain ⟨b0, e0, s0⟩ := blank_tot rest sh
  rw [e0, Option.bind_some]
  obtain ⟨c1, sh1, e1⟩ : ∃ c1 sh1, scan_reader_next.f b0 sh = some (c1, b0, sh1) := by
    rcases next_tot b0 sh with ⟨_, e⟩ | ⟨_, e⟩ <;> exact ⟨_, _, e⟩
  simp only
  rw [e1, Option.bind_some]
  simp only
  by_cases hc : c1 = 61
  · rw [if_pos hc, skip_tot b0 sh1 1 (by decide), Option.bind_some]
    simp only
    obtain ⟨b2, e2, s2⟩ := blank_tot (b0.extract (min (1 : Int).toNat b0.size) b0.size) sh1
    rw [ByteArray.size_extract] at s2
    rw [e2, Option.bind_some]
    simp only
    obtain ⟨c3, sh3, e3⟩ : ∃ c3 sh3, scan_reader_next.f b2 sh1 = some (c3, b2, sh3) := by
      rcases next_tot b2 sh1 with ⟨_, e⟩ | ⟨_, e⟩ <;> exact ⟨_, _, e⟩
    rw [e3, Option.bind_some]
    simp only
    by_cases hq : c3 = 34 ∨ c3 = 39
    · rw [if_pos hq, skip_tot b2 sh3 1 (by decide), Option.bind_some]
      simp only
      have hb3 : 0 < b2.size ∧ bt b2 0 = c3 := by
        rcases next_tot b2 sh1 with ⟨_, e⟩ | ⟨hp, e⟩
        · rw [e3] at e; simp only [Option.some.injEq, Prod.mk.injEq] at e; omega
        · rw [e3] at e; simp only [Option.some.injEq, Prod.mk.injEq] at e; exact ⟨hp, e.1.symm⟩
      obtain ⟨a4, b4, sh4, e4, s4⟩ := until_tot (b2.extract (min (1 : Int).toNat b2.size) b2.size) sh3 (b2.extract 0 (min 1 b2.size)) (by rw [ByteArray.size_extract]; omega) (by rw [ByteArray.size_extract]; omega) (ascii_head b2 hb3.1 (by omega))
      rw [ByteArray.size_extract] at s4
      rw [e4, Option.bind_some]
      simp only
      rw [skip_tot b4 sh4 1 (by decide), Option.bind_some]
      obtain ⟨h5, e5, s5⟩ := heal_tot a4 (by omega)
      simp only
      rw [e5, Option.bind_some]
      obtain ⟨v, e6⟩ := decode_tot h5 true (by omega)
      rw [e6, Option.bind_some]
      refine ⟨_, _, _, rfl, ?_⟩
      rw [ByteArray.size_extract]
      omega
    · rw [if_neg hq]
      by_cases h62 : c3 = 62
      · rw [if_pos h62]; exact ⟨_, _, _, rfl, by omega⟩
      · rw [if_neg h62]
        obtain ⟨a4, b4, sh4, e4, s4⟩ := until_tot b2 sh3 spacesGt (by omega) (by decide) (by decide)
        rw [e4, Option.bind_some]
        simp only
        obtain ⟨h5, e5, s5⟩ := heal_tot a4 (by omega)
        rw [e5, Option.bind_some]
        obtain ⟨v, e6⟩ := decode_tot h5 true (by omega)
        rw [e6, Option.bind_some]
        exact ⟨_, _, _, rfl, by omega⟩
  · rw [if_neg hc]
    exact ⟨_, _, _, rfl, s0⟩
theorem attr_tot (rest : ByteArray) (sh : Bool) (h : rest.size ≤ 100000) (hp : 0 < rest.size) : ∃ n v b sh', scan_reader_attr.f rest sh = some (n, v, b, sh') ∧ b.size < rest.size ∧ n.size ≤ 4 * rest.size := by
  unfold scan_reader_attr.f
  rw [skip_tot rest sh 1 (by decide), Option.bind_some]
  simp only
  obtain ⟨a, b, sh1, e1, s1⟩ := until_tot (rest.extract (min (1 : Int).toNat rest.size) rest.size) sh ⟨#[9, 10, 12, 13, 32, 47, 62, 61]⟩ (by rw [ByteArray.size_extract]; omega) (by decide) (by decide)
  rw [ByteArray.size_extract] at s1
  have h1 : (1 : Int).toNat = 1 := rfl
  rw [h1] at s1
  rw [e1, Option.bind_some]
  simp only
  rw [if_pos (by rw [ByteArray.size_extract]; omega)]
  obtain ⟨nm, e2, s2⟩ := named_tot (rest.extract 0 (min (1 : Int).toNat rest.size) ++ a) (by rw [ByteArray.size_append, ByteArray.size_extract]; omega)
  rw [ByteArray.size_append, ByteArray.size_extract, h1] at s2
  rw [e2, Option.bind_some]
  obtain ⟨v, b2, sh2, e3, s3⟩ := value_tot b sh1 (by omega)
  rw [e3, Option.bind_some]
  exact ⟨nm, v, b2, sh2, rfl, by omega, by omega⟩
theorem tagGo_tot (name : ByteArray) : ∀ (k : Nat) (rest : ByteArray) (short : Bool) (attrs : List S36), rest.size ≤ 100000 → attrs.length + rest.size ≤ 1000000 → (short = false → rest.size + 2 ≤ k) → 1 ≤ k →
    ∃ r, tagGo name k rest short attrs = some r ∧ r.2.2.2.2.2.1.size ≤ rest.size ∧ r.2.1.size ≤ name.size
  | 0, rest, short, attrs, _, _, _, hk => absurd hk (by decide)
  | k + 1, rest, short, attrs, h, ha, hs, _ => by
    unfold tagGo
    cases short with
    | true =>
      rw [if_pos rfl]
      exact ⟨_, rfl, Nat.le_refl _, Nat.zero_le _⟩
    | false =>
      have hk := hs rfl
      rw [if_neg (by decide)]
      obtain ⟨b, e0, s0⟩ := blank_tot rest false
      rw [e0, Option.bind_some]
      simp only
      rcases next_tot b false with ⟨hz, e1⟩ | ⟨hp, e1⟩
      · rw [e1, Option.bind_some]
        simp only
        rw [if_pos trivial]
        obtain ⟨r, e2, s2, s3⟩ := tagGo_tot name k b true attrs (by omega) (by omega) (fun e => by cases e) (by omega)
        exact ⟨r, e2, by omega, s3⟩
      · rw [e1, Option.bind_some]
        simp only
        rw [if_neg Bool.false_ne_true]
        have h1 : (1 : Int).toNat = 1 := rfl
        by_cases h62 : bt b 0 = 62
        · rw [if_pos h62, skip_tot b false 1 (by decide), Option.bind_some]
          refine ⟨_, rfl, ?_, Nat.le_refl _⟩
          simp only
          rw [ByteArray.size_extract]; omega
        · rw [if_neg h62]
          obtain ⟨q, e2, _⟩ := begins_tot b ⟨#[47, 62]⟩ (by omega)
          rw [e2, Option.bind_some]
          cases q with
          | true =>
            rw [if_pos rfl, skip_tot b false 2 (by decide), Option.bind_some]
            refine ⟨_, rfl, ?_, Nat.le_refl _⟩
            simp only
            rw [ByteArray.size_extract]; omega
          | false =>
            rw [if_neg (by decide)]
            by_cases h47 : bt b 0 = 47
            · rw [if_pos h47, skip_tot b false 1 (by decide), Option.bind_some]
              simp only
              have hsz : (b.extract (min (1 : Int).toNat b.size) b.size).size = b.size - 1 := by rw [ByteArray.size_extract, h1]; omega
              obtain ⟨r, e3, s2, s3⟩ := tagGo_tot name k (b.extract (min (1 : Int).toNat b.size) b.size) ((b.extract (min (1 : Int).toNat b.size) b.size).toList == ([] : List UInt8)) attrs (by omega) (by omega) (fun _ => by omega) (by omega)
              exact ⟨r, e3, by omega, s3⟩
            · rw [if_neg h47]
              obtain ⟨n, v, b2, sh2, e3, s2, s3⟩ := attr_tot b false (by omega) hp
              rw [e3, Option.bind_some]
              simp only
              rw [if_pos ⟨by omega, by omega⟩]
              split
              · obtain ⟨r, e4, s4, s5⟩ := tagGo_tot name k b2 sh2 (attrs ++ [⟨n, v⟩]) (by omega) (by rw [List.length_append, List.length_singleton]; omega) (fun _ => by omega) (by omega)
                exact ⟨r, e4, by omega, s5⟩
              · obtain ⟨r, e4, s4, s5⟩ := tagGo_tot name k b2 sh2 attrs (by omega) (by omega) (fun _ => by omega) (by omega)
                exact ⟨r, e4, by omega, s5⟩
theorem tag_tot (rest : ByteArray) (sh : Bool) (h : rest.size ≤ 100000) : ∃ r, scan_reader_tag.f rest sh = some r ∧ r.2.2.2.2.2.1.size ≤ rest.size ∧ r.2.1.size ≤ 4 * rest.size := by
  unfold scan_reader_tag.f
  obtain ⟨a, b, sh1, e1, s1⟩ := until_tot rest sh ⟨#[9, 10, 12, 13, 32, 47, 62]⟩ (by omega) (by decide) (by decide)
  rw [e1, Option.bind_some]
  simp only
  obtain ⟨nm, e2, s2⟩ := named_tot a (by omega)
  rw [e2, Option.bind_some]
  obtain ⟨r, e3, s3, s4⟩ := tagGo_tot nm (b.size + 2) b sh1 [] (by omega) (by simp; omega) (fun _ => Nat.le_refl _) (by omega)
  exact ⟨r, e3, by omega, by omega⟩
end Go.Proofs.YtoacojkmclngmaaGreatDoor.Pz
