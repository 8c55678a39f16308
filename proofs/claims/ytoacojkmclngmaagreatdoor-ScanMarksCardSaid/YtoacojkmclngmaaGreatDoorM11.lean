/- Texts of the session, one behind the other: what the code computes, function by function, and its contracts. -/
import Derived.Deep.RegionHeld3
import Derived.Laws.EntriesVeiled
import Derived.Lib.ConvBytes
import Derived.Lib.AtoiErrMem
import Derived.Lib.Strings
import Derived.KernelRfl
import Derived.Test.YtoacojkmclngmaaGreatDoorM1
import Derived.Test.YtoacojkmclngmaaGreatDoorM2
import Derived.Test.YtoacojkmclngmaaGreatDoorM3
import Derived.Test.YtoacojkmclngmaaGreatDoorM4
import Derived.Test.YtoacojkmclngmaaGreatDoorM5
import Derived.Test.YtoacojkmclngmaaGreatDoorM6
import Derived.Test.YtoacojkmclngmaaGreatDoorM7
import Derived.Test.YtoacojkmclngmaaGreatDoorM8
import Derived.Test.YtoacojkmclngmaaGreatDoorM9
import Derived.Test.YtoacojkmclngmaaGreatDoorM10
-- written by the session's own program hookprint.py
namespace Go.Proofs.YtoacojkmclngmaaGreatDoor.Pz
open Go.RowKit Go.Proofs.YtoacojkmclngmaaGreatDoorW.PrintWords Go.Proofs.YtoacojkmclngmaaGreatDoorW.PrintLast Go.Proofs.YtoacojkmclngmaaGreatDoorW.PrintMore
attribute [local go_sem] max2_int min2_int max_two min_two max_three min_three max_four min_four   -- for this text's walks alone
attribute [local go_sem] rune_str
set_option linter.unusedVariables false
set_option linter.unusedSimpArgs false

/-! ### scan_Merge: function 19 (by hand) -/
-- IMPORTS: @S@HandWords Derived.Deep.RegionHeld3
/-- one more piece behind those put together: texts that stand behind one another become one, empty ones are left out -/
def mergeStep (out : List S33) (t : S33) : Option (List S33) :=
  if t.f0 = 1 ∧ t.f2.toList = [] then some out
  else if t.f0 = 1 ∧ 0 < out.length ∧ (rd_T33 out ((out.length : Int) - 1)).f0 = 1 then
    (if (rd_T33 out ((out.length : Int) - 1)).f2.size + t.f2.size ≤ 140737488355328 then
      some (out.set (out.length - 1) ⟨1, (rd_T33 out ((out.length : Int) - 1)).f1, (rd_T33 out ((out.length : Int) - 1)).f2 ++ t.f2, (rd_T33 out ((out.length : Int) - 1)).f3, (rd_T33 out ((out.length : Int) - 1)).f4⟩) else none)
  else if out.length < 1954687338268 then some (out ++ [t]) else none
def mergeGo : List S33 → List S33 → Option (List S33)
  | out, [] => some out
  | out, t :: ts => (mergeStep out t).bind fun o => mergeGo o ts
def scan_Merge.f (l0 : List S33) : Option (List S33) := mergeGo [] l0
set_option maxHeartbeats 4000000 in
set_option maxRecDepth 100000 in
theorem scan_Merge.calls (P0_ : Nat → Prop) (A0 : Option Addr) (c0 : Nat) (l0 : List (S33)) (r : List (S33)) (w : World) (hs0 : Kd.V k33 33 w w.heap.size (fun k_ => P0_ k_) (.slice A0 l0.length c0) l0) (h : scan_Merge.f l0 = some r) :
    Calls Tryz.prog 19 #[.slice A0 l0.length c0] w fun e w' => ∃ v0_ : Value, e = .returned (v0_) ∧ Kd.V k33 33 w' w.heap.size (fun k_ => (P0_ k_ ∨ w.heap.size ≤ k_)) v0_ r ∧ Below w.heap.size w w' := by
  unfold scan_Merge.f at h
  have HM := Aside0.mk h
  have HS := Aside0.mk (Kd.V_bound hs0)
  have HLC := Aside0.mk (Kd.V_reads' hs0)
  have hlc : l0.length ≤ c0 := (Kd.V_reads' hs0).2.1
  have hl63 : (l0.length : Int) ≤ 9223372036854775807 := by have := (Kd.V_reads' hs0).2.2.2.1; omega
  have HB0 := Aside0.mk (Below.refl w.heap.size w)
  clear h hs0
  go_enter Tryz.func19, Tryz.ntmps19
  go_wp2
  go_loopw [9, 3] (fun i v3 wr => ∃ (k : Nat) (out : List S33), k ≤ l0.length ∧ i = .int .i64 k ∧ Aside0 (mergeGo out (l0.drop k) = some r) ∧ Aside0 (Kd.N k33 33 wr w.heap.size (fun k_ => P0_ k_ ∨ w.heap.size ≤ k_) v3 out) ∧ Aside0 (Below w.heap.size w wr)) (fun i _ _ => l0.length - (intOf i).toNat)
  case atStart => exact ⟨0, [], Nat.zero_le _, rfl, HM, ⟨Kd.N_nil _ _ _ _ _⟩, HB0⟩
  case round =>
    obtain ⟨k, out, hk, rfl, HM1, HN1, HB1⟩ := hrel
    obtain ⟨Ao, co, rfl⟩ := Kd.N_slice HN1.out
    by_cases hlt : k < l0.length
    · have hlti : (k : Int) < (l0.length : Int) := by omega
      obtain ⟨t, ht⟩ : ∃ t, l0[k]? = some t := ⟨l0[k], List.getElem?_eq_getElem hlt⟩
      have hdrop : l0.drop k = t :: l0.drop (k + 1) := by
        rw [List.drop_eq_getElem_cons hlt]
        rw [List.getElem?_eq_getElem hlt] at ht
        rw [Option.some.inj ht]
      have hm := HM1.out
      rw [hdrop] at hm
      unfold mergeGo at hm
      obtain ⟨o, hstep, hm⟩ := Option.bind_eq_some_iff.1 hm
      have HM2 := Aside0.mk hm
      clear hm hdrop HM1
      have hV := Kd.V_below HS.out HB1.out
      obtain ⟨ad, rfl⟩ : ∃ ad, A0 = some ad := by obtain ⟨ad, h, _⟩ := (Kd.V_reads' hV).2.2.2.2 (by omega); exact ⟨ad, h⟩
      obtain ⟨cs, hcl, hFK, hcc⟩ := Kd.V_get hV t (k : Int) (by omega) (by omega)
      have hget : l0.getD (k : Int).toNat t = t := by rw [Int.toNat_natCast, List.getD_eq_getElem?_getD, ht]; rfl
      rw [hget] at hFK
      obtain ⟨A3, c3, rfl, hl3, hF3⟩ := k33_openF hFK
      rw [Int.toNat_natCast] at hcc
      have hc0 : wr.cell? (ad.add (k * 5)) = some (.int .i64 t.f0) := hcc 0 _ rfl
      have hc1 : wr.cell? ⟨(ad.add (k * 5)).block, (ad.add (k * 5)).off + 1, none⟩ = some (.string t.f1) := by rw [← add_field _ _ 1 (by omega)]; exact hcc 1 _ rfl
      have hc2 : wr.cell? ⟨(ad.add (k * 5)).block, (ad.add (k * 5)).off + 2, none⟩ = some (.string t.f2) := by rw [← add_field _ _ 2 (by omega)]; exact hcc 2 _ rfl
      have hc3 : wr.cell? ⟨(ad.add (k * 5)).block, (ad.add (k * 5)).off + 3, none⟩ = some (.slice A3 t.f3.length c3) := by rw [← add_field _ _ 3 (by omega)]; exact hcc 3 _ rfl
      have hc4 : wr.cell? ⟨(ad.add (k * 5)).block, (ad.add (k * 5)).off + 4, none⟩ = some (.bool t.f4) := by rw [← add_field _ _ 4 (by omega)]; exact hcc 4 _ rfl
      have HFK1 := Aside0.mk hFK
      clear hV hcl hcc hFK hget hF3 ht
      go_upto_region 5 with (fail)
      obtain ⟨W2, hW2⟩ : ∃ W2, W2 = wr.alloc (Obj.cells #[.int .i64 t.f0, .string t.f1, .string t.f2, .slice A3 t.f3.length c3, .bool t.f4] 33) := ⟨_, rfl⟩
      rw [← hW2]
      have hBT : W2.heap[wr.heap.size]? = some (.cells #[.int .i64 t.f0, .string t.f1, .string t.f2, .slice A3 t.f3.length c3, .bool t.f4] 33 (0, 0)) := by rw [hW2]; exact heap_alloc_new wr _
      have HN2 := Aside0.mk (show Kd.N k33 33 W2 w.heap.size (fun k_ => P0_ k_ ∨ w.heap.size ≤ k_) (.slice Ao out.length co) out from by rw [hW2]; exact Kd.N_alloc HN1.out _)
      have HB2 := Aside0.mk (show Below w.heap.size w W2 from by rw [hW2]; exact below_alloc HB1.out _)
      have HFK := Aside0.mk (show Kd.FK k33 W2 (fun k_ => P0_ k_ ∧ k_ < w.heap.size) t [.int .i64 t.f0, .string t.f1, .string t.f2, .slice A3 t.f3.length c3, .bool t.f4] from by rw [hW2]; exact Kd.FK_below HFK1.out (below_alloc (Below.refl _ _) _))
      have HOKP : Aside0 (∀ k_, (P0_ k_ ∧ k_ < w.heap.size) → (P0_ k_ ∨ w.heap.size ≤ k_) ∧ some k_ ≠ (Value.slice Ao out.length co).ownBlock) := ⟨fun k_ hk_ => ⟨.inl hk_.1, fun he => by have := Kd.N_base HN1.out k_ he.symm; omega⟩⟩
      have HFR : Aside0 (∀ k_, W2.heap.size ≤ k_ → (P0_ k_ ∨ w.heap.size ≤ k_)) := ⟨fun k_ hk_ => .inr (Nat.le_trans HB2.out.size hk_)⟩
      have ht0 : W2.cell? ⟨wr.heap.size, 0, none⟩ = some (.int .i64 t.f0) := (blk_cell hBT 0).trans rfl
      have ht1 : W2.cell? ⟨wr.heap.size, 1, none⟩ = some (.string t.f1) := (blk_cell hBT 1).trans rfl
      have ht2 : W2.cell? ⟨wr.heap.size, 2, none⟩ = some (.string t.f2) := (blk_cell hBT 2).trans rfl
      have ht3 : W2.cell? ⟨wr.heap.size, 3, none⟩ = some (.slice A3 t.f3.length c3) := (blk_cell hBT 3).trans rfl
      have ht4 : W2.cell? ⟨wr.heap.size, 4, none⟩ = some (.bool t.f4) := (blk_cell hBT 4).trans rfl
      have HBT := Aside0.mk hBT
      clear hW2 hc0 hc1 hc2 hc3 hc4 HFK1 hBT HN1 HB1
      unfold mergeStep at hstep
      by_cases h1 : t.f0 = 1
      · have h1' : (t.f0 == 1) = true := by simpa using h1
        by_cases he : t.f2.toList = []
        · rw [if_pos ⟨h1, he⟩] at hstep
          obtain rfl := Option.some.inj hstep
          have he' : (t.f2.toList == ([] : List UInt8)) = true := beq_iff_eq.mpr he
          clear hstep h1 he
          go_wp2
          go_roundw
          case rel => exact ⟨k + 1, out, by omega, by go_num, HM2, HN2, HB2⟩
          case measure => simp [intOf]; omega
        · rw [if_neg (fun c => he c.2)] at hstep
          have he' : (t.f2.toList == ([] : List UInt8)) = false := beq_eq_false_iff_ne.mpr he
          by_cases hp : 0 < out.length
          · have hpi : (0 : Int) < (out.length : Int) := by omega
            obtain ⟨gb, cb, hsl, hgb1, hgb2, -⟩ := Kd.N_form HN2.out hp
            injection hsl with hAo hn_ hco
            subst hAo
            obtain ⟨m, hm⟩ : ∃ m : Nat, out.length = m + 1 := ⟨out.length - 1, by omega⟩
            have h63 := (Kd.N_reads' HN2.out).2.2.2.1
            have hwr : wrap64 ((out.length : Int) - 1) = (m : Int) := by unfold wrap64; omega
            have hmlt : (m : Int) < (out.length : Int) := by omega
            have hm0 : (out.length : Int) - 1 = (m : Int) := by omega
            rw [hm0] at hstep
            obtain ⟨q, hq⟩ : ∃ q, q = rd_T33 out (m : Int) := ⟨_, rfl⟩
            obtain ⟨cq, hql, hqF, hqc, hqf⟩ := Kd.N_elem HN2.out (⟨0, ByteArray.empty, ByteArray.empty, [], false⟩ : S33) (m : Int) (by omega) (by omega)
            have hqe : out.getD (m : Int).toNat (⟨0, ByteArray.empty, ByteArray.empty, [], false⟩ : S33) = q := by rw [hq]; rfl
            rw [hqe] at hqF
            rw [← hq] at hstep
            obtain ⟨Aq, cpq, rfl, hlq, hFq⟩ := k33_openF hqF
            rw [Int.toNat_natCast] at hqc hqf
            have hd0 : W2.cell? ⟨gb, m * 5, none⟩ = some (.int .i64 q.f0) := hqc 0 _ rfl
            have hd2 : W2.cell? ⟨gb, m * 5 + 2, none⟩ = some (.string q.f2) := hqc 2 _ rfl
            have hfz2 : W2.frozen? ⟨gb, m * 5 + 2, none⟩ = false := hqf 2
            have HQC := Aside0.mk hqc
            have HQF := Aside0.mk hqF
            have HM := Aside0.mk hm
            have HFQ := Aside0.mk hFq
            have HLQ := Aside0.mk hlq
            clear hlq hqc hqf hFq hqF hqe hq hm h63 hm0 hn_ hco
            by_cases hlk : q.f0 = 1
            · have hlk' : (q.f0 == 1) = true := by simpa using hlk
              rw [if_pos ⟨h1, hp, hlk⟩] at hstep
              split at hstep
              case isFalse => cases hstep
              rename_i hsz
              obtain rfl := Option.some.inj hstep
              clear hstep
              go_upto_region 9 with (fail)
              have hszi : (q.f2.size : Int) + (t.f2.size : Int) ≤ 140737488355328 := by omega
              go_region
              all_goals (try go_wp2)
              have hN4 := (Kd.N_seg HN2.out (m : Int) (by omega) (by omega) (c := [.int .i64 q.f0, .string q.f1, .string q.f2, .slice Aq q.f3.length cpq, .bool q.f4]) (seg := [.string (q.f2 ++ t.f2)]) (j := 2) rfl (fun j u hu => HQC.out j u hu) (show 2 + 1 ≤ 5 from by decide) (okp := fun k_ => (P0_ k_ ∨ w.heap.size ≤ k_) ∧ k_ ≠ gb) (x' := (⟨1, q.f1, q.f2 ++ t.f2, q.f3, q.f4⟩ : S33)) (by rw [hlk]; exact k33_mkF _ _ ⟨1, q.f1, q.f2 ++ t.f2, q.f3, q.f4⟩ HLQ.out HFQ.out) (fun _ hk => hk)).1
              have e1 : out.length - 1 = (m : Int).toNat := by have := HM.out; omega
              have hm2 := HM2.out
              rw [e1] at hm2
              exact ⟨⟨k + 1, _, by omega, by go_num, ⟨hm2⟩, ⟨Kd.N_drew hN4⟩, ⟨below_drew1 (below_set HB2.out hgb1)⟩⟩, by simp [intOf]; omega⟩
            · have hlk' : (q.f0 == 1) = false := by simpa using hlk
              rw [if_neg (fun c => hlk c.2.2)] at hstep
              clear h1 he hlk
              split at hstep
              case isFalse => cases hstep
              rename_i hcap
              obtain rfl := Option.some.inj hstep
              have HCAP := Aside0.mk hcap
              clear hcap hstep
              go_wp2_with (first | ((with_reducible refine gate_builtin (b := .append) (xs := #[.tmp 15, .tmp 17]) rfl ?_); at_builtin; refine Kd.N_append k33 (w0 := w) w.heap.size rfl (.tmp 15) (.tmp 17) 24 33 (.agg #[(.int .i64 0), (.string ⟨#[]⟩), (.string ⟨#[]⟩), (.slice none 0 0), (.bool false)]) 72 rfl Tryz.underlying24 info33 rfl (by decide) (by omega) (.slice (some ⟨gb, 0, none⟩) out.length co) out t [.int .i64 t.f0, .string t.f1, .string t.f2, .slice A3 t.f3.length c3, .bool t.f4] (fun k_ => P0_ k_ ∨ w.heap.size ≤ k_) (fun k_ => P0_ k_ ∧ k_ < w.heap.size) rfl rfl HFK.out HOKP.out HFR.out HN2.out HB2.out HB2.out.size (by have := HCAP.out; omega) ?_; intro v1 w1 ho hb hg hat; have HN3 := Aside0.mk ho; have HB3 := Aside0.mk hb; clear ho hb hg hat))
              go_roundw
              case rel => exact ⟨k + 1, out ++ [t], by omega, by go_num, HM2, HN3, HB3⟩
              case measure => simp [intOf]; omega
          · rw [if_neg (fun c => hp c.2.1)] at hstep
            have hpi : ¬ (0 : Int) < (out.length : Int) := by omega
            clear h1 he
            split at hstep
            case isFalse => cases hstep
            rename_i hcap
            obtain rfl := Option.some.inj hstep
            have HCAP := Aside0.mk hcap
            clear hcap hstep
            go_wp2_with (first | ((with_reducible refine gate_builtin (b := .append) (xs := #[.tmp 15, .tmp 17]) rfl ?_); at_builtin; refine Kd.N_append k33 (w0 := w) w.heap.size rfl (.tmp 15) (.tmp 17) 24 33 (.agg #[(.int .i64 0), (.string ⟨#[]⟩), (.string ⟨#[]⟩), (.slice none 0 0), (.bool false)]) 72 rfl Tryz.underlying24 info33 rfl (by decide) (by omega) (.slice Ao out.length co) out t [.int .i64 t.f0, .string t.f1, .string t.f2, .slice A3 t.f3.length c3, .bool t.f4] (fun k_ => P0_ k_ ∨ w.heap.size ≤ k_) (fun k_ => P0_ k_ ∧ k_ < w.heap.size) rfl rfl HFK.out HOKP.out HFR.out HN2.out HB2.out HB2.out.size (by have := HCAP.out; omega) ?_; intro v1 w1 ho hb hg hat; have HN3 := Aside0.mk ho; have HB3 := Aside0.mk hb; clear ho hb hg hat))
            go_roundw
            case rel => exact ⟨k + 1, out ++ [t], by omega, by go_num, HM2, HN3, HB3⟩
            case measure => simp [intOf]; omega
      · have h1' : (t.f0 == 1) = false := by simpa using h1
        rw [if_neg (fun c => h1 c.1), if_neg (fun c => h1 c.1)] at hstep
        clear h1
        split at hstep
        case isFalse => cases hstep
        rename_i hcap
        obtain rfl := Option.some.inj hstep
        have HCAP := Aside0.mk hcap
        clear hcap hstep
        go_wp2_with (first | ((with_reducible refine gate_builtin (b := .append) (xs := #[.tmp 15, .tmp 17]) rfl ?_); at_builtin; refine Kd.N_append k33 (w0 := w) w.heap.size rfl (.tmp 15) (.tmp 17) 24 33 (.agg #[(.int .i64 0), (.string ⟨#[]⟩), (.string ⟨#[]⟩), (.slice none 0 0), (.bool false)]) 72 rfl Tryz.underlying24 info33 rfl (by decide) (by omega) (.slice Ao out.length co) out t [.int .i64 t.f0, .string t.f1, .string t.f2, .slice A3 t.f3.length c3, .bool t.f4] (fun k_ => P0_ k_ ∨ w.heap.size ≤ k_) (fun k_ => P0_ k_ ∧ k_ < w.heap.size) rfl rfl HFK.out HOKP.out HFR.out HN2.out HB2.out HB2.out.size (by have := HCAP.out; omega) ?_; intro v1 w1 ho hb hg hat; have HN3 := Aside0.mk ho; have HB3 := Aside0.mk hb; clear ho hb hg hat))
        go_roundw
        case rel => exact ⟨k + 1, out ++ [t], by omega, by go_num, HM2, HN3, HB3⟩
        case measure => simp [intOf]; omega
    · have hkk : k = l0.length := by omega
      subst hkk
      have hm := HM1.out
      rw [List.drop_length] at hm
      obtain rfl := Option.some.inj hm
      go_wp2
      go_ret
      exact ⟨_, rfl, Kd.N_V HN1.out, HB1.out⟩

end Go.Proofs.YtoacojkmclngmaaGreatDoor.Pz

-- written by the session's own program hookprint.py
namespace Go.Proofs.YtoacojkmclngmaaGreatDoor.Pz
open Go.RowKit Go.Proofs.YtoacojkmclngmaaGreatDoorW.PrintWords Go.Proofs.YtoacojkmclngmaaGreatDoorW.PrintLast Go.Proofs.YtoacojkmclngmaaGreatDoorW.PrintMore
attribute [local go_sem] max2_int min2_int max_two min_two max_three min_three max_four min_four   -- for this text's walks alone
attribute [local go_sem] rune_str
set_option linter.unusedVariables false
set_option linter.unusedSimpArgs false

/-! ### scan_Tokens: function 14 -/
def scan_Tokens.f (k : Nat) (a0 : ByteArray) : Option ((List (S33))) := (scan_New.f).bind fun bt191 => ((scan_Scanner_Write.f k bt191.1 bt191.2.1 bt191.2.2.1 bt191.2.2.2 a0).bind fun bt196 => ((scan_Scanner_Close.f k bt196.2.1 bt196.2.2.1 bt196.2.2.2.1 bt196.2.2.2.2).bind fun bt203 => (if bt196.1.length + bt203.1.length < 1954687338268 then ((scan_Merge.f (bt196.1 ++ bt203.1)).bind fun t213 => (some t213)) else (none))))
theorem scan_Tokens.mono : ∀ a0 k, LeO (scan_Tokens.f k a0) (scan_Tokens.f (k + 1) a0) := by
  intro a0 k
  unfold scan_Tokens.f
  repeat' first
      | (with_reducible exact scan_Scanner_Close.mono _ _ _ _ _)
      | (with_reducible exact scan_Scanner_Write.mono _ _ _ _ _ _)
      | (with_reducible exact LeO.refl _)
      | (with_reducible exact LeO.none _)
      | (with_reducible refine LeO.ite ?_ ?_)
      | (with_reducible refine LeO.bind ?_ (fun _ => ?_))
      | exact scan_Scanner_Close.mono _ _ _ _ _
      | exact scan_Scanner_Write.mono _ _ _ _ _ _
      | exact LeO.none _
      | refine LeO.ite ?_ ?_
      | refine LeO.bind ?_ (fun _ => ?_)
set_option maxHeartbeats 8000000 in
set_option maxRecDepth 100000 in
theorem scan_Tokens.calls (k : Nat) (a0 : ByteArray) (r : List (S33)) (w : World) (hG : Glob w) (h : scan_Tokens.f k a0 = some r) :
    Calls Tryz.prog 14 #[.string a0] w fun e w' => ∃ v0_ : Value, e = .returned (v0_) ∧ Kd.V k33 33 w' w.heap.size (fun k_ => (w.heap.size ≤ k_)) v0_ r ∧ Below w.heap.size w w' := by
  have HB := Aside0.mk (Below.refl w.heap.size w)
  have H : ((scan_New.f).bind fun bt191 => ((scan_Scanner_Write.f k bt191.1 bt191.2.1 bt191.2.2.1 bt191.2.2.2 a0).bind fun bt196 => ((scan_Scanner_Close.f k bt196.2.1 bt196.2.2.1 bt196.2.2.2.1 bt196.2.2.2.2).bind fun bt203 => (if bt196.1.length + bt203.1.length < 1954687338268 then ((scan_Merge.f (bt196.1 ++ bt203.1)).bind fun t213 => (some t213)) else (none))))) = some r := h
  clear h
  replace H := Option.bind_eq_some_iff.mp H
  obtain ⟨⟨t191, t192, t193, t194⟩, A20, H⟩ := H
  replace H : ((scan_Scanner_Write.f k t191 t192 t193 t194 a0).bind fun bt196 => ((scan_Scanner_Close.f k bt196.2.1 bt196.2.2.1 bt196.2.2.2.1 bt196.2.2.2.2).bind fun bt203 => (if bt196.1.length + bt203.1.length < 1954687338268 then ((scan_Merge.f (bt196.1 ++ bt203.1)).bind fun t213 => (some t213)) else (none)))) = some r := H
  have A2 := Aside0.mk A20
  clear A20
  replace H := Option.bind_eq_some_iff.mp H
  obtain ⟨⟨t196, t199, t200, t201, t202⟩, A30, H⟩ := H
  replace H : ((scan_Scanner_Close.f k t199 t200 t201 t202).bind fun bt203 => (if t196.length + bt203.1.length < 1954687338268 then ((scan_Merge.f (t196 ++ bt203.1)).bind fun t213 => (some t213)) else (none))) = some r := H
  have A3 := Aside0.mk A30
  clear A30
  replace H := Option.bind_eq_some_iff.mp H
  obtain ⟨⟨t203, t206, t207, t208, t209⟩, A40, H⟩ := H
  replace H : (if t196.length + t203.length < 1954687338268 then ((scan_Merge.f (t196 ++ t203)).bind fun t213 => (some t213)) else (none)) = some r := H
  have A4 := Aside0.mk A40
  clear A40
  by_cases c5 : t196.length + t203.length < 1954687338268
  · rw [if_pos c5] at H
    have LMc5 := Aside0.mk c5
    clear c5
    obtain ⟨y210, hy210⟩ : ∃ y_ : List (S33), y_ = (t196 ++ t203) := ⟨_, rfl⟩
    replace H : ((scan_Merge.f y210).bind fun t213 => (some t213)) = some r := by first | (rw [hy210]; with_reducible exact H) | (have H2_ := (Option.bind_some _ _).symm.trans H; rw [hy210]; with_reducible exact H2_) | (have H2_ := (Option.bind_some _ _).symm.trans H; with_reducible exact H2_) | with_reducible exact H | (rw [hy210]; exact H) | exact H
    have Ny210 := Aside0.mk hy210
    clear hy210
    replace H := Option.bind_eq_some_iff.mp H
    obtain ⟨t213, A60, H⟩ := H
    replace H : (some t213) = some r := H
    have A6 := Aside0.mk A60
    clear A60
    obtain rfl := Option.some.inj H
    go_enter Tryz.func14, Tryz.ntmps14
    go_wp2_with (first | ((with_reducible refine gate_callee (f := 16) rfl ?_); refine goesL_ (some 4) rfl rfl Tryz.func16 (by kernel_rfl) rfl #[] rfl (by (try simp only [List.map_toArray, List.map_cons, List.map_nil]); first | done | rfl | (simp only [List.length_drop, List.length_take]; rfl)) ?_; (with_reducible refine (scan_New.calls  t191 t192 t193 t194 w _ ?side1 A2.out).mono ?_); (case side1 => repeat (first | (with_reducible first | exact HB.out | apply below_alloc | apply pw_below_drewN | apply below_drew1) | exact HB.out)); rintro e w7 ⟨g195, rfl, hi, hb, hb2⟩; refine ⟨_, rfl, ?_⟩; have n0_ := Aside0.mk (hb); have n1_ := Aside0.mk (hi); clear HB; have HB := n0_; have HI195 := n1_; clear n0_ n1_; (try clear hb); (try clear hb2); (try clear hk); (try clear hi)) | ((with_reducible refine gate_callee (f := 17) rfl ?_); refine goesL_ (some 7) rfl rfl Tryz.func17 (by kernel_rfl) rfl #[.pointer (some ⟨g195, 0, none⟩), .string a0] rfl (by (try simp only [List.map_toArray, List.map_cons, List.map_nil]); first | done | rfl | (simp only [List.length_drop, List.length_take]; rfl)) ?_; (with_reducible refine (scan_Scanner_Write.calls k g195 t191 t192 t193 t194 a0 t196 t199 t200 t201 t202 w _ ?side1 ?side2 hG A3.out).mono ?_); (case side1 => repeat (first | (with_reducible first | exact HI195.out | apply IsS56.alloc | apply IsS56.drewN | apply IsS56.drew | apply IsS56.set_0 | apply IsS56.set_1 | apply IsS56.set_2 | apply IsS56.set_3) | exact HI195.out)); (case side2 => repeat (first | (with_reducible first | exact HB.out | apply below_alloc | apply pw_below_drewN | apply below_drew1 | refine below_set ?_ (IsS56.ge HI195.out)) | exact HB.out)); rintro e w8 ⟨v197, rfl, ho0, hi, hb, hk⟩; refine ⟨_, rfl, ?_⟩; have n0_ := Aside0.mk (Kd.N_lower (Kd.N_mono (ok' := fun k_ => (w.heap.size ≤ k_) ∧ k_ ≠ g195) ho0 (fun k_ hk_ => ⟨(Nat.le_trans (below_size (by repeat (first | (with_reducible first | exact HB.out | apply below_alloc | apply pw_below_drewN | apply below_drew1 | refine below_set ?_ (IsS56.ge HI195.out)) | exact HB.out))) hk_), (IsS56.fresh (by repeat (first | (with_reducible first | exact HI195.out | apply IsS56.alloc | apply IsS56.drewN | apply IsS56.drew | apply IsS56.set_0 | apply IsS56.set_1 | apply IsS56.set_2 | apply IsS56.set_3) | exact HI195.out)) k_ hk_)⟩)) (below_size (by repeat (first | (with_reducible first | exact HB.out | apply below_alloc | apply pw_below_drewN | apply below_drew1 | refine below_set ?_ (IsS56.ge HI195.out)) | exact HB.out)))); have n1_ := Aside0.mk (hb); have n2_ := Aside0.mk (hi); clear HB; clear HI195; have HO198 := n0_; have HB := n1_; have HI195 := n2_; clear n0_ n1_ n2_; (try clear hb); (try clear hb2); (try clear hk); (try clear hi); (try clear ho0)) | ((with_reducible refine gate_callee (f := 18) rfl ?_); refine goesL_ (some 9) rfl rfl Tryz.func18 (by kernel_rfl) rfl #[.pointer (some ⟨g195, 0, none⟩)] rfl (by (try simp only [List.map_toArray, List.map_cons, List.map_nil]); first | done | rfl | (simp only [List.length_drop, List.length_take]; rfl)) ?_; (with_reducible refine (scan_Scanner_Close.calls k g195 t199 t200 t201 t202 t203 t206 t207 t208 t209 w _ ?side1 ?side2 hG A4.out).mono ?_); (case side1 => repeat (first | (with_reducible first | exact HI195.out | apply IsS56.alloc | apply IsS56.drewN | apply IsS56.drew | apply IsS56.set_0 | apply IsS56.set_1 | apply IsS56.set_2 | apply IsS56.set_3) | exact HI195.out)); (case side2 => repeat (first | (with_reducible first | exact HB.out | apply below_alloc | apply pw_below_drewN | apply below_drew1 | refine below_set ?_ (IsS56.ge HI195.out)) | exact HB.out)); rintro e w9 ⟨v204, rfl, ho0, hi, hb, hk⟩; refine ⟨_, rfl, ?_⟩; have n0_ := Aside0.mk (Kd.N_mono (Kd.N_told (Kd.N_oldK (Kd.N_mono (ok := fun k_ => (((w.heap.size ≤ k_)) ∧ k_ ≠ g195)) (by (with_reducible repeat (first | apply Kd.N_alloc | apply Kd.N_drewN | apply Kd.N_drew)); exact HO198.out) (fun k_ hk_ => (⟨hk_, hk_.2⟩ : _ ∧ k_ ≠ g195))) hk) (Kd.N_base ho0)) (fun _ h_ => h_.1)); have n1_ := Aside0.mk (Kd.N_lower (Kd.N_mono (ok' := fun k_ => (w.heap.size ≤ k_) ∧ some k_ ≠ (v197 : Value).ownBlock ∧ k_ ≠ g195) ho0 (fun k_ hk_ => ⟨(Nat.le_trans (below_size (by repeat (first | (with_reducible first | exact HB.out | apply below_alloc | apply pw_below_drewN | apply below_drew1 | refine below_set ?_ (IsS56.ge HI195.out)) | exact HB.out))) hk_), (Kd.fresh' (Kd.N_lt (by (with_reducible repeat (first | apply Kd.N_alloc | apply Kd.N_drewN | apply Kd.N_drew)); exact HO198.out)) k_ hk_), (IsS56.fresh (by repeat (first | (with_reducible first | exact HI195.out | apply IsS56.alloc | apply IsS56.drewN | apply IsS56.drew | apply IsS56.set_0 | apply IsS56.set_1 | apply IsS56.set_2 | apply IsS56.set_3) | exact HI195.out)) k_ hk_)⟩)) (below_size (by repeat (first | (with_reducible first | exact HB.out | apply below_alloc | apply pw_below_drewN | apply below_drew1 | refine below_set ?_ (IsS56.ge HI195.out)) | exact HB.out)))); have n2_ := Aside0.mk (hb); have n3_ := Aside0.mk (hi); clear HO198; clear HB; clear HI195; have HO198 := n0_; have HO205 := n1_; have HB := n2_; have HI195 := n3_; clear n0_ n1_ n2_ n3_; (try clear hb); (try clear hb2); (try clear hk); (try clear hi); (try clear ho0); obtain ⟨Ao11, co11, eo11⟩ := Kd.N_slice HO205.out; subst eo11) | ((with_reducible refine gate_builtin (b := .append) (xs := #[.tmp 7, .tmp 9]) rfl ?_); at_builtin; refine Kd.N_append_rows k33 (w0 := w) w.heap.size rfl (.tmp 7) (.tmp 9) 24 33 (.agg #[(.int .i64 0), (.string ⟨#[]⟩), (.string ⟨#[]⟩), (.slice none 0 0), (.bool false)]) 72 rfl Tryz.underlying24 info33 rfl (by decide) (by omega) v197 t196 t203 _ _ _ (fun k_ => (w.heap.size ≤ k_) ∧ k_ ≠ g195) (fun k_ => ((fun k_ => (w.heap.size ≤ k_) ∧ k_ ≠ g195)) k_ ∧ some k_ ≠ (v197 : Value).ownBlock) rfl rfl ?aO ?aR (fun _ hk => hk) ?aF ?aB ?aS ?aL ?_; (case aR => exact (by skip; exact Kd.N_F (Kd.N_mono (ok' := (fun k_ => ((fun k_ => (w.heap.size ≤ k_) ∧ k_ ≠ g195)) k_ ∧ some k_ ≠ (v197 : Value).ownBlock)) (HO205.out) (fun k_ hk => ⟨⟨hk.1, hk.2.2⟩, hk.2.1⟩)))); (case aB => exact (by repeat (first | (with_reducible first | exact HB.out | apply below_alloc | apply pw_below_drewN | apply below_drew1 | refine below_set ?_ (IsS56.ge HI195.out)) | exact HB.out))); (case aF => exact (fun k_ hk => ⟨(Nat.le_trans (below_size (by repeat (first | (with_reducible first | exact HB.out | apply below_alloc | apply pw_below_drewN | apply below_drew1 | refine below_set ?_ (IsS56.ge HI195.out)) | exact HB.out))) hk), IsS56.fresh (by repeat (first | (with_reducible first | exact HI195.out | apply IsS56.alloc | apply IsS56.drewN | apply IsS56.drew | apply IsS56.set_0 | apply IsS56.set_1 | apply IsS56.set_2 | apply IsS56.set_3) | exact HI195.out)) k_ hk⟩)); (case aO => exact (by (with_reducible repeat (first | apply Kd.N_alloc | apply Kd.N_drewN | apply Kd.N_drew)); exact Kd.N_mono HO198.out (fun _ hk => ⟨hk.1.1, hk.1.2⟩))); (case aS => exact (below_size (by repeat (first | (with_reducible first | exact HB.out | apply below_alloc | apply pw_below_drewN | apply below_drew1 | refine below_set ?_ (IsS56.ge HI195.out)) | exact HB.out)))); (case aL => have := LMc5.out; omega); intro v211 w10 ho hb hg hat; rw [← Ny210.out] at ho; have n0_ := Aside0.mk (IsS56.grown (by repeat (first | (with_reducible first | exact HI195.out | apply IsS56.alloc | apply IsS56.drewN | apply IsS56.drew | apply IsS56.set_0 | apply IsS56.set_1 | apply IsS56.set_2 | apply IsS56.set_3) | exact HI195.out)) hg (IsS56.own_neN HI195.out HO198.out (by decide))); have n1_ := Aside0.mk (Kd.N_afterv (ok := (fun k_ => (w.heap.size ≤ k_) ∧ k_ ≠ g195)) (by (with_reducible repeat (first | apply Kd.N_alloc | apply Kd.N_drewN | apply Kd.N_drew)); exact Kd.N_mono HO205.out (fun _ hk => ⟨⟨hk.1, hk.2.2⟩, hk.2.1⟩)) hg hat); have n2_ := Aside0.mk (hb); have n3_ := Aside0.mk (ho); clear HI195; clear HO205; clear HB; clear HO198; have HI195 := n0_; have HO205 := n1_; have HB := n2_; have HO212 := n3_; clear n0_ n1_ n2_ n3_; clear ho hb hg hat; obtain ⟨Ao12, co12, eo12⟩ := Kd.N_slice HO212.out; subst eo12) | ((with_reducible refine gate_callee (f := 19) rfl ?_); refine goesL_ (some 11) rfl rfl Tryz.func19 (by kernel_rfl) rfl #[.slice Ao12 y210.length co12] rfl (by (try simp only [List.map_toArray, List.map_cons, List.map_nil]); first | done | rfl | (simp only [List.length_drop, List.length_take]; rfl)) ?_; (with_reducible refine (scan_Merge.calls (fun k_ => ((w.heap.size ≤ k_) ∧ k_ ≠ g195)) _ _ y210 t213 _ ?side1 A6.out).mono ?_); (case side1 => exact Kd.N_V (HO212.out)); rintro e w13 ⟨v214, rfl, ho0, hb⟩; refine ⟨_, rfl, ?_⟩; have n0_ := Aside0.mk (Kd.N_below (by (with_reducible repeat (first | apply Kd.N_alloc | apply Kd.N_drewN | apply Kd.N_drew)); exact HO205.out) hb); have n1_ := Aside0.mk (Kd.N_below (by (with_reducible repeat (first | apply Kd.N_alloc | apply Kd.N_drewN | apply Kd.N_drew)); exact HO212.out) hb); have n2_ := Aside0.mk (Kd.V_lower (Kd.V_mono (ok' := fun k_ => (w.heap.size ≤ k_) ∧ k_ ≠ g195) ho0 (fun k_ hk_ => ⟨Or.elim hk_ (fun hs_ => hs_.1) (fun hn_ => (Nat.le_trans (below_size (by repeat (first | (with_reducible first | exact HB.out | apply below_alloc | apply pw_below_drewN | apply below_drew1 | refine below_set ?_ (IsS56.ge HI195.out)) | exact HB.out))) hn_)), Or.elim hk_ (fun hs_ => hs_.2) (fun hn_ => (IsS56.fresh (by repeat (first | (with_reducible first | exact HI195.out | apply IsS56.alloc | apply IsS56.drewN | apply IsS56.drew | apply IsS56.set_0 | apply IsS56.set_1 | apply IsS56.set_2 | apply IsS56.set_3) | exact HI195.out)) k_ hn_))⟩)) (below_size (by repeat (first | (with_reducible first | exact HB.out | apply below_alloc | apply pw_below_drewN | apply below_drew1 | refine below_set ?_ (IsS56.ge HI195.out)) | exact HB.out)))); have n3_ := Aside0.mk (IsS56.below (by repeat (first | (with_reducible first | exact HI195.out | apply IsS56.alloc | apply IsS56.drewN | apply IsS56.drew | apply IsS56.set_0 | apply IsS56.set_1 | apply IsS56.set_2 | apply IsS56.set_3) | exact HI195.out)) hb); have n4_ := Aside0.mk (below_step (by repeat (first | (with_reducible first | exact HB.out | apply below_alloc | apply pw_below_drewN | apply below_drew1 | refine below_set ?_ (IsS56.ge HI195.out)) | exact HB.out)) hb); clear HO205; clear HO212; clear HI195; clear HB; have HO205 := n0_; have HO212 := n1_; have HO215 := n2_; have HI195 := n3_; have HB := n4_; clear n0_ n1_ n2_ n3_ n4_; (try clear hb); (try clear hb2); (try clear hk); (try clear hi); (try clear ho0)))
    go_ret
    exact ⟨_, by first | rfl | (simp [errW_none, errW_some] <;> rfl) | (simp [*, errW_none, errW_some] <;> rfl), by (with_reducible repeat (first | apply Kd.V_alloc | apply Kd.V_drewN | apply Kd.V_drew)); exact Kd.V_mono HO215.out (fun _ hk => hk.1), by repeat (first | (with_reducible first | exact HB.out | apply below_alloc | apply pw_below_drewN | apply below_drew1 | refine below_set ?_ (IsS56.ge HI195.out)) | exact HB.out)⟩
  · rw [if_neg c5] at H
    exact absurd H (by simp)

end Go.Proofs.YtoacojkmclngmaaGreatDoor.Pz

-- written by the session's own program hookprint.py
namespace Go.Proofs.YtoacojkmclngmaaGreatDoor.Pz
open Go.RowKit Go.Proofs.YtoacojkmclngmaaGreatDoorW.PrintWords Go.Proofs.YtoacojkmclngmaaGreatDoorW.PrintLast Go.Proofs.YtoacojkmclngmaaGreatDoorW.PrintMore
attribute [local go_sem] max2_int min2_int max_two min_two max_three min_three max_four min_four   -- for this text's walks alone
attribute [local go_sem] rune_str
set_option linter.unusedVariables false
set_option linter.unusedSimpArgs false

/-! ### class_Word: function 23 (by hand) -/
-- IMPORTS: @S@HandWords Derived.Laws.EntriesVeiled Derived.Lib.ConvBytes Derived.Lib.AtoiErrMem Derived.Lib.Strings
def isLow (c : Int) : Bool := decide (97 ≤ c) && decide (c ≤ 122)
def wordB (c : Int) : Bool := isLow c || isDigit c || (c == 45)
set_option maxHeartbeats 1000000 in
theorem oddWord_same (c : Int) (w : World) : Calls Tryz.prog 40 #[.int .u8 c] w fun e w' => e = .returned (.bool (!wordB c)) ∧ w = w' := by
  unfold wordB isLow
  cases hl : (decide (97 ≤ c) && decide (c ≤ 122)) <;> cases hd : isDigit c <;>
  · go_enter Tryz.func40, Tryz.ntmps40
    go_wp2_with (first | (go_at_call 39; (with_reducible refine (between_same c 97 122 _).mono ?_); rintro e w2 ⟨rfl, rfl⟩; try rw [hl]) | (go_at_call 41; (with_reducible refine (Digit_same c _).mono ?_); rintro e w3 ⟨rfl, rfl⟩; try rw [hd]))
    go_ret
    exact ⟨by simp [bne], rfl⟩
set_option maxHeartbeats 2000000 in
theorem idx_word (s : ByteArray) (bb cap : Nat) (w : World) (hs : s.size ≤ 140737488355328) (hc : ∀ j, (h : j < s.size) → w.cell? ⟨bb, j, none⟩ = some (.int .u8 ((s[j]'h).toNat : Int))) :
    Calls Tryz.prog 60 #[.slice (some ⟨bb, 0, none⟩) s.size cap, .func (.func 40) #[] #[]] w fun e w' => ∃ r : Int, e = .returned (.int .i64 r) ∧ (0 ≤ r ↔ ∃ j, ∃ h : j < s.size, wordB ((s[j]'h).toNat : Int) = false) ∧ w = w' := by
  have HC := Aside0.mk hc
  clear hc
  go_enter Tryz.func60, Tryz.ntmps60
  go_wp2
  go_loopw [8] (fun i wr => ∃ k : Nat, k ≤ s.size ∧ i = .int .i64 k ∧ w = wr ∧ Aside0 (∀ j, j < k → (h : j < s.size) → wordB ((s[j]'h).toNat : Int) = true)) (fun i _ => s.size - (intOf i).toNat)
  case atStart => exact ⟨0, Nat.zero_le _, rfl, rfl, ⟨fun j hj => absurd hj (Nat.not_lt_zero _)⟩⟩
  case round =>
    obtain ⟨k, hk, rfl, rfl, HA⟩ := hrel
    by_cases hlt : k < s.size
    · have hlti : (k : Int) < (s.size : Int) := by omega
      have hcell := HC.out k hlt
      obtain ⟨c, hcc⟩ : ∃ c : Int, c = ((s[k]'hlt).toNat : Int) := ⟨_, rfl⟩
      rw [← hcc] at hcell
      have HCC := Aside0.mk hcc
      clear hcc
      cases hg : wordB c with
      | true =>
        go_wp2_with (first | (go_at_call 40; (with_reducible refine (oddWord_same c _).mono ?_); rintro e w2 ⟨rfl, rfl⟩; rw [hg]))
        go_roundw
        case rel =>
          have hA2 : ∀ j, j < k + 1 → (h : j < s.size) → wordB ((s[j]'h).toNat : Int) = true := by
            intro j hj h
            rcases Nat.lt_or_ge j k with q | q
            · exact HA.out j q h
            · obtain rfl : j = k := by omega
              rw [← HCC.out]; exact hg
          exact ⟨k + 1, by omega, by go_num, (by first | rfl | trivial), ⟨hA2⟩⟩
        case measure => simp [intOf]; omega
      | false =>
        go_wp2_with (first | (go_at_call 40; (with_reducible refine (oddWord_same c _).mono ?_); rintro e w2 ⟨rfl, rfl⟩; rw [hg]))
        go_ret
        exact ⟨_, rfl, ⟨fun _ => ⟨k, hlt, by rw [← HCC.out]; exact hg⟩, fun _ => by omega⟩, rfl⟩
    · have : k = s.size := by omega
      subst this
      go_wp2
      go_ret
      exact ⟨-1, rfl, ⟨fun h => absurd h (by decide), fun ⟨j, h, hj⟩ => by rw [HA.out j h h] at hj; cases hj⟩, rfl⟩
set_option maxHeartbeats 2000000 in
theorem contains_word (s : ByteArray) (bb cap : Nat) (w : World) (hs : s.size ≤ 140737488355328) (hc : ∀ j, (h : j < s.size) → w.cell? ⟨bb, j, none⟩ = some (.int .u8 ((s[j]'h).toNat : Int))) :
    Calls Tryz.prog 42 #[.slice (some ⟨bb, 0, none⟩) s.size cap, .func (.func 40) #[] #[]] w fun e w' => ∃ r : Bool, e = .returned (.bool r) ∧ (r = true ↔ ∃ j, ∃ h : j < s.size, wordB ((s[j]'h).toNat : Int) = false) ∧ w = w' := by
  have HC := Aside0.mk hc
  clear hc
  go_enter Tryz.func42, Tryz.ntmps42
  go_wp2_with (first | (go_at_call 60; (with_reducible refine (idx_word s bb cap _ hs HC.out).mono ?_); rintro e w2 ⟨r, rfl, hr, rfl⟩; have HR := Aside0.mk hr; clear hr))
  go_ret
  exact ⟨_, rfl, by simpa using HR.out, rfl⟩
theorem any_word (s : ByteArray) : (∃ j, ∃ h : j < s.size, wordB ((s[j]'h).toNat : Int) = false) ↔ s.data.toList.all (fun b => wordB (b.toNat : Int)) = false := by
  rw [List.all_eq_false]
  constructor
  · rintro ⟨j, h, hj⟩
    exact ⟨s[j]'h, by rw [← Array.mem_def]; exact Array.getElem_mem (xs := s.data) h, by simp [hj]⟩
  · rintro ⟨x, hx, hg⟩
    obtain ⟨i, hi, rfl⟩ := List.getElem_of_mem hx
    have hi2 : i < s.size := by rw [Array.length_toList] at hi; exact hi
    exact ⟨i, hi2, by have hq : ¬ wordB ((s.data.toList[i]'hi).toNat : Int) = true := hg
                      rw [Array.getElem_toList] at hq
                      exact Bool.eq_false_iff.2 hq⟩
/-- a name: at most 64 letters, figures and lines, a letter first -/
def wordV (a0 : ByteArray) : Bool := if a0.toList = [] then false else if 64 < a0.size then false else if isLow (bt a0 0) = false then false else a0.data.toList.all (fun b => wordB (b.toNat : Int))
def class_Word.f (a0 : ByteArray) : Option Bool := some (wordV a0)
set_option maxHeartbeats 4000000 in
set_option maxRecDepth 100000 in
theorem class_Word.calls (a0 : ByteArray) (r : Bool) (w : World) (h : class_Word.f a0 = some r) :
    Calls Tryz.prog 23 #[.string a0] w fun e w' => e = .returned (.bool r) ∧ Below w.heap.size w w' := by
  unfold class_Word.f at h
  obtain rfl := Option.some.inj h
  clear h
  have HB := Aside0.mk (Below.refl w.heap.size w)
  unfold wordV
  by_cases he : a0.toList = []
  · rw [if_pos he]
    obtain rfl : a0 = ByteArray.empty := by
      apply ByteArray.ext
      apply Array.toList_inj.1
      rw [Lib.toList_data] at he
      exact he
    go_enter Tryz.func23, Tryz.ntmps23
    go_wp2
    go_ret
    exact ⟨rfl, HB.out⟩
  · rw [if_neg he]
    have hp : 0 < a0.size := by
      rcases Nat.eq_zero_or_pos a0.size with h0 | h0
      · exact absurd (by rw [Lib.toList_data]; exact List.eq_nil_of_length_eq_zero (by rw [Array.length_toList]; exact h0)) he
      · exact h0
    by_cases h64 : 64 < a0.size
    · rw [if_pos h64]
      go_enter Tryz.func23, Tryz.ntmps23
      go_wp2
      go_ret
      exact ⟨rfl, HB.out⟩
    · rw [if_neg h64]
      have hne : a0.toList.isEmpty = false := by
        cases hx : a0.toList with
        | nil => exact absurd hx he
        | cons c l => rfl
      have hi : ¬ 64 < (a0.size : Int) := by omega
      have hs : a0.size ≤ 140737488355328 := by omega
      have hb0 : ((a0[0]'hp).toNat : Int) = bt a0 0 := bt_at a0 0 (by omega)
      cases hlo : isLow (bt a0 0) with
      | false =>
        rw [if_pos rfl]
        rw [← hb0] at hlo
        have HL := Aside0.mk hlo
        clear hb0 hlo
        go_enter Tryz.func23, Tryz.ntmps23
        go_wp2_with (first | (go_at_call 39; (with_reducible refine (between_same _ 97 122 _).mono ?_); rintro e w2 ⟨rfl, rfl⟩; rw [show (decide ((97 : Int) ≤ ((a0[0]'hp).toNat : Int)) && decide (((a0[0]'hp).toNat : Int) ≤ (122 : Int))) = false from HL.out]))
        go_ret
        exact ⟨rfl, HB.out⟩
      | true =>
        rw [if_neg (by decide)]
        rw [← hb0] at hlo
        have HL := Aside0.mk hlo
        clear hb0 hlo
        generalize hall : (a0.data.toList.all fun b => wordB (b.toNat : Int)) = al
        have HAL := Aside0.mk hall
        clear hall
        have hconv := fun W => Lib.run_convert_string_bytes (P := Tryz.prog) W 9 58 5 a0 Tryz.underlying9 Tryz.underlying58 Tryz.underlying5
        have hcf0 := contains_word a0 w.heap.size (grownCap w a0.size 0 5) (Lib.bytesWorld w 5 a0) hs (fun j hj => by
          rw [Lib.bytesWorld_cell w 5 a0 j hj]
          have hj2 : j < a0.data.toList.length := by rw [Array.length_toList]; exact hj
          rw [List.getD_eq_getElem?_getD, List.getElem?_eq_getElem hj2, Option.getD_some, Array.getElem_toList]
          rfl)
        have hcf := hcf0.mono (R' := fun e w' => ∃ r : Bool, e = .returned (.bool r) ∧ (r = true ↔ a0.data.toList.all (fun b => wordB (b.toNat : Int)) = false) ∧ Lib.bytesWorld w 5 a0 = w') (fun e w' ⟨r, he, hr, hw⟩ => ⟨r, he, hr.trans (any_word a0), hw⟩)
        rw [HAL.out] at hcf
        clear hcf0
        have HCF := Aside0.mk hcf
        have HBW := Aside0.mk (Lib.bytesWorld_below w 5 a0)
        clear hcf
        cases al with
        | true =>
          go_enter Tryz.func23, Tryz.ntmps23
          go_wp2_with (first | (go_at_call 39; (with_reducible refine (between_same _ 97 122 _).mono ?_); rintro e w2 ⟨rfl, rfl⟩; rw [show (decide ((97 : Int) ≤ ((a0[0]'hp).toNat : Int)) && decide (((a0[0]'hp).toNat : Int) ≤ (122 : Int))) = true from HL.out]) | (go_at_call 42; (with_reducible refine HCF.out.mono ?_); rintro e w4 ⟨r, rfl, hr, rfl⟩; obtain rfl : r = false := (by simpa using hr); clear hr))
          go_ret
          exact ⟨rfl, HBW.out⟩
        | false =>
          go_enter Tryz.func23, Tryz.ntmps23
          go_wp2_with (first | (go_at_call 39; (with_reducible refine (between_same _ 97 122 _).mono ?_); rintro e w2 ⟨rfl, rfl⟩; rw [show (decide ((97 : Int) ≤ ((a0[0]'hp).toNat : Int)) && decide (((a0[0]'hp).toNat : Int) ≤ (122 : Int))) = true from HL.out]) | (go_at_call 42; (with_reducible refine HCF.out.mono ?_); rintro e w4 ⟨r, rfl, hr, rfl⟩; obtain rfl : r = true := (by simpa using hr); clear hr))
          go_ret
          exact ⟨rfl, HBW.out⟩

end Go.Proofs.YtoacojkmclngmaaGreatDoor.Pz

/- What the scanner tells at a plain tag, and at a text without a <. -/
namespace Go.Proofs.YtoacojkmclngmaaGreatDoor.Pz
open Go.RowKit Go.Proofs.YtoacojkmclngmaaGreatDoorW.PrintWords Go.Proofs.YtoacojkmclngmaaGreatDoorW.PrintLast Go.Proofs.YtoacojkmclngmaaGreatDoorW.PrintMore
set_option linter.unusedVariables false
set_option linter.unusedSimpArgs false
theorem heal_id (s : ByteArray) (hz : s.size ≤ 1000000) (h : (0 : UInt8) ∉ s.data.toList) : scan_heal.f s = some s := by
  have hc := Lib.countB_le (⟨#[0]⟩ : ByteArray) (by decide) s.size s (Nat.le_refl _)
  unfold scan_heal.f strings_ReplaceAll.f
  rw [if_pos ⟨by omega, by decide, by have h3 : (⟨#[239, 191, 189]⟩ : ByteArray).size = 3 := rfl; rw [h3]; exact Nat.le_trans (Nat.add_le_add_left (Nat.mul_le_mul_right 3 hc) _) (by omega)⟩]
  rw [Option.bind_some]
  congr 1
  apply ba_ext
  show Lib.replaceAll s.data.toList [0] [239, 191, 189] = s.data.toList
  unfold Lib.replaceAll Lib.replace Lib.replaceNum
  rw [if_neg (by decide), if_pos (.inl (by decide)), Lib.count_one, List.count_eq_zero_of_not_mem h]
  rfl
theorem lower_id (s : ByteArray) (h : ∀ c ∈ s.data.toList, low c = c) : lowerB s = s := by
  apply ba_ext
  show s.data.toList.map low = s.data.toList
  exact (List.map_congr_left (g := id) h).trans (List.map_id _)
theorem named_id (s : ByteArray) (hz : s.size ≤ 1000000) (h0 : (0 : UInt8) ∉ s.data.toList) (h : ∀ c ∈ s.data.toList, low c = c) : scan_named.f s = some s := by
  unfold scan_named.f
  rw [(lower_tot s hz).1, Option.bind_some, lower_id s h, heal_id s hz h0]
  rfl
theorem findIdx_stop {α : Type} (p : α → Bool) (c : α) (y : List α) (hc : p c = true) : ∀ x : List α, (∀ a ∈ x, p a = false) → (x ++ c :: y).findIdx? p = some x.length
  | [], _ => by simp [List.findIdx?_cons, hc]
  | a :: x, h => by
    have ha := h a (by simp)
    have ih := findIdx_stop p c y hc x (fun b hb => h b (List.mem_cons_of_mem _ hb))
    simp [List.findIdx?_cons, ha, ih]
/-- What until takes, where the end stands behind x. -/
theorem until_at (u x y ends : ByteArray) (c : UInt8) (sh : Bool) (hu : u.data.toList = x.data.toList ++ c :: y.data.toList) (hz : u.size ≤ 1000000) (he : ends.size ≤ 100) (ha : ends.data.toList.all (fun b => decide (b.toNat < 128)) = true)
    (hc : ends.data.toList.contains c = true) (hx : ∀ a ∈ x.data.toList, ends.data.toList.contains a = false) :
    scan_reader_until.f u sh ends = some (x, u.extract x.size u.size, sh) := by
  unfold scan_reader_until.f scan_anyAt.f
  have hlen : u.size = x.size + 1 + y.size := by rw [← len_list u, hu, List.length_append, List.length_cons, len_list, len_list]; omega
  have hi : anyIdx u.data.toList ends.data.toList = (x.size : Int) := by
    unfold anyIdx
    rw [hu, findIdx_stop _ c _ hc _ hx, len_list]
  rw [if_pos ⟨by omega, by omega, ha⟩, Option.bind_some, hi, if_neg (by omega), if_pos (by omega), if_pos (by omega)]
  have e1 : u.extract 0 ((x.size : Int)).toNat = x := by
    apply ba_ext
    rw [ba_head, hu, Int.toNat_natCast, List.take_append_of_le_length (by rw [len_list]; exact Nat.le_refl _), List.take_of_length_le (by rw [len_list]; exact Nat.le_refl _)]
  rw [e1, Int.toNat_natCast]
theorem tail_of (u x : ByteArray) (m : List UInt8) (hu : u.data.toList = x.data.toList ++ m) : (u.extract x.size u.size).data.toList = m := by
  rw [ba_tail, hu, List.drop_append_of_le_length (by rw [len_list]; exact Nat.le_refl _), List.drop_of_length_le (by rw [len_list]; exact Nat.le_refl _), List.nil_append]
/-- A name that is told as itself: letters, figures and lines, a letter first. -/
structure WordOk (name : ByteArray) : Prop where
  pos : 0 < name.size
  le : name.size ≤ 64
  low0 : isLow (bt name 0) = true
  all : ∀ c ∈ name.data.toList, wordB (c.toNat : Int) = true
theorem wordV_ok (name : ByteArray) (h : wordV name = true) : WordOk name := by
  unfold wordV at h
  split at h
  · cases h
  · rename_i h0
    split at h
    · cases h
    · split at h
      · cases h
      · rename_i h64 hl
        have hp : name.size ≠ 0 := fun e => h0 ((toList_nil name).2 e)
        refine ⟨by omega, by omega, by simpa using hl, fun c hc => ?_⟩
        exact List.all_eq_true.1 h c hc
theorem wordB_facts (c : UInt8) (h : wordB (c.toNat : Int) = true) : ((⟨#[9, 10, 12, 13, 32, 47, 62]⟩ : ByteArray).data.toList.contains c) = false ∧ low c = c ∧ c ≠ 0 := by
  have key : ∀ n : Fin 256, wordB ((UInt8.ofNat n.val).toNat : Int) = true → (([9, 10, 12, 13, 32, 47, 62] : List UInt8).contains (UInt8.ofNat n.val)) = false ∧ low (UInt8.ofNat n.val) = UInt8.ofNat n.val ∧ UInt8.ofNat n.val ≠ 0 := by decide +kernel
  have := key ⟨c.toNat, c.toNat_lt⟩
  simpa using this (by simpa using h)
theorem isLow_letter (c : Int) (h : isLow c = true) : isLetter c = true ∧ c ≠ 63 ∧ c ≠ 33 ∧ c ≠ 47 ∧ c ≠ 62 := by
  unfold isLow at h
  unfold isLetter
  simp at h
  refine ⟨by simp; omega, by omega, by omega, by omega, by omega⟩
theorem WordOk.head {name : ByteArray} (h : WordOk name) : ∃ c m, name.data.toList = c :: m ∧ isLow (c.toNat : Int) = true := by
  cases hl : name.data.toList with
  | nil =>
    have h2 := h.pos
    rw [← len_list, hl] at h2
    exact absurd h2 (by simp)
  | cons c m =>
    refine ⟨c, m, rfl, ?_⟩
    have := h.low0
    rw [bt_of0 hl] at this
    exact this
theorem blank_id (v : ByteArray) (sh : Bool) (c : UInt8) (m : List UInt8) (hv : v.data.toList = c :: m) (hc : ([9, 10, 12, 13, 32] : List UInt8).contains c = false) : scan_reader_blank.f v sh = some (v, sh) := by
  unfold scan_reader_blank.f strings_TrimLeft.f
  rw [if_pos ⟨by decide, by decide⟩, Option.bind_some]
  have e : (⟨(Lib.trimLeftS v.data.toList (⟨#[9, 10, 12, 13, 32]⟩ : ByteArray).data.toList).toArray⟩ : ByteArray) = v := by
    apply ba_ext
    show Lib.trimLeftS v.data.toList [9, 10, 12, 13, 32] = v.data.toList
    unfold Lib.trimLeftS
    rw [hv, List.dropWhile_cons, if_neg (by rw [hc]; exact Bool.false_ne_true)]
  rw [e]
theorem skip_one (v tail : ByteArray) (sh : Bool) (c : UInt8) (hv : v.data.toList = c :: tail.data.toList) : scan_reader_skip.f v sh 1 = some (v.extract 0 1, tail, sh) := by
  have hsz : v.size = tail.size + 1 := by rw [← len_list, hv, List.length_cons, len_list]
  have e : min (1 : Int).toNat v.size = 1 := by show min 1 v.size = 1; omega
  rw [skip_tot v sh 1 (by decide), e]
  have e2 : v.extract 1 v.size = tail := ba_ext (by rw [ba_tail, hv]; rfl)
  rw [e2]
/-- a tag of a plain name, closed at once -/
theorem tag_plain (u name tail : ByteArray) (hw : WordOk name) (hu : u.data.toList = name.data.toList ++ 62 :: tail.data.toList) (hz : u.size ≤ 100000) : scan_reader_tag.f u false = some (2, name, ByteArray.empty, [], false, tail, false) := by
  unfold scan_reader_tag.f
  have hle := hw.le
  rw [until_at u name tail _ 62 false hu (by omega) (by decide) (by decide) (by decide) (fun a ha => (wordB_facts a (hw.all a ha)).1), Option.bind_some]
  have hv := tail_of u name _ hu
  generalize u.extract name.size u.size = v at hv ⊢
  have hvs : 0 < v.size := by rw [← len_list, hv]; simp
  simp only
  rw [named_id name (by omega) (fun hm => (wordB_facts 0 (hw.all 0 hm)).2.2 rfl) (fun c hc => (wordB_facts c (hw.all c hc)).2.1), Option.bind_some]
  unfold tagGo
  rw [if_neg Bool.false_ne_true, blank_id v false 62 _ hv (by decide), Option.bind_some]
  simp only
  rw [next_id v false hvs, Option.bind_some]
  simp only
  rw [if_neg Bool.false_ne_true, bt_of0 hv, if_pos (by decide), skip_one v tail false 62 hv, Option.bind_some]
theorem markup_start (t name tail : ByteArray) (hw : WordOk name) (ht : t.data.toList = 60 :: (name.data.toList ++ 62 :: tail.data.toList)) (hz : t.size ≤ 100000) : scan_reader_markup.f t false = some (2, name, ByteArray.empty, [], false, tail, false) := by
  obtain ⟨c, m, hc, hl⟩ := hw.head
  have ht2 : t.data.toList = 60 :: c :: (m ++ 62 :: tail.data.toList) := by rw [ht, hc]; rfl
  have hsz : 2 ≤ t.size := by rw [← len_list, ht2]; simp
  obtain ⟨u, hu⟩ : ∃ u : ByteArray, u.data.toList = name.data.toList ++ 62 :: tail.data.toList := ⟨⟨(name.data.toList ++ 62 :: tail.data.toList).toArray⟩, rfl⟩
  have hus : u.size ≤ 100000 := by
    have h1 : t.size = u.size + 1 := by rw [← len_list t, ht, List.length_cons, ← hu, len_list]
    omega
  unfold scan_reader_markup.f
  rw [if_pos hsz, bt_of1 ht2, letter_tot _ ⟨by omega, by have := c.toNat_lt; omega⟩, Option.bind_some, (isLow_letter _ hl).1, if_pos rfl, skip_one t u false 60 (by rw [ht, hu]), Option.bind_some]
  exact tag_plain u name tail hw hu hus
theorem markup_end (t name tail : ByteArray) (hw : WordOk name) (ht : t.data.toList = 60 :: 47 :: (name.data.toList ++ 62 :: tail.data.toList)) (hz : t.size ≤ 100000) : scan_reader_markup.f t false = some (3, name, ByteArray.empty, [], false, tail, false) := by
  obtain ⟨c, m, hc, hl⟩ := hw.head
  obtain ⟨l1, l2, l3, l4, l5⟩ := isLow_letter _ hl
  have ht2 : t.data.toList = 60 :: 47 :: c :: (m ++ 62 :: tail.data.toList) := by rw [ht, hc]; rfl
  have hsz : 3 ≤ t.size := by rw [← len_list, ht2]; simp
  obtain ⟨u, hu⟩ : ∃ u : ByteArray, u.data.toList = name.data.toList ++ 62 :: tail.data.toList := ⟨⟨(name.data.toList ++ 62 :: tail.data.toList).toArray⟩, rfl⟩
  have hus : t.size = u.size + 2 := by rw [← len_list t, ht, List.length_cons, List.length_cons, ← hu, len_list]
  have e : min (2 : Int).toNat t.size = 2 := by show min 2 t.size = 2; omega
  have e2 : t.extract 2 t.size = u := ba_ext (by rw [ba_tail, ht, hu]; rfl)
  have hpf : strings_HasPrefix.f u (⟨#[62]⟩ : ByteArray) = some false := by
    show some (Lib.hasPrefix u.data.toList [62]) = some false
    rw [hu, hc]
    have : c ≠ 62 := fun h => l5 (by rw [h]; rfl)
    simp [Lib.hasPrefix, List.isPrefixOf, this.symm]
  unfold scan_reader_markup.f
  rw [if_pos (by omega), bt_of1 ht2, bt_of2 ht2, letter_tot _ ⟨by decide, by decide⟩, Option.bind_some, show isLetter (((47 : UInt8).toNat : Nat) : Int) = false from by decide, if_neg Bool.false_ne_true, if_neg (by decide), if_neg (by decide),
    skip_tot t false 2 (by decide), Option.bind_some, if_pos (by decide), e, e2, hpf, Option.bind_some, if_neg Bool.false_ne_true, if_pos hsz, letter_tot _ ⟨by omega, by have := c.toNat_lt; omega⟩, Option.bind_some, l1, if_pos rfl]
  simp only
  rw [tag_plain u name tail hw hu (by omega)]
  rfl
theorem opens_at (t : ByteArray) (b c : UInt8) (m : List UInt8) (ht : t.data.toList = 60 :: b :: c :: m) (hb : isLetter (b.toNat : Int) = true ∨ b = 47) : scan_opens.f 2 t = some (true, false) := by
  have hsz : 3 ≤ t.size := by rw [← len_list, ht]; simp
  unfold scan_opens.f
  rw [if_neg (fun h => by have := (toList_nil t).1 h; omega), if_pos (by omega), opens_j0, bt_of0 ht, if_neg (by decide), if_neg (by omega), if_neg (fun h => by rw [Lib.toList_data, ht] at h; simp at h), if_pos (by omega), bt_of1 ht, letter_tot _ ⟨by omega, by have := b.toNat_lt; omega⟩, Option.bind_some]
  rcases hb with h | rfl
  · rw [if_pos h]
  · rfl
theorem runGo_first (x : ByteArray) (n : Nat) (ho : scan_opens.f 2 (x.extract n x.size) = some (true, false)) (hc : ∀ j : Nat, j < n → bt x (j : Int) ≠ 60) (hn : n < x.size) : ∀ (k i : Nat), i + k = x.size → i ≤ n → runGo x k i = some ((n : Int), true)
  | 0, i, e, h => by omega
  | k + 1, i, e, h => by
    unfold runGo
    by_cases hi : i = n
    · subst hi
      rw [ho, Option.bind_some, if_pos (.inl rfl)]
    · obtain ⟨is, more, h1, h2, _⟩ := opens_tot (x.extract i x.size)
      have hb : bt (x.extract i x.size) 0 = bt x (i : Int) := by
        have := bt_ext x i x.size 0 (Nat.le_refl _) (by omega)
        simpa using this
      have hno : ¬ (is = true ∨ more = true) := fun c => hc i (by omega) (by rw [← hb]; exact h2 c)
      rw [h1, Option.bind_some, if_neg hno]
      exact runGo_first x n ho hc hn k (i + 1) (by omega) (by omega)
theorem run_first (x name : ByteArray) (sh : Bool) (n : Nat) (hz : x.size ≤ 100000) (ho : scan_opens.f 2 (x.extract n x.size) = some (true, false)) (hc : ∀ j : Nat, j < n → bt x (j : Int) ≠ 60) (hn : n < x.size) :
    scan_Scanner_run.f x sh name 0 = some ((n : Int), true, x, sh, name, 0) := by
  unfold scan_Scanner_run.f
  rw [if_neg (by decide), if_neg (by decide), if_pos (by omega), runGo_first x n ho hc hn x.size 0 (by omega) (Nat.zero_le _), Option.bind_some]
theorem step_sure (x name : ByteArray) (last : Bool) (hz : x.size ≤ 100000) (ho : scan_opens.f 2 x = some (true, false)) (hp : 0 < x.size) :
    scan_Scanner_step.f x false name 0 last = stepMark x false name 0 last := by
  unfold scan_Scanner_step.f
  have e : x.extract 0 x.size = x := ba_ext (by rw [ba_tail, List.drop_zero])
  rw [run_first x name false 0 hz (by rw [e]; exact ho) (fun j hj => by omega) hp, Option.bind_some]
  show (some ((0 : Int), (0 : Int))).bind (fun nh => stepRest x false name 0 last true nh) = _
  rw [Option.bind_some]
  unfold stepRest
  simp only
  rw [if_pos (by decide), if_neg (by decide), if_neg (fun h => by
    rcases h with h | h
    · cases h
    · have := (toList_nil x).1 h; omega)]
theorem step_start (t name tail : ByteArray) (r : Int) (last : Bool) (hw : WordOk name) (ht : t.data.toList = 60 :: (name.data.toList ++ 62 :: tail.data.toList)) (hz : t.size ≤ 100000) (nm : ByteArray) (hr : scan_Raw.f 8 name = some r) :
    scan_Scanner_step.f t false nm 0 last = some ([⟨2, name, ByteArray.empty, [], false⟩], true, tail, false, name, r) := by
  obtain ⟨c, m, hc, hl⟩ := hw.head
  have ht2 : ∃ d m2, t.data.toList = 60 :: c :: d :: m2 := by
    rw [ht, hc]
    cases m with
    | nil => exact ⟨62, tail.data.toList, rfl⟩
    | cons d m => exact ⟨d, m ++ 62 :: tail.data.toList, rfl⟩
  obtain ⟨d, m2, ht2⟩ := ht2
  rw [step_sure t nm last hz (opens_at t c d m2 ht2 (.inl (isLow_letter _ hl).1)) (by rw [← len_list, ht]; simp)]
  unfold stepMark
  rw [markup_start t name tail hw ht hz, Option.bind_some]
  simp only
  rw [if_neg (by simp), if_neg (by decide), hr]
  rfl
theorem step_close (t name tail : ByteArray) (last : Bool) (hw : WordOk name) (ht : t.data.toList = 60 :: 47 :: (name.data.toList ++ 62 :: tail.data.toList)) (hz : t.size ≤ 100000) (nm : ByteArray) :
    scan_Scanner_step.f t false nm 0 last = some ([⟨3, name, ByteArray.empty, [], false⟩], true, tail, false, ByteArray.empty, 0) := by
  obtain ⟨c, m, hc, hl⟩ := hw.head
  rw [step_sure t nm last hz (opens_at t 47 c (m ++ 62 :: tail.data.toList) (by rw [ht, hc]; rfl) (.inr rfl)) (by rw [← len_list, ht]; simp)]
  unfold stepMark
  rw [markup_end t name tail hw ht hz, Option.bind_some]
  simp only
  rw [if_neg (by simp), if_neg (by decide), if_neg (by decide)]
end Go.Proofs.YtoacojkmclngmaaGreatDoor.Pz

-- written by the session's own program hookprint.py
namespace Go.Proofs.YtoacojkmclngmaaGreatDoor.Pz
open Go.RowKit Go.Proofs.YtoacojkmclngmaaGreatDoorW.PrintWords Go.Proofs.YtoacojkmclngmaaGreatDoorW.PrintLast Go.Proofs.YtoacojkmclngmaaGreatDoorW.PrintMore
attribute [local go_sem] max2_int min2_int max_two min_two max_three min_three max_four min_four   -- for this text's walks alone
attribute [local go_sem] rune_str
set_option linter.unusedVariables false
set_option linter.unusedSimpArgs false

/-! ### cribblelaw18_awake: function 12 (by hand) -/
-- IMPORTS: @S@HandWords Derived.Deep.RegionHeld3
def awakeText : ByteArray := ⟨#[97, 60, 66, 32, 99, 61, 49, 32, 67, 61, 50, 62, 120, 60, 47, 62, 121]⟩
def awakeList : List S33 := [⟨1, ⟨#[]⟩, ⟨#[97]⟩, [], false⟩, ⟨2, ⟨#[98]⟩, ⟨#[]⟩, [⟨⟨#[99]⟩, ⟨#[49]⟩⟩], false⟩, ⟨1, ⟨#[]⟩, ⟨#[120, 121]⟩, [], false⟩]
instance decAttr : DecidableEq S36 := fun x y => decidable_of_iff (x.f0 = y.f0 ∧ x.f1 = y.f1) (by cases x; cases y; simp)
instance decToken : DecidableEq S33 := fun x y => decidable_of_iff (x.f0 = y.f0 ∧ x.f1 = y.f1 ∧ x.f2 = y.f2 ∧ x.f3 = y.f3 ∧ x.f4 = y.f4) (by cases x; cases y; simp)
def cribblelaw18_awake.f : Option Bool := if scan_Tokens.f 32 awakeText = some awakeList then some true else none
set_option maxHeartbeats 4000000 in
set_option maxRecDepth 100000 in
theorem cribblelaw18_awake.calls  (r : Bool) (w : World) (hG : Glob w) (h : cribblelaw18_awake.f  = some r) :
    Calls Tryz.prog 12 #[] w fun e w' => e = .returned (.bool r) ∧ Below w.heap.size w w' := by
  unfold cribblelaw18_awake.f at h
  split at h
  case isFalse => cases h
  rename_i ht
  obtain rfl := Option.some.inj h
  have HT : Aside0 (scan_Tokens.f 32 (⟨#[97, 60, 66, 32, 99, 61, 49, 32, 67, 61, 50, 62, 120, 60, 47, 62, 121]⟩ : ByteArray) = some awakeList) := ⟨ht⟩
  have HG0 := Aside0.mk hG
  clear ht h hG
  go_enter Tryz.func12, Tryz.ntmps12
  go_upto_region 2 with (first | (go_at_call 14; (with_reducible refine (scan_Tokens.calls 32 (⟨#[97, 60, 66, 32, 99, 61, 49, 32, 67, 61, 50, 62, 120, 60, 47, 62, 121]⟩ : ByteArray) awakeList _ HG0.out HT.out).mono ?_); rintro e w1 ⟨v, rfl, ho, hb⟩; have HV := Aside0.mk ho; have HB1 := Aside0.mk hb; clear ho hb))
  obtain ⟨A, c, rfl⟩ := Kd.V_slice HV.out
  have hc63 : (3 : Nat) ≤ c := (Kd.V_at HV.out).2.1
  obtain ⟨ad, rfl⟩ : ∃ ad, A = some ad := by obtain ⟨ad, h, _⟩ := (Kd.V_reads' HV.out).2.2.2.2 (show 0 < awakeList.length from by decide); exact ⟨ad, h⟩
  obtain ⟨c1, hl1, hF1, hc1⟩ := Kd.V_get HV.out (⟨0, ⟨#[]⟩, ⟨#[]⟩, [], false⟩ : S33) 1 (by decide) (by decide)
  obtain ⟨c2, hl2, hF2, hc2⟩ := Kd.V_get HV.out (⟨0, ⟨#[]⟩, ⟨#[]⟩, [], false⟩ : S33) 2 (by decide) (by decide)
  obtain ⟨A1, p1, rfl, hq1, hG1⟩ := k33_openF hF1
  obtain ⟨A2, p2, rfl, hq2, hG2⟩ := k33_openF hF2
  have hC1 := Kd.F_now hG1
  obtain ⟨ae, rfl⟩ : ∃ ae, A1 = some ae := by obtain ⟨ad, h, _⟩ := hC1.2.2 (show 0 < 1 from by decide); exact ⟨ad, h⟩
  obtain ⟨ad', ce, he', hle, hKe, hce⟩ := Kd.C_get hC1 (⟨⟨#[]⟩, ⟨#[]⟩⟩ : S36) 0 (by decide) (by decide)
  injection he' with he'
  subst he'
  obtain rfl := k36_open hKe
  have hn1 : w1.cell? ⟨(ad.add 5).block, (ad.add 5).off + 1, none⟩ = some (.string ⟨#[98]⟩) := by rw [← add_field _ _ 1 (by omega)]; exact hc1 1 _ rfl
  have hn3 : w1.cell? ⟨(ad.add 5).block, (ad.add 5).off + 3, none⟩ = some (.slice (some ae) 1 p1) := by rw [← add_field _ _ 3 (by omega)]; exact hc1 3 _ rfl
  have hm2 : w1.cell? ⟨(ad.add 10).block, (ad.add 10).off + 2, none⟩ = some (.string ⟨#[120, 121]⟩) := by rw [← add_field _ _ 2 (by omega)]; exact hc2 2 _ rfl
  have he0 : w1.cell? (ae.add 0) = some (.string ⟨#[99]⟩) := hce 0 _ rfl
  have he1 : w1.cell? (ae.add 1) = some (.string ⟨#[49]⟩) := hce 1 _ rfl
  clear hc1 hc2 hF1 hF2 hG1 hG2 hC1 hKe hce
  have hlen : awakeList.length = 3 := rfl
  rw [hlen]
  replace hn1 : w1.cell? ⟨ad.block, ad.off + 5 + 1, none⟩ = some (.string ⟨#[98]⟩) := hn1
  replace hn3 : w1.cell? ⟨ad.block, ad.off + 5 + 3, none⟩ = some (.slice (some ae) 1 p1) := hn3
  replace hm2 : w1.cell? ⟨ad.block, ad.off + 10 + 2, none⟩ = some (.string ⟨#[120, 121]⟩) := hm2
  have he2 : w1.cell? ae = some (.string ⟨#[99]⟩) := he0
  have he3 : w1.cell? ⟨ae.block, ae.off + 1, none⟩ = some (.string ⟨#[49]⟩) := he1
  clear hl1 hl2 hle hq1 hq2 hlen
  go_wp2_with (first | (go_at_call 16; (with_reducible refine (scan_New.calls _ _ _ _ w _ HB1.out rfl).mono ?_); rintro e w2 ⟨gn, rfl, -, hb1, hb2⟩; have HB2 := Aside0.mk hb1; clear hb1 hb2))
  go_ret
  exact ⟨rfl, HB2.out⟩

end Go.Proofs.YtoacojkmclngmaaGreatDoor.Pz
