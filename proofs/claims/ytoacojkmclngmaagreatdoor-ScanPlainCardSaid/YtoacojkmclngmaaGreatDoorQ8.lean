/- Texts of the session, one behind the other: what the code computes, function by function, and its contracts. -/
import Derived.KernelRfl
import Derived.Test.YtoacojkmclngmaaGreatDoorQ1
import Derived.Test.YtoacojkmclngmaaGreatDoorQ2
import Derived.Test.YtoacojkmclngmaaGreatDoorQ3
import Derived.Test.YtoacojkmclngmaaGreatDoorQ4
import Derived.Test.YtoacojkmclngmaaGreatDoorQ5
import Derived.Test.YtoacojkmclngmaaGreatDoorQ6
import Derived.Test.YtoacojkmclngmaaGreatDoorQ7
/- The law ScanPlain, of what the code computes: true at every input. -/
namespace Go.Proofs.YtoacojkmclngmaaGreatDoor.Pz
open Go.RowKit Go.Proofs.YtoacojkmclngmaaGreatDoorW.PrintWords Go.Proofs.YtoacojkmclngmaaGreatDoorW.PrintLast Go.Proofs.YtoacojkmclngmaaGreatDoorW.PrintMore
set_option linter.unusedVariables false
set_option linter.unusedSimpArgs false
theorem awake_true : cribblelaw18_awake.f = some true := by kernel_rfl
/-- Neither < nor & stands in it. -/
def Calm (x : ByteArray) : Prop := ∀ i : Nat, i < x.size → bt x i ≠ 60 ∧ bt x i ≠ 38
theorem bt_nat (x : ByteArray) (i : Nat) (h : i < x.size) : bt x (i : Int) = ((x[i]'h).toNat : Int) := by
  have := bt_at x (i : Int) (by simpa using h)
  simpa using this.symm
theorem opens_calm (x : ByteArray) (h : Calm x) (n : Nat) (hn : n < x.size) : scan_opens.f 2 (x.extract n x.size) = some (false, false) := by
  have hs : (x.extract n x.size).size = x.size - n := by rw [ByteArray.size_extract]; omega
  have hne : (x.extract n x.size).toList ≠ [] := by
    rw [Lib.toList_data]
    intro e
    have : (x.extract n x.size).data.toList.length = 0 := by rw [e]; rfl
    rw [Array.length_toList] at this
    have h2 : (x.extract n x.size).data.size = (x.extract n x.size).size := rfl
    omega
  have hb : bt (x.extract n x.size) 0 = bt x n := by
    rw [bt_nat x n hn]
    have := bt_nat (x.extract n x.size) 0 (by omega)
    rw [Int.ofNat_zero] at this
    rw [this, ByteArray.getElem_extract]
    simp
  unfold scan_opens.f
  rw [if_neg hne, if_pos (by omega), hb]
  have hq : (bt x (n : Int) != 60) = true := by simpa using (h n hn).1
  rw [hq]; rfl
theorem runGo_calm (x : ByteArray) (h : Calm x) : ∀ k n, n + k = x.size → runGo x k n = some ((x.size : Int), false)
  | 0, n, _ => rfl
  | k + 1, n, e => by
    unfold runGo
    rw [opens_calm x h n (by omega)]
    simp only [Option.bind_some, Bool.false_eq_true, or_self, if_false]
    exact runGo_calm x h k (n + 1) (by omega)
theorem run_calm (x : ByteArray) (h : Calm x) (hs : x.size ≤ 1000) (b : Bool) : scan_Scanner_run.f x b ByteArray.empty 0 = some ((x.size : Int), false, x, b, ByteArray.empty, 0) := by
  unfold scan_Scanner_run.f
  rw [if_neg (by decide), if_neg (by decide), if_pos (by omega), runGo_calm x h x.size 0 (by omega)]
  rfl
theorem lastIdx_calm (x : ByteArray) (h : Calm x) : Lib.lastIndexByte x 38 = -1 := by
  rcases Lib.lastIdx_spec x 38 x.size with h1 | ⟨i, hi, _, hc, _⟩
  · exact h1.1
  · exfalso
    apply (h i hi).2
    rw [bt_nat x i hi]
    have : (x.data[i]!) = x[i]'hi := by
      have h2 : i < x.data.size := hi
      rw [getElem!_pos x.data i h2]; rfl
    rw [this] at hc
    exact hc
theorem open_calm (x : ByteArray) (h : Calm x) (hs : x.size ≤ 1000) : scan_open.f x = some 0 := by
  unfold scan_open.f strings_LastIndexByte.f
  rw [if_pos (by omega), lastIdx_calm x h]
  rfl
theorem indexByte_calm (x : ByteArray) (h : Calm x) : Lib.indexByte x.data.toList 38 < 0 := by
  have key : ∀ l : List UInt8, (∀ c ∈ l, c ≠ 38) → Lib.indexByte l 38 = -1 := by
    intro l
    induction l with
    | nil => intro _; rfl
    | cons b l ih =>
      intro hc
      unfold Lib.indexByte
      have h1 : b ≠ 38 := hc b (by simp)
      have h2 := ih (fun c hcc => hc c (by simp [hcc]))
      simp [h1, h2]
  rw [key x.data.toList (fun c hc => ?_)]
  · decide
  · obtain ⟨i, hi, rfl⟩ := List.getElem_of_mem hc
    have hi2 : i < x.size := by rw [Array.length_toList] at hi; exact hi
    intro e
    apply (h i hi2).2
    rw [bt_nat x i hi2]
    have : x[i]'hi2 = x.data.toList[i] := rfl
    rw [this, e]
    rfl
theorem one_empty : charref_One.f ByteArray.empty false = some (ByteArray.empty, 0) := by kernel_rfl
theorem ext_end (x : ByteArray) : x.extract x.size x.size = ByteArray.empty := by simp
theorem ext_all (x : ByteArray) : x.extract 0 x.size = x := by simp
theorem decode_calm (x : ByteArray) (h : Calm x) (hs : x.size ≤ 1000) : charref_Decode.f x false = some x := by
  have ha : ampAt x = x.size := by unfold ampAt; rw [if_pos (indexByte_calm x h)]
  have hd : decGo false (x.size + 1) x = some x.data.toList := by
    unfold decGo
    by_cases h0 : x.size = 0
    · rw [if_pos h0]
      have : x.data.toList.length = 0 := by rw [Array.length_toList]; exact h0
      rw [List.eq_nil_of_length_eq_zero this]
    · rw [if_neg h0, ha, ext_end, one_empty]
      have hz : decGo false x.size (ByteArray.empty.extract (0 : Int).toNat ByteArray.empty.size) = some [] := by
        have e : ByteArray.empty.extract (0 : Int).toNat ByteArray.empty.size = ByteArray.empty := rfl
        rw [e]
        cases x.size <;> rfl
      show (if 0 ≤ (0 : Int) ∧ (0 : Int) ≤ (ByteArray.empty.size : Int) then (decGo false x.size (ByteArray.empty.extract (0 : Int).toNat ByteArray.empty.size)).map fun r => (x.extract 0 x.size).data.toList ++ ByteArray.empty.data.toList ++ r else none) = some x.data.toList
      rw [if_pos ⟨by decide, by decide⟩, hz, ext_all]
      show some (x.data.toList ++ [] ++ []) = some x.data.toList
      simp
  unfold charref_Decode.f
  rw [if_pos (by omega), hd]
  have hl : x.data.toList.length = x.size := by rw [Array.length_toList]; rfl
  show (if x.data.toList.length ≤ 140737488355328 then some (⟨x.data.toList.toArray⟩ : ByteArray) else none) = some x
  rw [if_pos (by omega)]
theorem step_text (x : ByteArray) (h : Calm x) (hs : x.size ≤ 1000) (hp : 0 < x.size) : scan_Scanner_step.f x false ByteArray.empty 0 false = some ([⟨1, ByteArray.empty, x, [], false⟩], true, ByteArray.empty, false, ByteArray.empty, 0) := by
  have hh : stepHold x 0 false (x.size : Int) false = some ((x.size : Int), 0) := by
    unfold stepHold
    rw [if_neg (by decide), if_neg (by decide), if_pos ⟨rfl, by decide⟩, open_calm x h hs]
    rfl
  have hk : scan_reader_skip.f x false (x.size : Int) = some (x, ByteArray.empty, false) := by
    unfold scan_reader_skip.f
    have e : min (x.size : Int).toNat x.size = x.size := by simp
    rw [if_pos (by omega), e, ext_all, ext_end]
  have hm : scan_mode_text.f ByteArray.empty 0 x = some x := by
    unfold scan_mode_text.f
    rw [if_pos rfl, if_pos (by decide), decode_calm x h hs]
    rfl
  unfold scan_Scanner_step.f
  rw [run_calm x h hs false]
  show (stepHold x 0 false (x.size : Int) false).bind (fun nh => stepRest x false ByteArray.empty 0 false false nh) = _
  rw [hh]
  show stepRest x false ByteArray.empty 0 false false ((x.size : Int), 0) = _
  unfold stepRest
  have e0 : (x.size : Int) - 0 = (x.size : Int) := by omega
  simp only [e0]
  rw [if_pos (by omega), if_pos (by omega)]
  unfold stepText
  rw [hk]
  show (scan_mode_text.f ByteArray.empty 0 x).bind _ = _
  rw [hm]
  rfl
theorem step_end (b : Bool) : scan_Scanner_step.f ByteArray.empty false ByteArray.empty 0 b = some ([], false, ByteArray.empty, false, ByteArray.empty, 0) := by
  cases b <;> kernel_rfl
theorem told_calm (x : ByteArray) (h : Calm x) (hs : x.size ≤ 1000) (k : Nat) : scan_Scanner_told.f (k + 2) x false ByteArray.empty 0 false =
    some (if 0 < x.size then [⟨1, ByteArray.empty, x, [], false⟩] else [], ByteArray.empty, false, ByteArray.empty, 0) := by
  unfold scan_Scanner_told.f
  by_cases hp : 0 < x.size
  · rw [if_pos hp]
    simp only [scan_Scanner_told.l0]
    rw [step_text x h hs hp]
    simp only [Option.bind_some, if_true, List.nil_append, List.length_nil, List.length_singleton]
    rw [if_pos (by omega), step_end]
    rfl
  · rw [if_neg hp]
    have hx : x = ByteArray.empty := ByteArray.ext (by
      apply Array.toList_inj.1
      apply List.eq_nil_of_length_eq_zero
      rw [Array.length_toList]
      show x.size = 0
      omega)
    subst hx
    simp only [scan_Scanner_told.l0]
    rw [step_end]
    rfl
theorem close_calm (k : Nat) : scan_Scanner_Close.f (k + 1) ByteArray.empty false ByteArray.empty 0 = some ([], ⟨#[]⟩, false, ⟨#[]⟩, 0) := by
  unfold scan_Scanner_Close.f scan_Scanner_told.f
  simp only [scan_Scanner_told.l0]
  rw [step_end]
  rfl
theorem write_calm (x : ByteArray) (h : Calm x) (hs : x.size ≤ 1000) (k : Nat) : scan_Scanner_Write.f (k + 2) (⟨#[]⟩ : ByteArray) false (⟨#[]⟩ : ByteArray) 0 x =
    some (if 0 < x.size then [⟨1, ByteArray.empty, x, [], false⟩] else [], ByteArray.empty, false, ByteArray.empty, 0) := by
  unfold scan_Scanner_Write.f
  have e : (⟨#[]⟩ : ByteArray) ++ x = x := by
    have := ByteArray.empty_append (b := x)
    exact this
  have h0 : (⟨#[]⟩ : ByteArray).size + x.size ≤ 9223372036854775807 := by show 0 + x.size ≤ _; omega
  rw [if_pos h0, e]
  have := told_calm x h hs k
  rw [show (⟨#[]⟩ : ByteArray) = ByteArray.empty from rfl, this]
  rfl
theorem end_calm (x : ByteArray) (h : Calm x) (hs : x.size ≤ 1000) (k : Nat) (i : Int) (hi : ¬ i < (x.size : Int)) : cribblelaw18_ScanPlain.l0 (k + 3) x i = some true := by
  simp only [cribblelaw18_ScanPlain.l0]
  rw [if_neg hi]
  show ((scan_Scanner_Write.f (k + 2) (⟨#[]⟩ : ByteArray) false (⟨#[]⟩ : ByteArray) 0 x).bind _) = _
  rw [write_calm x h hs k]
  simp only [Option.bind_some]
  by_cases hp : 0 < x.size
  · rw [if_pos hp]
    have hne : x.toList ≠ [] := by
      rw [Lib.toList_data]
      intro e
      have h2 : x.data.toList.length = 0 := by rw [e]; rfl
      rw [Array.length_toList] at h2
      have h3 : x.data.size = x.size := rfl
      omega
    have hm : scan_Merge.f [⟨1, ByteArray.empty, x, [], false⟩] = some [⟨1, ByteArray.empty, x, [], false⟩] := by
      unfold scan_Merge.f mergeGo mergeStep
      rw [if_neg (fun c => hne c.2), if_neg (fun c => absurd c.2.1 (by simp)), if_pos (by simp)]
      rfl
    rw [hm]
    simp only [Option.bind_some]
    unfold scan_Scanner_Held.f
    simp only [Option.bind_some]
    rw [if_pos (by rfl), close_calm]
    simp only [Option.bind_some]
    rw [if_pos (by rfl), if_neg hne, if_pos (by rfl), if_pos (by simp), if_pos (by rfl)]
    show some (x.toList == x.toList) = some true
    simp
  · rw [if_neg hp]
    have hx : x.toList = [] := by
      rw [Lib.toList_data]
      apply List.eq_nil_of_length_eq_zero
      rw [Array.length_toList]
      show x.size = 0
      omega
    rw [show scan_Merge.f [] = some [] from rfl]
    simp only [Option.bind_some]
    unfold scan_Scanner_Held.f
    simp only [Option.bind_some]
    rw [if_pos (by rfl), close_calm]
    simp only [Option.bind_some]
    rw [if_pos (by rfl), if_pos hx, if_pos (by rfl)]
theorem loop_true (x : ByteArray) (hs : x.size ≤ 1000) : ∀ (m n k : Nat), n + m = x.size → (∀ i : Nat, i < n → bt x i ≠ 60 ∧ bt x i ≠ 38) → cribblelaw18_ScanPlain.l0 (m + k + 3) x (n : Int) = some true
  | 0, n, k, e, h => by
    have := end_calm x (fun i hi => h i (by omega)) hs k (n : Int) (by omega)
    rw [Nat.zero_add]; exact this
  | m + 1, n, k, e, h => by
    have e2 : m + 1 + k + 3 = (m + k + 3) + 1 := by omega
    rw [e2]
    simp only [cribblelaw18_ScanPlain.l0]
    rw [if_pos (by omega), if_pos (by omega)]
    by_cases h1 : bt x (n : Int) = 60
    · rw [if_pos h1]
    · rw [if_neg h1]
      by_cases h2 : bt x (n : Int) = 38
      · rw [if_pos h2]
      · rw [if_neg h2]
        have hw : wrap64 ((n : Int) + 1) = ((n + 1 : Nat) : Int) := by unfold wrap64; omega
        rw [hw]
        exact loop_true x hs m (n + 1) k (by omega) (fun i hi => by
          rcases Nat.lt_or_ge i n with hlt | hge
          · exact h i hlt
          · have : i = n := by omega
            subst this
            exact ⟨h1, h2⟩)
theorem scanPlain_law (x : ByteArray) : cribblelaw18_ScanPlain.f (x.size + 4) x = some true := by
  unfold cribblelaw18_ScanPlain.f
  rw [awake_true]
  simp only [Option.bind_some, if_true]
  simp only [cribblelaw18_ScanPlain.j0]
  by_cases hs : (x.size : Int) > 1000
  · rw [if_pos (decide_eq_true hs)]
  · rw [if_neg (by simpa using hs)]
    have := loop_true x (by omega) x.size 0 0 (by omega) (fun i hi => by omega)
    exact this
end Go.Proofs.YtoacojkmclngmaaGreatDoor.Pz
