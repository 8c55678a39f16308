/- Texts of the session, one behind the other: what the code computes, function by function, and its contracts. -/
import Derived.KernelRfl
import Derived.Test.YtoacojkmclngmaaGreatDoorM1
import Derived.Test.YtoacojkmclngmaaGreatDoorM2
import Derived.Test.YtoacojkmclngmaaGreatDoorM3
import Derived.Test.YtoacojkmclngmaaGreatDoorM4
import Derived.Test.YtoacojkmclngmaaGreatDoorM5
import Derived.Test.YtoacojkmclngmaaGreatDoorM6
import Derived.Test.YtoacojkmclngmaaGreatDoorM7
import Derived.Test.YtoacojkmclngmaaGreatDoorM8
import Derived.Test.YtoacojkmclngmaaGreatDoorM9
import Derived.Test.YtoacojkmclngmaaGreatDoorM10
import Derived.Test.YtoacojkmclngmaaGreatDoorM11
import Derived.Test.YtoacojkmclngmaaGreatDoorM12
/- The law ScanMarks, of what the code computes: true at every input. -/
namespace Go.Proofs.YtoacojkmclngmaaGreatDoor.Pz
open Go.RowKit Go.Proofs.YtoacojkmclngmaaGreatDoorW.PrintWords Go.Proofs.YtoacojkmclngmaaGreatDoorW.PrintLast Go.Proofs.YtoacojkmclngmaaGreatDoorW.PrintMore
set_option linter.unusedVariables false
set_option linter.unusedSimpArgs false
theorem awake_true : cribblelaw18_awake.f = some true := by kernel_rfl
def tT (d : ByteArray) : S33 := ⟨1, ByteArray.empty, d, [], false⟩
def joinB : List ByteArray → ByteArray
  | [] => ByteArray.empty
  | d :: ds => d ++ joinB ds
theorem joinB_append : ∀ xs ys : List ByteArray, joinB (xs ++ ys) = joinB xs ++ joinB ys
  | [], ys => by show joinB ys = ByteArray.empty ++ joinB ys; rw [ByteArray.empty_append]
  | x :: xs, ys => by show x ++ joinB (xs ++ ys) = (x ++ joinB xs) ++ joinB ys; rw [joinB_append xs ys, ByteArray.append_assoc]
def NoLt (x : ByteArray) : Prop := ∀ i : Nat, i < x.size → bt x (i : Int) ≠ 60
theorem NoLt.tail {x : ByteArray} (h : NoLt x) (c : Nat) (hc : c ≤ x.size) : NoLt (x.extract c x.size) := by
  intro i hi
  rw [ByteArray.size_extract] at hi
  rw [bt_ext x c x.size i (Nat.le_refl _) (by omega)]
  exact h (c + i) (by omega)
theorem run_nolt (x : ByteArray) (h : NoLt x) (hz : x.size ≤ 100000) (sh : Bool) : scan_Scanner_run.f x sh ByteArray.empty 0 = some ((x.size : Int), false, x, sh, ByteArray.empty, 0) := by
  obtain ⟨m, sure, e, h1, h2, h3⟩ := run_tot x sh ByteArray.empty 0 hz (by decide) ⟨by decide, by decide⟩
  have hm : m = x.size := by
    rcases Nat.lt_or_ge m x.size with hlt | hge
    · exact absurd (h3 rfl hlt) (h m hlt)
    · omega
  have hs : sure = false := by
    cases sure with
    | false => rfl
    | true => have := (h2 rfl).1; omega
  subst hm
  subst hs
  exact e
theorem amp_of_bt (x : ByteArray) (m : Nat) (hm : m < x.size) (h : bt x (m : Int) = 38) : Amp (x.extract m x.size) := by
  have h2 : m < x.data.toList.length := by rw [len_list]; exact hm
  refine ⟨x.data.toList.drop (m + 1), ?_⟩
  rw [ba_tail, List.drop_eq_getElem_cons h2]
  congr 1
  rw [bt_list x m hm] at h
  apply UInt8.toNat_inj.1
  have h38 : (38 : UInt8).toNat = 38 := rfl
  rw [h38]
  omega
theorem parts (x : ByteArray) (c : Nat) (hc : c ≤ x.size) : x.extract 0 c ++ x.extract c x.size = x := by
  apply ba_ext
  rw [ba_append, ba_head, ba_tail, List.take_append_drop]
theorem step_nolt (x : ByteArray) (h : NoLt x) (hz : x.size ≤ 100000) (last : Bool) :
    (scan_Scanner_step.f x false ByteArray.empty 0 last = some ([], false, x, false, ByteArray.empty, 0) ∧ (x.size = 0 ∨ (last = false ∧ Amp x))) ∨
    ∃ a b d : ByteArray, x = a ++ b ∧ 0 < a.size ∧ NoLt b ∧ (b.size = 0 ∨ (last = false ∧ Amp b)) ∧ charref_Decode.f a false = some d ∧ scan_Scanner_step.f x false ByteArray.empty 0 last = some ([tT d], true, b, false, ByteArray.empty, 0) := by
  unfold scan_Scanner_step.f
  rw [run_nolt x h hz, Option.bind_some]
  obtain ⟨hold, e2, k1, k2, k3⟩ : ∃ hold : Int, stepHold x 0 last (x.size : Int) false = some ((x.size : Int), hold) ∧ 0 ≤ hold ∧ hold ≤ x.size ∧ (hold ≠ 0 → last = false ∧ ∃ m : Nat, m < x.size ∧ hold = (x.size : Int) - m ∧ bt x (m : Int) = 38) := by
    unfold stepHold
    rw [if_neg Bool.false_ne_true]
    by_cases hl : last = true
    · rw [if_pos hl]; exact ⟨0, rfl, Int.le_refl _, by omega, fun hh => absurd rfl hh⟩
    · rw [if_neg hl, if_pos ⟨rfl, by decide⟩]
      obtain ⟨o, e, o1, o2, o3⟩ := open_tot x (by omega)
      rw [e, Option.bind_some]
      exact ⟨o, rfl, o1, o2, fun hh => ⟨by simpa using hl, o3 hh⟩⟩
  simp only
  rw [e2, Option.bind_some]
  unfold stepRest
  simp only
  rw [if_pos ⟨by omega, by omega⟩]
  by_cases hp : 0 < (x.size : Int) - hold
  · rw [if_pos hp]
    right
    obtain ⟨c, hc⟩ : ∃ c : Nat, ((x.size : Int) - hold) = (c : Int) := ⟨((x.size : Int) - hold).toNat, by omega⟩
    have hcs : c ≤ x.size := by omega
    obtain ⟨r, hr, _, _⟩ := decode_spec (x.extract 0 c) (by rw [ByteArray.size_extract]; omega)
    refine ⟨x.extract 0 c, x.extract c x.size, ⟨r.toArray⟩, (parts x c hcs).symm, by rw [ByteArray.size_extract]; omega, h.tail c hcs, ?_, hr, ?_⟩
    · by_cases hh : hold = 0
      · left; rw [ByteArray.size_extract]; omega
      · obtain ⟨q1, m, q2, q3, q4⟩ := k3 hh
        right
        have : c = m := by omega
        subst this
        exact ⟨q1, amp_of_bt x c q2 q4⟩
    · unfold stepText
      have em : min (c : Int).toNat x.size = c := by rw [Int.toNat_natCast]; omega
      rw [hc, skip_tot x false (c : Int) (by omega), em, Option.bind_some]
      unfold scan_mode_text.f
      rw [if_pos rfl, if_pos (by decide), hr]
      rfl
  · rw [if_neg hp, if_pos (.inl trivial)]
    left
    refine ⟨rfl, ?_⟩
    by_cases hh : hold = 0
    · left; omega
    · obtain ⟨q1, m, q2, q3, q4⟩ := k3 hh
      right
      have : m = 0 := by omega
      subst this
      have := amp_of_bt x 0 q2 q4
      rw [show x.extract 0 x.size = x from ba_ext (by rw [ba_tail, List.drop_zero])] at this
      exact ⟨q1, this⟩
theorem told_step (k : Nat) (last : Bool) (l ts : List S33) (x r3 nm n3 : ByteArray) (raw w3 : Int) (e : scan_Scanner_step.f x false nm raw last = some (ts, true, r3, false, n3, w3)) (hl : l.length + ts.length < 1000000000) :
    scan_Scanner_told.l0 (k + 1) last l x false nm raw = scan_Scanner_told.l0 k last (l ++ ts) r3 false n3 w3 := by
  rw [scan_Scanner_told.l0]
  rw [e, Option.bind_some]
  simp only
  rw [if_pos trivial, if_pos (by omega)]
theorem told_stop (k : Nat) (last : Bool) (l ts : List S33) (x r3 nm n3 : ByteArray) (raw w3 : Int) (e : scan_Scanner_step.f x false nm raw last = some (ts, false, r3, false, n3, w3)) :
    scan_Scanner_told.l0 (k + 1) last l x false nm raw = some (l, r3, false, n3, w3) := by
  rw [scan_Scanner_told.l0]
  rw [e, Option.bind_some]
  simp only
  rw [if_neg Bool.false_ne_true]
theorem told_nolt : ∀ (k : Nat) (last : Bool) (l : List S33) (x : ByteArray), NoLt x → x.size ≤ 100000 → x.size + 1 ≤ k → l.length + x.size ≤ 1000000 →
    ∃ (ds : List ByteArray) (b : ByteArray), scan_Scanner_told.l0 k last l x false ByteArray.empty 0 = some (l ++ ds.map tT, b, false, ByteArray.empty, 0) ∧ (b.size = 0 ∨ (last = false ∧ Amp b)) ∧ NoLt b ∧ ds.length + b.size ≤ x.size ∧ (∀ db, charref_Decode.f b false = some db → charref_Decode.f x false = some (joinB ds ++ db))
  | 0, _, _, _, _, _, hk, _ => absurd hk (by omega)
  | k + 1, last, l, x, h, hz, hk, hl => by
    rcases step_nolt x h hz last with ⟨e, hx⟩ | ⟨a, b, d, rfl, ha, hb, hbb, hd, e⟩
    · refine ⟨[], x, ?_, hx, h, by simp, fun db hdb => ?_⟩
      · rw [told_stop k last l [] x x ByteArray.empty ByteArray.empty 0 0 e]; simp
      · show _ = some (ByteArray.empty ++ db); rw [ByteArray.empty_append]; exact hdb
    · have hsz : (a ++ b).size = a.size + b.size := ByteArray.size_append
      rw [told_step k last l [tT d] (a ++ b) b ByteArray.empty ByteArray.empty 0 0 e (by simp; omega)]
      obtain ⟨ds, b2, e2, q1, q2, q3, q4⟩ := told_nolt k last (l ++ [tT d]) b hb (by omega) (by omega) (by rw [List.length_append, List.length_singleton]; omega)
      refine ⟨d :: ds, b2, by rw [e2]; simp, q1, q2, by rw [List.length_cons]; omega, fun db hdb => ?_⟩
      have := decode_split a b d _ (hbb.imp id And.right) (by omega) hd (q4 db hdb)
      rw [this]
      show some (d ++ (joinB ds ++ db)) = some ((d ++ joinB ds) ++ db)
      rw [ByteArray.append_assoc]
def one (D : ByteArray) : List S33 := if D.size = 0 then [] else [tT D]
theorem mergeStep_text (D d : ByteArray) (hs : D.size + d.size ≤ 140737488355328) : mergeStep (one D) (tT d) = some (one (D ++ d)) := by
  have hsz : (D ++ d).size = D.size + d.size := ByteArray.size_append
  unfold mergeStep
  by_cases hd : d.size = 0
  · rw [if_pos ⟨rfl, (toList_nil d).2 hd⟩, ba_nil hd, ByteArray.append_empty]
  · rw [if_neg (fun c => hd ((toList_nil d).1 c.2))]
    by_cases hD : D.size = 0
    · have e : one D = [] := by unfold one; rw [if_pos hD]
      have e2 : one (D ++ d) = [tT d] := by unfold one; rw [if_neg (by omega), ba_nil hD, ByteArray.empty_append]
      rw [e, e2, if_neg (fun c => absurd c.2.1 (by simp)), if_pos (by simp)]
      rfl
    · have e : one D = [tT D] := by unfold one; rw [if_neg hD]
      have e2 : one (D ++ d) = [tT (D ++ d)] := by unfold one; rw [if_neg (by omega)]
      rw [e, e2, if_pos ⟨rfl, by simp, rfl⟩]
      have e3 : (rd_T33 [tT D] ((([tT D] : List S33).length : Int) - 1)) = tT D := rfl
      rw [e3]
      exact if_pos hs
theorem merge_texts : ∀ (ds : List ByteArray) (D : ByteArray), D.size + (joinB ds).size ≤ 140737488355328 → mergeGo (one D) (ds.map tT) = some (one (D ++ joinB ds))
  | [], D, _ => by show some (one D) = some (one (D ++ ByteArray.empty)); rw [ByteArray.append_empty]
  | d :: ds, D, h => by
    have hj : (joinB (d :: ds)).size = d.size + (joinB ds).size := ByteArray.size_append
    rw [List.map_cons, mergeGo, mergeStep_text D d (by omega), Option.bind_some, merge_texts ds (D ++ d) (by rw [ByteArray.size_append]; omega)]
    show some (one (D ++ d ++ joinB ds)) = some (one (D ++ (d ++ joinB ds)))
    rw [ByteArray.append_assoc]
theorem mergeGo_append : ∀ (xs ys out : List S33), mergeGo out (xs ++ ys) = (mergeGo out xs).bind fun o => mergeGo o ys
  | [], ys, out => rfl
  | x :: xs, ys, out => by
    rw [List.cons_append, mergeGo, mergeGo]
    cases h : mergeStep out x with
    | none => rfl
    | some o => rw [Option.bind_some, Option.bind_some, mergeGo_append xs ys o]
theorem merge_other (out : List S33) (t : S33) (ht : t.f0 ≠ 1) (hl : out.length < 1000000) : mergeStep out t = some (out ++ [t]) := by
  unfold mergeStep
  rw [if_neg (fun c => ht c.1), if_neg (fun c => ht c.1), if_pos (by omega)]
theorem merge_ds (ds : List ByteArray) (h : (joinB ds).size ≤ 140737488355328) : mergeGo [] (ds.map tT) = some (one (joinB ds)) := by
  have e : ([] : List S33) = one ByteArray.empty := rfl
  have := merge_texts ds ByteArray.empty (by show 0 + _ ≤ _; omega)
  rw [← e, ByteArray.empty_append] at this
  exact this
theorem decode_empty : charref_Decode.f ByteArray.empty false = some ByteArray.empty := by kernel_rfl
theorem step_end (b : Bool) : scan_Scanner_step.f ByteArray.empty false ByteArray.empty 0 b = some ([], false, ByteArray.empty, false, ByteArray.empty, 0) := by
  cases b <;> kernel_rfl
/-- How Tokens is told. -/
theorem tokens_of (k : Nat) (x : ByteArray) (hz : x.size ≤ 100000) (l1 l2 : List S33) (b nm : ByteArray) (raw : Int) (h1 : scan_Scanner_told.l0 k false [] x false ByteArray.empty 0 = some (l1, b, false, nm, raw))
    (b2 nm2 : ByteArray) (raw2 : Int) (sh2 : Bool) (h2 : scan_Scanner_told.l0 k true [] b false nm raw = some (l2, b2, sh2, nm2, raw2)) (hl : l1.length + l2.length < 1000000) : scan_Tokens.f k x = mergeGo [] (l1 ++ l2) := by
  unfold scan_Tokens.f
  rw [show scan_New.f = some (ByteArray.empty, false, ByteArray.empty, 0) from rfl, Option.bind_some]
  simp only
  have hw : scan_Scanner_Write.f k ByteArray.empty false ByteArray.empty 0 x = some (l1, b, false, nm, raw) := by
    unfold scan_Scanner_Write.f
    rw [if_pos (by have : ByteArray.empty.size = 0 := rfl; omega), ByteArray.empty_append]
    unfold scan_Scanner_told.f
    rw [h1, Option.bind_some]
  have hcl : scan_Scanner_Close.f k b false nm raw = some (l2, ⟨#[]⟩, false, ⟨#[]⟩, 0) := by
    unfold scan_Scanner_Close.f scan_Scanner_told.f
    rw [h2, Option.bind_some]
  rw [hw, Option.bind_some]
  simp only
  rw [hcl, Option.bind_some]
  simp only
  rw [if_pos (by omega)]
  unfold scan_Merge.f
  cases mergeGo [] (l1 ++ l2) <;> rfl
theorem tokens_nolt (k : Nat) (x D : ByteArray) (h : NoLt x) (hz : x.size ≤ 100000) (hk : x.size + 1 ≤ k) (hD : charref_Decode.f x false = some D) : scan_Tokens.f k x = some (one D) := by
  obtain ⟨ds, b, e1, q1, q2, q3, q4⟩ := told_nolt k false [] x h hz hk (by simp; omega)
  obtain ⟨ds2, b2, e2, p1, p2, p3, p4⟩ := told_nolt k true [] b q2 (by omega) (by omega) (by simp; omega)
  rw [List.nil_append] at e1 e2
  rw [tokens_of k x hz _ _ b _ 0 e1 b2 _ 0 false e2 (by rw [List.length_map, List.length_map]; omega)]
  have hb2 : b2 = ByteArray.empty := ba_nil (by
    rcases p1 with h0 | ⟨h0, _⟩
    · exact h0
    · cases h0)
  subst hb2
  have hx := q4 _ (p4 _ decode_empty)
  rw [ByteArray.append_empty, ← joinB_append, hD] at hx
  obtain rfl := Option.some.inj hx
  obtain ⟨r, hr, _, hrl⟩ := decode_spec x hz
  rw [hD] at hr
  have hsz : (joinB (ds ++ ds2)).size ≤ 140737488355328 := by
    rw [Option.some.inj hr, size_mk]; omega
  rw [← List.map_append, merge_ds _ hsz]
theorem tokens_tag (k : Nat) (s D name x : ByteArray) (h : NoLt s) (hz : x.size ≤ 100000) (hw : WordOk name) (hD : charref_Decode.f s false = some D) (hr : scan_Raw.f 8 name = some 0)
    (hx : x.data.toList = s.data.toList ++ 60 :: (name.data.toList ++ 62 :: 60 :: 47 :: (name.data.toList ++ [62]))) : scan_Tokens.f (k + 5) x = some (one D ++ [⟨2, name, ByteArray.empty, [], false⟩, ⟨3, name, ByteArray.empty, [], false⟩]) := by
  obtain ⟨t2, ht2⟩ : ∃ t2 : ByteArray, t2.data.toList = 60 :: 47 :: (name.data.toList ++ 62 :: ByteArray.empty.data.toList) := ⟨⟨(60 :: 47 :: (name.data.toList ++ 62 :: ByteArray.empty.data.toList)).toArray⟩, rfl⟩
  obtain ⟨t1, ht1⟩ : ∃ t1 : ByteArray, t1.data.toList = 60 :: (name.data.toList ++ 62 :: t2.data.toList) := ⟨⟨(60 :: (name.data.toList ++ 62 :: t2.data.toList)).toArray⟩, rfl⟩
  have hxt : x = s ++ t1 := by
    apply ba_ext
    rw [ba_append, ht1, ht2, hx]
    rfl
  have hsz : x.size = s.size + t1.size := by rw [hxt]; exact ByteArray.size_append
  have hle := hw.le
  have hz1 : t1.size = name.size + 2 + t2.size := by rw [← len_list t1, ht1, List.length_cons, List.length_append, List.length_cons, len_list, len_list]; omega
  have hS := step_start t1 name t2 0 false hw ht1 (by omega) ByteArray.empty hr
  have hE := step_close t2 name ByteArray.empty false hw ht2 (by omega) name
  obtain ⟨c, m, hc, hl⟩ := hw.head
  have hfin : ∀ (j : Nat) (l : List S33), l.length < 1000 → scan_Scanner_told.l0 (j + 3) false l t1 false ByteArray.empty 0 = some (l ++ [⟨2, name, ByteArray.empty, [], false⟩, ⟨3, name, ByteArray.empty, [], false⟩], ByteArray.empty, false, ByteArray.empty, 0) := fun j l hl => by
    rw [told_step (j + 2) false l _ _ _ _ _ _ _ hS (by simp; omega), told_step (j + 1) false _ _ _ _ _ _ _ _ hE (by simp; omega), told_stop j false _ [] _ _ _ _ _ _ (step_end false)]
    simp
  obtain ⟨r, hrr, _, hrl⟩ := decode_spec s (by omega)
  rw [hD] at hrr
  have hDs : D.size ≤ 200000000 := by rw [Option.some.inj hrr, size_mk]; exact hrl
  have hmg : ∀ l : List S33, mergeGo [] l = some (one D) → mergeGo [] (l ++ [⟨2, name, ByteArray.empty, [], false⟩, ⟨3, name, ByteArray.empty, [], false⟩] ++ []) = some (one D ++ [⟨2, name, ByteArray.empty, [], false⟩, ⟨3, name, ByteArray.empty, [], false⟩]) := fun l hl => by
    have ho : (one D).length ≤ 1 := by unfold one; split <;> simp
    rw [List.append_nil, mergeGo_append, hl, Option.bind_some, mergeGo, merge_other _ _ (by simp) (by omega), Option.bind_some, mergeGo, merge_other _ _ (by simp) (by rw [List.length_append, List.length_singleton]; omega), Option.bind_some, mergeGo]
    simp
  by_cases h0 : s.size = 0
  · have hs0 := ba_nil h0
    have hxe : x = t1 := by rw [hxt, hs0, ByteArray.empty_append]
    have hDe : D = ByteArray.empty := by rw [hs0, decode_empty] at hD; exact (Option.some.inj hD).symm
    rw [hxe, tokens_of (k + 5) t1 (by omega) _ [] _ _ _ (hfin (k + 2) [] (by simp)) ByteArray.empty ByteArray.empty 0 false (told_stop (k + 4) true [] [] _ _ _ _ _ _ (step_end true)) (by simp)]
    exact hmg [] (by rw [hDe]; rfl)
  · have hex : x.extract s.size x.size = t1 := by
      apply ba_ext
      rw [ba_tail, hxt, ba_append, List.drop_append_of_le_length (by rw [len_list]; exact Nat.le_refl _), List.drop_of_length_le (by rw [len_list]; exact Nat.le_refl _), List.nil_append]
    have hex0 : x.extract 0 s.size = s := by
      apply ba_ext
      rw [ba_head, hxt, ba_append, List.take_append_of_le_length (by rw [len_list]; exact Nat.le_refl _), List.take_of_length_le (by rw [len_list]; exact Nat.le_refl _)]
    have hop : scan_opens.f 2 t1 = some (true, false) := by
      cases m with
      | nil => exact opens_at t1 c 62 t2.data.toList (by rw [ht1, hc]; rfl) (.inl (isLow_letter _ hl).1)
      | cons d m => exact opens_at t1 c d (m ++ 62 :: t2.data.toList) (by rw [ht1, hc]; rfl) (.inl (isLow_letter _ hl).1)
    have hT : scan_Scanner_step.f x false ByteArray.empty 0 false = some ([tT D], true, t1, false, ByteArray.empty, 0) := by
      unfold scan_Scanner_step.f
      rw [run_first x ByteArray.empty false s.size hz (by rw [hex]; exact hop) (fun j hj => by
        have e := bt_ext x 0 s.size j (by omega) (by omega)
        rw [hex0, Nat.zero_add] at e
        rw [← e]; exact h j hj) (by omega), Option.bind_some]
      show (some ((s.size : Int), (0 : Int))).bind (fun nh => stepRest x false ByteArray.empty 0 false true nh) = _
      rw [Option.bind_some]
      unfold stepRest
      simp only
      rw [if_pos ⟨by omega, by omega⟩, if_pos (by omega)]
      unfold stepText
      have em : min ((s.size : Int) - 0).toNat x.size = s.size := by omega
      rw [skip_tot x false _ (by omega), em, hex, hex0, Option.bind_some]
      unfold scan_mode_text.f
      rw [if_pos rfl, if_pos (by decide), hD]
      rfl
    have h1 := told_step (k + 4) false [] _ _ _ _ _ _ _ hT (by simp)
    rw [List.nil_append, hfin (k + 1) [tT D] (by simp)] at h1
    rw [tokens_of (k + 5) x hz _ [] _ _ _ h1 ByteArray.empty ByteArray.empty 0 false (told_stop (k + 4) true [] [] _ _ _ _ _ _ (step_end true)) (by simp)]
    refine hmg [tT D] ?_
    have := merge_ds [D] (by show (D ++ ByteArray.empty).size ≤ _; rw [ByteArray.append_empty]; omega)
    rw [show joinB [D] = D from ByteArray.append_empty] at this
    exact this
theorem raw_more (k : Nat) (s : ByteArray) : scan_Raw.f (k + 2) s = scan_Raw.f 8 s := by
  unfold scan_Raw.f
  simp only [scan_Raw.j0, scan_Raw.j1]
theorem marks_end (x y : ByteArray) (hs : x.size ≤ 500) (h : NoLt x) (hw : WordOk y) (hr : scan_Raw.f 8 y = some 0) (k : Nat) (hk : x.size + 10 ≤ k) (i : Int) (hi : ¬ i < (x.size : Int)) : cribblelaw18_ScanMarks.l0 (k + 1) x y i = some true := by
  have hle := hw.le
  obtain ⟨r, hD, _, hrl⟩ := decode_spec x (by omega)
  generalize (⟨r.toArray⟩ : ByteArray) = D at hD
  have s1 : (⟨#[60]⟩ : ByteArray).size = 1 := rfl
  have s3 : (⟨#[62, 60, 47]⟩ : ByteArray).size = 3 := rfl
  have s2 : (⟨#[62]⟩ : ByteArray).size = 1 := rfl
  obtain ⟨k2, rfl⟩ : ∃ k2, k = k2 + 5 := ⟨k - 5, by omega⟩
  rw [cribblelaw18_ScanMarks.l0, if_neg hi, hD, Option.bind_some, tokens_nolt (k2 + 5) x D h (by omega) (by omega) hD, Option.bind_some]
  rw [if_pos (by omega), if_pos (by simp only [ByteArray.size_append]; omega), if_pos (by simp only [ByteArray.size_append]; omega), if_pos (by simp only [ByteArray.size_append]; omega), if_pos (by simp only [ByteArray.size_append]; omega)]
  rw [tokens_tag k2 x D y _ h (by simp only [ByteArray.size_append]; omega) hw hD hr (by simp [ba_append]), Option.bind_some]
  by_cases hD0 : D.size = 0
  · have e : one D = [] := by unfold one; rw [if_pos hD0]
    rw [if_pos ((toList_nil D).2 hD0), e]
    simp [rd_T33]
  · have e : one D = [tT D] := by unfold one; rw [if_neg hD0]
    rw [if_neg (fun c => hD0 ((toList_nil D).1 c)), e]
    simp [rd_T33, tT]
theorem marks_loop (x y : ByteArray) (hs : x.size ≤ 500) (hw : WordOk y) (hr : scan_Raw.f 8 y = some 0) : ∀ (m n k : Nat), n + m = x.size → x.size + 10 ≤ k → (∀ i : Nat, i < n → bt x (i : Int) ≠ 60) → cribblelaw18_ScanMarks.l0 (m + k + 1) x y (n : Int) = some true
  | 0, n, k, e, hk, h => by
    rw [Nat.zero_add]
    exact marks_end x y hs (fun i hi => h i (by omega)) hw hr k hk (n : Int) (by omega)
  | m + 1, n, k, e, hk, h => by
    rw [show m + 1 + k + 1 = (m + k + 1) + 1 by omega, cribblelaw18_ScanMarks.l0, if_pos (by omega), if_pos (by omega)]
    by_cases h1 : bt x (n : Int) = 60
    · rw [if_pos h1]
    · rw [if_neg h1]
      have hw1 : wrap64 ((n : Int) + 1) = ((n + 1 : Nat) : Int) := by unfold wrap64; omega
      rw [hw1]
      exact marks_loop x y hs hw hr m (n + 1) k (by omega) hk (fun i hi => by
        rcases Nat.lt_or_ge i n with hlt | hge
        · exact h i hlt
        · have : i = n := by omega
          subst this
          exact h1)
theorem scanMarks_true (a0 a1 : ByteArray) : ∃ k, cribblelaw18_ScanMarks.f k a0 a1 = some true := by
  refine ⟨2 * a0.size + 20, ?_⟩
  unfold cribblelaw18_ScanMarks.f
  rw [awake_true, Option.bind_some, if_pos rfl]
  by_cases hs : (a0.size : Int) > 500
  · rw [if_pos hs, show 2 * a0.size + 20 = (2 * a0.size + 19) + 1 by omega, cribblelaw18_ScanMarks.j0, if_pos rfl]
  · rw [if_neg hs]
    have hword : class_Word.f a1 = some (wordV a1) := rfl
    rw [hword, Option.bind_some]
    cases hv : wordV a1 with
    | false => rw [if_neg Bool.false_ne_true, show 2 * a0.size + 20 = (2 * a0.size + 19) + 1 by omega, cribblelaw18_ScanMarks.j0, if_pos rfl]
    | true =>
      have hw := wordV_ok a1 hv
      obtain ⟨r, hr, _, _⟩ := raw_tot a1
      rw [if_pos rfl, show 2 * a0.size + 20 = (2 * a0.size + 18) + 2 by omega, raw_more, hr, Option.bind_some, show (2 * a0.size + 18) + 2 = (2 * a0.size + 19) + 1 by omega, cribblelaw18_ScanMarks.j0]
      by_cases h0 : r = 0
      · subst h0
        rw [if_neg (by decide)]
        have := marks_loop a0 a1 (by omega) hw hr a0.size 0 (a0.size + 18) (by omega) (by omega) (fun i hi => by omega)
        rw [show a0.size + (a0.size + 18) + 1 = 2 * a0.size + 19 by omega] at this
        exact this
      · rw [if_pos (by simpa using h0)]
end Go.Proofs.YtoacojkmclngmaaGreatDoor.Pz
