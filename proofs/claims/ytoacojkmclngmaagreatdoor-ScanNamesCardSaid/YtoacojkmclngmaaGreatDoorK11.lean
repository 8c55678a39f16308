/- Texts of the session, one behind the other: what the code computes, function by function, and its contracts. -/
import Derived.Lib.SplitLaws
import Derived.KernelRfl
import Derived.Lib.IndexMore
import Derived.Deep.RegionHeld3
import Derived.Test.YtoacojkmclngmaaGreatDoorK1
import Derived.Test.YtoacojkmclngmaaGreatDoorK2
import Derived.Test.YtoacojkmclngmaaGreatDoorK3
import Derived.Test.YtoacojkmclngmaaGreatDoorK4
import Derived.Test.YtoacojkmclngmaaGreatDoorK5
import Derived.Test.YtoacojkmclngmaaGreatDoorK6
import Derived.Test.YtoacojkmclngmaaGreatDoorK7
import Derived.Test.YtoacojkmclngmaaGreatDoorK8
import Derived.Test.YtoacojkmclngmaaGreatDoorK9
import Derived.Test.YtoacojkmclngmaaGreatDoorK10
/- Decode of a text in two parts, the first one without a reference that is open at its end; what heal tells of two parts. -/
namespace Go.Proofs.YtoacojkmclngmaaGreatDoor.Pz
open Go.RowKit Go.Proofs.YtoacojkmclngmaaGreatDoorW.PrintWords Go.Proofs.YtoacojkmclngmaaGreatDoorW.PrintLast Go.Proofs.YtoacojkmclngmaaGreatDoorW.PrintMore
set_option linter.unusedVariables false
set_option linter.unusedSimpArgs false
def NG (c : UInt8) : Prop := goesB (c.toNat : Int) = false
def HasNG (l : List UInt8) : Prop := ∃ c ∈ l, NG c
def Closed (a : List UInt8) : Prop := ∀ l m, a = l ++ 38 :: m → HasNG m
theorem Closed.drop {a : List UInt8} (h : Closed a) (n : Nat) : Closed (a.drop n) := fun l m e => h (a.take n ++ l) m (by
  rw [List.append_assoc, ← e, List.take_append_drop])
theorem fig_goes (base : Int) (c : UInt8) (h : NG c) : fig base (c.toNat : Int) = false := by
  have key : ∀ n : Fin 256, goesB ((UInt8.ofNat n.val).toNat : Int) = false → isDigit ((UInt8.ofNat n.val).toNat : Int) = false ∧ isHex ((UInt8.ofNat n.val).toNat : Int) = false := by decide +kernel
  have := key ⟨c.toNat, c.toNat_lt⟩ (by unfold NG at h; simpa using h)
  have e : UInt8.ofNat c.toNat = c := by simp
  simp only [e] at this
  unfold fig
  rw [this.1, this.2]; simp
theorem takeWhile_app {α : Type} (p : α → Bool) (m : List α) : ∀ x : List α, (∃ c ∈ x, p c = false) → (x ++ m).takeWhile p = x.takeWhile p ∧ (x.takeWhile p).length < x.length
  | [], h => by obtain ⟨c, hc, _⟩ := h; cases hc
  | a :: x, h => by
    cases ha : p a with
    | false => simp [List.takeWhile_cons, ha]
    | true =>
      have h2 : ∃ c ∈ x, p c = false := by
        obtain ⟨c, hc, hp⟩ := h
        rcases List.mem_cons.1 hc with rfl | hc
        · rw [ha] at hp; cases hp
        · exact ⟨c, hc, hp⟩
      obtain ⟨e1, e2⟩ := takeWhile_app p m x h2
      simp [List.takeWhile_cons, ha, e1, e2]
theorem numericV_closed (l m : List UInt8) (h : HasNG (l.drop 2)) : numericV (l ++ m) = numericV l := by
  have h2 : 2 < l.length := by
    obtain ⟨c, hc, _⟩ := h
    have := List.length_pos_of_mem hc
    rw [List.length_drop] at this
    omega
  have hx : isX (l ++ m) = isX l := by
    unfold isX
    rw [List.drop_append_of_le_length (by omega)]
    cases hd : l.drop 2 with
    | nil =>
      have := congrArg List.length hd
      rw [List.length_drop, List.length_nil] at this
      omega
    | cons c x => rfl
  unfold numericV
  rw [hx]
  simp only
  have hi : (if isX l = true then 3 else 2) ≤ l.length := by split <;> omega
  have hg : HasNG (l.drop (if isX l = true then 3 else 2)) := by
    by_cases hX : isX l = true
    · rw [if_pos hX]
      unfold isX at hX
      split at hX
      · rename_i c x hd
        have e3 : l.drop 3 = x := by
          have : l.drop 3 = (l.drop 2).drop 1 := by rw [List.drop_drop]
          rw [this, hd]; rfl
        rw [e3]
        obtain ⟨d, hm, hn⟩ := h
        rw [hd] at hm
        rcases List.mem_cons.1 hm with rfl | hm
        · exfalso
          have key : ∀ n : Fin 256, (decide ((UInt8.ofNat n.val).toNat = 120) || decide ((UInt8.ofNat n.val).toNat = 88)) = true → goesB ((UInt8.ofNat n.val).toNat : Int) = true := by decide +kernel
          have := key ⟨d.toNat, d.toNat_lt⟩ (by simpa using hX)
          have e : UInt8.ofNat d.toNat = d := by simp
          simp only [e] at this
          unfold NG at hn
          rw [hn] at this; cases this
        · exact ⟨d, hm, hn⟩
      · cases hX
    · rw [if_neg hX]; exact h
  generalize (if isX l = true then (3 : Nat) else 2) = i at hi hg ⊢
  generalize (if isX l = true then (16 : Int) else 10) = base
  obtain ⟨key, hlt⟩ := takeWhile_app (fun c : UInt8 => fig base (c.toNat : Int)) m (l.drop i) (by
    obtain ⟨c, hc, hn⟩ := hg
    exact ⟨c, hc, fig_goes base c hn⟩)
  rw [List.length_drop] at hlt
  rw [List.drop_append_of_le_length hi, key]
  have hj : i + ((l.drop i).takeWhile (fun c => fig base (c.toNat : Int))).length < l.length := by omega
  generalize i + ((l.drop i).takeWhile (fun c => fig base (c.toNat : Int))).length = j at hj ⊢
  have hh : ((l ++ m).drop j).head? = some 59 ↔ (l.drop j).head? = some 59 := by
    rw [List.drop_append_of_le_length (by omega)]
    cases hd : l.drop j with
    | nil =>
      have := congrArg List.length hd
      rw [List.length_drop, List.length_nil] at this
      omega
    | cons c x => simp
  simp only [hh]
theorem names_goes : ∀ s ∈ namesV, ∀ c ∈ s.data.toList.dropLast, goesB (c.toNat : Int) = true := by
  have h : namesV.all (fun s => s.data.toList.dropLast.all fun c => goesB (c.toNat : Int)) = true := by kernel_rfl
  intro s hs c hc
  have := List.all_eq_true.1 h s hs
  exact List.all_eq_true.1 this c hc
theorem path_goes (q : Path) (h : q ∈ trieV.1) : ∀ c ∈ q.dropLast, goesB (c.toNat : Int) = true := by
  rcases (trieV_of.2.1.pre q).1 h with rfl | ⟨d, hd, hp⟩
  · intro c hc; cases hc
  · obtain ⟨s, hs, rfl⟩ := List.mem_map.1 hd
    intro c hc
    apply names_goes s hs c
    obtain ⟨t, ht⟩ := hp
    cases t with
    | nil => rw [List.append_nil] at ht; rw [← ht]; exact hc
    | cons x t =>
      have : s.data.toList = q ++ x :: t := ht.symm
      rw [this, List.dropLast_append_of_ne_nil (by simp)]
      exact List.mem_append_left _ ((List.dropLast_sublist q).subset hc)
theorem prefGo_closed (u m : List UInt8) (hu : HasNG u) : ∀ (k i e : Nat), i + k = u.length → e ≤ m.length → prefGo trieV.1 trieV.2 (u ++ m) (k + e) i = prefGo trieV.1 trieV.2 u k i
  | 0, i, 0, h, _ => rfl
  | 0, i, e + 1, h, he => by
    rw [Nat.zero_add]
    unfold prefGo
    rw [if_neg (fun hm => by
      obtain ⟨c, hc, hn⟩ := hu
      have hi : i = u.length := by omega
      subst hi
      rw [List.take_length_add_append] at hm
      have := path_goes _ hm c (by
        rw [List.dropLast_append_of_ne_nil (by
          intro h0
          have := congrArg List.length h0
          rw [List.length_take, List.length_nil] at this
          omega)]
        exact List.mem_append_left _ hc)
      unfold NG at hn
      rw [hn] at this; cases this)]
  | k + 1, i, e, h, he => by
    have e1 : k + 1 + e = (k + e) + 1 := by omega
    rw [e1]
    unfold prefGo
    have ht : (u ++ m).take (i + 1) = u.take (i + 1) := List.take_append_of_le_length (by omega)
    rw [ht, prefGo_closed u m hu k (i + 1) e (by omega) he]
theorem namedV_closed (a b : ByteArray) (h : HasNG a.data.toList) : namedV (a ++ b) = namedV a := by
  have h : longV (a ++ b) = longV a := by
    unfold longV
    rw [ba_append, ByteArray.size_append, prefGo_closed a.data.toList b.data.toList h a.size 0 b.size (by rw [len_list]; omega) (by rw [len_list]; exact Nat.le_refl _)]
  unfold namedV
  rw [h]
theorem one_closed (s b : ByteArray) (m : List UInt8) (hs : s.data.toList = 38 :: m) (hm : HasNG m) (hz : s.size + b.size ≤ 1000000) : charref_One.f (s ++ b) false = charref_One.f s false := by
  have hA : Amp s := ⟨m, hs⟩
  have hps := hA.pos
  have hsz : (s ++ b).size = s.size + b.size := ByteArray.size_append
  have hpf : ∀ x : ByteArray, strings_HasPrefix.f x (⟨#[38]⟩ : ByteArray) = some (Lib.hasPrefix x.data.toList [38]) := fun _ => rfl
  have hpf2 : ∀ x : ByteArray, strings_HasPrefix.f x (⟨#[38, 35]⟩ : ByteArray) = some (Lib.hasPrefix x.data.toList [38, 35]) := fun _ => rfl
  have e1 : (s ++ b).extract 1 (s ++ b).size = s.extract 1 s.size ++ b := by
    apply ba_ext
    rw [ba_tail, ba_append, ba_append, ba_tail, List.drop_append_of_le_length (by rw [len_list]; omega)]
  have hex : (s.extract 1 s.size).size = s.size - 1 := by rw [ByteArray.size_extract]; omega
  have hexl : (s.extract 1 s.size).data.toList = m := by rw [ba_tail, hs]; rfl
  have h2 : Lib.hasPrefix (s ++ b).data.toList [38, 35] = Lib.hasPrefix s.data.toList [38, 35] := by
    obtain ⟨c, hc, _⟩ := hm
    rw [ba_append, hs]
    cases m with
    | nil => cases hc
    | cons c l => simp [Lib.hasPrefix, List.isPrefixOf]
  have h3 : Lib.hasPrefix s.data.toList [38, 35] = true → charref_numeric.f (s ++ b) = charref_numeric.f s := fun hp => by
    have h2l : 2 ≤ s.size := prefix_size s _ hp
    unfold charref_numeric.f
    rw [if_pos (by omega), if_pos (by omega), ba_append, numericV_closed]
    rw [hs]
    rw [hs] at hp
    cases m with
    | nil => obtain ⟨c, hc, _⟩ := hm; cases hc
    | cons x l =>
      have hx : x = 35 := by
        simp [Lib.hasPrefix, List.isPrefixOf] at hp
        exact hp.symm
      subst hx
      obtain ⟨c, hc, hn⟩ := hm
      rcases List.mem_cons.1 hc with rfl | hc
      · have h35 : goesB ((35 : UInt8).toNat : Int) = true := by decide
        unfold NG at hn
        rw [h35] at hn
        cases hn
      · exact ⟨c, hc, hn⟩
  unfold charref_One.f
  rw [hpf, hpf, prefix_amp hA, prefix_amp (hA.append b), Option.bind_some, Option.bind_some, if_pos rfl, if_pos rfl, hpf2, hpf2, h2, Option.bind_some, Option.bind_some]
  by_cases hp : Lib.hasPrefix s.data.toList [38, 35] = true
  · rw [if_pos hp, if_pos hp, h3 hp]
  · rw [if_neg hp, if_neg hp, if_pos (by omega), if_pos (by omega), e1, named_tot3 _ (by rw [ByteArray.size_append]; omega), named_tot3 _ (by omega), namedV_closed _ _ (by rw [hexl]; exact hm)]
    simp only [Option.bind_some, Bool.false_eq_true, if_false]
theorem ampAt_none (a : ByteArray) (h : ampAt a = a.size) : ∀ c ∈ a.data.toList, (c != 38) = true := by
  rw [ampAt_take, ← len_list] at h
  have : a.data.toList.takeWhile (fun c => c != 38) = a.data.toList := by
    have h2 := List.takeWhile_prefix (fun c : UInt8 => c != 38) (l := a.data.toList)
    exact h2.eq_of_length h
  intro c hc
  rw [← this] at hc
  exact List.all_eq_true.1 (List.all_takeWhile (p := fun c : UInt8 => c != 38)) c hc
theorem takeWhile_all {α : Type} (p : α → Bool) (y : List α) : ∀ x : List α, (∀ c ∈ x, p c = true) → (x ++ y).takeWhile p = x ++ y.takeWhile p
  | [], _ => rfl
  | a :: x, h => by
    rw [List.cons_append, List.takeWhile_cons, if_pos (h a (by simp)), takeWhile_all p y x (fun c hc => h c (List.mem_cons_of_mem _ hc))]
    rfl
theorem ampAt_some (a b : ByteArray) (h : ampAt a < a.size) : ampAt (a ++ b) = ampAt a := by
  have h3 := h
  rw [ampAt_take, ampAt_take, ba_append]
  obtain ⟨m, hm⟩ := amp_at a h
  rw [ba_tail] at hm
  have hin : (38 : UInt8) ∈ a.data.toList := List.mem_of_mem_drop (by rw [hm]; simp)
  rw [(takeWhile_app (fun c : UInt8 => c != 38) b.data.toList a.data.toList ⟨38, hin, by decide⟩).1]
theorem decGo_closed (b : ByteArray) (m : Nat) (rb : List UInt8) (hm : decGo false m b = some rb) : ∀ (k : Nat) (a : ByteArray) (ra : List UInt8), decGo false k a = some ra → Closed a.data.toList → a.size + b.size ≤ 1000000 → decGo false (k + m) (a ++ b) = some (ra ++ rb)
  | 0, a, ra, h, hcl, hz => by
    unfold decGo at h
    split at h
    · rename_i h0
      obtain rfl := Option.some.inj h
      rw [ba_nil h0, ByteArray.empty_append, Nat.zero_add]
      exact hm
    · cases h
  | k + 1, a, ra, h, hcl, hz => by
    by_cases h0 : a.size = 0
    · unfold decGo at h
      rw [if_pos h0] at h
      obtain rfl := Option.some.inj h
      rw [ba_nil h0, ByteArray.empty_append, Nat.add_comm (k + 1) m]
      exact decGo_le false b rb (k + 1) m hm
    · unfold decGo at h
      rw [if_neg h0] at h
      obtain ⟨t0, ht0, h⟩ := Option.bind_eq_some_iff.1 h
      simp only at h
      split at h
      case isFalse => cases h
      rename_i hr
      obtain ⟨r1, hr1, rfl⟩ := Option.map_eq_some_iff.1 h
      have hsz : (a ++ b).size = a.size + b.size := ByteArray.size_append
      have hle := ampAt_le a
      by_cases hi : ampAt a < a.size
      · have e1 : (a ++ b).extract (ampAt a) (a ++ b).size = a.extract (ampAt a) a.size ++ b := by
          apply ba_ext
          rw [ba_tail, ba_append, ba_append, ba_tail, List.drop_append_of_le_length (by rw [len_list]; exact hle)]
        have e2 : (a ++ b).extract 0 (ampAt a) = a.extract 0 (ampAt a) := by
          apply ba_ext
          rw [ba_head, ba_head, ba_append, List.take_append_of_le_length (by rw [len_list]; exact hle)]
        have hxs : (a.extract (ampAt a) a.size).size = a.size - ampAt a := by rw [ByteArray.size_extract]; omega
        rw [show k + 1 + m = (k + m) + 1 by omega]
        unfold decGo
        rw [if_neg (by omega), ampAt_some a b hi, e1, e2]
        obtain ⟨ml, hA⟩ := amp_at a hi
        have hng : HasNG ml := by
          refine hcl (a.data.toList.take (ampAt a)) ml ?_
          rw [← hA, ba_tail, List.take_append_drop]
        have hcl1 : Closed (a.extract (ampAt a) a.size).data.toList := by rw [ba_tail]; exact hcl.drop _
        obtain ⟨s1, hs1⟩ : ∃ s1, s1 = a.extract (ampAt a) a.size := ⟨_, rfl⟩
        rw [← hs1] at hA hxs ht0 hr hr1 hcl1 ⊢
        rw [one_closed s1 b ml hA hng (by omega), ht0, Option.bind_some]
        have hs1b : (s1 ++ b).size = s1.size + b.size := ByteArray.size_append
        have hd : decStep (s1 ++ b) t0 = decStep s1 t0 := by
          unfold decStep
          have ex : (s1 ++ b).extract 0 1 = s1.extract 0 1 := by
            apply ba_ext
            rw [ba_head, ba_head, ba_append, List.take_append_of_le_length (by rw [len_list]; omega)]
          rw [ex]
          by_cases ht : t0.2 = 0
          · rw [if_pos ⟨ht, by omega⟩, if_pos ⟨ht, by omega⟩]
          · rw [if_neg (fun c => ht c.1), if_neg (fun c => ht c.1)]
        simp only
        rw [hd, if_pos ⟨hr.1, by omega⟩]
        have ee : (s1 ++ b).extract (decStep s1 t0).2.toNat (s1 ++ b).size = s1.extract (decStep s1 t0).2.toNat s1.size ++ b := by
          apply ba_ext
          rw [ba_tail, ba_append, ba_append, ba_tail, List.drop_append_of_le_length (by rw [len_list]; omega)]
        rw [ee, decGo_closed b m rb hm k _ r1 hr1 (by rw [ba_tail]; exact hcl1.drop _) (by rw [ByteArray.size_extract]; omega)]
        simp only [Option.map_some, List.append_assoc]
      · have hie : ampAt a = a.size := by omega
        have hs1 : a.extract (ampAt a) a.size = ByteArray.empty := ba_nil (by rw [ByteArray.size_extract]; omega)
        rw [hs1] at ht0 hr hr1 ⊢
        rw [one_empty] at ht0
        obtain rfl := Option.some.inj ht0
        have hd0 : decStep ByteArray.empty (ByteArray.empty, 0) = (ByteArray.empty, 0) := rfl
        rw [hd0] at hr hr1 ⊢
        have hr1e : r1 = [] := by
          have he : ByteArray.empty.extract (0 : Int).toNat ByteArray.empty.size = ByteArray.empty := rfl
          simp only at hr1
          rw [he] at hr1
          cases k with
          | zero => exact (Option.some.inj hr1).symm
          | succ k => exact (Option.some.inj hr1).symm
        subst hr1e
        have ha0 : a.extract 0 (ampAt a) = a := ba_ext (by rw [ba_head, hie, List.take_of_length_le (by rw [len_list]; exact Nat.le_refl _)])
        rw [ha0]
        have hze : ByteArray.empty.data.toList = [] := rfl
        simp only [hze, List.append_nil]
        cases m with
        | zero =>
          unfold decGo at hm
          split at hm
          · rename_i hb0
            obtain rfl := Option.some.inj hm
            rw [ba_nil hb0, ByteArray.append_empty, List.append_nil, Nat.add_zero]
            have hself : decGo false (k + 1) a = some a.data.toList := by
              unfold decGo
              rw [if_neg h0, hs1, one_empty, Option.bind_some]
              simp only
              rw [hd0, if_pos hr, hr1, ha0]
              simp [hze]
            exact hself
          · cases hm
        | succ m =>
          unfold decGo at hm
          by_cases hb0 : b.size = 0
          · rw [if_pos hb0] at hm
            obtain rfl := Option.some.inj hm
            rw [ba_nil hb0, ByteArray.append_empty, List.append_nil]
            have hself : decGo false (k + 1) a = some a.data.toList := by
              unfold decGo
              rw [if_neg h0, hs1, one_empty, Option.bind_some]
              simp only
              rw [hd0, if_pos hr, hr1, ha0]
              simp [hze]
            exact decGo_le false a _ (m + 1) (k + 1) hself
          · rw [if_neg hb0] at hm
            have hamp : ampAt (a ++ b) = a.size + ampAt b := by
              rw [ampAt_take, ampAt_take, ba_append, takeWhile_all _ _ _ (ampAt_none a hie), List.length_append, len_list]
            have x1 : (a ++ b).extract (ampAt (a ++ b)) (a ++ b).size = b.extract (ampAt b) b.size := by
              apply ba_ext
              rw [ba_tail, ba_tail, hamp, ba_append, ← len_list a, List.drop_length_add_append]
            have x2 : ((a ++ b).extract 0 (ampAt (a ++ b))).data.toList = a.data.toList ++ (b.extract 0 (ampAt b)).data.toList := by
              rw [ba_head, ba_head, hamp, ba_append, ← len_list a, List.take_length_add_append]
            obtain ⟨t1, ht1, hm⟩ := Option.bind_eq_some_iff.1 hm
            simp only at hm
            split at hm
            case isFalse => cases hm
            rename_i hr2
            obtain ⟨r2, hr2e, rfl⟩ := Option.map_eq_some_iff.1 hm
            rw [show k + 1 + (m + 1) = (m + (k + 1)) + 1 by omega]
            unfold decGo
            rw [if_neg (by omega), x1, ht1, Option.bind_some]
            simp only
            rw [if_pos hr2, decGo_le false _ r2 (k + 1) m hr2e, x2]
            simp only [Option.map_some, List.append_assoc]
theorem decode_closed (a b da db : ByteArray) (hc : Closed a.data.toList) (hz : a.size + b.size ≤ 100000) (ha : charref_Decode.f a false = some da) (hd : charref_Decode.f b false = some db) : charref_Decode.f (a ++ b) false = some (da ++ db) := by
  have hsz : (a ++ b).size = a.size + b.size := ByteArray.size_append
  obtain ⟨ra, h1, h2, _⟩ := decode_spec a (by omega)
  obtain ⟨rb, h3, h4, _⟩ := decode_spec b (by omega)
  obtain ⟨r, h5, h6, _⟩ := decode_spec (a ++ b) (by omega)
  have hs := decGo_closed b _ rb h4 _ a ra h2 hc (by omega)
  have hl := decGo_le false _ r 1 _ h6
  rw [show (a ++ b).size + 1 + 1 = a.size + 1 + (b.size + 1) by omega, hs] at hl
  obtain rfl := Option.some.inj hl
  rw [ha] at h1
  rw [hd] at h3
  obtain rfl := Option.some.inj h1
  obtain rfl := Option.some.inj h3
  rw [h5]
  exact congrArg some (ba_ext (by rw [ba_append]))
theorem open_spec (s : ByteArray) (h : s.size ≤ 1000000) : (scan_open.f s = some 0 ∧ Closed s.data.toList) ∨ ∃ m : Nat, m < s.size ∧ scan_open.f s = some ((s.size : Int) - m) ∧ bt s (m : Int) = 38 := by
  have hdat : ∀ (i : Nat) (hi : i < s.size), ((s.data[i]!).toNat : Int) = bt s (i : Int) := fun i hi => by
    rw [bt_list s i hi]
    have h3 : i < s.data.size := hi
    rw [getElem!_pos s.data i h3]; rfl
  have hpos : ∀ (l m : List UInt8) (c : UInt8), s.data.toList = l ++ c :: m → l.length < s.size ∧ bt s (l.length : Int) = (c.toNat : Int) := fun l m c e => by
    have hlt : l.length < s.size := by rw [← len_list, e]; simp
    refine ⟨hlt, ?_⟩
    rw [bt_list s l.length hlt]
    simp [e]
  unfold scan_open.f
  rw [if_pos (by omega)]
  unfold openV
  rcases Lib.lastIdx_spec s 38 s.size with ⟨h1, hn⟩ | ⟨i, hi, h2, hc, hn⟩
  · have h1' : Lib.lastIndexByte s 38 = -1 := h1
    rw [h1', if_pos (by decide)]
    left
    refine ⟨rfl, fun l m e => ?_⟩
    obtain ⟨q1, q2⟩ := hpos l m 38 e
    exact absurd ((hdat _ q1).trans q2) (hn _ q1)
  · have h2' : Lib.lastIndexByte s 38 = i := h2
    rw [h2', if_neg (by omega)]
    have hti : ((i : Int)).toNat + 1 = i + 1 := by omega
    rw [hti]
    by_cases hall : (s.extract (i + 1) s.size).data.toList.all (fun b => goesB (b.toNat : Int)) = true
    · rw [if_pos hall]
      right
      exact ⟨i, hi, rfl, by rw [← hdat i hi]; exact hc⟩
    · rw [if_neg hall]
      left
      refine ⟨rfl, fun l m e => ?_⟩
      obtain ⟨q1, q2⟩ := hpos l m 38 e
      have hli : l.length ≤ i := by
        rcases Nat.lt_or_ge i l.length with hlt | hge
        · exact absurd ((hdat _ q1).trans q2) (hn _ hlt q1)
        · exact hge
      rcases Nat.eq_or_lt_of_le hli with heq | hlt
      · have hm : (s.extract (i + 1) s.size).data.toList = m := by
          rw [ba_tail, e, ← heq, List.drop_length_add_append]; rfl
        rw [hm] at hall
        have : ¬ ∀ x ∈ m, goesB (x.toNat : Int) = true := fun hh => hall (List.all_eq_true.2 hh)
        by_cases hx : HasNG m
        · exact hx
        · exact absurd (fun x hx2 => by
            cases hg : goesB (x.toNat : Int) with
            | true => rfl
            | false => exact absurd ⟨x, hx2, hg⟩ hx) this
      · refine ⟨38, ?_, by unfold NG; decide⟩
        have hg : m[i - l.length - 1]? = some 38 := by
          have hdi : s.data.toList[i]? = some 38 := by
            have hil : i < s.data.toList.length := by rw [len_list]; exact hi
            rw [List.getElem?_eq_getElem hil]
            congr 1
            apply UInt8.toNat_inj.1
            have := (hdat i hi).symm.trans hc
            rw [bt_list s i hi] at this
            have h38 : (38 : UInt8).toNat = 38 := rfl
            rw [h38]; omega
          rw [e, List.getElem?_append_right (by omega)] at hdi
          rw [show i - l.length = (i - l.length - 1) + 1 by omega] at hdi
          simpa using hdi
        exact List.mem_of_getElem? hg
def healL (l : List UInt8) : List UInt8 := l.flatMap fun c => if c = 0 then [239, 191, 189] else [c]
theorem replaceK_heal : ∀ (k : Nat) (l : List UInt8), k = l.count 0 → Lib.replaceK [0] [239, 191, 189] k l = healL l
  | k, [], h => by
    have : k = 0 := by simpa using h
    subst this; rfl
  | k, c :: l, h => by
    by_cases hc : c = 0
    · subst hc
      have hk : k = l.count 0 + 1 := by simpa using h
      subst hk
      rw [Lib.replaceK_hit _ _ _ _ 0 (by rfl)]
      show [239, 191, 189] ++ Lib.replaceK [0] [239, 191, 189] (l.count 0) l = _
      rw [replaceK_heal _ l rfl]
      rfl
    · have hk : k = l.count 0 := by rw [h, List.count_cons_of_ne (by simpa using hc)]
      have ih := replaceK_heal k l hk
      have hh : healL (c :: l) = c :: healL l := by
        show (if c = 0 then [239, 191, 189] else [c]) ++ healL l = _
        rw [if_neg hc]; rfl
      rw [hh, ← ih]
      cases k with
      | zero => rfl
      | succ k =>
        have hcnt : 0 < Lib.count l [0] := by rw [Lib.count_one, ← hk]; omega
        obtain ⟨i, hi⟩ := Lib.index_of_count hcnt
        have hi2 : Lib.index (c :: l) [0] = ((i + 1 : Nat) : Int) := by
          have hp : ([0] : List UInt8).isPrefixOf (c :: l) = false := by simp [List.isPrefixOf, Ne.symm hc]
          have hne : ((i : Int) == -1) = false := by rw [beq_eq_false_iff_ne]; omega
          unfold Lib.index
          rw [hp, hi, hne]
          simp
        rw [Lib.replaceK_hit _ _ _ _ (i + 1) hi2, Lib.replaceK_hit _ _ _ _ i hi]
        simp
theorem heal_spec (s : ByteArray) (h : s.size ≤ 1000000) : scan_heal.f s = some ⟨(healL s.data.toList).toArray⟩ := by
  have hc := Lib.countB_le (⟨#[0]⟩ : ByteArray) (by decide) s.size s (Nat.le_refl _)
  unfold scan_heal.f strings_ReplaceAll.f
  rw [if_pos ⟨by omega, by decide, by have h3 : (⟨#[239, 191, 189]⟩ : ByteArray).size = 3 := rfl; rw [h3]; exact Nat.le_trans (Nat.add_le_add_left (Nat.mul_le_mul_right 3 hc) _) (by omega)⟩]
  rw [Option.bind_some]
  congr 1
  apply ba_ext
  show Lib.replaceAll s.data.toList [0] [239, 191, 189] = healL s.data.toList
  unfold Lib.replaceAll Lib.replace Lib.replaceNum
  rw [if_neg (by decide), if_pos (.inl (by decide)), Lib.count_one, replaceK_heal _ _ rfl]
theorem healL_append (a b : List UInt8) : healL (a ++ b) = healL a ++ healL b := List.flatMap_append
theorem healL_length : ∀ l : List UInt8, (healL l).length ≤ 3 * l.length
  | [] => Nat.le_refl _
  | c :: l => by
    have ih := healL_length l
    show ((if c = 0 then [239, 191, 189] else [c]) ++ healL l).length ≤ _
    rw [List.length_append, List.length_cons]
    split <;> simp <;> omega
theorem heal_split (a b ha hb : ByteArray) (hz : a.size + b.size ≤ 1000000) (h1 : scan_heal.f a = some ha) (h2 : scan_heal.f b = some hb) : scan_heal.f (a ++ b) = some (ha ++ hb) := by
  rw [heal_spec a (by omega)] at h1
  rw [heal_spec b (by omega)] at h2
  rw [heal_spec (a ++ b) (by rw [ByteArray.size_append]; exact hz)]
  obtain rfl := Option.some.inj h1
  obtain rfl := Option.some.inj h2
  congr 1
  apply ba_ext
  rw [ba_append, ba_append, healL_append]
theorem healL_amp {b : List UInt8} {m : List UInt8} (h : b = 38 :: m) : healL b = 38 :: healL m := by subst h; rfl
theorem healL_ng : ∀ l : List UInt8, HasNG l → HasNG (healL l) := by
  rintro l ⟨c, hc, hn⟩
  by_cases h0 : c = 0
  · subst h0
    exact ⟨239, List.mem_flatMap.2 ⟨0, hc, by simp⟩, by unfold NG; decide⟩
  · exact ⟨c, List.mem_flatMap.2 ⟨c, hc, by rw [if_neg h0]; simp⟩, hn⟩
theorem healL_split38 : ∀ (a l m : List UInt8), healL a = l ++ 38 :: m → ∃ l2 m2, a = l2 ++ 38 :: m2 ∧ m = healL m2
  | [], l, m, h => by
    have := congrArg List.length h
    simp [healL] at this
  | c :: a, l, m, h => by
    have e : healL (c :: a) = (if c = 0 then [239, 191, 189] else [c]) ++ healL a := rfl
    rw [e] at h
    by_cases hc : c = 0
    · rw [if_pos hc] at h
      match l, h with
      | [], h => simp at h
      | [x], h => simp at h
      | [x, y], h => simp at h
      | x :: y :: z :: l, h =>
        simp at h
        obtain ⟨l2, m2, h1, h2⟩ := healL_split38 a l m h.2.2.2
        exact ⟨c :: l2, m2, by rw [h1]; rfl, h2⟩
    · rw [if_neg hc] at h
      cases l with
      | nil =>
        simp at h
        exact ⟨[], a, by rw [h.1]; rfl, h.2.symm⟩
      | cons x l =>
        simp at h
        obtain ⟨l2, m2, h1, h2⟩ := healL_split38 a l m h.2
        exact ⟨c :: l2, m2, by rw [h1]; rfl, h2⟩
theorem healL_closed (a : List UInt8) (h : Closed a) : Closed (healL a) := fun l m e => by
  obtain ⟨l2, m2, h1, h2⟩ := healL_split38 a l m e
  rw [h2]
  exact healL_ng m2 (h l2 m2 h1)
end Go.Proofs.YtoacojkmclngmaaGreatDoor.Pz
/- Words for texts byte by byte. -/
namespace Go.Proofs.YtoacojkmclngmaaGreatDoor.Pz
open Go.RowKit Go.Proofs.YtoacojkmclngmaaGreatDoorW.PrintWords Go.Proofs.YtoacojkmclngmaaGreatDoorW.PrintLast Go.Proofs.YtoacojkmclngmaaGreatDoorW.PrintMore
set_option linter.unusedVariables false
set_option linter.unusedSimpArgs false
theorem bt_of {s : ByteArray} {l m : List UInt8} {c : UInt8} (h : s.data.toList = l ++ c :: m) : bt s (l.length : Int) = (c.toNat : Int) := by
  have hlt : l.length < s.size := by rw [← len_list, h]; simp
  rw [bt_list s l.length hlt]
  simp [h]
theorem bt_of0 {s : ByteArray} {m : List UInt8} {c : UInt8} (h : s.data.toList = c :: m) : bt s 0 = (c.toNat : Int) := bt_of (l := []) h
theorem next_id (v : ByteArray) (sh : Bool) (h : 0 < v.size) : scan_reader_next.f v sh = some (bt v 0, v, sh) := by
  rcases next_tot v sh with ⟨h0, _⟩ | ⟨_, h1⟩
  · omega
  · exact h1
end Go.Proofs.YtoacojkmclngmaaGreatDoor.Pz
/- More text behind a text: what a reader told that did not fall short is told the same, the rest has more behind it. -/
namespace Go.Proofs.YtoacojkmclngmaaGreatDoor.Pz
open Go.RowKit Go.Proofs.YtoacojkmclngmaaGreatDoorW.PrintWords Go.Proofs.YtoacojkmclngmaaGreatDoorW.PrintLast Go.Proofs.YtoacojkmclngmaaGreatDoorW.PrintMore
set_option linter.unusedVariables false
set_option linter.unusedSimpArgs false
theorem ext_head (u t : ByteArray) (i : Nat) (h : i ≤ u.size) : (u ++ t).extract 0 i = u.extract 0 i := by
  apply ba_ext
  rw [ba_head, ba_head, ba_append, List.take_append_of_le_length (by rw [len_list]; exact h)]
theorem ext_tail (u t : ByteArray) (i : Nat) (h : i ≤ u.size) : (u ++ t).extract i (u ++ t).size = u.extract i u.size ++ t := by
  apply ba_ext
  rw [ba_tail, ba_append, ba_append, ba_tail, List.drop_append_of_le_length (by rw [len_list]; exact h)]
theorem bt_app (u t : ByteArray) (i : Nat) (h : i < u.size) : bt (u ++ t) (i : Int) = bt u (i : Int) := by
  have hsz : (u ++ t).size = u.size + t.size := ByteArray.size_append
  rw [bt_list u i h, bt_list (u ++ t) i (by omega)]
  have e : (u ++ t).data.toList = u.data.toList ++ t.data.toList := ba_append u t
  simp only [e]
  rw [List.getElem_append_left]
theorem until_ext (u t ends : ByteArray) (sh : Bool) (a b : ByteArray) (hz : u.size + t.size ≤ 1000000) (he : ends.size ≤ 100) (ha : ends.data.toList.all (fun b => decide (b.toNat < 128)) = true)
    (h : scan_reader_until.f u sh ends = some (a, b, false)) : sh = false ∧ 0 < b.size ∧ a.size + b.size = u.size ∧ scan_reader_until.f (u ++ t) false ends = some (a, b ++ t, false) := by
  have hsz : (u ++ t).size = u.size + t.size := ByteArray.size_append
  unfold scan_reader_until.f scan_anyAt.f at h ⊢
  rw [if_pos ⟨by omega, by omega, ha⟩, Option.bind_some] at h
  rw [if_pos ⟨by omega, by omega, ha⟩, Option.bind_some]
  cases hf : u.data.toList.findIdx? (fun c => ends.data.toList.contains c) with
  | none =>
    have e : anyIdx u.data.toList ends.data.toList = -1 := by unfold anyIdx; rw [hf]
    rw [e, if_pos (by decide), if_pos (by omega), if_pos (by omega)] at h
    simp at h
  | some i =>
    have hi := (List.findIdx?_eq_some_iff_getElem.1 hf).1
    rw [len_list] at hi
    have e : anyIdx u.data.toList ends.data.toList = (i : Int) := by unfold anyIdx; rw [hf]
    have e2 : anyIdx (u ++ t).data.toList ends.data.toList = (i : Int) := by
      unfold anyIdx
      rw [ba_append, List.findIdx?_append, hf]
      rfl
    rw [e, if_neg (by omega), if_pos (by omega), if_pos (by omega), Int.toNat_natCast] at h
    simp only [Option.some.injEq, Prod.mk.injEq] at h
    obtain ⟨rfl, rfl, rfl⟩ := h
    refine ⟨rfl, by rw [ByteArray.size_extract]; omega, by rw [ByteArray.size_extract, ByteArray.size_extract]; omega, ?_⟩
    rw [e2, if_neg (by omega), if_pos (by omega), if_pos (by omega), Int.toNat_natCast, ext_head u t i (by omega), ext_tail u t i (by omega)]
theorem blank_ext (u t b : ByteArray) (sh sh' : Bool) (h : scan_reader_blank.f u sh = some (b, sh')) (hb : 0 < b.size) : scan_reader_blank.f (u ++ t) sh = some (b ++ t, sh) := by
  unfold scan_reader_blank.f strings_TrimLeft.f at h ⊢
  rw [if_pos ⟨by decide, by decide⟩, Option.bind_some] at h ⊢
  simp only [Option.some.injEq, Prod.mk.injEq] at h
  obtain ⟨rfl, rfl⟩ := h
  refine congrArg (fun x => some (x, sh)) (ba_ext ?_)
  show Lib.trimLeftS (u ++ t).data.toList [9, 10, 12, 13, 32] = (Lib.trimLeftS u.data.toList [9, 10, 12, 13, 32]).toArray.toList ++ t.data.toList
  have hne : Lib.trimLeftS u.data.toList [9, 10, 12, 13, 32] ≠ [] := fun e => by
    rw [size_mk] at hb
    have e2 : Lib.trimLeftS u.data.toList (⟨#[9, 10, 12, 13, 32]⟩ : ByteArray).data.toList = [] := e
    rw [e2] at hb
    exact absurd hb (by decide)
  rw [ba_append]
  unfold Lib.trimLeftS at hne ⊢
  rw [List.dropWhile_append, if_neg (by simpa using hne)]
theorem next_ext (b t : ByteArray) (sh : Bool) (hb : 0 < b.size) : scan_reader_next.f (b ++ t) sh = some (bt b 0, b ++ t, sh) := by
  have hsz : (b ++ t).size = b.size + t.size := ByteArray.size_append
  rw [next_id (b ++ t) sh (by omega)]
  have := bt_app b t 0 hb
  simp only [Int.ofNat_zero, Int.natCast_zero] at this
  rw [show (0 : Int) = ((0 : Nat) : Int) from rfl, bt_app b t 0 hb]
theorem skip_val (u : ByteArray) (sh : Bool) (n : Nat) (h : n ≤ u.size) : scan_reader_skip.f u sh (n : Int) = some (u.extract 0 n, u.extract n u.size, sh) := by
  rw [skip_tot u sh (n : Int) (by omega), Int.toNat_natCast, Nat.min_eq_left h]
theorem skip_ext (u t : ByteArray) (sh : Bool) (n : Nat) (h : n ≤ u.size) : scan_reader_skip.f (u ++ t) sh (n : Int) = some (u.extract 0 n, u.extract n u.size ++ t, sh) := by
  have hsz : (u ++ t).size = u.size + t.size := ByteArray.size_append
  rw [skip_val (u ++ t) sh n (by omega), ext_head u t n h, ext_tail u t n h]
theorem value_ext (u t : ByteArray) (sh : Bool) (v b : ByteArray) (hz : u.size + t.size ≤ 100000) (h : scan_reader_value.f u sh = some (v, b, false)) : sh = false ∧ scan_reader_value.f (u ++ t) false = some (v, b ++ t, false) := by
  unfold scan_reader_value.f at h ⊢
  obtain ⟨b0, e0, s0⟩ := blank_tot u sh
  rw [e0, Option.bind_some] at h
  simp only at h
  rcases next_tot b0 sh with ⟨h0, e1⟩ | ⟨hp, e1⟩
  · rw [e1, Option.bind_some] at h
    simp only at h
    rw [if_neg (by decide)] at h
    simp at h
  · have e0' := blank_ext u t b0 sh sh e0 hp
    rw [e1, Option.bind_some] at h
    simp only at h
    by_cases h61 : bt b0 0 = 61
    · rw [if_pos h61, show (1 : Int) = ((1 : Nat) : Int) from rfl, skip_val b0 sh 1 hp, Option.bind_some] at h
      simp only at h
      obtain ⟨b1, hb1⟩ : ∃ b1, b1 = b0.extract 1 b0.size := ⟨_, rfl⟩
      have hs1 : b1.size = b0.size - 1 := by rw [hb1, ByteArray.size_extract]; omega
      rw [← hb1] at h
      obtain ⟨b2, e2, s2⟩ := blank_tot b1 sh
      rw [e2, Option.bind_some] at h
      simp only at h
      rcases next_tot b2 sh with ⟨h0, e3⟩ | ⟨hp2, e3⟩
      · rw [e3, Option.bind_some] at h
        simp only at h
        rw [if_neg (by decide), if_neg (by decide)] at h
        obtain ⟨q, hq, h⟩ := Option.bind_eq_some_iff.1 h
        obtain ⟨x, hx, h⟩ := Option.bind_eq_some_iff.1 h
        obtain ⟨y, hy, h⟩ := Option.bind_eq_some_iff.1 h
        simp only [Option.some.injEq, Prod.mk.injEq] at h
        obtain ⟨q1, q2, q3⟩ := q
        simp only at h
        rw [h.2.2] at hq
        have := until_ext b2 t spacesGt true q1 q2 (by omega) (by decide) (by decide) hq
        cases this.1
      · have e2' := blank_ext b1 t b2 sh sh e2 hp2
        rw [e3, Option.bind_some] at h
        simp only at h
        have hb2sz : (b2 ++ t).size = b2.size + t.size := ByteArray.size_append
        by_cases hqt : bt b2 0 = 34 ∨ bt b2 0 = 39
        · rw [if_pos hqt, skip_val b2 sh 1 hp2, Option.bind_some] at h
          simp only at h
          have hm1 : min 1 b2.size = 1 := by omega
          have hm2 : min 1 (b2 ++ t).size = 1 := by omega
          rw [hm1] at h
          obtain ⟨b3, hb3⟩ : ∃ b3, b3 = b2.extract 1 b2.size := ⟨_, rfl⟩
          have hs3 : b3.size = b2.size - 1 := by rw [hb3, ByteArray.size_extract]; omega
          rw [← hb3] at h
          obtain ⟨q, hq, h⟩ := Option.bind_eq_some_iff.1 h
          obtain ⟨q1, q2, q3⟩ := q
          simp only at h
          obtain ⟨y, hy, h⟩ := Option.bind_eq_some_iff.1 h
          obtain ⟨x, hx, h⟩ := Option.bind_eq_some_iff.1 h
          obtain ⟨d, hd, h⟩ := Option.bind_eq_some_iff.1 h
          simp only [Option.some.injEq, Prod.mk.injEq] at h
          obtain ⟨rfl, rfl, hy3⟩ := h
          have hasc := ascii_head b2 hp2 (by rcases hqt with e | e <;> omega)
          rw [hm1] at hasc
          have hy3' : q3 = false := by
            rw [skip_tot q2 q3 _ (by decide)] at hy
            obtain rfl := Option.some.inj hy
            exact hy3
          subst hy3'
          obtain ⟨rfl, hq2, _, hu⟩ := until_ext b3 t _ sh q1 q2 (by omega) (by rw [ByteArray.size_extract]; omega) hasc hq
          refine ⟨rfl, ?_⟩
          rw [skip_val q2 false 1 hq2] at hy
          obtain rfl := Option.some.inj hy
          rw [e0', Option.bind_some]
          simp only
          rw [next_ext b0 t false hp, Option.bind_some]
          simp only
          rw [if_pos h61, show (1 : Int) = ((1 : Nat) : Int) from rfl, skip_ext b0 t false 1 hp, ← hb1, Option.bind_some]
          simp only
          rw [e2', Option.bind_some]
          simp only
          rw [next_ext b2 t false hp2, Option.bind_some]
          simp only
          rw [if_pos hqt, skip_ext b2 t false 1 hp2, ← hb3, Option.bind_some]
          simp only
          rw [hm2, ext_head b2 t 1 hp2, hu, Option.bind_some]
          simp only
          rw [skip_ext q2 t false 1 hq2, Option.bind_some, hx, Option.bind_some, hd, Option.bind_some]
        · rw [if_neg hqt] at h
          by_cases h62 : bt b2 0 = 62
          · rw [if_pos h62] at h
            simp only [Option.some.injEq, Prod.mk.injEq] at h
            obtain ⟨rfl, rfl, rfl⟩ := h
            refine ⟨rfl, ?_⟩
            rw [e0', Option.bind_some]
            simp only
            rw [next_ext b0 t false hp, Option.bind_some]
            simp only
            rw [if_pos h61, show (1 : Int) = ((1 : Nat) : Int) from rfl, skip_ext b0 t false 1 hp, ← hb1, Option.bind_some]
            simp only
            rw [e2', Option.bind_some]
            simp only
            rw [next_ext b2 t false hp2, Option.bind_some]
            simp only
            rw [if_neg hqt, if_pos h62]
          · rw [if_neg h62] at h
            obtain ⟨q, hq, h⟩ := Option.bind_eq_some_iff.1 h
            obtain ⟨x, hx, h⟩ := Option.bind_eq_some_iff.1 h
            obtain ⟨y, hy, h⟩ := Option.bind_eq_some_iff.1 h
            obtain ⟨q1, q2, q3⟩ := q
            simp only [Option.some.injEq, Prod.mk.injEq] at h
            obtain ⟨rfl, rfl, rfl⟩ := h
            obtain ⟨rfl, hq2, _, hu⟩ := until_ext b2 t spacesGt sh q1 q2 (by omega) (by decide) (by decide) hq
            refine ⟨rfl, ?_⟩
            rw [e0', Option.bind_some]
            simp only
            rw [next_ext b0 t false hp, Option.bind_some]
            simp only
            rw [if_pos h61, show (1 : Int) = ((1 : Nat) : Int) from rfl, skip_ext b0 t false 1 hp, ← hb1, Option.bind_some]
            simp only
            rw [e2', Option.bind_some]
            simp only
            rw [next_ext b2 t false hp2, Option.bind_some]
            simp only
            rw [if_neg hqt, if_neg h62, hu, Option.bind_some]
            simp only at hx
            simp only
            rw [hx, Option.bind_some, hy, Option.bind_some]
    · rw [if_neg h61] at h
      simp only [Option.some.injEq, Prod.mk.injEq] at h
      obtain ⟨rfl, rfl, rfl⟩ := h
      refine ⟨rfl, ?_⟩
      rw [e0', Option.bind_some]
      simp only
      rw [next_ext b0 t false hp, Option.bind_some]
      simp only
      rw [if_neg h61]
theorem attr_ext (u t : ByteArray) (sh : Bool) (n v b : ByteArray) (hz : u.size + t.size ≤ 100000) (hp : 0 < u.size) (h : scan_reader_attr.f u sh = some (n, v, b, false)) : sh = false ∧ scan_reader_attr.f (u ++ t) false = some (n, v, b ++ t, false) := by
  unfold scan_reader_attr.f at h ⊢
  rw [show (1 : Int) = ((1 : Nat) : Int) from rfl, skip_val u sh 1 hp, Option.bind_some] at h
  simp only at h
  obtain ⟨b1, hb1⟩ : ∃ b1, b1 = u.extract 1 u.size := ⟨_, rfl⟩
  have hs1 : b1.size = u.size - 1 := by rw [hb1, ByteArray.size_extract]; omega
  rw [← hb1] at h
  obtain ⟨q, hq, h⟩ := Option.bind_eq_some_iff.1 h
  obtain ⟨q1, q2, q3⟩ := q
  simp only at h
  split at h
  case isFalse => cases h
  rename_i hsz
  obtain ⟨x, hx, h⟩ := Option.bind_eq_some_iff.1 h
  obtain ⟨y, hy, h⟩ := Option.bind_eq_some_iff.1 h
  obtain ⟨y1, y2, y3⟩ := y
  simp only [Option.some.injEq, Prod.mk.injEq] at h
  obtain ⟨rfl, rfl, rfl, rfl⟩ := h
  have hq2 : q2.size ≤ b1.size := by
    obtain ⟨a', b', sh', e, s⟩ := until_tot b1 sh ⟨#[9, 10, 12, 13, 32, 47, 62, 61]⟩ (by omega) (by decide) (by decide)
    rw [hq] at e
    simp only [Option.some.injEq, Prod.mk.injEq] at e
    rw [e.2.1]; omega
  obtain ⟨rfl, hv⟩ := value_ext q2 t q3 y1 y2 (by omega) hy
  obtain ⟨rfl, hq0, _, hu⟩ := until_ext b1 t _ sh q1 q2 (by omega) (by decide) (by decide) hq
  refine ⟨rfl, ?_⟩
  rw [show (1 : Int) = ((1 : Nat) : Int) from rfl, skip_ext u t false 1 hp, ← hb1, Option.bind_some]
  simp only
  rw [hu, Option.bind_some]
  simp only
  rw [if_pos hsz, hx, Option.bind_some, hv, Option.bind_some]
theorem begins_val (s w : ByteArray) (h : s.size ≤ 1000000) : scan_begins.f s w = some (beginsV s w) := begins_f s w (by omega)
theorem beginsV_ext (s t w : ByteArray) (h : w.size ≤ s.size) : beginsV (s ++ t) w = beginsV s w := by
  have hsz : (s ++ t).size = s.size + t.size := ByteArray.size_append
  unfold beginsV
  rw [ext_head s t w.size h, decide_eq_true h, decide_eq_true (by omega : w.size ≤ (s ++ t).size)]
theorem tagGo_ext (name t : ByteArray) : ∀ (k : Nat) (u : ByteArray) (sh : Bool) (attrs : List S36) (kd : Int) (nm dt : ByteArray) (ats : List S36) (sf : Bool) (b : ByteArray), u.size + t.size ≤ 100000 →
    tagGo name k u sh attrs = some (kd, nm, dt, ats, sf, b, false) → sh = false ∧ ∀ d, tagGo name (k + d) (u ++ t) false attrs = some (kd, nm, dt, ats, sf, b ++ t, false)
  | 0, _, _, _, _, _, _, _, _, _, _, h => by unfold tagGo at h; cases h
  | k + 1, u, sh, attrs, kd, nm, dt, ats, sf, b, hz, h => by
    unfold tagGo at h
    cases sh with
    | true => rw [if_pos rfl] at h; simp at h
    | false =>
      refine ⟨rfl, fun d => ?_⟩
      rw [show k + 1 + d = (k + d) + 1 by omega]
      rw [if_neg (by decide)] at h
      unfold tagGo
      rw [if_neg (by decide)]
      obtain ⟨b0, e0, s0⟩ := blank_tot u false
      rw [e0, Option.bind_some] at h
      simp only at h
      rcases next_tot b0 false with ⟨h0, e1⟩ | ⟨hp, e1⟩
      · rw [e1, Option.bind_some] at h
        simp only at h
        rw [if_pos trivial] at h
        have := (tagGo_ext name t k b0 true attrs kd nm dt ats sf b (by omega) h).1
        cases this
      · rw [blank_ext u t b0 false false e0 hp, Option.bind_some]
        simp only
        rw [next_ext b0 t false hp, Option.bind_some]
        simp only
        rw [e1, Option.bind_some] at h
        simp only at h
        rw [if_neg (by decide)] at h ⊢
        have hbsz : (b0 ++ t).size = b0.size + t.size := ByteArray.size_append
        by_cases h62 : bt b0 0 = 62
        · rw [if_pos h62, show (1 : Int) = ((1 : Nat) : Int) from rfl, skip_val b0 false 1 hp, Option.bind_some] at h
          rw [if_pos h62, show (1 : Int) = ((1 : Nat) : Int) from rfl, skip_ext b0 t false 1 hp, Option.bind_some]
          simp only [Option.some.injEq, Prod.mk.injEq] at h
          obtain ⟨rfl, rfl, rfl, rfl, rfl, rfl, _⟩ := h
          rfl
        · rw [if_neg h62, begins_val b0 _ (by omega), Option.bind_some] at h
          rw [if_neg h62, begins_val (b0 ++ t) _ (by omega), Option.bind_some]
          have hw : (⟨#[47, 62]⟩ : ByteArray).size = 2 := rfl
          by_cases h2 : 2 ≤ b0.size
          · rw [beginsV_ext b0 t _ (by omega)]
            by_cases hbg : beginsV b0 ⟨#[47, 62]⟩ = true
            · rw [if_pos hbg, show (2 : Int) = ((2 : Nat) : Int) from rfl, skip_val b0 false 2 h2, Option.bind_some] at h
              rw [if_pos hbg, show (2 : Int) = ((2 : Nat) : Int) from rfl, skip_ext b0 t false 2 h2, Option.bind_some]
              simp only [Option.some.injEq, Prod.mk.injEq] at h
              obtain ⟨rfl, rfl, rfl, rfl, rfl, rfl, _⟩ := h
              rfl
            · rw [if_neg hbg] at h ⊢
              by_cases h47 : bt b0 0 = 47
              · rw [if_pos h47, show (1 : Int) = ((1 : Nat) : Int) from rfl, skip_val b0 false 1 hp, Option.bind_some] at h
                rw [if_pos h47, show (1 : Int) = ((1 : Nat) : Int) from rfl, skip_ext b0 t false 1 hp, Option.bind_some]
                simp only at h ⊢
                have hs1 : (b0.extract 1 b0.size).size = b0.size - 1 := by rw [ByteArray.size_extract]; omega
                have f1 : ((b0.extract 1 b0.size).toList == ([] : List UInt8)) = false := by
                  cases hh : ((b0.extract 1 b0.size).toList == ([] : List UInt8)) with
                  | false => rfl
                  | true =>
                    have := (toList_nil _).1 (by simpa using hh)
                    omega
                have f2 : ((b0.extract 1 b0.size ++ t).toList == ([] : List UInt8)) = false := by
                  cases hh : ((b0.extract 1 b0.size ++ t).toList == ([] : List UInt8)) with
                  | false => rfl
                  | true =>
                    have := (toList_nil _).1 (by simpa using hh)
                    rw [ByteArray.size_append] at this
                    omega
                rw [f1] at h
                rw [f2]
                exact (tagGo_ext name t k _ false attrs kd nm dt ats sf b (by omega) h).2 d
              · rw [if_neg h47] at h ⊢
                obtain ⟨q, hq, h⟩ := Option.bind_eq_some_iff.1 h
                obtain ⟨q1, q2, q3, q4⟩ := q
                simp only at h
                split at h
                case isFalse => cases h
                rename_i hsz
                have hq3 : q3.size ≤ b0.size := by
                  obtain ⟨n', v', b', sh', e, s, _⟩ := attr_tot b0 false (by omega) hp
                  rw [hq] at e
                  simp only [Option.some.injEq, Prod.mk.injEq] at e
                  rw [e.2.2.1]; omega
                have hq4 : q4 = false := by
                  split at h
                  · exact (tagGo_ext name t k _ q4 _ kd nm dt ats sf b (by omega) h).1
                  · exact (tagGo_ext name t k _ q4 _ kd nm dt ats sf b (by omega) h).1
                subst hq4
                rw [(attr_ext b0 t false q1 q2 q3 (by omega) hp hq).2, Option.bind_some]
                simp only
                rw [if_pos hsz]
                by_cases hc : (attrs.any (fun y => decide (y.f0 = q1))) = false ∧ false = false
                · rw [if_pos hc] at h
                  rw [if_pos ⟨hc.1, trivial⟩]
                  exact (tagGo_ext name t k _ false _ kd nm dt ats sf b (by omega) h).2 d
                · rw [if_neg hc] at h
                  rw [if_neg (fun c => hc ⟨c.1, rfl⟩)]
                  exact (tagGo_ext name t k _ false _ kd nm dt ats sf b (by omega) h).2 d
          · have hb1 : b0.size = 1 := by omega
            have hbg : beginsV b0 ⟨#[47, 62]⟩ = false := by
              unfold beginsV
              rw [hw, decide_eq_false h2]; rfl
            rw [hbg, if_neg (by decide)] at h
            by_cases h47 : bt b0 0 = 47
            · rw [if_pos h47, show (1 : Int) = ((1 : Nat) : Int) from rfl, skip_val b0 false 1 hp, Option.bind_some] at h
              simp only at h
              have hs1 : (b0.extract 1 b0.size).size = 0 := by rw [ByteArray.size_extract]; omega
              have f1 : ((b0.extract 1 b0.size).toList == ([] : List UInt8)) = true := by
                have := (toList_nil _).2 hs1
                simp [this]
              rw [f1] at h
              have := (tagGo_ext name t k _ true attrs kd nm dt ats sf b (by omega) h).1
              cases this
            · rw [if_neg h47] at h
              have hng : beginsV (b0 ++ t) ⟨#[47, 62]⟩ = false := by
                cases hh : beginsV (b0 ++ t) ⟨#[47, 62]⟩ with
                | false => rfl
                | true =>
                  exfalso
                  unfold beginsV at hh
                  simp only [Bool.and_eq_true, decide_eq_true_eq, beq_iff_eq] at hh
                  obtain ⟨g1, g2⟩ := hh
                  rw [Lib.toList_data, Lib.toList_data] at g2
                  have g3 : ((b0 ++ t).extract 0 2).data.toList.map low = [47, 62] := g2
                  rw [ba_head, ba_append] at g3
                  have hl : b0.data.toList.length = 1 := by rw [len_list]; exact hb1
                  match hm : b0.data.toList, hl with
                  | [c], _ =>
                    rw [hm] at g3
                    have hc : bt b0 0 = (c.toNat : Int) := bt_of0 hm
                    simp at g3
                    have g4 : low c = 47 := g3.1
                    have key : ∀ n : Fin 256, low (UInt8.ofNat n.val) = 47 → UInt8.ofNat n.val = 47 := by decide +kernel
                    have := key ⟨c.toNat, c.toNat_lt⟩ (by simpa using g4)
                    have e : UInt8.ofNat c.toNat = c := by simp
                    simp only [e] at this
                    exact h47 (by rw [hc, this]; rfl)
              rw [hng, if_neg (by decide), if_neg h47]
              obtain ⟨q, hq, h⟩ := Option.bind_eq_some_iff.1 h
              obtain ⟨q1, q2, q3, q4⟩ := q
              simp only at h
              split at h
              case isFalse => cases h
              rename_i hsz
              have hq3 : q3.size ≤ b0.size := by
                obtain ⟨n', v', b', sh', e, s, _⟩ := attr_tot b0 false (by omega) hp
                rw [hq] at e
                simp only [Option.some.injEq, Prod.mk.injEq] at e
                rw [e.2.2.1]; omega
              have hq4 : q4 = false := by
                split at h
                · exact (tagGo_ext name t k _ q4 _ kd nm dt ats sf b (by omega) h).1
                · exact (tagGo_ext name t k _ q4 _ kd nm dt ats sf b (by omega) h).1
              subst hq4
              rw [(attr_ext b0 t false q1 q2 q3 (by omega) hp hq).2, Option.bind_some]
              simp only
              rw [if_pos hsz]
              by_cases hc : (attrs.any (fun y => decide (y.f0 = q1))) = false ∧ false = false
              · rw [if_pos hc] at h
                rw [if_pos ⟨hc.1, trivial⟩]
                exact (tagGo_ext name t k _ false _ kd nm dt ats sf b (by omega) h).2 d
              · rw [if_neg hc] at h
                rw [if_neg (fun c => hc ⟨c.1, rfl⟩)]
                exact (tagGo_ext name t k _ false _ kd nm dt ats sf b (by omega) h).2 d
theorem tag_ext (u t : ByteArray) (sh : Bool) (kd : Int) (nm dt : ByteArray) (ats : List S36) (sf : Bool) (b : ByteArray) (hz : u.size + t.size ≤ 100000)
    (h : scan_reader_tag.f u sh = some (kd, nm, dt, ats, sf, b, false)) : sh = false ∧ scan_reader_tag.f (u ++ t) false = some (kd, nm, dt, ats, sf, b ++ t, false) := by
  unfold scan_reader_tag.f at h ⊢
  obtain ⟨q, hq, h⟩ := Option.bind_eq_some_iff.1 h
  obtain ⟨x, hx, h⟩ := Option.bind_eq_some_iff.1 h
  obtain ⟨q1, q2, q3⟩ := q
  simp only at hx h
  have hq2 : q2.size ≤ u.size := by
    obtain ⟨a', b', sh', e, s⟩ := until_tot u sh ⟨#[9, 10, 12, 13, 32, 47, 62]⟩ (by omega) (by decide) (by decide)
    rw [hq] at e
    simp only [Option.some.injEq, Prod.mk.injEq] at e
    rw [e.2.1]; omega
  obtain ⟨rfl, hg⟩ := tagGo_ext x t _ q2 q3 [] kd nm dt ats sf b (by omega) h
  obtain ⟨rfl, hq0, _, hu⟩ := until_ext u t _ sh q1 q2 (by omega) (by decide) (by decide) hq
  refine ⟨rfl, ?_⟩
  rw [hu, Option.bind_some]
  simp only
  rw [hx, Option.bind_some, ByteArray.size_append, show q2.size + t.size + 2 = q2.size + 2 + t.size by omega]
  exact hg t.size
theorem remark_ext (u t : ByteArray) (sh : Bool) (kd : Int) (nm dt : ByteArray) (ats : List S36) (sf : Bool) (b : ByteArray) (hz : u.size + t.size ≤ 100000)
    (h : scan_reader_remark.f u sh = some (kd, nm, dt, ats, sf, b, false)) : sh = false ∧ scan_reader_remark.f (u ++ t) false = some (kd, nm, dt, ats, sf, b ++ t, false) := by
  unfold scan_reader_remark.f at h ⊢
  obtain ⟨q, hq, h⟩ := Option.bind_eq_some_iff.1 h
  obtain ⟨x, hx, h⟩ := Option.bind_eq_some_iff.1 h
  obtain ⟨y, hy, h⟩ := Option.bind_eq_some_iff.1 h
  obtain ⟨q1, q2, q3⟩ := q
  simp only at hx hy
  rw [skip_tot q2 q3 1 (by decide)] at hy
  obtain rfl := Option.some.inj hy
  simp only [Option.some.injEq, Prod.mk.injEq] at h
  obtain ⟨rfl, rfl, rfl, rfl, rfl, rfl, rfl⟩ := h
  obtain ⟨rfl, hq0, _, hu⟩ := until_ext u t _ sh q1 q2 (by omega) (by decide) (by decide) hq
  refine ⟨rfl, ?_⟩
  have hm : min 1 q2.size = 1 := by omega
  rw [hu, Option.bind_some]
  simp only
  rw [hx, Option.bind_some, show (1 : Int) = ((1 : Nat) : Int) from rfl, skip_ext q2 t false 1 hq0, Option.bind_some]
  simp only [Int.toNat_natCast]
  rw [hm]
theorem doctype_ext (u t : ByteArray) (sh : Bool) (kd : Int) (nm dt : ByteArray) (ats : List S36) (sf : Bool) (b : ByteArray) (hz : u.size + t.size ≤ 100000)
    (h : scan_reader_doctype.f u sh = some (kd, nm, dt, ats, sf, b, false)) : sh = false ∧ scan_reader_doctype.f (u ++ t) false = some (kd, nm, dt, ats, sf, b ++ t, false) := by
  unfold scan_reader_doctype.f at h ⊢
  obtain ⟨q, hq, h1⟩ := Option.bind_eq_some_iff.1 h
  obtain ⟨x, hx, h2⟩ := Option.bind_eq_some_iff.1 h1
  obtain ⟨y, hy, h3⟩ := Option.bind_eq_some_iff.1 h2
  clear h h1 h2
  have h := h3
  clear h3
  obtain ⟨q1, q2, q3⟩ := q
  simp only at hx hy
  rw [skip_tot q2 q3 1 (by decide)] at hy
  obtain rfl := Option.some.inj hy
  simp only at h
  have hq3 : q3 = false := by
    split at h
    · obtain ⟨z, hzz, h⟩ := Option.bind_eq_some_iff.1 h
      simp only [Option.some.injEq, Prod.mk.injEq] at h
      exact h.2.2.2.2.2.2
    · simp only [Option.some.injEq, Prod.mk.injEq] at h
      exact h.2.2.2.2.2.2
  subst hq3
  obtain ⟨rfl, hq0, _, hu⟩ := until_ext u t _ sh q1 q2 (by omega) (by decide) (by decide) hq
  refine ⟨rfl, ?_⟩
  have hm : min (1 : Int).toNat q2.size = 1 := by show min 1 q2.size = 1; omega
  rw [hu, Option.bind_some]
  simp only
  rw [hx, Option.bind_some, show (1 : Int) = ((1 : Nat) : Int) from rfl, skip_ext q2 t false 1 hq0, Option.bind_some]
  rw [hm] at h
  simp only
  split at h
  · rename_i hl
    rw [if_pos hl, if_pos hl]
    obtain ⟨z, hzz, h⟩ := Option.bind_eq_some_iff.1 h
    simp only [Option.some.injEq, Prod.mk.injEq] at h
    obtain ⟨rfl, rfl, rfl, rfl, rfl, rfl, _⟩ := h
    rw [hzz, Option.bind_some]
  · rename_i hl
    rw [if_neg hl]
    simp only [Option.some.injEq, Prod.mk.injEq] at h
    obtain ⟨rfl, rfl, rfl, rfl, rfl, rfl, _⟩ := h
    rfl
theorem occ_app (s sub t : List UInt8) (i : Nat) (h : i + sub.length ≤ s.length) : Lib.occAt (s ++ t) sub i = Lib.occAt s sub i := by
  unfold Lib.occAt
  rw [List.drop_append_of_le_length (by omega)]
  cases hh : sub.isPrefixOf (s.drop i) with
  | true =>
    rw [List.isPrefixOf_iff_prefix] at hh ⊢
    exact hh.trans (List.prefix_append _ _)
  | false =>
    cases h2 : sub.isPrefixOf (s.drop i ++ t) with
    | false => rfl
    | true =>
      rw [List.isPrefixOf_iff_prefix] at h2
      have h3 := List.prefix_of_prefix_length_le h2 (List.prefix_append (s.drop i) t) (by rw [List.length_drop]; omega)
      rw [← List.isPrefixOf_iff_prefix, hh] at h3
      cases h3
theorem index_app (s sub t : List UInt8) (i : Nat) (h : Lib.index s sub = i) : Lib.index (s ++ t) sub = i := by
  have hr := Lib.index_room s sub (by omega)
  rcases Lib.index_spec s sub with ⟨e, _⟩ | ⟨j, e, hj, ho, hn⟩
  · omega
  · have : j = i := by omega
    subst this
    refine Lib.index_first (by rw [List.length_append]; omega) (by rw [occ_app _ _ _ _ (by omega)]; exact ho) (fun k hk => ?_)
    rw [occ_app _ _ _ _ (by omega)]
    exact hn k hk
theorem index_new (s sub t : List UInt8) (h : Lib.index s sub < 0) (h2 : 0 ≤ Lib.index (s ++ t) sub) : (s.length : Int) < Lib.index (s ++ t) sub + sub.length := by
  rcases Lib.index_spec (s ++ t) sub with ⟨e, _⟩ | ⟨j, e, hj, ho, hn⟩
  · omega
  · rw [e]
    rcases Nat.lt_or_ge s.length (j + sub.length) with hlt | hge
    · omega
    · rw [occ_app _ _ _ _ hge] at ho
      rcases Lib.index_spec s sub with ⟨e2, hno⟩ | ⟨k, e2, _⟩
      · rw [hno j (by omega)] at ho; cases ho
      · omega
theorem index_at (s sub : List UInt8) (h : 0 ≤ Lib.index s sub) : Lib.occAt s sub (Lib.index s sub).toNat = true := by
  rcases Lib.index_spec s sub with ⟨e, _⟩ | ⟨j, e, hj, ho, hn⟩
  · omega
  · rw [e, Int.toNat_natCast]; exact ho
theorem occ_two (s : List UInt8) (i : Nat) (h1 : Lib.occAt s [45, 45, 62] i = true) (h2 : Lib.occAt s [45, 45, 33, 62] i = true) : False := by
  unfold Lib.occAt at h1 h2
  match hm : s.drop i with
  | [] => rw [hm] at h1; simp [List.isPrefixOf] at h1
  | [a] => rw [hm] at h1; simp [List.isPrefixOf] at h1
  | [a, b] => rw [hm] at h1; simp [List.isPrefixOf] at h1
  | a :: b :: c :: m =>
    rw [hm] at h1 h2
    simp [List.isPrefixOf] at h1 h2
    have := h1.2.2.trans h2.2.2.1.symm
    exact absurd this (by decide)
theorem cut_ext (u t : ByteArray) (sh : Bool) (i n : Nat) (hi : i + n ≤ u.size) (kd : Int) (nm dt : ByteArray) (ats : List S36) (sf : Bool) (b : ByteArray)
    (h : commentCut u sh (i : Int) (n : Int) = some (kd, nm, dt, ats, sf, b, false)) : sh = false ∧ commentCut (u ++ t) false (i : Int) (n : Int) = some (kd, nm, dt, ats, sf, b ++ t, false) := by
  unfold commentCut at h ⊢
  rw [skip_val u sh i (by omega), Option.bind_some] at h
  simp only at h
  obtain ⟨x, hx, h⟩ := Option.bind_eq_some_iff.1 h
  have hs : (u.extract i u.size).size = u.size - i := by rw [ByteArray.size_extract]; omega
  rw [skip_val _ sh n (by omega), Option.bind_some] at h
  simp only [Option.some.injEq, Prod.mk.injEq] at h
  obtain ⟨rfl, rfl, rfl, rfl, rfl, rfl, rfl⟩ := h
  refine ⟨rfl, ?_⟩
  rw [skip_ext u t false i (by omega), Option.bind_some]
  simp only
  rw [hx, Option.bind_some, skip_ext _ t false n (by omega), Option.bind_some]
theorem prefix_app (u t : ByteArray) (p : List UInt8) (h : p.length ≤ u.size) : Lib.hasPrefix (u ++ t).data.toList p = Lib.hasPrefix u.data.toList p := by
  have := occ_app u.data.toList p t.data.toList 0 (by rw [len_list]; omega)
  unfold Lib.occAt at this
  rw [List.drop_zero, List.drop_zero] at this
  rw [ba_append]
  exact this
theorem comment_ext (u t : ByteArray) (sh : Bool) (kd : Int) (nm dt : ByteArray) (ats : List S36) (sf : Bool) (b : ByteArray) (hz : u.size + t.size ≤ 100000)
    (h : scan_reader_comment.f u sh = some (kd, nm, dt, ats, sf, b, false)) : sh = false ∧ scan_reader_comment.f (u ++ t) false = some (kd, nm, dt, ats, sf, b ++ t, false) := by
  have hsz : (u ++ t).size = u.size + t.size := ByteArray.size_append
  have hpf1 : ∀ x : ByteArray, strings_HasPrefix.f x (⟨#[62]⟩ : ByteArray) = some (Lib.hasPrefix x.data.toList [62]) := fun _ => rfl
  have hpf2 : ∀ x : ByteArray, strings_HasPrefix.f x (⟨#[45, 62]⟩ : ByteArray) = some (Lib.hasPrefix x.data.toList [45, 62]) := fun _ => rfl
  have hix : ∀ (x : ByteArray) (p : ByteArray), x.size ≤ 100000 → strings_Index.f x p = some (Lib.index x.data.toList p.data.toList) := fun x p hx => by
    unfold strings_Index.f; rw [if_pos (by omega)]
  unfold scan_reader_comment.f at h ⊢
  rw [if_pos (by omega), hpf1, Option.bind_some] at h
  rw [if_pos (by omega), hpf1, Option.bind_some]
  by_cases h1 : Lib.hasPrefix u.data.toList [62] = true
  · have hp := prefix_size u _ h1
    rw [if_pos h1, show (1 : Int) = ((1 : Nat) : Int) from rfl, skip_val u sh 1 hp, Option.bind_some] at h
    simp only [Option.some.injEq, Prod.mk.injEq] at h
    obtain ⟨rfl, rfl, rfl, rfl, rfl, rfl, rfl⟩ := h
    refine ⟨rfl, ?_⟩
    rw [if_pos (by rw [prefix_app u t _ hp]; exact h1), show (1 : Int) = ((1 : Nat) : Int) from rfl, skip_ext u t false 1 hp, Option.bind_some]
  · rw [if_neg h1] at h
    unfold comment1 at h ⊢
    rw [hpf2, Option.bind_some] at h
    by_cases h2 : Lib.hasPrefix u.data.toList [45, 62] = true
    · have hp := prefix_size u _ h2
      have hp2 : 2 ≤ u.size := hp
      rw [if_pos h2, show (2 : Int) = ((2 : Nat) : Int) from rfl, skip_val u sh 2 hp2, Option.bind_some] at h
      simp only [Option.some.injEq, Prod.mk.injEq] at h
      obtain ⟨rfl, rfl, rfl, rfl, rfl, rfl, rfl⟩ := h
      refine ⟨rfl, ?_⟩
      rw [if_neg (by rw [prefix_app u t _ (by show 1 ≤ u.size; omega)]; exact h1), hpf2, Option.bind_some, if_pos (by rw [prefix_app u t _ hp]; exact h2), show (2 : Int) = ((2 : Nat) : Int) from rfl, skip_ext u t false 2 hp2, Option.bind_some]
    · rw [if_neg h2] at h
      unfold commentRest at h ⊢
      rw [hix u _ (by omega), hix u _ (by omega), Option.bind_some, Option.bind_some] at h
      have e3 : (⟨#[45, 45, 62]⟩ : ByteArray).data.toList = [45, 45, 62] := rfl
      have e4 : (⟨#[45, 45, 33, 62]⟩ : ByteArray).data.toList = [45, 45, 33, 62] := rfl
      rw [e3, e4] at h
      have r1 := Lib.index_room u.data.toList [45, 45, 62]
      have r2 := Lib.index_room u.data.toList [45, 45, 33, 62]
      have l3 : ([45, 45, 62] : List UInt8).length = 3 := rfl
      have l4 : ([45, 45, 33, 62] : List UInt8).length = 4 := rfl
      rw [l3, len_list] at r1
      rw [l4, len_list] at r2
      have n1 := index_new u.data.toList [45, 45, 62] t.data.toList
      have n2 := index_new u.data.toList [45, 45, 33, 62] t.data.toList
      rw [l3, len_list] at n1
      rw [l4, len_list] at n2
      have hne1 : 3 ≤ u.size → ¬ Lib.hasPrefix (u ++ t).data.toList [62] = true := fun h3 => by rw [prefix_app u t _ (by show 1 ≤ u.size; omega)]; exact h1
      have hne2 : 3 ≤ u.size → ¬ Lib.hasPrefix (u ++ t).data.toList [45, 62] = true := fun h3 => by rw [prefix_app u t _ (by show 2 ≤ u.size; omega)]; exact h2
      by_cases hc : 0 ≤ Lib.index u.data.toList [45, 45, 62] ∧ (Lib.index u.data.toList [45, 45, 33, 62] < 0 ∨ Lib.index u.data.toList [45, 45, 62] < Lib.index u.data.toList [45, 45, 33, 62])
      · rw [if_pos hc] at h
        obtain ⟨i, hi⟩ : ∃ i : Nat, Lib.index u.data.toList [45, 45, 62] = i := ⟨(Lib.index u.data.toList [45, 45, 62]).toNat, by omega⟩
        have ha := index_app u.data.toList [45, 45, 62] t.data.toList i hi
        have hr := r1 hc.1
        rw [hi] at h hr
        obtain ⟨rfl, hcut⟩ := cut_ext u t sh i 3 (by omega) kd nm dt ats sf b h
        refine ⟨rfl, ?_⟩
        rw [if_neg (hne1 (by omega)), hpf2, Option.bind_some, if_neg (hne2 (by omega)), hix _ _ (by omega), hix _ _ (by omega), Option.bind_some, Option.bind_some, e3, e4, ba_append, ha]
        rw [if_pos ⟨by omega, by
          by_cases hlt : Lib.index (u.data.toList ++ t.data.toList) [45, 45, 33, 62] < 0
          · exact .inl hlt
          · right
            by_cases hu : Lib.index u.data.toList [45, 45, 33, 62] < 0
            · have hnn := n2 hu (by omega)
              have hne : Lib.index (u.data.toList ++ t.data.toList) [45, 45, 33, 62] ≠ (i : Int) := fun heq => by
                have o1 := index_at (u.data.toList ++ t.data.toList) [45, 45, 62] (by omega)
                have o2 := index_at (u.data.toList ++ t.data.toList) [45, 45, 33, 62] (by omega)
                rw [ha] at o1
                rw [heq] at o2
                exact occ_two _ _ o1 o2
              omega
            · obtain ⟨j, hj⟩ : ∃ j : Nat, Lib.index u.data.toList [45, 45, 33, 62] = j := ⟨(Lib.index u.data.toList [45, 45, 33, 62]).toNat, by omega⟩
              rw [index_app u.data.toList [45, 45, 33, 62] t.data.toList j hj]
              omega⟩]
        exact hcut
      · rw [if_neg hc] at h
        by_cases hd : 0 ≤ Lib.index u.data.toList [45, 45, 33, 62]
        · rw [if_pos hd] at h
          obtain ⟨j, hj⟩ : ∃ j : Nat, Lib.index u.data.toList [45, 45, 33, 62] = j := ⟨(Lib.index u.data.toList [45, 45, 33, 62]).toNat, by omega⟩
          have ha := index_app u.data.toList [45, 45, 33, 62] t.data.toList j hj
          have hr := r2 hd
          rw [hj] at h hr
          obtain ⟨rfl, hcut⟩ := cut_ext u t sh j 4 (by omega) kd nm dt ats sf b h
          refine ⟨rfl, ?_⟩
          rw [if_neg (hne1 (by omega)), hpf2, Option.bind_some, if_neg (hne2 (by omega)), hix _ _ (by omega), hix _ _ (by omega), Option.bind_some, Option.bind_some, e3, e4, ba_append, ha]
          rw [if_neg (fun hcc => by
            obtain ⟨c1, c2⟩ := hcc
            by_cases hu : Lib.index u.data.toList [45, 45, 62] < 0
            · have := n1 hu c1
              omega
            · obtain ⟨i, hi⟩ : ∃ i : Nat, Lib.index u.data.toList [45, 45, 62] = i := ⟨(Lib.index u.data.toList [45, 45, 62]).toNat, by omega⟩
              rw [index_app u.data.toList [45, 45, 62] t.data.toList i hi] at c1 c2
              exact hc ⟨by omega, by omega⟩), if_pos (by omega)]
          exact hcut
        · rw [if_neg hd] at h
          unfold commentShort at h
          rw [skip_tot u true u.size (by omega), Option.bind_some] at h
          obtain ⟨x, hx, h⟩ := Option.bind_eq_some_iff.1 h
          obtain ⟨y, hy, h⟩ := Option.bind_eq_some_iff.1 h
          simp at h
theorem low_62 : low 62 = 62 := by decide
theorem beginsV_gt (s t w : ByteArray) (hw : (62 : UInt8) ∉ w.data.toList) (hs : (62 : UInt8) ∈ s.data.toList) : beginsV (s ++ t) w = beginsV s w := by
  by_cases h : w.size ≤ s.size
  · exact beginsV_ext s t w h
  · have e1 : beginsV s w = false := by
      unfold beginsV
      rw [decide_eq_false h]; rfl
    rw [e1]
    cases hh : beginsV (s ++ t) w with
    | false => rfl
    | true =>
      exfalso
      unfold beginsV at hh
      simp only [Bool.and_eq_true, decide_eq_true_eq, beq_iff_eq] at hh
      obtain ⟨g1, g2⟩ := hh
      rw [Lib.toList_data, Lib.toList_data] at g2
      have g3 : ((s ++ t).extract 0 w.size).data.toList.map low = w.data.toList := g2
      rw [ba_head, ba_append, List.take_append, List.take_of_length_le (by rw [len_list]; omega)] at g3
      apply hw
      rw [← g3]
      exact List.mem_map.2 ⟨62, List.mem_append_left _ hs, low_62⟩
theorem until_gt (u : ByteArray) (sh : Bool) (a b : ByteArray) (hz : u.size ≤ 1000000) (h : scan_reader_until.f u sh ⟨#[62]⟩ = some (a, b, false)) : (62 : UInt8) ∈ u.data.toList := by
  unfold scan_reader_until.f scan_anyAt.f at h
  rw [if_pos ⟨by omega, by decide, by decide⟩, Option.bind_some] at h
  cases hf : u.data.toList.findIdx? (fun c => (⟨#[62]⟩ : ByteArray).data.toList.contains c) with
  | none =>
    have e : anyIdx u.data.toList (⟨#[62]⟩ : ByteArray).data.toList = -1 := by unfold anyIdx; rw [hf]
    rw [e, if_pos (by decide), if_pos (by omega), if_pos (by omega)] at h
    simp at h
  | some i =>
    obtain ⟨hi, h2, _⟩ := List.findIdx?_eq_some_iff_getElem.1 hf
    have h3 : u.data.toList[i] = 62 := by simpa using h2
    rw [← h3]
    exact List.getElem_mem hi
theorem remark_gt (u : ByteArray) (sh : Bool) (kd : Int) (nm dt : ByteArray) (ats : List S36) (sf : Bool) (b : ByteArray) (hz : u.size ≤ 100000)
    (h : scan_reader_remark.f u sh = some (kd, nm, dt, ats, sf, b, false)) : (62 : UInt8) ∈ u.data.toList := by
  unfold scan_reader_remark.f at h
  obtain ⟨q, hq, h⟩ := Option.bind_eq_some_iff.1 h
  obtain ⟨x, hx, h⟩ := Option.bind_eq_some_iff.1 h
  obtain ⟨y, hy, h⟩ := Option.bind_eq_some_iff.1 h
  obtain ⟨q1, q2, q3⟩ := q
  simp only at hx hy
  rw [skip_tot q2 q3 1 (by decide)] at hy
  obtain rfl := Option.some.inj hy
  simp only [Option.some.injEq, Prod.mk.injEq] at h
  rw [h.2.2.2.2.2.2] at hq
  exact until_gt u sh q1 q2 (by omega) hq
theorem beginsV_size {s w : ByteArray} (h : beginsV s w = true) : w.size ≤ s.size := by
  unfold beginsV at h
  simp only [Bool.and_eq_true, decide_eq_true_eq] at h
  exact h.1
theorem markup_ext (u t : ByteArray) (kd : Int) (nm dt : ByteArray) (ats : List S36) (sf : Bool) (b : ByteArray) (hz : u.size + t.size ≤ 100000) (h2 : 2 ≤ u.size) (h3 : bt u 1 = 47 → 3 ≤ u.size)
    (h : scan_reader_markup.f u false = some (kd, nm, dt, ats, sf, b, false)) : scan_reader_markup.f (u ++ t) false = some (kd, nm, dt, ats, sf, b ++ t, false) := by
  have hsz : (u ++ t).size = u.size + t.size := ByteArray.size_append
  have hb1 : bt (u ++ t) 1 = bt u 1 := bt_app u t 1 h2
  have hx : (u.extract 2 u.size).size = u.size - 2 := by rw [ByteArray.size_extract]; omega
  have hx1 : (u.extract 1 u.size).size = u.size - 1 := by rw [ByteArray.size_extract]; omega
  have hpf1 : ∀ x : ByteArray, strings_HasPrefix.f x (⟨#[62]⟩ : ByteArray) = some (Lib.hasPrefix x.data.toList [62]) := fun _ => rfl
  unfold scan_reader_markup.f at h ⊢
  rw [if_pos h2, letter_tot _ (bt_range u 1), Option.bind_some] at h
  rw [if_pos (by omega), hb1, letter_tot _ (bt_range u 1), Option.bind_some, ext_tail u t 2 h2]
  have s1 : ∀ (w : ByteArray) (sh : Bool), w = u → scan_reader_skip.f u sh 1 = some (u.extract 0 1, u.extract 1 u.size, sh) := fun _ sh _ => skip_val u sh 1 (by omega)
  have s2 : scan_reader_skip.f u false 2 = some (u.extract 0 2, u.extract 2 u.size, false) := skip_val u false 2 h2
  have s1' : scan_reader_skip.f (u ++ t) false 1 = some (u.extract 0 1, u.extract 1 u.size ++ t, false) := skip_ext u t false 1 (by omega)
  have s2' : scan_reader_skip.f (u ++ t) false 2 = some (u.extract 0 2, u.extract 2 u.size ++ t, false) := skip_ext u t false 2 h2
  by_cases hl : isLetter (bt u 1) = true
  · rw [if_pos hl, s1 u false rfl, Option.bind_some] at h
    rw [if_pos hl, s1', Option.bind_some]
    exact (tag_ext _ t false kd nm dt ats sf b (by (try simp only); omega) h).2
  · rw [if_neg hl] at h ⊢
    by_cases h63 : bt u 1 = 63
    · rw [if_pos h63, s1 u false rfl, Option.bind_some] at h
      rw [if_pos h63, s1', Option.bind_some]
      exact (remark_ext _ t false kd nm dt ats sf b (by (try simp only); omega) h).2
    · rw [if_neg h63] at h ⊢
      by_cases h33 : bt u 1 = 33
      · rw [if_pos h33, begins_val _ _ (by omega), Option.bind_some] at h
        rw [if_pos h33, begins_val _ _ (by rw [ByteArray.size_append]; omega), Option.bind_some]
        by_cases g1 : beginsV (u.extract 2 u.size) ⟨#[45, 45]⟩ = true
        · have hg := beginsV_size g1
          have w2 : (⟨#[45, 45]⟩ : ByteArray).size = 2 := rfl
          have h4 : 4 ≤ u.size := by omega
          have s4 : scan_reader_skip.f u false 4 = some (u.extract 0 4, u.extract 4 u.size, false) := skip_val u false 4 h4
          have s4' : scan_reader_skip.f (u ++ t) false 4 = some (u.extract 0 4, u.extract 4 u.size ++ t, false) := skip_ext u t false 4 h4
          rw [if_pos g1, s4, Option.bind_some] at h
          rw [beginsV_ext _ t _ hg, if_pos g1, s4', Option.bind_some]
          exact (comment_ext _ t false kd nm dt ats sf b (by (try simp only); rw [ByteArray.size_extract]; omega) h).2
        · rw [if_neg g1, begins_val _ _ (by omega), Option.bind_some] at h
          by_cases g2 : beginsV (u.extract 2 u.size) ⟨#[100, 111, 99, 116, 121, 112, 101]⟩ = true
          · have hg := beginsV_size g2
            have w2 : (⟨#[100, 111, 99, 116, 121, 112, 101]⟩ : ByteArray).size = 7 := rfl
            have w3 : (⟨#[45, 45]⟩ : ByteArray).size = 2 := rfl
            have h4 : 9 ≤ u.size := by omega
            have s4 : scan_reader_skip.f u false 9 = some (u.extract 0 9, u.extract 9 u.size, false) := skip_val u false 9 h4
            have s4' : scan_reader_skip.f (u ++ t) false 9 = some (u.extract 0 9, u.extract 9 u.size ++ t, false) := skip_ext u t false 9 h4
            rw [if_pos g2, s4, Option.bind_some] at h
            rw [beginsV_ext _ t _ (by omega), if_neg g1, begins_val _ _ (by rw [ByteArray.size_append]; omega), Option.bind_some, beginsV_ext _ t _ hg, if_pos g2, s4', Option.bind_some]
            exact (doctype_ext _ t false kd nm dt ats sf b (by (try simp only); rw [ByteArray.size_extract]; omega) h).2
          · rw [if_neg g2, s2, Option.bind_some] at h
            have hgt := remark_gt _ false kd nm dt ats sf b (by (try simp only); omega) h
            rw [beginsV_gt _ t _ (by decide) hgt, if_neg g1, begins_val _ _ (by rw [ByteArray.size_append]; omega), Option.bind_some, beginsV_gt _ t _ (by decide) hgt, if_neg g2, s2', Option.bind_some]
            exact (remark_ext _ t false kd nm dt ats sf b (by (try simp only); omega) h).2
      · rw [if_neg h33, s2, Option.bind_some] at h
        rw [if_neg h33, s2', Option.bind_some]
        by_cases h47 : bt u 1 = 47
        · have h3 := h3 h47
          rw [if_pos h47, hpf1, Option.bind_some] at h
          rw [if_pos h47, hpf1, Option.bind_some, prefix_app _ t [62] (by show 1 ≤ _; omega)]
          by_cases hp : Lib.hasPrefix (u.extract 2 u.size).data.toList [62] = true
          · have q1 : scan_reader_skip.f (u.extract 2 u.size) false 1 = some (_, _, false) := skip_val (u.extract 2 u.size) false 1 (by omega)
            have q2 : scan_reader_skip.f (u.extract 2 u.size ++ t) false 1 = some (_, _, false) := skip_ext (u.extract 2 u.size) t false 1 (by omega)
            rw [if_pos hp] at h ⊢
            simp only at h ⊢
            rw [q1, Option.bind_some] at h
            rw [q2, Option.bind_some]
            simp only [Option.some.injEq, Prod.mk.injEq] at h
            obtain ⟨rfl, rfl, rfl, rfl, rfl, rfl, _⟩ := h
            rfl
          · have hb2 : bt (u ++ t) 2 = bt u 2 := bt_app u t 2 h3
            rw [if_neg hp, if_pos h3, letter_tot _ (bt_range u 2), Option.bind_some] at h
            rw [if_neg hp, if_pos (by omega), hb2, letter_tot _ (bt_range u 2), Option.bind_some]
            by_cases hl2 : isLetter (bt u 2) = true
            · rw [if_pos hl2] at h ⊢
              simp only at h ⊢
              obtain ⟨r, hr, h⟩ := Option.bind_eq_some_iff.1 h
              obtain ⟨r1, r2, r3, r4, r5, r6, r7⟩ := r
              have h7 : r7 = false := by
                have := Option.some.inj h
                unfold markupEnd at this
                split at this
                · exact congrArg (fun x => x.2.2.2.2.2.2) this
                · exact congrArg (fun x => x.2.2.2.2.2.2) this
              subst h7
              have := (tag_ext _ t false r1 r2 r3 r4 r5 r6 (by (try simp only); omega) hr).2
              rw [this, Option.bind_some]
              have h := Option.some.inj h
              unfold markupEnd at h ⊢
              simp only at h ⊢
              split at h
              · rename_i hk
                rw [if_pos hk]
                simp only [Prod.mk.injEq] at h
                obtain ⟨rfl, rfl, rfl, rfl, rfl, rfl, _⟩ := h
                rfl
              · rename_i hk
                rw [if_neg hk]
                simp only [Prod.mk.injEq] at h
                obtain ⟨rfl, rfl, rfl, rfl, rfl, rfl, _⟩ := h
                rfl
            · rw [if_neg hl2] at h ⊢
              exact (remark_ext _ t false kd nm dt ats sf b (by (try simp only); omega) h).2
        · rw [if_neg h47] at h ⊢
          exact (remark_ext _ t false kd nm dt ats sf b (by (try simp only); omega) h).2
end Go.Proofs.YtoacojkmclngmaaGreatDoor.Pz
namespace Go.Proofs.YtoacojkmclngmaaGreatDoor.Pz
open Go.RowKit Go.Proofs.YtoacojkmclngmaaGreatDoorW.PrintWords Go.Proofs.YtoacojkmclngmaaGreatDoorW.PrintLast Go.Proofs.YtoacojkmclngmaaGreatDoorW.PrintMore
attribute [local go_sem] max2_int min2_int max_two min_two max_three min_three max_four min_four   -- for this text's walks alone
attribute [local go_sem] rune_str
set_option linter.unusedVariables false
set_option linter.unusedSimpArgs false
def scan_Scanner_Write.f (k : Nat) (s0_0 : ByteArray) (s0_1 : Bool) (s0_2 : ByteArray) (s0_3 : Int) (a1 : ByteArray) : Option ((List (S33)) × ByteArray × Bool × ByteArray × Int) := if s0_0.size + a1.size ≤ 9223372036854775807 then ((scan_Scanner_told.f k (s0_0 ++ a1) s0_1 s0_2 s0_3 false).bind fun bt177 => (some (bt177.1, bt177.2.1, bt177.2.2.1, bt177.2.2.2.1, bt177.2.2.2.2))) else (none)
theorem scan_Scanner_Write.mono : ∀ a0 a1 a2 a3 a4 k, LeO (scan_Scanner_Write.f k a0 a1 a2 a3 a4) (scan_Scanner_Write.f (k + 1) a0 a1 a2 a3 a4) := by
  intro a0 a1 a2 a3 a4 k
  unfold scan_Scanner_Write.f
  repeat' first
      | (with_reducible exact scan_Scanner_told.mono _ _ _ _ _ _)
      | (with_reducible exact LeO.refl _)
      | (with_reducible exact LeO.none _)
      | (with_reducible refine LeO.ite ?_ ?_)
      | (with_reducible refine LeO.bind ?_ (fun _ => ?_))
      | exact scan_Scanner_told.mono _ _ _ _ _ _
      | exact LeO.none _
      | refine LeO.ite ?_ ?_
      | refine LeO.bind ?_ (fun _ => ?_)
set_option maxHeartbeats 8000000 in
set_option maxRecDepth 100000 in
theorem scan_Scanner_Write.calls (k : Nat) (g : Nat) (s0_0 : ByteArray) (s0_1 : Bool) (s0_2 : ByteArray) (s0_3 : Int) (a1 : ByteArray) (r1 : List (S33)) (r2 : ByteArray) (r3 : Bool) (r4 : ByteArray) (r5 : Int) (w0 w : World) (hI : IsS56 w0 w g s0_0 s0_1 s0_2 s0_3) (hB : Below w0.heap.size w0 w) (hG : Glob w0) (h : scan_Scanner_Write.f k s0_0 s0_1 s0_2 s0_3 a1 = some (r1, r2, r3, r4, r5)) :
    Calls Tryz.prog 17 #[.pointer (some ⟨g, 0, none⟩), .string a1] w fun e w' => ∃ v0_ : Value, e = .returned (v0_) ∧ Kd.N k33 33 w' w.heap.size (fun k_ => (w.heap.size ≤ k_)) v0_ r1 ∧ IsS56 w0 w' g r2 r3 r4 r5 ∧ Below w0.heap.size w0 w' ∧ KeepBut w w' g none := by
  have HI0 := Aside0.mk hI
  have HK := Aside0.mk (KeepBut.refl w g none)
  have HL := Aside0.mk hB.size
  clear hI
  have HW0 := Aside0.mk hB.size
  have HB := Aside0.mk hB
  clear hB
  have H : (if s0_0.size + a1.size ≤ 9223372036854775807 then ((scan_Scanner_told.f k (s0_0 ++ a1) s0_1 s0_2 s0_3 false).bind fun bt177 => (some (bt177.1, bt177.2.1, bt177.2.2.1, bt177.2.2.2.1, bt177.2.2.2.2))) else (none)) = some (r1, r2, r3, r4, r5) := h
  clear h
  by_cases c3 : s0_0.size + a1.size ≤ 9223372036854775807
  · rw [if_pos c3] at H
    have c3b0 := eq_true c3
    have c3b1 : decide (s0_0.size + a1.size ≤ 9223372036854775807) = true := decide_eq_true c3
    try have c3b2 : (9223372036854775807 < s0_0.size + a1.size) = False := eq_false (Nat.not_lt.2 c3)
    replace H := Option.bind_eq_some_iff.mp H
    obtain ⟨⟨t177, t180, t181, t182, t183⟩, A40, H⟩ := H
    replace H : (some (t177, t180, t181, t182, t183)) = some (r1, r2, r3, r4, r5) := H
    have A4 := Aside0.mk A40
    clear A40
    simp only [Option.some.injEq, Prod.mk.injEq] at H
    obtain ⟨rfl, rfl, rfl, rfl, rfl⟩ := H
    obtain ⟨HGz5, hgz5⟩ := HI0.out
    have hcz5_0 := cellS56_0 HGz5
    have hcz5_1 := cellS56_1 HGz5
    have hcz5_2 := cellS56_2 HGz5
    have hcz5_3 := cellS56_3 HGz5
    have hfz5_0 := blk_frozen HGz5 0
    have hfz5_1 := blk_frozen HGz5 1
    have hfz5_2 := blk_frozen HGz5 2
    have hfz5_3 := blk_frozen HGz5 3
    clear HGz5 hgz5
    go_enter Tryz.func17, Tryz.ntmps17
    go_wp2_with (first | ((with_reducible refine gate_callee (f := 38) rfl ?_); refine goesL_ (some 16) rfl rfl Tryz.func38 (by kernel_rfl) rfl #[.pointer (some ⟨g, 0, none⟩), .bool false] rfl (by (try simp only [List.map_toArray, List.map_cons, List.map_nil]); first | done | rfl | (simp only [List.length_drop, List.length_take]; rfl)) ?_; (with_reducible refine (scan_Scanner_told.calls k g (s0_0 ++ a1) s0_1 s0_2 s0_3 false t177 t180 t181 t182 t183 w0 _ ?side1 ?side2 hG A4.out).mono ?_); (case side1 => repeat (first | (with_reducible first | exact HI0.out | apply IsS56.alloc | apply IsS56.drewN | apply IsS56.drew | apply IsS56.set_0 | apply IsS56.set_1 | apply IsS56.set_2 | apply IsS56.set_3) | exact HI0.out)); (case side2 => repeat (first | (with_reducible first | exact HB.out | apply below_alloc | apply pw_below_drewN | apply below_drew1 | refine below_set ?_ (IsS56.ge HI0.out)) | exact HB.out)); rintro e w6 ⟨v178, rfl, ho0, hi, hb, hk⟩; refine ⟨_, rfl, ?_⟩; have n0_ := Aside0.mk (Kd.N_lower (Kd.N_mono (ok' := fun k_ => (w.heap.size ≤ k_) ∧ k_ ≠ g) ho0 (fun k_ hk_ => ⟨(Nat.le_trans (keep_size (w := w) (g := g) (row := none) (by repeat (first | (with_reducible first | exact HK.out | apply KeepBut.set_ | apply keep_drewN | apply keep_drew | apply keep_alloc) | exact HK.out))) hk_), (IsS56.fresh (by repeat (first | (with_reducible first | exact HI0.out | apply IsS56.alloc | apply IsS56.drewN | apply IsS56.drew | apply IsS56.set_0 | apply IsS56.set_1 | apply IsS56.set_2 | apply IsS56.set_3) | exact HI0.out)) k_ hk_)⟩)) (keep_size (w := w) (g := g) (row := none) (by repeat (first | (with_reducible first | exact HK.out | apply KeepBut.set_ | apply keep_drewN | apply keep_drew | apply keep_alloc) | exact HK.out)))); have n1_ := Aside0.mk (KeepBut.trans (by repeat (first | (with_reducible first | exact HK.out | apply KeepBut.set_ | apply keep_drewN | apply keep_drew | apply keep_alloc) | exact HK.out)) hk (.inl rfl)); have n2_ := Aside0.mk (hb); have n3_ := Aside0.mk (hi); clear HK; clear HB; clear HI0; have HO179 := n0_; have HK := n1_; have HB := n2_; have HI0 := n3_; clear n0_ n1_ n2_ n3_; (try clear hb); (try clear hb2); (try clear hk); (try clear hi); (try clear ho0)))
    go_ret
    exact ⟨_, by first | rfl | (simp [errW_none, errW_some] <;> rfl) | (simp [*, errW_none, errW_some] <;> rfl), by (with_reducible repeat (first | apply Kd.N_alloc | apply Kd.N_drewN | apply Kd.N_drew)); exact Kd.N_mono HO179.out (fun _ hk => hk.1), by repeat (first | (with_reducible first | exact HI0.out | apply IsS56.alloc | apply IsS56.drewN | apply IsS56.drew | apply IsS56.set_0 | apply IsS56.set_1 | apply IsS56.set_2 | apply IsS56.set_3) | exact HI0.out), by repeat (first | (with_reducible first | exact HB.out | apply below_alloc | apply pw_below_drewN | apply below_drew1 | refine below_set ?_ (IsS56.ge HI0.out)) | exact HB.out), by repeat (first | (with_reducible first | exact HK.out | apply KeepBut.set_ | apply keep_drewN | apply keep_drew | apply keep_alloc) | exact HK.out)⟩
  · rw [if_neg c3] at H
    exact absurd H (by simp)
end Go.Proofs.YtoacojkmclngmaaGreatDoor.Pz
namespace Go.Proofs.YtoacojkmclngmaaGreatDoor.Pz
open Go.RowKit Go.Proofs.YtoacojkmclngmaaGreatDoorW.PrintWords Go.Proofs.YtoacojkmclngmaaGreatDoorW.PrintLast Go.Proofs.YtoacojkmclngmaaGreatDoorW.PrintMore
attribute [local go_sem] max2_int min2_int max_two min_two max_three min_three max_four min_four   -- for this text's walks alone
attribute [local go_sem] rune_str
set_option linter.unusedVariables false
set_option linter.unusedSimpArgs false
def scan_Scanner_Close.f (k : Nat) (s0_0 : ByteArray) (s0_1 : Bool) (s0_2 : ByteArray) (s0_3 : Int) : Option ((List (S33)) × ByteArray × Bool × ByteArray × Int) := (scan_Scanner_told.f k s0_0 s0_1 s0_2 s0_3 true).bind fun bt184 => (some (bt184.1, (⟨#[]⟩ : ByteArray), false, (⟨#[]⟩ : ByteArray), 0))
theorem scan_Scanner_Close.mono : ∀ a0 a1 a2 a3 k, LeO (scan_Scanner_Close.f k a0 a1 a2 a3) (scan_Scanner_Close.f (k + 1) a0 a1 a2 a3) := by
  intro a0 a1 a2 a3 k
  unfold scan_Scanner_Close.f
  repeat' first
      | (with_reducible exact scan_Scanner_told.mono _ _ _ _ _ _)
      | (with_reducible exact LeO.refl _)
      | (with_reducible exact LeO.none _)
      | (with_reducible refine LeO.ite ?_ ?_)
      | (with_reducible refine LeO.bind ?_ (fun _ => ?_))
      | exact scan_Scanner_told.mono _ _ _ _ _ _
      | exact LeO.none _
      | refine LeO.ite ?_ ?_
      | refine LeO.bind ?_ (fun _ => ?_)
set_option maxHeartbeats 8000000 in
set_option maxRecDepth 100000 in
theorem scan_Scanner_Close.calls (k : Nat) (g : Nat) (s0_0 : ByteArray) (s0_1 : Bool) (s0_2 : ByteArray) (s0_3 : Int) (r1 : List (S33)) (r2 : ByteArray) (r3 : Bool) (r4 : ByteArray) (r5 : Int) (w0 w : World) (hI : IsS56 w0 w g s0_0 s0_1 s0_2 s0_3) (hB : Below w0.heap.size w0 w) (hG : Glob w0) (h : scan_Scanner_Close.f k s0_0 s0_1 s0_2 s0_3 = some (r1, r2, r3, r4, r5)) :
    Calls Tryz.prog 18 #[.pointer (some ⟨g, 0, none⟩)] w fun e w' => ∃ v0_ : Value, e = .returned (v0_) ∧ Kd.N k33 33 w' w.heap.size (fun k_ => (w.heap.size ≤ k_)) v0_ r1 ∧ IsS56 w0 w' g r2 r3 r4 r5 ∧ Below w0.heap.size w0 w' ∧ KeepBut w w' g none := by
  have hu56 := Tryz.underlying56
  have HI0 := Aside0.mk hI
  have HK := Aside0.mk (KeepBut.refl w g none)
  have HL := Aside0.mk hB.size
  clear hI
  have HW0 := Aside0.mk hB.size
  have HB := Aside0.mk hB
  clear hB
  have H : ((scan_Scanner_told.f k s0_0 s0_1 s0_2 s0_3 true).bind fun bt184 => (some (bt184.1, (⟨#[]⟩ : ByteArray), false, (⟨#[]⟩ : ByteArray), 0))) = some (r1, r2, r3, r4, r5) := h
  clear h
  replace H := Option.bind_eq_some_iff.mp H
  obtain ⟨⟨t184, t187, t188, t189, t190⟩, A20, H⟩ := H
  replace H : (some (t184, (⟨#[]⟩ : ByteArray), false, (⟨#[]⟩ : ByteArray), 0)) = some (r1, r2, r3, r4, r5) := H
  have A2 := Aside0.mk A20
  clear A20
  simp only [Option.some.injEq, Prod.mk.injEq] at H
  obtain ⟨rfl, rfl, rfl, rfl, rfl⟩ := H
  go_enter Tryz.func18, Tryz.ntmps18
  go_wp2_with (first | ((with_reducible refine gate_callee (f := 38) rfl ?_); refine goesL_ (some 5) rfl rfl Tryz.func38 (by kernel_rfl) rfl #[.pointer (some ⟨g, 0, none⟩), .bool true] rfl (by (try simp only [List.map_toArray, List.map_cons, List.map_nil]); first | done | rfl | (simp only [List.length_drop, List.length_take]; rfl)) ?_; (with_reducible refine (scan_Scanner_told.calls k g s0_0 s0_1 s0_2 s0_3 true t184 t187 t188 t189 t190 w0 _ ?side1 ?side2 hG A2.out).mono ?_); (case side1 => repeat (first | (with_reducible first | exact HI0.out | apply IsS56.alloc | apply IsS56.drewN | apply IsS56.drew | apply IsS56.set_0 | apply IsS56.set_1 | apply IsS56.set_2 | apply IsS56.set_3) | exact HI0.out)); (case side2 => repeat (first | (with_reducible first | exact HB.out | apply below_alloc | apply pw_below_drewN | apply below_drew1 | refine below_set ?_ (IsS56.ge HI0.out)) | exact HB.out)); rintro e w3 ⟨v185, rfl, ho0, hi, hb, hk⟩; refine ⟨_, rfl, ?_⟩; have n0_ := Aside0.mk (Kd.N_lower (Kd.N_mono (ok' := fun k_ => (w.heap.size ≤ k_) ∧ k_ ≠ g) ho0 (fun k_ hk_ => ⟨(Nat.le_trans (keep_size (w := w) (g := g) (row := none) (by repeat (first | (with_reducible first | exact HK.out | apply KeepBut.set_ | apply keep_drewN | apply keep_drew | apply keep_alloc) | exact HK.out))) hk_), (IsS56.fresh (by repeat (first | (with_reducible first | exact HI0.out | apply IsS56.alloc | apply IsS56.drewN | apply IsS56.drew | apply IsS56.set_0 | apply IsS56.set_1 | apply IsS56.set_2 | apply IsS56.set_3) | exact HI0.out)) k_ hk_)⟩)) (keep_size (w := w) (g := g) (row := none) (by repeat (first | (with_reducible first | exact HK.out | apply KeepBut.set_ | apply keep_drewN | apply keep_drew | apply keep_alloc) | exact HK.out)))); have n1_ := Aside0.mk (KeepBut.trans (by repeat (first | (with_reducible first | exact HK.out | apply KeepBut.set_ | apply keep_drewN | apply keep_drew | apply keep_alloc) | exact HK.out)) hk (.inl rfl)); have n2_ := Aside0.mk (hb); have n3_ := Aside0.mk (hi); clear HK; clear HB; clear HI0; have HO186 := n0_; have HK := n1_; have HB := n2_; have HI0 := n3_; clear n0_ n1_ n2_ n3_; (try clear hb); (try clear hb2); (try clear hk); (try clear hi); (try clear ho0); obtain ⟨HGz4, hgz4⟩ := HI0.out; have hcz4_0 := cellS56_0 HGz4; have hcz4_1 := cellS56_1 HGz4; have hcz4_2 := cellS56_2 HGz4; have hcz4_3 := cellS56_3 HGz4; have hfz4_0 := blk_frozen HGz4 0; have hfz4_1 := blk_frozen HGz4 1; have hfz4_2 := blk_frozen HGz4 2; have hfz4_3 := blk_frozen HGz4 3; clear HGz4 hgz4))
  go_ret
  exact ⟨_, by first | rfl | (simp [errW_none, errW_some] <;> rfl) | (simp [*, errW_none, errW_some] <;> rfl), by (with_reducible repeat (first | apply Kd.N_alloc | apply Kd.N_drewN | apply Kd.N_drew)); exact Kd.N_mono (Kd.N_far (p := ⟨g, 3, none⟩) (Kd.N_far (p := ⟨g, 2, none⟩) (Kd.N_far (p := ⟨g, 1, none⟩) (Kd.N_far (p := ⟨g, 0, none⟩) (Kd.N_mono HO186.out (fun k_ hk => (⟨hk, hk.2⟩ : _ ∧ k_ ≠ g))) (fun _ hk => hk.2) (.string (⟨#[]⟩ : ByteArray))) (fun _ hk => hk.2) (.bool false)) (fun _ hk => hk.2) (.string (⟨#[]⟩ : ByteArray))) (fun _ hk => hk.2) (.int .i64 0)) (fun _ hk => hk.1.1), by repeat (first | (with_reducible first | exact HI0.out | apply IsS56.alloc | apply IsS56.drewN | apply IsS56.drew | apply IsS56.set_0 | apply IsS56.set_1 | apply IsS56.set_2 | apply IsS56.set_3) | exact HI0.out), by repeat (first | (with_reducible first | exact HB.out | apply below_alloc | apply pw_below_drewN | apply below_drew1 | refine below_set ?_ (IsS56.ge HI0.out)) | exact HB.out), by repeat (first | (with_reducible first | exact HK.out | apply KeepBut.set_ | apply keep_drewN | apply keep_drew | apply keep_alloc) | exact HK.out)⟩
end Go.Proofs.YtoacojkmclngmaaGreatDoor.Pz
namespace Go.Proofs.YtoacojkmclngmaaGreatDoor.Pz
open Go.RowKit Go.Proofs.YtoacojkmclngmaaGreatDoorW.PrintWords Go.Proofs.YtoacojkmclngmaaGreatDoorW.PrintLast Go.Proofs.YtoacojkmclngmaaGreatDoorW.PrintMore
attribute [local go_sem] max2_int min2_int max_two min_two max_three min_three max_four min_four   -- for this text's walks alone
attribute [local go_sem] rune_str
set_option linter.unusedVariables false
set_option linter.unusedSimpArgs false
def mergeStep (out : List S33) (t : S33) : Option (List S33) :=
  if t.f0 = 1 ∧ t.f2.toList = [] then some out
  else if t.f0 = 1 ∧ 0 < out.length ∧ (rd_T33 out ((out.length : Int) - 1)).f0 = 1 then
    (if (rd_T33 out ((out.length : Int) - 1)).f2.size + t.f2.size ≤ 140737488355328 then
      some (out.set (out.length - 1) ⟨1, (rd_T33 out ((out.length : Int) - 1)).f1, (rd_T33 out ((out.length : Int) - 1)).f2 ++ t.f2, (rd_T33 out ((out.length : Int) - 1)).f3, (rd_T33 out ((out.length : Int) - 1)).f4⟩) else none)
  else if out.length < 1954687338268 then some (out ++ [t]) else none
def mergeGo : List S33 → List S33 → Option (List S33)
  | out, [] => some out
  | out, t :: ts => (mergeStep out t).bind fun o => mergeGo o ts
def scan_Merge.f (l0 : List S33) : Option (List S33) := mergeGo [] l0
set_option maxHeartbeats 4000000 in
set_option maxRecDepth 100000 in
theorem scan_Merge.calls (P0_ : Nat → Prop) (A0 : Option Addr) (c0 : Nat) (l0 : List (S33)) (r : List (S33)) (w : World) (hs0 : Kd.V k33 33 w w.heap.size (fun k_ => P0_ k_) (.slice A0 l0.length c0) l0) (h : scan_Merge.f l0 = some r) :
    Calls Tryz.prog 19 #[.slice A0 l0.length c0] w fun e w' => ∃ v0_ : Value, e = .returned (v0_) ∧ Kd.V k33 33 w' w.heap.size (fun k_ => (P0_ k_ ∨ w.heap.size ≤ k_)) v0_ r ∧ Below w.heap.size w w' := by
  unfold scan_Merge.f at h
  have HM := Aside0.mk h
  have HS := Aside0.mk (Kd.V_bound hs0)
  have HLC := Aside0.mk (Kd.V_reads' hs0)
  have hlc : l0.length ≤ c0 := (Kd.V_reads' hs0).2.1
  have hl63 : (l0.length : Int) ≤ 9223372036854775807 := by have := (Kd.V_reads' hs0).2.2.2.1; omega
  have HB0 := Aside0.mk (Below.refl w.heap.size w)
  clear h hs0
  go_enter Tryz.func19, Tryz.ntmps19
  go_wp2
  go_loopw [9, 3] (fun i v3 wr => ∃ (k : Nat) (out : List S33), k ≤ l0.length ∧ i = .int .i64 k ∧ Aside0 (mergeGo out (l0.drop k) = some r) ∧ Aside0 (Kd.N k33 33 wr w.heap.size (fun k_ => P0_ k_ ∨ w.heap.size ≤ k_) v3 out) ∧ Aside0 (Below w.heap.size w wr)) (fun i _ _ => l0.length - (intOf i).toNat)
  case atStart => exact ⟨0, [], Nat.zero_le _, rfl, HM, ⟨Kd.N_nil _ _ _ _ _⟩, HB0⟩
  case round =>
    obtain ⟨k, out, hk, rfl, HM1, HN1, HB1⟩ := hrel
    obtain ⟨Ao, co, rfl⟩ := Kd.N_slice HN1.out
    by_cases hlt : k < l0.length
    · have hlti : (k : Int) < (l0.length : Int) := by omega
      obtain ⟨t, ht⟩ : ∃ t, l0[k]? = some t := ⟨l0[k], List.getElem?_eq_getElem hlt⟩
      have hdrop : l0.drop k = t :: l0.drop (k + 1) := by
        rw [List.drop_eq_getElem_cons hlt]
        rw [List.getElem?_eq_getElem hlt] at ht
        rw [Option.some.inj ht]
      have hm := HM1.out
      rw [hdrop] at hm
      unfold mergeGo at hm
      obtain ⟨o, hstep, hm⟩ := Option.bind_eq_some_iff.1 hm
      have HM2 := Aside0.mk hm
      clear hm hdrop HM1
      have hV := Kd.V_below HS.out HB1.out
      obtain ⟨ad, rfl⟩ : ∃ ad, A0 = some ad := by obtain ⟨ad, h, _⟩ := (Kd.V_reads' hV).2.2.2.2 (by omega); exact ⟨ad, h⟩
      obtain ⟨cs, hcl, hFK, hcc⟩ := Kd.V_get hV t (k : Int) (by omega) (by omega)
      have hget : l0.getD (k : Int).toNat t = t := by rw [Int.toNat_natCast, List.getD_eq_getElem?_getD, ht]; rfl
      rw [hget] at hFK
      obtain ⟨A3, c3, rfl, hl3, hF3⟩ := k33_openF hFK
      rw [Int.toNat_natCast] at hcc
      have hc0 : wr.cell? (ad.add (k * 5)) = some (.int .i64 t.f0) := hcc 0 _ rfl
      have hc1 : wr.cell? ⟨(ad.add (k * 5)).block, (ad.add (k * 5)).off + 1, none⟩ = some (.string t.f1) := by rw [← add_field _ _ 1 (by omega)]; exact hcc 1 _ rfl
      have hc2 : wr.cell? ⟨(ad.add (k * 5)).block, (ad.add (k * 5)).off + 2, none⟩ = some (.string t.f2) := by rw [← add_field _ _ 2 (by omega)]; exact hcc 2 _ rfl
      have hc3 : wr.cell? ⟨(ad.add (k * 5)).block, (ad.add (k * 5)).off + 3, none⟩ = some (.slice A3 t.f3.length c3) := by rw [← add_field _ _ 3 (by omega)]; exact hcc 3 _ rfl
      have hc4 : wr.cell? ⟨(ad.add (k * 5)).block, (ad.add (k * 5)).off + 4, none⟩ = some (.bool t.f4) := by rw [← add_field _ _ 4 (by omega)]; exact hcc 4 _ rfl
      have HFK1 := Aside0.mk hFK
      clear hV hcl hcc hFK hget hF3 ht
      go_upto_region 5 with (fail)
      obtain ⟨W2, hW2⟩ : ∃ W2, W2 = wr.alloc (Obj.cells #[.int .i64 t.f0, .string t.f1, .string t.f2, .slice A3 t.f3.length c3, .bool t.f4] 33) := ⟨_, rfl⟩
      rw [← hW2]
      have hBT : W2.heap[wr.heap.size]? = some (.cells #[.int .i64 t.f0, .string t.f1, .string t.f2, .slice A3 t.f3.length c3, .bool t.f4] 33 (0, 0)) := by rw [hW2]; exact heap_alloc_new wr _
      have HN2 := Aside0.mk (show Kd.N k33 33 W2 w.heap.size (fun k_ => P0_ k_ ∨ w.heap.size ≤ k_) (.slice Ao out.length co) out from by rw [hW2]; exact Kd.N_alloc HN1.out _)
      have HB2 := Aside0.mk (show Below w.heap.size w W2 from by rw [hW2]; exact below_alloc HB1.out _)
      have HFK := Aside0.mk (show Kd.FK k33 W2 (fun k_ => P0_ k_ ∧ k_ < w.heap.size) t [.int .i64 t.f0, .string t.f1, .string t.f2, .slice A3 t.f3.length c3, .bool t.f4] from by rw [hW2]; exact Kd.FK_below HFK1.out (below_alloc (Below.refl _ _) _))
      have HOKP : Aside0 (∀ k_, (P0_ k_ ∧ k_ < w.heap.size) → (P0_ k_ ∨ w.heap.size ≤ k_) ∧ some k_ ≠ (Value.slice Ao out.length co).ownBlock) := ⟨fun k_ hk_ => ⟨.inl hk_.1, fun he => by have := Kd.N_base HN1.out k_ he.symm; omega⟩⟩
      have HFR : Aside0 (∀ k_, W2.heap.size ≤ k_ → (P0_ k_ ∨ w.heap.size ≤ k_)) := ⟨fun k_ hk_ => .inr (Nat.le_trans HB2.out.size hk_)⟩
      have ht0 : W2.cell? ⟨wr.heap.size, 0, none⟩ = some (.int .i64 t.f0) := (blk_cell hBT 0).trans rfl
      have ht1 : W2.cell? ⟨wr.heap.size, 1, none⟩ = some (.string t.f1) := (blk_cell hBT 1).trans rfl
      have ht2 : W2.cell? ⟨wr.heap.size, 2, none⟩ = some (.string t.f2) := (blk_cell hBT 2).trans rfl
      have ht3 : W2.cell? ⟨wr.heap.size, 3, none⟩ = some (.slice A3 t.f3.length c3) := (blk_cell hBT 3).trans rfl
      have ht4 : W2.cell? ⟨wr.heap.size, 4, none⟩ = some (.bool t.f4) := (blk_cell hBT 4).trans rfl
      have HBT := Aside0.mk hBT
      clear hW2 hc0 hc1 hc2 hc3 hc4 HFK1 hBT HN1 HB1
      unfold mergeStep at hstep
      by_cases h1 : t.f0 = 1
      · have h1' : (t.f0 == 1) = true := by simpa using h1
        by_cases he : t.f2.toList = []
        · rw [if_pos ⟨h1, he⟩] at hstep
          obtain rfl := Option.some.inj hstep
          have he' : (t.f2.toList == ([] : List UInt8)) = true := beq_iff_eq.mpr he
          clear hstep h1 he
          go_wp2
          go_roundw
          case rel => exact ⟨k + 1, out, by omega, by go_num, HM2, HN2, HB2⟩
          case measure => simp [intOf]; omega
        · rw [if_neg (fun c => he c.2)] at hstep
          have he' : (t.f2.toList == ([] : List UInt8)) = false := beq_eq_false_iff_ne.mpr he
          by_cases hp : 0 < out.length
          · have hpi : (0 : Int) < (out.length : Int) := by omega
            obtain ⟨gb, cb, hsl, hgb1, hgb2, -⟩ := Kd.N_form HN2.out hp
            injection hsl with hAo hn_ hco
            subst hAo
            obtain ⟨m, hm⟩ : ∃ m : Nat, out.length = m + 1 := ⟨out.length - 1, by omega⟩
            have h63 := (Kd.N_reads' HN2.out).2.2.2.1
            have hwr : wrap64 ((out.length : Int) - 1) = (m : Int) := by unfold wrap64; omega
            have hmlt : (m : Int) < (out.length : Int) := by omega
            have hm0 : (out.length : Int) - 1 = (m : Int) := by omega
            rw [hm0] at hstep
            obtain ⟨q, hq⟩ : ∃ q, q = rd_T33 out (m : Int) := ⟨_, rfl⟩
            obtain ⟨cq, hql, hqF, hqc, hqf⟩ := Kd.N_elem HN2.out (⟨0, ByteArray.empty, ByteArray.empty, [], false⟩ : S33) (m : Int) (by omega) (by omega)
            have hqe : out.getD (m : Int).toNat (⟨0, ByteArray.empty, ByteArray.empty, [], false⟩ : S33) = q := by rw [hq]; rfl
            rw [hqe] at hqF
            rw [← hq] at hstep
            obtain ⟨Aq, cpq, rfl, hlq, hFq⟩ := k33_openF hqF
            rw [Int.toNat_natCast] at hqc hqf
            have hd0 : W2.cell? ⟨gb, m * 5, none⟩ = some (.int .i64 q.f0) := hqc 0 _ rfl
            have hd2 : W2.cell? ⟨gb, m * 5 + 2, none⟩ = some (.string q.f2) := hqc 2 _ rfl
            have hfz2 : W2.frozen? ⟨gb, m * 5 + 2, none⟩ = false := hqf 2
            have HQC := Aside0.mk hqc
            have HQF := Aside0.mk hqF
            have HM := Aside0.mk hm
            have HFQ := Aside0.mk hFq
            have HLQ := Aside0.mk hlq
            clear hlq hqc hqf hFq hqF hqe hq hm h63 hm0 hn_ hco
            by_cases hlk : q.f0 = 1
            · have hlk' : (q.f0 == 1) = true := by simpa using hlk
              rw [if_pos ⟨h1, hp, hlk⟩] at hstep
              split at hstep
              case isFalse => cases hstep
              rename_i hsz
              obtain rfl := Option.some.inj hstep
              clear hstep
              go_upto_region 9 with (fail)
              have hszi : (q.f2.size : Int) + (t.f2.size : Int) ≤ 140737488355328 := by omega
              go_region
              all_goals (try go_wp2)
              have hN4 := (Kd.N_seg HN2.out (m : Int) (by omega) (by omega) (c := [.int .i64 q.f0, .string q.f1, .string q.f2, .slice Aq q.f3.length cpq, .bool q.f4]) (seg := [.string (q.f2 ++ t.f2)]) (j := 2) rfl (fun j u hu => HQC.out j u hu) (show 2 + 1 ≤ 5 from by decide) (okp := fun k_ => (P0_ k_ ∨ w.heap.size ≤ k_) ∧ k_ ≠ gb) (x' := (⟨1, q.f1, q.f2 ++ t.f2, q.f3, q.f4⟩ : S33)) (by rw [hlk]; exact k33_mkF _ _ ⟨1, q.f1, q.f2 ++ t.f2, q.f3, q.f4⟩ HLQ.out HFQ.out) (fun _ hk => hk)).1
              have e1 : out.length - 1 = (m : Int).toNat := by have := HM.out; omega
              have hm2 := HM2.out
              rw [e1] at hm2
              exact ⟨⟨k + 1, _, by omega, by go_num, ⟨hm2⟩, ⟨Kd.N_drew hN4⟩, ⟨below_drew1 (below_set HB2.out hgb1)⟩⟩, by simp [intOf]; omega⟩
            · have hlk' : (q.f0 == 1) = false := by simpa using hlk
              rw [if_neg (fun c => hlk c.2.2)] at hstep
              clear h1 he hlk
              split at hstep
              case isFalse => cases hstep
              rename_i hcap
              obtain rfl := Option.some.inj hstep
              have HCAP := Aside0.mk hcap
              clear hcap hstep
              go_wp2_with (first | ((with_reducible refine gate_builtin (b := .append) (xs := #[.tmp 15, .tmp 17]) rfl ?_); at_builtin; refine Kd.N_append k33 (w0 := w) w.heap.size rfl (.tmp 15) (.tmp 17) 24 33 (.agg #[(.int .i64 0), (.string ⟨#[]⟩), (.string ⟨#[]⟩), (.slice none 0 0), (.bool false)]) 72 rfl Tryz.underlying24 info33 rfl (by decide) (by omega) (.slice (some ⟨gb, 0, none⟩) out.length co) out t [.int .i64 t.f0, .string t.f1, .string t.f2, .slice A3 t.f3.length c3, .bool t.f4] (fun k_ => P0_ k_ ∨ w.heap.size ≤ k_) (fun k_ => P0_ k_ ∧ k_ < w.heap.size) rfl rfl HFK.out HOKP.out HFR.out HN2.out HB2.out HB2.out.size (by have := HCAP.out; omega) ?_; intro v1 w1 ho hb hg hat; have HN3 := Aside0.mk ho; have HB3 := Aside0.mk hb; clear ho hb hg hat))
              go_roundw
              case rel => exact ⟨k + 1, out ++ [t], by omega, by go_num, HM2, HN3, HB3⟩
              case measure => simp [intOf]; omega
          · rw [if_neg (fun c => hp c.2.1)] at hstep
            have hpi : ¬ (0 : Int) < (out.length : Int) := by omega
            clear h1 he
            split at hstep
            case isFalse => cases hstep
            rename_i hcap
            obtain rfl := Option.some.inj hstep
            have HCAP := Aside0.mk hcap
            clear hcap hstep
            go_wp2_with (first | ((with_reducible refine gate_builtin (b := .append) (xs := #[.tmp 15, .tmp 17]) rfl ?_); at_builtin; refine Kd.N_append k33 (w0 := w) w.heap.size rfl (.tmp 15) (.tmp 17) 24 33 (.agg #[(.int .i64 0), (.string ⟨#[]⟩), (.string ⟨#[]⟩), (.slice none 0 0), (.bool false)]) 72 rfl Tryz.underlying24 info33 rfl (by decide) (by omega) (.slice Ao out.length co) out t [.int .i64 t.f0, .string t.f1, .string t.f2, .slice A3 t.f3.length c3, .bool t.f4] (fun k_ => P0_ k_ ∨ w.heap.size ≤ k_) (fun k_ => P0_ k_ ∧ k_ < w.heap.size) rfl rfl HFK.out HOKP.out HFR.out HN2.out HB2.out HB2.out.size (by have := HCAP.out; omega) ?_; intro v1 w1 ho hb hg hat; have HN3 := Aside0.mk ho; have HB3 := Aside0.mk hb; clear ho hb hg hat))
            go_roundw
            case rel => exact ⟨k + 1, out ++ [t], by omega, by go_num, HM2, HN3, HB3⟩
            case measure => simp [intOf]; omega
      · have h1' : (t.f0 == 1) = false := by simpa using h1
        rw [if_neg (fun c => h1 c.1), if_neg (fun c => h1 c.1)] at hstep
        clear h1
        split at hstep
        case isFalse => cases hstep
        rename_i hcap
        obtain rfl := Option.some.inj hstep
        have HCAP := Aside0.mk hcap
        clear hcap hstep
        go_wp2_with (first | ((with_reducible refine gate_builtin (b := .append) (xs := #[.tmp 15, .tmp 17]) rfl ?_); at_builtin; refine Kd.N_append k33 (w0 := w) w.heap.size rfl (.tmp 15) (.tmp 17) 24 33 (.agg #[(.int .i64 0), (.string ⟨#[]⟩), (.string ⟨#[]⟩), (.slice none 0 0), (.bool false)]) 72 rfl Tryz.underlying24 info33 rfl (by decide) (by omega) (.slice Ao out.length co) out t [.int .i64 t.f0, .string t.f1, .string t.f2, .slice A3 t.f3.length c3, .bool t.f4] (fun k_ => P0_ k_ ∨ w.heap.size ≤ k_) (fun k_ => P0_ k_ ∧ k_ < w.heap.size) rfl rfl HFK.out HOKP.out HFR.out HN2.out HB2.out HB2.out.size (by have := HCAP.out; omega) ?_; intro v1 w1 ho hb hg hat; have HN3 := Aside0.mk ho; have HB3 := Aside0.mk hb; clear ho hb hg hat))
        go_roundw
        case rel => exact ⟨k + 1, out ++ [t], by omega, by go_num, HM2, HN3, HB3⟩
        case measure => simp [intOf]; omega
    · have hkk : k = l0.length := by omega
      subst hkk
      have hm := HM1.out
      rw [List.drop_length] at hm
      obtain rfl := Option.some.inj hm
      go_wp2
      go_ret
      exact ⟨_, rfl, Kd.N_V HN1.out, HB1.out⟩
end Go.Proofs.YtoacojkmclngmaaGreatDoor.Pz
namespace Go.Proofs.YtoacojkmclngmaaGreatDoor.Pz
open Go.RowKit Go.Proofs.YtoacojkmclngmaaGreatDoorW.PrintWords Go.Proofs.YtoacojkmclngmaaGreatDoorW.PrintLast Go.Proofs.YtoacojkmclngmaaGreatDoorW.PrintMore
attribute [local go_sem] max2_int min2_int max_two min_two max_three min_three max_four min_four   -- for this text's walks alone
attribute [local go_sem] rune_str
set_option linter.unusedVariables false
set_option linter.unusedSimpArgs false
def scan_Tokens.f (k : Nat) (a0 : ByteArray) : Option ((List (S33))) := (scan_New.f).bind fun bt191 => ((scan_Scanner_Write.f k bt191.1 bt191.2.1 bt191.2.2.1 bt191.2.2.2 a0).bind fun bt196 => ((scan_Scanner_Close.f k bt196.2.1 bt196.2.2.1 bt196.2.2.2.1 bt196.2.2.2.2).bind fun bt203 => (if bt196.1.length + bt203.1.length < 1954687338268 then ((scan_Merge.f (bt196.1 ++ bt203.1)).bind fun t213 => (some t213)) else (none))))
theorem scan_Tokens.mono : ∀ a0 k, LeO (scan_Tokens.f k a0) (scan_Tokens.f (k + 1) a0) := by
  intro a0 k
  unfold scan_Tokens.f
  repeat' first
      | (with_reducible exact scan_Scanner_Close.mono _ _ _ _ _)
      | (with_reducible exact scan_Scanner_Write.mono _ _ _ _ _ _)
      | (with_reducible exact LeO.refl _)
      | (with_reducible exact LeO.none _)
      | (with_reducible refine LeO.ite ?_ ?_)
      | (with_reducible refine LeO.bind ?_ (fun _ => ?_))
      | exact scan_Scanner_Close.mono _ _ _ _ _
      | exact scan_Scanner_Write.mono _ _ _ _ _ _
      | exact LeO.none _
      | refine LeO.ite ?_ ?_
      | refine LeO.bind ?_ (fun _ => ?_)
set_option maxHeartbeats 8000000 in
set_option maxRecDepth 100000 in
theorem scan_Tokens.calls (k : Nat) (a0 : ByteArray) (r : List (S33)) (w : World) (hG : Glob w) (h : scan_Tokens.f k a0 = some r) :
    Calls Tryz.prog 14 #[.string a0] w fun e w' => ∃ v0_ : Value, e = .returned (v0_) ∧ Kd.V k33 33 w' w.heap.size (fun k_ => (w.heap.size ≤ k_)) v0_ r ∧ Below w.heap.size w w' := by
  have HB := Aside0.mk (Below.refl w.heap.size w)
  have H : ((scan_New.f).bind fun bt191 => ((scan_Scanner_Write.f k bt191.1 bt191.2.1 bt191.2.2.1 bt191.2.2.2 a0).bind fun bt196 => ((scan_Scanner_Close.f k bt196.2.1 bt196.2.2.1 bt196.2.2.2.1 bt196.2.2.2.2).bind fun bt203 => (if bt196.1.length + bt203.1.length < 1954687338268 then ((scan_Merge.f (bt196.1 ++ bt203.1)).bind fun t213 => (some t213)) else (none))))) = some r := h
  clear h
  replace H := Option.bind_eq_some_iff.mp H
  obtain ⟨⟨t191, t192, t193, t194⟩, A20, H⟩ := H
  replace H : ((scan_Scanner_Write.f k t191 t192 t193 t194 a0).bind fun bt196 => ((scan_Scanner_Close.f k bt196.2.1 bt196.2.2.1 bt196.2.2.2.1 bt196.2.2.2.2).bind fun bt203 => (if bt196.1.length + bt203.1.length < 1954687338268 then ((scan_Merge.f (bt196.1 ++ bt203.1)).bind fun t213 => (some t213)) else (none)))) = some r := H
  have A2 := Aside0.mk A20
  clear A20
  replace H := Option.bind_eq_some_iff.mp H
  obtain ⟨⟨t196, t199, t200, t201, t202⟩, A30, H⟩ := H
  replace H : ((scan_Scanner_Close.f k t199 t200 t201 t202).bind fun bt203 => (if t196.length + bt203.1.length < 1954687338268 then ((scan_Merge.f (t196 ++ bt203.1)).bind fun t213 => (some t213)) else (none))) = some r := H
  have A3 := Aside0.mk A30
  clear A30
  replace H := Option.bind_eq_some_iff.mp H
  obtain ⟨⟨t203, t206, t207, t208, t209⟩, A40, H⟩ := H
  replace H : (if t196.length + t203.length < 1954687338268 then ((scan_Merge.f (t196 ++ t203)).bind fun t213 => (some t213)) else (none)) = some r := H
  have A4 := Aside0.mk A40
  clear A40
  by_cases c5 : t196.length + t203.length < 1954687338268
  · rw [if_pos c5] at H
    have LMc5 := Aside0.mk c5
    clear c5
    obtain ⟨y210, hy210⟩ : ∃ y_ : List (S33), y_ = (t196 ++ t203) := ⟨_, rfl⟩
    replace H : ((scan_Merge.f y210).bind fun t213 => (some t213)) = some r := by first | (rw [hy210]; with_reducible exact H) | (have H2_ := (Option.bind_some _ _).symm.trans H; rw [hy210]; with_reducible exact H2_) | (have H2_ := (Option.bind_some _ _).symm.trans H; with_reducible exact H2_) | with_reducible exact H | (rw [hy210]; exact H) | exact H
    have Ny210 := Aside0.mk hy210
    clear hy210
    replace H := Option.bind_eq_some_iff.mp H
    obtain ⟨t213, A60, H⟩ := H
    replace H : (some t213) = some r := H
    have A6 := Aside0.mk A60
    clear A60
    obtain rfl := Option.some.inj H
    go_enter Tryz.func14, Tryz.ntmps14
    go_wp2_with (first | ((with_reducible refine gate_callee (f := 16) rfl ?_); refine goesL_ (some 4) rfl rfl Tryz.func16 (by kernel_rfl) rfl #[] rfl (by (try simp only [List.map_toArray, List.map_cons, List.map_nil]); first | done | rfl | (simp only [List.length_drop, List.length_take]; rfl)) ?_; (with_reducible refine (scan_New.calls  t191 t192 t193 t194 w _ ?side1 A2.out).mono ?_); (case side1 => repeat (first | (with_reducible first | exact HB.out | apply below_alloc | apply pw_below_drewN | apply below_drew1) | exact HB.out)); rintro e w7 ⟨g195, rfl, hi, hb, hb2⟩; refine ⟨_, rfl, ?_⟩; have n0_ := Aside0.mk (hb); have n1_ := Aside0.mk (hi); clear HB; have HB := n0_; have HI195 := n1_; clear n0_ n1_; (try clear hb); (try clear hb2); (try clear hk); (try clear hi)) | ((with_reducible refine gate_callee (f := 17) rfl ?_); refine goesL_ (some 7) rfl rfl Tryz.func17 (by kernel_rfl) rfl #[.pointer (some ⟨g195, 0, none⟩), .string a0] rfl (by (try simp only [List.map_toArray, List.map_cons, List.map_nil]); first | done | rfl | (simp only [List.length_drop, List.length_take]; rfl)) ?_; (with_reducible refine (scan_Scanner_Write.calls k g195 t191 t192 t193 t194 a0 t196 t199 t200 t201 t202 w _ ?side1 ?side2 hG A3.out).mono ?_); (case side1 => repeat (first | (with_reducible first | exact HI195.out | apply IsS56.alloc | apply IsS56.drewN | apply IsS56.drew | apply IsS56.set_0 | apply IsS56.set_1 | apply IsS56.set_2 | apply IsS56.set_3) | exact HI195.out)); (case side2 => repeat (first | (with_reducible first | exact HB.out | apply below_alloc | apply pw_below_drewN | apply below_drew1 | refine below_set ?_ (IsS56.ge HI195.out)) | exact HB.out)); rintro e w8 ⟨v197, rfl, ho0, hi, hb, hk⟩; refine ⟨_, rfl, ?_⟩; have n0_ := Aside0.mk (Kd.N_lower (Kd.N_mono (ok' := fun k_ => (w.heap.size ≤ k_) ∧ k_ ≠ g195) ho0 (fun k_ hk_ => ⟨(Nat.le_trans (below_size (by repeat (first | (with_reducible first | exact HB.out | apply below_alloc | apply pw_below_drewN | apply below_drew1 | refine below_set ?_ (IsS56.ge HI195.out)) | exact HB.out))) hk_), (IsS56.fresh (by repeat (first | (with_reducible first | exact HI195.out | apply IsS56.alloc | apply IsS56.drewN | apply IsS56.drew | apply IsS56.set_0 | apply IsS56.set_1 | apply IsS56.set_2 | apply IsS56.set_3) | exact HI195.out)) k_ hk_)⟩)) (below_size (by repeat (first | (with_reducible first | exact HB.out | apply below_alloc | apply pw_below_drewN | apply below_drew1 | refine below_set ?_ (IsS56.ge HI195.out)) | exact HB.out)))); have n1_ := Aside0.mk (hb); have n2_ := Aside0.mk (hi); clear HB; clear HI195; have HO198 := n0_; have HB := n1_; have HI195 := n2_; clear n0_ n1_ n2_; (try clear hb); (try clear hb2); (try clear hk); (try clear hi); (try clear ho0)) | ((with_reducible refine gate_callee (f := 18) rfl ?_); refine goesL_ (some 9) rfl rfl Tryz.func18 (by kernel_rfl) rfl #[.pointer (some ⟨g195, 0, none⟩)] rfl (by (try simp only [List.map_toArray, List.map_cons, List.map_nil]); first | done | rfl | (simp only [List.length_drop, List.length_take]; rfl)) ?_; (with_reducible refine (scan_Scanner_Close.calls k g195 t199 t200 t201 t202 t203 t206 t207 t208 t209 w _ ?side1 ?side2 hG A4.out).mono ?_); (case side1 => repeat (first | (with_reducible first | exact HI195.out | apply IsS56.alloc | apply IsS56.drewN | apply IsS56.drew | apply IsS56.set_0 | apply IsS56.set_1 | apply IsS56.set_2 | apply IsS56.set_3) | exact HI195.out)); (case side2 => repeat (first | (with_reducible first | exact HB.out | apply below_alloc | apply pw_below_drewN | apply below_drew1 | refine below_set ?_ (IsS56.ge HI195.out)) | exact HB.out)); rintro e w9 ⟨v204, rfl, ho0, hi, hb, hk⟩; refine ⟨_, rfl, ?_⟩; have n0_ := Aside0.mk (Kd.N_mono (Kd.N_told (Kd.N_oldK (Kd.N_mono (ok := fun k_ => (((w.heap.size ≤ k_)) ∧ k_ ≠ g195)) (by (with_reducible repeat (first | apply Kd.N_alloc | apply Kd.N_drewN | apply Kd.N_drew)); exact HO198.out) (fun k_ hk_ => (⟨hk_, hk_.2⟩ : _ ∧ k_ ≠ g195))) hk) (Kd.N_base ho0)) (fun _ h_ => h_.1)); have n1_ := Aside0.mk (Kd.N_lower (Kd.N_mono (ok' := fun k_ => (w.heap.size ≤ k_) ∧ some k_ ≠ (v197 : Value).ownBlock ∧ k_ ≠ g195) ho0 (fun k_ hk_ => ⟨(Nat.le_trans (below_size (by repeat (first | (with_reducible first | exact HB.out | apply below_alloc | apply pw_below_drewN | apply below_drew1 | refine below_set ?_ (IsS56.ge HI195.out)) | exact HB.out))) hk_), (Kd.fresh' (Kd.N_lt (by (with_reducible repeat (first | apply Kd.N_alloc | apply Kd.N_drewN | apply Kd.N_drew)); exact HO198.out)) k_ hk_), (IsS56.fresh (by repeat (first | (with_reducible first | exact HI195.out | apply IsS56.alloc | apply IsS56.drewN | apply IsS56.drew | apply IsS56.set_0 | apply IsS56.set_1 | apply IsS56.set_2 | apply IsS56.set_3) | exact HI195.out)) k_ hk_)⟩)) (below_size (by repeat (first | (with_reducible first | exact HB.out | apply below_alloc | apply pw_below_drewN | apply below_drew1 | refine below_set ?_ (IsS56.ge HI195.out)) | exact HB.out)))); have n2_ := Aside0.mk (hb); have n3_ := Aside0.mk (hi); clear HO198; clear HB; clear HI195; have HO198 := n0_; have HO205 := n1_; have HB := n2_; have HI195 := n3_; clear n0_ n1_ n2_ n3_; (try clear hb); (try clear hb2); (try clear hk); (try clear hi); (try clear ho0); obtain ⟨Ao11, co11, eo11⟩ := Kd.N_slice HO205.out; subst eo11) | ((with_reducible refine gate_builtin (b := .append) (xs := #[.tmp 7, .tmp 9]) rfl ?_); at_builtin; refine Kd.N_append_rows k33 (w0 := w) w.heap.size rfl (.tmp 7) (.tmp 9) 24 33 (.agg #[(.int .i64 0), (.string ⟨#[]⟩), (.string ⟨#[]⟩), (.slice none 0 0), (.bool false)]) 72 rfl Tryz.underlying24 info33 rfl (by decide) (by omega) v197 t196 t203 _ _ _ (fun k_ => (w.heap.size ≤ k_) ∧ k_ ≠ g195) (fun k_ => ((fun k_ => (w.heap.size ≤ k_) ∧ k_ ≠ g195)) k_ ∧ some k_ ≠ (v197 : Value).ownBlock) rfl rfl ?aO ?aR (fun _ hk => hk) ?aF ?aB ?aS ?aL ?_; (case aR => exact (by skip; exact Kd.N_F (Kd.N_mono (ok' := (fun k_ => ((fun k_ => (w.heap.size ≤ k_) ∧ k_ ≠ g195)) k_ ∧ some k_ ≠ (v197 : Value).ownBlock)) (HO205.out) (fun k_ hk => ⟨⟨hk.1, hk.2.2⟩, hk.2.1⟩)))); (case aB => exact (by repeat (first | (with_reducible first | exact HB.out | apply below_alloc | apply pw_below_drewN | apply below_drew1 | refine below_set ?_ (IsS56.ge HI195.out)) | exact HB.out))); (case aF => exact (fun k_ hk => ⟨(Nat.le_trans (below_size (by repeat (first | (with_reducible first | exact HB.out | apply below_alloc | apply pw_below_drewN | apply below_drew1 | refine below_set ?_ (IsS56.ge HI195.out)) | exact HB.out))) hk), IsS56.fresh (by repeat (first | (with_reducible first | exact HI195.out | apply IsS56.alloc | apply IsS56.drewN | apply IsS56.drew | apply IsS56.set_0 | apply IsS56.set_1 | apply IsS56.set_2 | apply IsS56.set_3) | exact HI195.out)) k_ hk⟩)); (case aO => exact (by (with_reducible repeat (first | apply Kd.N_alloc | apply Kd.N_drewN | apply Kd.N_drew)); exact Kd.N_mono HO198.out (fun _ hk => ⟨hk.1.1, hk.1.2⟩))); (case aS => exact (below_size (by repeat (first | (with_reducible first | exact HB.out | apply below_alloc | apply pw_below_drewN | apply below_drew1 | refine below_set ?_ (IsS56.ge HI195.out)) | exact HB.out)))); (case aL => have := LMc5.out; omega); intro v211 w10 ho hb hg hat; rw [← Ny210.out] at ho; have n0_ := Aside0.mk (IsS56.grown (by repeat (first | (with_reducible first | exact HI195.out | apply IsS56.alloc | apply IsS56.drewN | apply IsS56.drew | apply IsS56.set_0 | apply IsS56.set_1 | apply IsS56.set_2 | apply IsS56.set_3) | exact HI195.out)) hg (IsS56.own_neN HI195.out HO198.out (by decide))); have n1_ := Aside0.mk (Kd.N_afterv (ok := (fun k_ => (w.heap.size ≤ k_) ∧ k_ ≠ g195)) (by (with_reducible repeat (first | apply Kd.N_alloc | apply Kd.N_drewN | apply Kd.N_drew)); exact Kd.N_mono HO205.out (fun _ hk => ⟨⟨hk.1, hk.2.2⟩, hk.2.1⟩)) hg hat); have n2_ := Aside0.mk (hb); have n3_ := Aside0.mk (ho); clear HI195; clear HO205; clear HB; clear HO198; have HI195 := n0_; have HO205 := n1_; have HB := n2_; have HO212 := n3_; clear n0_ n1_ n2_ n3_; clear ho hb hg hat; obtain ⟨Ao12, co12, eo12⟩ := Kd.N_slice HO212.out; subst eo12) | ((with_reducible refine gate_callee (f := 19) rfl ?_); refine goesL_ (some 11) rfl rfl Tryz.func19 (by kernel_rfl) rfl #[.slice Ao12 y210.length co12] rfl (by (try simp only [List.map_toArray, List.map_cons, List.map_nil]); first | done | rfl | (simp only [List.length_drop, List.length_take]; rfl)) ?_; (with_reducible refine (scan_Merge.calls (fun k_ => ((w.heap.size ≤ k_) ∧ k_ ≠ g195)) _ _ y210 t213 _ ?side1 A6.out).mono ?_); (case side1 => exact Kd.N_V (HO212.out)); rintro e w13 ⟨v214, rfl, ho0, hb⟩; refine ⟨_, rfl, ?_⟩; have n0_ := Aside0.mk (Kd.N_below (by (with_reducible repeat (first | apply Kd.N_alloc | apply Kd.N_drewN | apply Kd.N_drew)); exact HO205.out) hb); have n1_ := Aside0.mk (Kd.N_below (by (with_reducible repeat (first | apply Kd.N_alloc | apply Kd.N_drewN | apply Kd.N_drew)); exact HO212.out) hb); have n2_ := Aside0.mk (Kd.V_lower (Kd.V_mono (ok' := fun k_ => (w.heap.size ≤ k_) ∧ k_ ≠ g195) ho0 (fun k_ hk_ => ⟨Or.elim hk_ (fun hs_ => hs_.1) (fun hn_ => (Nat.le_trans (below_size (by repeat (first | (with_reducible first | exact HB.out | apply below_alloc | apply pw_below_drewN | apply below_drew1 | refine below_set ?_ (IsS56.ge HI195.out)) | exact HB.out))) hn_)), Or.elim hk_ (fun hs_ => hs_.2) (fun hn_ => (IsS56.fresh (by repeat (first | (with_reducible first | exact HI195.out | apply IsS56.alloc | apply IsS56.drewN | apply IsS56.drew | apply IsS56.set_0 | apply IsS56.set_1 | apply IsS56.set_2 | apply IsS56.set_3) | exact HI195.out)) k_ hn_))⟩)) (below_size (by repeat (first | (with_reducible first | exact HB.out | apply below_alloc | apply pw_below_drewN | apply below_drew1 | refine below_set ?_ (IsS56.ge HI195.out)) | exact HB.out)))); have n3_ := Aside0.mk (IsS56.below (by repeat (first | (with_reducible first | exact HI195.out | apply IsS56.alloc | apply IsS56.drewN | apply IsS56.drew | apply IsS56.set_0 | apply IsS56.set_1 | apply IsS56.set_2 | apply IsS56.set_3) | exact HI195.out)) hb); have n4_ := Aside0.mk (below_step (by repeat (first | (with_reducible first | exact HB.out | apply below_alloc | apply pw_below_drewN | apply below_drew1 | refine below_set ?_ (IsS56.ge HI195.out)) | exact HB.out)) hb); clear HO205; clear HO212; clear HI195; clear HB; have HO205 := n0_; have HO212 := n1_; have HO215 := n2_; have HI195 := n3_; have HB := n4_; clear n0_ n1_ n2_ n3_ n4_; (try clear hb); (try clear hb2); (try clear hk); (try clear hi); (try clear ho0)))
    go_ret
    exact ⟨_, by first | rfl | (simp [errW_none, errW_some] <;> rfl) | (simp [*, errW_none, errW_some] <;> rfl), by (with_reducible repeat (first | apply Kd.V_alloc | apply Kd.V_drewN | apply Kd.V_drew)); exact Kd.V_mono HO215.out (fun _ hk => hk.1), by repeat (first | (with_reducible first | exact HB.out | apply below_alloc | apply pw_below_drewN | apply below_drew1 | refine below_set ?_ (IsS56.ge HI195.out)) | exact HB.out)⟩
  · rw [if_neg c5] at H
    exact absurd H (by simp)
end Go.Proofs.YtoacojkmclngmaaGreatDoor.Pz
