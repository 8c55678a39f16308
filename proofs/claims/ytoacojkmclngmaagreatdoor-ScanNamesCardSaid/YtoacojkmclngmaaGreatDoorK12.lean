/- Texts of the session, one behind the other: what the code computes, function by function, and its contracts. -/
import Derived.Lib.Hide
import Derived.Test.YtoacojkmclngmaaGreatDoorK1
import Derived.Test.YtoacojkmclngmaaGreatDoorK2
import Derived.Test.YtoacojkmclngmaaGreatDoorK3
import Derived.Test.YtoacojkmclngmaaGreatDoorK4
import Derived.Test.YtoacojkmclngmaaGreatDoorK5
import Derived.Test.YtoacojkmclngmaaGreatDoorK6
import Derived.Test.YtoacojkmclngmaaGreatDoorK7
import Derived.Test.YtoacojkmclngmaaGreatDoorK8
import Derived.Test.YtoacojkmclngmaaGreatDoorK9
import Derived.Test.YtoacojkmclngmaaGreatDoorK10
import Derived.Test.YtoacojkmclngmaaGreatDoorK11
/- However a document is cut: what the scanner tells of the parts, put together, is what it tells of the whole. -/
namespace Go.Proofs.YtoacojkmclngmaaGreatDoor.Pz
open Go.RowKit Go.Proofs.YtoacojkmclngmaaGreatDoorW.PrintWords Go.Proofs.YtoacojkmclngmaaGreatDoorW.PrintLast Go.Proofs.YtoacojkmclngmaaGreatDoorW.PrintMore
set_option linter.unusedVariables false
set_option linter.unusedSimpArgs false
abbrev Tok := S33
def tT (d : ByteArray) : Tok := ⟨1, ByteArray.empty, d, [], false⟩
def mrg1 (out : List Tok) (t : Tok) : List Tok :=
  if t.f0 = 1 ∧ t.f2.toList = [] then out
  else if t.f0 = 1 ∧ 0 < out.length ∧ (rd_T33 out ((out.length : Int) - 1)).f0 = 1 then
    out.set (out.length - 1) ⟨1, (rd_T33 out ((out.length : Int) - 1)).f1, (rd_T33 out ((out.length : Int) - 1)).f2 ++ t.f2, (rd_T33 out ((out.length : Int) - 1)).f3, (rd_T33 out ((out.length : Int) - 1)).f4⟩
  else out ++ [t]
def mrgF (out l : List Tok) : List Tok := l.foldl mrg1 out
theorem rd_last (o : List Tok) (x : Tok) : rd_T33 (o ++ [x]) (((o ++ [x]).length : Int) - 1) = x := by
  unfold rd_T33
  have : ((((o ++ [x]).length : Nat) : Int) - 1).toNat = o.length := by simp
  rw [this]
  simp
theorem set_last (o : List Tok) (x y : Tok) : (o ++ [x]).set ((o ++ [x]).length - 1) y = o ++ [y] := by
  have : (o ++ [x]).length - 1 = o.length := by simp
  rw [this]
  simp
theorem mrg1_empty (out : List Tok) (t : Tok) (h : t.f0 = 1) (h2 : t.f2.size = 0) : mrg1 out t = out := by
  unfold mrg1
  rw [if_pos ⟨h, (toList_nil _).2 h2⟩]
theorem mrg1_last (o : List Tok) (x t : Tok) (h : t.f0 = 1) (h2 : t.f2.size ≠ 0) (hx : x.f0 = 1) : mrg1 (o ++ [x]) t = o ++ [⟨1, x.f1, x.f2 ++ t.f2, x.f3, x.f4⟩] := by
  unfold mrg1
  rw [if_neg (fun c => h2 ((toList_nil _).1 c.2)), rd_last, if_pos ⟨h, by simp, hx⟩, set_last]
theorem mrg1_new (o : List Tok) (t : Tok) (h2 : t.f0 = 1 → t.f2.size ≠ 0) (hx : t.f0 = 1 → ∀ o' x, o = o' ++ [x] → x.f0 ≠ 1) : mrg1 o t = o ++ [t] := by
  unfold mrg1
  rw [if_neg (fun c => h2 c.1 ((toList_nil _).1 c.2)), if_neg (fun c => by
    rcases List.eq_nil_or_concat o with h | ⟨o', x, h⟩
    · rw [h] at c; exact absurd c.2.1 (by simp)
    · rw [List.concat_eq_append] at h
      have := c.2.2
      rw [h, rd_last] at this
      exact hx c.1 o' x h this)]
theorem ends_or (o : List Tok) : (∃ o' x, o = o' ++ [x] ∧ x.f0 = 1) ∨ (∀ o' x, o = o' ++ [x] → x.f0 ≠ 1) := by
  rcases List.eq_nil_or_concat o with h | ⟨o', x, h⟩
  · right; intro o2 y e; rw [h] at e; exact absurd e (by simp)
  · rw [List.concat_eq_append] at h
    by_cases hx : x.f0 = 1
    · left; exact ⟨o', x, h, hx⟩
    · right; intro o2 y e
      rw [h] at e
      have := (List.append_inj' e rfl).2
      simp at this
      rw [← this]; exact hx
def Eqv (l l' : List Tok) : Prop := ∀ out, mrgF out l = mrgF out l'
theorem Eqv.refl (l : List Tok) : Eqv l l := fun _ => rfl
theorem Eqv.symm {l l' : List Tok} (h : Eqv l l') : Eqv l' l := fun o => (h o).symm
theorem Eqv.trans {l l' l'' : List Tok} (h : Eqv l l') (h2 : Eqv l' l'') : Eqv l l'' := fun o => (h o).trans (h2 o)
theorem Eqv.app {a a' b b' : List Tok} (h : Eqv a a') (h2 : Eqv b b') : Eqv (a ++ b) (a' ++ b') := fun o => by
  unfold mrgF
  rw [List.foldl_append, List.foldl_append]
  have e1 := h o
  unfold mrgF at e1
  rw [e1]
  exact h2 _
theorem eqv_empty : Eqv [tT ByteArray.empty] [] := fun o => mrg1_empty o _ rfl rfl
theorem eqv_text (a b : ByteArray) : Eqv [tT a, tT b] [tT (a ++ b)] := fun o => by
  show mrg1 (mrg1 o (tT a)) (tT b) = mrg1 o (tT (a ++ b))
  have hsz : (a ++ b).size = a.size + b.size := ByteArray.size_append
  by_cases ha : a.size = 0
  · rw [mrg1_empty o _ rfl ha, ba_nil ha, ByteArray.empty_append]
  · by_cases hb : b.size = 0
    · rw [mrg1_empty _ (tT b) rfl hb, ba_nil hb, ByteArray.append_empty]
    · rcases ends_or o with ⟨o', x, h, hx⟩ | h
      · rw [h, mrg1_last o' x (tT a) rfl ha hx, mrg1_last o' _ (tT b) rfl hb rfl, mrg1_last o' x (tT (a ++ b)) rfl (by show (a ++ b).size ≠ 0; omega) hx]
        show o' ++ [(⟨1, x.f1, (x.f2 ++ a) ++ b, x.f3, x.f4⟩ : Tok)] = o' ++ [⟨1, x.f1, x.f2 ++ (a ++ b), x.f3, x.f4⟩]
        rw [ByteArray.append_assoc]
      · rw [mrg1_new o (tT a) (fun _ => ha) (fun _ => h), mrg1_last o (tT a) (tT b) rfl hb rfl, mrg1_new o (tT (a ++ b)) (fun _ => by show (a ++ b).size ≠ 0; omega) (fun _ => h)]
        rfl
def tsz (l : List Tok) : Nat := (l.map fun t => t.f2.size).sum
theorem tsz_append (a b : List Tok) : tsz (a ++ b) = tsz a + tsz b := by unfold tsz; rw [List.map_append, List.sum_append]
theorem mergeStep_eq (out : List Tok) (t : Tok) (h : tsz out + t.f2.size ≤ 140737488355328) (hl : out.length < 1000000000) : mergeStep out t = some (mrg1 out t) ∧ tsz (mrg1 out t) ≤ tsz out + t.f2.size ∧ (mrg1 out t).length ≤ out.length + 1 := by
  by_cases h1 : t.f0 = 1 ∧ t.f2.toList = []
  · unfold mergeStep mrg1
    rw [if_pos h1, if_pos h1]
    exact ⟨rfl, Nat.le_add_right _ _, Nat.le_succ _⟩
  · by_cases h2 : t.f0 = 1 ∧ 0 < out.length ∧ (rd_T33 out ((out.length : Int) - 1)).f0 = 1
    · obtain ⟨o', x, ho⟩ : ∃ o' x, out = o' ++ [x] := by
        rcases List.eq_nil_or_concat out with h | ⟨o', x, h⟩
        · rw [h] at h2; exact absurd h2.2.1 (by simp)
        · exact ⟨o', x, by rw [List.concat_eq_append] at h; exact h⟩
      subst ho
      have ht : tsz (o' ++ [x]) = tsz o' + x.f2.size := by rw [tsz_append]; simp [tsz]
      unfold mergeStep mrg1
      rw [if_neg h1, if_neg h1, if_pos h2, if_pos h2, rd_last, set_last]
      refine ⟨if_pos (by omega), ?_, by simp⟩
      rw [tsz_append, ht]
      have : tsz [(⟨1, x.f1, x.f2 ++ t.f2, x.f3, x.f4⟩ : Tok)] = x.f2.size + t.f2.size := by simp [tsz]
      omega
    · unfold mergeStep mrg1
      rw [if_neg h1, if_neg h1, if_neg h2, if_neg h2]
      refine ⟨if_pos (by omega), ?_, by simp⟩
      rw [tsz_append]; simp [tsz]
theorem mergeGo_eq : ∀ (l out : List Tok), tsz out + tsz l ≤ 140737488355328 → out.length + l.length < 1000000000 → mergeGo out l = some (mrgF out l)
  | [], out, _, _ => rfl
  | t :: l, out, h, hl => by
    have ht : tsz (t :: l) = t.f2.size + tsz l := by simp [tsz]
    rw [ht] at h
    rw [List.length_cons] at hl
    obtain ⟨e1, e2, e3⟩ := mergeStep_eq out t (by omega) (by omega)
    rw [mergeGo, e1, Option.bind_some, mergeGo_eq l _ (by omega) (by omega)]
    rfl
theorem tagGo_data (name : ByteArray) : ∀ (k : Nat) (rest : ByteArray) (sh : Bool) (attrs : List S36) (r : TagRes), tagGo name k rest sh attrs = some r → r.2.2.1 = ByteArray.empty
  | 0, _, _, _, _, h => by unfold tagGo at h; cases h
  | k + 1, rest, sh, attrs, r, h => by
    unfold tagGo at h
    split at h
    · obtain rfl := Option.some.inj h; rfl
    · obtain ⟨b, _, h⟩ := Option.bind_eq_some_iff.1 h
      obtain ⟨n, _, h⟩ := Option.bind_eq_some_iff.1 h
      split at h
      · exact tagGo_data name k _ _ _ r h
      · split at h
        · obtain ⟨x, _, h⟩ := Option.bind_eq_some_iff.1 h
          obtain rfl := Option.some.inj h; rfl
        · obtain ⟨q, _, h⟩ := Option.bind_eq_some_iff.1 h
          split at h
          · obtain ⟨x, _, h⟩ := Option.bind_eq_some_iff.1 h
            obtain rfl := Option.some.inj h; rfl
          · split at h
            · obtain ⟨x, _, h⟩ := Option.bind_eq_some_iff.1 h
              exact tagGo_data name k _ _ _ r h
            · obtain ⟨a, _, h⟩ := Option.bind_eq_some_iff.1 h
              split at h
              · split at h
                · exact tagGo_data name k _ _ _ r h
                · exact tagGo_data name k _ _ _ r h
              · cases h
theorem tag_data (rest : ByteArray) (sh : Bool) (r : TagRes) (h : scan_reader_tag.f rest sh = some r) : r.2.2.1 = ByteArray.empty := by
  unfold scan_reader_tag.f at h
  obtain ⟨u, _, h⟩ := Option.bind_eq_some_iff.1 h
  obtain ⟨n, _, h⟩ := Option.bind_eq_some_iff.1 h
  exact tagGo_data _ _ _ _ _ _ h
theorem heal_size (a d : ByteArray) (ha : a.size ≤ 1000000) (h : scan_heal.f a = some d) : d.size ≤ 3 * a.size := by
  rw [heal_spec a ha] at h
  obtain rfl := Option.some.inj h
  rw [size_mk, ← len_list a]
  exact healL_length _
theorem until_size (u e a b : ByteArray) (sh sh' : Bool) (hz : u.size ≤ 1000000) (he : e.size ≤ 100) (ha : e.data.toList.all (fun b => decide (b.toNat < 128)) = true) (h : scan_reader_until.f u sh e = some (a, b, sh')) : a.size + b.size = u.size := by
  obtain ⟨a', b', s', e1, e2⟩ := until_tot u sh e hz he ha
  rw [h] at e1
  simp only [Option.some.injEq, Prod.mk.injEq] at e1
  obtain ⟨rfl, rfl, rfl⟩ := e1
  exact e2
theorem remark_data (rest : ByteArray) (sh : Bool) (r : TagRes) (hz : rest.size ≤ 100000) (h : scan_reader_remark.f rest sh = some r) : r.2.2.1.size ≤ 3 * rest.size := by
  unfold scan_reader_remark.f at h
  obtain ⟨q, hq, h⟩ := Option.bind_eq_some_iff.1 h
  obtain ⟨x, hx, h⟩ := Option.bind_eq_some_iff.1 h
  obtain ⟨y, _, h⟩ := Option.bind_eq_some_iff.1 h
  obtain rfl := Option.some.inj h
  obtain ⟨q1, q2, q3⟩ := q
  have := until_size rest _ q1 q2 sh q3 (by omega) (by decide) (by decide) hq
  have := heal_size q1 x (by omega) hx
  show x.size ≤ _
  omega
theorem doctype_data (rest : ByteArray) (sh : Bool) (r : TagRes) (h : scan_reader_doctype.f rest sh = some r) : r.2.2.1.size = 0 := by
  unfold scan_reader_doctype.f at h
  obtain ⟨q, hq, h⟩ := Option.bind_eq_some_iff.1 h
  obtain ⟨x, hx, h⟩ := Option.bind_eq_some_iff.1 h
  obtain ⟨y, _, h⟩ := Option.bind_eq_some_iff.1 h
  split at h
  · obtain ⟨z, _, h⟩ := Option.bind_eq_some_iff.1 h
    obtain rfl := Option.some.inj h; rfl
  · obtain rfl := Option.some.inj h; rfl
theorem skip_piece (u : ByteArray) (sh : Bool) (n : Int) (k : ByteArray × ByteArray × Bool) (h : scan_reader_skip.f u sh n = some k) : k.1.size ≤ u.size ∧ k.2.1.size ≤ u.size := by
  unfold scan_reader_skip.f at h
  split at h
  · obtain rfl := Option.some.inj h
    simp only
    rw [ByteArray.size_extract, ByteArray.size_extract]
    omega
  · cases h
theorem cut_data (rest : ByteArray) (sh : Bool) (i n : Int) (r : MkRes) (hz : rest.size ≤ 100000) (h : commentCut rest sh i n = some r) : r.2.2.1.size ≤ 3 * rest.size := by
  unfold commentCut at h
  obtain ⟨q, hq, h⟩ := Option.bind_eq_some_iff.1 h
  obtain ⟨x, hx, h⟩ := Option.bind_eq_some_iff.1 h
  obtain ⟨y, _, h⟩ := Option.bind_eq_some_iff.1 h
  obtain rfl := Option.some.inj h
  have := skip_piece _ _ _ _ hq
  have := heal_size q.1 x (by omega) hx
  show x.size ≤ _
  omega
theorem comment_data (rest : ByteArray) (sh : Bool) (r : MkRes) (hz : rest.size ≤ 100000) (h : scan_reader_comment.f rest sh = some r) : r.2.2.1.size ≤ 3 * rest.size := by
  unfold scan_reader_comment.f at h
  split at h
  case isFalse => cases h
  obtain ⟨p, _, h⟩ := Option.bind_eq_some_iff.1 h
  split at h
  · obtain ⟨k, _, h⟩ := Option.bind_eq_some_iff.1 h
    obtain rfl := Option.some.inj h; exact Nat.zero_le _
  · unfold comment1 at h
    obtain ⟨p, _, h⟩ := Option.bind_eq_some_iff.1 h
    split at h
    · obtain ⟨k, _, h⟩ := Option.bind_eq_some_iff.1 h
      obtain rfl := Option.some.inj h; exact Nat.zero_le _
    · unfold commentRest at h
      obtain ⟨i1, _, h⟩ := Option.bind_eq_some_iff.1 h
      obtain ⟨i2, _, h⟩ := Option.bind_eq_some_iff.1 h
      split at h
      · exact cut_data rest sh _ _ r hz h
      · split at h
        · exact cut_data rest sh _ _ r hz h
        · unfold commentShort at h
          obtain ⟨q, hq, h⟩ := Option.bind_eq_some_iff.1 h
          obtain ⟨s, hs, h⟩ := Option.bind_eq_some_iff.1 h
          obtain ⟨x, hx, h⟩ := Option.bind_eq_some_iff.1 h
          obtain rfl := Option.some.inj h
          have h1 := (skip_piece _ _ _ _ hq).1
          obtain ⟨s', e, h2⟩ := strip_tot q.1 (by omega)
          rw [hs] at e
          obtain rfl := Option.some.inj e
          have := heal_size s x (by omega) hx
          show x.size ≤ _
          omega
theorem markup_data (u : ByteArray) (sh : Bool) (r : MkRes) (hz : u.size ≤ 100000) (h : scan_reader_markup.f u sh = some r) : r.2.2.1.size ≤ 3 * u.size := by
  unfold scan_reader_markup.f at h
  split at h
  case isFalse => cases h
  obtain ⟨l, _, h⟩ := Option.bind_eq_some_iff.1 h
  split at h
  · obtain ⟨k, _, h⟩ := Option.bind_eq_some_iff.1 h
    rw [tag_data _ _ _ h]; exact Nat.zero_le _
  · split at h
    · obtain ⟨k, hk, h⟩ := Option.bind_eq_some_iff.1 h
      have := (skip_piece _ _ _ _ hk).2
      have := remark_data _ _ _ (by omega) h
      omega
    · split at h
      · obtain ⟨b1, _, h⟩ := Option.bind_eq_some_iff.1 h
        split at h
        · obtain ⟨k, hk, h⟩ := Option.bind_eq_some_iff.1 h
          have := (skip_piece _ _ _ _ hk).2
          have := comment_data _ _ _ (by omega) h
          omega
        · obtain ⟨b2, _, h⟩ := Option.bind_eq_some_iff.1 h
          split at h
          · obtain ⟨k, hk, h⟩ := Option.bind_eq_some_iff.1 h
            rw [doctype_data _ _ _ h]; exact Nat.zero_le _
          · obtain ⟨k, hk, h⟩ := Option.bind_eq_some_iff.1 h
            have := (skip_piece _ _ _ _ hk).2
            have := remark_data _ _ _ (by omega) h
            omega
      · obtain ⟨k, hk, h⟩ := Option.bind_eq_some_iff.1 h
        have hk2 := (skip_piece _ _ _ _ hk).2
        split at h
        · obtain ⟨p, _, h⟩ := Option.bind_eq_some_iff.1 h
          split at h
          · obtain ⟨j, _, h⟩ := Option.bind_eq_some_iff.1 h
            obtain rfl := Option.some.inj h; exact Nat.zero_le _
          · split at h
            · obtain ⟨l2, _, h⟩ := Option.bind_eq_some_iff.1 h
              split at h
              · obtain ⟨t, ht, h⟩ := Option.bind_eq_some_iff.1 h
                have := tag_data _ _ _ ht
                obtain rfl := Option.some.inj h
                unfold markupEnd
                split
                · exact Nat.zero_le _
                · rw [this]; exact Nat.zero_le _
              · have := remark_data _ _ _ (by omega) h
                omega
            · cases h
        · have := remark_data _ _ _ (by omega) h
          omega
theorem decode_size (s r : ByteArray) (hz : s.size ≤ 100000) (h : charref_Decode.f s false = some r) : r.size ≤ 200000000 := by
  obtain ⟨l, e, _, hl⟩ := decode_spec s hz
  rw [h] at e
  obtain rfl := Option.some.inj e
  exact hl
theorem text_spec (nm : ByteArray) (raw : Int) (s : ByteArray) (hz : s.size ≤ 30000) : ∃ r, scan_mode_text.f nm raw s = some r ∧ r.size ≤ 200000000 ∧ (s.size = 0 → r = ByteArray.empty) := by
  unfold scan_mode_text.f
  obtain ⟨d, e⟩ := decode_tot s false (by omega)
  have e2 := heal_spec s (by omega)
  have hl := healL_length s.data.toList
  rw [len_list] at hl
  have hs3 : ((⟨(healL s.data.toList).toArray⟩ : ByteArray)).size ≤ 100000 := by rw [size_mk]; omega
  obtain ⟨d2, e3⟩ := decode_tot ⟨(healL s.data.toList).toArray⟩ false (by omega)
  have hd0 : charref_Decode.f ByteArray.empty false = some ByteArray.empty := by kernel_rfl
  have hh0 : s.size = 0 → (⟨(healL s.data.toList).toArray⟩ : ByteArray) = ByteArray.empty := fun h0 => by rw [ba_nil h0]; rfl
  rw [e, e2, Option.bind_some, Option.bind_some, e3, Option.bind_some]
  split
  · split
    · exact ⟨d, rfl, decode_size s d (by omega) e, fun h0 => by rw [ba_nil h0, hd0] at e; exact (Option.some.inj e).symm⟩
    · exact ⟨s, rfl, by omega, fun h0 => ba_nil h0⟩
  · split
    · exact ⟨d2, rfl, decode_size _ d2 hs3 e3, fun h0 => by rw [hh0 h0, hd0] at e3; exact (Option.some.inj e3).symm⟩
    · exact ⟨_, rfl, by omega, hh0⟩
def CutOk (raw : Int) (a b : ByteArray) : Prop := b.size = 0 ∨ Amp b ∨ Closed a.data.toList ∨ 2 ≤ raw
theorem decode_cut (a b da db : ByteArray) (h : b.size = 0 ∨ Amp b ∨ Closed a.data.toList) (hz : a.size + b.size ≤ 100000) (ha : charref_Decode.f a false = some da) (hd : charref_Decode.f b false = some db) : charref_Decode.f (a ++ b) false = some (da ++ db) := by
  rcases h with h | h | h
  · exact decode_split a b da db (.inl h) hz ha hd
  · exact decode_split a b da db (.inr h) hz ha hd
  · exact decode_closed a b da db h hz ha hd
theorem text_cut (nm : ByteArray) (raw : Int) (a b ra rb : ByteArray) (h : CutOk raw a b) (hr : 0 ≤ raw) (hz : a.size + b.size ≤ 30000) (ha : scan_mode_text.f nm raw a = some ra) (hb : scan_mode_text.f nm raw b = some rb) :
    scan_mode_text.f nm raw (a ++ b) = some (ra ++ rb) := by
  unfold scan_mode_text.f at ha hb ⊢
  have hla := healL_length a.data.toList
  have hlb := healL_length b.data.toList
  rw [len_list] at hla hlb
  by_cases h0 : raw = 0
  · subst h0
    rw [if_pos rfl, if_pos (by decide)] at ha hb ⊢
    obtain ⟨da, e1, ha⟩ := Option.bind_eq_some_iff.1 ha
    obtain ⟨db, e2, hb⟩ := Option.bind_eq_some_iff.1 hb
    obtain rfl := Option.some.inj ha
    obtain rfl := Option.some.inj hb
    rw [decode_cut a b da db (by
      rcases h with h | h | h | h
      · exact .inl h
      · exact .inr (.inl h)
      · exact .inr (.inr h)
      · exact absurd h (by decide)) (by omega) e1 e2]
    rfl
  · rw [if_neg h0] at ha hb ⊢
    rw [heal_spec a (by omega), Option.bind_some] at ha
    rw [heal_spec b (by omega), Option.bind_some] at hb
    rw [heal_split a b _ _ (by omega) (heal_spec a (by omega)) (heal_spec b (by omega)), Option.bind_some]
    by_cases h2 : raw < 2
    · rw [if_pos h2] at ha hb ⊢
      obtain ⟨da, e1, ha⟩ := Option.bind_eq_some_iff.1 ha
      obtain ⟨db, e2, hb⟩ := Option.bind_eq_some_iff.1 hb
      obtain rfl := Option.some.inj ha
      obtain rfl := Option.some.inj hb
      rw [decode_cut _ _ da db (by
        rcases h with h | h | h | h
        · left
          rw [ba_nil h]; rfl
        · obtain ⟨m, hm⟩ := h
          exact .inr (.inl ⟨healL m, healL_amp hm⟩)
        · exact .inr (.inr (healL_closed _ h))
        · omega) (by rw [size_mk, size_mk]; omega) e1 e2]
      rfl
    · rw [if_neg h2] at ha hb ⊢
      obtain rfl := Option.some.inj ha
      obtain rfl := Option.some.inj hb
      rfl
def fnd (hit : ByteArray → Option Bool) : Nat → ByteArray → Nat × Bool
  | 0, _ => (0, false)
  | k + 1, s => match hit s with
    | some b => (0, b)
    | none => ((fnd hit k (s.extract 1 s.size)).1 + 1, (fnd hit k (s.extract 1 s.size)).2)
structure Firm (hit : ByteArray → Option Bool) : Prop where
  miss : ∀ s t, 0 < s.size → hit s = none → hit (s ++ t) = none
  sure : ∀ s t, hit s = some true → hit (s ++ t) = some true
theorem tail1 (s : ByteArray) : (s.extract 1 s.size).size = s.size - 1 := by rw [ByteArray.size_extract]; omega
theorem fnd_le (hit : ByteArray → Option Bool) : ∀ (k : Nat) (s : ByteArray), (fnd hit k s).1 ≤ k ∧ ((fnd hit k s).2 = true → (fnd hit k s).1 < k)
  | 0, s => ⟨Nat.le_refl _, fun h => by cases h⟩
  | k + 1, s => by
    unfold fnd
    cases hit s with
    | some b => exact ⟨Nat.zero_le _, fun _ => Nat.succ_pos _⟩
    | none =>
      have ih := fnd_le hit k (s.extract 1 s.size)
      exact ⟨Nat.succ_le_succ ih.1, fun h => Nat.succ_lt_succ (ih.2 h)⟩
theorem fnd_from (hit : ByteArray → Option Bool) : ∀ (c k : Nat) (s : ByteArray), s.size = k → c ≤ (fnd hit k s).1 → fnd hit (k - c) (s.extract c s.size) = ((fnd hit k s).1 - c, (fnd hit k s).2)
  | 0, k, s, hk, h => by
    have e : s.extract 0 s.size = s := ba_ext (by rw [ba_tail, List.drop_zero])
    rw [e]; rfl
  | c + 1, 0, s, hk, h => by have := (fnd_le hit 0 s).1; omega
  | c + 1, k + 1, s, hk, h => by
    rw [show k + 1 - (c + 1) = k - c by omega]
    rw [fnd] at h ⊢
    cases hh : hit s with
    | some b => rw [hh] at h; exact absurd h (by simp)
    | none =>
      rw [hh] at h
      simp only at h ⊢
      have ih := fnd_from hit c k (s.extract 1 s.size) (by rw [tail1]; omega) (by omega)
      have e : (s.extract 1 s.size).extract c (s.extract 1 s.size).size = s.extract (c + 1) s.size := by
        apply ba_ext
        rw [ba_tail, ba_tail, ba_tail, List.drop_drop, Nat.add_comm]
      rw [e] at ih
      rw [show ∀ x : Nat, x + 1 - (c + 1) = x - c from fun x => by omega]
      exact ih
theorem fnd_more (hit : ByteArray → Option Bool) (hf : Firm hit) (t : ByteArray) : ∀ (k e : Nat) (s : ByteArray), s.size = k → (fnd hit k s).1 ≤ (fnd hit (k + e) (s ++ t)).1 ∧ ((fnd hit k s).2 = true → fnd hit (k + e) (s ++ t) = fnd hit k s)
  | 0, e, s, hk => ⟨Nat.zero_le _, fun h => by cases h⟩
  | k + 1, e, s, hk => by
    rw [show k + 1 + e = (k + e) + 1 by omega]
    unfold fnd
    cases hh : hit s with
    | some b =>
      refine ⟨Nat.zero_le _, fun h => ?_⟩
      simp only at h
      subst h
      rw [hf.sure s t hh]
    | none =>
      rw [hf.miss s t (by omega) hh]
      simp only
      rw [ext_tail s t 1 (by omega)]
      have ih := fnd_more hit hf t k e (s.extract 1 s.size) (by rw [tail1]; omega)
      exact ⟨Nat.succ_le_succ ih.1, fun h => by rw [ih.2 h]⟩
def hit0 (s : ByteArray) : Option Bool := match scan_opens.f 2 s with
  | some (is, more) => if is = true ∨ more = true then some is else none
  | none => none
def hitR (nm : ByteArray) (raw : Int) : ByteArray → Option Bool := if raw = 3 then fun _ => none else if raw = 1 ∨ raw = 2 then fun s => endAt (tagEnd nm) s 0 else hit0
theorem opens_more (s t : ByteArray) (h : 0 < s.size) : (scan_opens.f 2 s = some (false, false) → scan_opens.f 2 (s ++ t) = some (false, false)) ∧ (∀ m, scan_opens.f 2 s = some (true, m) → scan_opens.f 2 (s ++ t) = some (true, m)) := by
  have hsz : (s ++ t).size = s.size + t.size := ByteArray.size_append
  have hb0 : bt (s ++ t) 0 = bt s 0 := bt_app s t 0 h
  have hne : ∀ x : ByteArray, 0 < x.size → scan_opens.f 2 x = scan_opens.j0 2 x (bt x 0 != 60) := fun x hx => by
    unfold scan_opens.f
    rw [if_neg (fun e => by have := (toList_nil x).1 e; omega), if_pos (by omega)]
  rw [hne s h, hne (s ++ t) (by omega), hb0, opens_j0, opens_j0]
  cases hx : (bt s 0 != 60) with
  | true => exact ⟨fun _ => rfl, fun m h => by simp at h⟩
  | false =>
    rw [if_neg Bool.false_ne_true, if_neg Bool.false_ne_true]
    by_cases h1 : (s.size : Int) = 1
    · rw [if_pos h1]
      exact ⟨fun h => by simp at h, fun m h => by simp at h⟩
    · rw [if_neg h1, if_neg (show ¬ (((s ++ t).size : Nat) : Int) = 1 by omega)]
      by_cases h2 : s.toList = ([60, 47] : List UInt8)
      · rw [if_pos h2]
        exact ⟨fun h => by simp at h, fun m h => by simp at h⟩
      · have hb1 : bt (s ++ t) 1 = bt s 1 := bt_app s t 1 (by omega)
        rw [if_neg h2, if_pos (by omega), hb1]
        by_cases h3 : (s ++ t).toList = ([60, 47] : List UInt8)
        · exfalso
          rw [Lib.toList_data] at h3
          have hl := congrArg List.length h3
          rw [len_list] at hl
          have : (s ++ t).size = 2 := hl
          have ht0 : t = ByteArray.empty := ba_nil (by omega)
          rw [ht0, ByteArray.append_empty] at h3
          exact h2 (by rw [Lib.toList_data]; exact h3)
        · rw [if_neg h3, if_pos (show (1 : Int) < (((s ++ t).size : Nat) : Int) by omega)]
          exact ⟨fun h => h, fun m h => h⟩
theorem hit0_firm : Firm hit0 where
  miss := fun s t hs h => by
    unfold hit0 at h ⊢
    obtain ⟨is, more, e, _, _⟩ := opens_tot s
    rw [e] at h
    simp only at h
    split at h
    · cases h
    · rename_i hn
      have e1 : is = false := by cases is with | true => exact absurd (.inl rfl) hn | false => rfl
      have e2 : more = false := by cases more with | true => exact absurd (.inr rfl) hn | false => rfl
      subst e1; subst e2
      rw [(opens_more s t hs).1 e]
      simp
  sure := fun s t h => by
    unfold hit0 at h ⊢
    obtain ⟨is, more, e, _, hp⟩ := opens_tot s
    rw [e] at h
    simp only at h
    split at h
    · have := Option.some.inj h
      subst this
      rw [(opens_more s t (by have := (hp rfl).1; omega)).2 more e]
      simp
    · cases h
theorem data_head (s t : ByteArray) (h : 0 < s.size) : (s ++ t).data.toList[0]? = s.data.toList[0]? := by
  rw [ba_append, List.getElem?_append_left (by rw [len_list]; exact h)]
theorem ext_all (s : ByteArray) : s.extract 0 s.size = s := ba_ext (by rw [ba_tail, List.drop_zero])
theorem low_low (c : UInt8) : low (low c) = low c := by
  have key : ∀ n : Fin 256, low (low (UInt8.ofNat n.val)) = low (UInt8.ofNat n.val) := by decide +kernel
  have := key ⟨c.toNat, c.toNat_lt⟩
  have e : UInt8.ofNat c.toNat = c := by simp
  simpa only [e] using this
theorem lowerB_list (s : ByteArray) : (lowerB s).data.toList = s.data.toList.map low := rfl
theorem lowerB_size (s : ByteArray) : (lowerB s).size = s.size := by rw [← len_list, lowerB_list, List.length_map, len_list]
theorem beginsV_iff (s w : ByteArray) : beginsV s w = true ↔ w.size ≤ s.size ∧ (s.data.toList.take w.size).map low = w.data.toList := by
  unfold beginsV
  rw [Bool.and_eq_true, decide_eq_true_eq, beq_iff_eq, Lib.toList_data, Lib.toList_data, lowerB_list, ba_head]
theorem endAt_firm (e : ByteArray) (he : 0 < e.size) : Firm (fun s => endAt e s 0) where
  miss := fun s t hs h => by
    have hsz : (s ++ t).size = s.size + t.size := ByteArray.size_append
    replace h : endAt e s 0 = none := h
    show endAt e (s ++ t) 0 = none
    unfold endAt at h ⊢
    rw [data_head s t hs]
    rw [ext_all] at h
    rw [ext_all]
    by_cases h60 : s.data.toList[0]? = some 60
    · rw [if_pos h60] at h ⊢
      by_cases h1 : s.size - 0 ≤ e.size
      · rw [if_pos h1] at h
        have hb : ¬ beginsV e (lowerB s) = true := fun hc => by rw [if_pos hc] at h; cases h
        rw [beginsV_iff, lowerB_size, lowerB_list] at hb
        by_cases h2 : (s ++ t).size - 0 ≤ e.size
        · rw [if_pos h2, if_neg (fun hc => hb (by
            rw [beginsV_iff, lowerB_size, lowerB_list] at hc
            refine ⟨by omega, ?_⟩
            have := congrArg (List.take s.size) hc.2
            rw [← List.map_take, List.take_take, ba_append, List.map_append, List.take_append_of_le_length (by rw [List.length_map, len_list]; exact Nat.le_refl _), List.take_of_length_le (l := s.data.toList.map low) (by rw [List.length_map, len_list]; exact Nat.le_refl _)] at this
            rw [show min s.size (s ++ t).size = s.size by omega] at this
            exact this))]
        · rw [if_neg h2, if_neg (fun hc => hb (by
            obtain ⟨hc1, hc2⟩ := (beginsV_iff _ _).1 hc.1
            refine ⟨by omega, ?_⟩
            have := congrArg (List.take s.size) hc2
            rw [← List.map_take, List.take_take, ba_append, show min s.size e.size = s.size by omega, List.take_append_of_le_length (by rw [len_list]; exact Nat.le_refl _), List.take_of_length_le (by rw [len_list]; exact Nat.le_refl _)] at this
            have h3 := congrArg (List.map low) this
            rw [List.map_map] at h3
            have h4 : s.data.toList.map (low ∘ low) = s.data.toList.map low := List.map_congr_left (fun c _ => low_low c)
            rw [h4] at h3
            rw [h3]))]
      · rw [if_neg h1] at h
        rw [if_neg (by omega)]
        have hg : (s ++ t).data.toList.getD (0 + e.size) 0 = s.data.toList.getD (0 + e.size) 0 := by
          rw [List.getD_eq_getElem?_getD, List.getD_eq_getElem?_getD, ba_append, List.getElem?_append_left (by rw [len_list]; omega)]
        rw [hg, beginsV_ext s t e (by omega)]
        exact h
    · rw [if_neg h60]
  sure := fun s t h => by
    have hsz : (s ++ t).size = s.size + t.size := ByteArray.size_append
    replace h : endAt e s 0 = some true := h
    show endAt e (s ++ t) 0 = some true
    unfold endAt at h ⊢
    rw [ext_all] at h
    rw [ext_all]
    by_cases h60 : s.data.toList[0]? = some 60
    · rw [if_pos h60] at h
      have hs : 0 < s.size := by
        have := (List.getElem?_eq_some_iff.1 h60).1
        rw [len_list] at this
        exact this
      rw [data_head s t hs, if_pos h60]
      by_cases h1 : s.size - 0 ≤ e.size
      · rw [if_pos h1] at h
        split at h <;> simp at h
      · rw [if_neg h1] at h
        rw [if_neg (by omega)]
        have hg : (s ++ t).data.toList.getD (0 + e.size) 0 = s.data.toList.getD (0 + e.size) 0 := by
          rw [List.getD_eq_getElem?_getD, List.getD_eq_getElem?_getD, ba_append, List.getElem?_append_left (by rw [len_list]; omega)]
        rw [hg, beginsV_ext s t e (by omega)]
        exact h
    · rw [if_neg h60] at h; cases h
theorem tagEnd_size (nm : ByteArray) : 2 ≤ (tagEnd nm).size := by
  unfold tagEnd; rw [ByteArray.size_append]; exact Nat.le_add_right _ _
theorem hitR_firm (nm : ByteArray) (raw : Int) : Firm (hitR nm raw) := by
  unfold hitR
  split
  · exact ⟨fun _ _ _ _ => rfl, fun _ _ h => by cases h⟩
  · split
    · exact endAt_firm _ (by have := tagEnd_size nm; omega)
    · exact hit0_firm
theorem fnd_none : ∀ (k : Nat) (s : ByteArray), fnd (fun _ => none) k s = (k, false)
  | 0, s => rfl
  | k + 1, s => by
    unfold fnd
    simp only
    rw [fnd_none k]
theorem endAt_tail (e s : ByteArray) (n : Nat) (h : n ≤ s.size) : endAt e s n = endAt e (s.extract n s.size) 0 := by
  have hsz : (s.extract n s.size).size = s.size - n := by rw [ByteArray.size_extract]; omega
  unfold endAt
  rw [ext_all, ba_tail, List.getElem?_drop, Nat.add_zero, hsz, Nat.sub_zero]
  rw [List.getD_eq_getElem?_getD, List.getD_eq_getElem?_getD, List.getElem?_drop, Nat.zero_add]
theorem endsGo_fnd (e s : ByteArray) : ∀ (k n : Nat), n + k = s.size → endsGo e s k n = (((n + (fnd (fun s => endAt e s 0) k (s.extract n s.size)).1 : Nat) : Int), (fnd (fun s => endAt e s 0) k (s.extract n s.size)).2)
  | 0, n, h => by
    unfold endsGo fnd
    have : n = s.size := by omega
    rw [this]; rfl
  | k + 1, n, h => by
    unfold endsGo fnd
    rw [endAt_tail e s n (by omega)]
    cases endAt e (s.extract n s.size) 0 with
    | some b => rfl
    | none =>
      simp only
      have e1 : (s.extract n s.size).extract 1 (s.extract n s.size).size = s.extract (n + 1) s.size := by
        apply ba_ext
        rw [ba_tail, ba_tail, ba_tail, List.drop_drop]
      rw [e1, endsGo_fnd e s k (n + 1) (by omega), show n + 1 + (fnd (fun s => endAt e s 0) k (s.extract (n + 1) s.size)).1 = n + ((fnd (fun s => endAt e s 0) k (s.extract (n + 1) s.size)).1 + 1) by omega]
theorem runGo_fnd (s : ByteArray) : ∀ (k n : Nat), n + k = s.size → runGo s k n = some (((n + (fnd hit0 k (s.extract n s.size)).1 : Nat) : Int), (fnd hit0 k (s.extract n s.size)).2)
  | 0, n, h => by
    unfold runGo fnd
    have : n = s.size := by omega
    rw [this]; rfl
  | k + 1, n, h => by
    unfold runGo fnd
    obtain ⟨is, more, e, _, _⟩ := opens_tot (s.extract n s.size)
    have e1 : (s.extract n s.size).extract 1 (s.extract n s.size).size = s.extract (n + 1) s.size := by
      apply ba_ext
      rw [ba_tail, ba_tail, ba_tail, List.drop_drop]
    have hh : hit0 (s.extract n s.size) = if is = true ∨ more = true then some is else none := by unfold hit0; rw [e]
    rw [e, Option.bind_some, hh]
    by_cases hc : is = true ∨ more = true
    · rw [if_pos hc, if_pos hc]; rfl
    · rw [if_neg hc, if_neg hc]
      simp only
      rw [e1, runGo_fnd s k (n + 1) (by omega), show n + 1 + (fnd hit0 k (s.extract (n + 1) s.size)).1 = n + ((fnd hit0 k (s.extract (n + 1) s.size)).1 + 1) by omega]
def runV (nm : ByteArray) (raw : Int) (x : ByteArray) : Nat × Bool := fnd (hitR nm raw) x.size x
theorem run_val (x : ByteArray) (sh : Bool) (nm : ByteArray) (raw : Int) (h : x.size ≤ 100000) (hn : nm.size ≤ 400000) (hr : 0 ≤ raw ∧ raw ≤ 3) : scan_Scanner_run.f x sh nm raw = some (((runV nm raw x).1 : Int), (runV nm raw x).2, x, sh, nm, raw) := by
  unfold scan_Scanner_run.f runV hitR
  by_cases h3 : raw = 3
  · rw [if_pos h3, if_pos h3, fnd_none]
  · rw [if_neg h3, if_neg h3]
    by_cases h1 : raw = 1 ∨ raw = 2
    · rw [if_pos h1, if_pos h1]
      unfold scan_mode_ends.f
      rw [if_pos ⟨by omega, by omega⟩, Option.bind_some, endsGo_fnd _ _ _ 0 (by omega), ext_all, Nat.zero_add]
    · rw [if_neg h1, if_neg h1, if_pos (by omega), runGo_fnd _ _ 0 (by omega), ext_all, Nat.zero_add, Option.bind_some]
theorem runV_le (nm : ByteArray) (raw : Int) (x : ByteArray) : (runV nm raw x).1 ≤ x.size ∧ ((runV nm raw x).2 = true → (runV nm raw x).1 < x.size) := fnd_le _ _ _
theorem runV_from (nm : ByteArray) (raw : Int) (x : ByteArray) (c : Nat) (h : c ≤ (runV nm raw x).1) : runV nm raw (x.extract c x.size) = ((runV nm raw x).1 - c, (runV nm raw x).2) := by
  have := fnd_from (hitR nm raw) c x.size x rfl h
  unfold runV at *
  have hsz : (x.extract c x.size).size = x.size - c := by rw [ByteArray.size_extract]; omega
  rw [hsz]; exact this
theorem runV_more (nm : ByteArray) (raw : Int) (x t : ByteArray) : (runV nm raw x).1 ≤ (runV nm raw (x ++ t)).1 ∧ ((runV nm raw x).2 = true → runV nm raw (x ++ t) = runV nm raw x) := by
  have := fnd_more (hitR nm raw) (hitR_firm nm raw) t x.size t.size x rfl
  unfold runV
  rw [ByteArray.size_append]
  exact this
end Go.Proofs.YtoacojkmclngmaaGreatDoor.Pz
/- However a document is cut: the steps, and all that is told. -/
namespace Go.Proofs.YtoacojkmclngmaaGreatDoor.Pz
open Go.RowKit Go.Proofs.YtoacojkmclngmaaGreatDoorW.PrintWords Go.Proofs.YtoacojkmclngmaaGreatDoorW.PrintLast Go.Proofs.YtoacojkmclngmaaGreatDoorW.PrintMore
set_option linter.unusedVariables false
set_option linter.unusedSimpArgs false
structure Okay (x nm : ByteArray) (raw : Int) : Prop where
  size : x.size ≤ 30000
  name : nm.size ≤ 400000
  lo : 0 ≤ raw
  hi : raw ≤ 3
def lastN (nm : ByteArray) (raw : Int) (x : ByteArray) : Nat := if (runV nm raw x).2 = true then (runV nm raw x).1 else x.size
theorem lastN_le (nm : ByteArray) (raw : Int) (x : ByteArray) : (runV nm raw x).1 ≤ lastN nm raw x ∧ lastN nm raw x ≤ x.size := by
  have h := (runV_le nm raw x).1
  unfold lastN
  split
  · exact ⟨Nat.le_refl _, h⟩
  · exact ⟨h, Nat.le_refl _⟩
theorem step_last (x nm : ByteArray) (raw : Int) (h : Okay x nm raw) :
    (0 < lastN nm raw x ∧ ∃ d, scan_mode_text.f nm raw (x.extract 0 (lastN nm raw x)) = some d ∧ scan_Scanner_step.f x false nm raw true = some ([tT d], true, x.extract (lastN nm raw x) x.size, false, nm, raw)) ∨
    (lastN nm raw x = 0 ∧ ((x.size = 0 ∧ scan_Scanner_step.f x false nm raw true = some ([], false, x, false, nm, raw)) ∨ (0 < x.size ∧ (runV nm raw x) = (0, true) ∧ scan_Scanner_step.f x false nm raw true = stepMark x false nm raw true))) := by
  obtain ⟨hz, hn, h0, h3⟩ := h
  unfold scan_Scanner_step.f
  have hle := runV_le nm raw x
  rw [run_val x false nm raw (by omega) hn ⟨h0, h3⟩, Option.bind_some]
  simp only
  have hh : stepHold x raw true ((runV nm raw x).1 : Int) (runV nm raw x).2 = some ((lastN nm raw x : Int), 0) := by
    unfold stepHold lastN
    by_cases hs : (runV nm raw x).2 = true
    · rw [if_pos hs, if_pos hs]
    · rw [if_neg hs, if_neg hs, if_pos rfl]
  rw [hh, Option.bind_some]
  unfold stepRest
  have hl := lastN_le nm raw x
  simp only
  rw [if_pos ⟨by omega, by omega⟩]
  by_cases hp : 0 < lastN nm raw x
  · left
    refine ⟨hp, ?_⟩
    rw [if_pos (by omega)]
    unfold stepText
    have e : ((lastN nm raw x : Int) - 0) = ((lastN nm raw x : Nat) : Int) := by omega
    rw [e, skip_val x false (lastN nm raw x) hl.2, Option.bind_some]
    obtain ⟨d, hd, _⟩ := text_spec nm raw (x.extract 0 (lastN nm raw x)) (by rw [ByteArray.size_extract]; omega)
    refine ⟨d, hd, ?_⟩
    simp only
    rw [hd, Option.bind_some]
    rfl
  · right
    have hn0 : lastN nm raw x = 0 := by omega
    refine ⟨hn0, ?_⟩
    rw [if_neg (by omega)]
    by_cases hx : x.size = 0
    · left
      rw [if_pos (.inr ((toList_nil x).2 hx))]
      exact ⟨hx, rfl⟩
    · right
      have hs : (runV nm raw x).2 = true := by
        cases hs : (runV nm raw x).2 with
        | true => rfl
        | false =>
          unfold lastN at hn0
          rw [hs, if_neg Bool.false_ne_true] at hn0
          exact absurd hn0 hx
      have hm : (runV nm raw x).1 = 0 := by omega
      refine ⟨by omega, by rw [← hm, ← hs], ?_⟩
      rw [if_neg (fun c => by
        rcases c with c | c
        · rw [hs] at c; cases c
        · exact hx ((toList_nil x).1 c))]
theorem step_part (x nm : ByteArray) (raw : Int) (h : Okay x nm raw) :
    (scan_Scanner_step.f x false nm raw false = some ([], false, x, false, nm, raw)) ∨
    (∃ (c : Nat) (d : ByteArray), 0 < c ∧ c ≤ (runV nm raw x).1 ∧ scan_mode_text.f nm raw (x.extract 0 c) = some d ∧ scan_Scanner_step.f x false nm raw false = some ([tT d], true, x.extract c x.size, false, nm, raw) ∧
      (((runV nm raw x).2 = true ∧ c = (runV nm raw x).1) ∨ Closed (x.extract 0 c).data.toList ∨ 2 ≤ raw ∨ (c < (runV nm raw x).1 ∧ bt x (c : Int) = 38))) ∨
    (0 < x.size ∧ runV nm raw x = (0, true) ∧ scan_Scanner_step.f x false nm raw false = stepMark x false nm raw false) := by
  obtain ⟨hz, hn, h0, h3⟩ := h
  unfold scan_Scanner_step.f
  have hle := runV_le nm raw x
  rw [run_val x false nm raw (by omega) hn ⟨h0, h3⟩, Option.bind_some]
  simp only
  obtain ⟨m, hm⟩ : ∃ m, m = (runV nm raw x).1 := ⟨_, rfl⟩
  obtain ⟨sure, hs⟩ : ∃ s, s = (runV nm raw x).2 := ⟨_, rfl⟩
  rw [← hm, ← hs] at hle ⊢
  obtain ⟨c, e2, k1, k2, k3⟩ : ∃ (c : Nat), stepHold x raw false (m : Int) sure = some ((m : Int), (m : Int) - c) ∧ c ≤ m ∧ (sure = true → c = m) ∧ ((sure = true ∧ c = m) ∨ Closed (x.extract 0 c).data.toList ∨ 2 ≤ raw ∨ (c < m ∧ bt x (c : Int) = 38)) := by
    unfold stepHold
    cases sure with
    | true =>
      rw [if_pos rfl]
      exact ⟨m, by rw [Int.sub_self], Nat.le_refl _, fun _ => rfl, .inl ⟨rfl, rfl⟩⟩
    | false =>
      rw [if_neg Bool.false_ne_true, if_neg Bool.false_ne_true]
      have hop : ∀ y : ByteArray, y = x.extract 0 m → y.size = m → (∃ c : Nat, (scan_open.f y).bind (fun o => some ((m : Int), o)) = some ((m : Int), (m : Int) - c) ∧ c ≤ m ∧ (Closed (x.extract 0 c).data.toList ∨ (c < m ∧ bt x (c : Int) = 38))) := fun y hy hys => by
        rcases open_spec y (by omega) with ⟨e, hc⟩ | ⟨a, ha, e, hb⟩
        · refine ⟨m, ?_, Nat.le_refl _, .inl ?_⟩
          · rw [e, Option.bind_some, Int.sub_self]
          · rw [← hy]; exact hc
        · refine ⟨a, ?_, by omega, .inr ⟨by omega, ?_⟩⟩
          · rw [e, Option.bind_some, hys]
          · rw [hy] at hb
            have := bt_ext x 0 m a (by omega) (by omega)
            rw [Nat.zero_add] at this
            rw [← this]; exact hb
      by_cases hc : (m : Int) = (x.size : Int) ∧ raw < 2
      · rw [if_pos hc]
        have hmx : m = x.size := by omega
        obtain ⟨c, e, c1, c2⟩ := hop x (by rw [hmx, ext_all]) hmx.symm
        exact ⟨c, e, c1, (fun h => by cases h), .inr (c2.imp id .inr)⟩
      · rw [if_neg hc]
        by_cases h2 : raw < 2
        · rw [if_pos h2, if_pos ⟨by omega, by omega⟩, Int.toNat_natCast]
          obtain ⟨c, e, c1, c2⟩ := hop (x.extract 0 m) rfl (by rw [ByteArray.size_extract]; omega)
          exact ⟨c, e, c1, (fun h => by cases h), .inr (c2.imp id .inr)⟩
        · rw [if_neg h2]
          exact ⟨m, by rw [Int.sub_self], Nat.le_refl _, (fun h => by cases h), .inr (.inr (.inl (by omega)))⟩
  rw [e2, Option.bind_some]
  unfold stepRest
  have e3 : (m : Int) - ((m : Int) - c) = (c : Int) := by omega
  simp only
  rw [e3, if_pos ⟨by omega, by omega⟩]
  by_cases hp : 0 < c
  · right; left
    rw [if_pos (by omega)]
    unfold stepText
    rw [skip_val x false c (by omega), Option.bind_some]
    obtain ⟨d, hd, _⟩ := text_spec nm raw (x.extract 0 c) (by rw [ByteArray.size_extract]; omega)
    refine ⟨c, d, hp, k1, hd, ?_, k3⟩
    simp only
    rw [hd, Option.bind_some]
    rfl
  · rw [if_neg (by omega)]
    by_cases hcc : sure = false ∨ x.toList = []
    · left
      rw [if_pos hcc]
    · right; right
      have hs2 : sure = true := by cases sure with | true => rfl | false => exact absurd (.inl rfl) hcc
      have hx : x.size ≠ 0 := fun e => hcc (.inr ((toList_nil x).2 e))
      have hm0 : m = 0 := by have := k2 hs2; omega
      refine ⟨by omega, ?_, ?_⟩
      · rw [show runV nm raw x = ((runV nm raw x).1, (runV nm raw x).2) from rfl, ← hm, ← hs, hm0, hs2]
      · rw [if_neg hcc]
theorem sure_markup (x nm : ByteArray) (raw : Int) (h : Okay x nm raw) (hr : runV nm raw x = (0, true)) : 2 ≤ x.size ∧ (bt x 1 = 47 → 3 ≤ x.size) := by
  obtain ⟨m, sure, e, g1, g2, g3⟩ := run_tot x false nm raw (by have := h.size; omega) h.name ⟨h.lo, h.hi⟩
  rw [run_val x false nm raw (by have := h.size; omega) h.name ⟨h.lo, h.hi⟩, hr] at e
  simp only [Option.some.injEq, Prod.mk.injEq] at e
  obtain ⟨e1, e2, _⟩ := e
  have hm : m = 0 := by omega
  subst hm
  subst e2
  have := g2 rfl
  exact ⟨by omega, fun h47 => by have := this.2 h47; omega⟩
theorem mark_ext (x nm : ByteArray) (raw : Int) (h : Okay x nm raw) (hr : runV nm raw x = (0, true)) (ts : List Tok) (r3 n3 : ByteArray) (sh3 : Bool) (w3 : Int) (e : stepMark x false nm raw false = some (ts, true, r3, sh3, n3, w3)) :
    sh3 = false ∧ ∀ (t : ByteArray) (last : Bool), x.size + t.size ≤ 30000 → stepMark (x ++ t) false nm raw last = some (ts, true, r3 ++ t, false, n3, w3) := by
  obtain ⟨h2, h3⟩ := sure_markup x nm raw h hr
  unfold stepMark at e
  obtain ⟨m, hm, e⟩ := Option.bind_eq_some_iff.1 e
  obtain ⟨m1, m2, m3, m4, m5, m6, m7⟩ := m
  simp only at e
  cases m7 with
  | true => rw [if_pos ⟨rfl, trivial⟩] at e; simp at e
  | false =>
    rw [if_neg (fun c => by cases c.1)] at e
    have key : ∀ (t : ByteArray), x.size + t.size ≤ 30000 → scan_reader_markup.f (x ++ t) false = some (m1, m2, m3, m4, m5, m6 ++ t, false) := fun t ht => markup_ext x t m1 m2 m3 m4 m5 m6 (by omega) h2 h3 hm
    by_cases hk : m1 = 0
    · rw [if_pos hk] at e
      simp only [Option.some.injEq, Prod.mk.injEq] at e
      obtain ⟨rfl, _, rfl, rfl, rfl, rfl⟩ := e
      refine ⟨rfl, fun t last ht => ?_⟩
      unfold stepMark
      rw [key t ht, Option.bind_some]
      simp only
      rw [if_neg (fun c => by cases c.1), if_pos hk]
    · rw [if_neg hk] at e
      by_cases hk2 : m1 = 2
      · rw [if_pos hk2] at e
        obtain ⟨r, hr, e⟩ := Option.bind_eq_some_iff.1 e
        simp only [Option.some.injEq, Prod.mk.injEq] at e
        obtain ⟨rfl, _, rfl, rfl, rfl, rfl⟩ := e
        refine ⟨rfl, fun t last ht => ?_⟩
        unfold stepMark
        rw [key t ht, Option.bind_some]
        simp only
        rw [if_neg (fun c => by cases c.1), if_neg hk, if_pos hk2, hr, Option.bind_some]
      · rw [if_neg hk2] at e
        simp only [Option.some.injEq, Prod.mk.injEq] at e
        obtain ⟨rfl, _, rfl, rfl, rfl, rfl⟩ := e
        refine ⟨rfl, fun t last ht => ?_⟩
        unfold stepMark
        rw [key t ht, Option.bind_some]
        simp only
        rw [if_neg (fun c => by cases c.1), if_neg hk, if_neg hk2]
def tok : Nat → ByteArray → ByteArray → Int → Option (List Tok)
  | 0, _, _, _ => none
  | k + 1, x, nm, raw => (scan_Scanner_step.f x false nm raw true).bind fun r => if r.2.1 = true then (tok k r.2.2.1 r.2.2.2.2.1 r.2.2.2.2.2).map (r.1 ++ ·) else some []
def Big : Nat := 200000000
theorem tsz_one (t : Tok) : tsz [t] = t.f2.size := by simp [tsz]
theorem step_data (x nm : ByteArray) (raw : Int) (last : Bool) (h : Okay x nm raw) (r : StepRes) (e : scan_Scanner_step.f x false nm raw last = some r) : tsz r.1 ≤ Big := by
  have hmark : ∀ r, stepMark x false nm raw last = some r → tsz r.1 ≤ Big := fun r e => by
    unfold stepMark at e
    obtain ⟨m, hm, e⟩ := Option.bind_eq_some_iff.1 e
    have hd := markup_data x false m (by have := h.size; omega) hm
    have hz := h.size
    split at e
    · obtain rfl := Option.some.inj e; exact Nat.zero_le _
    · split at e
      · obtain rfl := Option.some.inj e; exact Nat.zero_le _
      · split at e
        · obtain ⟨q, _, e⟩ := Option.bind_eq_some_iff.1 e
          obtain rfl := Option.some.inj e
          rw [tsz_one]
          show m.2.2.1.size ≤ 200000000
          omega
        · obtain rfl := Option.some.inj e
          rw [tsz_one]
          show m.2.2.1.size ≤ 200000000
          omega
  have htext : ∀ (n : Nat) (d : ByteArray), scan_mode_text.f nm raw (x.extract 0 n) = some d → tsz [tT d] ≤ Big := fun n d hd => by
    obtain ⟨d', e, hl, _⟩ := text_spec nm raw (x.extract 0 n) (by rw [ByteArray.size_extract]; have := h.size; omega)
    rw [hd] at e
    obtain rfl := Option.some.inj e
    rw [tsz_one]; exact hl
  cases last with
  | true =>
    rcases step_last x nm raw h with ⟨_, d, hd, e2⟩ | ⟨_, ⟨_, e2⟩ | ⟨_, _, e2⟩⟩
    · rw [e2] at e; obtain rfl := Option.some.inj e; exact htext _ d hd
    · rw [e2] at e; obtain rfl := Option.some.inj e; exact Nat.zero_le _
    · rw [e2] at e; exact hmark r e
  | false =>
    rcases step_part x nm raw h with e2 | ⟨c, d, _, _, hd, e2, _⟩ | ⟨_, _, e2⟩
    · rw [e2] at e; obtain rfl := Option.some.inj e; exact Nat.zero_le _
    · rw [e2] at e; obtain rfl := Option.some.inj e; exact htext _ d hd
    · rw [e2] at e; exact hmark r e
theorem step_ok (x nm : ByteArray) (raw : Int) (last : Bool) (h : Okay x nm raw) : ∃ ts more r3 n3 w3, scan_Scanner_step.f x false nm raw last = some (ts, more, r3, false, n3, w3) ∧ ts.length ≤ 1 ∧ tsz ts ≤ Big ∧ Okay r3 n3 w3 ∧ r3.size ≤ x.size ∧ (more = true → r3.size < x.size) := by
  obtain ⟨r, e, ok⟩ := step_tot x false nm raw last (by have := h.size; omega) h.name ⟨h.lo, h.hi⟩
  obtain ⟨r1, r2, r3, r4, r5, r6⟩ := r
  have o4 := ok.rsh
  simp only at o4
  subst o4
  have o2 := ok.le
  simp only at o2
  exact ⟨r1, r2, r3, r5, r6, e, ok.len, step_data x nm raw last h _ e, ⟨by have := h.size; omega, ok.rname, ok.rraw.1, ok.rraw.2⟩, o2, ok.lt⟩
theorem tok_tot : ∀ (n : Nat) (x nm : ByteArray) (raw : Int), x.size = n → Okay x nm raw → ∃ T, (∀ d, tok (n + 1 + d) x nm raw = some T) ∧ tsz T ≤ n * Big ∧ T.length ≤ n := by
  intro n
  induction n using Nat.strongRecOn with
  | ind n ih =>
    intro x nm raw hx h
    obtain ⟨ts, more, r3, n3, w3, e, l1, s1, ok, le, lt⟩ := step_ok x nm raw true h
    cases more with
    | false =>
      refine ⟨[], fun d => ?_, Nat.zero_le _, Nat.zero_le _⟩
      rw [show n + 1 + d = (n + d) + 1 by omega, tok, e, Option.bind_some]
      rfl
    | true =>
      have hlt := lt rfl
      obtain ⟨T, hT, b1, b2⟩ := ih r3.size (by omega) r3 n3 w3 rfl ok
      refine ⟨ts ++ T, fun d => ?_, ?_, ?_⟩
      · rw [show n + 1 + d = (r3.size + 1 + (n - r3.size - 1 + d)) + 1 by omega, tok, e, Option.bind_some]
        simp only
        rw [if_pos trivial, hT]
        rfl
      · rw [tsz_append]
        obtain ⟨q, hq⟩ : ∃ q, n = r3.size + 1 + q := ⟨n - r3.size - 1, by omega⟩
        rw [hq, Nat.add_mul, Nat.add_mul, Nat.one_mul]
        omega
      · rw [List.length_append]; omega
def Tk (x nm : ByteArray) (raw : Int) : List Tok := (tok (x.size + 1) x nm raw).getD []
theorem tk_spec (x nm : ByteArray) (raw : Int) (h : Okay x nm raw) : (∀ d, tok (x.size + 1 + d) x nm raw = some (Tk x nm raw)) ∧ tsz (Tk x nm raw) ≤ x.size * Big ∧ (Tk x nm raw).length ≤ x.size := by
  obtain ⟨T, hT, b1, b2⟩ := tok_tot x.size x nm raw rfl h
  have : Tk x nm raw = T := by
    unfold Tk
    rw [hT 0]; rfl
  rw [this]
  exact ⟨hT, b1, b2⟩
theorem tk_step (x nm : ByteArray) (raw : Int) (h : Okay x nm raw) (ts : List Tok) (r3 n3 : ByteArray) (sh : Bool) (w3 : Int) (e : scan_Scanner_step.f x false nm raw true = some (ts, true, r3, sh, n3, w3)) : Tk x nm raw = ts ++ Tk r3 n3 w3 := by
  obtain ⟨ts', more, r3', n3', w3', e', l1, s1, ok, le, lt⟩ := step_ok x nm raw true h
  rw [e] at e'
  simp only [Option.some.injEq, Prod.mk.injEq] at e'
  obtain ⟨rfl, rfl, rfl, _, rfl, rfl⟩ := e'
  have hlt := lt rfl
  have h1 := (tk_spec x nm raw h).1 0
  rw [Nat.add_zero, tok, e, Option.bind_some] at h1
  simp only at h1
  rw [if_pos trivial, show x.size = r3.size + 1 + (x.size - r3.size - 1) by omega, (tk_spec r3 n3 w3 ok).1] at h1
  exact (Option.some.inj h1).symm
theorem tk_stop (x nm : ByteArray) (raw : Int) (h : Okay x nm raw) (r : StepRes) (e : scan_Scanner_step.f x false nm raw true = some r) (h2 : r.2.1 = false) : Tk x nm raw = [] := by
  have h1 := (tk_spec x nm raw h).1 0
  rw [Nat.add_zero, tok, e, Option.bind_some, h2] at h1
  exact (Option.some.inj h1).symm
theorem tk_text (x nm : ByteArray) (raw : Int) (h : Okay x nm raw) (d : ByteArray) (hd : scan_mode_text.f nm raw (x.extract 0 (lastN nm raw x)) = some d) : Eqv (Tk x nm raw) (tT d :: Tk (x.extract (lastN nm raw x) x.size) nm raw) := by
  rcases step_last x nm raw h with ⟨_, d', hd', e⟩ | ⟨h0, _⟩
  · rw [hd] at hd'
    obtain rfl := Option.some.inj hd'
    rw [tk_step x nm raw h _ _ _ _ _ e]
    exact Eqv.refl _
  · rw [h0] at hd ⊢
    rw [ext_all]
    obtain ⟨d', hd', _, hd0⟩ := text_spec nm raw (x.extract 0 0) (by rw [ByteArray.size_extract]; omega)
    rw [hd] at hd'
    obtain rfl := Option.some.inj hd'
    rw [hd0 (by rw [ByteArray.size_extract]; omega)]
    exact Eqv.app (a := []) eqv_empty.symm (Eqv.refl _)
theorem step_more (x nm : ByteArray) (raw : Int) (h : Okay x nm raw) (ts : List Tok) (r3 n3 : ByteArray) (sh : Bool) (w3 : Int) (e : scan_Scanner_step.f x false nm raw false = some (ts, true, r3, sh, n3, w3)) (t : ByteArray) (ht : x.size + t.size ≤ 30000) :
    Eqv (Tk (x ++ t) nm raw) (ts ++ Tk (r3 ++ t) n3 w3) := by
  have hsz : (x ++ t).size = x.size + t.size := ByteArray.size_append
  have hy : Okay (x ++ t) nm raw := ⟨by omega, h.name, h.lo, h.hi⟩
  rcases step_part x nm raw h with e2 | ⟨c, d, c0, cm, hd, e2, hcut⟩ | ⟨x0, hrun, e2⟩
  · rw [e2] at e; simp at e
  · rw [e2] at e
    simp only [Option.some.injEq, Prod.mk.injEq] at e
    obtain ⟨rfl, _, rfl, _, rfl, rfl⟩ := e
    obtain ⟨y, hyd⟩ : ∃ y, y = x ++ t := ⟨_, rfl⟩
    have hle := (runV_le nm raw x).1
    obtain ⟨hm1, hm2⟩ := runV_more nm raw x t
    rw [← ext_tail x t c (by omega)]
    have hA : x.extract 0 c = (x ++ t).extract 0 c := (ext_head x t c (by omega)).symm
    rw [hA] at hd
    have hA' : Closed (x.extract 0 c).data.toList → Closed ((x ++ t).extract 0 c).data.toList := fun q => by rw [← hA]; exact q
    have hb : bt (x ++ t) (c : Int) = 38 ∨ True := .inr trivial
    have hbt : c < (runV nm raw x).1 → bt x (c : Int) = 38 → bt (x ++ t) (c : Int) = 38 := fun q1 q2 => by rw [bt_app x t c (by omega)]; exact q2
    rw [← hyd] at hsz hy hm1 hm2 hd hA' hbt ⊢
    have hN := lastN_le nm raw y
    obtain ⟨n', hn'⟩ : ∃ n', n' = lastN nm raw y := ⟨_, rfl⟩
    rw [← hn'] at hN
    obtain ⟨z, hz⟩ : ∃ z, z = y.extract c y.size := ⟨_, rfl⟩
    have hzs : z.size = y.size - c := by rw [hz, ByteArray.size_extract]; omega
    have hzr : runV nm raw z = ((runV nm raw y).1 - c, (runV nm raw y).2) := by rw [hz]; exact runV_from nm raw y c (by omega)
    have hzn : lastN nm raw z = n' - c := by
      rw [hn']
      unfold lastN
      rw [hzr]
      simp only
      split
      · rfl
      · exact hzs
    have hzo : Okay z nm raw := ⟨by have := hy.size; omega, h.name, h.lo, h.hi⟩
    rw [← hz]
    obtain ⟨db, hdb, _⟩ := text_spec nm raw (z.extract 0 (n' - c)) (by rw [ByteArray.size_extract]; have := hzo.size; omega)
    have hAB : y.extract 0 n' = y.extract 0 c ++ z.extract 0 (n' - c) := by
      apply ba_ext
      rw [ba_append, ba_head, ba_head, ba_head, hz, ba_tail, ← List.take_add, show c + (n' - c) = n' by omega]
    have hlast : z.extract (n' - c) z.size = y.extract n' y.size := by
      apply ba_ext
      rw [ba_tail, ba_tail, hz, ba_tail, List.drop_drop, show c + (n' - c) = n' by omega]
    have hcutok : CutOk raw (y.extract 0 c) (z.extract 0 (n' - c)) := by
      rcases hcut with ⟨q1, q2⟩ | q | q | ⟨q1, q2⟩
      · left
        have := hm2 q1
        have hnc : n' = c := by
          rw [hn']
          unfold lastN
          rw [this, q1, if_pos rfl]
          exact q2.symm
        rw [ByteArray.size_extract]; omega
      · exact .inr (.inr (.inl (hA' q)))
      · exact .inr (.inr (.inr q))
      · right; left
        have hb := hbt q1 q2
        have hc2 : c < y.data.toList.length := by rw [len_list]; omega
        refine ⟨((y.data.toList.drop (c + 1)).take (n' - c - 1)), ?_⟩
        rw [ba_head, hz, ba_tail, List.drop_eq_getElem_cons hc2, show n' - c = (n' - c - 1) + 1 by omega, List.take_succ_cons]
        congr 1
        rw [bt_list y c (by omega)] at hb
        apply UInt8.toNat_inj.1
        have h38 : (38 : UInt8).toNat = 38 := rfl
        rw [h38]
        omega
    have hAs : (y.extract 0 c).size = c := by rw [ByteArray.size_extract]; omega
    have hBs : (z.extract 0 (n' - c)).size = n' - c := by rw [ByteArray.size_extract]; omega
    have htc := text_cut nm raw _ _ d db hcutok h.lo (by rw [hAs, hBs]; have := hy.size; omega) hd hdb
    rw [← hAB] at htc
    have t1 := tk_text y nm raw hy (d ++ db) (by rw [← hn']; exact htc)
    have t2 := tk_text z nm raw hzo db (by rw [hzn]; exact hdb)
    rw [hzn, hlast] at t2
    rw [← hn'] at t1
    refine t1.trans ?_
    refine Eqv.trans (l' := [tT d, tT db] ++ Tk (y.extract n' y.size) nm raw) (Eqv.app (a := [tT (d ++ db)]) (eqv_text d db).symm (Eqv.refl _)) ?_
    exact Eqv.app (a := [tT d]) (b := tT db :: Tk (y.extract n' y.size) nm raw) (Eqv.refl _) t2.symm
  · rw [e2] at e
    obtain ⟨rfl, hext⟩ := mark_ext x nm raw h hrun ts r3 n3 sh w3 e
    have hr2 := (runV_more nm raw x t).2 (by rw [hrun])
    rw [hrun] at hr2
    rcases step_last (x ++ t) nm raw hy with ⟨h0, _⟩ | ⟨_, ⟨h0, _⟩ | ⟨_, _, e3⟩⟩
    · exfalso
      unfold lastN at h0
      rw [hr2, if_pos rfl] at h0
      exact absurd h0 (by decide)
    · omega
    · rw [hext t true ht] at e3
      rw [tk_step (x ++ t) nm raw hy _ _ _ _ _ e3]
      exact Eqv.refl _
theorem told_part : ∀ (k : Nat) (l : List Tok) (x nm : ByteArray) (raw : Int) (l' : List Tok) (b nm' : ByteArray) (sh' : Bool) (raw' : Int), Okay x nm raw → scan_Scanner_told.l0 k false l x false nm raw = some (l', b, sh', nm', raw') →
    ∃ ts, l' = l ++ ts ∧ sh' = false ∧ Okay b nm' raw' ∧ b.size ≤ x.size ∧ ts.length ≤ x.size - b.size ∧ tsz ts ≤ (x.size - b.size) * Big ∧ ∀ t : ByteArray, x.size + t.size ≤ 30000 → Eqv (Tk (x ++ t) nm raw) (ts ++ Tk (b ++ t) nm' raw')
  | 0, _, _, _, _, _, _, _, _, _, _, h => by rw [scan_Scanner_told.l0] at h; cases h
  | k + 1, l, x, nm, raw, l', b, nm', sh', raw', ho, h => by
    rw [scan_Scanner_told.l0] at h
    obtain ⟨ts, more, r3, n3, w3, e, l1, s1, ok, le, lt⟩ := step_ok x nm raw false ho
    rw [e, Option.bind_some] at h
    simp only at h
    cases more with
    | true =>
      have hlt := lt rfl
      rw [if_pos rfl] at h
      split at h
      case isFalse => cases h
      obtain ⟨ts2, q1, q2, q3, q4, q5, q6, q7⟩ := told_part k _ r3 n3 w3 l' b nm' sh' raw' ok h
      refine ⟨ts ++ ts2, by rw [q1, List.append_assoc], q2, q3, by omega, by rw [List.length_append]; omega, ?_, fun t ht => ?_⟩
      · rw [tsz_append]
        obtain ⟨q, hq⟩ : ∃ q, x.size - b.size = (r3.size - b.size) + 1 + q := ⟨x.size - r3.size - 1, by omega⟩
        rw [hq, Nat.add_mul, Nat.add_mul, Nat.one_mul]
        omega
      · refine (step_more x nm raw ho ts r3 n3 false w3 e t ht).trans ?_
        rw [List.append_assoc]
        exact Eqv.app (Eqv.refl _) (q7 t (by omega))
    | false =>
      have hx : ts = [] ∧ r3 = x ∧ n3 = nm ∧ w3 = raw := by
        rcases step_part x nm raw ho with e2 | ⟨c, d, _, _, _, e2, _⟩ | ⟨x0, hrun, e2⟩
        · rw [e2] at e
          simp only [Option.some.injEq, Prod.mk.injEq] at e
          exact ⟨e.1.symm, e.2.2.1.symm, e.2.2.2.2.1.symm, e.2.2.2.2.2.symm⟩
        · rw [e2] at e; simp at e
        · rw [e2] at e
          unfold stepMark at e
          obtain ⟨m, hm, e⟩ := Option.bind_eq_some_iff.1 e
          split at e
          · simp only [Option.some.injEq, Prod.mk.injEq] at e
            exact ⟨e.1.symm, e.2.2.1.symm, e.2.2.2.2.1.symm, e.2.2.2.2.2.symm⟩
          · split at e
            · simp at e
            · split at e
              · obtain ⟨q, _, e⟩ := Option.bind_eq_some_iff.1 e
                simp at e
              · simp at e
      obtain ⟨rfl, rfl, rfl, rfl⟩ := hx
      rw [if_neg Bool.false_ne_true] at h
      simp only [Option.some.injEq, Prod.mk.injEq] at h
      obtain ⟨rfl, rfl, rfl, rfl, rfl⟩ := h
      exact ⟨[], by rw [List.append_nil], rfl, ho, Nat.le_refl _, Nat.zero_le _, Nat.zero_le _, fun t _ => Eqv.refl _⟩
theorem told_last : ∀ (k : Nat) (l : List Tok) (x nm : ByteArray) (raw : Int) (r : List Tok × ByteArray × Bool × ByteArray × Int), Okay x nm raw → scan_Scanner_told.l0 k true l x false nm raw = some r → r.1 = l ++ Tk x nm raw
  | 0, _, _, _, _, _, _, h => by rw [scan_Scanner_told.l0] at h; cases h
  | k + 1, l, x, nm, raw, r, ho, h => by
    rw [scan_Scanner_told.l0] at h
    obtain ⟨ts, more, r3, n3, w3, e, l1, s1, ok, le, lt⟩ := step_ok x nm raw true ho
    rw [e, Option.bind_some] at h
    simp only at h
    cases more with
    | true =>
      rw [if_pos rfl] at h
      split at h
      case isFalse => cases h
      rw [told_last k _ r3 n3 w3 r ok h, tk_step x nm raw ho ts r3 n3 false w3 e, List.append_assoc]
    | false =>
      rw [if_neg Bool.false_ne_true] at h
      obtain rfl := Option.some.inj h
      rw [tk_stop x nm raw ho _ e rfl, List.append_nil]
theorem tokens_tk (k : Nat) (x : ByteArray) (hz : x.size ≤ 30000) (hk : x.size + 1 ≤ k) : scan_Tokens.f k x = some (mrgF [] (Tk x ByteArray.empty 0)) := by
  have hO : Okay x ByteArray.empty 0 := ⟨hz, by decide, by decide, by decide⟩
  obtain ⟨l1, b, nm, raw, h1, hb1, hb2, hb3, _⟩ := told_tot k false [] x false ByteArray.empty 0 (by omega) (by decide) ⟨by decide, by decide⟩ hk (by simp; omega)
  obtain ⟨ts, q1, q2, q3, q4, q5, q6, q7⟩ := told_part k [] x ByteArray.empty 0 l1 b nm false raw hO h1
  obtain ⟨l2, b2, nm2, raw2, h2, _⟩ := told_tot k true [] b false nm raw (by omega) hb2 hb3 (by omega) (by simp; omega)
  have hl := told_last k [] b nm raw _ q3 h2
  simp only [List.nil_append] at hl q1
  subst q1
  subst hl
  have hb := tk_spec b nm raw q3
  unfold scan_Tokens.f
  rw [show scan_New.f = some (ByteArray.empty, false, ByteArray.empty, 0) from rfl, Option.bind_some]
  simp only
  have hw : scan_Scanner_Write.f k ByteArray.empty false ByteArray.empty 0 x = some (l1, b, false, nm, raw) := by
    unfold scan_Scanner_Write.f
    rw [if_pos (by have : ByteArray.empty.size = 0 := rfl; omega), ByteArray.empty_append]
    unfold scan_Scanner_told.f
    rw [h1, Option.bind_some]
  have hcl : scan_Scanner_Close.f k b false nm raw = some (Tk b nm raw, ⟨#[]⟩, false, ⟨#[]⟩, 0) := by
    unfold scan_Scanner_Close.f scan_Scanner_told.f
    rw [h2, Option.bind_some]
  rw [hw, Option.bind_some]
  simp only
  rw [hcl, Option.bind_some]
  simp only
  rw [if_pos (by omega)]
  have hts : tsz (l1 ++ Tk b nm raw) ≤ 140737488355328 := by
    rw [tsz_append]
    have : (x.size - b.size) * Big + b.size * Big = x.size * Big := by rw [← Nat.add_mul]; congr 1; omega
    have h3 : x.size * Big ≤ 30000 * Big := Nat.mul_le_mul_right _ hz
    have h4 : 30000 * Big ≤ 140737488355328 := by decide
    omega
  have := q7 ByteArray.empty (by show x.size + 0 ≤ _; omega) []
  rw [ByteArray.append_empty, ByteArray.append_empty] at this
  unfold scan_Merge.f
  rw [mergeGo_eq _ [] (by show 0 + _ ≤ _; omega) (by rw [List.length_append]; simp; omega), this]
  rfl
end Go.Proofs.YtoacojkmclngmaaGreatDoor.Pz
namespace Go.Proofs.YtoacojkmclngmaaGreatDoor.Pz
open Go.RowKit Go.Proofs.YtoacojkmclngmaaGreatDoorW.PrintWords Go.Proofs.YtoacojkmclngmaaGreatDoorW.PrintLast Go.Proofs.YtoacojkmclngmaaGreatDoorW.PrintMore
attribute [local go_sem] max2_int min2_int max_two min_two max_three min_three max_four min_four   -- for this text's walks alone
attribute [local go_sem] rune_str
set_option linter.unusedVariables false
set_option linter.unusedSimpArgs false
theorem eqA36 (d : Nat) (w : World) (x0 y0 : ByteArray) (x1 y1 : ByteArray) :
    (Op.equalIn (d + 2) 36 (.agg #[.string x0, .string x1]) (.agg #[.string y0, .string y1])).run Tryz.prog w = .ok (x0.toList == y0.toList && (x1.toList == y1.toList)) w := by
  refine eqA_of Tryz.underlying36 (by kernel_rfl) ?_
  refine eqf_cons (by rfl) (by go_simp; rfl) (by go_simp; rfl) (by go_simp) ?_
  exact eqf_last (by rfl) (by go_simp; rfl) (by go_simp; rfl) (by go_simp)
end Go.Proofs.YtoacojkmclngmaaGreatDoor.Pz
namespace Go.Proofs.YtoacojkmclngmaaGreatDoor.Pz
open Go.RowKit Go.Proofs.YtoacojkmclngmaaGreatDoorW.PrintWords Go.Proofs.YtoacojkmclngmaaGreatDoorW.PrintLast Go.Proofs.YtoacojkmclngmaaGreatDoorW.PrintMore
attribute [local go_sem] max2_int min2_int max_two min_two max_three min_three max_four min_four   -- for this text's walks alone
attribute [local go_sem] rune_str
set_option linter.unusedVariables false
set_option linter.unusedSimpArgs false
attribute [local go_sem high] eqA36
def cribbleref10_SameAttrs.l0 : Nat → List (S36) → List (S36) → Int → Option (Bool)
  | 0, _, _, _ => none
  | k + 1, x0, x1, x5 => if x5 < (x0.length : Int) then (if 0 ≤ x5 then (if x5 < (x1.length : Int) then (if (!((((rd_T36 x0 x5).f0).toList) == (((rd_T36 x1 x5).f0).toList)) || (!((((rd_T36 x0 x5).f1).toList) == (((rd_T36 x1 x5).f1).toList)))) = true then (some false) else (cribbleref10_SameAttrs.l0 k x0 x1 (wrap64 (x5 + 1)))) else (none)) else (none)) else (some true)
def cribbleref10_SameAttrs.f (k : Nat) (l0 : List (S36)) (l1 : List (S36)) : Option (Bool) := if (l0.length : Int) = (l1.length : Int) then (cribbleref10_SameAttrs.l0 k l0 l1 0) else (some false)
theorem cribbleref10_SameAttrs.mono_l : ∀ k, (∀ y0 y1 y2, LeO (cribbleref10_SameAttrs.l0 k y0 y1 y2) (cribbleref10_SameAttrs.l0 (k + 1) y0 y1 y2))
  | 0 => fun _ _ _ r h => by simp [cribbleref10_SameAttrs.l0] at h
  | k + 1 => by
    have ih0 := cribbleref10_SameAttrs.mono_l k
    · intro y0 y1 y2
      unfold cribbleref10_SameAttrs.l0
      repeat' first
      | (with_reducible exact ih0 _ _ _)
      | (with_reducible exact LeO.refl _)
      | (with_reducible exact LeO.none _)
      | (with_reducible refine LeO.ite ?_ ?_)
      | (with_reducible refine LeO.bind ?_ (fun _ => ?_))
      | exact ih0 _ _ _
      | exact LeO.none _
      | refine LeO.ite ?_ ?_
      | refine LeO.bind ?_ (fun _ => ?_)
theorem cribbleref10_SameAttrs.mono : ∀ a0 a1 k, LeO (cribbleref10_SameAttrs.f k a0 a1) (cribbleref10_SameAttrs.f (k + 1) a0 a1) := by
  intro a0 a1 k
  have ih0 := cribbleref10_SameAttrs.mono_l k
  unfold cribbleref10_SameAttrs.f
  repeat' first
      | (with_reducible exact ih0 _ _ _)
      | (with_reducible exact LeO.refl _)
      | (with_reducible exact LeO.none _)
      | (with_reducible refine LeO.ite ?_ ?_)
      | (with_reducible refine LeO.bind ?_ (fun _ => ?_))
      | exact ih0 _ _ _
      | exact LeO.none _
      | refine LeO.ite ?_ ?_
      | refine LeO.bind ?_ (fun _ => ?_)
set_option maxHeartbeats 8000000 in
set_option maxRecDepth 100000 in
theorem cribbleref10_SameAttrs.calls (k : Nat) (A0 : Option Addr) (c0 : Nat) (l0 : List (S36)) (A1 : Option Addr) (c1 : Nat) (l1 : List (S36)) (r : Bool) (w : World) (hr0 : Kd.C k36 w A0 l0.length l0) (hc0 : l0.length ≤ c0) (hr1 : Kd.C k36 w A1 l1.length l1) (hc1 : l1.length ≤ c1) (h : cribbleref10_SameAttrs.f k l0 l1 = some r) :
    Calls Tryz.prog 31 #[.slice A0 l0.length c0, .slice A1 l1.length c1] w fun e w' => e = .returned (.bool r) ∧ Drawn0 w w' := by
  have hu36 := Tryz.underlying36
  have HR0 := Aside0.mk hr0
  have HC0 := Aside0.mk hc0
  clear hr0 hc0
  have HR1 := Aside0.mk hr1
  have HC1 := Aside0.mk hc1
  clear hr1 hc1
  have H : (if (l0.length : Int) = (l1.length : Int) then (cribbleref10_SameAttrs.l0 k l0 l1 0) else (some false)) = some r := h
  clear h
  by_cases c3 : (l0.length : Int) = (l1.length : Int)
  · rw [if_pos c3] at H
    have c3b0 : ((l0.length : Int) == (l1.length : Int)) = true := beq_iff_eq.mpr c3
    have c3b1 : ((l0.length : Int) != (l1.length : Int)) = false := bne_eq_false_iff_eq.mpr c3
    have c3b2 : (l0.length == l1.length) = true := by first | simpa using c3 | (simp at c3 ⊢; omega)
    clear c3
    have H' := Aside0.mk H
    clear H
    go_enter Tryz.func31, Tryz.ntmps31
    go_wp2
    repeat (go_quiet (fail); try go_wp2)
    go_loopg [5] k (fun kq v5 w' => ∃ (x5_1 : Int), v5 = .int .i64 x5_1 ∧ Aside0 (cribbleref10_SameAttrs.l0 kq l0 l1 x5_1 = some r) ∧ Aside0 (kq ≤ k) ∧ Drawn0 w w')
    case atStart => exact ⟨(0), (by first | rfl | (simp; done) | (simp [*]; done) | (simp; unfold wrap64; omega) | (simp; rfl)), H', ⟨Nat.le_refl _⟩, by repeat (first | exact Drawn0.refl _ | apply Drawn0.step)⟩
    case round =>
      clear H'
      try clear c1
      try clear p2
      try clear c3
      try clear c3b0
      try clear c3b1
      try clear c3b2
      obtain ⟨x5_1, rfl, HA, HK1, ⟨m1, rfl⟩⟩ := hrel
      cases gk with
      | zero => exact absurd HA.out (by simp [cribbleref10_SameAttrs.l0])
      | succ k1 =>
        have H := HA.out
        clear HA
        simp only [cribbleref10_SameAttrs.l0] at H
        by_cases c4 : x5_1 < (l0.length : Int)
        · rw [if_pos c4] at H
          have c4b0 : decide (x5_1 < (l0.length : Int)) = true := decide_eq_true c4
          clear c4
          by_cases c5 : 0 ≤ x5_1
          · rw [if_pos c5] at H
            have c5b0 : decide (0 ≤ x5_1) = true := decide_eq_true c5
            clear c5
            by_cases c6 : x5_1 < (l1.length : Int)
            · rw [if_pos c6] at H
              have c6b0 : decide (x5_1 < (l1.length : Int)) = true := decide_eq_true c6
              clear c6
              by_cases c7 : (!((((rd_T36 l0 x5_1).f0).toList) == (((rd_T36 l1 x5_1).f0).toList)) || (!((((rd_T36 l0 x5_1).f1).toList) == (((rd_T36 l1 x5_1).f1).toList)))) = true
              · rw [if_pos c7] at H
                have c7b0 : (!((((rd_T36 l0 x5_1).f0).toList) == (((rd_T36 l1 x5_1).f0).toList)) || (!((((rd_T36 l0 x5_1).f1).toList) == (((rd_T36 l1 x5_1).f1).toList)))) = true := c7
                clear c7
                obtain rfl := Option.some.inj H
                have p216 : 0 ≤ (x5_1 : Int) := of_decide_eq_true (by first | (with_reducible assumption) | assumption)
                have q216 : x5_1 < (l0.length : Int) := of_decide_eq_true (by first | (with_reducible assumption) | assumption)
                obtain ⟨ad216, e216, hx216_0, hx216_1⟩ := at_T36 HR0.out x5_1 p216 q216
                cases e216
                replace p216 := eq_true p216
                replace q216 := eq_true q216
                have p217 : 0 ≤ (x5_1 : Int) := of_decide_eq_true (by first | (with_reducible assumption) | assumption)
                have q217 : x5_1 < (l1.length : Int) := of_decide_eq_true (by first | (with_reducible assumption) | assumption)
                obtain ⟨ad217, e217, hx217_0, hx217_1⟩ := at_T36 HR1.out x5_1 p217 q217
                cases e217
                replace p217 := eq_true p217
                replace q217 := eq_true q217
                go_wp2
                repeat (go_quiet (fail); try go_wp2)
                go_ret
                exact ⟨by first | rfl | (simp; done) | (simp [*]; done), by repeat (first | exact Drawn0.refl _ | apply Drawn0.step)⟩
              · rw [if_neg c7] at H
                have c7b0 : (!((((rd_T36 l0 x5_1).f0).toList) == (((rd_T36 l1 x5_1).f0).toList)) || (!((((rd_T36 l0 x5_1).f1).toList) == (((rd_T36 l1 x5_1).f1).toList)))) = false := by simpa using c7
                clear c7
                have H' := Aside0.mk H
                clear H
                have p216 : 0 ≤ (x5_1 : Int) := of_decide_eq_true (by first | (with_reducible assumption) | assumption)
                have q216 : x5_1 < (l0.length : Int) := of_decide_eq_true (by first | (with_reducible assumption) | assumption)
                obtain ⟨ad216, e216, hx216_0, hx216_1⟩ := at_T36 HR0.out x5_1 p216 q216
                cases e216
                replace p216 := eq_true p216
                replace q216 := eq_true q216
                have p217 : 0 ≤ (x5_1 : Int) := of_decide_eq_true (by first | (with_reducible assumption) | assumption)
                have q217 : x5_1 < (l1.length : Int) := of_decide_eq_true (by first | (with_reducible assumption) | assumption)
                obtain ⟨ad217, e217, hx217_0, hx217_1⟩ := at_T36 HR1.out x5_1 p217 q217
                cases e217
                replace p217 := eq_true p217
                replace q217 := eq_true q217
                go_wp2
                repeat (go_quiet (fail); try go_wp2)
                go_roundg k1
                case measure => have := HK1.out; omega
                case rel => exact ⟨(wrap64 (x5_1 + 1)), (by first | rfl | (simp; done) | (simp [*]; done) | (simp; unfold wrap64; omega) | (simp; rfl)), H', ⟨by have := HK1.out; omega⟩, by repeat (first | exact Drawn0.refl _ | apply Drawn0.step)⟩
            · rw [if_neg c6] at H
              exact absurd H (by simp)
          · rw [if_neg c5] at H
            exact absurd H (by simp)
        · rw [if_neg c4] at H
          have c4b0 : decide (x5_1 < (l0.length : Int)) = false := decide_eq_false c4
          clear c4
          obtain rfl := Option.some.inj H
          go_wp2
          repeat (go_quiet (fail); try go_wp2)
          go_ret
          exact ⟨by first | rfl | (simp; done) | (simp [*]; done), by repeat (first | exact Drawn0.refl _ | apply Drawn0.step)⟩
  · rw [if_neg c3] at H
    have c3b0 : ((l0.length : Int) == (l1.length : Int)) = false := beq_eq_false_iff_ne.mpr c3
    have c3b1 : ((l0.length : Int) != (l1.length : Int)) = true := bne_iff_ne.mpr c3
    have c3b2 : (l0.length == l1.length) = false := by first | simpa using c3 | (simp at c3 ⊢; omega)
    obtain rfl := Option.some.inj H
    go_enter Tryz.func31, Tryz.ntmps31
    go_wp2
    repeat (go_quiet (fail); try go_wp2)
    go_ret
    exact ⟨by first | rfl | (simp; done) | (simp [*]; done), by repeat (first | exact Drawn0.refl _ | apply Drawn0.step)⟩
end Go.Proofs.YtoacojkmclngmaaGreatDoor.Pz
namespace Go.Proofs.YtoacojkmclngmaaGreatDoor.Pz
open Go.RowKit Go.Proofs.YtoacojkmclngmaaGreatDoorW.PrintWords Go.Proofs.YtoacojkmclngmaaGreatDoorW.PrintLast Go.Proofs.YtoacojkmclngmaaGreatDoorW.PrintMore
attribute [local go_sem] max2_int min2_int max_two min_two max_three min_three max_four min_four   -- for this text's walks alone
attribute [local go_sem] rune_str
set_option linter.unusedVariables false
set_option linter.unusedSimpArgs false
def cribbleref18_Same.l0 : Nat → List (S33) → List (S33) → Int → Option (Bool)
  | 0, _, _, _ => none
  | k + 1, x0, x1, x5 => if x5 < (x0.length : Int) then (if 0 ≤ x5 then (if x5 < (x1.length : Int) then (if ((rd_T33 x0 x5).f0) = ((rd_T33 x1 x5).f0) then (if ((rd_T33 x0 x5).f1).toList = ((rd_T33 x1 x5).f1).toList then (if ((rd_T33 x0 x5).f2).toList = ((rd_T33 x1 x5).f2).toList then (if (((rd_T33 x0 x5).f4) != ((rd_T33 x1 x5).f4)) = true then (some false) else ((cribbleref10_SameAttrs.f k ((rd_T33 x0 x5).f3) ((rd_T33 x1 x5).f3)).bind fun t228 => (if t228 = true then (cribbleref18_Same.l0 k x0 x1 (wrap64 (x5 + 1))) else (some false)))) else (some false)) else (some false)) else (some false)) else (none)) else (none)) else (some true)
def cribbleref18_Same.f (k : Nat) (l0 : List (S33)) (l1 : List (S33)) : Option (Bool) := if (l0.length : Int) = (l1.length : Int) then (cribbleref18_Same.l0 k l0 l1 0) else (some false)
theorem cribbleref18_Same.mono_l : ∀ k, (∀ y0 y1 y2, LeO (cribbleref18_Same.l0 k y0 y1 y2) (cribbleref18_Same.l0 (k + 1) y0 y1 y2))
  | 0 => fun _ _ _ r h => by simp [cribbleref18_Same.l0] at h
  | k + 1 => by
    have ih0 := cribbleref18_Same.mono_l k
    · intro y0 y1 y2
      unfold cribbleref18_Same.l0
      repeat' first
      | (with_reducible exact ih0 _ _ _)
      | (with_reducible exact cribbleref10_SameAttrs.mono _ _ _)
      | (with_reducible exact LeO.refl _)
      | (with_reducible exact LeO.none _)
      | (with_reducible refine LeO.ite ?_ ?_)
      | (with_reducible refine LeO.bind ?_ (fun _ => ?_))
      | exact ih0 _ _ _
      | exact cribbleref10_SameAttrs.mono _ _ _
      | exact LeO.none _
      | refine LeO.ite ?_ ?_
      | refine LeO.bind ?_ (fun _ => ?_)
theorem cribbleref18_Same.mono : ∀ a0 a1 k, LeO (cribbleref18_Same.f k a0 a1) (cribbleref18_Same.f (k + 1) a0 a1) := by
  intro a0 a1 k
  have ih0 := cribbleref18_Same.mono_l k
  unfold cribbleref18_Same.f
  repeat' first
      | (with_reducible exact ih0 _ _ _)
      | (with_reducible exact cribbleref10_SameAttrs.mono _ _ _)
      | (with_reducible exact LeO.refl _)
      | (with_reducible exact LeO.none _)
      | (with_reducible refine LeO.ite ?_ ?_)
      | (with_reducible refine LeO.bind ?_ (fun _ => ?_))
      | exact ih0 _ _ _
      | exact cribbleref10_SameAttrs.mono _ _ _
      | exact LeO.none _
      | refine LeO.ite ?_ ?_
      | refine LeO.bind ?_ (fun _ => ?_)
set_option maxHeartbeats 8000000 in
set_option maxRecDepth 100000 in
theorem cribbleref18_Same.calls (k : Nat) (A0 : Option Addr) (c0 : Nat) (l0 : List (S33)) (A1 : Option Addr) (c1 : Nat) (l1 : List (S33)) (r : Bool) (w : World) (hr0 : Kd.C k33 w A0 l0.length l0) (hc0 : l0.length ≤ c0) (hr1 : Kd.C k33 w A1 l1.length l1) (hc1 : l1.length ≤ c1) (h : cribbleref18_Same.f k l0 l1 = some r) :
    Calls Tryz.prog 13 #[.slice A0 l0.length c0, .slice A1 l1.length c1] w fun e w' => e = .returned (.bool r) ∧ Drawn0 w w' := by
  have HR0 := Aside0.mk hr0
  have HC0 := Aside0.mk hc0
  clear hr0 hc0
  have HR1 := Aside0.mk hr1
  have HC1 := Aside0.mk hc1
  clear hr1 hc1
  have H : (if (l0.length : Int) = (l1.length : Int) then (cribbleref18_Same.l0 k l0 l1 0) else (some false)) = some r := h
  clear h
  by_cases c3 : (l0.length : Int) = (l1.length : Int)
  · rw [if_pos c3] at H
    have c3b0 : ((l0.length : Int) == (l1.length : Int)) = true := beq_iff_eq.mpr c3
    have c3b1 : ((l0.length : Int) != (l1.length : Int)) = false := bne_eq_false_iff_eq.mpr c3
    have c3b2 : (l0.length == l1.length) = true := by first | simpa using c3 | (simp at c3 ⊢; omega)
    clear c3
    have H' := Aside0.mk H
    clear H
    go_enter Tryz.func13, Tryz.ntmps13
    go_wp2
    go_loopg [5] k (fun kq v5 w' => ∃ (x5_1 : Int), v5 = .int .i64 x5_1 ∧ Aside0 (cribbleref18_Same.l0 kq l0 l1 x5_1 = some r) ∧ Aside0 (kq ≤ k) ∧ Drawn0 w w')
    case atStart => exact ⟨(0), (by first | rfl | (simp; done) | (simp [*]; done)), H', ⟨Nat.le_refl _⟩, by repeat (first | exact Drawn0.refl _ | apply Drawn0.step)⟩
    case round =>
      clear H'
      try clear c3b0
      try clear c3b1
      try clear c3b2
      obtain ⟨x5_1, rfl, HA, HK1, ⟨m1, rfl⟩⟩ := hrel
      cases gk with
      | zero => exact absurd HA.out (by simp [cribbleref18_Same.l0])
      | succ k1 =>
        have H := HA.out
        clear HA
        simp only [cribbleref18_Same.l0] at H
        by_cases c4 : x5_1 < (l0.length : Int)
        · rw [if_pos c4] at H
          have c4b0 : decide (x5_1 < (l0.length : Int)) = true := decide_eq_true c4
          clear c4
          by_cases c5 : 0 ≤ x5_1
          · rw [if_pos c5] at H
            have c5b0 : decide (0 ≤ x5_1) = true := decide_eq_true c5
            clear c5
            by_cases c6 : x5_1 < (l1.length : Int)
            · rw [if_pos c6] at H
              have c6b0 : decide (x5_1 < (l1.length : Int)) = true := decide_eq_true c6
              clear c6
              have p216 : 0 ≤ (x5_1 : Int) := of_decide_eq_true (by first | (with_reducible assumption) | assumption)
              have q216 : x5_1 < (l0.length : Int) := of_decide_eq_true (by first | (with_reducible assumption) | assumption)
              obtain ⟨ad216, A216, c216, e216, hx0, hx1, hx2, hx3, hx4, hl216, hi216⟩ := at_T33 HR0.out x5_1 p216 q216
              cases e216
              have q217 : x5_1 < (l1.length : Int) := of_decide_eq_true (by first | (with_reducible assumption) | assumption)
              obtain ⟨ad217, A217, c217, e217, hy0, hy1, hy2, hy3, hy4, hl217, hi217⟩ := at_T33 HR1.out x5_1 p216 q217
              cases e217
              replace p216 := eq_true p216
              replace q216 := eq_true q216
              replace q217 := eq_true q217
              have HL0 := Aside0.mk hl216
              have HI0 := Aside0.mk hi216
              have HL1 := Aside0.mk hl217
              have HI1 := Aside0.mk hi217
              clear hl216 hi216 hl217 hi217
              by_cases c7 : ((rd_T33 l0 x5_1).f0) = ((rd_T33 l1 x5_1).f0)
              · rw [if_pos c7] at H
                have c7b0 : (((rd_T33 l0 x5_1).f0) == ((rd_T33 l1 x5_1).f0)) = true := beq_iff_eq.mpr c7
                have c7b1 : (((rd_T33 l0 x5_1).f0) != ((rd_T33 l1 x5_1).f0)) = false := bne_eq_false_iff_eq.mpr c7
                clear c7
                by_cases c8 : ((rd_T33 l0 x5_1).f1).toList = ((rd_T33 l1 x5_1).f1).toList
                · rw [if_pos c8] at H
                  have c8b0 : (((rd_T33 l0 x5_1).f1).toList == ((rd_T33 l1 x5_1).f1).toList) = true := beq_iff_eq.mpr c8
                  have c8b1 : (((rd_T33 l0 x5_1).f1).toList != ((rd_T33 l1 x5_1).f1).toList) = false := bne_eq_false_iff_eq.mpr c8
                  clear c8
                  by_cases c9 : ((rd_T33 l0 x5_1).f2).toList = ((rd_T33 l1 x5_1).f2).toList
                  · rw [if_pos c9] at H
                    have c9b0 : (((rd_T33 l0 x5_1).f2).toList == ((rd_T33 l1 x5_1).f2).toList) = true := beq_iff_eq.mpr c9
                    have c9b1 : (((rd_T33 l0 x5_1).f2).toList != ((rd_T33 l1 x5_1).f2).toList) = false := bne_eq_false_iff_eq.mpr c9
                    clear c9
                    by_cases c10 : (((rd_T33 l0 x5_1).f4) != ((rd_T33 l1 x5_1).f4)) = true
                    · rw [if_pos c10] at H
                      have c10b2 : (((rd_T33 l0 x5_1).f4) == ((rd_T33 l1 x5_1).f4)) = false := by simpa using c10
                      obtain rfl := Option.some.inj H
                      go_wp2
                      repeat (go_quiet (fail); try go_wp2)
                      go_ret
                      exact ⟨by first | rfl | (simp; done) | (simp [*]; done), by repeat (first | exact Drawn0.refl _ | apply Drawn0.step)⟩
                    · rw [if_neg c10] at H
                      replace c10 : (((rd_T33 l0 x5_1).f4) != ((rd_T33 l1 x5_1).f4)) = false := by simpa using c10
                      have c10b2 : (((rd_T33 l0 x5_1).f4) == ((rd_T33 l1 x5_1).f4)) = true := by simpa using c10
                      obtain ⟨b, hb, H⟩ := Option.bind_eq_some_iff.1 H
                      have HQ : Hid (∀ n, Calls Tryz.prog 31 #[.slice A216 (rd_T33 l0 x5_1).f3.length c216, .slice A217 (rd_T33 l1 x5_1).f3.length c217] (w.drewN (m1 + n)) fun e w'' => e = .returned (.bool b) ∧ ∃ n, w'' = w.drewN (m1 + n)) := Lib.hid (fun n => (cribbleref10_SameAttrs.calls k1 A216 c216 _ A217 c217 _ b _ (Kd.C_drewN HI0.out _) HL0.out (Kd.C_drewN HI1.out _) HL1.out hb).mono fun _ _ h => ⟨h.1, by
                        obtain ⟨q, hq⟩ := h.2.out
                        exact ⟨n + q, by rw [hq, World.drewN_drewN, Nat.add_assoc]⟩⟩)
                      clear hb
                      cases b with
                      | true =>
                        rw [if_pos rfl] at H
                        have H' := Aside0.mk H
                        clear H
                        go_wp2
                        go_quiet (first | (go_at_call 31; with_reducible exact HQ.out _))
                        try go_wp2
                        go_roundg k1
                        case measure => have := HK1.out; omega
                        case rel => exact ⟨(wrap64 (x5_1 + 1)), (by first | rfl | (simp; done) | (simp [*]; done) | (simp; unfold wrap64; omega)), H', ⟨by have := HK1.out; omega⟩, by repeat (first | exact Drawn0.refl _ | apply Drawn0.step)⟩
                      | false =>
                        rw [if_neg Bool.false_ne_true] at H
                        obtain rfl := Option.some.inj H
                        go_wp2
                        go_quiet (first | (go_at_call 31; with_reducible exact HQ.out _))
                        try go_wp2
                        go_ret
                        exact ⟨by first | rfl | (simp; done) | (simp [*]; done), by repeat (first | exact Drawn0.refl _ | apply Drawn0.step)⟩
                  · rw [if_neg c9] at H
                    have c9b0 : (((rd_T33 l0 x5_1).f2).toList == ((rd_T33 l1 x5_1).f2).toList) = false := beq_eq_false_iff_ne.mpr c9
                    have c9b1 : (((rd_T33 l0 x5_1).f2).toList != ((rd_T33 l1 x5_1).f2).toList) = true := bne_iff_ne.mpr c9
                    clear c9
                    obtain rfl := Option.some.inj H
                    go_wp2
                    repeat (go_quiet (fail); try go_wp2)
                    go_ret
                    exact ⟨by first | rfl | (simp; done) | (simp [*]; done), by repeat (first | exact Drawn0.refl _ | apply Drawn0.step)⟩
                · rw [if_neg c8] at H
                  have c8b0 : (((rd_T33 l0 x5_1).f1).toList == ((rd_T33 l1 x5_1).f1).toList) = false := beq_eq_false_iff_ne.mpr c8
                  have c8b1 : (((rd_T33 l0 x5_1).f1).toList != ((rd_T33 l1 x5_1).f1).toList) = true := bne_iff_ne.mpr c8
                  clear c8
                  obtain rfl := Option.some.inj H
                  go_wp2
                  repeat (go_quiet (fail); try go_wp2)
                  go_ret
                  exact ⟨by first | rfl | (simp; done) | (simp [*]; done), by repeat (first | exact Drawn0.refl _ | apply Drawn0.step)⟩
              · rw [if_neg c7] at H
                have c7b0 : (((rd_T33 l0 x5_1).f0) == ((rd_T33 l1 x5_1).f0)) = false := beq_eq_false_iff_ne.mpr c7
                have c7b1 : (((rd_T33 l0 x5_1).f0) != ((rd_T33 l1 x5_1).f0)) = true := bne_iff_ne.mpr c7
                clear c7
                obtain rfl := Option.some.inj H
                go_wp2
                repeat (go_quiet (fail); try go_wp2)
                go_ret
                exact ⟨by first | rfl | (simp; done) | (simp [*]; done), by repeat (first | exact Drawn0.refl _ | apply Drawn0.step)⟩
            · rw [if_neg c6] at H
              exact absurd H (by simp)
          · rw [if_neg c5] at H
            exact absurd H (by simp)
        · rw [if_neg c4] at H
          have c4b0 : decide (x5_1 < (l0.length : Int)) = false := decide_eq_false c4
          clear c4
          obtain rfl := Option.some.inj H
          go_wp2
          repeat (go_quiet (fail); try go_wp2)
          go_ret
          exact ⟨by first | rfl | (simp; done) | (simp [*]; done), by repeat (first | exact Drawn0.refl _ | apply Drawn0.step)⟩
  · rw [if_neg c3] at H
    have c3b0 : ((l0.length : Int) == (l1.length : Int)) = false := beq_eq_false_iff_ne.mpr c3
    have c3b1 : ((l0.length : Int) != (l1.length : Int)) = true := bne_iff_ne.mpr c3
    have c3b2 : (l0.length == l1.length) = false := by first | simpa using c3 | (simp at c3 ⊢; omega)
    obtain rfl := Option.some.inj H
    go_enter Tryz.func13, Tryz.ntmps13
    go_wp2
    repeat (go_quiet (fail); try go_wp2)
    go_ret
    exact ⟨by first | rfl | (simp; done) | (simp [*]; done), by repeat (first | exact Drawn0.refl _ | apply Drawn0.step)⟩
end Go.Proofs.YtoacojkmclngmaaGreatDoor.Pz
/- A list is the same as itself; how many attributes a tag has at most. -/
namespace Go.Proofs.YtoacojkmclngmaaGreatDoor.Pz
open Go.RowKit Go.Proofs.YtoacojkmclngmaaGreatDoorW.PrintWords Go.Proofs.YtoacojkmclngmaaGreatDoorW.PrintLast Go.Proofs.YtoacojkmclngmaaGreatDoorW.PrintMore
set_option linter.unusedVariables false
set_option linter.unusedSimpArgs false
def AMax : Nat := 4398046511104
def AOk (l : List Tok) : Prop := ∀ t ∈ l, t.f3.length ≤ AMax
theorem rd_mem (l : List Tok) (n : Nat) (h : n < l.length) : rd_T33 l (n : Int) ∈ l := by
  unfold rd_T33
  rw [Int.toNat_natCast, List.getD_eq_getElem?_getD, List.getElem?_eq_getElem h]
  exact List.getElem_mem h
theorem tagGo_attrs (name : ByteArray) : ∀ (k : Nat) (rest : ByteArray) (sh : Bool) (attrs : List S36) (r : TagRes), attrs.length ≤ AMax → tagGo name k rest sh attrs = some r → r.2.2.2.1.length ≤ AMax
  | 0, _, _, _, _, _, h => by unfold tagGo at h; cases h
  | k + 1, rest, sh, attrs, r, hA, h => by
    unfold tagGo at h
    split at h
    · obtain rfl := Option.some.inj h; exact Nat.zero_le _
    · obtain ⟨b, _, h⟩ := Option.bind_eq_some_iff.1 h
      obtain ⟨n, _, h⟩ := Option.bind_eq_some_iff.1 h
      split at h
      · exact tagGo_attrs name k _ _ _ r hA h
      · split at h
        · obtain ⟨x, _, h⟩ := Option.bind_eq_some_iff.1 h
          obtain rfl := Option.some.inj h; exact hA
        · obtain ⟨q, _, h⟩ := Option.bind_eq_some_iff.1 h
          split at h
          · obtain ⟨x, _, h⟩ := Option.bind_eq_some_iff.1 h
            obtain rfl := Option.some.inj h; exact hA
          · split at h
            · obtain ⟨x, _, h⟩ := Option.bind_eq_some_iff.1 h
              exact tagGo_attrs name k _ _ _ r hA h
            · obtain ⟨a, _, h⟩ := Option.bind_eq_some_iff.1 h
              split at h
              · rename_i hsz
                split at h
                · refine tagGo_attrs name k _ _ _ r ?_ h
                  rw [List.length_append, List.length_singleton]
                  have := hsz.2
                  show _ ≤ 4398046511104
                  omega
                · exact tagGo_attrs name k _ _ _ r hA h
              · cases h
theorem tag_attrs (rest : ByteArray) (sh : Bool) (r : TagRes) (h : scan_reader_tag.f rest sh = some r) : r.2.2.2.1.length ≤ AMax := by
  unfold scan_reader_tag.f at h
  obtain ⟨u, _, h⟩ := Option.bind_eq_some_iff.1 h
  obtain ⟨n, _, h⟩ := Option.bind_eq_some_iff.1 h
  exact tagGo_attrs _ _ _ _ _ _ (Nat.zero_le _) h
theorem remark_attrs (rest : ByteArray) (sh : Bool) (r : TagRes) (h : scan_reader_remark.f rest sh = some r) : r.2.2.2.1 = [] := by
  unfold scan_reader_remark.f at h
  obtain ⟨q, hq, h⟩ := Option.bind_eq_some_iff.1 h
  obtain ⟨x, hx, h⟩ := Option.bind_eq_some_iff.1 h
  obtain ⟨y, _, h⟩ := Option.bind_eq_some_iff.1 h
  obtain rfl := Option.some.inj h; rfl
theorem doctype_attrs (rest : ByteArray) (sh : Bool) (r : TagRes) (h : scan_reader_doctype.f rest sh = some r) : r.2.2.2.1 = [] := by
  unfold scan_reader_doctype.f at h
  obtain ⟨q, hq, h⟩ := Option.bind_eq_some_iff.1 h
  obtain ⟨x, hx, h⟩ := Option.bind_eq_some_iff.1 h
  obtain ⟨y, _, h⟩ := Option.bind_eq_some_iff.1 h
  split at h
  · obtain ⟨z, _, h⟩ := Option.bind_eq_some_iff.1 h
    obtain rfl := Option.some.inj h; rfl
  · obtain rfl := Option.some.inj h; rfl
theorem cut_attrs (rest : ByteArray) (sh : Bool) (i n : Int) (r : MkRes) (h : commentCut rest sh i n = some r) : r.2.2.2.1 = [] := by
  unfold commentCut at h
  obtain ⟨q, hq, h⟩ := Option.bind_eq_some_iff.1 h
  obtain ⟨x, hx, h⟩ := Option.bind_eq_some_iff.1 h
  obtain ⟨y, _, h⟩ := Option.bind_eq_some_iff.1 h
  obtain rfl := Option.some.inj h; rfl
theorem comment_attrs (rest : ByteArray) (sh : Bool) (r : MkRes) (h : scan_reader_comment.f rest sh = some r) : r.2.2.2.1 = [] := by
  unfold scan_reader_comment.f at h
  split at h
  case isFalse => cases h
  obtain ⟨p, _, h⟩ := Option.bind_eq_some_iff.1 h
  split at h
  · obtain ⟨k, _, h⟩ := Option.bind_eq_some_iff.1 h
    obtain rfl := Option.some.inj h; rfl
  · unfold comment1 at h
    obtain ⟨p, _, h⟩ := Option.bind_eq_some_iff.1 h
    split at h
    · obtain ⟨k, _, h⟩ := Option.bind_eq_some_iff.1 h
      obtain rfl := Option.some.inj h; rfl
    · unfold commentRest at h
      obtain ⟨i1, _, h⟩ := Option.bind_eq_some_iff.1 h
      obtain ⟨i2, _, h⟩ := Option.bind_eq_some_iff.1 h
      split at h
      · exact cut_attrs rest sh _ _ r h
      · split at h
        · exact cut_attrs rest sh _ _ r h
        · unfold commentShort at h
          obtain ⟨q, hq, h⟩ := Option.bind_eq_some_iff.1 h
          obtain ⟨s, hs, h⟩ := Option.bind_eq_some_iff.1 h
          obtain ⟨x, hx, h⟩ := Option.bind_eq_some_iff.1 h
          obtain rfl := Option.some.inj h; rfl
theorem markup_attrs (u : ByteArray) (sh : Bool) (r : MkRes) (h : scan_reader_markup.f u sh = some r) : r.2.2.2.1.length ≤ AMax := by
  have hn : ∀ l : List S36, l = [] → l.length ≤ AMax := fun l e => by rw [e]; exact Nat.zero_le _
  unfold scan_reader_markup.f at h
  split at h
  case isFalse => cases h
  obtain ⟨l, _, h⟩ := Option.bind_eq_some_iff.1 h
  split at h
  · obtain ⟨k, _, h⟩ := Option.bind_eq_some_iff.1 h
    exact tag_attrs _ _ _ h
  · split at h
    · obtain ⟨k, hk, h⟩ := Option.bind_eq_some_iff.1 h
      exact hn _ (remark_attrs _ _ _ h)
    · split at h
      · obtain ⟨b1, _, h⟩ := Option.bind_eq_some_iff.1 h
        split at h
        · obtain ⟨k, hk, h⟩ := Option.bind_eq_some_iff.1 h
          exact hn _ (comment_attrs _ _ _ h)
        · obtain ⟨b2, _, h⟩ := Option.bind_eq_some_iff.1 h
          split at h
          · obtain ⟨k, hk, h⟩ := Option.bind_eq_some_iff.1 h
            exact hn _ (doctype_attrs _ _ _ h)
          · obtain ⟨k, hk, h⟩ := Option.bind_eq_some_iff.1 h
            exact hn _ (remark_attrs _ _ _ h)
      · obtain ⟨k, hk, h⟩ := Option.bind_eq_some_iff.1 h
        split at h
        · obtain ⟨p, _, h⟩ := Option.bind_eq_some_iff.1 h
          split at h
          · obtain ⟨j, _, h⟩ := Option.bind_eq_some_iff.1 h
            obtain rfl := Option.some.inj h; exact Nat.zero_le _
          · split at h
            · obtain ⟨l2, _, h⟩ := Option.bind_eq_some_iff.1 h
              split at h
              · obtain ⟨t, ht, h⟩ := Option.bind_eq_some_iff.1 h
                have := tag_attrs _ _ _ ht
                obtain rfl := Option.some.inj h
                unfold markupEnd
                split
                · exact Nat.zero_le _
                · exact this
              · exact hn _ (remark_attrs _ _ _ h)
            · cases h
        · exact hn _ (remark_attrs _ _ _ h)
theorem step_attrs (x nm : ByteArray) (raw : Int) (last : Bool) (h : Okay x nm raw) (r : StepRes) (e : scan_Scanner_step.f x false nm raw last = some r) : AOk r.1 := by
  have hnil : AOk ([] : List Tok) := fun t ht => by cases ht
  have hone : ∀ t : Tok, t.f3.length ≤ AMax → AOk [t] := fun t ht u hu => by
    rw [List.mem_singleton] at hu; rw [hu]; exact ht
  have hmark : ∀ r, stepMark x false nm raw last = some r → AOk r.1 := fun r e => by
    unfold stepMark at e
    obtain ⟨m, hm, e⟩ := Option.bind_eq_some_iff.1 e
    have hd := markup_attrs x false m hm
    split at e
    · obtain rfl := Option.some.inj e; exact hnil
    · split at e
      · obtain rfl := Option.some.inj e; exact hnil
      · split at e
        · obtain ⟨q, _, e⟩ := Option.bind_eq_some_iff.1 e
          obtain rfl := Option.some.inj e
          exact hone _ hd
        · obtain rfl := Option.some.inj e
          exact hone _ hd
  cases last with
  | true =>
    rcases step_last x nm raw h with ⟨_, d, hd, e2⟩ | ⟨_, ⟨_, e2⟩ | ⟨_, _, e2⟩⟩
    · rw [e2] at e; obtain rfl := Option.some.inj e; exact hone _ (Nat.zero_le _)
    · rw [e2] at e; obtain rfl := Option.some.inj e; exact hnil
    · rw [e2] at e; exact hmark r e
  | false =>
    rcases step_part x nm raw h with e2 | ⟨c, d, _, _, hd, e2, _⟩ | ⟨_, _, e2⟩
    · rw [e2] at e; obtain rfl := Option.some.inj e; exact hnil
    · rw [e2] at e; obtain rfl := Option.some.inj e; exact hone _ (Nat.zero_le _)
    · rw [e2] at e; exact hmark r e
theorem tk_attrs : ∀ (n : Nat) (x nm : ByteArray) (raw : Int), x.size = n → Okay x nm raw → AOk (Tk x nm raw) := by
  intro n
  induction n using Nat.strongRecOn with
  | ind n ih =>
    intro x nm raw hx h
    obtain ⟨ts, more, r3, n3, w3, e, l1, s1, ok, le, lt⟩ := step_ok x nm raw true h
    cases more with
    | false => rw [tk_stop x nm raw h _ e rfl]; intro t ht; cases ht
    | true =>
      have := lt rfl
      rw [tk_step x nm raw h ts r3 n3 false w3 e]
      intro t ht
      rcases List.mem_append.1 ht with h1 | h1
      · exact step_attrs x nm raw true h _ e t h1
      · exact ih r3.size (by omega) r3 n3 w3 rfl ok t h1
theorem mrg1_attrs (o : List Tok) (t : Tok) (ho : AOk o) (ht : t.f3.length ≤ AMax) : AOk (mrg1 o t) := by
  unfold mrg1
  split
  · exact ho
  · split
    · rename_i hc
      intro u hu
      rcases List.mem_or_eq_of_mem_set hu with h1 | h1
      · exact ho u h1
      · rw [h1]
        have h3 : ((o.length : Nat) : Int) - 1 = ((o.length - 1 : Nat) : Int) := by omega
        exact ho (rd_T33 o ((o.length : Int) - 1)) (by rw [h3]; exact rd_mem o (o.length - 1) (by omega))
    · intro u hu
      rcases List.mem_append.1 hu with h1 | h1
      · exact ho u h1
      · rw [List.mem_singleton] at h1; rw [h1]; exact ht
theorem mrgF_attrs : ∀ (l o : List Tok), AOk o → AOk l → AOk (mrgF o l)
  | [], o, ho, _ => ho
  | t :: l, o, ho, hl => mrgF_attrs l (mrg1 o t) (mrg1_attrs o t ho (hl t (by simp))) (fun u hu => hl u (List.mem_cons_of_mem _ hu))
theorem mrg1_length (o : List Tok) (t : Tok) : (mrg1 o t).length ≤ o.length + 1 := by
  unfold mrg1
  split
  · omega
  · split
    · rw [List.length_set]; omega
    · rw [List.length_append]; simp
theorem mrgF_length : ∀ (l o : List Tok), (mrgF o l).length ≤ o.length + l.length
  | [], o => by show o.length ≤ _; simp
  | t :: l, o => by
    have h1 := mrgF_length l (mrg1 o t)
    have h2 := mrg1_length o t
    show (mrgF (mrg1 o t) l).length ≤ _
    rw [List.length_cons]; omega
end Go.Proofs.YtoacojkmclngmaaGreatDoor.Pz
