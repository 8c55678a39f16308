/- Texts of the session, one behind the other: what the code computes, function by function, and its contracts. -/
import Derived.Deep.RegionHeld3
import Derived.Laws.BytesString
import Derived.Lib.ConvBytes
import Derived.KernelRfl
import Derived.Test.YtoacojkmclngmaaGreatDoorK1
import Derived.Test.YtoacojkmclngmaaGreatDoorK2
import Derived.Test.YtoacojkmclngmaaGreatDoorK3
import Derived.Test.YtoacojkmclngmaaGreatDoorK4
import Derived.Test.YtoacojkmclngmaaGreatDoorK5
import Derived.Test.YtoacojkmclngmaaGreatDoorK6
import Derived.Test.YtoacojkmclngmaaGreatDoorK7
import Derived.Test.YtoacojkmclngmaaGreatDoorK8
import Derived.Test.YtoacojkmclngmaaGreatDoorK9
import Derived.Test.YtoacojkmclngmaaGreatDoorK10
import Derived.Test.YtoacojkmclngmaaGreatDoorK11
import Derived.Test.YtoacojkmclngmaaGreatDoorK12
/- What any pieces of a document are: kinds, names, attributes; texts not empty, no two behind one another. -/
namespace Go.Proofs.YtoacojkmclngmaaGreatDoor.Pz
open Go.RowKit Go.Proofs.YtoacojkmclngmaaGreatDoorW.PrintWords Go.Proofs.YtoacojkmclngmaaGreatDoorW.PrintLast Go.Proofs.YtoacojkmclngmaaGreatDoorW.PrintMore
set_option linter.unusedVariables false
set_option linter.unusedSimpArgs false
def Lo (s : ByteArray) : Prop := s.size ≤ 1000000 ∧ ∀ c ∈ s.data.toList, low c = c
theorem lo_lowered {s : ByteArray} (h : Lo s) : lowerB s = s := by
  apply ba_ext
  rw [lowerB_list]
  exact (List.map_congr_left (g := id) h.2).trans (List.map_id _)
theorem lo_empty : Lo ByteArray.empty := ⟨by decide, fun c hc => by cases hc⟩
theorem named_lo (a r : ByteArray) (ha : a.size ≤ 200000) (h : scan_named.f a = some r) : Lo r ∧ (0 < a.size → 0 < r.size) := by
  unfold scan_named.f at h
  rw [(lower_tot a (by omega)).1, Option.bind_some, heal_spec (lowerB a) (by rw [lowerB_size]; omega), Option.bind_some] at h
  obtain rfl := Option.some.inj h
  have hl := healL_length (lowerB a).data.toList
  rw [len_list, lowerB_size] at hl
  refine ⟨⟨by rw [size_mk]; omega, fun c hc => ?_⟩, fun hp => ?_⟩
  · have hc : c ∈ healL (lowerB a).data.toList := hc
    obtain ⟨d, hd, hm⟩ := List.mem_flatMap.1 hc
    rw [lowerB_list] at hd
    obtain ⟨e, _, rfl⟩ := List.mem_map.1 hd
    split at hm
    · have h2 : low 239 = 239 ∧ low 191 = 191 ∧ low 189 = 189 := by decide
      simp at hm
      rcases hm with rfl | rfl | rfl
      · exact h2.1
      · exact h2.2.1
      · exact h2.2.2
    · rw [List.mem_singleton] at hm
      rw [hm, low_low]
  · rw [size_mk]
    have hlen : (lowerB a).data.toList.length = a.size := by rw [len_list, lowerB_size]
    cases hm : (lowerB a).data.toList with
    | nil => rw [hm] at hlen; simp at hlen; omega
    | cons c l =>
      show 0 < ((if c = 0 then [239, 191, 189] else [c]) ++ healL l).length
      rw [List.length_append]
      split <;> simp <;> omega
structure AttrsOk (l : List S36) : Prop where
  lo : ∀ a ∈ l, Lo a.f0 ∧ 0 < a.f0.size
  apart : l.Pairwise fun a b => a.f0 ≠ b.f0
theorem attrs_nil : AttrsOk [] := ⟨fun a h => by (cases h), List.Pairwise.nil⟩
structure TokOk (kd : Int) (nm : ByteArray) (ats : List S36) (sf : Bool) : Prop where
  kind : 1 ≤ kd ∧ kd ≤ 5
  name : Lo nm
  ends : kd = 3 → ats = [] ∧ sf = false
  tag : kd = 2 ∨ kd = 3 → 0 < nm.size
  attrs : AttrsOk ats
theorem attr_ok (u : ByteArray) (sh : Bool) (n v b : ByteArray) (sh' : Bool) (hz : u.size ≤ 100000) (hp : 0 < u.size) (h : scan_reader_attr.f u sh = some (n, v, b, sh')) : Lo n ∧ 0 < n.size := by
  unfold scan_reader_attr.f at h
  rw [show (1 : Int) = ((1 : Nat) : Int) from rfl, skip_val u sh 1 hp, Option.bind_some] at h
  obtain ⟨q, hq, h⟩ := Option.bind_eq_some_iff.1 h
  split at h
  case isFalse => cases h
  obtain ⟨x, hx, h⟩ := Option.bind_eq_some_iff.1 h
  obtain ⟨y, _, h⟩ := Option.bind_eq_some_iff.1 h
  simp only [Option.some.injEq, Prod.mk.injEq] at h
  obtain ⟨rfl, _⟩ := h
  obtain ⟨q1, q2, q3⟩ := q
  have h1 := until_size _ _ q1 q2 sh q3 (by (try simp only); rw [ByteArray.size_extract]; omega) (by decide) (by decide) hq
  rw [ByteArray.size_extract] at h1
  have h2 : (u.extract 0 1).size = 1 := by rw [ByteArray.size_extract]; omega
  have h3 := named_lo _ _ (by rw [ByteArray.size_append, h2]; simp only; omega) hx
  exact ⟨h3.1, h3.2 (by rw [ByteArray.size_append, h2]; omega)⟩
theorem tagGo_ok (name : ByteArray) (hn : Lo name) (hp : 0 < name.size) : ∀ (k : Nat) (rest : ByteArray) (sh : Bool) (attrs : List S36) (r : TagRes), rest.size ≤ 100000 → AttrsOk attrs → tagGo name k rest sh attrs = some r →
    r.1 = 0 ∨ (r.1 = 2 ∧ r.2.1 = name ∧ AttrsOk r.2.2.2.1)
  | 0, _, _, _, _, _, _, h => by unfold tagGo at h; cases h
  | k + 1, rest, sh, attrs, r, hz, hA, h => by
    unfold tagGo at h
    split at h
    · obtain rfl := Option.some.inj h; exact .inl rfl
    · obtain ⟨b, hb, h⟩ := Option.bind_eq_some_iff.1 h
      have hbs : b.1.size ≤ rest.size := by
        obtain ⟨b', e, s⟩ := blank_tot rest sh
        rw [hb] at e
        obtain rfl := Option.some.inj e
        exact s
      obtain ⟨n, hn2, h⟩ := Option.bind_eq_some_iff.1 h
      have hns : n.2.1 = b.1 ∧ (n.2.2 = true ∨ 0 < b.1.size) := by
        rcases next_tot b.1 b.2 with ⟨_, e⟩ | ⟨hp, e⟩
        · rw [hn2] at e; obtain rfl := Option.some.inj e; exact ⟨rfl, .inl rfl⟩
        · rw [hn2] at e; obtain rfl := Option.some.inj e; exact ⟨rfl, .inr hp⟩
      split at h
      · exact tagGo_ok name hn hp k _ _ _ r (by rw [hns.1]; omega) hA h
      · rename_i hsh
        have hbp : 0 < b.1.size := hns.2.resolve_left (fun c => hsh c)
        split at h
        · obtain ⟨x, _, h⟩ := Option.bind_eq_some_iff.1 h
          obtain rfl := Option.some.inj h; exact .inr ⟨rfl, rfl, hA⟩
        · obtain ⟨q, _, h⟩ := Option.bind_eq_some_iff.1 h
          split at h
          · obtain ⟨x, _, h⟩ := Option.bind_eq_some_iff.1 h
            obtain rfl := Option.some.inj h; exact .inr ⟨rfl, rfl, hA⟩
          · split at h
            · obtain ⟨x, hx, h⟩ := Option.bind_eq_some_iff.1 h
              have := (skip_piece _ _ _ _ hx).2
              rw [hns.1] at this
              exact tagGo_ok name hn hp k _ _ _ r (by omega) hA h
            · obtain ⟨a, ha, h⟩ := Option.bind_eq_some_iff.1 h
              obtain ⟨a1, a2, a3, a4⟩ := a
              rw [hns.1] at ha
              have hao := attr_ok b.1 _ a1 a2 a3 a4 (by omega) hbp ha
              have has : a3.size ≤ b.1.size := by
                obtain ⟨n', v', b', sh', e, s, _⟩ := attr_tot b.1 n.2.2 (by omega) hbp
                rw [ha] at e
                simp only [Option.some.injEq, Prod.mk.injEq] at e
                rw [e.2.2.1]; omega
              split at h
              · split at h
                · rename_i hc
                  refine tagGo_ok name hn hp k _ _ _ r (by simp only; omega) ?_ h
                  refine ⟨fun y hy => ?_, ?_⟩
                  · rcases List.mem_append.1 hy with h1 | h1
                    · exact hA.lo y h1
                    · rw [List.mem_singleton] at h1; rw [h1]; exact hao
                  · rw [List.pairwise_append]
                    refine ⟨hA.apart, List.pairwise_singleton _ _, fun y hy z hz2 => ?_⟩
                    rw [List.mem_singleton] at hz2
                    rw [hz2]
                    have h3 := List.any_eq_false.1 hc.1 y hy
                    simpa using h3
                · exact tagGo_ok name hn hp k _ _ _ r (by simp only; omega) hA h
              · cases h
theorem until_pos (u e a b : ByteArray) (sh sh' : Bool) (hz : u.size ≤ 1000000) (he : e.size ≤ 100) (ha : e.data.toList.all (fun b => decide (b.toNat < 128)) = true) (c : UInt8) (m : List UInt8) (hu : u.data.toList = c :: m) (hc : e.data.toList.contains c = false)
    (h : scan_reader_until.f u sh e = some (a, b, sh')) : 0 < a.size := by
  have hup : 0 < u.size := by rw [← len_list, hu]; simp
  unfold scan_reader_until.f scan_anyAt.f at h
  rw [if_pos ⟨by omega, by omega, ha⟩, Option.bind_some] at h
  cases hf : u.data.toList.findIdx? (fun c => e.data.toList.contains c) with
  | none =>
    have e1 : anyIdx u.data.toList e.data.toList = -1 := by unfold anyIdx; rw [hf]
    rw [e1, if_pos (by decide), if_pos (by omega), if_pos (by omega)] at h
    simp only [Option.some.injEq, Prod.mk.injEq] at h
    rw [← h.1, ByteArray.size_extract]; omega
  | some i =>
    obtain ⟨hi, h2, _⟩ := List.findIdx?_eq_some_iff_getElem.1 hf
    have e1 : anyIdx u.data.toList e.data.toList = (i : Int) := by unfold anyIdx; rw [hf]
    have hi2 := hi
    rw [len_list] at hi2
    rw [e1, if_neg (by omega), if_pos (by omega), if_pos (by omega)] at h
    simp only [Option.some.injEq, Prod.mk.injEq] at h
    have h0 : i ≠ 0 := by
      intro h0
      subst h0
      simp only [hu, List.getElem_cons_zero] at h2
      rw [hc] at h2; cases h2
    rw [← h.1, ByteArray.size_extract]; omega
theorem tag_ok (rest : ByteArray) (sh : Bool) (r : TagRes) (hz : rest.size ≤ 100000) (c : UInt8) (m : List UInt8) (hu : rest.data.toList = c :: m) (hc : (⟨#[9, 10, 12, 13, 32, 47, 62]⟩ : ByteArray).data.toList.contains c = false) (h : scan_reader_tag.f rest sh = some r) :
    r.1 = 0 ∨ (r.1 = 2 ∧ Lo r.2.1 ∧ 0 < r.2.1.size ∧ AttrsOk r.2.2.2.1) := by
  unfold scan_reader_tag.f at h
  obtain ⟨u, hu2, h⟩ := Option.bind_eq_some_iff.1 h
  obtain ⟨n, hn, h⟩ := Option.bind_eq_some_iff.1 h
  obtain ⟨u1, u2, u3⟩ := u
  have h1 := until_size _ _ u1 u2 sh u3 (by omega) (by decide) (by decide) hu2
  have h2 := until_pos _ _ u1 u2 sh u3 (by omega) (by decide) (by decide) c m hu hc hu2
  have h3 := named_lo u1 n (by omega) hn
  rcases tagGo_ok n h3.1 (h3.2 h2) _ _ _ _ r (by simp only; omega) attrs_nil h with h4 | ⟨h4, h5, h6⟩
  · exact .inl h4
  · exact .inr ⟨h4, by rw [h5]; exact h3.1, by rw [h5]; exact h3.2 h2, h6⟩
theorem remark_shape (rest : ByteArray) (sh : Bool) (r : TagRes) (h : scan_reader_remark.f rest sh = some r) : r.1 = 4 ∧ r.2.1 = ⟨#[]⟩ ∧ r.2.2.2.1 = [] := by
  unfold scan_reader_remark.f at h
  obtain ⟨q, hq, h⟩ := Option.bind_eq_some_iff.1 h
  obtain ⟨x, hx, h⟩ := Option.bind_eq_some_iff.1 h
  obtain ⟨y, _, h⟩ := Option.bind_eq_some_iff.1 h
  obtain rfl := Option.some.inj h; exact ⟨rfl, rfl, rfl⟩
theorem doctype_shape (rest : ByteArray) (sh : Bool) (r : TagRes) (hz : rest.size ≤ 100000) (h : scan_reader_doctype.f rest sh = some r) : r.1 = 5 ∧ Lo r.2.1 ∧ r.2.2.2.1 = [] := by
  unfold scan_reader_doctype.f at h
  obtain ⟨q, hq, h1⟩ := Option.bind_eq_some_iff.1 h
  obtain ⟨x, hx, h2⟩ := Option.bind_eq_some_iff.1 h1
  obtain ⟨y, _, h3⟩ := Option.bind_eq_some_iff.1 h2
  clear h h1 h2
  obtain ⟨q1, q2, q3⟩ := q
  have h1 := until_size _ _ q1 q2 sh q3 (by omega) (by decide) (by decide) hq
  simp only at hx
  have hx2 : x = fieldsV q1 := by
    unfold class_Fields.f at hx
    rw [if_pos (by omega)] at hx
    exact (Option.some.inj hx).symm
  split at h3
  · rename_i hl
    obtain ⟨z, hzz, h4⟩ := Option.bind_eq_some_iff.1 h3
    obtain rfl := Option.some.inj h4
    refine ⟨rfl, ?_, rfl⟩
    have hm := fieldsGo_size _ _ _ (show rdOf ByteArray.empty x 0 ∈ fieldsGo _ _ by
      have := rdOf_mem ByteArray.empty x (by omega)
      rw [hx2] at this ⊢
      exact this)
    have h2 := trimV_size q1
    exact (named_lo _ _ (by omega) hzz).1
  · obtain rfl := Option.some.inj h3
    exact ⟨rfl, lo_empty, rfl⟩
theorem cut_shape (rest : ByteArray) (sh : Bool) (i n : Int) (r : MkRes) (h : commentCut rest sh i n = some r) : r.1 = 4 ∧ r.2.1 = ⟨#[]⟩ ∧ r.2.2.2.1 = [] := by
  unfold commentCut at h
  obtain ⟨q, hq, h⟩ := Option.bind_eq_some_iff.1 h
  obtain ⟨x, hx, h⟩ := Option.bind_eq_some_iff.1 h
  obtain ⟨y, _, h⟩ := Option.bind_eq_some_iff.1 h
  obtain rfl := Option.some.inj h; exact ⟨rfl, rfl, rfl⟩
theorem comment_shape (rest : ByteArray) (sh : Bool) (r : MkRes) (h : scan_reader_comment.f rest sh = some r) : r.1 = 4 ∧ r.2.1 = ⟨#[]⟩ ∧ r.2.2.2.1 = [] := by
  unfold scan_reader_comment.f at h
  split at h
  case isFalse => cases h
  obtain ⟨p, _, h⟩ := Option.bind_eq_some_iff.1 h
  split at h
  · obtain ⟨k, _, h⟩ := Option.bind_eq_some_iff.1 h
    obtain rfl := Option.some.inj h; exact ⟨rfl, rfl, rfl⟩
  · unfold comment1 at h
    obtain ⟨p, _, h⟩ := Option.bind_eq_some_iff.1 h
    split at h
    · obtain ⟨k, _, h⟩ := Option.bind_eq_some_iff.1 h
      obtain rfl := Option.some.inj h; exact ⟨rfl, rfl, rfl⟩
    · unfold commentRest at h
      obtain ⟨i1, _, h⟩ := Option.bind_eq_some_iff.1 h
      obtain ⟨i2, _, h⟩ := Option.bind_eq_some_iff.1 h
      split at h
      · exact cut_shape rest sh _ _ r h
      · split at h
        · exact cut_shape rest sh _ _ r h
        · unfold commentShort at h
          obtain ⟨q, hq, h⟩ := Option.bind_eq_some_iff.1 h
          obtain ⟨s, hs, h⟩ := Option.bind_eq_some_iff.1 h
          obtain ⟨x, hx, h⟩ := Option.bind_eq_some_iff.1 h
          obtain rfl := Option.some.inj h; exact ⟨rfl, rfl, rfl⟩
theorem letter_free (c : UInt8) (h : isLetter (c.toNat : Int) = true) : (⟨#[9, 10, 12, 13, 32, 47, 62]⟩ : ByteArray).data.toList.contains c = false := by
  have key : ∀ n : Fin 256, isLetter ((UInt8.ofNat n.val).toNat : Int) = true → ([9, 10, 12, 13, 32, 47, 62] : List UInt8).contains (UInt8.ofNat n.val) = false := by decide +kernel
  have := key ⟨c.toNat, c.toNat_lt⟩ (by simpa using h)
  have e : UInt8.ofNat c.toNat = c := by simp
  simp only [e] at this
  exact this
theorem tail_head (u : ByteArray) (i : Nat) (h : i < u.size) : ∃ c m, (u.extract i u.size).data.toList = c :: m ∧ bt u (i : Int) = (c.toNat : Int) := by
  have h2 : i < u.data.toList.length := by rw [len_list]; exact h
  refine ⟨u.data.toList[i], u.data.toList.drop (i + 1), ?_, bt_list u i h⟩
  rw [ba_tail, List.drop_eq_getElem_cons h2]
def MkOk (r : MkRes) : Prop := r.1 = 0 ∨ TokOk r.1 r.2.1 r.2.2.2.1 r.2.2.2.2.1
theorem markup_ok (u : ByteArray) (sh : Bool) (r : MkRes) (hz : u.size ≤ 100000) (h : scan_reader_markup.f u sh = some r) : MkOk r := by
  have hcom : ∀ r : MkRes, r.1 = 4 ∧ r.2.1 = ⟨#[]⟩ ∧ r.2.2.2.1 = [] → MkOk r := fun r ⟨h1, h2, h3⟩ => .inr (by
    rw [h1, h2, h3]
    exact ⟨⟨by decide, by decide⟩, lo_empty, fun h => absurd h (by decide), fun h => absurd h (by decide), attrs_nil⟩)
  have htag : ∀ r : MkRes, r.1 = 0 ∨ (r.1 = 2 ∧ Lo r.2.1 ∧ 0 < r.2.1.size ∧ AttrsOk r.2.2.2.1) → MkOk r := fun r hr => by
    rcases hr with hr | ⟨h1, h2, h3, h4⟩
    · exact .inl hr
    · right
      rw [h1]
      exact ⟨⟨by decide, by decide⟩, h2, fun h => absurd h (by decide), fun _ => h3, h4⟩
  unfold scan_reader_markup.f at h
  split at h
  case isFalse => cases h
  rename_i h2
  obtain ⟨l, hl, h⟩ := Option.bind_eq_some_iff.1 h
  rw [letter_tot _ (bt_range u 1)] at hl
  obtain rfl := Option.some.inj hl
  split at h
  · rename_i hlet
    rw [show (1 : Int) = ((1 : Nat) : Int) from rfl, skip_val u sh 1 (by omega), Option.bind_some] at h
    obtain ⟨c, m, e1, e2⟩ := tail_head u 1 (by omega)
    exact htag r (tag_ok _ _ r (by (try simp only); rw [ByteArray.size_extract]; omega) c m e1 (letter_free c (by rw [← e2]; exact hlet)) h)
  · split at h
    · obtain ⟨k, hk, h⟩ := Option.bind_eq_some_iff.1 h
      exact hcom r (remark_shape _ _ _ h)
    · split at h
      · obtain ⟨b1, _, h⟩ := Option.bind_eq_some_iff.1 h
        split at h
        · obtain ⟨k, hk, h⟩ := Option.bind_eq_some_iff.1 h
          exact hcom r (comment_shape _ _ _ h)
        · obtain ⟨b2, _, h⟩ := Option.bind_eq_some_iff.1 h
          split at h
          · obtain ⟨k, hk, h⟩ := Option.bind_eq_some_iff.1 h
            have := (skip_piece _ _ _ _ hk).2
            obtain ⟨d1, d2, d3⟩ := doctype_shape _ _ _ (by omega) h
            right
            rw [d1, d3]
            exact ⟨⟨by decide, by decide⟩, d2, fun h => absurd h (by decide), fun h => absurd h (by decide), attrs_nil⟩
          · obtain ⟨k, hk, h⟩ := Option.bind_eq_some_iff.1 h
            exact hcom r (remark_shape _ _ _ h)
      · rw [show (2 : Int) = ((2 : Nat) : Int) from rfl, skip_val u sh 2 h2, Option.bind_some] at h
        split at h
        · obtain ⟨p, _, h⟩ := Option.bind_eq_some_iff.1 h
          split at h
          · obtain ⟨j, _, h⟩ := Option.bind_eq_some_iff.1 h
            obtain rfl := Option.some.inj h; exact .inl rfl
          · split at h
            · rename_i h3
              obtain ⟨l2, hl2, h⟩ := Option.bind_eq_some_iff.1 h
              rw [letter_tot _ (bt_range u _)] at hl2
              obtain rfl := Option.some.inj hl2
              split at h
              · rename_i hlet
                obtain ⟨t, ht, h⟩ := Option.bind_eq_some_iff.1 h
                obtain ⟨c, m, e1, e2⟩ := tail_head u 2 (by omega)
                have := tag_ok _ _ t (by (try simp only); rw [ByteArray.size_extract]; omega) c m e1 (letter_free c (by rw [← e2]; exact hlet)) ht
                obtain rfl := Option.some.inj h
                unfold markupEnd
                rcases this with h4 | ⟨h4, h5, h6, h7⟩
                · rw [if_neg (by rw [h4]; decide)]; exact .inl h4
                · rw [if_pos h4]
                  exact .inr (show TokOk 3 t.2.1 [] false from ⟨⟨by decide, by decide⟩, h5, fun _ => ⟨rfl, rfl⟩, fun _ => h6, attrs_nil⟩)
              · exact hcom r (remark_shape _ _ _ h)
            · cases h
        · exact hcom r (remark_shape _ _ _ h)
def PieceOk (t : Tok) : Prop := TokOk t.f0 t.f1 t.f3 t.f4
theorem piece_text (d : ByteArray) : PieceOk (tT d) := show TokOk 1 ByteArray.empty [] false from ⟨⟨by decide, by decide⟩, lo_empty, fun h => absurd h (by decide), fun h => absurd h (by decide), attrs_nil⟩
theorem step_pieces (x nm : ByteArray) (raw : Int) (last : Bool) (h : Okay x nm raw) (r : StepRes) (e : scan_Scanner_step.f x false nm raw last = some r) : ∀ t ∈ r.1, PieceOk t := by
  have hone : ∀ t : Tok, PieceOk t → ∀ u ∈ [t], PieceOk u := fun t ht u hu => by
    rw [List.mem_singleton] at hu; rw [hu]; exact ht
  have hmark : ∀ r, stepMark x false nm raw last = some r → ∀ t ∈ r.1, PieceOk t := fun r e => by
    unfold stepMark at e
    obtain ⟨m, hm, e⟩ := Option.bind_eq_some_iff.1 e
    have hd := markup_ok x false m (by have := h.size; omega) hm
    split at e
    · obtain rfl := Option.some.inj e; intro t ht; cases ht
    · split at e
      · obtain rfl := Option.some.inj e; intro t ht; cases ht
      · rename_i h0
        have hd := hd.resolve_left h0
        split at e
        · obtain ⟨q, _, e⟩ := Option.bind_eq_some_iff.1 e
          obtain rfl := Option.some.inj e
          exact hone _ hd
        · obtain rfl := Option.some.inj e
          exact hone _ hd
  cases last with
  | true =>
    rcases step_last x nm raw h with ⟨_, d, hd, e2⟩ | ⟨_, ⟨_, e2⟩ | ⟨_, _, e2⟩⟩
    · rw [e2] at e; obtain rfl := Option.some.inj e; exact hone _ (piece_text d)
    · rw [e2] at e; obtain rfl := Option.some.inj e; intro t ht; cases ht
    · rw [e2] at e; exact hmark r e
  | false =>
    rcases step_part x nm raw h with e2 | ⟨c, d, _, _, hd, e2, _⟩ | ⟨_, _, e2⟩
    · rw [e2] at e; obtain rfl := Option.some.inj e; intro t ht; cases ht
    · rw [e2] at e; obtain rfl := Option.some.inj e; exact hone _ (piece_text d)
    · rw [e2] at e; exact hmark r e
theorem tk_pieces : ∀ (n : Nat) (x nm : ByteArray) (raw : Int), x.size = n → Okay x nm raw → ∀ t ∈ Tk x nm raw, PieceOk t := by
  intro n
  induction n using Nat.strongRecOn with
  | ind n ih =>
    intro x nm raw hx h
    obtain ⟨ts, more, r3, n3, w3, e, l1, s1, ok, le, lt⟩ := step_ok x nm raw true h
    cases more with
    | false => rw [tk_stop x nm raw h _ e rfl]; intro t ht; cases ht
    | true =>
      have := lt rfl
      rw [tk_step x nm raw h ts r3 n3 false w3 e]
      intro t ht
      rcases List.mem_append.1 ht with h1 | h1
      · exact step_pieces x nm raw true h _ e t h1
      · exact ih r3.size (by omega) r3 n3 w3 rfl ok t h1
structure PutOk (l : List Tok) : Prop where
  pieces : ∀ t ∈ l, PieceOk t
  full : ∀ t ∈ l, t.f0 = 1 → 0 < t.f2.size
  apart : ∀ a b p q, l = p ++ a :: b :: q → ¬ (a.f0 = 1 ∧ b.f0 = 1)
theorem put_snoc {o : List Tok} {t : Tok} (h : PutOk o) (ht : PieceOk t) (hf : t.f0 = 1 → 0 < t.f2.size) (ha : t.f0 = 1 → ∀ o' x, o = o' ++ [x] → x.f0 ≠ 1) : PutOk (o ++ [t]) where
  pieces := fun u hu => by
    rcases List.mem_append.1 hu with h1 | h1
    · exact h.pieces u h1
    · rw [List.mem_singleton] at h1; rw [h1]; exact ht
  full := fun u hu => by
    rcases List.mem_append.1 hu with h1 | h1
    · exact h.full u h1
    · rw [List.mem_singleton] at h1; rw [h1]; exact hf
  apart := fun a b p q e => by
    rcases List.eq_nil_or_concat q with h1 | ⟨q', x, h1⟩
    · subst h1
      have e2 : o ++ [t] = (p ++ [a]) ++ [b] := by rw [e]; simp
      have e3 := List.append_inj' e2 rfl
      have hb : t = b := by simpa using e3.2
      rw [← hb]
      exact fun hc => ha hc.2 p a e3.1 hc.1
    · rw [List.concat_eq_append] at h1
      subst h1
      have e2 : o ++ [t] = (p ++ a :: b :: q') ++ [x] := by rw [e]; simp
      exact h.apart a b p q' (List.append_inj' e2 rfl).1
theorem put_init {o : List Tok} {t : Tok} (h : PutOk (o ++ [t])) : PutOk o where
  pieces := fun u hu => h.pieces u (List.mem_append_left _ hu)
  full := fun u hu => h.full u (List.mem_append_left _ hu)
  apart := fun a b p q e => h.apart a b p (q ++ [t]) (by rw [e]; simp)
theorem put_step (o : List Tok) (t : Tok) (h : PutOk o) (ht : PieceOk t) : PutOk (mrg1 o t) := by
  by_cases h1 : t.f0 = 1 ∧ t.f2.size = 0
  · rw [mrg1_empty o t h1.1 h1.2]; exact h
  · have hf : t.f0 = 1 → t.f2.size ≠ 0 := fun a b => h1 ⟨a, b⟩
    rcases ends_or o with ⟨o', x, ho, hx⟩ | hno
    · by_cases h0 : t.f0 = 1
      · rw [ho, mrg1_last o' x t h0 (hf h0) hx]
        rw [ho] at h
        have hi := put_init h
        have hx2 := h.pieces x (by simp)
        refine put_snoc hi ?_ ?_ ?_
        · have : PieceOk x := hx2
          unfold PieceOk at this ⊢
          rw [hx] at this
          exact this
        · intro _
          show 0 < (x.f2 ++ t.f2).size
          rw [ByteArray.size_append]
          have := hf h0
          omega
        · intro _ o2 y e
          have := h.apart y x o2 [] (by rw [e]; simp)
          exact fun hy => this ⟨hy, hx⟩
      · rw [mrg1_new o t hf (fun c => absurd c h0)]
        exact put_snoc h ht (fun c => absurd c h0) (fun c => absurd c h0)
    · rw [mrg1_new o t hf (fun _ => hno)]
      exact put_snoc h ht (fun c => Nat.pos_of_ne_zero (hf c)) (fun _ => hno)
theorem put_all : ∀ (l o : List Tok), PutOk o → (∀ t ∈ l, PieceOk t) → PutOk (mrgF o l)
  | [], o, h, _ => h
  | t :: l, o, h, hl => put_all l (mrg1 o t) (put_step o t h (hl t (by simp))) (fun u hu => hl u (List.mem_cons_of_mem _ hu))
theorem tokens_put (k : Nat) (x : ByteArray) (hz : x.size ≤ 30000) (hk : x.size + 1 ≤ k) : ∃ l, scan_Tokens.f k x = some l ∧ PutOk l ∧ l.length ≤ x.size ∧ AOk l := by
  have hO : Okay x ByteArray.empty 0 := ⟨hz, by decide, by decide, by decide⟩
  refine ⟨mrgF [] (Tk x ByteArray.empty 0), tokens_tk k x hz hk, put_all _ [] ⟨fun t h => by (cases h), fun t h => by (cases h), fun a b p q e => by simp at e⟩ (tk_pieces _ x _ _ rfl hO), ?_, mrgF_attrs _ _ (fun t ht => by cases ht) (tk_attrs _ x _ _ rfl hO)⟩
  have h1 := mrgF_length (Tk x ByteArray.empty 0) []
  have h2 := (tk_spec x ByteArray.empty 0 hO).2.2
  exact Nat.le_trans h1 (by rw [List.length_nil, Nat.zero_add]; exact h2)
end Go.Proofs.YtoacojkmclngmaaGreatDoor.Pz
namespace Go.Proofs.YtoacojkmclngmaaGreatDoor.Pz
open Go.RowKit Go.Proofs.YtoacojkmclngmaaGreatDoorW.PrintWords Go.Proofs.YtoacojkmclngmaaGreatDoorW.PrintLast Go.Proofs.YtoacojkmclngmaaGreatDoorW.PrintMore
attribute [local go_sem] max2_int min2_int max_two min_two max_three min_three max_four min_four   -- for this text's walks alone
attribute [local go_sem] rune_str
set_option linter.unusedVariables false
set_option linter.unusedSimpArgs false
def awakeText : ByteArray := ⟨#[97, 60, 66, 32, 99, 61, 49, 32, 67, 61, 50, 62, 120, 60, 47, 62, 121]⟩
def awakeList : List S33 := [⟨1, ⟨#[]⟩, ⟨#[97]⟩, [], false⟩, ⟨2, ⟨#[98]⟩, ⟨#[]⟩, [⟨⟨#[99]⟩, ⟨#[49]⟩⟩], false⟩, ⟨1, ⟨#[]⟩, ⟨#[120, 121]⟩, [], false⟩]
instance decAttr : DecidableEq S36 := fun x y => decidable_of_iff (x.f0 = y.f0 ∧ x.f1 = y.f1) (by cases x; cases y; simp)
instance decToken : DecidableEq S33 := fun x y => decidable_of_iff (x.f0 = y.f0 ∧ x.f1 = y.f1 ∧ x.f2 = y.f2 ∧ x.f3 = y.f3 ∧ x.f4 = y.f4) (by cases x; cases y; simp)
def cribblelaw18_awake.f : Option Bool := if scan_Tokens.f 32 awakeText = some awakeList then some true else none
set_option maxHeartbeats 4000000 in
set_option maxRecDepth 100000 in
theorem cribblelaw18_awake.calls  (r : Bool) (w : World) (hG : Glob w) (h : cribblelaw18_awake.f  = some r) :
    Calls Tryz.prog 12 #[] w fun e w' => e = .returned (.bool r) ∧ Below w.heap.size w w' := by
  unfold cribblelaw18_awake.f at h
  split at h
  case isFalse => cases h
  rename_i ht
  obtain rfl := Option.some.inj h
  have HT : Aside0 (scan_Tokens.f 32 (⟨#[97, 60, 66, 32, 99, 61, 49, 32, 67, 61, 50, 62, 120, 60, 47, 62, 121]⟩ : ByteArray) = some awakeList) := ⟨ht⟩
  have HG0 := Aside0.mk hG
  clear ht h hG
  go_enter Tryz.func12, Tryz.ntmps12
  go_upto_region 2 with (first | (go_at_call 14; (with_reducible refine (scan_Tokens.calls 32 (⟨#[97, 60, 66, 32, 99, 61, 49, 32, 67, 61, 50, 62, 120, 60, 47, 62, 121]⟩ : ByteArray) awakeList _ HG0.out HT.out).mono ?_); rintro e w1 ⟨v, rfl, ho, hb⟩; have HV := Aside0.mk ho; have HB1 := Aside0.mk hb; clear ho hb))
  obtain ⟨A, c, rfl⟩ := Kd.V_slice HV.out
  have hc63 : (3 : Nat) ≤ c := (Kd.V_at HV.out).2.1
  obtain ⟨ad, rfl⟩ : ∃ ad, A = some ad := by obtain ⟨ad, h, _⟩ := (Kd.V_reads' HV.out).2.2.2.2 (show 0 < awakeList.length from by decide); exact ⟨ad, h⟩
  obtain ⟨c1, hl1, hF1, hc1⟩ := Kd.V_get HV.out (⟨0, ⟨#[]⟩, ⟨#[]⟩, [], false⟩ : S33) 1 (by decide) (by decide)
  obtain ⟨c2, hl2, hF2, hc2⟩ := Kd.V_get HV.out (⟨0, ⟨#[]⟩, ⟨#[]⟩, [], false⟩ : S33) 2 (by decide) (by decide)
  obtain ⟨A1, p1, rfl, hq1, hG1⟩ := k33_openF hF1
  obtain ⟨A2, p2, rfl, hq2, hG2⟩ := k33_openF hF2
  have hC1 := Kd.F_now hG1
  obtain ⟨ae, rfl⟩ : ∃ ae, A1 = some ae := by obtain ⟨ad, h, _⟩ := hC1.2.2 (show 0 < 1 from by decide); exact ⟨ad, h⟩
  obtain ⟨ad', ce, he', hle, hKe, hce⟩ := Kd.C_get hC1 (⟨⟨#[]⟩, ⟨#[]⟩⟩ : S36) 0 (by decide) (by decide)
  injection he' with he'
  subst he'
  obtain rfl := k36_open hKe
  have hn1 : w1.cell? ⟨(ad.add 5).block, (ad.add 5).off + 1, none⟩ = some (.string ⟨#[98]⟩) := by rw [← add_field _ _ 1 (by omega)]; exact hc1 1 _ rfl
  have hn3 : w1.cell? ⟨(ad.add 5).block, (ad.add 5).off + 3, none⟩ = some (.slice (some ae) 1 p1) := by rw [← add_field _ _ 3 (by omega)]; exact hc1 3 _ rfl
  have hm2 : w1.cell? ⟨(ad.add 10).block, (ad.add 10).off + 2, none⟩ = some (.string ⟨#[120, 121]⟩) := by rw [← add_field _ _ 2 (by omega)]; exact hc2 2 _ rfl
  have he0 : w1.cell? (ae.add 0) = some (.string ⟨#[99]⟩) := hce 0 _ rfl
  have he1 : w1.cell? (ae.add 1) = some (.string ⟨#[49]⟩) := hce 1 _ rfl
  clear hc1 hc2 hF1 hF2 hG1 hG2 hC1 hKe hce
  have hlen : awakeList.length = 3 := rfl
  rw [hlen]
  replace hn1 : w1.cell? ⟨ad.block, ad.off + 5 + 1, none⟩ = some (.string ⟨#[98]⟩) := hn1
  replace hn3 : w1.cell? ⟨ad.block, ad.off + 5 + 3, none⟩ = some (.slice (some ae) 1 p1) := hn3
  replace hm2 : w1.cell? ⟨ad.block, ad.off + 10 + 2, none⟩ = some (.string ⟨#[120, 121]⟩) := hm2
  have he2 : w1.cell? ae = some (.string ⟨#[99]⟩) := he0
  have he3 : w1.cell? ⟨ae.block, ae.off + 1, none⟩ = some (.string ⟨#[49]⟩) := he1
  clear hl1 hl2 hle hq1 hq2 hlen
  go_wp2_with (first | (go_at_call 16; (with_reducible refine (scan_New.calls _ _ _ _ w _ HB1.out rfl).mono ?_); rintro e w2 ⟨gn, rfl, -, hb1, hb2⟩; have HB2 := Aside0.mk hb1; clear hb1 hb2))
  go_ret
  exact ⟨rfl, HB2.out⟩
end Go.Proofs.YtoacojkmclngmaaGreatDoor.Pz
namespace Go.Proofs.YtoacojkmclngmaaGreatDoor.Pz
open Go.RowKit Go.Proofs.YtoacojkmclngmaaGreatDoorW.PrintWords Go.Proofs.YtoacojkmclngmaaGreatDoorW.PrintLast Go.Proofs.YtoacojkmclngmaaGreatDoorW.PrintMore
attribute [local go_sem] max2_int min2_int max_two min_two max_three min_three max_four min_four   -- for this text's walks alone
attribute [local go_sem] rune_str
set_option linter.unusedVariables false
set_option linter.unusedSimpArgs false
theorem low_add (c : UInt8) (h : 65 ≤ c.toNat ∧ c.toNat ≤ 90) : (c.toNat : Int) + 32 = ((low c).toNat : Int) := by
  have hh : ∀ n : Fin 256, (65 ≤ (UInt8.ofNat n.val).toNat ∧ (UInt8.ofNat n.val).toNat ≤ 90) → ((UInt8.ofNat n.val).toNat : Int) + 32 = ((low (UInt8.ofNat n.val)).toNat : Int) := by decide +kernel
  have := hh ⟨c.toNat, c.toNat_lt⟩
  simp only [UInt8.ofNat_toNat] at this
  exact this h
def cribbleref03_Lower.f (a0 : ByteArray) : Option ByteArray := if a0.size ≤ 140737488355328 then some (lowerB a0) else none
set_option maxHeartbeats 1000000 in
theorem cribbleref03_Lower.calls (a0 : ByteArray) (r : ByteArray) (w : World) (h : cribbleref03_Lower.f a0 = some r) :
    Calls Tryz.prog 20 #[.string a0] w fun e w' => e = .returned (.string r) ∧ Below w.heap.size w w' := by
  unfold cribbleref03_Lower.f at h
  split at h
  case isFalse => cases h
  rename_i hsz
  obtain rfl := Option.some.inj h
  clear h
  have hconv := fun W => Lib.run_convert_string_bytes (P := Tryz.prog) W 9 58 5 a0 Tryz.underlying9 Tryz.underlying58 Tryz.underlying5
  go_enter Tryz.func20, Tryz.ntmps20
  go_wp2
  clear hconv
  have HL : Aside0 (a0.data.toList.length = a0.size) := ⟨by rw [Array.length_toList]; rfl⟩
  have HR := Aside0.mk (BRow.conv w a0)
  have HB := Aside0.mk (bytes_below (Below.refl w.heap.size w) (Nat.le_refl _) 5 a0)
  generalize Lib.bytesWorld w 5 a0 = w1 at HR HB ⊢
  generalize grownCap w a0.size 0 5 = cap
  go_loopw [4] (fun i wr => ∃ k : Nat, k ≤ a0.size ∧ i = .int .i64 k ∧ Aside0 (BRow wr w.heap.size (lowTo a0.data.toList k)) ∧ Aside0 (Below w.heap.size w wr)) (fun i _ => a0.size - (intOf i).toNat)
  case atStart => exact ⟨0, Nat.zero_le _, rfl, ⟨by simpa [lowTo] using HR.out⟩, HB⟩
  case round =>
    obtain ⟨k, hk, rfl, hr, hb⟩ := hrel
    by_cases hlt : k < a0.size
    · have hkl : k < a0.data.toList.length := by rw [HL.out]; exact hlt
      obtain ⟨c, hc⟩ : ∃ c, c = a0.data.toList[k] := ⟨_, rfl⟩
      have hcell : wr.cell? ⟨w.heap.size, k, none⟩ = some (.int .u8 c.toNat) := by
        rw [hr.out.cell (by rw [lowTo_length]; exact hkl), lowTo_at _ _ hkl, hc]
      have hfree : wr.frozen? ⟨w.heap.size, k, none⟩ = false := hr.out.free (by rw [lowTo_length]; exact hkl)
      have HC := Aside0.mk hc
      clear hc
      have hidx0 : (0 : Int) ≤ (k : Int) := by omega
      have hidx1 : (k : Int) < (a0.size : Int) := by omega
      by_cases h1 : (65 : Int) ≤ (c.toNat : Int)
      · by_cases h2 : (c.toNat : Int) ≤ 90
        · have hlo := Aside0.mk (low_add c ⟨by omega, by omega⟩)
          go_wp2
          repeat (go_quiet (fail); try go_wp2)
          go_roundw
          case rel =>
            refine ⟨k + 1, by omega, by go_num, ⟨?_⟩, ⟨hb.out.setCell (p := ⟨w.heap.size, k, none⟩) (Nat.le_refl _) _⟩⟩
            rw [hlo.out, ← lowTo_set _ _ hkl, ← HC.out]
            exact hr.out.set k (low c)
          case measure => simp [intOf]; omega
        · have h2' : decide ((c.toNat : Int) ≤ 90) = false := by simpa using h2
          go_wp2
          repeat (go_quiet (fail); try go_wp2)
          go_roundw
          case rel => exact ⟨k + 1, by omega, by go_num, ⟨by rw [lowTo_same _ _ hkl (by rw [← HC.out]; simp [low]; omega)]; exact hr.out⟩, hb⟩
          case measure => simp [intOf]; omega
      · have h1' : decide ((65 : Int) ≤ (c.toNat : Int)) = false := by simpa using h1
        go_wp2
        repeat (go_quiet (fail); try go_wp2)
        go_roundw
        case rel => exact ⟨k + 1, by omega, by go_num, ⟨by rw [lowTo_same _ _ hkl (by rw [← HC.out]; simp [low]; omega)]; exact hr.out⟩, hb⟩
        case measure => simp [intOf]; omega
    · have hke : k = a0.size := by omega
      have hfull : lowTo a0.data.toList k = a0.data.toList.map low := by
        have : a0.data.toList.length ≤ k := by rw [HL.out]; omega
        simp [lowTo, List.take_of_length_le this, List.drop_eq_nil_of_le this]
      have hlen : (a0.data.toList.map low).length = a0.size := by rw [List.length_map, HL.out]
      have hrd := hr.out.reads (by rw [lowTo_length, HL.out]; omega)
      rw [hfull, hlen] at hrd
      have hcv := Kd.C_string (P := Tryz.prog) (c := cap) Tryz.underlying58 Tryz.underlying5 Tryz.underlying9 hrd
      rw [strOfNums_numsOf] at hcv
      clear hrd hfull hlen
      go_wp2
      go_ret
      exact ⟨rfl, hb.out⟩
end Go.Proofs.YtoacojkmclngmaaGreatDoor.Pz
namespace Go.Proofs.YtoacojkmclngmaaGreatDoor.Pz
open Go.RowKit Go.Proofs.YtoacojkmclngmaaGreatDoorW.PrintWords Go.Proofs.YtoacojkmclngmaaGreatDoorW.PrintLast Go.Proofs.YtoacojkmclngmaaGreatDoorW.PrintMore
attribute [local go_sem] max2_int min2_int max_two min_two max_three min_three max_four min_four   -- for this text's walks alone
attribute [local go_sem] rune_str
set_option linter.unusedVariables false
set_option linter.unusedSimpArgs false
def bs (n m : Nat) : Array Bool := ((List.range n).map fun i => m.testBit i).toArray
structure RowOk (t : S33) : Prop where
  lo : 1 ≤ t.f0
  hi : t.f0 ≤ 5
  name : cribbleref03_Lower.f t.f1 = some t.f1
  text : t.f0 = 1 → ¬ t.f2.toList = []
  ends : t.f0 = 3 → t.f3.length = 0 ∧ t.f4 = false
  tag : t.f0 = 2 ∨ t.f0 = 3 → ¬ t.f1.toList = []
  attr : ∀ i : Nat, i < t.f3.length → cribbleref03_Lower.f (rd_T36 t.f3 i).f0 = some (rd_T36 t.f3 i).f0 ∧ ¬ (rd_T36 t.f3 i).f0.toList = []
  apart : ∀ i j : Nat, i < j → j < t.f3.length → ¬ (rd_T36 t.f3 i).f0.toList = (rd_T36 t.f3 j).f0.toList
  few : t.f3.length ≤ 4398046511104
structure RowsOk (l : List S33) : Prop where
  rows : ∀ i : Nat, i < l.length → RowOk (rd_T33 l i)
  apart : ∀ i : Nat, i + 1 < l.length → ¬ ((rd_T33 l (i : Int)).f0 = 1 ∧ (rd_T33 l ((i + 1 : Nat) : Int)).f0 = 1)
  few : l.length ≤ 1000000000
open Classical in
noncomputable def cribblelaw18_ScanNames.f (k : Nat) (a0 : ByteArray) : Option Bool :=
  (cribblelaw18_awake.f).bind fun up => if up = true ∧ a0.size ≤ 1000 then (scan_Tokens.f k a0).bind fun l => if RowsOk l then some true else none else some up
set_option maxHeartbeats 8000000 in
set_option maxRecDepth 100000 in
theorem cribblelaw18_ScanNames.calls (k : Nat) (a0 : ByteArray) (r : Bool) (w : World) (hG : Glob w) (h : cribblelaw18_ScanNames.f k a0 = some r) :
    Calls Tryz.prog 5 #[.string a0] w fun e w' => e = .returned (.bool r) ∧ Below w.heap.size w w' := by
  unfold cribblelaw18_ScanNames.f at h
  obtain ⟨up, hup, h1⟩ := Option.bind_eq_some_iff.1 h
  have HB := Aside0.mk (Below.refl w.heap.size w)
  have A2 := Aside0.mk hup
  clear hup h
  by_cases hc : up = true ∧ a0.size ≤ 1000
  case neg =>
    rw [if_neg hc] at h1
    obtain rfl := Option.some.inj h1
    clear h1
    cases up with
    | false =>
      clear hc
      go_enter Tryz.func5, Tryz.ntmps5
      go_wp2_with (first | (go_at_call 12; refine (cribblelaw18_awake.calls false w hG A2.out).mono ?_; rintro e w4 ⟨rfl, hb⟩; have HB4 := Aside0.mk hb; clear hb))
      go_ret
      exact ⟨rfl, HB4.out⟩
    | true =>
      have hs : decide ((a0.size : Int) > 1000) = true := decide_eq_true (by have : ¬ a0.size ≤ 1000 := fun c => hc ⟨rfl, c⟩; omega)
      clear hc
      go_enter Tryz.func5, Tryz.ntmps5
      go_wp2_with (first | (go_at_call 12; refine (cribblelaw18_awake.calls true w hG A2.out).mono ?_; rintro e w4 ⟨rfl, hb⟩; have HB4 := Aside0.mk hb; clear hb))
      go_ret
      exact ⟨rfl, HB4.out⟩
  case pos =>
    rw [if_pos hc] at h1
    obtain ⟨rfl, hsz⟩ := hc
    obtain ⟨l, hl, h2⟩ := Option.bind_eq_some_iff.1 h1
    clear h1
    split at h2
    case isFalse => cases h2
    rename_i hrows
    obtain rfl := Option.some.inj h2
    clear h2
    have HRS := Aside0.mk hrows
    have HL := Aside0.mk hl
    have hs : decide ((a0.size : Int) > 1000) = false := decide_eq_false (by omega)
    clear hrows hl hsz
    go_enter Tryz.func5, Tryz.ntmps5
    go_wp2_with (first
      | (go_at_call 12; refine (cribblelaw18_awake.calls true w hG A2.out).mono ?_; rintro e w4 ⟨rfl, hb⟩; have HB4 := Aside0.mk hb; clear hb)
      | (go_at_call 14; refine (scan_Tokens.calls k a0 l _ (Glob.below hG HB4.out) HL.out).mono ?_; rintro e w5 ⟨v5, rfl, ho, hb⟩; obtain ⟨A, c, rfl⟩ := Kd.V_slice ho; have HV := Aside0.mk (Kd.V_reads' ho).2.2; have HB5 := Aside0.mk (below_step HB4.out hb); clear ho hb HB4))
    go_loopw [5] (fun i wr => ∃ k : Nat, k ≤ l.length ∧ i = .int .i64 k ∧ Aside0 (Below w5.heap.size w5 wr)) (fun i _ => l.length - (intOf i).toNat)
    case atStart => exact ⟨0, Nat.zero_le _, rfl, ⟨Below.refl _ _⟩⟩
    case round =>
      obtain ⟨n, hn, rfl, HBR⟩ := hrel
      obtain ⟨wo, hwo⟩ : ∃ wo, wo = wr := ⟨_, rfl⟩; subst hwo
      have hfew : (l.length : Int) ≤ 1000000000 := by have := HRS.out.few; omega
      by_cases hlt : n < l.length
      · have hlti : (n : Int) < (l.length : Int) := by omega
        have hn0 : (0 : Int) ≤ (n : Int) := by omega
        obtain ⟨ad, A3, c3, rfl, hx0, hx1, hx2, hx3, hx4, hl3, hi3⟩ := at_T33 (Kd.C_below HV.out HBR.out) (n : Int) hn0 hlti
        have hrow := HRS.out.rows n hlt
        have hprev : 0 < n → ∃ p : Nat, n = p + 1 ∧ ¬ ((rd_T33 l (p : Int)).f0 = 1 ∧ (rd_T33 l (n : Int)).f0 = 1) := fun h0 => ⟨n - 1, by omega, by
          have := HRS.out.apart (n - 1) (by omega)
          rwa [show n - 1 + 1 = n by omega] at this⟩
        obtain ⟨t, ht⟩ : ∃ t, t = rd_T33 l (n : Int) := ⟨_, rfl⟩
        rw [← ht] at hx0 hx1 hx2 hx3 hx4 hl3 hi3 hrow hprev
        have HPREV := Aside0.mk hprev
        have HROW := Aside0.mk hrow
        have hf3 : (t.f3.length : Int) ≤ 4398046511104 := by have := hrow.few; omega
        have HL3 := Aside0.mk hl3
        have HI3 := Aside0.mk hi3
        rw [Int.toNat_natCast] at hx0 hx1 hx2 hx3 hx4
        clear hprev hrow ht hl3 hi3
        go_upto_region 9 with (fail)
        obtain ⟨W2, hW2⟩ : ∃ W2, W2 = wo.alloc (Obj.cells #[.int .i64 t.f0, .string t.f1, .string t.f2, .slice A3 t.f3.length c3, .bool t.f4] 33) := ⟨_, rfl⟩
        rw [← hW2]
        have hBT : W2.heap[wo.heap.size]? = some (.cells #[.int .i64 t.f0, .string t.f1, .string t.f2, .slice A3 t.f3.length c3, .bool t.f4] 33 (0, 0)) := by rw [hW2]; exact heap_alloc_new wo _
        have HB2 := Aside0.mk (show Below w5.heap.size w5 W2 from by rw [hW2]; exact below_alloc HBR.out _)
        have HI3' := Aside0.mk (show Kd.C k36 W2 A3 t.f3.length t.f3 from by rw [hW2]; exact Kd.C_alloc HI3.out _)
        have ht0 : W2.cell? ⟨wo.heap.size, 0, none⟩ = some (.int .i64 t.f0) := (blk_cell hBT 0).trans rfl
        have ht1 : W2.cell? ⟨wo.heap.size, 1, none⟩ = some (.string t.f1) := (blk_cell hBT 1).trans rfl
        have ht2 : W2.cell? ⟨wo.heap.size, 2, none⟩ = some (.string t.f2) := (blk_cell hBT 2).trans rfl
        have ht3 : W2.cell? ⟨wo.heap.size, 3, none⟩ = some (.slice A3 t.f3.length c3) := (blk_cell hBT 3).trans rfl
        have ht4 : W2.cell? ⟨wo.heap.size, 4, none⟩ = some (.bool t.f4) := (blk_cell hBT 4).trans rfl
        clear hW2 hx0 hx1 hx2 hx3 hx4 HI3 hBT HBR
        have hlo : decide (t.f0 < 1) = false := decide_eq_false (by have := HROW.out.lo; omega)
        have hhi : decide (t.f0 > 5) = false := decide_eq_false (by have := HROW.out.hi; omega)
        have hne : (t.f1.toList != t.f1.toList) = false := by simp
        go_cut [68] (fun v wc => v = .bool false ∧ Aside0 (Below W2.heap.size W2 wc))
        case first =>
          have HBB := Aside0.mk (Below.refl W2.heap.size W2)
          by_cases h1 : t.f0 = 1
          · have h1' : (t.f0 == 1) = true := by simpa using h1
            have he' : (t.f2.toList == ([] : List UInt8)) = false := beq_eq_false_iff_ne.mpr (HROW.out.text h1)
            by_cases hz : n = 0
            · have hpg : decide ((n : Int) > 0) = false := decide_eq_false (by omega)
              have hpg2 : decide (0 < n) = false := decide_eq_false (by omega)
              clear h1 hz
              refine start_ (n := 39) (S := fun w' => w'.cell? ⟨wo.heap.size, 0, none⟩ = some (.int .i64 t.f0) ∧ w'.cell? ⟨wo.heap.size, 1, none⟩ = some (.string t.f1) ∧ w'.cell? ⟨wo.heap.size, 2, none⟩ = some (.string t.f2) ∧ Aside0 (Below W2.heap.size W2 w')) (ds := []) (bs 39 0) (by kernel_rfl) rfl (by kernel_rfl) ⟨ht0, ht1, ht2, ⟨HBB.out.drew⟩⟩ (fun hHeld => ?_)
              refine pure_ (i := 0) (N := some 30) (v := ?_) (a' := ?_) (bs 39 1) rfl rfl (by kernel_rfl) (fun _ _ _ h => h) (Or.inl ⟨by rfl, ?_⟩) ?_ ?_
              rotate_left
              · intro w'
                go_simp
                with_reducible rfl
              rotate_left
              · simp only [Act.put, List.setIfInBounds_toArray, List.set_cons_zero, List.set_cons_succ, i64_w, i32_w]
                rfl
              refine take_ (i := 1) (N := some 31) (v := ?_) (a' := ?_) (bs 39 3) rfl rfl (by kernel_rfl) (fun _ _ _ h => h) (Or.inl ⟨by rfl, ?_⟩) hHeld ?_ ?_
              rotate_left
              · rintro w' ⟨s0, s1, s2, s3⟩
                go_simp
                with_reducible rfl
              rotate_left
              · simp only [Act.put, List.setIfInBounds_toArray, List.set_cons_zero, List.set_cons_succ, i64_w, i32_w]
                rfl
              refine pure_ (i := 2) (N := some 32) (v := ?_) (a' := ?_) (bs 39 7) rfl rfl (by kernel_rfl) (fun _ _ _ h => h) (Or.inl ⟨by rfl, ?_⟩) ?_ ?_
              rotate_left
              · intro w'
                go_simp
                with_reducible rfl
              rotate_left
              · simp only [Act.put, List.setIfInBounds_toArray, List.set_cons_zero, List.set_cons_succ, i64_w, i32_w]
                rfl
              refine pure_ (i := 3) (N := some 33) (v := ?_) (a' := ?_) (bs 39 15) rfl rfl (by kernel_rfl) (fun _ _ _ h => h) (Or.inl ⟨by rfl, ?_⟩) ?_ ?_
              rotate_left
              · intro w'
                go_simp
                with_reducible rfl
              rotate_left
              · simp only [Act.put, List.setIfInBounds_toArray, List.set_cons_zero, List.set_cons_succ, i64_w, i32_w]
                rfl
              refine pure_ (i := 4) (N := some 34) (v := ?_) (a' := ?_) (bs 39 31) rfl rfl (by kernel_rfl) (fun _ _ _ h => h) (Or.inl ⟨by rfl, ?_⟩) ?_ ?_
              rotate_left
              · intro w'
                go_simp
                with_reducible rfl
              rotate_left
              · simp only [Act.put, List.setIfInBounds_toArray, List.set_cons_zero, List.set_cons_succ, i64_w, i32_w]
                rfl
              refine take_ (i := 5) (N := some 35) (v := ?_) (a' := ?_) (bs 39 63) rfl rfl (by kernel_rfl) (fun _ _ _ h => h) (Or.inl ⟨by rfl, ?_⟩) hHeld ?_ ?_
              rotate_left
              · rintro w' ⟨s0, s1, s2, s3⟩
                go_simp
                with_reducible rfl
              rotate_left
              · simp only [Act.put, List.setIfInBounds_toArray, List.set_cons_zero, List.set_cons_succ, i64_w, i32_w]
                rfl
              refine pure_ (i := 6) (N := some 36) (v := ?_) (a' := ?_) (bs 39 127) rfl rfl (by kernel_rfl) (fun _ _ _ h => h) (Or.inl ⟨by rfl, ?_⟩) ?_ ?_
              rotate_left
              · intro w'
                go_simp
                with_reducible rfl
              rotate_left
              · simp only [Act.put, List.setIfInBounds_toArray, List.set_cons_zero, List.set_cons_succ, i64_w, i32_w]
                rfl
              refine pure_ (i := 7) (N := some 37) (v := ?_) (a' := ?_) (bs 39 255) rfl rfl (by kernel_rfl) (fun _ _ _ h => h) (Or.inl ⟨by rfl, ?_⟩) ?_ ?_
              rotate_left
              · intro w'
                go_simp
                with_reducible rfl
              rotate_left
              · simp only [Act.put, List.setIfInBounds_toArray, List.set_cons_zero, List.set_cons_succ, i64_w, i32_w]
                rfl
              refine pure_ (i := 8) (N := some 38) (v := ?_) (a' := ?_) (bs 39 511) rfl rfl (by kernel_rfl) (fun _ _ _ h => h) (Or.inl ⟨by rfl, ?_⟩) ?_ ?_
              rotate_left
              · intro w'
                go_simp
                with_reducible rfl
              rotate_left
              · simp only [Act.put, List.setIfInBounds_toArray, List.set_cons_zero, List.set_cons_succ, i64_w, i32_w]
                rfl
              refine pure_ (i := 9) (N := some 39) (v := ?_) (a' := ?_) (bs 39 1023) rfl rfl (by kernel_rfl) (fun _ _ _ h => h) (Or.inl ⟨by rfl, ?_⟩) ?_ ?_
              rotate_left
              · intro w'
                go_simp
                with_reducible rfl
              rotate_left
              · simp only [Act.put, List.setIfInBounds_toArray, List.set_cons_zero, List.set_cons_succ, i64_w, i32_w]
                rfl
              refine take_ (i := 10) (N := some 40) (v := ?_) (a' := ?_) (bs 39 2047) rfl rfl (by kernel_rfl) (fun _ _ _ h => h) (Or.inl ⟨by rfl, ?_⟩) hHeld ?_ ?_
              rotate_left
              · rintro w' ⟨s0, s1, s2, s3⟩
                go_simp
                with_reducible rfl
              rotate_left
              · simp only [Act.put, List.setIfInBounds_toArray, List.set_cons_zero, List.set_cons_succ, i64_w, i32_w]
                rfl
              refine pure_ (i := 12) (N := some 42) (v := ?_) (a' := ?_) (bs 39 6143) rfl rfl (by kernel_rfl) (fun _ _ _ h => h) (Or.inl ⟨by rfl, ?_⟩) ?_ ?_
              rotate_left
              · intro w'
                go_simp
                with_reducible rfl
              rotate_left
              · simp only [Act.put, List.setIfInBounds_toArray, List.set_cons_zero, List.set_cons_succ, i64_w, i32_w]
                rfl
              refine take_ (i := 13) (N := some 43) (v := ?_) (a' := ?_) (bs 39 14335) rfl rfl (by kernel_rfl) (fun _ _ _ h => h) (Or.inl ⟨by rfl, ?_⟩) hHeld ?_ ?_
              rotate_left
              · rintro w' ⟨s0, s1, s2, s3⟩
                go_simp
                with_reducible rfl
              rotate_left
              · simp only [Act.put, List.setIfInBounds_toArray, List.set_cons_zero, List.set_cons_succ, i64_w, i32_w]
                rfl
              refine one_ (i := 11) (N := some 41) (bs 39 16383) rfl rfl (by kernel_rfl) (by decide) (fun K hK => ?_)
              refine goes_ Tryz.func20 (by kernel_rfl) rfl #[.string t.f1] (by rfl) rfl rfl (by (try simp only [List.map_toArray, List.map_cons, List.map_nil]); first | done | rfl) ?_
              with_reducible refine (cribbleref03_Lower.calls t.f1 t.f1 _ HROW.out.name).mono ?_
              rintro e w7 ⟨rfl, hbn⟩
              refine ⟨_, rfl, ?_⟩
              refine hK.out _ _ ⟨pw_cell_below hbn hHeld.1, pw_cell_below hbn hHeld.2.1, pw_cell_below hbn hHeld.2.2.1, ⟨below_step hHeld.2.2.2.out hbn⟩⟩ (fun hHeld => ?_)
              clear hK K
              refine norm_ (a' := ?_) ?_ ?_
              rotate_left
              · show Act.put _ (some 41) _ = _
                simp only [Act.put, List.setIfInBounds_toArray, List.set_cons_zero, List.set_cons_succ, i64_w, i32_w]
                rfl
              refine pure_ (i := 14) (N := some 44) (v := ?_) (a' := ?_) (bs 39 32767) rfl rfl (by kernel_rfl) (fun _ _ _ h => h) (Or.inl ⟨by rfl, ?_⟩) ?_ ?_
              rotate_left
              · intro w'
                go_simp
                with_reducible rfl
              rotate_left
              · simp only [Act.put, List.setIfInBounds_toArray, List.set_cons_zero, List.set_cons_succ, i64_w, i32_w]
                rfl
              refine pure_ (i := 15) (N := some 45) (v := ?_) (a' := ?_) (bs 39 65535) rfl rfl (by kernel_rfl) (fun _ _ _ h => h) (Or.inl ⟨by rfl, ?_⟩) ?_ ?_
              rotate_left
              · intro w'
                go_simp
                with_reducible rfl
              rotate_left
              · simp only [Act.put, List.setIfInBounds_toArray, List.set_cons_zero, List.set_cons_succ, i64_w, i32_w]
                rfl
              refine pure_ (i := 16) (N := some 46) (v := ?_) (a' := ?_) (bs 39 131071) rfl rfl (by kernel_rfl) (fun _ _ _ h => h) (Or.inl ⟨by rfl, ?_⟩) ?_ ?_
              rotate_left
              · intro w'
                go_simp
                with_reducible rfl
              rotate_left
              · simp only [Act.put, List.setIfInBounds_toArray, List.set_cons_zero, List.set_cons_succ, i64_w, i32_w]
                rfl
              refine pure_ (i := 17) (N := some 47) (v := ?_) (a' := ?_) (bs 39 262143) rfl rfl (by kernel_rfl) (fun _ _ _ h => h) (Or.inl ⟨by rfl, ?_⟩) ?_ ?_
              rotate_left
              · intro w'
                go_simp
                with_reducible rfl
              rotate_left
              · simp only [Act.put, List.setIfInBounds_toArray, List.set_cons_zero, List.set_cons_succ, i64_w, i32_w]
                rfl
              refine take_ (i := 18) (N := some 48) (v := ?_) (a' := ?_) (bs 39 524287) rfl rfl (by kernel_rfl) (fun _ _ _ h => h) (Or.inl ⟨by rfl, ?_⟩) hHeld ?_ ?_
              rotate_left
              · rintro w' ⟨s0, s1, s2, s3⟩
                go_simp
                with_reducible rfl
              rotate_left
              · simp only [Act.put, List.setIfInBounds_toArray, List.set_cons_zero, List.set_cons_succ, i64_w, i32_w]
                rfl
              refine pure_ (i := 19) (N := some 49) (v := ?_) (a' := ?_) (bs 39 1048575) rfl rfl (by kernel_rfl) (fun _ _ _ h => h) (Or.inl ⟨by rfl, ?_⟩) ?_ ?_
              rotate_left
              · intro w'
                go_simp
                with_reducible rfl
              rotate_left
              · simp only [Act.put, List.setIfInBounds_toArray, List.set_cons_zero, List.set_cons_succ, i64_w, i32_w]
                rfl
              refine pure_ (i := 20) (N := some 50) (v := ?_) (a' := ?_) (bs 39 2097151) rfl rfl (by kernel_rfl) (fun _ _ _ h => h) (Or.inl ⟨by rfl, ?_⟩) ?_ ?_
              rotate_left
              · intro w'
                go_simp
                with_reducible rfl
              rotate_left
              · simp only [Act.put, List.setIfInBounds_toArray, List.set_cons_zero, List.set_cons_succ, i64_w, i32_w]
                rfl
              refine pure_ (i := 21) (N := some 51) (v := ?_) (a' := ?_) (bs 39 4194303) rfl rfl (by kernel_rfl) (fun _ _ _ h => h) (Or.inl ⟨by rfl, ?_⟩) ?_ ?_
              rotate_left
              · intro w'
                go_simp
                with_reducible rfl
              rotate_left
              · simp only [Act.put, List.setIfInBounds_toArray, List.set_cons_zero, List.set_cons_succ, i64_w, i32_w]
                rfl
              refine take_ (i := 22) (N := some 52) (v := ?_) (a' := ?_) (bs 39 8388607) rfl rfl (by kernel_rfl) (fun _ _ _ h => h) (Or.inl ⟨by rfl, ?_⟩) hHeld ?_ ?_
              rotate_left
              · rintro w' ⟨s0, s1, s2, s3⟩
                go_simp
                with_reducible rfl
              rotate_left
              · simp only [Act.put, List.setIfInBounds_toArray, List.set_cons_zero, List.set_cons_succ, i64_w, i32_w]
                rfl
              refine pure_ (i := 23) (N := some 53) (v := ?_) (a' := ?_) (bs 39 16777215) rfl rfl (by kernel_rfl) (fun _ _ _ h => h) (Or.inl ⟨by rfl, ?_⟩) ?_ ?_
              rotate_left
              · intro w'
                go_simp
                with_reducible rfl
              rotate_left
              · simp only [Act.put, List.setIfInBounds_toArray, List.set_cons_zero, List.set_cons_succ, i64_w, i32_w]
                rfl
              refine pure_ (i := 24) (N := some 54) (v := ?_) (a' := ?_) (bs 39 33554431) rfl rfl (by kernel_rfl) (fun _ _ _ h => h) (Or.inl ⟨by rfl, ?_⟩) ?_ ?_
              rotate_left
              · intro w'
                go_simp
                with_reducible rfl
              rotate_left
              · simp only [Act.put, List.setIfInBounds_toArray, List.set_cons_zero, List.set_cons_succ, i64_w, i32_w]
                rfl
              refine pure_ (i := 25) (N := some 55) (v := ?_) (a' := ?_) (bs 39 67108863) rfl rfl (by kernel_rfl) (fun _ _ _ h => h) (Or.inl ⟨by rfl, ?_⟩) ?_ ?_
              rotate_left
              · intro w'
                go_simp
                with_reducible rfl
              rotate_left
              · simp only [Act.put, List.setIfInBounds_toArray, List.set_cons_zero, List.set_cons_succ, i64_w, i32_w]
                rfl
              refine pure_ (i := 26) (N := some 56) (v := ?_) (a' := ?_) (bs 39 134217727) rfl rfl (by kernel_rfl) (fun _ _ _ h => h) (Or.inl ⟨by rfl, ?_⟩) ?_ ?_
              rotate_left
              · intro w'
                go_simp
                with_reducible rfl
              rotate_left
              · simp only [Act.put, List.setIfInBounds_toArray, List.set_cons_zero, List.set_cons_succ, i64_w, i32_w]
                rfl
              refine pure_ (i := 27) (N := some 57) (v := ?_) (a' := ?_) (bs 39 268435455) rfl rfl (by kernel_rfl) (fun _ _ _ h => h) (Or.inl ⟨by rfl, ?_⟩) ?_ ?_
              rotate_left
              · intro w'
                go_simp
                with_reducible rfl
              rotate_left
              · simp only [Act.put, List.setIfInBounds_toArray, List.set_cons_zero, List.set_cons_succ, i64_w, i32_w]
                rfl
              refine pure_ (i := 28) (N := some 58) (v := undef) (a' := ?_) (bs 39 536870911) rfl rfl (by kernel_rfl) (fun _ _ _ h => h) (Or.inr ⟨by rfl, rfl⟩) ?_ ?_
              rotate_left
              · simp only [Act.put, List.setIfInBounds_toArray, List.set_cons_zero, List.set_cons_succ, i64_w, i32_w]
                rfl
              refine pure_ (i := 29) (N := some 59) (v := undef) (a' := ?_) (bs 39 1073741823) rfl rfl (by kernel_rfl) (fun _ _ _ h => h) (Or.inr ⟨by rfl, rfl⟩) ?_ ?_
              rotate_left
              · simp only [Act.put, List.setIfInBounds_toArray, List.set_cons_zero, List.set_cons_succ, i64_w, i32_w]
                rfl
              refine pure_ (i := 30) (N := some 60) (v := undef) (a' := ?_) (bs 39 2147483647) rfl rfl (by kernel_rfl) (fun _ _ _ h => h) (Or.inr ⟨by rfl, rfl⟩) ?_ ?_
              rotate_left
              · simp only [Act.put, List.setIfInBounds_toArray, List.set_cons_zero, List.set_cons_succ, i64_w, i32_w]
                rfl
              refine pure_ (i := 31) (N := some 61) (v := undef) (a' := ?_) (bs 39 4294967295) rfl rfl (by kernel_rfl) (fun _ _ _ h => h) (Or.inr ⟨by rfl, rfl⟩) ?_ ?_
              rotate_left
              · simp only [Act.put, List.setIfInBounds_toArray, List.set_cons_zero, List.set_cons_succ, i64_w, i32_w]
                rfl
              refine pure_ (i := 32) (N := some 62) (v := undef) (a' := ?_) (bs 39 8589934591) rfl rfl (by kernel_rfl) (fun _ _ _ h => h) (Or.inr ⟨by rfl, rfl⟩) ?_ ?_
              rotate_left
              · simp only [Act.put, List.setIfInBounds_toArray, List.set_cons_zero, List.set_cons_succ, i64_w, i32_w]
                rfl
              refine take_ (i := 33) (N := some 63) (v := undef) (a' := ?_) (bs 39 17179869183) rfl rfl (by kernel_rfl) (fun _ _ _ h => h) (Or.inr ⟨by rfl, rfl⟩) hHeld ?_ ?_
              rotate_left
              · simp only [Act.put, List.setIfInBounds_toArray, List.set_cons_zero, List.set_cons_succ, i64_w, i32_w]
                rfl
              refine pure_ (i := 34) (N := some 64) (v := undef) (a' := ?_) (bs 39 34359738367) rfl rfl (by kernel_rfl) (fun _ _ _ h => h) (Or.inr ⟨by rfl, rfl⟩) ?_ ?_
              rotate_left
              · simp only [Act.put, List.setIfInBounds_toArray, List.set_cons_zero, List.set_cons_succ, i64_w, i32_w]
                rfl
              refine pure_ (i := 35) (N := some 65) (v := ?_) (a' := ?_) (bs 39 68719476735) rfl rfl (by kernel_rfl) (fun _ _ _ h => h) (Or.inl ⟨by rfl, ?_⟩) ?_ ?_
              rotate_left
              · intro w'
                go_simp
                with_reducible rfl
              rotate_left
              · simp only [Act.put, List.setIfInBounds_toArray, List.set_cons_zero, List.set_cons_succ, i64_w, i32_w]
                rfl
              refine pure_ (i := 36) (N := some 66) (v := ?_) (a' := ?_) (bs 39 137438953471) rfl rfl (by kernel_rfl) (fun _ _ _ h => h) (Or.inl ⟨by rfl, ?_⟩) ?_ ?_
              rotate_left
              · intro w'
                go_simp
                with_reducible rfl
              rotate_left
              · simp only [Act.put, List.setIfInBounds_toArray, List.set_cons_zero, List.set_cons_succ, i64_w, i32_w]
                rfl
              refine pure_ (i := 37) (N := some 67) (v := ?_) (a' := ?_) (bs 39 274877906943) rfl rfl (by kernel_rfl) (fun _ _ _ h => h) (Or.inl ⟨by rfl, ?_⟩) ?_ ?_
              rotate_left
              · intro w'
                go_simp
                with_reducible rfl
              rotate_left
              · simp only [Act.put, List.setIfInBounds_toArray, List.set_cons_zero, List.set_cons_succ, i64_w, i32_w]
                rfl
              refine pure_ (i := 38) (N := some 68) (v := ?_) (a' := ?_) (bs 39 549755813887) rfl rfl (by kernel_rfl) (fun _ _ _ h => h) (Or.inl ⟨by rfl, ?_⟩) ?_ ?_
              rotate_left
              · intro w'
                go_simp
                with_reducible rfl
              rotate_left
              · simp only [Act.put, List.setIfInBounds_toArray, List.set_cons_zero, List.set_cons_succ, i64_w, i32_w]
                rfl
              refine done_ (by kernel_rfl) ?_
              try go_wp2
              go_meet
              case rel => exact ⟨rfl, hHeld.2.2.2⟩
            · obtain ⟨p, rfl, hp⟩ := HPREV.out (by omega)
              have hp2 : ((rd_T33 l (p : Int)).f0 == 1) = false := by
                simpa using fun c => hp ⟨c, h1⟩
              obtain ⟨ad', A3', c3', he2, hy0, _⟩ := at_T33 (Kd.C_below HV.out HB2.out) (p : Int) (by omega) (by omega)
              obtain rfl : ad = ad' := by injection he2
              rw [Int.toNat_natCast] at hy0
              have hf := HRS.out.few
              have hw : wrap64 (p : Int) = (p : Int) := by unfold wrap64; omega
              clear hf
              have hpl : (p : Int) < (l.length : Int) := by omega
              have hpl2 : p < l.length := by omega
              have hpg : decide (((p + 1 : Nat) : Int) > 0) = true := decide_eq_true (by omega)
              have hpg2 : decide (0 < p + 1) = true := decide_eq_true (by omega)
              clear h1 hp hz
              refine start_ (n := 39) (S := fun w' => w'.cell? ⟨wo.heap.size, 0, none⟩ = some (.int .i64 t.f0) ∧ w'.cell? ⟨wo.heap.size, 1, none⟩ = some (.string t.f1) ∧ w'.cell? ⟨wo.heap.size, 2, none⟩ = some (.string t.f2) ∧ w'.cell? (ad.add (p * 5)) = some (.int .i64 (rd_T33 l (p : Int)).f0) ∧ Aside0 (Below W2.heap.size W2 w')) (ds := []) (bs 39 0) (by kernel_rfl) rfl (by kernel_rfl) ⟨ht0, ht1, ht2, hy0, ⟨HBB.out.drew⟩⟩ (fun hHeld => ?_)
              refine pure_ (i := 0) (N := some 30) (v := ?_) (a' := ?_) (bs 39 1) rfl rfl (by kernel_rfl) (fun _ _ _ h => h) (Or.inl ⟨by rfl, ?_⟩) ?_ ?_
              rotate_left
              · intro w'
                go_simp
                with_reducible rfl
              rotate_left
              · simp only [Act.put, List.setIfInBounds_toArray, List.set_cons_zero, List.set_cons_succ, i64_w, i32_w]
                rfl
              refine take_ (i := 1) (N := some 31) (v := ?_) (a' := ?_) (bs 39 3) rfl rfl (by kernel_rfl) (fun _ _ _ h => h) (Or.inl ⟨by rfl, ?_⟩) hHeld ?_ ?_
              rotate_left
              · rintro w' ⟨s0, s1, s2, s3, s4⟩
                go_simp
                with_reducible rfl
              rotate_left
              · simp only [Act.put, List.setIfInBounds_toArray, List.set_cons_zero, List.set_cons_succ, i64_w, i32_w]
                rfl
              refine pure_ (i := 2) (N := some 32) (v := ?_) (a' := ?_) (bs 39 7) rfl rfl (by kernel_rfl) (fun _ _ _ h => h) (Or.inl ⟨by rfl, ?_⟩) ?_ ?_
              rotate_left
              · intro w'
                go_simp
                with_reducible rfl
              rotate_left
              · simp only [Act.put, List.setIfInBounds_toArray, List.set_cons_zero, List.set_cons_succ, i64_w, i32_w]
                rfl
              refine pure_ (i := 3) (N := some 33) (v := ?_) (a' := ?_) (bs 39 15) rfl rfl (by kernel_rfl) (fun _ _ _ h => h) (Or.inl ⟨by rfl, ?_⟩) ?_ ?_
              rotate_left
              · intro w'
                go_simp
                with_reducible rfl
              rotate_left
              · simp only [Act.put, List.setIfInBounds_toArray, List.set_cons_zero, List.set_cons_succ, i64_w, i32_w]
                rfl
              refine pure_ (i := 4) (N := some 34) (v := ?_) (a' := ?_) (bs 39 31) rfl rfl (by kernel_rfl) (fun _ _ _ h => h) (Or.inl ⟨by rfl, ?_⟩) ?_ ?_
              rotate_left
              · intro w'
                go_simp
                with_reducible rfl
              rotate_left
              · simp only [Act.put, List.setIfInBounds_toArray, List.set_cons_zero, List.set_cons_succ, i64_w, i32_w]
                rfl
              refine take_ (i := 5) (N := some 35) (v := ?_) (a' := ?_) (bs 39 63) rfl rfl (by kernel_rfl) (fun _ _ _ h => h) (Or.inl ⟨by rfl, ?_⟩) hHeld ?_ ?_
              rotate_left
              · rintro w' ⟨s0, s1, s2, s3, s4⟩
                go_simp
                with_reducible rfl
              rotate_left
              · simp only [Act.put, List.setIfInBounds_toArray, List.set_cons_zero, List.set_cons_succ, i64_w, i32_w]
                rfl
              refine pure_ (i := 6) (N := some 36) (v := ?_) (a' := ?_) (bs 39 127) rfl rfl (by kernel_rfl) (fun _ _ _ h => h) (Or.inl ⟨by rfl, ?_⟩) ?_ ?_
              rotate_left
              · intro w'
                go_simp
                with_reducible rfl
              rotate_left
              · simp only [Act.put, List.setIfInBounds_toArray, List.set_cons_zero, List.set_cons_succ, i64_w, i32_w]
                rfl
              refine pure_ (i := 7) (N := some 37) (v := ?_) (a' := ?_) (bs 39 255) rfl rfl (by kernel_rfl) (fun _ _ _ h => h) (Or.inl ⟨by rfl, ?_⟩) ?_ ?_
              rotate_left
              · intro w'
                go_simp
                with_reducible rfl
              rotate_left
              · simp only [Act.put, List.setIfInBounds_toArray, List.set_cons_zero, List.set_cons_succ, i64_w, i32_w]
                rfl
              refine pure_ (i := 8) (N := some 38) (v := ?_) (a' := ?_) (bs 39 511) rfl rfl (by kernel_rfl) (fun _ _ _ h => h) (Or.inl ⟨by rfl, ?_⟩) ?_ ?_
              rotate_left
              · intro w'
                go_simp
                with_reducible rfl
              rotate_left
              · simp only [Act.put, List.setIfInBounds_toArray, List.set_cons_zero, List.set_cons_succ, i64_w, i32_w]
                rfl
              refine pure_ (i := 9) (N := some 39) (v := ?_) (a' := ?_) (bs 39 1023) rfl rfl (by kernel_rfl) (fun _ _ _ h => h) (Or.inl ⟨by rfl, ?_⟩) ?_ ?_
              rotate_left
              · intro w'
                go_simp
                with_reducible rfl
              rotate_left
              · simp only [Act.put, List.setIfInBounds_toArray, List.set_cons_zero, List.set_cons_succ, i64_w, i32_w]
                rfl
              refine take_ (i := 10) (N := some 40) (v := ?_) (a' := ?_) (bs 39 2047) rfl rfl (by kernel_rfl) (fun _ _ _ h => h) (Or.inl ⟨by rfl, ?_⟩) hHeld ?_ ?_
              rotate_left
              · rintro w' ⟨s0, s1, s2, s3, s4⟩
                go_simp
                with_reducible rfl
              rotate_left
              · simp only [Act.put, List.setIfInBounds_toArray, List.set_cons_zero, List.set_cons_succ, i64_w, i32_w]
                rfl
              refine pure_ (i := 12) (N := some 42) (v := ?_) (a' := ?_) (bs 39 6143) rfl rfl (by kernel_rfl) (fun _ _ _ h => h) (Or.inl ⟨by rfl, ?_⟩) ?_ ?_
              rotate_left
              · intro w'
                go_simp
                with_reducible rfl
              rotate_left
              · simp only [Act.put, List.setIfInBounds_toArray, List.set_cons_zero, List.set_cons_succ, i64_w, i32_w]
                rfl
              refine take_ (i := 13) (N := some 43) (v := ?_) (a' := ?_) (bs 39 14335) rfl rfl (by kernel_rfl) (fun _ _ _ h => h) (Or.inl ⟨by rfl, ?_⟩) hHeld ?_ ?_
              rotate_left
              · rintro w' ⟨s0, s1, s2, s3, s4⟩
                go_simp
                with_reducible rfl
              rotate_left
              · simp only [Act.put, List.setIfInBounds_toArray, List.set_cons_zero, List.set_cons_succ, i64_w, i32_w]
                rfl
              refine one_ (i := 11) (N := some 41) (bs 39 16383) rfl rfl (by kernel_rfl) (by decide) (fun K hK => ?_)
              refine goes_ Tryz.func20 (by kernel_rfl) rfl #[.string t.f1] (by rfl) rfl rfl (by (try simp only [List.map_toArray, List.map_cons, List.map_nil]); first | done | rfl) ?_
              with_reducible refine (cribbleref03_Lower.calls t.f1 t.f1 _ HROW.out.name).mono ?_
              rintro e w7 ⟨rfl, hbn⟩
              refine ⟨_, rfl, ?_⟩
              refine hK.out _ _ ⟨pw_cell_below hbn hHeld.1, pw_cell_below hbn hHeld.2.1, pw_cell_below hbn hHeld.2.2.1, pw_cell_below hbn hHeld.2.2.2.1, ⟨below_step hHeld.2.2.2.2.out hbn⟩⟩ (fun hHeld => ?_)
              clear hK K
              refine norm_ (a' := ?_) ?_ ?_
              rotate_left
              · show Act.put _ (some 41) _ = _
                simp only [Act.put, List.setIfInBounds_toArray, List.set_cons_zero, List.set_cons_succ, i64_w, i32_w]
                rfl
              refine pure_ (i := 14) (N := some 44) (v := ?_) (a' := ?_) (bs 39 32767) rfl rfl (by kernel_rfl) (fun _ _ _ h => h) (Or.inl ⟨by rfl, ?_⟩) ?_ ?_
              rotate_left
              · intro w'
                go_simp
                with_reducible rfl
              rotate_left
              · simp only [Act.put, List.setIfInBounds_toArray, List.set_cons_zero, List.set_cons_succ, i64_w, i32_w]
                rfl
              refine pure_ (i := 15) (N := some 45) (v := ?_) (a' := ?_) (bs 39 65535) rfl rfl (by kernel_rfl) (fun _ _ _ h => h) (Or.inl ⟨by rfl, ?_⟩) ?_ ?_
              rotate_left
              · intro w'
                go_simp
                with_reducible rfl
              rotate_left
              · simp only [Act.put, List.setIfInBounds_toArray, List.set_cons_zero, List.set_cons_succ, i64_w, i32_w]
                rfl
              refine pure_ (i := 16) (N := some 46) (v := ?_) (a' := ?_) (bs 39 131071) rfl rfl (by kernel_rfl) (fun _ _ _ h => h) (Or.inl ⟨by rfl, ?_⟩) ?_ ?_
              rotate_left
              · intro w'
                go_simp
                with_reducible rfl
              rotate_left
              · simp only [Act.put, List.setIfInBounds_toArray, List.set_cons_zero, List.set_cons_succ, i64_w, i32_w]
                rfl
              refine pure_ (i := 17) (N := some 47) (v := ?_) (a' := ?_) (bs 39 262143) rfl rfl (by kernel_rfl) (fun _ _ _ h => h) (Or.inl ⟨by rfl, ?_⟩) ?_ ?_
              rotate_left
              · intro w'
                go_simp
                with_reducible rfl
              rotate_left
              · simp only [Act.put, List.setIfInBounds_toArray, List.set_cons_zero, List.set_cons_succ, i64_w, i32_w]
                rfl
              refine take_ (i := 18) (N := some 48) (v := ?_) (a' := ?_) (bs 39 524287) rfl rfl (by kernel_rfl) (fun _ _ _ h => h) (Or.inl ⟨by rfl, ?_⟩) hHeld ?_ ?_
              rotate_left
              · rintro w' ⟨s0, s1, s2, s3, s4⟩
                go_simp
                with_reducible rfl
              rotate_left
              · simp only [Act.put, List.setIfInBounds_toArray, List.set_cons_zero, List.set_cons_succ, i64_w, i32_w]
                rfl
              refine pure_ (i := 19) (N := some 49) (v := ?_) (a' := ?_) (bs 39 1048575) rfl rfl (by kernel_rfl) (fun _ _ _ h => h) (Or.inl ⟨by rfl, ?_⟩) ?_ ?_
              rotate_left
              · intro w'
                go_simp
                with_reducible rfl
              rotate_left
              · simp only [Act.put, List.setIfInBounds_toArray, List.set_cons_zero, List.set_cons_succ, i64_w, i32_w]
                rfl
              refine pure_ (i := 20) (N := some 50) (v := ?_) (a' := ?_) (bs 39 2097151) rfl rfl (by kernel_rfl) (fun _ _ _ h => h) (Or.inl ⟨by rfl, ?_⟩) ?_ ?_
              rotate_left
              · intro w'
                go_simp
                with_reducible rfl
              rotate_left
              · simp only [Act.put, List.setIfInBounds_toArray, List.set_cons_zero, List.set_cons_succ, i64_w, i32_w]
                rfl
              refine pure_ (i := 21) (N := some 51) (v := ?_) (a' := ?_) (bs 39 4194303) rfl rfl (by kernel_rfl) (fun _ _ _ h => h) (Or.inl ⟨by rfl, ?_⟩) ?_ ?_
              rotate_left
              · intro w'
                go_simp
                with_reducible rfl
              rotate_left
              · simp only [Act.put, List.setIfInBounds_toArray, List.set_cons_zero, List.set_cons_succ, i64_w, i32_w]
                rfl
              refine take_ (i := 22) (N := some 52) (v := ?_) (a' := ?_) (bs 39 8388607) rfl rfl (by kernel_rfl) (fun _ _ _ h => h) (Or.inl ⟨by rfl, ?_⟩) hHeld ?_ ?_
              rotate_left
              · rintro w' ⟨s0, s1, s2, s3, s4⟩
                go_simp
                with_reducible rfl
              rotate_left
              · simp only [Act.put, List.setIfInBounds_toArray, List.set_cons_zero, List.set_cons_succ, i64_w, i32_w]
                rfl
              refine pure_ (i := 23) (N := some 53) (v := ?_) (a' := ?_) (bs 39 16777215) rfl rfl (by kernel_rfl) (fun _ _ _ h => h) (Or.inl ⟨by rfl, ?_⟩) ?_ ?_
              rotate_left
              · intro w'
                go_simp
                with_reducible rfl
              rotate_left
              · simp only [Act.put, List.setIfInBounds_toArray, List.set_cons_zero, List.set_cons_succ, i64_w, i32_w]
                rfl
              refine pure_ (i := 24) (N := some 54) (v := ?_) (a' := ?_) (bs 39 33554431) rfl rfl (by kernel_rfl) (fun _ _ _ h => h) (Or.inl ⟨by rfl, ?_⟩) ?_ ?_
              rotate_left
              · intro w'
                go_simp
                with_reducible rfl
              rotate_left
              · simp only [Act.put, List.setIfInBounds_toArray, List.set_cons_zero, List.set_cons_succ, i64_w, i32_w]
                rfl
              refine pure_ (i := 25) (N := some 55) (v := ?_) (a' := ?_) (bs 39 67108863) rfl rfl (by kernel_rfl) (fun _ _ _ h => h) (Or.inl ⟨by rfl, ?_⟩) ?_ ?_
              rotate_left
              · intro w'
                go_simp
                with_reducible rfl
              rotate_left
              · simp only [Act.put, List.setIfInBounds_toArray, List.set_cons_zero, List.set_cons_succ, i64_w, i32_w]
                rfl
              refine pure_ (i := 26) (N := some 56) (v := ?_) (a' := ?_) (bs 39 134217727) rfl rfl (by kernel_rfl) (fun _ _ _ h => h) (Or.inl ⟨by rfl, ?_⟩) ?_ ?_
              rotate_left
              · intro w'
                go_simp
                with_reducible rfl
              rotate_left
              · simp only [Act.put, List.setIfInBounds_toArray, List.set_cons_zero, List.set_cons_succ, i64_w, i32_w]
                rfl
              refine pure_ (i := 27) (N := some 57) (v := ?_) (a' := ?_) (bs 39 268435455) rfl rfl (by kernel_rfl) (fun _ _ _ h => h) (Or.inl ⟨by rfl, ?_⟩) ?_ ?_
              rotate_left
              · intro w'
                go_simp
                with_reducible rfl
              rotate_left
              · simp only [Act.put, List.setIfInBounds_toArray, List.set_cons_zero, List.set_cons_succ, i64_w, i32_w]
                rfl
              refine pure_ (i := 28) (N := some 58) (v := ?_) (a' := ?_) (bs 39 536870911) rfl rfl (by kernel_rfl) (fun _ _ _ h => h) (Or.inl ⟨by rfl, ?_⟩) ?_ ?_
              rotate_left
              · intro w'
                go_simp
                with_reducible rfl
              rotate_left
              · simp only [Act.put, List.setIfInBounds_toArray, List.set_cons_zero, List.set_cons_succ, i64_w, i32_w]
                rfl
              refine pure_ (i := 29) (N := some 59) (v := ?_) (a' := ?_) (bs 39 1073741823) rfl rfl (by kernel_rfl) (fun _ _ _ h => h) (Or.inl ⟨by rfl, ?_⟩) ?_ ?_
              rotate_left
              · intro w'
                go_simp
                with_reducible rfl
              rotate_left
              · simp only [Act.put, List.setIfInBounds_toArray, List.set_cons_zero, List.set_cons_succ, i64_w, i32_w]
                rfl
              refine pure_ (i := 30) (N := some 60) (v := ?_) (a' := ?_) (bs 39 2147483647) rfl rfl (by kernel_rfl) (fun _ _ _ h => h) (Or.inl ⟨by rfl, ?_⟩) ?_ ?_
              rotate_left
              · intro w'
                go_simp
                with_reducible rfl
              rotate_left
              · simp only [Act.put, List.setIfInBounds_toArray, List.set_cons_zero, List.set_cons_succ, i64_w, i32_w]
                rfl
              refine pure_ (i := 31) (N := some 61) (v := ?_) (a' := ?_) (bs 39 4294967295) rfl rfl (by kernel_rfl) (fun _ _ _ h => h) (Or.inl ⟨by rfl, ?_⟩) ?_ ?_
              rotate_left
              · intro w'
                go_simp
                with_reducible rfl
              rotate_left
              · simp only [Act.put, List.setIfInBounds_toArray, List.set_cons_zero, List.set_cons_succ, i64_w, i32_w]
                rfl
              refine pure_ (i := 32) (N := some 62) (v := ?_) (a' := ?_) (bs 39 8589934591) rfl rfl (by kernel_rfl) (fun _ _ _ h => h) (Or.inl ⟨by rfl, ?_⟩) ?_ ?_
              rotate_left
              · intro w'
                go_simp
                with_reducible rfl
              rotate_left
              · simp only [Act.put, List.setIfInBounds_toArray, List.set_cons_zero, List.set_cons_succ, i64_w, i32_w]
                rfl
              refine take_ (i := 33) (N := some 63) (v := ?_) (a' := ?_) (bs 39 17179869183) rfl rfl (by kernel_rfl) (fun _ _ _ h => h) (Or.inl ⟨by rfl, ?_⟩) hHeld ?_ ?_
              rotate_left
              · rintro w' ⟨s0, s1, s2, s3, s4⟩
                go_simp
                with_reducible rfl
              rotate_left
              · simp only [Act.put, List.setIfInBounds_toArray, List.set_cons_zero, List.set_cons_succ, i64_w, i32_w]
                rfl
              refine pure_ (i := 34) (N := some 64) (v := ?_) (a' := ?_) (bs 39 34359738367) rfl rfl (by kernel_rfl) (fun _ _ _ h => h) (Or.inl ⟨by rfl, ?_⟩) ?_ ?_
              rotate_left
              · intro w'
                go_simp
                with_reducible rfl
              rotate_left
              · simp only [Act.put, List.setIfInBounds_toArray, List.set_cons_zero, List.set_cons_succ, i64_w, i32_w]
                rfl
              refine pure_ (i := 35) (N := some 65) (v := ?_) (a' := ?_) (bs 39 68719476735) rfl rfl (by kernel_rfl) (fun _ _ _ h => h) (Or.inl ⟨by rfl, ?_⟩) ?_ ?_
              rotate_left
              · intro w'
                go_simp
                with_reducible rfl
              rotate_left
              · simp only [Act.put, List.setIfInBounds_toArray, List.set_cons_zero, List.set_cons_succ, i64_w, i32_w]
                rfl
              refine pure_ (i := 36) (N := some 66) (v := ?_) (a' := ?_) (bs 39 137438953471) rfl rfl (by kernel_rfl) (fun _ _ _ h => h) (Or.inl ⟨by rfl, ?_⟩) ?_ ?_
              rotate_left
              · intro w'
                go_simp
                with_reducible rfl
              rotate_left
              · simp only [Act.put, List.setIfInBounds_toArray, List.set_cons_zero, List.set_cons_succ, i64_w, i32_w]
                rfl
              refine pure_ (i := 37) (N := some 67) (v := ?_) (a' := ?_) (bs 39 274877906943) rfl rfl (by kernel_rfl) (fun _ _ _ h => h) (Or.inl ⟨by rfl, ?_⟩) ?_ ?_
              rotate_left
              · intro w'
                go_simp
                with_reducible rfl
              rotate_left
              · simp only [Act.put, List.setIfInBounds_toArray, List.set_cons_zero, List.set_cons_succ, i64_w, i32_w]
                rfl
              refine pure_ (i := 38) (N := some 68) (v := ?_) (a' := ?_) (bs 39 549755813887) rfl rfl (by kernel_rfl) (fun _ _ _ h => h) (Or.inl ⟨by rfl, ?_⟩) ?_ ?_
              rotate_left
              · intro w'
                go_simp
                with_reducible rfl
              rotate_left
              · simp only [Act.put, List.setIfInBounds_toArray, List.set_cons_zero, List.set_cons_succ, i64_w, i32_w]
                rfl
              refine done_ (by kernel_rfl) ?_
              try go_wp2
              go_meet
              case rel => exact ⟨rfl, hHeld.2.2.2.2⟩
          · have h1' : (t.f0 == 1) = false := by simpa using h1
            clear h1
            refine start_ (n := 39) (S := fun w' => w'.cell? ⟨wo.heap.size, 0, none⟩ = some (.int .i64 t.f0) ∧ w'.cell? ⟨wo.heap.size, 1, none⟩ = some (.string t.f1) ∧ Aside0 (Below W2.heap.size W2 w')) (ds := []) (bs 39 0) (by kernel_rfl) rfl (by kernel_rfl) ⟨ht0, ht1, ⟨HBB.out.drew⟩⟩ (fun hHeld => ?_)
            refine pure_ (i := 0) (N := some 30) (v := ?_) (a' := ?_) (bs 39 1) rfl rfl (by kernel_rfl) (fun _ _ _ h => h) (Or.inl ⟨by rfl, ?_⟩) ?_ ?_
            rotate_left
            · intro w'
              go_simp
              with_reducible rfl
            rotate_left
            · simp only [Act.put, List.setIfInBounds_toArray, List.set_cons_zero, List.set_cons_succ, i64_w, i32_w]
              rfl
            refine take_ (i := 1) (N := some 31) (v := ?_) (a' := ?_) (bs 39 3) rfl rfl (by kernel_rfl) (fun _ _ _ h => h) (Or.inl ⟨by rfl, ?_⟩) hHeld ?_ ?_
            rotate_left
            · rintro w' ⟨s0, s1, s2⟩
              go_simp
              with_reducible rfl
            rotate_left
            · simp only [Act.put, List.setIfInBounds_toArray, List.set_cons_zero, List.set_cons_succ, i64_w, i32_w]
              rfl
            refine pure_ (i := 2) (N := some 32) (v := ?_) (a' := ?_) (bs 39 7) rfl rfl (by kernel_rfl) (fun _ _ _ h => h) (Or.inl ⟨by rfl, ?_⟩) ?_ ?_
            rotate_left
            · intro w'
              go_simp
              with_reducible rfl
            rotate_left
            · simp only [Act.put, List.setIfInBounds_toArray, List.set_cons_zero, List.set_cons_succ, i64_w, i32_w]
              rfl
            refine pure_ (i := 3) (N := some 33) (v := ?_) (a' := ?_) (bs 39 15) rfl rfl (by kernel_rfl) (fun _ _ _ h => h) (Or.inl ⟨by rfl, ?_⟩) ?_ ?_
            rotate_left
            · intro w'
              go_simp
              with_reducible rfl
            rotate_left
            · simp only [Act.put, List.setIfInBounds_toArray, List.set_cons_zero, List.set_cons_succ, i64_w, i32_w]
              rfl
            refine pure_ (i := 4) (N := some 34) (v := ?_) (a' := ?_) (bs 39 31) rfl rfl (by kernel_rfl) (fun _ _ _ h => h) (Or.inl ⟨by rfl, ?_⟩) ?_ ?_
            rotate_left
            · intro w'
              go_simp
              with_reducible rfl
            rotate_left
            · simp only [Act.put, List.setIfInBounds_toArray, List.set_cons_zero, List.set_cons_succ, i64_w, i32_w]
              rfl
            refine take_ (i := 5) (N := some 35) (v := ?_) (a' := ?_) (bs 39 63) rfl rfl (by kernel_rfl) (fun _ _ _ h => h) (Or.inl ⟨by rfl, ?_⟩) hHeld ?_ ?_
            rotate_left
            · rintro w' ⟨s0, s1, s2⟩
              go_simp
              with_reducible rfl
            rotate_left
            · simp only [Act.put, List.setIfInBounds_toArray, List.set_cons_zero, List.set_cons_succ, i64_w, i32_w]
              rfl
            refine pure_ (i := 6) (N := some 36) (v := ?_) (a' := ?_) (bs 39 127) rfl rfl (by kernel_rfl) (fun _ _ _ h => h) (Or.inl ⟨by rfl, ?_⟩) ?_ ?_
            rotate_left
            · intro w'
              go_simp
              with_reducible rfl
            rotate_left
            · simp only [Act.put, List.setIfInBounds_toArray, List.set_cons_zero, List.set_cons_succ, i64_w, i32_w]
              rfl
            refine pure_ (i := 7) (N := some 37) (v := ?_) (a' := ?_) (bs 39 255) rfl rfl (by kernel_rfl) (fun _ _ _ h => h) (Or.inl ⟨by rfl, ?_⟩) ?_ ?_
            rotate_left
            · intro w'
              go_simp
              with_reducible rfl
            rotate_left
            · simp only [Act.put, List.setIfInBounds_toArray, List.set_cons_zero, List.set_cons_succ, i64_w, i32_w]
              rfl
            refine pure_ (i := 8) (N := some 38) (v := ?_) (a' := ?_) (bs 39 511) rfl rfl (by kernel_rfl) (fun _ _ _ h => h) (Or.inl ⟨by rfl, ?_⟩) ?_ ?_
            rotate_left
            · intro w'
              go_simp
              with_reducible rfl
            rotate_left
            · simp only [Act.put, List.setIfInBounds_toArray, List.set_cons_zero, List.set_cons_succ, i64_w, i32_w]
              rfl
            refine pure_ (i := 9) (N := some 39) (v := ?_) (a' := ?_) (bs 39 1023) rfl rfl (by kernel_rfl) (fun _ _ _ h => h) (Or.inl ⟨by rfl, ?_⟩) ?_ ?_
            rotate_left
            · intro w'
              go_simp
              with_reducible rfl
            rotate_left
            · simp only [Act.put, List.setIfInBounds_toArray, List.set_cons_zero, List.set_cons_succ, i64_w, i32_w]
              rfl
            refine take_ (i := 10) (N := some 40) (v := ?_) (a' := ?_) (bs 39 2047) rfl rfl (by kernel_rfl) (fun _ _ _ h => h) (Or.inl ⟨by rfl, ?_⟩) hHeld ?_ ?_
            rotate_left
            · rintro w' ⟨s0, s1, s2⟩
              go_simp
              with_reducible rfl
            rotate_left
            · simp only [Act.put, List.setIfInBounds_toArray, List.set_cons_zero, List.set_cons_succ, i64_w, i32_w]
              rfl
            refine pure_ (i := 12) (N := some 42) (v := ?_) (a' := ?_) (bs 39 6143) rfl rfl (by kernel_rfl) (fun _ _ _ h => h) (Or.inl ⟨by rfl, ?_⟩) ?_ ?_
            rotate_left
            · intro w'
              go_simp
              with_reducible rfl
            rotate_left
            · simp only [Act.put, List.setIfInBounds_toArray, List.set_cons_zero, List.set_cons_succ, i64_w, i32_w]
              rfl
            refine take_ (i := 13) (N := some 43) (v := ?_) (a' := ?_) (bs 39 14335) rfl rfl (by kernel_rfl) (fun _ _ _ h => h) (Or.inl ⟨by rfl, ?_⟩) hHeld ?_ ?_
            rotate_left
            · rintro w' ⟨s0, s1, s2⟩
              go_simp
              with_reducible rfl
            rotate_left
            · simp only [Act.put, List.setIfInBounds_toArray, List.set_cons_zero, List.set_cons_succ, i64_w, i32_w]
              rfl
            refine one_ (i := 11) (N := some 41) (bs 39 16383) rfl rfl (by kernel_rfl) (by decide) (fun K hK => ?_)
            refine goes_ Tryz.func20 (by kernel_rfl) rfl #[.string t.f1] (by rfl) rfl rfl (by (try simp only [List.map_toArray, List.map_cons, List.map_nil]); first | done | rfl) ?_
            with_reducible refine (cribbleref03_Lower.calls t.f1 t.f1 _ HROW.out.name).mono ?_
            rintro e w7 ⟨rfl, hbn⟩
            refine ⟨_, rfl, ?_⟩
            refine hK.out _ _ ⟨pw_cell_below hbn hHeld.1, pw_cell_below hbn hHeld.2.1, ⟨below_step hHeld.2.2.out hbn⟩⟩ (fun hHeld => ?_)
            clear hK K
            refine norm_ (a' := ?_) ?_ ?_
            rotate_left
            · show Act.put _ (some 41) _ = _
              simp only [Act.put, List.setIfInBounds_toArray, List.set_cons_zero, List.set_cons_succ, i64_w, i32_w]
              rfl
            refine pure_ (i := 14) (N := some 44) (v := ?_) (a' := ?_) (bs 39 32767) rfl rfl (by kernel_rfl) (fun _ _ _ h => h) (Or.inl ⟨by rfl, ?_⟩) ?_ ?_
            rotate_left
            · intro w'
              go_simp
              with_reducible rfl
            rotate_left
            · simp only [Act.put, List.setIfInBounds_toArray, List.set_cons_zero, List.set_cons_succ, i64_w, i32_w]
              rfl
            refine pure_ (i := 15) (N := some 45) (v := ?_) (a' := ?_) (bs 39 65535) rfl rfl (by kernel_rfl) (fun _ _ _ h => h) (Or.inl ⟨by rfl, ?_⟩) ?_ ?_
            rotate_left
            · intro w'
              go_simp
              with_reducible rfl
            rotate_left
            · simp only [Act.put, List.setIfInBounds_toArray, List.set_cons_zero, List.set_cons_succ, i64_w, i32_w]
              rfl
            refine pure_ (i := 16) (N := some 46) (v := ?_) (a' := ?_) (bs 39 131071) rfl rfl (by kernel_rfl) (fun _ _ _ h => h) (Or.inl ⟨by rfl, ?_⟩) ?_ ?_
            rotate_left
            · intro w'
              go_simp
              with_reducible rfl
            rotate_left
            · simp only [Act.put, List.setIfInBounds_toArray, List.set_cons_zero, List.set_cons_succ, i64_w, i32_w]
              rfl
            refine pure_ (i := 17) (N := some 47) (v := ?_) (a' := ?_) (bs 39 262143) rfl rfl (by kernel_rfl) (fun _ _ _ h => h) (Or.inl ⟨by rfl, ?_⟩) ?_ ?_
            rotate_left
            · intro w'
              go_simp
              with_reducible rfl
            rotate_left
            · simp only [Act.put, List.setIfInBounds_toArray, List.set_cons_zero, List.set_cons_succ, i64_w, i32_w]
              rfl
            refine take_ (i := 18) (N := some 48) (v := ?_) (a' := ?_) (bs 39 524287) rfl rfl (by kernel_rfl) (fun _ _ _ h => h) (Or.inl ⟨by rfl, ?_⟩) hHeld ?_ ?_
            rotate_left
            · rintro w' ⟨s0, s1, s2⟩
              go_simp
              with_reducible rfl
            rotate_left
            · simp only [Act.put, List.setIfInBounds_toArray, List.set_cons_zero, List.set_cons_succ, i64_w, i32_w]
              rfl
            refine pure_ (i := 19) (N := some 49) (v := ?_) (a' := ?_) (bs 39 1048575) rfl rfl (by kernel_rfl) (fun _ _ _ h => h) (Or.inl ⟨by rfl, ?_⟩) ?_ ?_
            rotate_left
            · intro w'
              go_simp
              with_reducible rfl
            rotate_left
            · simp only [Act.put, List.setIfInBounds_toArray, List.set_cons_zero, List.set_cons_succ, i64_w, i32_w]
              rfl
            refine pure_ (i := 20) (N := some 50) (v := ?_) (a' := ?_) (bs 39 2097151) rfl rfl (by kernel_rfl) (fun _ _ _ h => h) (Or.inl ⟨by rfl, ?_⟩) ?_ ?_
            rotate_left
            · intro w'
              go_simp
              with_reducible rfl
            rotate_left
            · simp only [Act.put, List.setIfInBounds_toArray, List.set_cons_zero, List.set_cons_succ, i64_w, i32_w]
              rfl
            refine pure_ (i := 21) (N := some 51) (v := undef) (a' := ?_) (bs 39 4194303) rfl rfl (by kernel_rfl) (fun _ _ _ h => h) (Or.inr ⟨by rfl, rfl⟩) ?_ ?_
            rotate_left
            · simp only [Act.put, List.setIfInBounds_toArray, List.set_cons_zero, List.set_cons_succ, i64_w, i32_w]
              rfl
            refine take_ (i := 22) (N := some 52) (v := undef) (a' := ?_) (bs 39 8388607) rfl rfl (by kernel_rfl) (fun _ _ _ h => h) (Or.inr ⟨by rfl, rfl⟩) hHeld ?_ ?_
            rotate_left
            · simp only [Act.put, List.setIfInBounds_toArray, List.set_cons_zero, List.set_cons_succ, i64_w, i32_w]
              rfl
            refine pure_ (i := 23) (N := some 53) (v := undef) (a' := ?_) (bs 39 16777215) rfl rfl (by kernel_rfl) (fun _ _ _ h => h) (Or.inr ⟨by rfl, rfl⟩) ?_ ?_
            rotate_left
            · simp only [Act.put, List.setIfInBounds_toArray, List.set_cons_zero, List.set_cons_succ, i64_w, i32_w]
              rfl
            refine pure_ (i := 24) (N := some 54) (v := undef) (a' := ?_) (bs 39 33554431) rfl rfl (by kernel_rfl) (fun _ _ _ h => h) (Or.inr ⟨by rfl, rfl⟩) ?_ ?_
            rotate_left
            · simp only [Act.put, List.setIfInBounds_toArray, List.set_cons_zero, List.set_cons_succ, i64_w, i32_w]
              rfl
            refine pure_ (i := 25) (N := some 55) (v := undef) (a' := ?_) (bs 39 67108863) rfl rfl (by kernel_rfl) (fun _ _ _ h => h) (Or.inr ⟨by rfl, rfl⟩) ?_ ?_
            rotate_left
            · simp only [Act.put, List.setIfInBounds_toArray, List.set_cons_zero, List.set_cons_succ, i64_w, i32_w]
              rfl
            refine pure_ (i := 26) (N := some 56) (v := undef) (a' := ?_) (bs 39 134217727) rfl rfl (by kernel_rfl) (fun _ _ _ h => h) (Or.inr ⟨by rfl, rfl⟩) ?_ ?_
            rotate_left
            · simp only [Act.put, List.setIfInBounds_toArray, List.set_cons_zero, List.set_cons_succ, i64_w, i32_w]
              rfl
            refine pure_ (i := 27) (N := some 57) (v := undef) (a' := ?_) (bs 39 268435455) rfl rfl (by kernel_rfl) (fun _ _ _ h => h) (Or.inr ⟨by rfl, rfl⟩) ?_ ?_
            rotate_left
            · simp only [Act.put, List.setIfInBounds_toArray, List.set_cons_zero, List.set_cons_succ, i64_w, i32_w]
              rfl
            refine pure_ (i := 28) (N := some 58) (v := undef) (a' := ?_) (bs 39 536870911) rfl rfl (by kernel_rfl) (fun _ _ _ h => h) (Or.inr ⟨by rfl, rfl⟩) ?_ ?_
            rotate_left
            · simp only [Act.put, List.setIfInBounds_toArray, List.set_cons_zero, List.set_cons_succ, i64_w, i32_w]
              rfl
            refine pure_ (i := 29) (N := some 59) (v := undef) (a' := ?_) (bs 39 1073741823) rfl rfl (by kernel_rfl) (fun _ _ _ h => h) (Or.inr ⟨by rfl, rfl⟩) ?_ ?_
            rotate_left
            · simp only [Act.put, List.setIfInBounds_toArray, List.set_cons_zero, List.set_cons_succ, i64_w, i32_w]
              rfl
            refine pure_ (i := 30) (N := some 60) (v := undef) (a' := ?_) (bs 39 2147483647) rfl rfl (by kernel_rfl) (fun _ _ _ h => h) (Or.inr ⟨by rfl, rfl⟩) ?_ ?_
            rotate_left
            · simp only [Act.put, List.setIfInBounds_toArray, List.set_cons_zero, List.set_cons_succ, i64_w, i32_w]
              rfl
            refine pure_ (i := 31) (N := some 61) (v := undef) (a' := ?_) (bs 39 4294967295) rfl rfl (by kernel_rfl) (fun _ _ _ h => h) (Or.inr ⟨by rfl, rfl⟩) ?_ ?_
            rotate_left
            · simp only [Act.put, List.setIfInBounds_toArray, List.set_cons_zero, List.set_cons_succ, i64_w, i32_w]
              rfl
            refine pure_ (i := 32) (N := some 62) (v := undef) (a' := ?_) (bs 39 8589934591) rfl rfl (by kernel_rfl) (fun _ _ _ h => h) (Or.inr ⟨by rfl, rfl⟩) ?_ ?_
            rotate_left
            · simp only [Act.put, List.setIfInBounds_toArray, List.set_cons_zero, List.set_cons_succ, i64_w, i32_w]
              rfl
            refine take_ (i := 33) (N := some 63) (v := undef) (a' := ?_) (bs 39 17179869183) rfl rfl (by kernel_rfl) (fun _ _ _ h => h) (Or.inr ⟨by rfl, rfl⟩) hHeld ?_ ?_
            rotate_left
            · simp only [Act.put, List.setIfInBounds_toArray, List.set_cons_zero, List.set_cons_succ, i64_w, i32_w]
              rfl
            refine pure_ (i := 34) (N := some 64) (v := undef) (a' := ?_) (bs 39 34359738367) rfl rfl (by kernel_rfl) (fun _ _ _ h => h) (Or.inr ⟨by rfl, rfl⟩) ?_ ?_
            rotate_left
            · simp only [Act.put, List.setIfInBounds_toArray, List.set_cons_zero, List.set_cons_succ, i64_w, i32_w]
              rfl
            refine pure_ (i := 35) (N := some 65) (v := undef) (a' := ?_) (bs 39 68719476735) rfl rfl (by kernel_rfl) (fun _ _ _ h => h) (Or.inr ⟨by rfl, rfl⟩) ?_ ?_
            rotate_left
            · simp only [Act.put, List.setIfInBounds_toArray, List.set_cons_zero, List.set_cons_succ, i64_w, i32_w]
              rfl
            refine pure_ (i := 36) (N := some 66) (v := undef) (a' := ?_) (bs 39 137438953471) rfl rfl (by kernel_rfl) (fun _ _ _ h => h) (Or.inr ⟨by rfl, rfl⟩) ?_ ?_
            rotate_left
            · simp only [Act.put, List.setIfInBounds_toArray, List.set_cons_zero, List.set_cons_succ, i64_w, i32_w]
              rfl
            refine pure_ (i := 37) (N := some 67) (v := ?_) (a' := ?_) (bs 39 274877906943) rfl rfl (by kernel_rfl) (fun _ _ _ h => h) (Or.inl ⟨by rfl, ?_⟩) ?_ ?_
            rotate_left
            · intro w'
              go_simp
              with_reducible rfl
            rotate_left
            · simp only [Act.put, List.setIfInBounds_toArray, List.set_cons_zero, List.set_cons_succ, i64_w, i32_w]
              rfl
            refine pure_ (i := 38) (N := some 68) (v := ?_) (a' := ?_) (bs 39 549755813887) rfl rfl (by kernel_rfl) (fun _ _ _ h => h) (Or.inl ⟨by rfl, ?_⟩) ?_ ?_
            rotate_left
            · intro w'
              go_simp
              with_reducible rfl
            rotate_left
            · simp only [Act.put, List.setIfInBounds_toArray, List.set_cons_zero, List.set_cons_succ, i64_w, i32_w]
              rfl
            refine done_ (by kernel_rfl) ?_
            try go_wp2
            go_meet
            case rel => exact ⟨rfl, hHeld.2.2⟩
        case rest =>
          obtain ⟨rfl, HBC⟩ := hcut
          have hs0 := pw_cell_below HBC.out ht0
          have hs1 := pw_cell_below HBC.out ht1
          have hs3 := pw_cell_below HBC.out ht3
          have hs4 := pw_cell_below HBC.out ht4
          clear ht0 ht1 ht2 ht4 hlo hhi hne
          go_upto_region 11 with (fail)
          go_cut [96] (fun v w96 => v = .bool false ∧ Aside0 (Below W2.heap.size W2 w96))
          case first =>
            by_cases h3 : t.f0 = 3
            · have h3' : (t.f0 == 3) = true := by simpa using h3
              have h2' : (t.f0 == 2) = false := by simpa using (show t.f0 ≠ 2 by omega)
              have hl0 : decide ((t.f3.length : Int) > 0) = false := decide_eq_false (by have := (HROW.out.ends h3).1; omega)
              have hl1 : decide (0 < t.f3.length) = false := decide_eq_false (by have := (HROW.out.ends h3).1; omega)
              have hn0 : (t.f1.toList == ([] : List UInt8)) = false := beq_eq_false_iff_ne.mpr (HROW.out.tag (.inr h3))
              rw [(HROW.out.ends h3).2] at hs4
              clear h3
              go_wp2
              go_meet
              case rel => exact ⟨rfl, HBC⟩
            · have h3' : (t.f0 == 3) = false := by simpa using h3
              by_cases h2 : t.f0 = 2
              · have h2' : (t.f0 == 2) = true := by simpa using h2
                have hn0 : (t.f1.toList == ([] : List UInt8)) = false := beq_eq_false_iff_ne.mpr (HROW.out.tag (.inl h2))
                clear h2 h3
                go_wp2
                go_meet
                case rel => exact ⟨rfl, HBC⟩
              · have h2' : (t.f0 == 2) = false := by simpa using h2
                clear h2 h3
                go_wp2
                go_meet
                case rel => exact ⟨rfl, HBC⟩
          case rest =>
            clear hs0 hs1 hs3 hs4 HBC
            obtain ⟨rfl, HBC⟩ := hcut
            go_wp2
            go_loopw [7] (fun i wq => ∃ q : Nat, q ≤ t.f3.length ∧ i = .int .i64 q ∧ Aside0 (Below W2.heap.size W2 wq)) (fun i _ => t.f3.length - (intOf i).toNat)
            case atStart => exact ⟨0, Nat.zero_le _, rfl, HBC⟩
            case round =>
              obtain ⟨q, hq, rfl, HBQ⟩ := hrel
              obtain ⟨wq, hwq⟩ : ∃ wq, wq = wr := ⟨_, rfl⟩; subst hwq
              have hs3 := pw_cell_below HBQ.out ht3
              by_cases hql : q < t.f3.length
              · have hqli : (q : Int) < (t.f3.length : Int) := by omega
                have hq0 : (0 : Int) ≤ (q : Int) := by omega
                obtain ⟨ae, rfl, hnm0, _⟩ := at_T36 (Kd.C_below HI3'.out HBQ.out) (q : Int) hq0 hqli
                rw [Int.toNat_natCast] at hnm0
                have HAT := Aside0.mk (HROW.out.attr q hql)
                go_wp2
                go_loopw [8] (fun i wj => ∃ j : Nat, j ≤ q ∧ i = .int .i64 j ∧ Drawn0 wq wj) (fun i _ => q - (intOf i).toNat)
                case atStart => exact ⟨0, Nat.zero_le _, rfl, Drawn0.refl _⟩
                case round =>
                  obtain ⟨j, hj, rfl, ⟨m1, rfl⟩⟩ := hrel
                  by_cases hjq : j < q
                  · have hjqi : (j : Int) < (q : Int) := by omega
                    have hj0 : (0 : Int) ≤ (j : Int) := by omega
                    have hjl : (j : Int) < (t.f3.length : Int) := by omega
                    obtain ⟨ae', he2, hnj, _⟩ := at_T36 (Kd.C_below HI3'.out HBQ.out) (j : Int) hj0 hjl
                    obtain rfl : ae = ae' := by injection he2
                    rw [Int.toNat_natCast] at hnj
                    have hne : ((rd_T36 t.f3 (j : Int)).f0.toList == (rd_T36 t.f3 (q : Int)).f0.toList) = false := beq_eq_false_iff_ne.mpr (HROW.out.apart j q hjq hql)
                    go_wp2
                    go_quiet (fail)
                    go_wp2
                    go_roundw
                    case rel => exact ⟨j + 1, by omega, by go_num, by repeat (first | exact Drawn0.refl _ | apply Drawn0.step)⟩
                    case measure => simp [intOf]; omega
                  · have hjj : j = q := by omega
                    subst hjj
                    go_upto_region 21 with (fail)
                    obtain ⟨W3, hW3⟩ : ∃ W3, W3 = wq.drewN m1 := ⟨_, rfl⟩
                    rw [← hW3]
                    have hB3 : Below wq.heap.size wq W3 := by rw [hW3]; exact pw_below_drewN (Below.refl _ _) _
                    replace hs3 := pw_cell_below hB3 hs3
                    have hnm := pw_cell_below hB3 hnm0
                    have HBD := Aside0.mk (below_step HBQ.out hB3)
                    have HBC3 := Aside0.mk (Below.refl W3.heap.size W3)
                    have hne : ((rd_T36 t.f3 (j : Int)).f0.toList != (rd_T36 t.f3 (j : Int)).f0.toList) = false := by simp
                    have he0 : ((rd_T36 t.f3 (j : Int)).f0.toList == ([] : List UInt8)) = false := beq_eq_false_iff_ne.mpr HAT.out.2
                    clear hW3 hB3 hnm0
                    refine start_ (n := 23) (S := fun w' => w'.cell? ⟨wo.heap.size, 3, none⟩ = some (.slice (some ae) t.f3.length c3) ∧ w'.cell? (ae.add (j * 2)) = some (.string (rd_T36 t.f3 (j : Int)).f0) ∧ Aside0 (Below W3.heap.size W3 w')) (ds := []) (bs 23 0) (by kernel_rfl) rfl (by kernel_rfl) ⟨hs3, hnm, ⟨HBC3.out.drew⟩⟩ (fun hHeld => ?_)
                    refine pure_ (i := 0) (N := some 122) (v := ?_) (a' := ?_) (bs 23 1) rfl rfl (by kernel_rfl) (fun _ _ _ h => h) (Or.inl ⟨by rfl, ?_⟩) ?_ ?_
                    rotate_left
                    · intro w'
                      go_simp
                      with_reducible rfl
                    rotate_left
                    · simp only [Act.put, List.setIfInBounds_toArray, List.set_cons_zero, List.set_cons_succ, i64_w, i32_w]
                      rfl
                    refine take_ (i := 1) (N := some 123) (v := ?_) (a' := ?_) (bs 23 3) rfl rfl (by kernel_rfl) (fun _ _ _ h => h) (Or.inl ⟨by rfl, ?_⟩) hHeld ?_ ?_
                    rotate_left
                    · rintro w' ⟨s0, s1, s2⟩
                      go_simp
                      with_reducible rfl
                    rotate_left
                    · simp only [Act.put, List.setIfInBounds_toArray, List.set_cons_zero, List.set_cons_succ, i64_w, i32_w]
                      rfl
                    refine pure_ (i := 2) (N := some 124) (v := ?_) (a' := ?_) (bs 23 7) rfl rfl (by kernel_rfl) (fun _ _ _ h => h) (Or.inl ⟨by rfl, ?_⟩) ?_ ?_
                    rotate_left
                    · intro w'
                      go_simp
                      with_reducible rfl
                    rotate_left
                    · simp only [Act.put, List.setIfInBounds_toArray, List.set_cons_zero, List.set_cons_succ, i64_w, i32_w]
                      rfl
                    refine pure_ (i := 3) (N := some 125) (v := ?_) (a' := ?_) (bs 23 15) rfl rfl (by kernel_rfl) (fun _ _ _ h => h) (Or.inl ⟨by rfl, ?_⟩) ?_ ?_
                    rotate_left
                    · intro w'
                      go_simp
                      with_reducible rfl
                    rotate_left
                    · simp only [Act.put, List.setIfInBounds_toArray, List.set_cons_zero, List.set_cons_succ, i64_w, i32_w]
                      rfl
                    refine pure_ (i := 4) (N := some 126) (v := ?_) (a' := ?_) (bs 23 31) rfl rfl (by kernel_rfl) (fun _ _ _ h => h) (Or.inl ⟨by rfl, ?_⟩) ?_ ?_
                    rotate_left
                    · intro w'
                      go_simp
                      with_reducible rfl
                    rotate_left
                    · simp only [Act.put, List.setIfInBounds_toArray, List.set_cons_zero, List.set_cons_succ, i64_w, i32_w]
                      rfl
                    refine take_ (i := 5) (N := some 127) (v := ?_) (a' := ?_) (bs 23 63) rfl rfl (by kernel_rfl) (fun _ _ _ h => h) (Or.inl ⟨by rfl, ?_⟩) hHeld ?_ ?_
                    rotate_left
                    · rintro w' ⟨s0, s1, s2⟩
                      go_simp
                      with_reducible rfl
                    rotate_left
                    · simp only [Act.put, List.setIfInBounds_toArray, List.set_cons_zero, List.set_cons_succ, i64_w, i32_w]
                      rfl
                    refine pure_ (i := 7) (N := some 129) (v := ?_) (a' := ?_) (bs 23 191) rfl rfl (by kernel_rfl) (fun _ _ _ h => h) (Or.inl ⟨by rfl, ?_⟩) ?_ ?_
                    rotate_left
                    · intro w'
                      go_simp
                      with_reducible rfl
                    rotate_left
                    · simp only [Act.put, List.setIfInBounds_toArray, List.set_cons_zero, List.set_cons_succ, i64_w, i32_w]
                      rfl
                    refine take_ (i := 8) (N := some 130) (v := ?_) (a' := ?_) (bs 23 447) rfl rfl (by kernel_rfl) (fun _ _ _ h => h) (Or.inl ⟨by rfl, ?_⟩) hHeld ?_ ?_
                    rotate_left
                    · rintro w' ⟨s0, s1, s2⟩
                      go_simp
                      with_reducible rfl
                    rotate_left
                    · simp only [Act.put, List.setIfInBounds_toArray, List.set_cons_zero, List.set_cons_succ, i64_w, i32_w]
                      rfl
                    refine pure_ (i := 9) (N := some 131) (v := ?_) (a' := ?_) (bs 23 959) rfl rfl (by kernel_rfl) (fun _ _ _ h => h) (Or.inl ⟨by rfl, ?_⟩) ?_ ?_
                    rotate_left
                    · intro w'
                      go_simp
                      with_reducible rfl
                    rotate_left
                    · simp only [Act.put, List.setIfInBounds_toArray, List.set_cons_zero, List.set_cons_succ, i64_w, i32_w]
                      rfl
                    refine pure_ (i := 10) (N := some 132) (v := ?_) (a' := ?_) (bs 23 1983) rfl rfl (by kernel_rfl) (fun _ _ _ h => h) (Or.inl ⟨by rfl, ?_⟩) ?_ ?_
                    rotate_left
                    · intro w'
                      go_simp
                      with_reducible rfl
                    rotate_left
                    · simp only [Act.put, List.setIfInBounds_toArray, List.set_cons_zero, List.set_cons_succ, i64_w, i32_w]
                      rfl
                    refine pure_ (i := 11) (N := some 133) (v := ?_) (a' := ?_) (bs 23 4031) rfl rfl (by kernel_rfl) (fun _ _ _ h => h) (Or.inl ⟨by rfl, ?_⟩) ?_ ?_
                    rotate_left
                    · intro w'
                      go_simp
                      with_reducible rfl
                    rotate_left
                    · simp only [Act.put, List.setIfInBounds_toArray, List.set_cons_zero, List.set_cons_succ, i64_w, i32_w]
                      rfl
                    refine take_ (i := 12) (N := some 134) (v := ?_) (a' := ?_) (bs 23 8127) rfl rfl (by kernel_rfl) (fun _ _ _ h => h) (Or.inl ⟨by rfl, ?_⟩) hHeld ?_ ?_
                    rotate_left
                    · rintro w' ⟨s0, s1, s2⟩
                      go_simp
                      with_reducible rfl
                    rotate_left
                    · simp only [Act.put, List.setIfInBounds_toArray, List.set_cons_zero, List.set_cons_succ, i64_w, i32_w]
                      rfl
                    refine one_ (i := 6) (N := some 128) (bs 23 8191) rfl rfl (by kernel_rfl) (by decide) (fun K hK => ?_)
                    refine goes_ Tryz.func20 (by kernel_rfl) rfl #[.string (rd_T36 t.f3 (j : Int)).f0] (by rfl) rfl rfl (by (try simp only [List.map_toArray, List.map_cons, List.map_nil]); first | done | rfl) ?_
                    with_reducible refine (cribbleref03_Lower.calls (rd_T36 t.f3 (j : Int)).f0 (rd_T36 t.f3 (j : Int)).f0 _ HAT.out.1).mono ?_
                    rintro e w7 ⟨rfl, hbn⟩
                    refine ⟨_, rfl, ?_⟩
                    refine hK.out _ _ ⟨pw_cell_below hbn hHeld.1, pw_cell_below hbn hHeld.2.1, ⟨below_step hHeld.2.2.out hbn⟩⟩ (fun hHeld => ?_)
                    clear hK K
                    refine norm_ (a' := ?_) ?_ ?_
                    rotate_left
                    · show Act.put _ (some 128) _ = _
                      simp only [Act.put, List.setIfInBounds_toArray, List.set_cons_zero, List.set_cons_succ, i64_w, i32_w]
                      rfl
                    refine pure_ (i := 13) (N := some 135) (v := ?_) (a' := ?_) (bs 23 16383) rfl rfl (by kernel_rfl) (fun _ _ _ h => h) (Or.inl ⟨by rfl, ?_⟩) ?_ ?_
                    rotate_left
                    · intro w'
                      go_simp
                      with_reducible rfl
                    rotate_left
                    · simp only [Act.put, List.setIfInBounds_toArray, List.set_cons_zero, List.set_cons_succ, i64_w, i32_w]
                      rfl
                    refine pure_ (i := 14) (N := some 136) (v := ?_) (a' := ?_) (bs 23 32767) rfl rfl (by kernel_rfl) (fun _ _ _ h => h) (Or.inl ⟨by rfl, ?_⟩) ?_ ?_
                    rotate_left
                    · intro w'
                      go_simp
                      with_reducible rfl
                    rotate_left
                    · simp only [Act.put, List.setIfInBounds_toArray, List.set_cons_zero, List.set_cons_succ, i64_w, i32_w]
                      rfl
                    refine pure_ (i := 15) (N := some 137) (v := ?_) (a' := ?_) (bs 23 65535) rfl rfl (by kernel_rfl) (fun _ _ _ h => h) (Or.inl ⟨by rfl, ?_⟩) ?_ ?_
                    rotate_left
                    · intro w'
                      go_simp
                      with_reducible rfl
                    rotate_left
                    · simp only [Act.put, List.setIfInBounds_toArray, List.set_cons_zero, List.set_cons_succ, i64_w, i32_w]
                      rfl
                    refine take_ (i := 16) (N := some 138) (v := ?_) (a' := ?_) (bs 23 131071) rfl rfl (by kernel_rfl) (fun _ _ _ h => h) (Or.inl ⟨by rfl, ?_⟩) hHeld ?_ ?_
                    rotate_left
                    · rintro w' ⟨s0, s1, s2⟩
                      go_simp
                      with_reducible rfl
                    rotate_left
                    · simp only [Act.put, List.setIfInBounds_toArray, List.set_cons_zero, List.set_cons_succ, i64_w, i32_w]
                      rfl
                    refine pure_ (i := 17) (N := some 139) (v := ?_) (a' := ?_) (bs 23 262143) rfl rfl (by kernel_rfl) (fun _ _ _ h => h) (Or.inl ⟨by rfl, ?_⟩) ?_ ?_
                    rotate_left
                    · intro w'
                      go_simp
                      with_reducible rfl
                    rotate_left
                    · simp only [Act.put, List.setIfInBounds_toArray, List.set_cons_zero, List.set_cons_succ, i64_w, i32_w]
                      rfl
                    refine pure_ (i := 18) (N := some 140) (v := ?_) (a' := ?_) (bs 23 524287) rfl rfl (by kernel_rfl) (fun _ _ _ h => h) (Or.inl ⟨by rfl, ?_⟩) ?_ ?_
                    rotate_left
                    · intro w'
                      go_simp
                      with_reducible rfl
                    rotate_left
                    · simp only [Act.put, List.setIfInBounds_toArray, List.set_cons_zero, List.set_cons_succ, i64_w, i32_w]
                      rfl
                    refine pure_ (i := 19) (N := some 141) (v := ?_) (a' := ?_) (bs 23 1048575) rfl rfl (by kernel_rfl) (fun _ _ _ h => h) (Or.inl ⟨by rfl, ?_⟩) ?_ ?_
                    rotate_left
                    · intro w'
                      go_simp
                      with_reducible rfl
                    rotate_left
                    · simp only [Act.put, List.setIfInBounds_toArray, List.set_cons_zero, List.set_cons_succ, i64_w, i32_w]
                      rfl
                    refine take_ (i := 20) (N := some 142) (v := ?_) (a' := ?_) (bs 23 2097151) rfl rfl (by kernel_rfl) (fun _ _ _ h => h) (Or.inl ⟨by rfl, ?_⟩) hHeld ?_ ?_
                    rotate_left
                    · rintro w' ⟨s0, s1, s2⟩
                      go_simp
                      with_reducible rfl
                    rotate_left
                    · simp only [Act.put, List.setIfInBounds_toArray, List.set_cons_zero, List.set_cons_succ, i64_w, i32_w]
                      rfl
                    refine pure_ (i := 21) (N := some 143) (v := ?_) (a' := ?_) (bs 23 4194303) rfl rfl (by kernel_rfl) (fun _ _ _ h => h) (Or.inl ⟨by rfl, ?_⟩) ?_ ?_
                    rotate_left
                    · intro w'
                      go_simp
                      with_reducible rfl
                    rotate_left
                    · simp only [Act.put, List.setIfInBounds_toArray, List.set_cons_zero, List.set_cons_succ, i64_w, i32_w]
                      rfl
                    refine pure_ (i := 22) (N := some 144) (v := ?_) (a' := ?_) (bs 23 8388607) rfl rfl (by kernel_rfl) (fun _ _ _ h => h) (Or.inl ⟨by rfl, ?_⟩) ?_ ?_
                    rotate_left
                    · intro w'
                      go_simp
                      with_reducible rfl
                    rotate_left
                    · simp only [Act.put, List.setIfInBounds_toArray, List.set_cons_zero, List.set_cons_succ, i64_w, i32_w]
                      rfl
                    refine done_ (by kernel_rfl) ?_
                    go_wp2
                    go_roundw
                    case rel => exact ⟨j + 1, by omega, by go_num, ⟨below_step HBD.out hHeld.2.2.out⟩⟩
                    case measure => simp [intOf]; omega
              · have hqq : q = t.f3.length := by omega
                subst hqq
                go_wp2
                go_roundw
                case rel => exact ⟨n + 1, by omega, by go_num, ⟨below_step HB2.out HBQ.out⟩⟩
                case measure => simp [intOf]; omega
      · have hkk : n = l.length := by omega
        subst hkk
        go_wp2
        go_ret
        exact ⟨rfl, below_step HB5.out HBR.out⟩
end Go.Proofs.YtoacojkmclngmaaGreatDoor.Pz
/- The law ScanNames, of what the code computes: true at every input. -/
namespace Go.Proofs.YtoacojkmclngmaaGreatDoor.Pz
open Go.RowKit Go.Proofs.YtoacojkmclngmaaGreatDoorW.PrintWords Go.Proofs.YtoacojkmclngmaaGreatDoorW.PrintLast Go.Proofs.YtoacojkmclngmaaGreatDoorW.PrintMore
set_option linter.unusedVariables false
set_option linter.unusedSimpArgs false
theorem awake_names : cribblelaw18_awake.f = some true := by kernel_rfl
theorem lo_lower {s : ByteArray} (h : Lo s) : cribbleref03_Lower.f s = some s := by
  unfold cribbleref03_Lower.f
  rw [if_pos (by have := h.1; omega), lo_lowered h]
theorem attr_mem (l : List S36) (n : Nat) (h : n < l.length) : rd_T36 l (n : Int) = l[n] := by
  unfold rd_T36
  rw [Int.toNat_natCast, List.getD_eq_getElem?_getD, List.getElem?_eq_getElem h]
  rfl
theorem tok_mem (l : List Tok) (n : Nat) (h : n < l.length) : rd_T33 l (n : Int) = l[n] := by
  unfold rd_T33
  rw [Int.toNat_natCast, List.getD_eq_getElem?_getD, List.getElem?_eq_getElem h]
  rfl
theorem toList_pos {s : ByteArray} (h : 0 < s.size) : ¬ s.toList = [] := fun e => by
  have := (toList_nil s).1 e
  omega
theorem row_ok (t : Tok) (h : PieceOk t) (hf : t.f0 = 1 → 0 < t.f2.size) (ha : t.f3.length ≤ AMax) : RowOk t where
  lo := h.kind.1
  hi := h.kind.2
  name := lo_lower h.name
  text := fun e => toList_pos (hf e)
  ends := fun e => ⟨by rw [(h.ends e).1]; rfl, (h.ends e).2⟩
  tag := fun e => toList_pos (h.tag e)
  attr := fun i hi => by
    rw [attr_mem _ i hi]
    have := h.attrs.lo _ (List.getElem_mem hi)
    exact ⟨lo_lower this.1, toList_pos this.2⟩
  apart := fun i j hij hj e => by
    rw [attr_mem _ i (by omega), attr_mem _ j hj] at e
    refine List.pairwise_iff_getElem.1 h.attrs.apart i j (by omega) hj hij ?_
    rw [Lib.toList_data, Lib.toList_data] at e
    exact ba_ext e
  few := ha
theorem rows_ok (l : List Tok) (h : PutOk l) (hl : l.length ≤ 1000000000) (ha : AOk l) : RowsOk l where
  rows := fun i hi => by
    rw [tok_mem l i hi]
    have hm := List.getElem_mem hi
    exact row_ok _ (h.pieces _ hm) (h.full _ hm) (ha _ hm)
  apart := fun i hi => by
    rw [tok_mem l i (by omega), tok_mem l (i + 1) hi]
    refine h.apart _ _ (l.take i) (l.drop (i + 2)) ?_
    rw [← List.drop_eq_getElem_cons, ← List.drop_eq_getElem_cons, List.take_append_drop]
  few := hl
theorem scanNames_true (a0 : ByteArray) : ∃ k, cribblelaw18_ScanNames.f k a0 = some true := by
  refine ⟨a0.size + 1, ?_⟩
  unfold cribblelaw18_ScanNames.f
  rw [awake_names, Option.bind_some]
  by_cases hs : a0.size ≤ 1000
  · rw [if_pos ⟨rfl, hs⟩]
    obtain ⟨l, e, hp, hl, ha⟩ := tokens_put (a0.size + 1) a0 (by omega) (Nat.le_refl _)
    rw [e, Option.bind_some, if_pos (rows_ok l hp (by omega) ha)]
  · rw [if_neg (fun c => hs c.2)]
end Go.Proofs.YtoacojkmclngmaaGreatDoor.Pz
