-- Several texts of this claim in one (wip/merge.py).
import Derived.Lib.SplitLaws
import Derived.Lib.Join
import Derived.Lib.SmallJoins
import Derived.Lib.IndexBytes
import Derived.Test.YtfjdlllmpgknpaaDoorQ11
import Derived.Test.YtfjdlllmpgknpaaDoorQ12
import Derived.Test.YtfjdlllmpgknpaaDoorQ13
import Derived.Test.YtfjdlllmpgknpaaDoorQ21
import Derived.Test.YtfjdlllmpgknpaaDoorQ22
import Derived.Test.YtfjdlllmpgknpaaDoorQ24
import Derived.Test.YtfjdlllmpgknpaaDoorQ2
import Derived.Test.YtfjdlllmpgknpaaDoorQ7
import Derived.Test.YtfjdlllmpgknpaaDoorQ23
/-
Plain lists of bytes: cut at a byte, and joined again. No condition.
-/
set_option linter.unusedSimpArgs false
set_option linter.unusedVariables false
namespace Go.Proofs.YtfjdlllmpgknpaaDoor.Pure
/-- A text's bytes. -/
abbrev tl (s : ByteArray) : List UInt8 := s.data.toList
theorem tl_inj {a b : ByteArray} (h : tl a = tl b) : a = b := by
  rw [← Lib.mk_data a, ← Lib.mk_data b]
  rw [show a.data.toList = b.data.toList from h]
theorem toList_tl (s : ByteArray) : s.toList = tl s := ByteArray.toList_eq s
theorem tl_append (a b : ByteArray) : tl (a ++ b) = tl a ++ tl b := Joins.data_append a b
theorem tl_size (s : ByteArray) : s.size = (tl s).length := Lib.size_eq s
theorem tl_mk (l : List UInt8) : tl ⟨l.toArray⟩ = l := by simp [tl]
theorem tl_empty : tl ByteArray.empty = [] := rfl
/-- The pieces of some bytes between the bytes c. -/
def pieces (c : UInt8) : List UInt8 → List (List UInt8)
  | [] => [[]]
  | b :: r => if b = c then [] :: pieces c r else match pieces c r with
    | [] => [[b]]
    | w :: ws => (b :: w) :: ws
theorem pieces_ne (c : UInt8) (l : List UInt8) : pieces c l ≠ [] := by
  cases l with
  | nil => simp [pieces]
  | cons b r =>
    unfold pieces
    split
    · simp
    · split <;> simp
theorem pieces_form (c : UInt8) (l : List UInt8) : ∃ w ws, pieces c l = w :: ws := by
  cases h : pieces c l with
  | nil => exact absurd h (pieces_ne c l)
  | cons w ws => exact ⟨w, ws, rfl⟩
theorem pieces_app (c : UInt8) (b : List UInt8) : ∀ a : List UInt8, pieces c (a ++ c :: b) = pieces c a ++ pieces c b
  | [] => by
    show pieces c (c :: b) = [[]] ++ pieces c b
    rw [pieces, if_pos rfl]
    rfl
  | x :: a => by
    have ih := pieces_app c b a
    obtain ⟨w, ws, hw⟩ := pieces_form c a
    show pieces c (x :: (a ++ c :: b)) = _
    by_cases hx : x = c
    · rw [pieces, if_pos hx, ih, pieces, if_pos hx]
      rfl
    · rw [pieces, if_neg hx, ih, pieces, if_neg hx, hw]
      rfl
theorem pieces_no (c : UInt8) : ∀ l : List UInt8, c ∉ l → pieces c l = [l]
  | [], _ => rfl
  | b :: r, h => by
    rw [pieces, if_neg (fun e => h (by rw [e]; exact List.mem_cons_self)), pieces_no c r (fun hr => h (List.mem_cons_of_mem _ hr))]
theorem pieces_last (c : UInt8) (l : List UInt8) : pieces c (l ++ [c]) = pieces c l ++ [[]] := pieces_app c [] l
theorem pieces_snoc (c b : UInt8) (hb : b ≠ c) : ∀ (l : List UInt8) (o : List (List UInt8)) (w : List UInt8), pieces c l = o ++ [w] → pieces c (l ++ [b]) = o ++ [w ++ [b]]
  | [], o, w, h => by
    have : o = [] ∧ w = [] := by
      cases o with
      | nil => simpa [pieces] using h.symm
      | cons x o => simp [pieces] at h
    obtain ⟨rfl, rfl⟩ := this
    show pieces c [b] = [[b]]
    rw [pieces, if_neg hb]
    rfl
  | x :: l, o, w, h => by
    show pieces c (x :: (l ++ [b])) = _
    by_cases hx : x = c
    · rw [pieces, if_pos hx] at h ⊢
      cases o with
      | nil =>
        have := congrArg List.length h
        obtain ⟨w', ws, hw⟩ := pieces_form c l
        rw [hw] at this
        simp at this
      | cons y o =>
        simp only [List.cons_append, List.cons.injEq] at h
        rw [pieces_snoc c b hb l o w h.2, ← h.1]
        rfl
    · obtain ⟨w', ws, hw⟩ := pieces_form c l
      rw [pieces, if_neg hx, hw] at h
      cases o with
      | nil =>
        simp at h
        obtain ⟨h1, rfl⟩ := h
        rw [pieces, if_neg hx, pieces_snoc c b hb l [] w' (by rw [hw]; rfl)]
        simp [← h1]
      | cons y o =>
        simp only [List.cons_append, List.cons.injEq] at h
        rw [pieces, if_neg hx, pieces_snoc c b hb l (w' :: o) w (by rw [hw, h.2]; rfl)]
        simp [← h.1]
theorem pieces_mem (c : UInt8) : ∀ l : List UInt8, ∀ p ∈ pieces c l, c ∉ p ∧ ∀ x ∈ p, x ∈ l
  | [], p, hp => by
    simp [pieces] at hp
    subst hp
    simp
  | b :: r, p, hp => by
    by_cases hb : b = c
    · rw [pieces, if_pos hb] at hp
      rcases List.mem_cons.1 hp with rfl | hp
      · simp
      · have := pieces_mem c r p hp
        exact ⟨this.1, fun x hx => List.mem_cons_of_mem _ (this.2 x hx)⟩
    · obtain ⟨w, ws, hw⟩ := pieces_form c r
      rw [pieces, if_neg hb, hw] at hp
      rcases List.mem_cons.1 hp with rfl | hp
      · have := pieces_mem c r w (by rw [hw]; exact List.mem_cons_self)
        refine ⟨fun h => ?_, fun x hx => ?_⟩
        · rcases List.mem_cons.1 h with h | h
          · exact hb h.symm
          · exact this.1 h
        · rcases List.mem_cons.1 hx with h | h
          · rw [h]; exact List.mem_cons_self
          · exact List.mem_cons_of_mem _ (this.2 x h)
      · have := pieces_mem c r p (by rw [hw]; exact List.mem_cons_of_mem _ hp)
        exact ⟨this.1, fun x hx => List.mem_cons_of_mem _ (this.2 x hx)⟩
/-- Each byte is c, or one of a piece's. -/
theorem pieces_all (c : UInt8) : ∀ l : List UInt8, ∀ x ∈ l, x = c ∨ ∃ p ∈ pieces c l, x ∈ p
  | [], x, hx => by cases hx
  | b :: r, x, hx => by
    by_cases hb : b = c
    · rcases List.mem_cons.1 hx with h | h
      · exact .inl (h.trans hb)
      · rcases pieces_all c r x h with h | ⟨p, hp, h⟩
        · exact .inl h
        · exact .inr ⟨p, by rw [pieces, if_pos hb]; exact List.mem_cons_of_mem _ hp, h⟩
    · obtain ⟨w, ws, hw⟩ := pieces_form c r
      rw [pieces, if_neg hb, hw]
      rcases List.mem_cons.1 hx with h | h
      · exact .inr ⟨b :: w, List.mem_cons_self, by rw [h]; exact List.mem_cons_self⟩
      · rcases pieces_all c r x h with h | ⟨p, hp, h⟩
        · exact .inl h
        · rw [hw] at hp
          rcases List.mem_cons.1 hp with rfl | hp
          · exact .inr ⟨b :: p, List.mem_cons_self, List.mem_cons_of_mem _ h⟩
          · exact .inr ⟨p, List.mem_cons_of_mem _ hp, h⟩
theorem join_pieces (c : UInt8) : ∀ l : List UInt8, Lib.join (pieces c l) [c] = l
  | [] => rfl
  | b :: r => by
    have ih := join_pieces c r
    obtain ⟨w, ws, hw⟩ := pieces_form c r
    rw [hw, Lib.join_cons] at ih
    by_cases hb : b = c
    · rw [pieces, if_pos hb, hw, Lib.join_cons]
      simp only [Lib.joinTail, List.map_cons, List.flatten_cons, List.nil_append, List.append_assoc] at ih ⊢
      rw [ih, hb]
      rfl
    · rw [pieces, if_neg hb, hw, Lib.join_cons]
      simp only [List.cons_append]
      rw [ih]
theorem pieces_join (c : UInt8) : ∀ (w : List UInt8) (ws : List (List UInt8)), c ∉ w → (∀ p ∈ ws, c ∉ p) → pieces c (Lib.join (w :: ws) [c]) = w :: ws
  | w, [], h, _ => by
    rw [Lib.join_one, pieces_no c w h]
  | w, v :: ws, h, hs => by
    have ih := pieces_join c v ws (hs v List.mem_cons_self) (fun p hp => hs p (List.mem_cons_of_mem _ hp))
    have e : Lib.join (w :: v :: ws) [c] = w ++ c :: Lib.join (v :: ws) [c] := by
      rw [Lib.join_cons, Lib.join_cons]
      simp [Lib.joinTail]
    rw [e, pieces_app, ih, pieces_no c w h]
    rfl
theorem pieces_len (c : UInt8) : ∀ l : List UInt8, (pieces c l).length = l.count c + 1
  | [] => rfl
  | b :: r => by
    have ih := pieces_len c r
    obtain ⟨w, ws, hw⟩ := pieces_form c r
    by_cases hb : b = c
    · rw [pieces, if_pos hb, List.length_cons, ih, hb, List.count_cons_self]
    · rw [pieces, if_neg hb, hw, List.count_cons_of_ne hb, ← ih, hw]
      rfl
theorem join_total (c : UInt8) : ∀ (L : List (List UInt8)), (L.map List.length).sum ≤ (Lib.join L [c]).length
  | [] => by simp [Lib.join_nil]
  | [x] => by rw [Lib.join_one]; simp
  | x :: y :: L => by
    have ih := join_total c (y :: L)
    have e : Lib.join (x :: y :: L) [c] = x ++ c :: Lib.join (y :: L) [c] := by
      rw [Lib.join_cons, Lib.join_cons]
      simp [Lib.joinTail]
    rw [e, List.length_append, List.length_cons, List.map_cons, List.sum_cons]
    omega
theorem piece_total (c : UInt8) (l : List UInt8) : ((pieces c l).map List.length).sum ≤ l.length := by
  have := join_total c (pieces c l)
  rw [join_pieces] at this
  exact this
theorem mem_sum (n : Nat) : ∀ L : List Nat, n ∈ L → n ≤ L.sum
  | x :: L, h => by
    rw [List.sum_cons]
    rcases List.mem_cons.1 h with rfl | h
    · omega
    · have := mem_sum n L h
      omega
theorem piece_len (c : UInt8) (l p : List UInt8) (h : p ∈ pieces c l) : p.length ≤ l.length :=
  Nat.le_trans (mem_sum _ _ (List.mem_map_of_mem h)) (piece_total c l)
theorem index_miss (c : UInt8) : ∀ l : List UInt8, Lib.indexByte l c = -1 → c ∉ l
  | [], _ => by simp
  | b :: r, h => by
    unfold Lib.indexByte at h
    split at h
    · cases h
    · rename_i hb
      split at h
      · rename_i hr
        intro hm
        rcases List.mem_cons.1 hm with hm | hm
        · rw [hm] at hb
          simp at hb
        · exact index_miss c r (by simpa using hr) hm
      · rename_i hr
        have := Lib.indexByte_ge r c
        omega
theorem index_hit (c : UInt8) : ∀ (l : List UInt8) (i : Nat), Lib.indexByte l c = (i : Int) → c ∉ l.take i ∧ l = l.take i ++ c :: l.drop (i + 1)
  | [], i, h => by
    simp [Lib.indexByte] at h
  | b :: r, i, h => by
    unfold Lib.indexByte at h
    split at h
    · rename_i hb
      obtain rfl : i = 0 := by omega
      have : b = c := by simpa using hb
      subst this
      simp
    · rename_i hb
      have hb' : ¬ b = c := by simpa using hb
      split at h
      · omega
      · rename_i hr
        have hg := Lib.indexByte_ge r c
        have hr' : ¬ Lib.indexByte r c = -1 := by simpa using hr
        obtain ⟨j, rfl⟩ : ∃ j, i = j + 1 := ⟨i - 1, by omega⟩
        obtain ⟨h1, h2⟩ := index_hit c r j (by omega)
        refine ⟨?_, ?_⟩
        · rw [List.take_succ_cons]
          intro hm
          rcases List.mem_cons.1 hm with hm | hm
          · exact hb' hm.symm
          · exact h1 hm
        · rw [List.take_succ_cons, List.drop_succ_cons, List.cons_append, ← h2]
theorem splitB_pieces (c : UInt8) : ∀ (n : Nat) (s : ByteArray), s.size ≤ n → (Lib.splitB ⟨#[c]⟩ 0 (Lib.countB s ⟨#[c]⟩) s).map tl = pieces c (tl s) := by
  intro n
  induction n with
  | zero =>
    intro s hs
    have hix : Lib.indexB s ⟨#[c]⟩ = Lib.indexByte (tl s) c := Lib.index_one (tl s) c
    rcases Lib.indexB_cases s ⟨#[c]⟩ with h | ⟨i, h, hi⟩
    · rw [Lib.countB_miss s _ h, Lib.splitB_zero, pieces_no c (tl s) (index_miss c _ (by rw [← hix]; exact h))]
      rfl
    · have : (⟨#[c]⟩ : ByteArray).size = 1 := rfl
      omega
  | succ n ih =>
    intro s hs
    have hix : Lib.indexB s ⟨#[c]⟩ = Lib.indexByte (tl s) c := Lib.index_one (tl s) c
    have h1 : (⟨#[c]⟩ : ByteArray).size = 1 := rfl
    rcases Lib.indexB_cases s ⟨#[c]⟩ with h | ⟨i, h, hi⟩
    · rw [Lib.countB_miss s _ h, Lib.splitB_zero, pieces_no c (tl s) (index_miss c _ (by rw [← hix]; exact h))]
      rfl
    · obtain ⟨g1, g2⟩ := index_hit c (tl s) i (by rw [← hix]; exact h)
      have hc := Lib.countB_hit s ⟨#[c]⟩ i (by rw [h1]; exact Nat.le_refl _) h
      have hsz : (s.extract (i + 1) s.size).size ≤ n := by rw [ByteArray.size_extract]; omega
      rw [h1] at hc
      rw [hc, Nat.add_comm, Lib.splitB_hit _ 0 _ s i h, List.map_cons, h1, ih _ hsz]
      rw [show tl (s.extract 0 (i + 0)) = (tl s).take i from by rw [Nat.add_zero]; exact Lib.extract_from_zero s i, show tl (s.extract (i + 1) s.size) = (tl s).drop (i + 1) from Lib.extract_to_end s (i + 1)]
      conv => rhs; rw [g2]
      rw [pieces_app, pieces_no c _ g1]
      rfl
end Go.Proofs.YtfjdlllmpgknpaaDoor.Pure

/-
text.Words, Join, Lines and Text, and the document's, in plain lists of bytes. Conditions: lengths far below what a machine holds.
-/
set_option linter.unusedSimpArgs false
set_option linter.unusedVariables false
namespace Go.Proofs.YtfjdlllmpgknpaaDoor.Pure
open Go.RowKit Go.Proofs.YtfjdlllmpgknpaaDoorW.PrintWords Go.Proofs.YtfjdlllmpgknpaaDoor.Q
theorem w_id {a : Int} (h1 : -9223372036854775808 ≤ a) (h2 : a < 9223372036854775808) : wrap64 a = a := by
  unfold wrap64
  omega
theorem w_nat (i : Nat) (h : i < 4611686018427387904) : wrap64 ((i : Int) + 1) = ((i + 1 : Nat) : Int) := by
  rw [w_id (by omega) (by omega)]
  omega
theorem rd_at (pre rest : List ByteArray) (x : ByteArray) : rdOf ByteArray.empty (pre ++ x :: rest) (pre.length : Int) = x := by
  unfold rdOf
  rw [Int.toNat_natCast, List.getD_eq_getElem?_getD]
  simp
/-- Is a text a word, told of its bytes. -/
def wd (l : List UInt8) : Bool := l.all S.okB && !l.isEmpty
theorem wordB_wd (s : ByteArray) : S.wordB s = wd (tl s) := rfl
theorem words_run (L : List ByteArray) (hL : L.length < 4611686018427387904) : ∀ (rest pre : List ByteArray) (K : Nat), L = pre ++ rest → rest.length < K → text_words.l0 K L (L.length : Int) (pre.length : Int) = some (rest.all fun s => wd (tl s))
  | [], pre, K, h, hK => by
    obtain ⟨K, rfl⟩ : ∃ k, K = k + 1 := ⟨K - 1, by simp at hK; omega⟩
    simp only [text_words.l0]
    rw [if_neg (by rw [h]; simp)]
    rfl
  | x :: rest, pre, K, h, hK => by
    rw [List.length_cons] at hK
    obtain ⟨K, rfl⟩ : ∃ k, K = k + 1 := ⟨K - 1, by omega⟩
    have hlt : pre.length < L.length := by rw [h]; simp
    have ih := words_run L hL rest (pre ++ [x]) K (by rw [h]; simp) (by omega)
    rw [List.length_append, List.length_singleton] at ih
    have hrd : rdOf ByteArray.empty L (pre.length : Int) = x := by rw [h]; exact rd_at pre rest x
    simp only [text_words.l0]
    rw [if_pos (by omega), if_pos (by omega), if_pos (by omega), hrd, w_nat _ (by omega), ih]
    unfold text_word.f
    rw [Option.bind_some, wordB_wd, List.all_cons]
    cases wd (tl x) <;> simp
theorem words_all (L : List ByteArray) (K : Nat) (hL : L.length < 4611686018427387904) (hK : L.length < K) : text_words.f K L = some (L.all fun s => wd (tl s)) := by
  unfold text_words.f
  exact words_run L hL L [] K rfl hK
/-- The pieces of a text. -/
def cutAt (c : UInt8) (s : ByteArray) : List ByteArray := Lib.splitB ⟨#[c]⟩ 0 (Lib.countB s ⟨#[c]⟩) s
theorem cutAt_tl (c : UInt8) (s : ByteArray) : (cutAt c s).map tl = pieces c (tl s) := splitB_pieces c s.size s (Nat.le_refl _)
theorem cutAt_len (c : UInt8) (s : ByteArray) : (cutAt c s).length = (tl s).count c + 1 := by
  rw [← pieces_len, ← cutAt_tl, List.length_map]
theorem cutAt_le (c : UInt8) (s : ByteArray) : (cutAt c s).length ≤ s.size + 1 := by
  rw [cutAt_len, tl_size]
  have := List.count_le_length (a := c) (l := tl s)
  omega
theorem split_is (c : UInt8) (s : ByteArray) (h : s.size < 4294967281) : S.split s ⟨#[c]⟩ = some (cutAt c s) := by
  unfold S.split
  rw [if_pos ⟨h, rfl⟩]
  rfl
theorem map_inj {a b : List ByteArray} (h : a.map tl = b.map tl) : a = b := by
  induction a generalizing b with
  | nil => cases b with
    | nil => rfl
    | cons y b => simp at h
  | cons x a ih => cases b with
    | nil => simp at h
    | cons y b =>
      simp only [List.map_cons, List.cons.injEq] at h
      rw [tl_inj h.1, ih h.2]
theorem all_map (L : List ByteArray) : (L.all fun s => wd (tl s)) = (L.map tl).all wd := by simp [List.all_map, Function.comp_def]
/-- What Words hands back. -/
def wordsOf (s : ByteArray) : List ByteArray × Bool := if (pieces 32 (tl s)).all wd then (cutAt 32 s, true) else ([], false)
theorem Words_is (s : ByteArray) (K : Nat) (h : s.size < 100000) (hK : 100002 ≤ K) : text_Words.f K s = some (wordsOf s) := by
  have h1 := cutAt_le 32 s
  unfold text_Words.f strings_Split.f wordsOf
  rw [split_is 32 s (by omega), Option.bind_some, words_all _ K (by omega) (by omega), Option.bind_some, all_map, cutAt_tl]
  cases (pieces 32 (tl s)).all wd <;> simp
/-- What Join hands back. -/
def joinOf (L : List ByteArray) : ByteArray := if (L.map tl).all wd then ⟨(Lib.join (L.map tl) [32]).toArray⟩ else ⟨#[]⟩
def sum (L : List ByteArray) : Nat := (L.map fun s => s.size + 1).sum
theorem sum_cons (x : ByteArray) (L : List ByteArray) : sum (x :: L) = x.size + 1 + sum L := by simp [sum]
theorem sum_app (a b : List ByteArray) : sum (a ++ b) = sum a + sum b := by simp [sum]
theorem join_len : ∀ (L : List ByteArray), (Lib.join (L.map tl) [32]).length ≤ sum L
  | [] => by simp [Lib.join_nil]
  | [x] => by
    rw [List.map_singleton, Lib.join_one, sum_cons, tl_size]
    omega
  | x :: y :: L => by
    have ih := join_len (y :: L)
    have e : Lib.join ((x :: y :: L).map tl) [32] = tl x ++ 32 :: Lib.join ((y :: L).map tl) [32] := by
      rw [List.map_cons, List.map_cons, Lib.join_cons, Lib.join_cons]
      simp [Lib.joinTail]
    rw [e, List.length_append, List.length_cons, sum_cons, tl_size]
    omega
theorem joinOf_size (L : List ByteArray) : (joinOf L).size ≤ sum L := by
  unfold joinOf
  split
  · rw [tl_size, tl_mk]
    exact join_len L
  · exact Nat.zero_le _
theorem Join_is (L : List ByteArray) (K : Nat) (h : sum L < 100000) (hl : L.length < 100000) (hK : 100002 ≤ K) : text_Join.f K L = some (joinOf L) := by
  have h1 := join_len L
  unfold text_Join.f strings_Join.f joinOf S.join
  rw [words_all L K (by omega) (by omega), Option.bind_some, all_map]
  cases (L.map tl).all wd with
  | false => simp
  | true =>
    have h2 : (Lib.join (L.map (·.data.toList)) (⟨#[32]⟩ : ByteArray).data.toList).length ≤ 140737488355328 := by
      show (Lib.join (L.map tl) [32]).length ≤ _
      omega
    rw [if_pos rfl, if_pos rfl, if_pos ⟨by omega, h2⟩]
    rfl
theorem tl_joinOf (L : List ByteArray) : tl (joinOf L) = if (L.map tl).all wd then Lib.join (L.map tl) [32] else [] := by
  unfold joinOf
  split
  · exact tl_mk _
  · rfl
/-- What Lines hands back. -/
def linesOf (s : ByteArray) : List ByteArray × ByteArray := ((cutAt 10 s).dropLast, (cutAt 10 s).getLastD ByteArray.empty)
theorem Lines_is (s : ByteArray) (h : s.size < 100000) : text_Lines.f s = some (linesOf s) := by
  unfold text_Lines.f S.lines linesOf
  rw [split_is 10 s (by omega), Option.bind_some, if_pos (by rw [cutAt_len]; omega)]
theorem linesOf_tl (s : ByteArray) : (linesOf s).1.map tl ++ [tl (linesOf s).2] = pieces 10 (tl s) := by
  rw [← cutAt_tl]
  unfold linesOf
  have hne : cutAt 10 s ≠ [] := by
    intro h
    have := cutAt_len 10 s
    rw [h] at this
    simp at this
  rw [show (cutAt 10 s).getLastD ByteArray.empty = (cutAt 10 s).getLast hne by rw [List.getLastD_eq_getLast?, List.getLast?_eq_some_getLast hne]; rfl]
  conv => rhs; rw [← List.dropLast_concat_getLast hne]
  rw [List.map_append]
  rfl
/-- Lines put together, each with a line feed. -/
def textL (L : List (List UInt8)) : List UInt8 := (L.map fun x => x ++ [10]).flatten
theorem textL_cons (x : List UInt8) (L : List (List UInt8)) : textL (x :: L) = x ++ 10 :: textL L := by simp [textL]
theorem textL_app (a b : List (List UInt8)) : textL (a ++ b) = textL a ++ textL b := by simp [textL]
theorem join_lines : ∀ (o : List (List UInt8)) (w : List UInt8), Lib.join (o ++ [w]) [10] = textL o ++ w
  | [], w => by
    rw [List.nil_append, Lib.join_one]
    rfl
  | x :: o, w => by
    have ih := join_lines o w
    rw [textL_cons, List.append_assoc, List.cons_append, List.cons_append, ← ih]
    cases o with
    | nil =>
      rw [List.nil_append, Lib.join_cons, Lib.join_one]
      simp [Lib.joinTail]
    | cons y o =>
      rw [List.cons_append, Lib.join_cons, Lib.join_cons]
      simp [Lib.joinTail]
theorem lines_text (s : ByteArray) : textL ((linesOf s).1.map tl) ++ tl (linesOf s).2 = tl s := by
  rw [← join_lines, linesOf_tl, join_pieces]
def textOf (L : List ByteArray) : ByteArray := ⟨(textL (L.map tl)).toArray⟩
theorem tl_textOf (L : List ByteArray) : tl (textOf L) = textL (L.map tl) := tl_mk _
theorem textL_len (L : List ByteArray) : (textL (L.map tl)).length = sum L := by
  induction L with
  | nil => rfl
  | cons x L ih =>
    rw [List.map_cons, textL_cons, List.length_append, List.length_cons, ih, sum_cons, tl_size]
    omega
theorem textOf_size (L : List ByteArray) : (textOf L).size = sum L := by rw [tl_size, tl_textOf, textL_len]
theorem linesOf_sum (s : ByteArray) : sum (linesOf s).1 + (linesOf s).2.size = s.size := by
  have := congrArg List.length (lines_text s)
  rw [List.length_append, textL_len, ← tl_size, ← tl_size] at this
  exact this
theorem length_sum (L : List ByteArray) : L.length ≤ sum L := by
  induction L with
  | nil => exact Nat.le_refl _
  | cons x L ih =>
    rw [sum_cons, List.length_cons]
    omega
theorem append_size (a b : ByteArray) : (a ++ b).size = a.size + b.size := ByteArray.size_append
theorem Text_run (L : List ByteArray) (hL : L.length < 1000000) : ∀ (rest pre : List ByteArray) (K : Nat) (x3 : ByteArray), L = pre ++ rest → rest.length < K → x3.size + sum rest < 1000000000 → text_Text.l0 K x3 L (L.length : Int) (pre.length : Int) = some (x3 ++ textOf rest)
  | [], pre, K, x3, h, hK, _ => by
    obtain ⟨K, rfl⟩ : ∃ k, K = k + 1 := ⟨K - 1, by simp at hK; omega⟩
    simp only [text_Text.l0]
    rw [if_neg (by rw [h]; simp)]
    congr 1
    exact tl_inj (by rw [tl_append, tl_textOf]; simp [textL])
  | x :: rest, pre, K, x3, h, hK, hs => by
    rw [List.length_cons] at hK
    rw [sum_cons] at hs
    obtain ⟨K, rfl⟩ : ∃ k, K = k + 1 := ⟨K - 1, by omega⟩
    have hlt : pre.length < L.length := by rw [h]; simp
    have h10 : (⟨#[10]⟩ : ByteArray).size = 1 := rfl
    have hz : (x3 ++ (x ++ (⟨#[10]⟩ : ByteArray))).size = x3.size + x.size + 1 := by rw [append_size, append_size, h10]; omega
    have ih := Text_run L hL rest (pre ++ [x]) K (x3 ++ (x ++ (⟨#[10]⟩ : ByteArray))) (by rw [h]; simp) (by omega) (by omega)
    rw [List.length_append, List.length_singleton] at ih
    have hrd : rdOf ByteArray.empty L (pre.length : Int) = x := by rw [h]; exact rd_at pre rest x
    simp only [text_Text.l0]
    rw [if_pos (by omega), if_pos (by omega), if_pos (by omega), hrd, if_pos (by omega), if_pos (by rw [append_size, h10]; omega), w_nat _ (by omega), ih]
    congr 1
    exact tl_inj (by simp only [tl_append, tl_textOf, List.map_cons, textL_cons]; simp [tl])
theorem Text_is (L : List ByteArray) (K : Nat) (h : sum L < 1000000) (hK : L.length < K) : text_Text.f K L = some (textOf L) := by
  have h1 := length_sum L
  have := Text_run L (by omega) L [] K (⟨#[]⟩ : ByteArray) rfl hK (by show 0 + sum L < _; omega)
  unfold text_Text.f
  rw [show ((0 : Int)) = (([] : List ByteArray).length : Int) from rfl, this]
  congr 1
/-- Same: alike? -/
theorem same_loop (x : List ByteArray) (hl : x.length < 4611686018427387904) : ∀ (n i k : Nat), i + n = x.length → n < k → symbolonref03_Same.l0 k x x (i : Int) = some true
  | 0, i, k + 1, hi, hk => by
    simp only [symbolonref03_Same.l0]
    rw [if_neg (by omega)]
  | n + 1, i, k + 1, hi, hk => by
    simp only [symbolonref03_Same.l0]
    rw [if_pos (by omega), if_pos (by omega), if_pos (by omega), if_pos trivial, w_nat _ (by omega)]
    exact same_loop x hl n (i + 1) k (by omega) (by omega)
theorem same_self (x : List ByteArray) (k : Nat) (hl : x.length < 4611686018427387904) (hk : x.length < k) : symbolonref03_Same.f k x x = some true := by
  unfold symbolonref03_Same.f
  rw [if_pos rfl]
  exact same_loop x hl x.length 0 k (by omega) hk
/-- Great: are texts too long? -/
theorem great_run (L : List ByteArray) (hz : ∀ s ∈ L, s.size ≤ 9223372036854775807) : ∀ (rest pre : List ByteArray) (K : Nat) (x : Int), L = pre ++ rest → rest.length < K → 0 ≤ x → x < 18000 → L.length < 9000 →
    ∃ g, symbolonlaw03_Great.l0 K L x (pre.length : Int) = some g ∧ (g = false → x + ((rest.map fun s => s.size).sum : Nat) < 9000)
  | [], pre, K, x, h, hK, x0, x1, hL => by
    obtain ⟨K, rfl⟩ : ∃ k, K = k + 1 := ⟨K - 1, by simp at hK; omega⟩
    simp only [symbolonlaw03_Great.l0]
    rw [if_neg (by rw [h]; simp)]
    refine ⟨_, rfl, fun hg => ?_⟩
    have := of_decide_eq_false hg
    simp
    omega
  | s :: rest, pre, K, x, h, hK, x0, x1, hL => by
    rw [List.length_cons] at hK
    obtain ⟨K, rfl⟩ : ∃ k, K = k + 1 := ⟨K - 1, by omega⟩
    have hlt : pre.length < L.length := by rw [h]; simp
    have hrd : rdOf ByteArray.empty L (pre.length : Int) = s := by rw [h]; exact rd_at pre rest s
    simp only [symbolonlaw03_Great.l0]
    rw [if_pos (by omega)]
    by_cases c : x < 9000
    · have hs := hz s (by rw [h]; simp)
      have hm : mn (s.size : Int) 9000 = if (s.size : Int) < 9000 then (s.size : Int) else 9000 := by
        unfold mn
        split <;> split <;> omega
      have hm2 : 0 ≤ mn (s.size : Int) 9000 ∧ mn (s.size : Int) 9000 ≤ 9000 := by
        rw [hm]
        split <;> omega
      rw [if_pos c, if_pos (by omega), hrd, w_id (a := x + _) (by omega) (by omega), w_nat _ (by omega)]
      have ih := great_run L hz rest (pre ++ [s]) K (x + mn (s.size : Int) 9000) (by rw [h]; simp) (by omega) (by omega) (by omega) hL
      rw [List.length_append, List.length_singleton] at ih
      obtain ⟨g, hg, hr⟩ := ih
      refine ⟨g, hg, fun hf => ?_⟩
      have := hr hf
      rw [hm] at this
      rw [List.map_cons, List.sum_cons]
      split at this <;> omega
    · rw [if_neg c]
      refine ⟨_, rfl, fun hg => ?_⟩
      have := of_decide_eq_false hg
      omega
theorem sum_eq (L : List ByteArray) : sum L = (L.map fun s => s.size).sum + L.length := by
  induction L with
  | nil => rfl
  | cons x L ih =>
    rw [sum_cons, List.map_cons, List.sum_cons, List.length_cons, ih]
    omega
theorem great (L : List ByteArray) (k : Nat) (hz : ∀ s ∈ L, s.size ≤ 9223372036854775807) (hk : 9001 ≤ k) : symbolonlaw03_Great.f k L = some true ∨ (symbolonlaw03_Great.f k L = some false ∧ sum L < 9000) := by
  by_cases c : L.length < 9000
  · obtain ⟨g, hg, hr⟩ := great_run L hz L [] k (L.length : Int) rfl (by omega) (by omega) (by omega) c
    unfold symbolonlaw03_Great.f
    cases g with
    | true => exact .inl hg
    | false =>
      refine .inr ⟨hg, ?_⟩
      have := hr rfl
      rw [sum_eq]
      omega
  · refine .inl ?_
    obtain ⟨k, rfl⟩ : ∃ j, k = j + 1 := ⟨k - 1, by omega⟩
    unfold symbolonlaw03_Great.f
    simp only [symbolonlaw03_Great.l0]
    rw [if_pos (by omega), if_neg (by omega), decide_eq_true (by omega)]
end Go.Proofs.YtfjdlllmpgknpaaDoor.Pure

/-
text.Number and text.Get, and the document's, in plain numbers and lists of bytes. Condition: a text below 100000 bytes.
-/
set_option linter.unusedSimpArgs false
set_option linter.unusedVariables false
namespace Go.Proofs.YtfjdlllmpgknpaaDoor.Pure
open Go.RowKit Go.Proofs.YtfjdlllmpgknpaaDoorW.PrintWords Go.Proofs.YtfjdlllmpgknpaaDoor.Q
/-- A digit's byte. -/
def dgB (b : UInt8) : Bool := decide (48 ≤ b.toNat ∧ b.toNat ≤ 57)
/-- The number of some digits behind a number. -/
def valF : Nat → List UInt8 → Nat
  | a, [] => a
  | a, b :: r => valF (a * 10 + (b.toNat - 48)) r
theorem valF_le : ∀ (l : List UInt8) (a : Nat), a ≤ valF a l
  | [], a => Nat.le_refl _
  | b :: r, a => by
    have := valF_le r (a * 10 + (b.toNat - 48))
    show a ≤ valF (a * 10 + (b.toNat - 48)) r
    omega
theorem valF_snoc (b : UInt8) : ∀ (l : List UInt8) (a : Nat), valF a (l ++ [b]) = valF a l * 10 + (b.toNat - 48)
  | [], a => rfl
  | c :: r, a => valF_snoc b r _
theorem step_lt (a d P v : Nat) (hd : d ≤ 9) (ih : v < (a * 10 + d + 1) * P) : v < (a + 1) * (P * 10) := by
  refine Nat.lt_of_lt_of_le ih ?_
  rw [Nat.mul_comm P 10, ← Nat.mul_assoc]
  exact Nat.mul_le_mul_right _ (by omega)
theorem valF_lt (l : List UInt8) : ∀ a : Nat, l.all dgB = true → valF a l < (a + 1) * 10 ^ l.length := by
  induction l with
  | nil =>
    intro a _
    show a < (a + 1) * 10 ^ 0
    rw [Nat.pow_zero, Nat.mul_one]
    exact Nat.lt_succ_self a
  | cons b r ih =>
    intro a h
    rw [List.all_cons, Bool.and_eq_true] at h
    have hb : 48 ≤ b.toNat ∧ b.toNat ≤ 57 := of_decide_eq_true h.1
    have ih := ih (a * 10 + (b.toNat - 48)) h.2
    rw [List.length_cons, Nat.pow_succ]
    exact step_lt a (b.toNat - 48) _ _ (by omega) ih
theorem parse_ok : ∀ (l : List UInt8) (a : Nat), l.all dgB = true → valF a l < 1000000000000 → Lib.parseUint10 a l = .ok (valF a l)
  | [], a, _, _ => rfl
  | b :: r, a, h, hv => by
    rw [List.all_cons, Bool.and_eq_true] at h
    have hb : 48 ≤ b.toNat ∧ b.toNat ≤ 57 := of_decide_eq_true h.1
    have hle := valF_le r (a * 10 + (b.toNat - 48))
    have hv' : valF (a * 10 + (b.toNat - 48)) r < 1000000000000 := hv
    unfold Lib.parseUint10
    rw [if_pos hb, if_neg (by omega), if_neg (by omega), parse_ok r _ h.2 hv']
    rfl
/-- The digits of a number, as they are written. -/
def canon (l : List UInt8) : Prop := l ≠ [] ∧ l.all dgB = true ∧ (2 ≤ l.length → l.head? ≠ some 48)
theorem dg_ofNat (d : Nat) (h : d < 10) : (UInt8.ofNat (48 + d)).toNat = 48 + d := by
  show (48 + d) % 256 = 48 + d
  omega
theorem dec_facts : ∀ (k n : Nat), n < 10 ^ k → 1 ≤ k → canon (Lib.decDigits n) ∧ valF 0 (Lib.decDigits n) = n ∧ (Lib.decDigits n).length ≤ k ∧ (1 ≤ n → (Lib.decDigits n).head? ≠ some 48)
  | 0, n, h, h1 => by omega
  | k + 1, n, h, h1 => by
    rw [Lib.decDigits]
    by_cases hn : n < 10
    · rw [dif_pos hn]
      refine ⟨⟨by simp, by simp [dgB, dg_ofNat n hn]; omega, by simp⟩, ?_, by simp, fun h1 => ?_⟩
      · show 0 * 10 + ((UInt8.ofNat (48 + n)).toNat - 48) = n
        rw [dg_ofNat n hn]
        omega
      · intro he
        have he := Option.some.inj he
        have := congrArg UInt8.toNat he
        rw [dg_ofNat n hn] at this
        have h48 : (48 : UInt8).toNat = 48 := rfl
        omega
    · rw [dif_neg hn]
      have hk : 1 ≤ k := by
        rcases Nat.eq_zero_or_pos k with h0 | h0
        · subst h0
          simp at h
          omega
        · exact h0
      obtain ⟨⟨c1, c2, c3⟩, v, l, hd⟩ := dec_facts k (n / 10) (by rw [Nat.pow_succ] at h; omega) hk
      have hh := hd (by omega)
      obtain ⟨x, r, hx⟩ : ∃ x r, Lib.decDigits (n / 10) = x :: r := by
        cases hq : Lib.decDigits (n / 10) with
        | nil => exact absurd hq c1
        | cons x r => exact ⟨x, r, rfl⟩
      rw [hx] at hh c2 v l ⊢
      have hd2 : (x :: r ++ [UInt8.ofNat (48 + n % 10)]).head? ≠ some 48 := hh
      refine ⟨⟨by simp, ?_, fun _ => hd2⟩, ?_, by rw [List.length_append, List.length_singleton]; omega, fun _ => hd2⟩
      · rw [List.all_append, c2]
        simp [dgB, dg_ofNat (n % 10) (by omega)]
        omega
      · rw [valF_snoc, v, dg_ofNat (n % 10) (by omega)]
        omega
theorem dec_val : ∀ (k : Nat) (l : List UInt8), l.length ≤ k → canon l → Lib.decDigits (valF 0 l) = l
  | 0, l, h, hc => absurd (List.eq_nil_of_length_eq_zero (by omega)) hc.1
  | k + 1, l, h, hc => by
    obtain ⟨c1, c2, c3⟩ := hc
    obtain ⟨t, b, rfl⟩ : ∃ t b, l = t ++ [b] := ⟨l.dropLast, l.getLast c1, (List.dropLast_concat_getLast c1).symm⟩
    rw [List.all_append, Bool.and_eq_true] at c2
    have hb : 48 ≤ b.toNat ∧ b.toNat ≤ 57 := by
      have := c2.2
      simp only [List.all_cons, List.all_nil, Bool.and_true] at this
      exact of_decide_eq_true this
    have hbe : UInt8.ofNat (48 + (b.toNat - 48)) = b := by
      rw [show 48 + (b.toNat - 48) = b.toNat by omega]
      exact UInt8.ofNat_toNat
    rw [valF_snoc]
    cases t with
    | nil =>
      show Lib.decDigits (0 * 10 + (b.toNat - 48)) = [b]
      rw [Lib.decDigits, dif_pos (by omega), show 48 + (0 * 10 + (b.toNat - 48)) = 48 + (b.toNat - 48) by omega, hbe]
    | cons x r =>
      have hx : (x :: r ++ [b]).head? ≠ some 48 := c3 (by simp)
      have hx1 : x ≠ 48 := fun e => hx (by rw [e]; rfl)
      have hxd : 48 ≤ x.toNat ∧ x.toNat ≤ 57 := by
        have := c2.1
        rw [List.all_cons, Bool.and_eq_true] at this
        exact of_decide_eq_true this.1
      have hx2 : x.toNat ≠ 48 := fun e => hx1 (UInt8.toNat_inj.1 e)
      have h1 : 1 ≤ valF 0 (x :: r) := by
        have := valF_le r (0 * 10 + (x.toNat - 48))
        show 1 ≤ valF (0 * 10 + (x.toNat - 48)) r
        omega
      have ih := dec_val k (x :: r) (by simp at h ⊢; omega) ⟨by simp, c2.1, fun _ => fun e => hx1 (Option.some.inj e)⟩
      rw [Lib.decDigits, dif_neg (by omega), show (valF 0 (x :: r) * 10 + (b.toNat - 48)) / 10 = valF 0 (x :: r) by omega, ih, show 48 + (valF 0 (x :: r) * 10 + (b.toNat - 48)) % 10 = 48 + (b.toNat - 48) by omega, hbe]
theorem atoi_canon (l : List UInt8) (h : canon l) (hl : l.length ≤ 6) : Lib.atoiAll l = .ok (valF 0 l : Int) := by
  obtain ⟨c1, c2, c3⟩ := h
  have hv := valF_lt l 0 c2
  have hv2 : valF 0 l < 1000000 := by
    have : 10 ^ l.length ≤ 10 ^ 6 := Nat.pow_le_pow_right (by decide) hl
    have h6 : (10 : Nat) ^ 6 = 1000000 := rfl
    omega
  have hp := parse_ok l 0 c2 (by omega)
  cases l with
  | nil => exact absurd rfl c1
  | cons c r =>
    rw [List.all_cons, Bool.and_eq_true] at c2
    have hc : 48 ≤ c.toNat ∧ c.toNat ≤ 57 := of_decide_eq_true c2.1
    unfold Lib.atoiAll
    simp only
    rw [if_neg (by omega)]
    unfold Lib.parseMag
    rw [if_neg (by simp), hp]
    simp only
    rw [if_neg (by omega), if_neg (by omega), if_neg (by omega)]
/-- What Number hands back. -/
def numOf (n : Int) : ByteArray := if 0 ≤ n ∧ n ≤ 999999 then ⟨(Lib.decDigits n.toNat).toArray⟩ else ⟨#[]⟩
theorem Number_is (n : Int) : text_Number.f n = some (numOf n) := by
  unfold text_Number.f numOf strconv_Itoa_28.f S.itoa
  by_cases c1 : n < 0
  · rw [if_pos c1, if_neg (by omega)]
  · rw [if_neg c1]
    by_cases c2 : n > 999999
    · rw [if_pos c2, if_neg (by omega)]
    · rw [if_neg c2, if_pos (by omega), if_pos (by omega), Option.bind_some]
      unfold Lib.itoa
      rw [if_neg c1]
instance (l : List UInt8) : Decidable (canon l) := by
  unfold canon
  infer_instance
/-- What Get hands back. -/
def getOf (l : List UInt8) : Int × Bool := if canon l ∧ l.length ≤ 6 then ((valF 0 l : Int), true) else (0, false)
theorem numOf_facts (v : Int) (l : List UInt8) (h : tl (numOf v) = l) (hl : l ≠ []) : canon l ∧ l.length ≤ 6 ∧ (valF 0 l : Int) = v ∧ 0 ≤ v ∧ v ≤ 999999 := by
  unfold numOf at h
  by_cases c : 0 ≤ v ∧ v ≤ 999999
  · rw [if_pos c, tl_mk] at h
    obtain ⟨h1, h2, h3, _⟩ := dec_facts 6 v.toNat (by have : (10 : Nat) ^ 6 = 1000000 := rfl; omega) (by decide)
    rw [h] at h1 h2 h3
    exact ⟨h1, h3, by omega, c⟩
  · rw [if_neg c] at h
    exact absurd h.symm hl
theorem canon_num (l : List UInt8) (h : canon l) (hl : l.length ≤ 6) : tl (numOf (valF 0 l : Int)) = l ∧ valF 0 l ≤ 999999 := by
  have hv := valF_lt l 0 h.2.1
  have hv2 : valF 0 l < 1000000 := by
    have : 10 ^ l.length ≤ 10 ^ 6 := Nat.pow_le_pow_right (by decide) hl
    have h6 : (10 : Nat) ^ 6 = 1000000 := rfl
    omega
  refine ⟨?_, by omega⟩
  unfold numOf
  rw [if_pos (by omega), tl_mk, Int.toNat_natCast]
  exact dec_val l.length l (Nat.le_refl _) h
theorem Get_is (s : ByteArray) (h : s.size < 100000) : text_Get.f s = some (getOf (tl s)) := by
  unfold text_Get.f S.get
  rw [if_pos (by omega)]
  by_cases c : canon (tl s) ∧ (tl s).length ≤ 6
  · have hn : S.num? s = some (valF 0 (tl s) : Int) := by
      unfold S.num?
      rw [show s.data.toList = tl s from rfl, atoi_canon (tl s) c.1 c.2]
    have hc := canon_num (tl s) c.1 c.2
    rw [hn]
    simp only
    rw [Number_is, Option.map_some, toList_tl, toList_tl, hc.1, if_neg c.1.1, if_pos rfl]
    unfold getOf
    rw [if_pos c]
  · have hg : getOf (tl s) = (0, false) := by
      unfold getOf
      rw [if_neg c]
    rw [hg]
    cases hn : S.num? s with
    | none => rfl
    | some v =>
      simp only
      rw [Number_is, Option.map_some, toList_tl, toList_tl]
      by_cases he : tl s = []
      · rw [if_pos he]
      · rw [if_neg he]
        by_cases ht : tl (numOf v) = tl s
        · obtain ⟨f1, f2, _⟩ := numOf_facts v (tl s) ht he
          exact absurd ⟨f1, f2⟩ c
        · rw [if_neg ht]
theorem strOf_one (x : Int) (h0 : 0 ≤ x) (h1 : x < 256) : tl (strOfNums [x]) = [UInt8.ofNat x.toNat] := rfl
theorem digit_str (m : Nat) (h : m < 9223372036854775808) : ∃ y : List Int, [(wrap64 (48 + Int.tmod (m : Int) 10)) % 256] = y ∧ tl (strOfNums y) = [UInt8.ofNat (48 + m % 10)] ∧ (strOfNums y).size = 1 := by
  refine ⟨_, rfl, ?_, rfl⟩
  have e : (wrap64 (48 + Int.tmod (m : Int) 10)) % 256 = ((48 + m % 10 : Nat) : Int) := by
    rw [Int.tmod_eq_emod_of_nonneg (by omega), w_id (by omega) (by omega)]
    omega
  rw [strOf_one _ (by rw [e]; omega) (by rw [e]; omega), e, Int.toNat_natCast]
theorem bt_tl (s : ByteArray) (pre rest : List UInt8) (b : UInt8) (h : tl s = pre ++ b :: rest) : bt s (pre.length : Int) = (b.toNat : Int) := by
  have hl : pre.length < s.size := by rw [tl_size, h]; simp
  rw [← bt_at s (pre.length : Int) (by rw [Int.toNat_natCast]; exact hl)]
  congr 2
  have : (tl s)[pre.length]? = some b := by rw [h]; simp
  have h2 : (tl s)[pre.length]? = some (s[pre.length]'hl) := by
    rw [List.getElem?_eq_getElem (by rw [← tl_size]; exact hl)]
    rfl
  rw [this] at h2
  have h3 := Option.some.inj h2
  rw [h3]
  rfl
end Go.Proofs.YtfjdlllmpgknpaaDoor.Pure

/-
The laws' common first lines hold, whatever is handed in.
-/
set_option linter.unusedSimpArgs false
set_option linter.unusedVariables false
namespace Go.Proofs.YtfjdlllmpgknpaaDoor.Pure
open Go.RowKit Go.Proofs.YtfjdlllmpgknpaaDoorW.PrintWords Go.Proofs.YtfjdlllmpgknpaaDoor.Q
theorem n70 : numOf 70 = (⟨#[55, 48]⟩ : ByteArray) := by
  have := dec_val 2 [55, 48] (by decide) (by unfold canon; decide)
  rw [show valF 0 [55, 48] = 70 from rfl] at this
  unfold numOf
  rw [if_pos (by omega), show (70 : Int).toNat = 70 from rfl, this]
theorem n0 : numOf 0 = (⟨#[48]⟩ : ByteArray) := by
  have := dec_val 1 [48] (by decide) (by unfold canon; decide)
  rw [show valF 0 [48] = 0 from rfl] at this
  unfold numOf
  rw [if_pos (by omega), show (0 : Int).toNat = 0 from rfl, this]
theorem nm : numOf (-1) = (⟨#[]⟩ : ByteArray) := by
  unfold numOf
  rw [if_neg (by omega)]
theorem nb : numOf 1000000 = (⟨#[]⟩ : ByteArray) := by
  unfold numOf
  rw [if_neg (by omega)]
theorem g1 : getOf (tl (⟨#[55, 48]⟩ : ByteArray)) = (70, true) := by
  unfold getOf
  rw [if_pos (by unfold canon; decide)]
  rfl
theorem g2 : getOf (tl (⟨#[48, 55]⟩ : ByteArray)) = (0, false) := by
  unfold getOf
  rw [if_neg (by unfold canon; decide)]
theorem w1 : wordsOf (⟨#[97, 32, 48, 55]⟩ : ByteArray) = ([(⟨#[97]⟩ : ByteArray), (⟨#[48, 55]⟩ : ByteArray)], true) := by
  have h : cutAt 32 (⟨#[97, 32, 48, 55]⟩ : ByteArray) = [(⟨#[97]⟩ : ByteArray), (⟨#[48, 55]⟩ : ByteArray)] := map_inj (by rw [cutAt_tl]; decide)
  unfold wordsOf
  rw [if_pos (by decide), h]
theorem w2 : wordsOf (⟨#[97, 32, 32, 98]⟩ : ByteArray) = ([], false) := by
  unfold wordsOf
  rw [if_neg (by decide)]
theorem l1 : linesOf (⟨#[97, 98, 10, 10, 99]⟩ : ByteArray) = ([(⟨#[97, 98]⟩ : ByteArray), (⟨#[]⟩ : ByteArray)], (⟨#[99]⟩ : ByteArray)) := by
  have h : cutAt 10 (⟨#[97, 98, 10, 10, 99]⟩ : ByteArray) = [(⟨#[97, 98]⟩ : ByteArray), (⟨#[]⟩ : ByteArray), (⟨#[99]⟩ : ByteArray)] := map_inj (by rw [cutAt_tl]; decide)
  unfold linesOf
  rw [h]
  rfl
theorem j1 : joinOf [(⟨#[97]⟩ : ByteArray), (⟨#[48, 55]⟩ : ByteArray)] = (⟨#[97, 32, 48, 55]⟩ : ByteArray) := tl_inj (by rw [tl_joinOf]; decide)
theorem t1 : textOf [(⟨#[97]⟩ : ByteArray), (⟨#[]⟩ : ByteArray)] = (⟨#[97, 10, 10]⟩ : ByteArray) := tl_inj (by rw [tl_textOf]; decide)
theorem head_true (k : Nat) (hk : 100002 ≤ k) : symbolonlaw03_head.f k = some true := by
  unfold symbolonlaw03_head.f
  rw [Get_is _ (by decide), g1, Option.bind_some, Get_is _ (by decide), g2, Option.bind_some, Words_is _ k (by decide) hk, w1, Option.bind_some, Words_is _ k (by decide) hk, w2, Option.bind_some, Lines_is _ (by decide), l1, Option.bind_some, Number_is, n70, Option.bind_some, if_pos (toList_tl _), Number_is, n0, Option.bind_some, if_pos (toList_tl _), Number_is, nm, Option.bind_some, if_pos (toList_tl _), Number_is, nb, Option.bind_some, if_pos (toList_tl _)]
  simp only []
  rw [if_pos trivial, if_pos trivial, if_neg (by simp), same_self _ _ (by decide) (by simp; omega), Option.bind_some, if_pos rfl, if_pos trivial, if_neg (by simp), Join_is _ _ (by decide) (by decide) hk, j1, Option.bind_some, if_pos (toList_tl _), same_self _ _ (by decide) (by simp; omega), Option.bind_some, if_pos rfl, if_pos (toList_tl _), Text_is _ _ (by decide) (by simp; omega), t1, Option.bind_some, toList_tl]
  rfl
end Go.Proofs.YtfjdlllmpgknpaaDoor.Pure

/-
What the laws of the package text say, each fact by itself, in plain lists of bytes.
-/
set_option linter.unusedSimpArgs false
set_option linter.unusedVariables false
namespace Go.Proofs.YtfjdlllmpgknpaaDoor.Pure
open Go.RowKit Go.Proofs.YtfjdlllmpgknpaaDoorW.PrintWords Go.Proofs.YtfjdlllmpgknpaaDoor.Q
theorem bd8 {a : Int} (h : (Lit.int .u8 a).wf = true) : 0 ≤ a ∧ a < 256 := by
  simp only [Lit.wf, Bool.and_eq_true, decide_eq_true_eq] at h
  have h1 : IntKind.u8.min = 0 := rfl
  have h2 : IntKind.u8.max = 255 := rfl
  omega
theorem bdi {a : Int} (h : (Lit.int .i64 a).wf = true) : -9223372036854775808 ≤ a ∧ a < 9223372036854775808 := by
  simp only [Lit.wf, Bool.and_eq_true, decide_eq_true_eq] at h
  have h1 : IntKind.i64.min = -9223372036854775808 := rfl
  have h2 : IntKind.i64.max = 9223372036854775807 := rfl
  omega
theorem many (n : Nat) : ∃ K : Nat, n ≤ K := ⟨n, Nat.le_refl n⟩
theorem wd_no {l : List UInt8} (h : wd l = true) : (32 : UInt8) ∉ l := by
  intro hm
  unfold wd at h
  rw [Bool.and_eq_true, List.all_eq_true] at h
  have := h.1 32 hm
  revert this
  decide
theorem wd_ne {l : List UInt8} (h : wd l = true) : l ≠ [] := by
  rintro rfl
  revert h
  decide
/-- Words joined, cut again. -/
theorem pieces_words : ∀ (L : List (List UInt8)), L ≠ [] → L.all wd = true → pieces 32 (Lib.join L [32]) = L
  | [], h, _ => absurd rfl h
  | x :: r, _, h => by
    rw [List.all_cons, Bool.and_eq_true] at h
    refine pieces_join 32 x r (wd_no h.1) (fun p hp => ?_)
    have := List.all_eq_true.1 h.2 p hp
    exact wd_no this
theorem join_ne : ∀ (L : List (List UInt8)), L ≠ [] → L.all wd = true → Lib.join L [32] ≠ [] := by
  intro L h hw e
  have hp := pieces_words L h hw
  rw [e] at hp
  rw [← hp] at hw
  revert hw
  decide
theorem joinOf_good (L : List ByteArray) (h : (L.map tl).all wd = true) : tl (joinOf L) = Lib.join (L.map tl) [32] := by rw [tl_joinOf, if_pos h]
theorem joinOf_bad (L : List ByteArray) (h : ¬ ((L.map tl).all wd = true)) : joinOf L = (⟨#[]⟩ : ByteArray) := tl_inj (by rw [tl_joinOf, if_neg h])
theorem words_empty : wordsOf (⟨#[]⟩ : ByteArray) = ([], false) := by
  unfold wordsOf
  rw [if_neg (by decide)]
/-- When what Join hands back is not empty, its words were all words. -/
theorem joinOf_nonempty (L : List ByteArray) (h : tl (joinOf L) ≠ []) : L ≠ [] ∧ (L.map tl).all wd = true := by
  rw [tl_joinOf] at h
  by_cases c : (L.map tl).all wd = true
  · refine ⟨?_, c⟩
    rintro rfl
    exact h (by rw [if_pos c]; exact Lib.join_nil _)
  · exact absurd (by rw [if_neg c]) h
/-- A text with these pieces, all words, has them for its words. -/
theorem words_of_pieces (s : ByteArray) (L : List ByteArray) (h : pieces 32 (tl s) = L.map tl) (hw : (L.map tl).all wd = true) : wordsOf s = (L, true) := by
  unfold wordsOf
  rw [h, if_pos hw, map_inj (a := cutAt 32 s) (b := L) (by rw [cutAt_tl, h])]
/-- A text with an empty piece has none. -/
theorem words_hole (s : ByteArray) (h : [] ∈ pieces 32 (tl s)) : wordsOf s = ([], false) := by
  unfold wordsOf
  rw [if_neg]
  intro hw
  exact absurd (List.all_eq_true.1 hw [] h) (by decide)
theorem words_join (L : List ByteArray) : wordsOf (joinOf L) = if tl (joinOf L) = [] then ([], false) else (L, true) := by
  by_cases c : tl (joinOf L) = []
  · rw [if_pos c, show joinOf L = (⟨#[]⟩ : ByteArray) from tl_inj c, words_empty]
  · obtain ⟨h1, h2⟩ := joinOf_nonempty L c
    rw [if_neg c]
    refine words_of_pieces _ _ ?_ h2
    rw [joinOf_good L h2]
    exact pieces_words _ (by simpa using h1) h2
theorem join_words (s : ByteArray) (h : (wordsOf s).2 = true) : tl (joinOf (wordsOf s).1) = tl s := by
  unfold wordsOf at h ⊢
  by_cases c : (pieces 32 (tl s)).all wd = true
  · rw [if_pos c, joinOf_good _ (by rw [cutAt_tl]; exact c), cutAt_tl, join_pieces]
  · rw [if_neg c] at h
    cases h
theorem words_len (s : ByteArray) : (wordsOf s).1.length ≤ s.size + 1 := by
  unfold wordsOf
  split
  · exact cutAt_le _ _
  · exact Nat.zero_le _
theorem words_sum (s : ByteArray) : sum (wordsOf s).1 ≤ s.size + (s.size + 1) := by
  unfold wordsOf
  split
  · rw [sum_eq]
    have h := piece_total 32 (tl s)
    rw [← cutAt_tl, List.map_map, ← tl_size] at h
    have e : (List.map (List.length ∘ tl) (cutAt 32 s)).sum = ((cutAt 32 s).map fun s => s.size).sum := by
      congr 1
    rw [e] at h
    have h2 := cutAt_le 32 s
    exact Nat.add_le_add h h2
  · exact Nat.zero_le _
theorem words_pos (s : ByteArray) (h : (wordsOf s).2 = true) : 1 ≤ (wordsOf s).1.length := by
  unfold wordsOf at h ⊢
  split at h
  · rename_i c
    rw [if_pos c]
    show 1 ≤ (cutAt 32 s).length
    rw [cutAt_len]
    omega
  · cases h
theorem words_none (s : ByteArray) (h : (wordsOf s).2 = false) : (wordsOf s).1 = [] := by
  unfold wordsOf at h ⊢
  split at h
  · cases h
  · rename_i c
    rw [if_neg c]
theorem lines_len (s : ByteArray) : (linesOf s).1.length = (tl s).count 10 := by
  have h := congrArg List.length (linesOf_tl s)
  rw [pieces_len, List.length_append, List.length_map, List.length_singleton] at h
  omega
theorem pieces_textL : ∀ (L : List (List UInt8)) (r : List UInt8), (∀ p ∈ L, (10 : UInt8) ∉ p) → pieces 10 (textL L ++ r) = L ++ pieces 10 r
  | [], r, _ => rfl
  | x :: L, r, h => by
    have ih := pieces_textL L r (fun p hp => h p (List.mem_cons_of_mem _ hp))
    rw [textL_cons, List.append_assoc, List.cons_append, pieces_app, ih, pieces_no 10 x (h x (List.mem_cons_self ..))]
    rfl
theorem lines_no (s : ByteArray) : ∀ p ∈ (linesOf s).1.map tl, (10 : UInt8) ∉ p := by
  intro p hp
  have h := linesOf_tl s
  exact (pieces_mem 10 (tl s) p (by rw [← h]; exact List.mem_append_left _ hp)).1
theorem lines_again (s x : ByteArray) : linesOf (textOf (linesOf s).1 ++ x) = ((linesOf s).1 ++ (linesOf x).1, (linesOf x).2) := by
  have e := linesOf_tl (textOf (linesOf s).1 ++ x)
  rw [tl_append, tl_textOf, pieces_textL _ _ (lines_no s), ← linesOf_tl x, ← List.append_assoc, ← List.map_append] at e
  have e2 := List.append_inj' e rfl
  exact Prod.ext (map_inj e2.1) (tl_inj (List.cons.inj e2.2).1)
theorem get_num (n : Nat) (h : n ≤ 999999) : getOf (tl (numOf (n : Int))) = ((n : Int), true) ∧ tl (numOf (n : Int)) = Lib.decDigits n ∧ canon (Lib.decDigits n) := by
  obtain ⟨h1, h2, h3, _⟩ := dec_facts 6 n (by have : (10 : Nat) ^ 6 = 1000000 := rfl; omega) (by decide)
  have e : tl (numOf (n : Int)) = Lib.decDigits n := by
    unfold numOf
    rw [if_pos (by omega), tl_mk, Int.toNat_natCast]
  refine ⟨?_, e, h1⟩
  unfold getOf
  rw [e, if_pos ⟨h1, h3⟩, h2]
theorem get_empty : getOf (tl (⟨#[]⟩ : ByteArray)) = (0, false) := by
  unfold getOf
  rw [if_neg (by unfold canon; decide)]
theorem num_out (a : Int) (h : ¬ (0 ≤ a ∧ a ≤ 999999)) : numOf a = (⟨#[]⟩ : ByteArray) := by
  unfold numOf
  rw [if_neg h]
theorem num_get (s : ByteArray) (h : (getOf (tl s)).2 = true) : tl (numOf (getOf (tl s)).1) = tl s := by
  unfold getOf at h ⊢
  by_cases c : canon (tl s) ∧ (tl s).length ≤ 6
  · rw [if_pos c]
    exact (canon_num _ c.1 c.2).1
  · rw [if_neg c] at h
    cases h
theorem get_digits (s : ByteArray) (h : (getOf (tl s)).2 = true) : (tl s).all dgB = true := by
  unfold getOf at h
  by_cases c : canon (tl s) ∧ (tl s).length ≤ 6
  · exact c.1.2.1
  · rw [if_neg c] at h
    cases h
/-- A digit set behind a number. -/
theorem get_more (n d : Nat) (h1 : 1 ≤ n) (h2 : n ≤ 99999) (hd : d < 10) : getOf (Lib.decDigits n ++ [UInt8.ofNat (48 + d)]) = (((n * 10 + d : Nat) : Int), true) := by
  obtain ⟨⟨c1, c2, c3⟩, f2, f3, f4⟩ := dec_facts 5 n (by have : (10 : Nat) ^ 5 = 100000 := rfl; omega) (by decide)
  have f4 := f4 h1
  have hb := dg_ofNat d hd
  unfold getOf
  rw [if_pos, valF_snoc, f2, hb]
  · congr 3
    omega
  · refine ⟨⟨by simp, ?_, fun _ => ?_⟩, by simp; omega⟩
    · rw [List.all_append, c2, Bool.true_and, List.all_cons, List.all_nil, Bool.and_true]
      unfold dgB
      rw [hb]
      exact decide_eq_true (by omega)
    · rw [List.head?_append]
      cases hq : Lib.decDigits n with
      | nil => exact absurd hq c1
      | cons x r =>
        rw [hq] at f4
        exact f4
theorem words_bytes (s : ByteArray) (h : (wordsOf s).2 = true) : ∀ b ∈ tl s, b = 32 ∨ S.okB b = true := by
  intro b hb
  unfold wordsOf at h
  split at h
  · rename_i c
    rcases pieces_all 32 (tl s) b hb with rfl | ⟨p, hp, hm⟩
    · exact .inl rfl
    · have hw := List.all_eq_true.1 c p hp
      unfold wd at hw
      rw [Bool.and_eq_true] at hw
      exact .inr (List.all_eq_true.1 hw.1 b hm)
  · cases h
end Go.Proofs.YtfjdlllmpgknpaaDoor.Pure
