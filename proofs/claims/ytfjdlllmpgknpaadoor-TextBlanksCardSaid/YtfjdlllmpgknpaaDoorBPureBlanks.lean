/-
The law TextBlanks, in plain lists of bytes: it answers yes to whatever is handed in.
-/
import Derived.Test.YtfjdlllmpgknpaaDoorBBase
import Derived.Test.YtfjdlllmpgknpaaDoorQ36
set_option linter.unusedSimpArgs false
set_option linter.unusedVariables false
namespace Go.Proofs.YtfjdlllmpgknpaaDoor.Pure
open Go.RowKit Go.Proofs.YtfjdlllmpgknpaaDoorW.PrintWords Go.Proofs.YtfjdlllmpgknpaaDoor.Q
theorem TextBlanks : ∀ (l0 : List ByteArray) (a1 : Int), (l0.length ≤ maxLen) → (∀ b ∈ l0, b.size ≤ maxLen) → ((Lit.int .u8 a1).wf = true) → ∃ k, symbolonlaw03_TextBlanks.f k l0 a1 = some true := by
  intro l0 a1 h0 h2 h3
  obtain ⟨K, hK⟩ := many 1000000
  have hd := bd8 h3
  have skip : symbolonlaw03_TextBlanks.j0 (K + 1) l0 a1 true true = some true := by
    simp only [symbolonlaw03_TextBlanks.j0]
    rw [if_pos trivial]
  refine ⟨K + 1, ?_⟩
  unfold symbolonlaw03_TextBlanks.f
  rw [head_true _ (by omega), Option.bind_some]
  rcases great l0 (K + 1) (fun s hs => Nat.le_trans (h2 s hs) (by decide)) (by omega) with g | ⟨g, hs⟩
  · rw [g, Option.bind_some, if_pos rfl]
    exact skip
  · rw [g, Option.bind_some, if_neg (by simp)]
    by_cases ce : ((l0.length : Int) == 0) = true
    · rw [ce]
      exact skip
    · rw [Bool.eq_false_iff.2 ce]
      have hne : (l0.length : Int) ≠ 0 := by simpa using ce
      have hl := length_sum l0
      have hj := joinOf_size l0
      have h32 : (⟨#[32]⟩ : ByteArray).size = 1 := rfl
      have h322 : (⟨#[32, 32]⟩ : ByteArray).size = 2 := rfl
      simp only [symbolonlaw03_TextBlanks.j0]
      rw [if_neg (by simp), Join_is _ _ (by omega) (by omega) (by omega), Option.bind_some, toList_tl]
      by_cases cj : tl (joinOf l0) = []
      · rw [if_pos cj]
      · obtain ⟨j1, j2⟩ := joinOf_nonempty l0 cj
        have jp : pieces 32 (tl (joinOf l0)) = l0.map tl := by
          rw [joinOf_good l0 j2]
          exact pieces_words _ (by simpa using j1) j2
        have w1 : wordsOf ((⟨#[32]⟩ : ByteArray) ++ joinOf l0) = ([], false) := by
          refine words_hole _ ?_
          rw [tl_append]
          exact List.mem_cons_self ..
        have w2 : wordsOf (joinOf l0 ++ (⟨#[32]⟩ : ByteArray)) = ([], false) := by
          refine words_hole _ ?_
          rw [tl_append]
          show [] ∈ pieces 32 (tl (joinOf l0) ++ [32])
          rw [pieces_last]
          simp
        have w3 : wordsOf ((joinOf l0 ++ (⟨#[32]⟩ : ByteArray)) ++ joinOf l0) = (l0 ++ l0, true) := by
          refine words_of_pieces _ _ ?_ (by rw [List.map_append, List.all_append, j2]; rfl)
          rw [tl_append, tl_append, List.append_assoc]
          show pieces 32 (tl (joinOf l0) ++ 32 :: tl (joinOf l0)) = _
          rw [pieces_app, jp, List.map_append]
        have w4 : ∀ a b : ByteArray, wordsOf ((a ++ (⟨#[32, 32]⟩ : ByteArray)) ++ b) = ([], false) := by
          intro a b
          refine words_hole _ ?_
          rw [tl_append, tl_append, List.append_assoc]
          show [] ∈ pieces 32 (tl a ++ 32 :: 32 :: tl b)
          rw [pieces_app]
          exact List.mem_append_right _ (List.mem_cons_self ..)
        have hsplit : ∀ n, sum (l0.take n) + sum (l0.drop n) = sum l0 := by
          intro n
          rw [← sum_app, List.take_append_drop]
        have last : ((some (([] : List ByteArray) : List ByteArray)).bind fun y273 => (if y273.length + l0.length < 8796093022208 then ((some (y273 ++ l0 : List ByteArray)).bind fun y276 => (if y276.length + l0.length < 8796093022208 then ((symbolonref03_Same.f K (l0 ++ l0) (y276 ++ l0)).bind fun t282 => (some t282)) else (none))) else (none))) = some true := by
          rw [Option.bind_some, if_pos (by rw [List.length_nil]; omega), Option.bind_some, List.nil_append, if_pos (by omega), same_self _ _ (by rw [List.length_append]; omega) (by rw [List.length_append]; omega), Option.bind_some]
        have w : wrap64 a1 = a1 := w_id (by omega) (by omega)
        rw [if_neg cj, if_pos (by omega), Words_is _ _ (by rw [append_size]; omega) (by omega), w1, Option.bind_some, if_pos (by omega), Words_is _ _ (by rw [append_size]; omega) (by omega), w2, Option.bind_some, if_neg hne, w]
        by_cases cm : Int.tmod a1 (l0.length : Int) > 0
        · have hm : Int.tmod a1 (l0.length : Int) ≤ (l0.length : Int) := by
            have := Int.tmod_lt_of_pos a1 (b := (l0.length : Int)) (by omega)
            omega
          have hsp := hsplit (Int.tmod a1 (l0.length : Int)).toNat
          have ja := joinOf_size (l0.take (Int.tmod a1 (l0.length : Int)).toNat)
          have jb := joinOf_size (l0.drop (Int.tmod a1 (l0.length : Int)).toNat)
          have la := length_sum (l0.take (Int.tmod a1 (l0.length : Int)).toNat)
          have lb := length_sum (l0.drop (Int.tmod a1 (l0.length : Int)).toNat)
          rw [if_pos cm, if_pos (by omega), if_pos hm, Join_is _ _ (by omega) (by omega) (by omega), Option.bind_some, if_pos (by omega), Join_is _ _ (by omega) (by omega) (by omega), Option.bind_some, if_pos (by rw [append_size]; omega), Words_is _ _ (by rw [append_size, append_size]; omega) (by omega), w4, Option.bind_some, if_pos (by rw [append_size]; omega), Words_is _ _ (by rw [append_size, append_size]; omega) (by omega), w3, Option.bind_some]
          simp only []
          rw [if_pos trivial, if_neg (by simp), if_neg (by simp), if_neg (by simp), if_pos trivial]
          exact last
        · rw [if_neg cm, if_pos (by rw [append_size]; omega), Words_is _ _ (by rw [append_size, append_size]; omega) (by omega), w3, Option.bind_some]
          simp only []
          rw [if_pos trivial, if_neg (by simp), if_neg (by simp), if_pos trivial]
          exact last
end Go.Proofs.YtfjdlllmpgknpaaDoor.Pure
