/- Contracts of functions of the program, each proved by running its code symbolically (TQ). -/
import Derived.Test.YtjkjagbpmcgifaaTP
namespace Go.Sx.T
open Go Go.Proofs Go.Sx
set_option maxRecDepth 100000
set_option maxHeartbeats 4000000
set_option linter.unusedVariables false
set_option linter.unusedSimpArgs false
def nextS (day o : Int) (p : Piece) : Int :=
  if day < p.Until then min (if day < p.From then min o p.From else o) p.Until else (if day < p.From then min o p.From else o)
def nextD (l : List Piece) (day : Int) : Int := l.foldl (nextS day) 1048576
theorem nextD_snoc (l : List Piece) (day : Int) (k : Nat) (hk : k < l.length) : nextD (l.take (k + 1)) day = nextS day (nextD (l.take k) day) (l.getD k default) := by
  rw [take_snoc l default k hk]; simp [nextD]
theorem next_fold (day : Int) : ∀ (l : List Piece) (o : Int), day < o → day < l.foldl (nextS day) o ∧ l.foldl (nextS day) o ≤ o ∧ ∀ p ∈ l, (day < p.From → l.foldl (nextS day) o ≤ p.From) ∧ (day < p.Until → l.foldl (nextS day) o ≤ p.Until)
  | [], o, h => ⟨h, Int.le_refl _, fun p hp => by simp at hp⟩
  | p :: l, o, h => by
    have hs : day < nextS day o p ∧ nextS day o p ≤ o ∧ (day < p.From → nextS day o p ≤ p.From) ∧ (day < p.Until → nextS day o p ≤ p.Until) := by
      unfold nextS
      split <;> split <;> omega
    obtain ⟨h1, h2, h3⟩ := next_fold day l (nextS day o p) hs.1
    rw [List.foldl_cons]
    refine ⟨h1, by omega, fun q hq => ?_⟩
    rcases List.mem_cons.1 hq with rfl | hq
    · exact ⟨fun h => by have := hs.2.2.1 h; omega, fun h => by have := hs.2.2.2 h; omega⟩
    · exact h3 q hq
theorem s43 (l : List Piece) (day : Int) : Spec Try.prog 43 [pieces l, .int .i64 day] (.int .i64 (nextD l day)) := by
  refine spec_len 0 rfl (hasBody_of_slim Try.func43 F43_ok) fun hlen => ?_
  refine spec_of_good mixed Try.func43 F43_ok (by kernel_rfl) ?_
  refine good_run 17 (obs := []) (by kernel_rfl) trivial ?_
  refine good_loopJ (fun k : Nat => ⟨[(6, .sv (.int .i64 (k))), (5, .sv (.int .i64 (nextD (l.take k) day))), (0, LV.sv (SV.lst (3 : Nat) (List.length l) fun i => Piece.cells (List.getD l i default))), (1, LV.sv (SV.int IntKind.i64 day))], []⟩) (fun k => k ≤ l.length) (fun k => l.length - k) (0) [(0 : Int) = (0 : Int), (1048576 : Int) = nextD [] day, List.length l = List.length l ∧ ∀ (i : Nat), i < List.length l → (fun i => Piece.cells (List.getD l i default)) i = (fun i => Piece.cells (List.getD l i default)) i, day = day] (by kernel_rfl) (by kernel_rfl) ⟨rfl, (by rfl), ⟨rfl, fun _ _ => rfl⟩, rfl, trivial⟩ (by omega) ?_
  intro k hk
  refine good_run 9 (obs := []) (by kernel_rfl) trivial ?_
  refine good_cond (decide ((↑k : Int) < (↑(List.length l) : Int))) (by kernel_rfl) (fun hc1 => ?_) (fun hc1 => ?_)
  · have hlt : k < l.length := by simp only [decide_eq_true_eq] at hc1; omega
    have hs := nextD_snoc l day k hlt
    refine good_run 16 (obs := [(3 : Nat) = (3 : Nat) ∧ (0 : Int) ≤ (↑k : Int) ∧ (↑k : Int) < (↑(List.length l) : Int)]) (by kernel_rfl) (by (first | omega | assumption | exact ⟨rfl, trivial⟩ | simp only [AllP, inK_iff, roomOK_iff, decide_eq_true_eq, Bool.and_eq_true, Bool.or_eq_true, Bool.not_eq_true', decide_eq_false_iff_not, and_true, true_and]; (first | omega | (and_intros <;> intros <;> (try and_intros) <;> first | omega | assumption | exact trivial)))) ?_
    refine good_cond (decide (day < (List.getD l k default).From)) (by kernel_rfl) (fun hc2 => ?_) (fun hc2 => ?_)
    · simp only [decide_eq_true_eq] at hc2
      refine good_run 24 (obs := [(3 : Nat) = (3 : Nat) ∧ (0 : Int) ≤ (↑k : Int) ∧ (↑k : Int) < (↑(List.length l) : Int), (3 : Nat) = (3 : Nat) ∧ (0 : Int) ≤ (↑k : Int) ∧ (↑k : Int) < (↑(List.length l) : Int)]) (by kernel_rfl) (by (first | omega | assumption | exact ⟨rfl, trivial⟩ | simp only [AllP, inK_iff, roomOK_iff, decide_eq_true_eq, Bool.and_eq_true, Bool.or_eq_true, Bool.not_eq_true', decide_eq_false_iff_not, and_true, true_and]; (first | omega | (and_intros <;> intros <;> (try and_intros) <;> first | omega | assumption | exact trivial)))) ?_
      refine good_cond (decide (day < (List.getD l k default).Until)) (by kernel_rfl) (fun hc3 => ?_) (fun hc3 => ?_)
      · simp only [decide_eq_true_eq] at hc3
        refine good_run 19 (obs := [(3 : Nat) = (3 : Nat) ∧ (0 : Int) ≤ (↑k : Int) ∧ (↑k : Int) < (↑(List.length l) : Int), InK IntKind.i64 ((↑k : Int) + (1 : Int))]) (by kernel_rfl) (by (first | omega | assumption | exact ⟨rfl, trivial⟩ | simp only [AllP, inK_iff, roomOK_iff, decide_eq_true_eq, Bool.and_eq_true, Bool.or_eq_true, Bool.not_eq_true', decide_eq_false_iff_not, and_true, true_and]; (first | omega | (and_intros <;> intros <;> (try and_intros) <;> first | omega | assumption | exact trivial)))) ?_
        refine good_backJ (k + 1) [(↑k : Int) + (1 : Int) = (↑(k + (1 : Nat)) : Int), min (min (nextD (List.take k l) day) (List.getD l k default).From) (List.getD l k default).Until = nextD (List.take (k + (1 : Nat)) l) day, List.length l = List.length l ∧ ∀ (i : Nat), i < List.length l → (fun i => Piece.cells (List.getD l i default)) i = (fun i => Piece.cells (List.getD l i default)) i, day = day] (by kernel_rfl) (by kernel_rfl) ⟨(by omega), ?_, ⟨rfl, fun _ _ => rfl⟩, rfl, trivial⟩ (by omega) (by show _ < _; omega)
        rw [hs, nextS, if_pos hc3, if_pos hc2]
      · simp only [decide_eq_false_iff_not] at hc3
        refine good_run 8 (obs := [InK IntKind.i64 ((↑k : Int) + (1 : Int))]) (by kernel_rfl) (by (first | omega | assumption | exact ⟨rfl, trivial⟩ | simp only [AllP, inK_iff, roomOK_iff, decide_eq_true_eq, Bool.and_eq_true, Bool.or_eq_true, Bool.not_eq_true', decide_eq_false_iff_not, and_true, true_and]; (first | omega | (and_intros <;> intros <;> (try and_intros) <;> first | omega | assumption | exact trivial)))) ?_
        refine good_backJ (k + 1) [(↑k : Int) + (1 : Int) = (↑(k + (1 : Nat)) : Int), min (nextD (List.take k l) day) (List.getD l k default).From = nextD (List.take (k + (1 : Nat)) l) day, List.length l = List.length l ∧ ∀ (i : Nat), i < List.length l → (fun i => Piece.cells (List.getD l i default)) i = (fun i => Piece.cells (List.getD l i default)) i, day = day] (by kernel_rfl) (by kernel_rfl) ⟨(by omega), ?_, ⟨rfl, fun _ _ => rfl⟩, rfl, trivial⟩ (by omega) (by show _ < _; omega)
        rw [hs, nextS, if_neg hc3, if_pos hc2]
    · simp only [decide_eq_false_iff_not] at hc2
      refine good_run 13 (obs := [(3 : Nat) = (3 : Nat) ∧ (0 : Int) ≤ (↑k : Int) ∧ (↑k : Int) < (↑(List.length l) : Int)]) (by kernel_rfl) (by (first | omega | assumption | exact ⟨rfl, trivial⟩ | simp only [AllP, inK_iff, roomOK_iff, decide_eq_true_eq, Bool.and_eq_true, Bool.or_eq_true, Bool.not_eq_true', decide_eq_false_iff_not, and_true, true_and]; (first | omega | (and_intros <;> intros <;> (try and_intros) <;> first | omega | assumption | exact trivial)))) ?_
      refine good_cond (decide (day < (List.getD l k default).Until)) (by kernel_rfl) (fun hc3 => ?_) (fun hc3 => ?_)
      · simp only [decide_eq_true_eq] at hc3
        refine good_run 19 (obs := [(3 : Nat) = (3 : Nat) ∧ (0 : Int) ≤ (↑k : Int) ∧ (↑k : Int) < (↑(List.length l) : Int), InK IntKind.i64 ((↑k : Int) + (1 : Int))]) (by kernel_rfl) (by (first | omega | assumption | exact ⟨rfl, trivial⟩ | simp only [AllP, inK_iff, roomOK_iff, decide_eq_true_eq, Bool.and_eq_true, Bool.or_eq_true, Bool.not_eq_true', decide_eq_false_iff_not, and_true, true_and]; (first | omega | (and_intros <;> intros <;> (try and_intros) <;> first | omega | assumption | exact trivial)))) ?_
        refine good_backJ (k + 1) [(↑k : Int) + (1 : Int) = (↑(k + (1 : Nat)) : Int), min (nextD (List.take k l) day) (List.getD l k default).Until = nextD (List.take (k + (1 : Nat)) l) day, List.length l = List.length l ∧ ∀ (i : Nat), i < List.length l → (fun i => Piece.cells (List.getD l i default)) i = (fun i => Piece.cells (List.getD l i default)) i, day = day] (by kernel_rfl) (by kernel_rfl) ⟨(by omega), ?_, ⟨rfl, fun _ _ => rfl⟩, rfl, trivial⟩ (by omega) (by show _ < _; omega)
        rw [hs, nextS, if_pos hc3, if_neg hc2]
      · simp only [decide_eq_false_iff_not] at hc3
        refine good_run 8 (obs := [InK IntKind.i64 ((↑k : Int) + (1 : Int))]) (by kernel_rfl) (by (first | omega | assumption | exact ⟨rfl, trivial⟩ | simp only [AllP, inK_iff, roomOK_iff, decide_eq_true_eq, Bool.and_eq_true, Bool.or_eq_true, Bool.not_eq_true', decide_eq_false_iff_not, and_true, true_and]; (first | omega | (and_intros <;> intros <;> (try and_intros) <;> first | omega | assumption | exact trivial)))) ?_
        refine good_backJ (k + 1) [(↑k : Int) + (1 : Int) = (↑(k + (1 : Nat)) : Int), nextD (List.take k l) day = nextD (List.take (k + (1 : Nat)) l) day, List.length l = List.length l ∧ ∀ (i : Nat), i < List.length l → (fun i => Piece.cells (List.getD l i default)) i = (fun i => Piece.cells (List.getD l i default)) i, day = day] (by kernel_rfl) (by kernel_rfl) ⟨(by omega), ?_, ⟨rfl, fun _ _ => rfl⟩, rfl, trivial⟩ (by omega) (by show _ < _; omega)
        rw [hs, nextS, if_neg hc3, if_neg hc2]
  · have hge : k = l.length := by simp only [decide_eq_false_iff_not] at hc1; omega
    subst hge
    rw [List.take_length]
    refine good_run 2 (obs := []) (by kernel_rfl) trivial ?_
    refine good_leaveJ (by kernel_rfl) ?_
    refine good_run 8 (obs := []) (by kernel_rfl) trivial ?_
    refine good_fin [nextD l day = nextD l day] (by kernel_rfl) ⟨rfl, trivial⟩
/-- Up to a day, the values of g. -/
structure UpTo (g : Int → Option Int) (day : Int) (out : List Piece) : Prop where
  norm : Norm out
  end' : ∀ p ∈ out, p.Until ≤ day
  at' : ∀ d, atF out d = if 0 ≤ d ∧ d < day then g d else none
  len : (out.length : Int) ≤ day
def endD (a b : List Piece) (day : Int) : Int := min (nextD a day) (nextD b day)
theorem endD_ok {a b : List Piece} {day : Int} (h : day < 1048576) : day < endD a b day ∧ endD a b day ≤ 1048576 ∧ ∀ d, day ≤ d → d < endD a b day → atF a d = atF a day ∧ atF b d = atF b day := by
  obtain ⟨a1, a2, a3⟩ := next_fold day a 1048576 h
  obtain ⟨b1, b2, b3⟩ := next_fold day b 1048576 h
  have e1 : nextD a day = a.foldl (nextS day) 1048576 := rfl
  have e2 : nextD b day = b.foldl (nextS day) 1048576 := rfl
  unfold endD
  refine ⟨by omega, by omega, fun d h1 h2 => ⟨atF_congr fun p hp => ?_, atF_congr fun p hp => ?_⟩⟩
  · have := a3 p hp; omega
  · have := b3 p hp; omega
theorem upto_step {g : Int → Option Int} {day e : Int} {out : List Piece} (h0 : 0 ≤ day) (hlt : day < e) (h : UpTo g day out) (hg : ∀ d, day ≤ d → d < e → g d = g day) :
    (g day = none → UpTo g e out) ∧ ∀ v, g day = some v → UpTo g e (putR out ⟨day, e, v⟩) := by
  refine ⟨fun hn => ⟨h.norm, fun p hp => by have := h.end' p hp; omega, fun d => ?_, by have := h.len; omega⟩, fun v hv => ?_⟩
  · rw [h.at' d]
    by_cases h1 : 0 ≤ d ∧ d < day
    · rw [if_pos h1, if_pos ⟨h1.1, by omega⟩]
    · rw [if_neg h1]
      by_cases h2 : 0 ≤ d ∧ d < e
      · rw [if_pos h2, hg d (by omega) h2.2, hn]
      · rw [if_neg h2]
  · have e1 : putR out ⟨day, e, v⟩ = putP out ⟨day, e, v⟩ := by rw [putR, if_neg (by show ¬ e ≤ day; omega)]
    rw [e1]
    obtain ⟨q1, q2, q3⟩ := putP_ok (l := out) (x := ⟨day, e, v⟩) h.norm hlt h.end'
    refine ⟨q1, q2, fun d => ?_, ?_⟩
    · rw [q3 d, h.at' d]
      simp only
      by_cases h1 : day ≤ d ∧ d < e
      · rw [if_pos h1, if_pos ⟨by omega, h1.2⟩, hg d h1.1 h1.2, hv]
      · rw [if_neg h1]
        by_cases h2 : 0 ≤ d ∧ d < day
        · rw [if_pos h2, if_pos ⟨h2.1, by omega⟩]
        · rw [if_neg h2, if_neg (by omega)]
    · have := putP_len out ⟨day, e, v⟩
      have := h.len
      omega
theorem upto_end {a b : List Piece} {g : Int → Option Int} {out : List Piece} (ha : check a = 0) (hb : check b = 0) (h : UpTo g 1048576 out) (hg : ∀ d e, atF a d = atF a e → atF b d = atF b e → g d = g e) (h0 : ∀ d, atF a d = none → atF b d = none → g d = none) :
    buildAt (cutsL [] [a, b]) g (cutsL [] [a, b]).length = out := by
  have m := pair_made ha hb hg h0
  refine norm_unique m.norm h.norm fun d => ?_
  rw [m.at', h.at']
  split
  · rfl
  · rename_i hd
    refine h0 d ?_ ?_
    · refine Classical.byContradiction fun hh => ?_
      have := atF_range ha hh; omega
    · refine Classical.byContradiction fun hh => ?_
      have := atF_range hb hh; omega
end Go.Sx.T
