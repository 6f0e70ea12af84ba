import Derived.Test.YtikdblejkmaloaaRing
import Derived.Test.YtikdblejkmaloaaRrRow
namespace Go.Proofs.Ytikdblejkmaloaa
open Go.Rr Go
set_option linter.unusedVariables false
theorem awake06_ct {w : World} {L : List HProp} (H : Holds w L) : CT Try.prog 27 [] w fun u w' => u = .bool true ∧ Holds w' L := by
  refine CT.enter (N := 77) Try.func27 rfl rfl rfl rfl ?_
  refine W.seq (fun K0 hK0 => ?_)
  refine W.region ?_
  refine O.ex (Ex.assign rfl) rfl ?_
  refine O.nil ?_
  refine hK0 _ _ _ ?_
  refine W.seq (fun K1 hK1 => ?_)
  refine W.region ?_
  refine O.callF Try.call28 rfl rfl (CT.mono (newIG_ct (n := 2) (by assumption)) ?_)
  rintro _ w (⟨hx, -⟩ | ⟨-, r1, rfl, H⟩)
  · exact absurd (by omega) hx
  refine O.ex (Ex.move rfl) rfl ?_
  refine O.ex (Ex.extract rfl rfl) rfl ?_
  refine O.ex (Ex.extract rfl rfl) rfl ?_
  refine O.ex (Ex.assign rfl) rfl ?_
  refine O.ex (Ex.assign rfl) rfl ?_
  refine O.nil ?_
  refine hK1 _ _ _ ?_
  refine W.seq (fun K2 hK2 => ?_)
  refine W.region ?_
  refine O.callF Try.call28 rfl rfl (CT.mono (newIG_ct (n := 33) (by assumption)) ?_)
  rintro _ w (⟨-, rfl, H⟩ | ⟨hx, -⟩)
  rotate_left
  · exact absurd hx (by omega)
  refine O.ex (Ex.move rfl) rfl ?_
  refine O.ex (Ex.extract rfl rfl) rfl ?_
  refine O.ex (Ex.extract rfl rfl) rfl ?_
  refine O.ex (Ex.assign rfl) rfl ?_
  refine O.ex (Ex.assign rfl) rfl ?_
  refine O.nil ?_
  refine hK2 _ _ _ ?_
  refine W.seq (fun K3 hK3 => ?_)
  refine W.seq (fun K4 hK4 => ?_)
  refine W.region ?_
  refine O.ex (Ex.move rfl) rfl ?_
  refine O.ex (Ex.nilEq Try.runUnderlying58 rfl rfl) rfl ?_
  refine O.ex (Ex.move rfl) rfl ?_
  refine O.known (t := 21) (c := false) rfl (by first | rfl | decide) ?_
  refine O.guard_t rfl rfl ?_
  refine O.ex (Ex.move rfl) rfl ?_
  refine O.guard_t rfl rfl ?_
  refine O.ex (Ex.neqI rfl rfl) rfl ?_
  refine O.ex (Ex.pick_f rfl rfl) rfl ?_
  refine O.ex (Ex.move rfl) rfl ?_
  refine O.known (t := 25) (c := false) rfl (by first | rfl | decide) ?_
  refine O.guard_t rfl rfl ?_
  refine O.ex (Ex.move rfl) rfl ?_
  refine O.guard_t rfl rfl ?_
  refine O.ex (Ex.neqI rfl rfl) rfl ?_
  refine O.ex (Ex.pick_f rfl rfl) rfl ?_
  refine O.nil ?_
  refine hK4 _ _ _ ?_
  refine W.known_f rfl (by first | rfl | decide) ?_
  refine W.skip ?_
  refine hK3 _ _ _ ?_
  refine W.seq (fun K5 hK5 => ?_)
  refine W.region ?_
  refine O.ex (Ex.move rfl) rfl ?_
  refine O.callF Try.call31 rfl rfl (CT.mono (pushI_ct (Holds.to (by assumption))) ?_)
  rintro _ w ⟨rfl, H⟩
  refine O.nil ?_
  refine hK5 _ _ _ ?_
  refine W.seq (fun K6 hK6 => ?_)
  refine W.region ?_
  refine O.ex (Ex.move rfl) rfl ?_
  refine O.callF Try.call31 rfl rfl (CT.mono (pushI_ct (Holds.to (by assumption))) ?_)
  rintro _ w ⟨rfl, H⟩
  refine O.nil ?_
  refine hK6 _ _ _ ?_
  refine W.seq (fun K7 hK7 => ?_)
  refine W.region ?_
  refine O.ex (Ex.move rfl) rfl ?_
  refine O.callF Try.call31 rfl rfl (CT.mono (pushI_ct (Holds.to (by assumption))) ?_)
  rintro _ w ⟨rfl, H⟩
  refine O.ex (Ex.move rfl) rfl ?_
  refine O.ex (Ex.extract rfl rfl) rfl ?_
  refine O.ex (Ex.extract rfl rfl) rfl ?_
  refine O.ex (Ex.assign rfl) rfl ?_
  refine O.ex (Ex.assign rfl) rfl ?_
  refine O.nil ?_
  refine hK7 _ _ _ ?_
  refine W.seq (fun K8 hK8 => ?_)
  refine W.region ?_
  refine O.ex (Ex.move rfl) rfl ?_
  refine O.callF Try.call29 rfl rfl (CT.mono (popI_ct (Holds.to (by assumption))) ?_)
  rintro _ w ⟨rfl, H⟩
  refine O.ex (Ex.move rfl) rfl ?_
  refine O.ex (Ex.extract rfl rfl) rfl ?_
  refine O.ex (Ex.extract rfl rfl) rfl ?_
  refine O.ex (Ex.assign rfl) rfl ?_
  refine O.ex (Ex.assign rfl) rfl ?_
  refine O.nil ?_
  refine hK8 _ _ _ ?_
  refine W.seq (fun K9 hK9 => ?_)
  refine W.region ?_
  refine O.ex (Ex.move rfl) rfl ?_
  refine O.callF Try.call33 rfl rfl (CT.mono (topI_ct (Holds.to (by assumption))) ?_)
  rintro _ w ⟨rfl, H⟩
  refine O.ex (Ex.move rfl) rfl ?_
  refine O.ex (Ex.extract rfl rfl) rfl ?_
  refine O.ex (Ex.extract rfl rfl) rfl ?_
  refine O.ex (Ex.assign rfl) rfl ?_
  refine O.ex (Ex.assign rfl) rfl ?_
  refine O.nil ?_
  refine hK9 _ _ _ ?_
  refine W.seq (fun K10 hK10 => ?_)
  refine W.region ?_
  refine O.ex (Ex.move rfl) rfl ?_
  refine O.ex (Ex.eqlI rfl rfl) rfl ?_
  refine O.ex (Ex.move rfl) rfl ?_
  refine O.known (t := 50) (c := true) rfl (by first | rfl | decide) ?_
  refine O.guard_t rfl rfl ?_
  refine O.ex (Ex.move rfl) rfl ?_
  refine O.ex (Ex.pick_t rfl rfl) rfl ?_
  refine O.ex (Ex.move rfl) rfl ?_
  refine O.known (t := 53) (c := true) rfl (by first | rfl | decide) ?_
  refine O.guard_t rfl rfl ?_
  refine O.ex (Ex.move rfl) rfl ?_
  refine O.guard_t rfl rfl ?_
  refine O.ex (Ex.eqlI rfl rfl) rfl ?_
  refine O.ex (Ex.pick_t rfl rfl) rfl ?_
  refine O.ex (Ex.move rfl) rfl ?_
  refine O.known (t := 57) (c := true) rfl (by first | rfl | decide) ?_
  refine O.guard_t rfl rfl ?_
  refine O.ex (Ex.move rfl) rfl ?_
  refine O.ex (Ex.pick_t rfl rfl) rfl ?_
  refine O.ex (Ex.move rfl) rfl ?_
  refine O.known (t := 60) (c := true) rfl (by first | rfl | decide) ?_
  refine O.guard_t rfl rfl ?_
  refine O.ex (Ex.move rfl) rfl ?_
  refine O.guard_t rfl rfl ?_
  refine O.ex (Ex.eqlI rfl rfl) rfl ?_
  refine O.ex (Ex.pick_t rfl rfl) rfl ?_
  refine O.ex (Ex.move rfl) rfl ?_
  refine O.known (t := 64) (c := true) rfl (by first | rfl | decide) ?_
  refine O.guard_t rfl rfl ?_
  refine O.ex (Ex.move rfl) rfl ?_
  refine O.ex (Ex.pick_t rfl rfl) rfl ?_
  refine O.ex (Ex.move rfl) rfl ?_
  refine O.known (t := 67) (c := true) rfl (by first | rfl | decide) ?_
  refine O.guard_t rfl rfl ?_
  refine O.ex (Ex.move rfl) rfl ?_
  refine O.guard_t rfl rfl ?_
  refine O.callF Try.call35 rfl rfl (CT.mono (lenIG_ct (Holds.to (by assumption))) ?_)
  rintro _ w ⟨rfl, H⟩
  refine O.guard_t rfl rfl ?_
  refine O.ex (Ex.eqlI rfl rfl) rfl ?_
  refine O.ex (Ex.pick_t rfl rfl) rfl ?_
  refine O.ex (Ex.move rfl) rfl ?_
  refine O.known (t := 72) (c := true) rfl (by first | rfl | decide) ?_
  refine O.guard_t rfl rfl ?_
  refine O.ex (Ex.move rfl) rfl ?_
  refine O.guard_t rfl rfl ?_
  refine O.callF Try.call36 rfl rfl (CT.mono (roomIG_ct (Holds.to (by assumption))) ?_)
  rintro _ w ⟨rfl, H⟩
  refine O.guard_t rfl rfl ?_
  refine O.ex (Ex.eqlI rfl rfl) rfl ?_
  refine O.ex (Ex.pick_t rfl rfl) rfl ?_
  refine O.ex (Ex.assign rfl) rfl ?_
  refine O.nil ?_
  refine hK10 _ _ _ ?_
  refine W.ret ?_
  try dsimp only [thenQ, blockQ, retQ]
  first | refine ⟨_, ⟨_, _, rfl, rfl, rfl⟩, ?_⟩ | (refine retD_mark ?_; intro w H; refine ⟨_, ⟨_, _, rfl, rfl, rfl⟩, ?_⟩) | (refine retD_mark2 ?_; intro w H; refine ⟨_, ⟨_, _, rfl, rfl, rfl⟩, ?_⟩)
  exact ⟨by simp only [oneOf]; exact congrArg Value.bool (by decide), Holds.to (by assumption)⟩
/-- The last n of the first i. -/
def win {α : Type} (l : List α) (i n : Nat) : List α := (l.take i).drop (i - n)
theorem win_len {α : Type} (l : List α) (i n : Nat) (h : i ≤ l.length) : (win l i n).length = min i n := by
  unfold win; simp; omega
section
variable {α : Type} [Inhabited α]
theorem getD_lt (l : List α) (i : Nat) (h : i < l.length) : l.getD i default = l[i] := by
  simp [List.getD_eq_getElem?_getD, h]
theorem take_succ (l : List α) (i : Nat) (h : i < l.length) : l.take (i + 1) = l.take i ++ [l.getD i default] := by
  rw [List.take_succ_eq_append_getElem h, getD_lt l i h]
theorem win_push (l : List α) (i n : Nat) (h : i < l.length) (hn : 0 < n) : (if (win l i n).length = n then (win l i n).tail else win l i n) ++ [l.getD i default] = win l (i + 1) n := by
  rw [win_len l i n (by omega)]
  unfold win
  rw [take_succ l i h]
  rcases Nat.lt_or_ge i n with hlt | hge
  · rw [if_neg (by omega), show i - n = 0 from by omega, show i + 1 - n = 0 from by omega]; simp
  · rw [if_pos (by omega), List.tail_drop, List.drop_append_of_le_length (by simp; omega), show i + 1 - n = i - n + 1 from by omega]
theorem win_head (l : List α) (i n : Nat) (z : α) (h : i ≤ l.length) (hn : 0 < n) (hi : n ≤ i) : (win l i n).headD z = l.getD (i - n) default := by
  unfold win
  rw [List.headD_eq_head?_getD, List.head?_drop, List.getElem?_take_of_lt (by omega), getD_lt l _ (by omega), List.getElem?_eq_getElem (by omega)]
  rfl
theorem last_win (l : List α) (p q : Nat) (z : α) (hp : p ≤ l.length) (hq : q < p) : ((l.take p).drop q).getLastD z = l.getD (p - 1) default ∧ ((l.take p).drop q).dropLast = (l.take (p - 1)).drop q ∧ ((l.take p).drop q).length ≠ 0 := by
  obtain ⟨r, rfl⟩ : ∃ r, p = r + 1 := ⟨p - 1, by omega⟩
  rw [take_succ l r (by omega), List.drop_append_of_le_length (by simp; omega)]
  refine ⟨by simp, by simp, by simp⟩
end
theorem pushWI_ct {w : World} {s n i : Nat} {l : List Int} {L : List HProp} (H : Holds w (RgI s n (win l i n) :: L)) (hi : i < l.length) (hn : 0 < n) :
    CT Try.prog 31 [.pointer (some ⟨s, 0, none⟩), .int .i64 (l.getD i default)] w fun u w' => ((i < n ∧ u = .tuple #[.int .i64 (0 : Int), .bool false]) ∨ (n ≤ i ∧ u = .tuple #[.int .i64 (l.getD (i - n) default), .bool true])) ∧ Holds w' (RgI s n (win l (i + 1) n) :: L) :=
  (pushI_ct H).mono fun u w' ⟨e, H⟩ => by
    rw [win_push l i n hi hn] at H
    rw [win_len l i n (by omega)] at e
    refine ⟨?_, H⟩
    rcases Nat.lt_or_ge i n with hlt | hge
    · exact .inl ⟨hlt, by rw [e, if_neg (by omega), decide_eq_false (by omega)]⟩
    · exact .inr ⟨hge, by rw [e, if_pos (by omega), decide_eq_true (by omega), win_head l i n _ (by omega) hn hge]⟩
theorem pushWS_ct {w : World} {s n i : Nat} {l : List ByteArray} {L : List HProp} (H : Holds w (RgS s n (win l i n) :: L)) (hi : i < l.length) (hn : 0 < n) :
    CT Try.prog 38 [.pointer (some ⟨s, 0, none⟩), .string (l.getD i default)] w fun u w' => ((i < n ∧ u = .tuple #[.string ByteArray.empty, .bool false]) ∨ (n ≤ i ∧ u = .tuple #[.string (l.getD (i - n) default), .bool true])) ∧ Holds w' (RgS s n (win l (i + 1) n) :: L) :=
  (pushS_ct H).mono fun u w' ⟨e, H⟩ => by
    rw [win_push l i n hi hn] at H
    rw [win_len l i n (by omega)] at e
    refine ⟨?_, H⟩
    rcases Nat.lt_or_ge i n with hlt | hge
    · exact .inl ⟨hlt, by rw [e, if_neg (by omega), decide_eq_false (by omega)]⟩
    · exact .inr ⟨hge, by rw [e, if_pos (by omega), decide_eq_true (by omega), win_head l i n _ (by omega) hn hge]⟩
theorem popW_ct {w : World} {s n p q : Nat} {l : List Int} {L : List HProp} (H : Holds w (RgI s n ((l.take p).drop q) :: L)) (hp : p ≤ l.length) (hq : q < p) :
    CT Try.prog 29 [.pointer (some ⟨s, 0, none⟩)] w fun u w' => u = .tuple #[.int .i64 (l.getD (p - 1) default), .bool true] ∧ Holds w' (RgI s n ((l.take (p - 1)).drop q) :: L) :=
  (popI_ct H).mono fun u w' ⟨e, H⟩ => by
    obtain ⟨h1, h2, h3⟩ := last_win l p q (0 : Int) hp hq
    rw [h1, decide_eq_true h3] at e
    rw [h2] at H
    exact ⟨e, H⟩
end Go.Proofs.Ytikdblejkmaloaa
