/- What has been done, oldest first, with the state ahead of each; plainly. No program in sight. -/
import Derived.Test.YtakmbbgnnbpkoaaUndoLaw
namespace Go.Proofs.Ytakmbbgnnbpkoaa
open Go.Rr Go Gr
set_option linter.unusedVariables false
/-- s is what the changes h made of the states ahead of them. -/
inductive Chain (n most : Int) : St → List (OpM × St) → Prop
  | nil (s : St) : Chain n most s []
  | snoc {s0 : St} {op : OpM} {h : List (OpM × St)} : GOk n most s0 → cnt s0 ≤ most → opC n most s0 op = 0 → Chain n most s0 h → Chain n most (opS n most s0 op) (h ++ [(op, s0)])
theorem Chain.tail {n most : Int} {s : St} {h : List (OpM × St)} (H : Chain n most s h) : Chain n most s h.tail := by
  induction H with
  | nil s => exact .nil s
  | @snoc s0 op h hg hc h0 _ ih =>
    cases h with
    | nil => exact .nil _
    | cons x h => exact .snoc hg hc h0 ih
theorem Chain.last {n most : Int} {s : St} {h : List (OpM × St)} {x : OpM × St} (H : Chain n most s (h ++ [x])) : GOk n most x.2 ∧ cnt x.2 ≤ most ∧ opC n most x.2 x.1 = 0 ∧ s = opS n most x.2 x.1 ∧ Chain n most x.2 h := by
  generalize e : h ++ [x] = l at H
  cases H with
  | nil s => simp at e
  | @snoc s0 op h' hg hc h0 hh =>
    obtain ⟨rfl, e2⟩ := List.append_inj' e rfl
    obtain rfl : x = (op, s0) := by simpa using e2
    exact ⟨hg, hc, h0, rfl, hh⟩
abbrev trP (h : List (OpM × St)) : List (OpM × Arc) := h.map fun x => (x.1, wasA x.2 x.1)
abbrev trD (h : List (OpM × St)) : List (St × Arc) := h.map fun x => (x.2, wasA x.2 x.1)
def trPush {α : Type} (k : Nat) (h : List α) (x : α) : List α := (if h.length = k then h.tail else h) ++ [x]
theorem trPush_len {α : Type} {k : Nat} {h : List α} {x : α} (hk : 1 ≤ k) (hl : h.length ≤ k) : (trPush k h x).length ≤ k := by
  unfold trPush; split
  · rename_i e; rw [List.length_append, List.length_tail]; simp only [List.length_cons, List.length_nil]; omega
  · rw [List.length_append]; simp only [List.length_cons, List.length_nil]; omega
theorem trPush_P {k : Nat} {h : List (OpM × St)} {op : OpM} {s : St} : trP (trPush k h (op, s)) = hsP k (trP h) (op, wasA s op) := by
  unfold trPush hsP trP
  rw [List.length_map]
  split <;> simp [List.map_tail]
/-- What the document keeps. -/
def hsD {α : Type} (k : Nat) (h : List α) (x : α) : List α := if k < h.length + 1 then (h ++ [x]).drop 1 else h ++ [x]
theorem hsD_eq {α : Type} {k : Nat} {h : List α} {x : α} (hk : 1 ≤ k) (hl : h.length ≤ k) : hsD k h x = trPush k h x := by
  unfold hsD trPush
  by_cases e : h.length = k
  · rw [if_pos (by omega), if_pos e]
    cases h with
    | nil => simp at e; omega
    | cons y h => rfl
  · rw [if_neg (by omega), if_neg e]
theorem hsD_map {α β : Type} (f : α → β) {k : Nat} {h : List α} {x : α} : (hsD k h x).map f = hsD k (h.map f) (f x) := by
  unfold hsD
  rw [List.length_map]
  split <;> simp [List.map_drop]
theorem chain_push {n most : Int} {s : St} {k : Nat} {h : List (OpM × St)} {op : OpM} (hg : GOk n most s) (hc : cnt s ≤ most) (h0 : opC n most s op = 0) (H : Chain n most s h) : Chain n most (opS n most s op) (trPush k h (op, s)) := by
  unfold trPush; split
  · exact .snoc hg hc h0 H.tail
  · exact .snoc hg hc h0 H
/-- A book's history: what holds of it. -/
structure HOk (n most : Int) (k : Nat) (s : St) (h : List (OpM × St)) : Prop where
  ok : GOk n most s
  le : cnt s ≤ most
  room : 1 ≤ k
  len : h.length ≤ k
  ch : Chain n most s h
/-- The state, and the history, behind an operation. -/
def hDo (n most : Int) (k : Nat) (x : St × List (OpM × St)) (op : OpM) : St × List (OpM × St) := if opC n most x.1 op = 0 then (opS n most x.1 op, trPush k x.2 (op, x.1)) else x
theorem hok_do {n most : Int} {k : Nat} {x : St × List (OpM × St)} (op : OpM) (H : HOk n most k x.1 x.2) : HOk n most k (hDo n most k x op).1 (hDo n most k x op).2 := by
  unfold hDo; split
  · rename_i e
    exact ⟨ok_op H.ok op, op_cnt op H.le, H.room, trPush_len H.room H.len, chain_push H.ok H.le e H.ch⟩
  · exact H
theorem hDo_1 {n most : Int} {k : Nat} {x : St × List (OpM × St)} {op : OpM} : (hDo n most k x op).1 = opS n most x.1 op := by
  unfold hDo; split
  · rfl
  · rename_i e; exact (op_refused e).symm
theorem hDo_P {n most : Int} {k : Nat} {x : St × List (OpM × St)} {op : OpM} : trP (hDo n most k x op).2 = if opC n most x.1 op = 0 then hsP k (trP x.2) (op, wasA x.1 op) else trP x.2 := by
  unfold hDo; split
  · exact trPush_P
  · rfl
theorem hDo_D {n most : Int} {k : Nat} {x : St × List (OpM × St)} {op : OpM} (H : HOk n most k x.1 x.2) : trD (hDo n most k x op).2 = if opC n most x.1 op = 0 then hsD k (trD x.2) (x.1, wasA x.1 op) else trD x.2 := by
  unfold hDo; split
  · rw [← hsD_eq H.room H.len]; exact hsD_map (fun y : OpM × St => (y.2, wasA y.2 y.1))
  · rfl
theorem hok_un {n most : Int} {k : Nat} {s : St} {h : List (OpM × St)} {x : OpM × St} (H : HOk n most k s (h ++ [x])) : HOk n most k x.2 h ∧ unS n most s x.1 (wasA x.2 x.1) = x.2 := by
  obtain ⟨h1, h2, h3, rfl, h5⟩ := H.ch.last
  have := H.len
  rw [List.length_append] at this
  exact ⟨⟨h1, h2, H.room, by omega, h5⟩, op_back h1 h2 h3⟩
/-- The state ahead of the first of some changes. -/
def bot (s : St) (u : List (OpM × St)) : St := match u with
  | [] => s
  | x :: _ => x.2
theorem bot_push (s s' : St) (u : List (OpM × St)) (op : OpM) : bot s' (u ++ [(op, s)]) = bot s u := by cases u <;> rfl
theorem bot_pop (s : St) (u : List (OpM × St)) (x : OpM × St) : bot s (u ++ [x]) = bot x.2 u := by cases u <;> rfl
theorem tnd_comm (s s' : St) (a : Arc) : tnd s s' a = tnd s' s a := by
  unfold tnd
  congr 1
  refine decide_eq_decide.2 (not_congr ⟨fun h => ⟨h.1.symm, h.2.symm⟩, fun h => ⟨h.1.symm, h.2.symm⟩⟩)
/-- The arc of a change's place, there ahead of it or behind it. -/
theorem wasA_doc {n most : Int} {s : St} {op : OpM} (h : opC n most s op = 0) (hth : ¬ thB s op.f_A = true) : arcQ (opS n most s op) op.f_A = wasA s op := by
  rw [wasA_no hth]
  have hk : op.f_Kind = 1 := by
    by_cases h1 : op.f_Kind = 1
    · exact h1
    · exfalso; apply hth
      unfold opC at h
      rw [if_neg h1] at h
      by_cases h2 : op.f_Kind = 2
      · rw [if_pos h2] at h; exact (thB_of h).1
      · rw [if_neg h2] at h
        by_cases h3 : op.f_Kind = 3
        · rw [if_pos h3] at h
          unfold turnC at h
          by_cases e : thC s op.f_A = 0
          · exact (thB_of e).1
          · rw [if_neg e] at h; exact absurd h e
        · rw [if_neg h3] at h
          by_cases h4 : op.f_Kind = 4
          · rw [if_pos h4] at h
            unfold turnC at h
            by_cases e : thC s op.f_A = 0
            · exact (thB_of e).1
            · rw [if_neg e] at h; exact absurd h e
          · rw [if_neg h4] at h
            by_cases h5 : op.f_Kind = 5
            · rw [if_pos h5] at h; exact (thB_of (thC_zero.2 (weighC_zero.1 h).2)).1
            · rw [if_neg h5] at h; exact absurd h (by decide)
  unfold opC at h
  unfold opS
  rw [if_pos hk] at h ⊢
  have hp := (insC_zero.1 h).1.1
  unfold insS arcQ
  rw [if_pos h, if_pos hp]
  unfold upS
  rw [if_pos rfl]
end Go.Proofs.Ytakmbbgnnbpkoaa
