import Derived.Test.YtliofdfhimmjmaaGraphLaw
import Derived.Test.YtliofdfhimmjmaaIns2
import Derived.Test.YtliofdfhimmjmaaClone
import Derived.Test.YtliofdfhimmjmaaRrBase
namespace Go.Proofs.Ytliofdfhimmjmaa
open Go.Rr Go Gr
set_option linter.unusedVariables false
def gf (s : St) (av : Value) (k most : Int) : Nat → Value := fun q => if q < 320 then slc (s (q / 5)) (q % 5) else if q = 320 then av else if q = 321 then .int .i64 k else .int .i64 most
def gcel (g : Nat) (s : St) (av : Value) (k most : Int) : HProp := cel g 93 323 (gf s av k most)
theorem slc_one (x : Sl) (k : Nat) : (slc x k).oneCell' = true := by unfold slc; split <;> rfl
theorem gf_one {s : St} {av : Value} {k most : Int} (h : av.oneCell' = true) (q : Nat) : (gf s av k most q).oneCell' = true := by
  unfold gf
  split
  · exact slc_one _ _
  · split
    · exact h
    · split <;> rfl
theorem gf_sl {s : St} {av : Value} {k most : Int} {i j : Nat} (hi : i < 64) (hj : j < 5) : gf s av k most (i * 5 + j) = slc (s i) j := by
  unfold gf
  rw [if_pos (by omega), show (i * 5 + j) / 5 = i by omega, show (i * 5 + j) % 5 = j by omega]
theorem gf_congr {s s' : St} {av : Value} {k most : Int} (h : ∀ i, i < 64 → s i = s' i) : ∀ q, q < 323 → gf s av k most q = gf s' av k most q := fun q hq => by
  unfold gf
  split
  · rw [h _ (by omega)]
  · rfl
section
variable {P : Program} {ro : Option Nat} {N : Nat} {Q : Q0} {l : Regs} {ds : List Deferred} {w w' : World} {ops : Array Oper} {os : List Oper}
variable {d : Tmp} {ty : TypeId} {pos : String} {af : Array Edge} {x y : Operand} {t T yt : TypeId} {L : List HProp} {s : St} {av : Value} {c most : Int} {g : Nat}
theorem Ex.loadG1 {k : Nat} {i : Int} (ht : AggIs P t false) (e1 : ev l x = some (.pointer (some ⟨g, 0 + i.toNat * 5 + k, none⟩))) (H : Holds w (gcel g s av c most :: L) := by exact Holds.to (by assumption)) (h0 : 0 ≤ i := by first | assumption | omega) (h1 : i < 64 := by first | assumption | omega) (hk : k < 5 := by decide) :
    Ex P N l (.load t x) ty w (slc (s i.toNat) k) w := Ex.loadC ht e1 H (by omega) (by rw [Nat.zero_add]; exact gf_sl (by omega) hk)
theorem Ex.loadG2 {j k : Nat} {i : Int} (ht : AggIs P t false) (e1 : ev l x = some (.pointer (some ⟨g, 0 + i.toNat * 5 + j + k, none⟩))) (H : Holds w (gcel g s av c most :: L) := by exact Holds.to (by assumption)) (h0 : 0 ≤ i := by first | assumption | omega) (h1 : i < 64 := by first | assumption | omega) (hk : j + k < 5 := by decide) :
    Ex P N l (.load t x) ty w (slc (s i.toNat) (j + k)) w := Ex.loadC ht e1 H (by omega) (by rw [Nat.zero_add, Nat.add_assoc]; exact gf_sl (by omega) hk)
theorem Ex.loadAt (ht : AggIs P t false) (e1 : ev l x = some (.pointer (some ⟨g, 320, none⟩))) (H : Holds w (gcel g s av c most :: L) := by exact Holds.to (by assumption)) : Ex P N l (.load t x) ty w av w := Ex.loadC ht e1 H (by omega) rfl
theorem Ex.loadCn (ht : AggIs P t false) (e1 : ev l x = some (.pointer (some ⟨g, 321, none⟩))) (H : Holds w (gcel g s av c most :: L) := by exact Holds.to (by assumption)) : Ex P N l (.load t x) ty w (.int .i64 c) w := Ex.loadC ht e1 H (by omega) rfl
theorem Ex.loadMo (ht : AggIs P t false) (e1 : ev l x = some (.pointer (some ⟨g, 322, none⟩))) (H : Holds w (gcel g s av c most :: L) := by exact Holds.to (by assumption)) : Ex P N l (.load t x) ty w (.int .i64 most) w := Ex.loadC ht e1 H (by omega) rfl
/-- An arc, out of its place. -/
theorem Ex.loadArc {k : Nat} {i : Int} (ht : AggIs P t true) (hz : SizeIs P t 4) (e1 : ev l x = some (.pointer (some ⟨g, 0 + i.toNat * 5 + k, none⟩))) (H : Holds w (gcel g s av c most :: L) := by exact Holds.to (by assumption)) (h0 : 0 ≤ i := by first | assumption | omega) (h1 : i < 64 := by first | assumption | omega) (hk : k = 0 := by rfl) :
    Ex P N l (.load t x) ty w (s i.toNat).a.val w := by
  subst hk
  have := Ex.loadAggC (N := N) (m := 4) (ty := ty) ht hz e1 H (by omega)
  rw [show cval 4 (fun k => gf s av c most (0 + i.toNat * 5 + 0 + k)) = (s i.toNat).a.val from ?_] at this
  · exact this
  · unfold cval
    rw [cs_congr (g := fun k => slc (s i.toNat) k) (fun k hk => by rw [Nat.zero_add, Nat.add_zero]; exact gf_sl (by omega) (by omega))]
    rfl
theorem O.storeCn {v : Int} (hs : SizeIs P t 1) (e1 : ev l x = some (.pointer (some ⟨g, 321, none⟩))) (e2 : ev l y = some (.int .i64 v)) (hk : ∀ w', Holds w' (gcel g s av v most :: L) → O P ro N ops os Q l ds w')
    (H : Holds w (gcel g s av c most :: L) := by exact Holds.to (by assumption)) : O P ro N ops (⟨none, .store t x y, ty, pos, af, none⟩ :: os) Q l ds w :=
  O.storeC hs e1 e2 rfl H (by omega) fun w' H' => hk w' (H'.celTo fun q hq => by
    unfold gf
    by_cases e : q = 321
    · subst e; rfl
    · rw [if_neg e]
      by_cases h1 : q < 320
      · rw [if_pos h1, if_pos h1]
      · rw [if_neg h1, if_neg h1]
        by_cases h2 : q = 320
        · rw [if_pos h2, if_pos h2]
        · rw [if_neg h2, if_neg h2, if_neg e, if_neg e])
/-- A place, anew. -/
theorem O.storeSl {i q : Nat} {z : Sl} {vs : Array Value} (hs : SizeIs P t 5) (e1 : ev l x = some (.pointer (some ⟨g, q, none⟩))) (e2 : ev l y = some (.agg vs)) (hz : vs = #[.int .i64 z.a.t, .int .i64 z.a.h, .int .i64 z.a.w, .bool z.a.cl, .bool z.tk]) (hq : q = i * 5) (hi : i < 64)
    (hk : ∀ w', Holds w' (gcel g (upS s i z) av c most :: L) → O P ro N ops os Q l ds w') (H : Holds w (gcel g s av c most :: L) := by exact Holds.to (by assumption)) : O P ro N ops (⟨none, .store t x y, ty, pos, af, none⟩ :: os) Q l ds w := by
  subst hz hq
  refine O.storeAggC hs e1 e2 rfl (fun v hv => ?_) H (by omega) fun w' H' => hk w' (H'.celTo fun q hq => ?_)
  · simp at hv; rcases hv with rfl | rfl | rfl | rfl | rfl <;> rfl
  · by_cases h1 : q < 320
    · unfold gf
      rw [if_pos h1, if_pos h1]
      by_cases h2 : q / 5 = i
      · rw [if_pos (by omega), h2, upS_same]
        have h3 : q - i * 5 = q % 5 := by omega
        rw [h3]
        have : q % 5 = 0 ∨ q % 5 = 1 ∨ q % 5 = 2 ∨ q % 5 = 3 ∨ q % 5 = 4 := by omega
        rcases this with e | e | e | e | e <;> rw [e] <;> rfl
      · rw [if_neg (by omega), upS_other h2]
    · rw [if_neg (by omega)]
      unfold gf
      rw [if_neg h1, if_neg h1]
/-- One cell of a place. -/
theorem O.storeSl1 {i q k : Nat} {z : Sl} {v : Value} (hs : SizeIs P t 1) (e1 : ev l x = some (.pointer (some ⟨g, q, none⟩))) (e2 : ev l y = some v) (hq : q = i * 5 + k) (hk5 : k < 5) (hi : i < 64) (hv : slc z k = v) (ho : ∀ j, j < 5 → j ≠ k → slc z j = slc (s i) j)
    (hk : ∀ w', Holds w' (gcel g (upS s i z) av c most :: L) → O P ro N ops os Q l ds w') (H : Holds w (gcel g s av c most :: L) := by exact Holds.to (by assumption)) : O P ro N ops (⟨none, .store t x y, ty, pos, af, none⟩ :: os) Q l ds w := by
  subst hv hq
  refine O.storeC hs e1 e2 (slc_one _ _) H (by omega) fun w' H' => hk w' (H'.celTo fun q hq => ?_)
  by_cases h1 : q < 320
  · unfold gf
    rw [if_pos h1, if_pos h1]
    by_cases h2 : q / 5 = i
    · rw [h2, upS_same]
      by_cases h3 : q % 5 = k
      · rw [if_pos (by omega), h3]
      · rw [if_neg (by omega)]; exact (ho _ (by omega) h3).symm
    · rw [if_neg (by omega), upS_other h2]
  · rw [if_neg (by omega)]
    unfold gf
    rw [if_neg h1, if_neg h1]
/-! ### The lists at the vertices -/
def atc (ab n : Nat) (es : Nat → Value × Value) : HProp := hex fun m => hex fun f => star [cel ab 96 m f, hp (2 * n ≤ m ∧ ∀ i, i < n → f (2 * i) = (es i).1 ∧ f (2 * i + 1) = (es i).2)]
theorem atc_open {ab n : Nat} {es : Nat → Value × Value} : Holds w (atc ab n es :: L) ↔ ∃ m f, (2 * n ≤ m ∧ ∀ i, i < n → f (2 * i) = (es i).1 ∧ f (2 * i + 1) = (es i).2) ∧ Holds w (cel ab 96 m f :: L) := by
  unfold atc
  simp only [Holds.hex, Holds.star, List.cons_append, List.nil_append]
  constructor
  · rintro ⟨m, f, H⟩
    obtain ⟨h, H⟩ := Holds.hp.1 H.swap
    exact ⟨m, f, h, H⟩
  · rintro ⟨m, f, h, H⟩
    exact ⟨m, f, Holds.swap (Holds.hp.2 ⟨h, H⟩)⟩
theorem Ex.loadE0 {ab n : Nat} {es : Nat → Value × Value} {i : Int} (ht : AggIs P t false) (e1 : ev l x = some (.pointer (some ⟨ab, 0 + i.toNat * 2 + 0, none⟩))) (H : Holds w (atc ab n es :: L) := by exact Holds.to (by assumption)) (h0 : 0 ≤ i := by first | assumption | omega) (h1 : i.toNat < n := by first | assumption | omega) :
    Ex P N l (.load t x) ty w (es i.toNat).1 w := by
  obtain ⟨m, f, h, H⟩ := atc_open.1 H
  exact Ex.loadC ht e1 H (by omega) (by rw [← (h.2 _ h1).1]; congr 1; omega)
theorem Ex.loadE1 {ab n : Nat} {es : Nat → Value × Value} {i : Int} (ht : AggIs P t false) (e1 : ev l x = some (.pointer (some ⟨ab, 0 + i.toNat * 2 + 1, none⟩))) (H : Holds w (atc ab n es :: L) := by exact Holds.to (by assumption)) (h0 : 0 ≤ i := by first | assumption | omega) (h1 : i.toNat < n := by first | assumption | omega) :
    Ex P N l (.load t x) ty w (es i.toNat).2 w := by
  obtain ⟨m, f, h, H⟩ := atc_open.1 H
  exact Ex.loadC ht e1 H (by omega) (by rw [← (h.2 _ h1).2]; congr 1; omega)
def upE (es : Nat → Value × Value) (i : Nat) (p : Value × Value) : Nat → Value × Value := fun k => if k = i then p else es k
theorem atc_0 {n : Nat} {es : Nat → Value × Value} {m i : Nat} {f : Nat → Value} {v : Value} (h : 2 * n ≤ m ∧ ∀ i, i < n → f (2 * i) = (es i).1 ∧ f (2 * i + 1) = (es i).2) :
    2 * n ≤ m ∧ ∀ k, k < n → (fun q => if q = 0 + i * 2 + 0 then v else f q) (2 * k) = (upE es i (v, (es i).2) k).1 ∧ (fun q => if q = 0 + i * 2 + 0 then v else f q) (2 * k + 1) = (upE es i (v, (es i).2) k).2 := by
  refine ⟨h.1, fun k hk => ?_⟩
  have hk2 := h.2 k hk
  unfold upE
  dsimp only
  by_cases e : k = i
  · subst e
    rw [if_pos rfl]
    exact ⟨if_pos (by omega), (if_neg (by omega)).trans hk2.2⟩
  · rw [if_neg e, if_neg (by omega), if_neg (by omega)]
    exact hk2
theorem atc_1 {n : Nat} {es : Nat → Value × Value} {m i : Nat} {f : Nat → Value} {v : Value} (h : 2 * n ≤ m ∧ ∀ i, i < n → f (2 * i) = (es i).1 ∧ f (2 * i + 1) = (es i).2) :
    2 * n ≤ m ∧ ∀ k, k < n → (fun q => if q = 0 + i * 2 + 1 then v else f q) (2 * k) = (upE es i ((es i).1, v) k).1 ∧ (fun q => if q = 0 + i * 2 + 1 then v else f q) (2 * k + 1) = (upE es i ((es i).1, v) k).2 := by
  refine ⟨h.1, fun k hk => ?_⟩
  have hk2 := h.2 k hk
  unfold upE
  dsimp only
  by_cases e : k = i
  · subst e
    rw [if_pos rfl]
    exact ⟨(if_neg (by omega)).trans hk2.1, if_pos (by omega)⟩
  · rw [if_neg e, if_neg (by omega), if_neg (by omega)]
    exact hk2
theorem O.storeE0 {ab n : Nat} {es : Nat → Value × Value} {i : Int} {v : Value} (hs : SizeIs P t 1) (e1 : ev l x = some (.pointer (some ⟨ab, 0 + i.toNat * 2 + 0, none⟩))) (e2 : ev l y = some v) (hv : v.oneCell' = true)
    (hk : ∀ w', Holds w' (atc ab n (upE es i.toNat (v, (es i.toNat).2)) :: L) → O P ro N ops os Q l ds w') (H : Holds w (atc ab n es :: L) := by exact Holds.to (by assumption)) (h0 : 0 ≤ i := by first | assumption | omega) (h1 : i.toNat < n := by first | assumption | omega) :
    O P ro N ops (⟨none, .store t x y, ty, pos, af, none⟩ :: os) Q l ds w := by
  obtain ⟨m, f, h, H⟩ := atc_open.1 H
  refine O.storeC hs e1 e2 hv H (by omega) fun w' H' => hk w' (atc_open.2 ⟨m, _, atc_0 h, H'⟩)
theorem O.storeE1 {ab n : Nat} {es : Nat → Value × Value} {i : Int} {v : Value} (hs : SizeIs P t 1) (e1 : ev l x = some (.pointer (some ⟨ab, 0 + i.toNat * 2 + 1, none⟩))) (e2 : ev l y = some v) (hv : v.oneCell' = true)
    (hk : ∀ w', Holds w' (atc ab n (upE es i.toNat ((es i.toNat).1, v)) :: L) → O P ro N ops os Q l ds w') (H : Holds w (atc ab n es :: L) := by exact Holds.to (by assumption)) (h0 : 0 ≤ i := by first | assumption | omega) (h1 : i.toNat < n := by first | assumption | omega) :
    O P ro N ops (⟨none, .store t x y, ty, pos, af, none⟩ :: os) Q l ds w := by
  obtain ⟨m, f, h, H⟩ := atc_open.1 H
  refine O.storeC hs e1 e2 hv H (by omega) fun w' H' => hk w' (atc_open.2 ⟨m, _, atc_1 h, H'⟩)
end
def endF (es : Nat → Value × Value) (so si : St) (v : Nat) : HProp := star [arr 3 (Value.int .i64) (es v).1 (outI so v), arr 3 (Value.int .i64) (es v).2 (inI si v)]
theorem endF_open {w : World} {es : Nat → Value × Value} {so si : St} {v : Nat} {L : List HProp} : Holds w (endF es so si v :: L) ↔ Holds w (arr 3 (Value.int .i64) (es v).1 (outI so v) :: arr 3 (Value.int .i64) (es v).2 (inI si v) :: L) := by
  unfold endF
  simp only [Holds.star, List.cons_append, List.nil_append]
abbrev avV (ab cap : Nat) (n : Int) : Value := .slice (some ⟨ab, 0, none⟩) n.toNat cap
/-- A graph, laid open: its places, the lists' slices, the lists. -/
def GhO (g ab cap : Nat) (es : Nat → Value × Value) (n most k : Int) (s so si : St) : HProp := star [gcel g s (avV ab cap n) k most, atc ab n.toNat es, big (endF es so si) (List.range n.toNat)]
theorem ghO_open {w : World} {g ab cap : Nat} {es : Nat → Value × Value} {n most k : Int} {s so si : St} {L : List HProp} : Holds w (GhO g ab cap es n most k s so si :: L) ↔ Holds w (gcel g s (avV ab cap n) k most :: atc ab n.toNat es :: big (endF es so si) (List.range n.toNat) :: L) := by
  unfold GhO
  simp only [Holds.star, List.cons_append, List.nil_append]
/-- A graph. -/
def Gh (g : Nat) (n most : Int) (s : St) : HProp := hex fun ab => hex fun cap => hex fun es => GhO g ab cap es n most (cnt s) s s s
theorem gh_open {w : World} {g : Nat} {n most : Int} {s : St} {L : List HProp} : Holds w (Gh g n most s :: L) ↔ ∃ ab cap es, Holds w (GhO g ab cap es n most (cnt s) s s s :: L) := by
  unfold Gh
  simp only [Holds.hex]
theorem gh_congr {g : Nat} {n most : Int} {s s' : St} (h : s = s') : Gh g n most s = Gh g n most s' := by rw [h]
end Go.Proofs.Ytliofdfhimmjmaa
