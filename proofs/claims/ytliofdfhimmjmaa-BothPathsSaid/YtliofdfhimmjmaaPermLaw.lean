/- Orders of vertices, plainly: what is an order, its inverse, the order of a number, the number of an order. No program in sight. -/
import Derived.Test.YtliofdfhimmjmaaRrBase
namespace Go.Proofs.Ytliofdfhimmjmaa
set_option linter.unusedVariables false
theorem take_get (xs : List Int) (i : Nat) (h : i < xs.length) : xs.take (i + 1) = xs.take i ++ [xs.getD i default]:=by
  rw [List.take_succ_eq_append_getElem h]; simp [List.getD_eq_getElem?_getD,h]
/-- 0, 1, .. -/
def rng (n : Nat) : List Int:=(List.range n).map Int.ofNat
theorem rng_len (n : Nat) : (rng n).length = n:=by simp [rng]
theorem mem_rng {n : Nat} {x : Int} : x ∈ rng n ↔ 0 ≤ x ∧ x < n:=by
  unfold rng; rw [List.mem_map]
  constructor
  · rintro ⟨a,ha,rfl⟩
    rw [List.mem_range] at ha
    exact ⟨Int.natCast_nonneg a,Int.ofNat_lt.2 ha⟩
  · rintro ⟨h0,h1⟩
    exact ⟨x.toNat,List.mem_range.2 (by omega),Int.toNat_of_nonneg h0⟩
/-- Is it an order? -/
def RightP (l : List Int) : Prop:=l.length ≤ 24 ∧ (∀ x ∈ l,0 ≤ x ∧ x < l.length) ∧ l.Nodup
instance {l : List Int} : Decidable (RightP l):=by unfold RightP; infer_instance
theorem RightP.sur {l : List Int} (h : RightP l) {r : Int} (h0 : 0 ≤ r) (h1 : r < l.length) : r ∈ l:=by
  refine Decidable.byContradiction fun hr=>?_
  have:=List.Nodup.length_le_of_subset (l₁:=r::l) (l₂:=rng l.length) (List.nodup_cons.2 ⟨hr,h.2.2⟩) (by
    intro x hx
    rcases List.mem_cons.1 hx with rfl|hx
    · exact mem_rng.2 ⟨h0,h1⟩
    · exact mem_rng.2 (h.2.1 x hx))
  rw [rng_len,List.length_cons] at this
  omega
theorem RightP.cnt {l : List Int} (h : RightP l) {r : Int} (h0 : 0 ≤ r) (h1 : r < l.length) : l.count r = 1:=by
  rw [h.2.2.count,if_pos (h.sur h0 h1)]
/-! ### Drawn by a number -/
/-- What is left, and the number, behind i draws. -/
def dr (n a : Nat) : Nat → List Int × Nat
  | 0=>(rng n,a)
  | i + 1=>((dr n a i).1.eraseIdx ((dr n a i).2 % (dr n a i).1.length),(dr n a i).2 / (dr n a i).1.length)
def drAt (n a i : Nat) : Nat:=(dr n a i).2 % (dr n a i).1.length
/-- The vertex that is drawn then. -/
def drV (n a i : Nat) : Int:=(dr n a i).1.getD (drAt n a i) default
def drawn (n a : Nat) : List Int:=(List.range n).map (drV n a)
end Go.Proofs.Ytliofdfhimmjmaa
