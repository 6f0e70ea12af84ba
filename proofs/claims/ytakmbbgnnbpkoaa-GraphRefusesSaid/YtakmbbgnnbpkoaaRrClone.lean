/- A slice held against nil. No program in sight. -/
import Derived.Test.YtakmbbgnnbpkoaaRrCap
import Derived.Test.YtakmbbgnnbpkoaaRrIn
namespace Go.Rr
set_option linter.unusedVariables false
section
variable {P : Program} {N : Nat} {l : Regs} {w : World} {ty : TypeId} {x y : Operand} {t yt : TypeId}
theorem equalIn_sl {dp : Nat} {a : Option Addr} {n c : Nat} {e : TypeId} (hu : UndIs P t (.slice e)) : (Op.equalIn (dp + 1) t (.slice a n c) (.slice none 0 0)).run P w = .ok a.isNone w := by
  cases a <;> simp [Op.equalIn, hu w]
theorem Ex.eqlSl {a : Option Addr} {n c : Nat} {e : TypeId} (hu : UndIs P t (.slice e)) (e1 : ev l x = some (.slice a n c)) (e2 : ev l y = some (.slice none 0 0)) : Ex P N l (.binOp .eql t x y yt) ty w (.bool a.isNone) w :=
  Ex.eql e1 e2 (eqGuard_plain nofun nofun) (binOp_eql nofun nofun nofun nofun (by rw [equal_eq]; exact equalIn_sl hu))
theorem Ex.neqSl {a : Option Addr} {n c : Nat} {e : TypeId} (hu : UndIs P t (.slice e)) (e1 : ev l x = some (.slice a n c)) (e2 : ev l y = some (.slice none 0 0)) : Ex P N l (.binOp .neq t x y yt) ty w (.bool a.isSome) w := by
  have : (!a.isNone) = a.isSome := by cases a <;> rfl
  rw [← this]; exact Ex.neq e1 e2 (eqGuard_plain nofun nofun) (binOp_neq nofun nofun nofun nofun (by rw [equal_eq]; exact equalIn_sl hu))
end
section
variable {P : Program} {ro : Option Nat} {N : Nat} {Q : Q0} {l : Regs} {ds : List Deferred} {w w' w0 : World} {ops : Array Oper} {os : List Oper}
variable {d : Tmp} {ty : TypeId} {pos : String} {af : Array Edge} {x y : Operand} {t T yt : TypeId} {α : Type} {L : List HProp} {zv : Value} {info : TypeInfo}
/-- append(v, u...), u among the arguments. -/
theorem append_arrIn {e : α → Value} {v u : Value} {xs ys : List α} (hu : UndIs P t (.slice T)) (hI : InfoIs P T info) (hs : SizeIs P T 1) (hz : ZeroIs P T zv) (hzc : zv.oneCell' = true) (he : ∀ x, (e x).oneCell' = true)
    (hx : SlIn w0 1 (fun a => [e a]) u ys) (H : Holds w (arr T e v xs :: base w0 :: L)) (h63 : xs.length + ys.length ≤ 9223372036854775807) (hb : (xs.length + ys.length) * info.bytes ≤ 140737488355328) :
    ∃ v' w', (Builtin.append_ #[t, t] ty #[v, u]).run P w = .ok v' w' ∧ Holds w' (arr T e v' (xs ++ ys) :: base w0 :: L) := by
  have hzs : zv.cells.size = 1 := by rw [cells_one hzc]; rfl
  obtain ⟨a, c, rfl, hcell⟩ := hx
  rcases Nat.eq_zero_or_pos ys.length with h0 | h0
  · obtain rfl : ys = [] := List.length_eq_zero_iff.1 h0
    rcases arr_cases H with ⟨rfl, rfl, H1⟩ | ⟨g, cap, rest, rfl, hcap, H1⟩
    · exact ⟨_, _, append_zero (v := .slice none 0 0) hu hs rfl (Nat.le_refl _), by simpa using H⟩
    · exact ⟨_, _, append_zero (v := .slice none 0 0) hu hs rfl (by omega), by simpa using H⟩
  · obtain ⟨b, off, rfl, -, -⟩ := hcell 0 h0
    have hnews : ∀ (w1 : World) (L1 : List HProp), Holds w1 (base w0 :: L1) → ∀ j u, (ys.map e)[j]? = some u → w1.cell? ((Addr.mk b off none).add j) = some u := fun w1 L1 H1 j u hj => by
      rw [List.getElem?_map] at hj
      rcases Nat.lt_or_ge j ys.length with hjl | hjl
      · obtain ⟨b', off', hbo, -, hc⟩ := hcell j hjl
        cases hbo
        have h1 := hc 0 (by omega)
        rw [List.getElem?_eq_getElem hjl] at hj
        have h2 : w0.cell? ((Addr.mk b off none).add j) = some u := by
          rw [Addr.add_lit]
          rw [show off + j * 1 + 0 = off + j from by omega] at h1
          rw [h1]; simpa using hj
        exact H1.base_cell h2
      · rw [List.getElem?_eq_none (by omega)] at hj; cases hj
    rcases arr_cases H with ⟨rfl, rfl, H1⟩ | ⟨g, cap, rest, rfl, hcap, H1⟩
    · obtain ⟨g', cap', rest', w', hrun, hl, hcl, H3⟩ := append_none (ty := ty) hu hI hs hz hzs (news := ys.map e) (m := ys.length) (c := c) (by simp) (hnews w L H1) h0 H1 (by simpa using h63) (by simpa using hb)
      refine ⟨_, _, hrun, ?_⟩
      exact arr_mk (cap := cap') (xs := ys) (by simpa using hl) H3
    · obtain ⟨g', cap', rest', w', hrun, hl, hcl, H3⟩ := append_some (ty := ty) hu hI hs hz hzs (olds := xs.map e) (n := xs.length) (cap := cap) (m := ys.length) (c := c) (news := ys.map e) (by simp) (by simpa using hcap) (by omega) (by simp) (hnews w _ H1.swap) (by intro u hu; obtain ⟨a, _, rfl⟩ := List.mem_map.1 hu; exact he a) H1 (by simpa using h63) (by simpa using hb)
      rw [← List.map_append] at H3
      have := arr_mk (cap := cap') (xs := xs ++ ys) (by simpa using hl) H3
      rw [List.length_append] at this
      exact ⟨_, _, hrun, this⟩
theorem O.appendIn {e : α → Value} {v u : Value} {xs ys : List α} {ats : Array TypeId} {bt : Nat} (hu : UndIs P t (.slice T)) (hI : InfoIs P T info) (hbt : info.bytes = bt) (hs : SizeIs P T 1) (hz : ZeroIs P T zv)
    (e1 : ev l x = some v) (e2 : ev l y = some u)
    (h : ∀ v' w', v'.oneCell' = true → Holds w' (arr T e v' (xs ++ ys) :: base w0 :: L) → O P ro N ops os Q ((d, v') :: l) ds w')
    (hx : SlIn w0 1 (fun a => [e a]) u ys := by assumption) (H : Holds w (arr T e v xs :: base w0 :: L) := by exact Holds.to (by assumption))
    (h63 : xs.length + ys.length ≤ 9223372036854775807 := by first | omega | (simp only [List.length_cons, List.length_nil]; omega)) (hb : (xs.length + ys.length) * bt ≤ 140737488355328 := by first | omega | (simp only [List.length_cons, List.length_nil]; omega))
    (ht : ats = #[t, t] := by rfl) (hzc : zv.oneCell' = true := by rfl) (he : ∀ x, (e x).oneCell' = true := by intros; rfl) (hd : Nat.blt d N = true := by rfl) :
    O P ro N ops (⟨some d, .call ⟨.builtin .append, #[x, y], ats⟩, ty, pos, af, none⟩ :: os) Q l ds w := by
  subst ht hbt
  obtain ⟨v', w', h1, h2⟩ := append_arrIn (P := P) (ty := ty) hu hI hs hz hzc he hx H h63 hb
  refine O.val nofun (by simpa using hd) (fun a ha => ?_) (h _ _ (arr_one h2) h2)
  simp only [execOp, resolve, invoke, builtin, List.map_toArray, List.map_cons, List.map_nil, ha.eval e1, ha.eval e2, Sem.run_bind, Sem.run_pure, Result.andThen_ok, h1]
end
end Go.Rr
