/- A cut of a slice moved down within it, and what is left over cleared (slices.Delete). No program in sight. -/
import Derived.Test.YtakmbbgnnbpkoaaRrCut
namespace Go.Rr
set_option linter.unusedVariables false
section
variable {P : Program} {ro : Option Nat} {N : Nat} {Q : Q0} {l : Regs} {ds : List Deferred} {w w' : World} {ops : Array Oper} {os : List Oper}
variable {d : Tmp} {ty : TypeId} {pos : String} {af : Array Edge} {x y z u : Operand} {t T : TypeId} {α : Type} {L : List HProp} {info : TypeInfo} {zv : Value} {k k2 k3 : IntKind} {e : α → Value} {xs : List α} {rest : List Value}
def cut3 (a : Option Addr) (lo hi mx sz : Nat) : Value := .slice (if mx = lo then a else a.map (·.add (lo * sz))) (hi - lo) (mx - lo)
theorem Ex.slice3N {n cap sz : Nat} {a : Option Addr} {i j m : Int} (hu : UndIs P t (.slice T)) (hs : SizeIs P T sz) (e1 : ev l x = some (.slice a n cap)) (e2 : ev l y = some (.int k i)) (e3 : ev l z = some (.int k2 j)) (e4 : ev l u = some (.int k3 m)) (h0 : 0 ≤ i := by omega) (h1 : i ≤ j := by omega) (h2 : j ≤ m := by omega) (h3 : m ≤ cap := by omega) :
    Ex P N l (.slice t x (some y) (some z) (some u)) ty w (cut3 a i.toNat j.toNat m.toNat sz) w :=
  ⟨nofun, fun _ _ _ r hr => by
    have hj : 0 ≤ j := by omega
    have hm : 0 ≤ m := by omega
    simp [execOp, Instr.sliceAt, Instr.slice, Instr.sliceBounds, Instr.sliceBound, hr.eval e1, hr.eval e2, hr.eval e3, hr.eval e4, asIntOf, hu w, hs w, h0, h1, h2, h3, hj, hm, cut3, show max j 0 = j by omega, show max m 0 = m by omega]⟩
theorem Ex.sliceLHN {n cap sz : Nat} {a : Option Addr} {i j : Int} (hu : UndIs P t (.slice T)) (hs : SizeIs P T sz) (e1 : ev l x = some (.slice a n cap)) (e2 : ev l y = some (.int k i)) (e3 : ev l z = some (.int k2 j)) (h0 : 0 ≤ i := by omega) (h1 : i ≤ j := by omega) (h3 : j ≤ cap := by omega) :
    Ex P N l (.slice t x (some y) (some z) none) ty w (cut3 a i.toNat j.toNat cap sz) w :=
  ⟨nofun, fun _ _ _ r hr => by
    have hj : 0 ≤ j := by omega
    simp [execOp, Instr.sliceAt, Instr.slice, Instr.sliceBounds, Instr.sliceBound, hr.eval e1, hr.eval e2, hr.eval e3, asIntOf, hu w, hs w, h0, h1, h3, hj, cut3, show max j 0 = j by omega]⟩
theorem append_self {b n cap i j : Nat} (hu : UndIs P t (.slice T)) (hs : SizeIs P T 1) (he : ∀ x, (e x).oneCell' = true) (hn : n = xs.length) (hr : n + rest.length = cap) (hij : i ≤ j) (hjn : j ≤ n)
    (H : Holds w (pt b (.cells (xs.map e ++ rest).toArray T (0, 0)) :: L)) :
    ∃ w', (Builtin.append_ #[t, t] ty #[.slice (some ⟨b, 0, none⟩) i cap, cutV (.slice (some ⟨b, 0, none⟩) n cap) j 1]).run P w = .ok (.slice (some ⟨b, 0, none⟩) (i + (n - j)) cap) w' ∧
      Holds w' (pt b (.cells ((xs.take i ++ xs.drop j).map e ++ (xs.map e ++ rest).drop (i + (n - j))).toArray T (0, 0)) :: L) := by
  subst hn
  rcases Nat.eq_zero_or_pos (xs.length - j) with h0 | h0
  · refine ⟨w, ?_, ?_⟩
    · rw [h0]; exact append_zero (v := .slice none 0 0) hu hs h0 (by omega)
    · have hd : xs.drop j = [] := List.drop_eq_nil_of_le (by omega)
      rw [hd, h0, List.append_nil, Nat.add_zero, List.map_take]
      have : List.take i (List.map e xs) ++ List.drop i (List.map e xs ++ rest) = List.map e xs ++ rest := by
        rw [← List.take_append_of_le_length (l₂ := rest) (by simp; omega), List.take_append_drop]
      rw [this]; exact H
  · have hc : ¬ cap = j := by omega
    have hnews : ∀ q u, ((xs.drop j).map e)[q]? = some u → w.cell? ((Addr.mk b j none).add q) = some u := fun q u h => pt_cells H j q u (by rw [List.map_drop] at h; exact h)
    have hfc := run_firstCells_some (P := P) w 1 (xs.length - j) ⟨b, j, none⟩ (xs.length - j) (cap - j) ((xs.drop j).map e) (by simp) hnews
    obtain ⟨w', hst, H'⟩ := storeCells_list (P := P) (vs := (xs.drop j).map e) (xs.map e ++ rest) (by intro v hv; obtain ⟨a, _, rfl⟩ := List.mem_map.1 hv; exact he a) H i (by simp; omega)
    have hroom : i + (xs.length - j) ≤ cap := by omega
    refine ⟨w', ?_, ?_⟩
    · have hst2 := hst
      rw [List.map_drop] at hst2
      simp [cutV, hc, Builtin.append_, run_underlying hu.pure, hs w, Builtin.lenOf, hroom, Addr.add_lit, hfc, hst2]
    · rw [List.map_append, List.map_take]
      rw [List.take_append_of_le_length (by simp; omega)] at H'
      simpa using H'
theorem O.appendSelf {b n cap i j bt : Nat} {ats : Array TypeId} (hu : UndIs P t (.slice T)) (hs : SizeIs P T 1) (e1 : ev l x = some (.slice (some ⟨b, 0, none⟩) i cap)) (e2 : ev l y = some (cutV (.slice (some ⟨b, 0, none⟩) n cap) j 1)) (hn : n = xs.length) (hr : n + rest.length = cap)
    (h : ∀ w', Holds w' (pt b (.cells ((xs.take i ++ xs.drop j).map e ++ (xs.map e ++ rest).drop (i + (n - j))).toArray T (0, 0)) :: L) → O P ro N ops os Q ((d, .slice (some ⟨b, 0, none⟩) (i + (n - j)) cap) :: l) ds w')
    (H : Holds w (pt b (.cells (xs.map e ++ rest).toArray T (0, 0)) :: L) := by exact Holds.to (by assumption)) (hij : i ≤ j := by omega) (hjn : j ≤ n := by omega) (he : ∀ x, (e x).oneCell' = true := by intros; rfl) (ht : ats = #[t, t] := by rfl) (hd : Nat.blt d N = true := by rfl) :
    O P ro N ops (⟨some d, .call ⟨.builtin .append, #[x, y], ats⟩, ty, pos, af, none⟩ :: os) Q l ds w := by
  subst ht
  obtain ⟨w', h1, h2⟩ := append_self (P := P) (ty := ty) hu hs he hn hr hij hjn H
  refine O.val nofun (by simpa using hd) (fun a ha => ?_) (h w' h2)
  simp only [execOp, resolve, invoke, builtin, List.map_toArray, List.map_cons, List.map_nil, ha.eval e1, ha.eval e2, Sem.run_bind, Sem.run_pure, Result.andThen_ok, h1]
/-- clear of a cut of a slice. -/
theorem O.clearCut {b off m c : Nat} {zs : α} {ats : Array TypeId} {cs : List Value} (hu : UndIs P t (.slice T)) (hz : ZeroIs P T (e zs)) (hz1 : (e zs).oneCell' = true) (e1 : ev l x = some (.slice (some ⟨b, off, none⟩) m c)) (hm : 0 < m)
    (h : ∀ w', Holds w' (pt b (.cells (cs.take off ++ List.replicate m (e zs) ++ cs.drop (off + m)).toArray T (0, 0)) :: L) → O P ro N ops os Q l ds w')
    (H : Holds w (pt b (.cells cs.toArray T (0, 0)) :: L)) (hle : off + m ≤ cs.length) (ht : ats[0]? = some t := by rfl) :
    O P ro N ops (⟨none, .call ⟨.builtin .clear, #[x], ats⟩, ty, pos, af, none⟩ :: os) Q l ds w := by
  obtain ⟨w', h1, h2⟩ := storeCells_list (P := P) (vs := List.replicate m (e zs)) cs (by intro v hv; have e' : v = e zs := List.eq_of_mem_replicate hv; rw [e']; exact hz1) H off (by simpa using hle)
  rw [List.length_replicate] at h2
  obtain ⟨m', rfl⟩ : ∃ m', m = m' + 1 := ⟨m - 1, by omega⟩
  refine O.ex0 (v := .tuple #[]) ⟨nofun, fun _ _ _ a ha => ?_⟩ (h w' h2)
  simp [execOp, resolve, invoke, builtin, Builtin.clear_, ha.eval e1, ht, hu w, hz w, zeroCells_one _ _ hz1, h1]
end
end Go.Rr
