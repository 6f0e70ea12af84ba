/- What slices.Insert asks: copy, append of a made row, cap, the call of one of the model's own functions. No program in sight. -/
import Derived.Lib.AppendZerosOnto
import Derived.Lib.Overlaps
import Derived.Test.YtakmbbgnnbpkoaaRrCut
import Derived.Test.YtakmbbgnnbpkoaaRrMore
namespace Go.Rr
set_option linter.unusedVariables false
section
variable {P : Program} {ro : Option Nat} {N : Nat} {Q : Q0} {l : Regs} {ds : List Deferred} {w w' : World} {ops : Array Oper} {os : List Oper}
variable {d : Tmp} {ty : TypeId} {pos : String} {af : Array Edge} {x y z : Operand} {t T : TypeId} {α : Type} {L : List HProp} {info : TypeInfo} {zv : Value} {sz : Nat} {k : IntKind} {v u : Value}
theorem Ex.cap {ats : Array TypeId} {a : Option Addr} {n c : Nat} {E : TypeId} (hu : UndIs P t (.slice E)) (e1 : ev l x = some (.slice a n c)) (ht : ats[0]? = some t := by rfl) : Ex P N l (.call ⟨.builtin .cap, #[x], ats⟩) ty w (.int .i64 c) w :=
  ⟨nofun, fun _ _ _ a ha => by simp [execOp, resolve, invoke, builtin, Builtin.cap_, ha.eval e1, ht, hu w, goInt]⟩
theorem cutV_mk {b off n cap lo : Nat} (h : lo < cap) : cutV (.slice (some ⟨b, off, none⟩) n cap) lo 1 = .slice (some ⟨b, off + lo, none⟩) (n - lo) (cap - lo) := by
  simp only [cutV]
  rw [if_neg (by omega), Nat.mul_one, Option.map_some, add_off]
/-- copy, of cells that lie wherever they lie. -/
theorem copy_cells {b od ld cd bs oo ls cs : Nat} {c vs : List Value} (hu : UndIs P t (.slice T)) (hs : SizeIs P T 1) (hl : vs.length = min ls ld) (hsrc : ∀ j u, vs[j]? = some u → w.cell? ((Addr.mk bs oo none).add j) = some u) (h1 : ∀ u ∈ vs, u.oneCell' = true)
    (H : Holds w (pt b (.cells c.toArray T (0, 0)) :: L)) (hfit : od + vs.length ≤ c.length) :
    ∃ w', (Builtin.copy_ #[t, t] ty #[.slice (some ⟨b, od, none⟩) ld cd, .slice (some ⟨bs, oo, none⟩) ls cs]).run P w = .ok (.int .i64 vs.length) w' ∧ Holds w' (pt b (.cells (c.take od ++ vs ++ c.drop (od + vs.length)).toArray T (0, 0)) :: L) := by
  obtain ⟨w', hst, H'⟩ := storeCells_list (P := P) (vs := vs) c h1 H od hfit
  refine ⟨w', ?_, H'⟩
  have hfc := run_firstCells_some (P := P) w 1 vs.length ⟨bs, oo, none⟩ ls cs vs (by omega) hsrc
  have hm : Nat.min ls ld = vs.length := by rw [hl]
  simp [Builtin.copy_, run_underlying hu.pure, hs w, Builtin.lenOf, hm, hfc, hst, goInt]
theorem O.copyE {b od ld cd bs oo ls cs : Nat} {c : List Value} {ats : Array TypeId} (hu : UndIs P t (.slice T)) (hs : SizeIs P T 1) (e1 : ev l x = some (.slice (some ⟨b, od, none⟩) ld cd)) (e2 : ev l y = some (.slice (some ⟨bs, oo, none⟩) ls cs))
    (vs : List Value) (hl : vs.length = min ls ld) (hsrc : ∀ j u, vs[j]? = some u → w.cell? ((Addr.mk bs oo none).add j) = some u) (h1 : ∀ u ∈ vs, u.oneCell' = true)
    (H : Holds w (pt b (.cells c.toArray T (0, 0)) :: L)) (hfit : od + vs.length ≤ c.length)
    (h : ∀ w', Holds w' (pt b (.cells (c.take od ++ vs ++ c.drop (od + vs.length)).toArray T (0, 0)) :: L) → O P ro N ops os Q ((d, .int .i64 vs.length) :: l) ds w')
    (ht : ats = #[t, t] := by rfl) (hd : Nat.blt d N = true := by rfl) :
    O P ro N ops (⟨some d, .call ⟨.builtin .copy, #[x, y], ats⟩, ty, pos, af, none⟩ :: os) Q l ds w := by
  subst ht
  obtain ⟨w', hr, H'⟩ := copy_cells (P := P) (ty := ty) (ld := ld) (cd := cd) (ls := ls) (cs := cs) hu hs hl hsrc h1 H hfit
  refine O.val nofun (by simpa using hd) (fun a ha => ?_) (h _ H')
  simp only [execOp, resolve, invoke, builtin, List.map_toArray, List.map_cons, List.map_nil, ha.eval e1, ha.eval e2, Sem.run_bind, Sem.run_pure, Result.andThen_ok, hr]
/-- append(s[:n], make([]T, k)...), where there is no room. -/
theorem O.appendZ {b n cap kk : Nat} {olds rest : List Value} {tn : TypeId} {kn : IntKind} {ats : Array TypeId} {bt : Nat} {q : Int} (hu : UndIs P t (.slice T)) (hun : UndIs P tn (.int kn)) (hI : InfoIs P T info) (hbt : info.bytes = bt) (hs : SizeIs P T 1) (hz : ZeroIs P T zv)
    (e1 : ev l x = some (.slice (some ⟨b, 0, none⟩) n cap)) (e2 : ev l y = some (.int k q)) (hq : q = (kk : Nat)) (ho : olds.length = n) (hk : 0 < kk) (hg : cap < n + kk) (h63 : n + kk ≤ 9223372036854775807) (hb : (n + kk) * bt ≤ 140737488355328)
    (H : Holds w (pt b (.cells (olds ++ rest).toArray T (0, 0)) :: L))
    (h : ∀ g cap' rest' w', (olds ++ List.replicate kk zv).length + rest'.length = cap' → Holds w' (pt g (.cells (olds ++ List.replicate kk zv ++ rest').toArray T (0, 0)) :: pt b (.cells (olds ++ rest).toArray T (0, 0)) :: L) → O P ro N ops os Q ((d, .slice (some ⟨g, 0, none⟩) (n + kk) cap') :: l) ds w')
    (ht : ats = #[t, tn] := by rfl) (hzc : zv.oneCell' = true := by rfl) (hd : Nat.blt d N = true := by rfl) :
    O P ro N ops (⟨some d, .call ⟨.builtin .append, #[x, y], ats⟩, ty, pos, af, none⟩ :: os) Q l ds w := by
  subst ht hbt hq
  have hisz := hs.of hI
  have hcells := pt_cells H 0
  rw [List.drop_zero] at hcells
  have hold : (Builtin.firstCells info.size n (.slice (some ⟨b, 0, none⟩) n cap)).run P w.drew = .ok olds.toArray w.drew := by
    rw [hisz]
    exact run_firstCells_some (P := P) w.drew 1 n ⟨b, 0, none⟩ n cap olds (by omega) hcells
  have hfit := growslice_fits hg hb
  have hkb : kk * info.bytes ≤ 281474976710656 := by
    have := Nat.mul_le_mul_right info.bytes (show kk ≤ n + kk by omega); omega
  have hrun := Lib.run_append_grow_zeros (P := P) w t tn ty T info zv k kn hu.pure hun.pure hI.pure (hz.of hI) (some ⟨b, 0, none⟩) n cap olds hold kk hk (by omega) hg (by omega) hkb hfit
  have hge := grownCap_ge w (n + kk) cap T
  have hz1 : ∀ m, (Builtin.zeroCells zv.cells m).toList = List.replicate m zv := fun m => zeroCells_one zv m hzc
  refine O.val (w' := w.drew.alloc (.cells (olds.toArray ++ Builtin.zeroCells zv.cells kk ++ Builtin.zeroCells zv.cells (grownCap w (n + kk) cap T - (n + kk))) T)) nofun (by simpa using hd) (fun a ha => ?_) (h w.heap.size (grownCap w (n + kk) cap T) (List.replicate (grownCap w (n + kk) cap T - (n + kk)) zv) _ (by simp; omega) ?_)
  · simp only [execOp, resolve, invoke, builtin, List.map_toArray, List.map_cons, List.map_nil, ha.eval e1, ha.eval e2, Sem.run_bind, Sem.run_pure, Result.andThen_ok, hrun]
  · have H2 : Holds w.drew (pt b (.cells (olds ++ rest).toArray T (0, 0)) :: L) := H.same rfl rfl
    have := H2.alloc (.cells (olds.toArray ++ Builtin.zeroCells zv.cells kk ++ Builtin.zeroCells zv.cells (grownCap w (n + kk) cap T - (n + kk))) T)
    have e : (olds ++ List.replicate kk zv ++ List.replicate (grownCap w (n + kk) cap T - (n + kk)) zv).toArray = olds.toArray ++ Builtin.zeroCells zv.cells kk ++ Builtin.zeroCells zv.cells (grownCap w (n + kk) cap T - (n + kk)) := by
      apply Array.ext'; simp [hz1]
    rw [e]
    exact this
/-- The call of one of the model's own functions, which hands a value back and leaves all as it was. -/
theorem O.callE {f : FuncId} {args : Array Operand} {ats : Array TypeId} {vs : List Value} {r : Value} (e : evs l args.toList = some vs) (hf : (callFunc f vs.toArray).run P w = .ok (.value r) w) (h : O P ro N ops os Q ((d, r) :: l) ds w) (hd : Nat.blt d N = true := by rfl) :
    O P ro N ops (⟨some d, .call ⟨.value (.func f), args, ats⟩, ty, pos, af, none⟩ :: os) Q l ds w :=
  O.val nofun (by simpa using hd) (fun a ha => by simp [execOp, resolve, Act.eval, Deferred.ofValue, invoke, ha.evalsA e]; exact hf) h
end
end Go.Rr
