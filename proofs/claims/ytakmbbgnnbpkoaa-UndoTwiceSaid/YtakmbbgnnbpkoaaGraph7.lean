import Derived.Test.YtakmbbgnnbpkoaaGraph6
import Derived.Test.YtakmbbgnnbpkoaaClone
--ARR
--LOADS loadG1 loadG2 loadAt loadCn loadMo loadE0 loadE1
--AGGLOADS loadArc loadEE
namespace Go.Proofs.Ytakmbbgnnbpkoaa
open Go.Rr Go Gr
set_option linter.unusedVariables false
section
variable {P : Program} {ro : Option Nat} {N : Nat} {Q : Q0} {l : Regs} {ds : List Deferred} {w w' : World} {ops : Array Oper} {os : List Oper}
variable {d : Tmp} {ty : TypeId} {pos : String} {af : Array Edge} {x y : Operand} {t T yt : TypeId} {L : List HProp}
theorem Ex.loadEE {ab n : Nat} {es : Nat → Value × Value} {i : Int} (ht : AggIs P t true) (hz : SizeIs P t 2) (e1 : ev l x = some (.pointer (some ⟨ab, 0 + i.toNat * 2, none⟩))) (H : Holds w (atc ab n es :: L) := by exact Holds.to (by assumption)) (h0 : 0 ≤ i := by first | assumption | omega) (h1 : i.toNat < n := by first | assumption | omega) :
    Ex P N l (.load t x) ty w (.agg #[(es i.toNat).1, (es i.toNat).2]) w := by
  obtain ⟨m, f, h, H⟩ := atc_open.1 H
  have := Ex.loadAggC (N := N) (m := 2) (ty := ty) ht hz e1 H (by omega)
  rw [show cval 2 (fun k => f (0 + i.toNat * 2 + k)) = .agg #[(es i.toNat).1, (es i.toNat).2] from ?_] at this
  · exact this
  · show Value.agg #[f (0 + i.toNat * 2 + 0), f (0 + i.toNat * 2 + 1)] = _
    rw [← (h.2 _ h1).1, ← (h.2 _ h1).2, show 0 + i.toNat * 2 + 0 = 2 * i.toNat by omega, show 0 + i.toNat * 2 + 1 = 2 * i.toNat + 1 by omega]
theorem O.storeEE {ab n : Nat} {es : Nat → Value × Value} {i : Int} {v1 v2 : Value} (hs : SizeIs P t 2) (e1 : ev l x = some (.pointer (some ⟨ab, 0 + i.toNat * 2, none⟩))) (e2 : ev l y = some (.agg #[v1, v2])) (hv1 : v1.oneCell' = true) (hv2 : v2.oneCell' = true)
    (hk : ∀ w', Holds w' (atc ab n (upE es i.toNat (v1, v2)) :: L) → O P ro N ops os Q l ds w') (H : Holds w (atc ab n es :: L) := by exact Holds.to (by assumption)) (h0 : 0 ≤ i := by first | assumption | omega) (h1 : i.toNat < n := by first | assumption | omega) :
    O P ro N ops (⟨none, .store t x y, ty, pos, af, none⟩ :: os) Q l ds w := by
  obtain ⟨m, f, h, H⟩ := atc_open.1 H
  refine O.storeAggC hs e1 e2 rfl (fun v hv => ?_) H (by omega) fun w' H' => hk w' (atc_open.2 ⟨m, _, ⟨h.1, fun k hk => ?_⟩, H'⟩)
  · simp at hv
    rcases hv with rfl | rfl <;> assumption
  · have hk2 := h.2 k hk
    unfold upE
    dsimp only
    by_cases e : k = i.toNat
    · subst e
      rw [if_pos rfl, if_pos (by omega), if_pos (by omega), show 2 * i.toNat - (0 + i.toNat * 2) = 0 by omega, show 2 * i.toNat + 1 - (0 + i.toNat * 2) = 1 by omega]
      exact ⟨rfl, rfl⟩
    · rw [if_neg e, if_neg (by omega), if_neg (by omega)]
      exact hk2
end
set_option maxHeartbeats 2000000 in
theorem gcopy_ct {w : World} {g : Nat} {n most : Int} {s : St} {L : List HProp} (hg : GOk n most s) (H : Holds w (Gh g n most s :: L)) :
    CT Try.prog 36 [.pointer (some ⟨g, 0, none⟩)] w fun u w' => ∃ c, u = .pointer (some ⟨c, 0, none⟩) ∧ Holds w' (Gh c n most s :: Gh g n most s :: L) := by
  obtain ⟨ab, cap, es, H⟩ := gh_open.1 H
  have H := ghO_open.1 H
  have n1 := hg.n1
  have n2 := hg.n2
  refine CT.enter (N := 38) Try.func36 rfl rfl rfl rfl ?_
  refine W.seq (fun K0 hK0 => ?_)
  refine W.region ?_
  refine O.ex (Ex.assign rfl) rfl ?_
  refine O.nil ?_
  refine hK0 _ _ _ ?_
  refine W.seq (fun K1 hK1 => ?_)
  refine W.region ?_
  refine O.ex (Ex.move rfl) rfl ?_
  refine O.ex (by first | exact Ex.nilPtr rfl | exact Ex.nilFunc rfl | exact Ex.nilYield rfl) rfl ?_
  refine O.ex (Ex.loadAggC (m := 323) (b := g) (q := 0) (f := gf s (avV ab cap n) (cnt s) most) Try.isAgg119 Try.sizeOf119 rfl (Holds.to (M := cel g 119 323 (gf s (avV ab cap n) (cnt s) most) :: _) (by assumption)) (by omega)) rfl ?_
  refine O.allocC gZ rfl (fun c w H => ?_)
  refine O.storeAllC Try.sizeOf119 rfl rfl (fun i hi => gf_one rfl _) H (fun w H => ?_)
  have H : Holds w (gcel g s (avV ab cap n) (cnt s) most :: cel c 119 323 (gf s (avV ab cap n) (cnt s) most) :: _) := Holds.swap (H.celTo (g := gf s (avV ab cap n) (cnt s) most) (fun i _ => by rw [Nat.zero_add]))
  refine O.nil ?_
  refine hK1 _ _ _ ?_
  refine W.seq (fun K2 hK2 => ?_)
  refine W.region ?_
  refine O.ex (Ex.move rfl) rfl ?_
  refine O.ex (by first | exact Ex.nilPtr rfl | exact Ex.nilFunc rfl | exact Ex.nilYield rfl) rfl ?_
  refine O.ex (by first | exact Ex.field0 fld119_1 rfl | exact Ex.field fld119_1 rfl | exact Ex.fieldS fld119_1 rfl) rfl ?_
  refine O.ex (by first | exact Ex.loadG1 Try.isAgg117 rfl | exact Ex.loadG2 Try.isAgg117 rfl | exact Ex.loadAt Try.isAgg117 rfl | exact Ex.loadCn Try.isAgg117 rfl | exact Ex.loadMo Try.isAgg117 rfl | exact Ex.loadE0 Try.isAgg117 rfl | exact Ex.loadE1 Try.isAgg117 rfl | exact Ex.loadMh Try.isAgg117 rfl | exact Ex.loadP Try.isAgg117 rfl | exact Ex.loadM Try.isAgg117 rfl | exact Ex.loadIn1 Try.isAgg117 rfl (Holds.to (by assumption)) | exact Ex.loadVc Try.isAgg117 rfl | exact Ex.loadR Try.isAgg117 rfl | exact Ex.loadQ Try.isAgg117 rfl) rfl ?_
  refine O.ex (by first | exact Ex.lenN Try.runUnderlying117 rfl | exact Ex.lenIn Try.runUnderlying117 rfl | exact Ex.lenL Try.runUnderlying117 rfl | exact Ex.len rfl Try.runUnderlying117 rfl) rfl ?_
  refine O.makeN ((Value.slice none 0 0, Value.slice none 0 0) : Value × Value) (e := fun p => [p.1, p.2]) (bt := 48) Try.runUnderlying117 Try.sizeOf125 Try.zeroValue125 Try.typeInfo125 rfl rfl rfl rfl (by decide) (fun s14 w hs14 H => ?_)
  obtain ⟨ab', cap', rest, rfl, hcap, hcl, H⟩ := arrN_some H (by rw [List.length_replicate]; omega)
  rw [List.length_replicate]
  have H := atc_new H
  refine O.ex (by first | exact Ex.field0 fld119_1 rfl | exact Ex.field fld119_1 rfl | exact Ex.fieldS fld119_1 rfl) rfl ?_
  refine O.storeC Try.sizeOf117 rfl rfl rfl (Holds.to (M := cel c 119 323 (gf s (avV ab cap n) (cnt s) most) :: atc ab' n.toNat _ :: gcel g s (avV ab cap n) (cnt s) most :: _) (by assumption)) (by omega) (fun w H => ?_)
  have H : Holds w (gcel c s (avV ab' cap' n) (cnt s) most :: _) := H.celTo (g := gf s (avV ab' cap' n) (cnt s) most) (fun q hq => by
    unfold gf
    by_cases e1 : q = 320
    · subst e1; rfl
    · rw [if_neg e1]
      by_cases e3 : q < 320
      · rw [if_pos e3, if_pos e3]
      · rw [if_neg e3, if_neg e3, if_neg e1, if_neg e1])
  have H : Holds w (gcel g s (avV ab cap n) (cnt s) most :: gcel c s (avV ab' cap' n) (cnt s) most :: _) := Holds.to H
  refine O.nil ?_
  refine hK2 _ _ _ ?_
  refine W.seq (fun K3 hK3 => ?_)
  refine W.seq (fun K4 hK4 => ?_)
  refine W.region ?_
  refine O.ex (Ex.move rfl) rfl ?_
  refine O.ex (by first | exact Ex.nilPtr rfl | exact Ex.nilFunc rfl | exact Ex.nilYield rfl) rfl ?_
  refine O.ex (by first | exact Ex.field0 fld119_1 rfl | exact Ex.field fld119_1 rfl | exact Ex.fieldS fld119_1 rfl) rfl ?_
  refine O.ex (by first | exact Ex.loadG1 Try.isAgg117 rfl | exact Ex.loadG2 Try.isAgg117 rfl | exact Ex.loadAt Try.isAgg117 rfl | exact Ex.loadCn Try.isAgg117 rfl | exact Ex.loadMo Try.isAgg117 rfl | exact Ex.loadE0 Try.isAgg117 rfl | exact Ex.loadE1 Try.isAgg117 rfl | exact Ex.loadMh Try.isAgg117 rfl | exact Ex.loadP Try.isAgg117 rfl | exact Ex.loadM Try.isAgg117 rfl | exact Ex.loadIn1 Try.isAgg117 rfl (Holds.to (by assumption)) | exact Ex.loadVc Try.isAgg117 rfl | exact Ex.loadR Try.isAgg117 rfl | exact Ex.loadQ Try.isAgg117 rfl) rfl ?_
  refine O.ex (by first | exact Ex.lenN Try.runUnderlying117 rfl | exact Ex.lenIn Try.runUnderlying117 rfl | exact Ex.lenL Try.runUnderlying117 rfl | exact Ex.len rfl Try.runUnderlying117 rfl) rfl ?_
  refine O.ex (Ex.move rfl) rfl ?_
  refine O.nil ?_
  refine hK4 _ _ _ ?_
  refine W.block ?_
  refine W.loop (σ := Nat × (Nat → Value × Value)) (fun z => [(3, .pointer (some ⟨c, 0, none⟩)), (19, avV ab cap n), (20, .int .i64 (n.toNat : Int)), (21, .int .i64 (z.1 : Int))]) (fun z ds w => ds = [] ∧ z.1 ≤ n.toNat ∧ Holds w (gcel g s (avV ab cap n) (cnt s) most :: atc ab n.toNat es :: big (endF es s s) (List.range n.toNat) :: gcel c s (avV ab' cap' n) (cnt s) most :: atc ab' n.toNat z.2 :: big (endF z.2 s s) (List.range z.1) :: L)) (fun z => n.toNat - z.1) (0, fun _ => (.slice none 0 0, .slice none 0 0)) ⟨rfl, rfl, rfl, rfl, trivial⟩ ⟨rfl, by dsimp only; omega, by have H := (big_nil (f := endF (fun _ => (.slice none 0 0, .slice none 0 0)) s s)).2 H; exact Holds.to H⟩ ?_
  clear H
  rintro ⟨i, es'⟩ _ w ⟨rfl, hi, H⟩
  dsimp only at hi H ⊢
  refine W.seq (fun K5 hK5 => ?_)
  refine W.region ?_
  refine O.ex (Ex.lss rfl rfl) rfl ?_
  refine O.nil ?_
  refine hK5 _ _ _ ?_
  refine W.seq (fun K6 hK6 => ?_)
  first | refine W.cond_p rfl (fun hlt => ?_) (fun hge => ?_) | refine W.cond_b rfl (fun hlt => ?_) (fun hge => ?_)
  · refine W.skip ?_
    refine hK6 _ _ _ ?_
    refine W.seq (fun K7 hK7 => ?_)
    refine W.block ?_
    refine W.seq (fun K8 hK8 => ?_)
    refine W.region ?_
    have hin0 : i < n.toNat := by omega
    have HE := endF_open.1 (big_take hin0 (Holds.to (M := big (endF es s s) (List.range n.toNat) :: L) H))
    have ho1 := arr_one HE
    have ho2 := arr_one HE.swap
    clear HE
    refine O.ex (Ex.move rfl) rfl ?_
    refine O.ex (by first | exact Ex.idxN Try.runUnderlying117 Try.sizeOf125 rfl rfl | exact Ex.idxSN Try.runUnderlying117 Try.sizeOf125 rfl rfl | exact Ex.idxIn Try.runUnderlying117 Try.sizeOf125 rfl rfl | exact Ex.idx Try.runUnderlying117 Try.sizeOf125 rfl rfl (by omega) (by omega)) rfl ?_
    refine O.ex (Ex.loadEE (ab := ab) (n := n.toNat) (es := es) (i := (i : Int)) Try.isAgg125 Try.sizeOf125 rfl (Holds.to (by assumption)) (by omega) (by omega)) rfl ?_
    refine O.allocP Try.zeroValue125 (fun b5 w H => ?_)
    refine O.ex (Ex.assign rfl) rfl ?_
    refine O.storeAggP Try.sizeOf125 rfl rfl rfl (by show ((es i).1.oneCell' && ((es i).2.oneCell' && true)) = true; rw [ho1, ho2]; rfl) (fun w H => ?_)
    refine O.nil ?_
    refine hK8 _ _ _ ?_
    have hin : i < n.toNat := by omega
    have hi0 : (0 : Int) ≤ (i : Int) := by omega
    have H : Holds w (big (endF es s s) (List.range n.toNat) :: gcel g s (avV ab cap n) (cnt s) most :: atc ab n.toNat es :: gcel c s (avV ab' cap' n) (cnt s) most :: atc ab' n.toNat es' :: big (endF es' s s) (List.range i) :: pt b5 (.cells #[(es i).1, (es i).2] 125 (0, 0)) :: L) := Holds.to H
    have H := endF_open.1 (big_take hin H)
    refine W.drawTo (gcel c s (avV ab' cap' n) (cnt s) most :: pt b5 _ :: []) (.take 0 (.take 1 (.take 2 (.take 3 (.take 4 (.take 6 (.take 7 (.one 5 (.one 8 (.take 9 (.take 10 (.one 11 .nil)))))))))))) (mixed) (fun _ _ _ _ h => h) (by assumption) PP.auto (by decide +kernel) (fun w H => ?_)
    refine OQ.ex rfl (fun w H => (by first | exact Ex.field0 fld119_1 rfl | exact Ex.field fld119_1 rfl | exact Ex.fieldS fld119_1 rfl)) rfl ?_
    refine OQ.ex rfl (fun w H => (by first | exact Ex.loadG1 Try.isAgg117 rfl | exact Ex.loadG2 Try.isAgg117 rfl | exact Ex.loadAt Try.isAgg117 rfl | exact Ex.loadCn Try.isAgg117 rfl | exact Ex.loadMo Try.isAgg117 rfl | exact Ex.loadE0 Try.isAgg117 rfl | exact Ex.loadE1 Try.isAgg117 rfl | exact Ex.loadMh Try.isAgg117 rfl | exact Ex.loadP Try.isAgg117 rfl | exact Ex.loadM Try.isAgg117 rfl | exact Ex.loadIn1 Try.isAgg117 rfl (Holds.to (by assumption)) | exact Ex.loadVc Try.isAgg117 rfl | exact Ex.loadR Try.isAgg117 rfl | exact Ex.loadQ Try.isAgg117 rfl)) rfl ?_
    refine OQ.ex rfl (fun w H => (Ex.move rfl)) rfl ?_
    refine OQ.ex rfl (fun w H => (by first | exact Ex.field0 fld125_0 rfl | exact Ex.field fld125_0 rfl | exact Ex.fieldS fld125_0 rfl)) rfl ?_
    refine OQ.ex rfl (fun w H => (by first | exact Ex.loadG1 Try.isAgg37 rfl | exact Ex.loadG2 Try.isAgg37 rfl | exact Ex.loadAt Try.isAgg37 rfl | exact Ex.loadCn Try.isAgg37 rfl | exact Ex.loadMo Try.isAgg37 rfl | exact Ex.loadE0 Try.isAgg37 rfl | exact Ex.loadE1 Try.isAgg37 rfl | exact Ex.loadMh Try.isAgg37 rfl | exact Ex.loadP Try.isAgg37 rfl | exact Ex.loadM Try.isAgg37 rfl | exact Ex.loadIn1 Try.isAgg37 rfl (Holds.to (by assumption)) | exact Ex.loadVc Try.isAgg37 rfl | exact Ex.loadR Try.isAgg37 rfl | exact Ex.loadQ Try.isAgg37 rfl)) rfl ?_
    refine OQ.ex rfl (fun w H => (by first | exact Ex.field0 fld125_1 rfl | exact Ex.field fld125_1 rfl | exact Ex.fieldS fld125_1 rfl)) rfl ?_
    refine OQ.ex rfl (fun w H => (by first | exact Ex.loadG1 Try.isAgg37 rfl | exact Ex.loadG2 Try.isAgg37 rfl | exact Ex.loadAt Try.isAgg37 rfl | exact Ex.loadCn Try.isAgg37 rfl | exact Ex.loadMo Try.isAgg37 rfl | exact Ex.loadE0 Try.isAgg37 rfl | exact Ex.loadE1 Try.isAgg37 rfl | exact Ex.loadMh Try.isAgg37 rfl | exact Ex.loadP Try.isAgg37 rfl | exact Ex.loadM Try.isAgg37 rfl | exact Ex.loadIn1 Try.isAgg37 rfl (Holds.to (by assumption)) | exact Ex.loadVc Try.isAgg37 rfl | exact Ex.loadR Try.isAgg37 rfl | exact Ex.loadQ Try.isAgg37 rfl)) rfl ?_
    refine OQ.step rfl ?_
    refine O.callF Try.call83 rfl rfl (CT.mono (clone_ct (xs := outI s (i : Int)) (fun _ => rfl) (by have := lstP_len (outP s (i : Int)); unfold outI; omega) (Holds.to (by assumption))) ?_)
    rintro _ w ⟨hu1, H⟩
    rename_i u1
    refine O.thenNil ⟨(by first | exact Holds.to (by assumption) | assumption), ?_⟩
    refine OQ.step rfl ?_
    refine O.callF Try.call83 rfl rfl (CT.mono (clone_ct (xs := inI s (i : Int)) (fun _ => rfl) (by have := lstP_len (inP s (i : Int)); unfold inI; omega) (Holds.to (by assumption))) ?_)
    rintro _ w ⟨hu2, H⟩
    rename_i u2
    refine O.thenNil ⟨(by first | exact Holds.to (by assumption) | assumption), ?_⟩
    refine OQ.ex rfl (fun w H => (Ex.build rfl (bld125_0_1 _ _ (by first | rfl | assumption) (by first | rfl | assumption)))) rfl ?_
    refine OQ.ex rfl (fun w H => (by first | exact Ex.idxN Try.runUnderlying117 Try.sizeOf125 rfl rfl | exact Ex.idxSN Try.runUnderlying117 Try.sizeOf125 rfl rfl | exact Ex.idxIn Try.runUnderlying117 Try.sizeOf125 rfl rfl | exact Ex.idx Try.runUnderlying117 Try.sizeOf125 rfl rfl (by omega) (by omega))) rfl ?_
    refine OQ.last rfl (by decide +kernel) ?_
    refine O.storeEE (i := (i : Int)) Try.sizeOf125 rfl rfl hu1 hu2 (fun w H => ?_)
    refine O.nil ?_
    refine hK7 _ _ _ ?_
    refine W.region ?_
    refine O.ex (by first | exact Ex.addI rfl rfl | exact Ex.add rfl rfl rfl) rfl ?_
    refine O.ex (Ex.move rfl) rfl ?_
    refine O.nil ?_
    have H : Holds w (arr 3 (Value.int .i64) (es i).1 (outI s (i : Int)) :: arr 3 (Value.int .i64) (es i).2 (inI s (i : Int)) :: bigBut (endF es s s) (List.range n.toNat) i :: arr 3 (Value.int .i64) u1 (outI s (i : Int)) :: arr 3 (Value.int .i64) u2 (inI s (i : Int)) :: big (endF es' s s) (List.range i) :: gcel g s (avV ab cap n) (cnt s) most :: atc ab n.toNat es :: gcel c s (avV ab' cap' n) (cnt s) most :: atc ab' n.toNat (upE es' i (u1, u2)) :: L) := Holds.to H
    have H := big_put hin (endF_open.2 H)
    have H : Holds w (arr 3 (Value.int .i64) u1 (outI s (i : Int)) :: arr 3 (Value.int .i64) u2 (inI s (i : Int)) :: big (endF es' s s) (List.range i) :: big (endF es s s) (List.range n.toNat) :: gcel g s (avV ab cap n) (cnt s) most :: atc ab n.toNat es :: gcel c s (avV ab' cap' n) (cnt s) most :: atc ab' n.toNat (upE es' i (u1, u2)) :: L) := Holds.to H
    have hc : big (endF es' s s) (List.range i) = big (endF (upE es' i (u1, u2)) s s) (List.range i) := big_congr fun k hk => by
      have := List.mem_range.1 hk
      unfold endF; rw [upE_other (by omega)]
    rw [hc] at H
    have e : upE es' i (u1, u2) i = (u1, u2) := upE_same
    have H := big_succ (f := endF (upE es' i (u1, u2)) s s) (n := i) (endF_open.2 (by rw [e]; exact H))
    exact ⟨(i + 1, upE es' i (u1, u2)), ⟨rfl, rfl, rfl, rfl, trivial⟩, ⟨rfl, by dsimp only; omega, Holds.to H⟩, by dsimp only; omega⟩
  · refine W.exit ?_
    refine hK3 _ _ _ ?_
    refine W.seq (fun K9 hK9 => ?_)
    refine W.region ?_
    refine O.ex (Ex.assign rfl) rfl ?_
    refine O.nil ?_
    refine hK9 _ _ _ ?_
    refine W.ret ?_
    try dsimp only [thenQ, blockQ, retQ]
    first | refine ⟨_, ⟨_, _, rfl, rfl, rfl⟩, ?_⟩ | (refine retD_mark ?_; intro w H; refine ⟨_, ⟨_, _, rfl, rfl, rfl⟩, ?_⟩) | (refine retD_mark2 ?_; intro w H; refine ⟨_, ⟨_, _, rfl, rfl, rfl⟩, ?_⟩)
    obtain rfl : i = n.toNat := by omega
    have H : Holds w (gcel c s (avV ab' cap' n) (cnt s) most :: atc ab' n.toNat es' :: big (endF es' s s) (List.range n.toNat) :: gcel g s (avV ab cap n) (cnt s) most :: atc ab n.toNat es :: big (endF es s s) (List.range n.toNat) :: L) := Holds.to H
    have H := gh_open.2 ⟨ab', cap', es', ghO_open.2 H⟩
    have H : Holds w (gcel g s (avV ab cap n) (cnt s) most :: atc ab n.toNat es :: big (endF es s s) (List.range n.toNat) :: Gh c n most s :: L) := Holds.to H
    exact ⟨c, rfl, Holds.swap (gh_open.2 ⟨ab, cap, es, ghO_open.2 H⟩)⟩
end Go.Proofs.Ytakmbbgnnbpkoaa
