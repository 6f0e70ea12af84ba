import Derived.Test.YtliofdfhimmjmaaFacts
import Derived.Test.YtliofdfhimmjmaaRrBits
import Derived.Test.YtliofdfhimmjmaaRrBase
import Derived.Test.YtliofdfhimmjmaaPermLaw
namespace Go.Proofs.Ytliofdfhimmjmaa
open Go.Rr Go
set_option linter.unusedVariables false
def hl (n : Int) : Int:=min (max n 0) 24
theorem arr_eraseIdx (xs : List Int) (i : Nat) : xs.take i ++ xs.drop (i + 1) = xs.eraseIdx i:=(List.eraseIdx_eq_take_drop_succ xs i).symm
theorem del_ct {w : World} {v : Value} {xs : List Int} {i : Int} {L : List HProp} (H : Holds w (arr 3 (Value.int .i64) v xs::L)) (h0 : 0 ≤ i) (h1 : i < xs.length) (hlen : xs.length ≤ 1000) :
    CT Try.prog 110 [v,.int .i64 i,.int .i64 (i + 1)] w fun u w'=>u.oneCell' = true ∧ Holds w' (arr 3 (Value.int .i64) u (xs.eraseIdx i.toNat)::L):=by
  obtain ⟨b,cap,rest,rfl,hcap,H⟩:=arr_some H (by omega)
  refine CT.enter (N:=33) Try.func110 rfl rfl rfl rfl ?_
  refine W.seq (fun K0 hK0=>?_)
  refine W.region ?_
  refine O.ex (Ex.assign rfl) rfl ?_
  refine O.nil ?_
  refine hK0 _ _ _ ?_
  refine W.seq (fun K1 hK1=>?_)
  refine W.region ?_
  refine O.ex (Ex.move rfl) rfl ?_
  refine O.ex (Ex.move rfl) rfl ?_
  refine O.ex (Ex.move rfl) rfl ?_
  refine O.ex (Ex.move rfl) rfl ?_
  refine O.ex (by first|exact Ex.lenR Try.runUnderlying28 rfl|exact Ex.lenIn Try.runUnderlying28 rfl|exact Ex.lenL Try.runUnderlying28 rfl|exact Ex.len rfl Try.runUnderlying28 rfl) rfl ?_
  refine O.ex (Ex.slice3N Try.runUnderlying28 Try.sizeOf3 rfl rfl rfl rfl) rfl ?_
  refine O.nil ?_
  refine hK1 _ _ _ ?_
  refine W.seq (fun K2 hK2=>?_)
  refine W.seq (fun K3 hK3=>?_)
  refine W.region ?_
  refine O.ex (Ex.move rfl) rfl ?_
  refine O.ex (Ex.move rfl) rfl ?_
  refine O.ex (Ex.eqlI rfl rfl) rfl ?_
  refine O.nil ?_
  refine hK3 _ _ _ ?_
  refine W.known_f rfl (decide_eq_false (by omega)) ?_
  refine W.skip ?_
  refine hK2 _ _ _ ?_
  refine W.seq (fun K4 hK4=>?_)
  refine W.region ?_
  refine O.ex (Ex.move rfl) rfl ?_
  refine O.ex (by first|exact Ex.lenR Try.runUnderlying28 rfl|exact Ex.lenIn Try.runUnderlying28 rfl|exact Ex.lenL Try.runUnderlying28 rfl|exact Ex.len rfl Try.runUnderlying28 rfl) rfl ?_
  refine O.ex (Ex.assign rfl) rfl ?_
  refine O.nil ?_
  refine hK4 _ _ _ ?_
  refine W.seq (fun K5 hK5=>?_)
  refine W.drawTo ([]) (.take 0 (.take 1 (.take 2 (.take 3 (.take 4 (.take 5 (.one 6 (.take 7 .nil)))))))) (mixed) (fun _ _ _ _ h=>h) (by assumption) PP.auto (by decide +kernel) (fun w H=>?_)
  refine OQ.ex rfl (fun w H=>(Ex.move rfl)) rfl ?_
  refine OQ.ex rfl (fun w H=>(Ex.move rfl)) rfl ?_
  refine OQ.ex rfl (fun w H=>(Ex.sliceHiN Try.runUnderlying28 Try.sizeOf3 rfl rfl (by omega) (by omega))) rfl ?_
  refine OQ.ex rfl (fun w H=>(Ex.move rfl)) rfl ?_
  refine OQ.ex rfl (fun w H=>(Ex.move rfl)) rfl ?_
  refine OQ.ex rfl (fun w H=>(Ex.sliceLoN Try.runUnderlying28 Try.sizeOf3 rfl rfl (by omega) (by omega))) rfl ?_
  refine OQ.step rfl ?_
  refine O.appendSelf (i:=i.toNat) (j:=(i + 1).toNat) (xs:=xs) (rest:=rest) (e:=Value.int .i64) (bt:=8) Try.runUnderlying28 Try.sizeOf3 rfl rfl rfl hcap (fun w H=>?_)
  refine O.thenNil ⟨(by first|exact Holds.to (by assumption)|assumption),?_⟩
  refine OQ.ex rfl (fun w H=>(Ex.assign rfl)) rfl ?_
  refine OQ.done ?_
  refine hK5 _ _ _ ?_
  refine W.seq (fun K6 hK6=>?_)
  refine W.region ?_
  have hjl : (i + 1).toNat = i.toNat + 1:=by omega
  rw [hjl,arr_eraseIdx,← hjl,show i.toNat + (xs.length - (i + 1).toNat) = xs.length - 1 from by omega] at H
  have hel : (xs.eraseIdx i.toNat).length = xs.length - 1:=List.length_eraseIdx_of_lt (by omega)
  rw [show i.toNat + (xs.length - (i + 1).toNat) = xs.length - 1 from by omega]
  refine O.ex (Ex.move rfl) rfl ?_
  refine O.ex (Ex.move rfl) rfl ?_
  refine O.ex (by first|exact Ex.lenR Try.runUnderlying28 rfl|exact Ex.lenIn Try.runUnderlying28 rfl|exact Ex.lenL Try.runUnderlying28 rfl|exact Ex.len rfl Try.runUnderlying28 rfl) rfl ?_
  refine O.ex (Ex.move rfl) rfl ?_
  refine O.ex (Ex.sliceLHN Try.runUnderlying28 Try.sizeOf3 rfl rfl rfl) rfl ?_
  rw [show cut3 (some ⟨b,0,none⟩) ((xs.length - 1 : Nat) : Int).toNat ((xs.length : Nat) : Int).toNat cap 1 = .slice (some ⟨b,xs.length - 1,none⟩) 1 (cap - (xs.length - 1)) from by
    unfold cut3
    rw [if_neg (by omega),Int.toNat_natCast,Int.toNat_natCast,show xs.length - (xs.length - 1) = 1 from by omega]
    simp [add_off]]
  refine O.clearCut (zs:=(0 : Int)) (e:=Value.int .i64) Try.runUnderlying28 Try.zeroValue3 rfl rfl (by omega) (fun w H=>?_) H (by simp; omega)
  refine O.nil ?_
  refine hK6 _ _ _ ?_
  refine W.seq (fun K7 hK7=>?_)
  refine W.region ?_
  refine O.ex (Ex.move rfl) rfl ?_
  refine O.ex (Ex.assign rfl) rfl ?_
  refine O.nil ?_
  refine hK7 _ _ _ ?_
  refine W.ret ?_
  try dsimp only [thenQ,blockQ,retQ]
  first|refine ⟨_,⟨_,_,rfl,rfl,rfl⟩,?_⟩|(refine retD_mark ?_; intro w H; refine ⟨_,⟨_,_,rfl,rfl,rfl⟩,?_⟩)|(refine retD_mark2 ?_; intro w H; refine ⟨_,⟨_,_,rfl,rfl,rfl⟩,?_⟩)
  refine ⟨rfl,?_⟩
  rw [List.take_append_of_le_length (by simp; omega),List.take_of_length_le (by simp; omega),List.append_assoc] at H
  have:=arr_mk (T:=3) (e:=Value.int .i64) (xs:=xs.eraseIdx i.toNat) (b:=b) (cap:=cap) (by simp only [List.length_append,List.length_replicate,List.length_drop,List.length_map,hel]; omega) H
  rw [hel] at this
  exact this
end Go.Proofs.Ytliofdfhimmjmaa
