import Derived.Test.YtliofdfhimmjmaaIns
namespace Go.Proofs.Ytliofdfhimmjmaa
open Go.Rr Go
set_option linter.unusedVariables false
theorem overlaps_no {w : World} {bu b oo lb cb cu capu : Nat} {cs cs2 : List Value} {L : List HProp} (hcs : 0 < cs2.length) (H : Holds w (pt bu (.cells cs.toArray 3 (0,0))::pt b (.cells cs2.toArray 3 (0,0))::L)) :
    (callFunc 108 #[.slice (some ⟨bu,0,none⟩) cu capu,.slice (some ⟨b,oo,none⟩) lb cb]).run Try.prog w = .ok (.value (.bool false)) w:=by
  have hne : bu ≠ b:=H.ne
  rw [run_callFunc_extern Try.func108 (by kernel_rfl) (by kernel_rfl) (by kernel_rfl) (e:=Extern.SlicesOverlaps.overlaps #[28,28] #[4]) (by kernel_rfl)]
  have h1:=H.get
  have h2:=H.swap.get
  rw [Lib.run_overlaps_apart w 28 4 3 ((show UndIs Try.prog 28 _ from Try.runUnderlying28).pure) 1 Try.sizeOf3 ⟨bu,0,none⟩ ⟨b,oo,none⟩ cu capu lb cb hne 3 3 cs.length cs2.length
    (by simp [World.shape?,h1]) (by simp [World.shape?,h2]) (by omega) (by simp [World.frozen?,h1]) (by simp [World.frozen?,h1])]
  rfl
theorem ins_cells {α : Type} {c D : List α} {x : α} {i : Nat} (h : i + 1 ≤ c.length) :
    (c.take i ++ [x] ++ c.drop (i + [x].length)).take (i + 1) ++ D ++ (c.take i ++ [x] ++ c.drop (i + [x].length)).drop (i + 1 + D.length) = c.take i ++ x::D ++ c.drop (i + 1 + D.length):=by
  have hl : (c.take i ++ [x]).length = i + 1:=by simp; omega
  rw [List.take_append_of_le_length (by omega),List.take_of_length_le (by omega),List.drop_append,List.drop_eq_nil_of_le (by omega),hl,List.drop_drop,List.length_singleton,show i + 1 + (i + 1 + D.length - (i + 1)) = i + 1 + D.length by omega]
  simp
theorem ins_cells2 {α : Type} {c D : List α} {x : α} {i : Nat} (h : i + 1 ≤ c.length) :
    (c.take (i + 1) ++ D ++ c.drop (i + 1 + D.length)).take i ++ [x] ++ (c.take (i + 1) ++ D ++ c.drop (i + 1 + D.length)).drop (i + [x].length) = c.take i ++ x::D ++ c.drop (i + 1 + D.length):=by
  have hl : (c.take (i + 1)).length = i + 1:=by simp; omega
  rw [List.append_assoc (c.take (i + 1)),List.take_append_of_le_length (by omega),List.take_take,Nat.min_eq_left (by omega),List.length_singleton,List.drop_append_of_le_length (by omega),List.drop_take]
  simp
set_option maxHeartbeats 2000000 in
theorem insert_ct {w : World} {v u : Value} {xs : List Int} {x : Int} {i : Nat} {L : List HProp} (hi : i ≤ xs.length) (hlen : xs.length ≤ 1000) (H : Holds w (arr 3 (Value.int .i64) v xs::arr 3 (Value.int .i64) u [x]::L)) :
    CT Try.prog 86 [v,.int .i64 (i : Int),u] w fun y w'=>y.oneCell' = true ∧ Holds w' (arr 3 (Value.int .i64) y (xs.take i ++ x::xs.drop i)::L):=by
  by_cases hie : i = xs.length
  · subst hie
    refine CT.enter (N:=95) Try.func86 rfl rfl rfl rfl ?_
    refine W.seq (fun K0 hK0=>?_)
    refine W.region ?_
    refine O.ex (Ex.assign rfl) rfl ?_
    refine O.nil ?_
    refine hK0 _ _ _ ?_
    refine W.seq (fun K1 hK1=>?_)
    refine W.region ?_
    refine O.ex (Ex.move rfl) rfl ?_
    refine O.ex (Ex.move rfl) rfl ?_
    refine O.ex (Ex.sliceLo Try.runUnderlying28 Try.sizeOf3 rfl rfl) rfl ?_
    refine O.nil ?_
    refine hK1 _ _ _ ?_
    refine W.seq (fun K2 hK2=>?_)
    refine W.region ?_
    refine O.ex (Ex.move rfl) rfl ?_
    refine O.ex (by first|exact Ex.lenR Try.runUnderlying28 rfl|exact Ex.lenIn Try.runUnderlying28 rfl|exact Ex.lenL Try.runUnderlying28 rfl|exact Ex.len rfl Try.runUnderlying28 rfl) rfl ?_
    refine O.ex (Ex.assign rfl) rfl ?_
    refine O.nil ?_
    refine hK2 _ _ _ ?_
    refine W.seq (fun K3 hK3=>?_)
    refine W.seq (fun K4 hK4=>?_)
    refine W.region ?_
    refine O.ex (Ex.move rfl) rfl ?_
    refine O.ex (Ex.eqlI rfl rfl) rfl ?_
    refine O.nil ?_
    refine hK4 _ _ _ ?_
    refine W.known_f rfl (by first|exact decide_eq_true rfl|(simp; done)|rfl) ?_
    refine W.skip ?_
    refine hK3 _ _ _ ?_
    refine W.seq (fun K5 hK5=>?_)
    refine W.region ?_
    refine O.ex (Ex.move rfl) rfl ?_
    refine O.ex (by first|exact Ex.lenR Try.runUnderlying28 rfl|exact Ex.lenIn Try.runUnderlying28 rfl|exact Ex.lenL Try.runUnderlying28 rfl|exact Ex.len rfl Try.runUnderlying28 rfl) rfl ?_
    refine O.ex (Ex.assign rfl) rfl ?_
    refine O.nil ?_
    refine hK5 _ _ _ ?_
    refine W.seq (fun K6 hK6=>?_)
    refine W.seq (fun K7 hK7=>?_)
    refine W.region ?_
    refine O.ex (Ex.move rfl) rfl ?_
    refine O.ex (Ex.move rfl) rfl ?_
    refine O.ex (Ex.eqlI rfl rfl) rfl ?_
    refine O.nil ?_
    refine hK7 _ _ _ ?_
    refine W.known_t rfl (by first|exact decide_eq_true rfl|(simp; done)|rfl) ?_
    refine W.seq (fun K8 hK8=>?_)
    refine W.region ?_
    refine O.ex (Ex.move rfl) rfl ?_
    refine O.ex (Ex.move rfl) rfl ?_
    refine O.appendR Try.runUnderlying28 Try.typeInfo3 (bt:=8) rfl Try.sizeOf3 Try.zeroValue3 rfl rfl (fun v25 w hv25 H=>?_)
    refine O.ex (Ex.assign rfl) rfl ?_
    refine O.nil ?_
    refine hK8 _ _ _ ?_
    refine W.ret ?_
    try dsimp only [thenQ,blockQ,retQ]
    first|refine ⟨_,⟨_,_,rfl,rfl,rfl⟩,?_⟩|(refine retD_mark ?_; intro w H; refine ⟨_,⟨_,_,rfl,rfl,rfl⟩,?_⟩)|(refine retD_mark2 ?_; intro w H; refine ⟨_,⟨_,_,rfl,rfl,rfl⟩,?_⟩)
    refine ⟨hv25,?_⟩
    rw [List.take_length,List.drop_length]
    exact Holds.to (by assumption)
  · obtain ⟨b,cap,rest,rfl,hcap,H⟩:=arr_some H (by omega)
    have H:=H.swap
    obtain ⟨bu,capu,restu,rfl,hcapu,H⟩:=arr_some H (by simp)
    change CT _ _ [_,_,.slice (some ⟨bu,0,none⟩) 1 capu] _ _
    have hx1 : ([x].map (Value.int .i64) ++ restu) = Value.int .i64 x::restu:=rfl
    rw [hx1] at H
    have h1c : ∀ u ∈ xs.map (Value.int .i64),u.oneCell' = true:=by intro u hu; obtain ⟨a,_,rfl⟩:=List.mem_map.1 hu; rfl
    refine CT.enter (N:=95) Try.func86 rfl rfl rfl rfl ?_
    refine W.seq (fun K0 hK0=>?_)
    refine W.region ?_
    refine O.ex (Ex.assign rfl) rfl ?_
    refine O.nil ?_
    refine hK0 _ _ _ ?_
    refine W.seq (fun K1 hK1=>?_)
    refine W.region ?_
    refine O.ex (Ex.move rfl) rfl ?_
    refine O.ex (Ex.move rfl) rfl ?_
    refine O.ex (Ex.sliceLoN Try.runUnderlying28 Try.sizeOf3 rfl rfl (by omega) (by omega)) rfl ?_
    refine O.nil ?_
    refine hK1 _ _ _ ?_
    refine W.seq (fun K2 hK2=>?_)
    refine W.region ?_
    refine O.ex (Ex.move rfl) rfl ?_
    refine O.ex (Ex.len rfl Try.runUnderlying28 rfl) rfl ?_
    refine O.ex (Ex.assign rfl) rfl ?_
    refine O.nil ?_
    refine hK2 _ _ _ ?_
    refine W.seq (fun K3 hK3=>?_)
    refine W.seq (fun K4 hK4=>?_)
    refine W.region ?_
    refine O.ex (Ex.move rfl) rfl ?_
    refine O.ex (Ex.eqlI rfl rfl) rfl ?_
    refine O.nil ?_
    refine hK4 _ _ _ ?_
    refine W.known_f rfl (by first|exact decide_eq_false (by omega)|rfl|(simp; done)) ?_
    refine W.skip ?_
    refine hK3 _ _ _ ?_
    refine W.seq (fun K5 hK5=>?_)
    refine W.region ?_
    refine O.ex (Ex.move rfl) rfl ?_
    refine O.ex (by first|exact Ex.lenR Try.runUnderlying28 rfl|exact Ex.lenIn Try.runUnderlying28 rfl|exact Ex.lenL Try.runUnderlying28 rfl|exact Ex.len rfl Try.runUnderlying28 rfl) rfl ?_
    refine O.ex (Ex.assign rfl) rfl ?_
    refine O.nil ?_
    refine hK5 _ _ _ ?_
    refine W.seq (fun K6 hK6=>?_)
    refine W.seq (fun K7 hK7=>?_)
    refine W.region ?_
    refine O.ex (Ex.move rfl) rfl ?_
    refine O.ex (Ex.move rfl) rfl ?_
    refine O.ex (Ex.eqlI rfl rfl) rfl ?_
    refine O.nil ?_
    refine hK7 _ _ _ ?_
    refine W.known_f rfl (by first|exact decide_eq_false (by omega)|rfl|(simp; done)) ?_
    refine W.skip ?_
    refine hK6 _ _ _ ?_
    refine W.seq (fun K8 hK8=>?_)
    refine W.seq (fun K9 hK9=>?_)
    refine W.region ?_
    refine O.ex (Ex.move rfl) rfl ?_
    refine O.ex (Ex.move rfl) rfl ?_
    refine O.ex (by first|exact Ex.addI rfl rfl|exact Ex.add rfl rfl rfl) rfl ?_
    refine O.ex (Ex.move rfl) rfl ?_
    refine O.ex (Ex.cap Try.runUnderlying28 rfl) rfl ?_
    refine O.ex (Ex.gtr rfl rfl) rfl ?_
    refine O.nil ?_
    refine hK9 _ _ _ ?_
    first|refine W.cond_p rfl (fun hgrow=>?_) (fun hroom=>?_)|refine W.cond_b rfl (fun hgrow=>?_) (fun hroom=>?_)
    · refine W.seq (fun K10 hK10=>?_)
      refine W.region ?_
      refine O.ex (Ex.move rfl) rfl ?_
      refine O.ex (Ex.move rfl) rfl ?_
      refine O.ex (Ex.sliceHiN Try.runUnderlying28 Try.sizeOf3 rfl rfl (by omega) (by omega)) rfl ?_
      refine O.ex (Ex.move rfl) rfl ?_
      refine O.ex (Ex.move rfl) rfl ?_
      refine O.ex (by first|exact Ex.addI rfl rfl|exact Ex.add rfl rfl rfl) rfl ?_
      refine O.ex (Ex.move rfl) rfl ?_
      refine O.ex (by first|exact Ex.subI rfl rfl|exact Ex.sub rfl rfl rfl) rfl ?_
      have hsp : xs.map (Value.int .i64) ++ rest = (xs.take i).map (Value.int .i64) ++ ((xs.drop i).map (Value.int .i64) ++ rest):=by rw [← List.append_assoc,← List.map_append,List.take_append_drop]
      have H : Holds w (pt b (.cells ((xs.take i).map (Value.int .i64) ++ ((xs.drop i).map (Value.int .i64) ++ rest)).toArray 3 (0,0))::pt bu (.cells (Value.int .i64 x::restu).toArray 3 (0,0))::L):=by rw [← hsp]; exact Holds.to (by assumption)
      refine O.appendZ (n:=i) (kk:=xs.length + 1 - i) (bt:=8) Try.runUnderlying28 Try.runUnderlying3 Try.typeInfo3 rfl Try.sizeOf3 Try.zeroValue3 rfl rfl (by omega) (by simp; omega) (by omega) (by omega) (by omega) (by omega) H (fun g capQ rest2 w hl2 H=>?_)
      refine O.ex (Ex.assign rfl) rfl ?_
      refine O.nil ?_
      refine hK10 _ _ _ ?_
      refine W.seq (fun K11 hK11=>?_)
      refine W.region ?_
      simp only [List.length_append,List.length_map,List.length_take,List.length_replicate] at hl2
      refine O.ex (Ex.move rfl) rfl ?_
      refine O.ex (Ex.move rfl) rfl ?_
      refine O.ex (Ex.sliceLoN Try.runUnderlying28 Try.sizeOf3 rfl rfl (by omega) (by omega)) rfl ?_
      rw [Int.toNat_natCast,cutV_mk (by omega)]
      refine O.ex (Ex.move rfl) rfl ?_
      refine O.copyE Try.runUnderlying28 Try.sizeOf3 rfl rfl [.int .i64 x] (by simp; omega) (by
        have:=pt_cells (olds:=[Value.int .i64 x]) (rest:=restu) (b:=bu) (T:=3) (Holds.to (by assumption)) 0
        simpa using this) (by intro u hu; rw [List.mem_singleton.1 hu]; rfl) H (by simp; omega) (fun w H=>?_)
      refine O.nil ?_
      refine hK11 _ _ _ ?_
      refine W.seq (fun K12 hK12=>?_)
      refine W.drawTo _ (.take 0 (.take 1 (.take 2 (.take 3 (.take 4 (.take 5 (.take 6 (.take 7 (.one 8 .nil))))))))) (mixed) (fun _ _ _ _ h=>h) (by assumption) (PP.refl _) (by decide +kernel) (fun w H=>?_)
      refine OQ.ex rfl (fun w H=>(Ex.move rfl)) rfl ?_
      refine OQ.ex rfl (fun w H=>(Ex.move rfl)) rfl ?_
      refine OQ.ex rfl (fun w H=>(Ex.move rfl)) rfl ?_
      refine OQ.ex rfl (fun w H=>(by first|exact Ex.addI rfl rfl|exact Ex.add rfl rfl rfl)) rfl ?_
      refine OQ.ex rfl (fun w H=>(Ex.sliceLoN Try.runUnderlying28 Try.sizeOf3 rfl rfl (by omega) (by omega))) rfl ?_
      refine OQ.ex rfl (fun w H=>(Ex.move rfl)) rfl ?_
      refine OQ.ex rfl (fun w H=>(Ex.move rfl)) rfl ?_
      refine OQ.ex rfl (fun w H=>(Ex.sliceLoN Try.runUnderlying28 Try.sizeOf3 rfl rfl (by omega) (by omega))) rfl ?_
      refine OQ.last rfl (by decide +kernel) ?_
      rw [cutV_mk (show ((i : Int) + ((1 : Nat) : Int)).toNat < capQ by omega),cutV_mk (show ((i : Nat) : Int).toNat < cap by omega)]
      have hD : ∀ j u,((xs.drop i).map (Value.int .i64))[j]? = some u → w.cell? ((Addr.mk b (0 + ((i : Nat) : Int).toNat) none).add j) = some u:=by
        have:=pt_cells (olds:=(xs.take i).map (Value.int .i64) ++ (xs.drop i).map (Value.int .i64)) (rest:=rest) (b:=b) (T:=3) (L:=[]) (w:=w) (by
          rw [List.append_assoc]; exact Holds.to (by assumption)) i
        rw [List.drop_append,List.drop_eq_nil_of_le (by simp; omega),List.length_map,List.length_take,Nat.min_eq_left hi,Nat.sub_self,List.drop_zero,List.nil_append] at this
        rwa [Int.toNat_natCast,Nat.zero_add]
      refine O.copyE Try.runUnderlying28 Try.sizeOf3 rfl rfl ((xs.drop i).map (Value.int .i64)) (by simp; omega) hD (by intro u hu; obtain ⟨a,_,rfl⟩:=List.mem_map.1 hu; rfl) H (by simp; omega) (fun w H=>?_)
      refine O.nil ?_
      refine hK12 _ _ _ ?_
      refine W.seq (fun K13 hK13=>?_)
      refine W.region ?_
      refine O.ex (Ex.move rfl) rfl ?_
      refine O.ex (Ex.assign rfl) rfl ?_
      refine O.nil ?_
      refine hK13 _ _ _ ?_
      refine W.ret ?_
      try dsimp only [thenQ,blockQ,retQ]
      first|refine ⟨_,⟨_,_,rfl,rfl,rfl⟩,?_⟩|(refine retD_mark ?_; intro w H; refine ⟨_,⟨_,_,rfl,rfl,rfl⟩,?_⟩)|(refine retD_mark2 ?_; intro w H; refine ⟨_,⟨_,_,rfl,rfl,rfl⟩,?_⟩)
      refine ⟨rfl,?_⟩
      have e1 : ((i : Int) + ((1 : Nat) : Int)).toNat = i + 1:=by omega
      have el : (xs.take i ++ x::xs.drop i).length = xs.length + 1:=by simp; omega
      have em : (xs.take i ++ x::xs.drop i).map (Value.int .i64) = (xs.take i).map (Value.int .i64) ++ Value.int .i64 x::(xs.drop i).map (Value.int .i64):=by simp
      simp only [e1,Nat.zero_add] at H
      first
      | (rw [ins_cells (by simp; omega)] at H
         rw [show ((xs.take i).map (Value.int .i64) ++ List.replicate (xs.length + 1 - i) (Value.int .i64 0) ++ rest2).take i = (xs.take i).map (Value.int .i64) from by rw [List.append_assoc,List.take_append_of_le_length (by simp; omega),List.take_of_length_le (by simp; omega)],← em] at H
         have:=arr_mk (T:=3) (e:=Value.int .i64) (xs:=xs.take i ++ x::xs.drop i) (cap:=capQ) (by simp only [List.length_append,List.length_cons,List.length_drop,List.length_map,List.length_take,List.length_replicate]; omega) (H.cons (fun f h=>sep_drop (sep_drop h)))
         rw [el] at this
         rw [show i + (xs.length + 1 - i) = xs.length + 1 by omega]
         exact this)
      | (simp only [Int.toNat_natCast] at H
         rw [ins_cells2 (by simp; omega)] at H
         rw [show (xs.map (Value.int .i64) ++ rest).take i = (xs.take i).map (Value.int .i64) from by rw [List.take_append_of_le_length (by simp; omega),List.map_take],← em] at H
         have:=arr_mk (T:=3) (e:=Value.int .i64) (xs:=xs.take i ++ x::xs.drop i) (cap:=cap) (by simp only [List.length_append,List.length_cons,List.length_drop,List.length_map,List.length_take]; omega) (H.cons (fun f h=>sep_drop h))
         rw [el] at this
         rw [show ((xs.length : Int) + ((1 : Nat) : Int)).toNat = xs.length + 1 by omega]
         exact this)
    · refine W.skip ?_
      refine hK8 _ _ _ ?_
      refine W.seq (fun K14 hK14=>?_)
      refine W.region ?_
      refine O.ex (Ex.move rfl) rfl ?_
      refine O.ex (Ex.move rfl) rfl ?_
      refine O.ex (Ex.move rfl) rfl ?_
      refine O.ex (by first|exact Ex.addI rfl rfl|exact Ex.add rfl rfl rfl) rfl ?_
      refine O.ex (Ex.sliceHiN Try.runUnderlying28 Try.sizeOf3 rfl rfl (by omega) (by omega)) rfl ?_
      refine O.ex (Ex.assign rfl) rfl ?_
      refine O.nil ?_
      refine hK14 _ _ _ ?_
      refine W.seq (fun K15 hK15=>?_)
      refine W.seq (fun K16 hK16=>?_)
      refine W.region ?_
      refine O.ex (Ex.move rfl) rfl ?_
      refine O.ex (Ex.move rfl) rfl ?_
      refine O.ex (Ex.move rfl) rfl ?_
      refine O.ex (Ex.move rfl) rfl ?_
      refine O.ex (by first|exact Ex.addI rfl rfl|exact Ex.add rfl rfl rfl) rfl ?_
      refine O.ex (Ex.sliceLoN Try.runUnderlying28 Try.sizeOf3 rfl rfl (by omega) (by omega)) rfl ?_
      rw [cutV_mk (show ((i : Int) + ((1 : Nat) : Int)).toNat < cap by omega)]
      refine O.callE rfl (overlaps_no (cs:=Value.int .i64 x::restu) (cs2:=xs.map (Value.int .i64) ++ rest) (L:=L) (by rw [List.length_append,List.length_map]; omega) (Holds.to (by assumption))) ?_
      refine O.ex (by first|exact Ex.notD rfl|exact Ex.not rfl) rfl ?_
      refine O.nil ?_
      refine hK16 _ _ _ ?_
      refine W.known_t rfl (by first|exact decide_eq_false (by omega)|rfl|(simp; done)) ?_
      refine W.seq (fun K17 hK17=>?_)
      refine W.drawTo _ (.take 0 (.take 1 (.take 2 (.take 3 (.take 4 (.take 5 (.take 6 (.take 7 (.one 8 .nil))))))))) (mixed) (fun _ _ _ _ h=>h) (by assumption) (PP.refl _) (by decide +kernel) (fun w H=>?_)
      refine OQ.ex rfl (fun w H=>(Ex.move rfl)) rfl ?_
      refine OQ.ex rfl (fun w H=>(Ex.move rfl)) rfl ?_
      refine OQ.ex rfl (fun w H=>(Ex.move rfl)) rfl ?_
      refine OQ.ex rfl (fun w H=>(by first|exact Ex.addI rfl rfl|exact Ex.add rfl rfl rfl)) rfl ?_
      refine OQ.ex rfl (fun w H=>(Ex.sliceLoN Try.runUnderlying28 Try.sizeOf3 rfl rfl (by omega) (by omega))) rfl ?_
      refine OQ.ex rfl (fun w H=>(Ex.move rfl)) rfl ?_
      refine OQ.ex rfl (fun w H=>(Ex.move rfl)) rfl ?_
      refine OQ.ex rfl (fun w H=>(Ex.sliceLoN Try.runUnderlying28 Try.sizeOf3 rfl rfl (by omega) (by omega))) rfl ?_
      refine OQ.last rfl (by decide +kernel) ?_
      rw [cutV_mk (show ((i : Int) + ((1 : Nat) : Int)).toNat < cap by omega),cutV_mk (show ((i : Nat) : Int).toNat < cap by omega)]
      have hD : ∀ j u,((xs.drop i).map (Value.int .i64))[j]? = some u → w.cell? ((Addr.mk b (0 + ((i : Nat) : Int).toNat) none).add j) = some u:=by
        have:=pt_cells (olds:=xs.map (Value.int .i64)) (rest:=rest) (b:=b) (T:=3) (L:=[]) (w:=w) (Holds.to (by assumption)) i
        rw [← List.map_drop] at this
        rwa [Int.toNat_natCast,Nat.zero_add]
      refine O.copyE Try.runUnderlying28 Try.sizeOf3 rfl rfl ((xs.drop i).map (Value.int .i64)) (by simp; omega) hD (by intro u hu; obtain ⟨a,_,rfl⟩:=List.mem_map.1 hu; rfl) (Holds.to (M:=pt b (.cells (xs.map (Value.int .i64) ++ rest).toArray 3 (0,0))::pt bu (.cells (Value.int .i64 x::restu).toArray 3 (0,0))::L) (by assumption)) (by simp; omega) (fun w H=>?_)
      refine O.nil ?_
      refine hK17 _ _ _ ?_
      refine W.seq (fun K18 hK18=>?_)
      refine W.region ?_
      refine O.ex (Ex.move rfl) rfl ?_
      refine O.ex (Ex.move rfl) rfl ?_
      refine O.ex (Ex.sliceLoN Try.runUnderlying28 Try.sizeOf3 rfl rfl (by omega) (by omega)) rfl ?_
      rw [cutV_mk (show ((i : Nat) : Int).toNat < cap by omega)]
      refine O.ex (Ex.move rfl) rfl ?_
      refine O.copyE Try.runUnderlying28 Try.sizeOf3 rfl rfl [.int .i64 x] (by simp; omega) (by
        have:=pt_cells (olds:=[Value.int .i64 x]) (rest:=restu) (b:=bu) (T:=3) (L:=[]) (w:=w) (Holds.to (by assumption)) 0
        simpa using this) (by intro u hu; rw [List.mem_singleton.1 hu]; rfl) H (by simp; omega) (fun w H=>?_)
      refine O.nil ?_
      refine hK18 _ _ _ ?_
      refine W.seq (fun K19 hK19=>?_)
      refine W.region ?_
      refine O.ex (Ex.move rfl) rfl ?_
      refine O.ex (Ex.assign rfl) rfl ?_
      refine O.nil ?_
      refine hK19 _ _ _ ?_
      refine W.ret ?_
      try dsimp only [thenQ,blockQ,retQ]
      first|refine ⟨_,⟨_,_,rfl,rfl,rfl⟩,?_⟩|(refine retD_mark ?_; intro w H; refine ⟨_,⟨_,_,rfl,rfl,rfl⟩,?_⟩)|(refine retD_mark2 ?_; intro w H; refine ⟨_,⟨_,_,rfl,rfl,rfl⟩,?_⟩)
      refine ⟨rfl,?_⟩
      have e1 : ((i : Int) + ((1 : Nat) : Int)).toNat = i + 1:=by omega
      have el : (xs.take i ++ x::xs.drop i).length = xs.length + 1:=by simp; omega
      have em : (xs.take i ++ x::xs.drop i).map (Value.int .i64) = (xs.take i).map (Value.int .i64) ++ Value.int .i64 x::(xs.drop i).map (Value.int .i64):=by simp
      simp only [e1,Nat.zero_add] at H
      first
      | (rw [ins_cells (by simp; omega)] at H
         rw [show ((xs.take i).map (Value.int .i64) ++ List.replicate (xs.length + 1 - i) (Value.int .i64 0) ++ rest2).take i = (xs.take i).map (Value.int .i64) from by rw [List.append_assoc,List.take_append_of_le_length (by simp; omega),List.take_of_length_le (by simp; omega)],← em] at H
         have:=arr_mk (T:=3) (e:=Value.int .i64) (xs:=xs.take i ++ x::xs.drop i) (cap:=capQ) (by simp only [List.length_append,List.length_cons,List.length_drop,List.length_map,List.length_take,List.length_replicate]; omega) (H.cons (fun f h=>sep_drop (sep_drop h)))
         rw [el] at this
         rw [show i + (xs.length + 1 - i) = xs.length + 1 by omega]
         exact this)
      | (simp only [Int.toNat_natCast] at H
         rw [ins_cells2 (by simp; omega)] at H
         rw [show (xs.map (Value.int .i64) ++ rest).take i = (xs.take i).map (Value.int .i64) from by rw [List.take_append_of_le_length (by simp; omega),List.map_take],← em] at H
         have:=arr_mk (T:=3) (e:=Value.int .i64) (xs:=xs.take i ++ x::xs.drop i) (cap:=cap) (by simp only [List.length_append,List.length_cons,List.length_drop,List.length_map,List.length_take]; omega) (H.cons (fun f h=>sep_drop h))
         rw [el] at this
         rw [show ((xs.length : Int) + ((1 : Nat) : Int)).toNat = xs.length + 1 by omega]
         exact this)
end Go.Proofs.Ytliofdfhimmjmaa
