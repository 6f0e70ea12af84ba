import Derived.Test.YtliofdfhimmjmaaNearLaw
import Derived.Test.YtliofdfhimmjmaaHeapAll
import Derived.Test.YtliofdfhimmjmaaRefAll
import Derived.Test.YtliofdfhimmjmaaMesh
namespace Go.Proofs.Ytliofdfhimmjmaa
open Go.Rr Go Gr Hp
set_option linter.unusedVariables false
set_option linter.unusedSimpArgs false
theorem Ex.cast {P : Program} {N : Nat} {l : Regs} {op : Op} {ty : TypeId} {w w' : World} {u v : Value} (h : Ex P N l op ty w u w') (e : u = v) : Ex P N l op ty w v w':=e ▸ h
theorem and_mask {n : Nat} (h : n ≤ 24) : n &&& 4294967295 = n:=by
  have:=Nat.and_two_pow_sub_one_eq_mod n 32
  rw [show (4294967295 : Nat) = 2 ^ 32 - 1 from rfl,this]; omega
theorem mul64_ct {w : World} {n : Nat} {L : List HProp} (hn : n ≤ 24) (H : Holds w L) : CT Try.prog 112 [.int .u64 1,.int .u64 (n : Int)] w fun u w'=>u = .tuple #[.int .u64 0,.int .u64 (n : Int)] ∧ Holds w' L:=by
  have e1 : n / 2 ^ 32 = 0:=Nat.div_eq_of_lt (by omega)
  have e2 : IntKind.u64.wrap (1 * (n : Int)) = (n : Int):=by rw [Int.one_mul]; exact IntWalk.u64_in _ ⟨by omega,by omega⟩
  have e3 : IntKind.u64.wrap (0 * (n : Int)) = 0:=by rw [Int.zero_mul]; rfl
  refine CT.enter (N:=51) Try.func112 rfl rfl rfl rfl ?_
  refine W.seq (fun K0 hK0=>?_)
  refine W.region ?_
  refine O.ex (Ex.assign rfl) rfl ?_
  refine O.ex (Ex.assign rfl) rfl ?_
  refine O.nil ?_
  refine hK0 _ _ _ ?_
  refine W.seq (fun K1 hK1=>?_)
  refine W.region ?_
  refine O.ex (Ex.move rfl) rfl ?_
  refine O.ex (v:=.int .u64 1) (Ex.and64 1 4294967295 rfl rfl) rfl ?_
  refine O.ex (Ex.assign rfl) rfl ?_
  refine O.nil ?_
  refine hK1 _ _ _ ?_
  refine W.seq (fun K2 hK2=>?_)
  refine W.region ?_
  refine O.ex (Ex.move rfl) rfl ?_
  refine O.ex (v:=.int .u64 0) (Ex.shr64 1 32 rfl rfl) rfl ?_
  refine O.ex (Ex.assign rfl) rfl ?_
  refine O.nil ?_
  refine hK2 _ _ _ ?_
  refine W.seq (fun K3 hK3=>?_)
  refine W.region ?_
  refine O.ex (Ex.move rfl) rfl ?_
  refine O.ex (v:=.int .u64 (n : Int)) (Ex.cast (Ex.and64 n 4294967295 rfl rfl) (by rw [and_mask hn])) rfl ?_
  refine O.ex (Ex.assign rfl) rfl ?_
  refine O.nil ?_
  refine hK3 _ _ _ ?_
  refine W.seq (fun K4 hK4=>?_)
  refine W.region ?_
  refine O.ex (Ex.move rfl) rfl ?_
  refine O.ex (v:=.int .u64 0) (Ex.cast (Ex.shr64 n 32 rfl rfl) (by rw [e1]; rfl)) rfl ?_
  refine O.ex (Ex.assign rfl) rfl ?_
  refine O.nil ?_
  refine hK4 _ _ _ ?_
  refine W.seq (fun K5 hK5=>?_)
  refine W.region ?_
  refine O.ex (Ex.move rfl) rfl ?_
  refine O.ex (Ex.move rfl) rfl ?_
  refine O.ex (Ex.mul rfl rfl e2) rfl ?_
  refine O.ex (Ex.assign rfl) rfl ?_
  refine O.nil ?_
  refine hK5 _ _ _ ?_
  refine W.seq (fun K6 hK6=>?_)
  refine W.region ?_
  refine O.ex (Ex.move rfl) rfl ?_
  refine O.ex (Ex.move rfl) rfl ?_
  refine O.ex (Ex.mul rfl rfl e3) rfl ?_
  refine O.ex (Ex.move rfl) rfl ?_
  refine O.ex (v:=.int .u64 0) (Ex.cast (Ex.shr64 n 32 rfl rfl) (by rw [e1]; rfl)) rfl ?_
  refine O.ex (v:=.int .u64 0) (Ex.add64 0 0 rfl rfl) rfl ?_
  refine O.ex (Ex.assign rfl) rfl ?_
  refine O.nil ?_
  refine hK6 _ _ _ ?_
  refine W.seq (fun K7 hK7=>?_)
  refine W.region ?_
  refine O.ex (Ex.move rfl) rfl ?_
  refine O.ex (v:=.int .u64 0) (Ex.and64 0 4294967295 rfl rfl) rfl ?_
  refine O.ex (Ex.assign rfl) rfl ?_
  refine O.nil ?_
  refine hK7 _ _ _ ?_
  refine W.seq (fun K8 hK8=>?_)
  refine W.region ?_
  refine O.ex (Ex.move rfl) rfl ?_
  refine O.ex (v:=.int .u64 0) (Ex.shr64 0 32 rfl rfl) rfl ?_
  refine O.ex (Ex.assign rfl) rfl ?_
  refine O.nil ?_
  refine hK8 _ _ _ ?_
  refine W.seq (fun K9 hK9=>?_)
  refine W.region ?_
  refine O.ex (Ex.move rfl) rfl ?_
  refine O.ex (Ex.move rfl) rfl ?_
  refine O.ex (Ex.move rfl) rfl ?_
  refine O.ex (v:=.int .u64 0) (Ex.mul rfl rfl rfl) rfl ?_
  refine O.ex (v:=.int .u64 0) (Ex.add64 0 0 rfl rfl) rfl ?_
  refine O.ex (Ex.assign rfl) rfl ?_
  refine O.nil ?_
  refine hK9 _ _ _ ?_
  refine W.seq (fun K10 hK10=>?_)
  refine W.region ?_
  refine O.ex (Ex.move rfl) rfl ?_
  refine O.ex (Ex.move rfl) rfl ?_
  refine O.ex (v:=.int .u64 0) (Ex.mul rfl rfl rfl) rfl ?_
  refine O.ex (Ex.move rfl) rfl ?_
  refine O.ex (v:=.int .u64 0) (Ex.add64 0 0 rfl rfl) rfl ?_
  refine O.ex (Ex.move rfl) rfl ?_
  refine O.ex (v:=.int .u64 0) (Ex.shr64 0 32 rfl rfl) rfl ?_
  refine O.ex (v:=.int .u64 0) (Ex.add64 0 0 rfl rfl) rfl ?_
  refine O.ex (Ex.assign rfl) rfl ?_
  refine O.nil ?_
  refine hK10 _ _ _ ?_
  refine W.seq (fun K11 hK11=>?_)
  refine W.region ?_
  refine O.ex (Ex.move rfl) rfl ?_
  refine O.ex (Ex.move rfl) rfl ?_
  refine O.ex (Ex.mul rfl rfl e2) rfl ?_
  refine O.ex (Ex.assign rfl) rfl ?_
  refine O.nil ?_
  refine hK11 _ _ _ ?_
  refine W.ret ?_
  try dsimp only [thenQ,blockQ,retQ]
  first|refine ⟨_,⟨_,_,rfl,rfl,_,_,rfl,rfl,rfl⟩,?_⟩|(refine retD_mark ?_; intro w H; refine ⟨_,⟨_,_,rfl,rfl,_,_,rfl,rfl,rfl⟩,?_⟩)|(refine retD_mark2 ?_; intro w H; refine ⟨_,⟨_,_,rfl,rfl,_,_,rfl,rfl,rfl⟩,?_⟩)
  exact ⟨rfl,by first|assumption|exact Holds.to (by assumption)⟩
theorem mulB_ct {w : World} {n : Nat} {L : List HProp} (hn : n ≤ 24) (H : Holds w L) : CT Try.prog 92 [.int .u64 1,.int .u64 (n : Int)] w fun u w'=>u = .tuple #[.int .u64 0,.int .u64 (n : Int)] ∧ Holds w' L:=by
  refine CT.enter (N:=30) Try.func92 rfl rfl rfl rfl ?_
  refine W.seq (fun K0 hK0=>?_)
  refine W.region ?_
  refine O.ex (Ex.assign rfl) rfl ?_
  refine O.ex (Ex.assign rfl) rfl ?_
  refine O.nil ?_
  refine hK0 _ _ _ ?_
  refine W.seq (fun K1 hK1=>?_)
  refine W.cond_f rfl ?_
  refine W.skip ?_
  refine hK1 _ _ _ ?_
  refine W.seq (fun K2 hK2=>?_)
  refine W.region ?_
  refine O.ex (Ex.move rfl) rfl ?_
  refine O.ex (Ex.move rfl) rfl ?_
  refine O.callF Try.call112 rfl rfl (CT.mono (mul64_ct hn (Holds.to (by assumption))) ?_)
  rintro _ w ⟨rfl,H⟩
  refine O.ex (Ex.move rfl) rfl ?_
  refine O.ex (Ex.extract rfl rfl) rfl ?_
  refine O.ex (Ex.extract rfl rfl) rfl ?_
  refine O.ex (Ex.assign rfl) rfl ?_
  refine O.ex (Ex.assign rfl) rfl ?_
  refine O.nil ?_
  refine hK2 _ _ _ ?_
  refine W.seq (fun K3 hK3=>?_)
  refine W.region ?_
  refine O.ex (Ex.move rfl) rfl ?_
  refine O.ex (Ex.move rfl) rfl ?_
  refine O.ex (Ex.assign rfl) rfl ?_
  refine O.ex (Ex.assign rfl) rfl ?_
  refine O.nil ?_
  refine hK3 _ _ _ ?_
  refine W.ret ?_
  try dsimp only [thenQ,blockQ,retQ]
  first|refine ⟨_,⟨_,_,rfl,rfl,_,_,rfl,rfl,rfl⟩,?_⟩|(refine retD_mark ?_; intro w H; refine ⟨_,⟨_,_,rfl,rfl,_,_,rfl,rfl,rfl⟩,?_⟩)|(refine retD_mark2 ?_; intro w H; refine ⟨_,⟨_,_,rfl,rfl,_,_,rfl,rfl,rfl⟩,?_⟩)
  exact ⟨rfl,by first|assumption|exact Holds.to (by assumption)⟩
theorem rep_fill {α : Type} (a z : α) {k N : Nat} (hk : k ≤ N) : ∀ m,m = min (N - k) k → (List.replicate k a ++ List.replicate (N - k) z).take k ++ (List.replicate k a ++ List.replicate (N - k) z).take m ++ (List.replicate k a ++ List.replicate (N - k) z).drop (k + m) = List.replicate (k + m) a ++ List.replicate (N - (k + m)) z:=by
  intro m hm
  rw [List.take_left' (by simp),List.take_append_of_le_length (by simp; omega),List.take_replicate,List.drop_append,List.drop_of_length_le (by simp),List.length_replicate,List.nil_append,List.drop_replicate,List.replicate_append_replicate]
  rw [show min m k = m by omega,show N - k - (k + m - k) = N - (k + m) by omega]
set_option maxHeartbeats 1000000 in
theorem repeat_ct {w : World} {n z : Int} {v : Value} {L : List HProp} (h1 : 1 ≤ n) (h2 : n ≤ 24) (H : Holds w (arr 3 (Value.int .i64) v [z]::L)) :
    CT Try.prog 67 [v,.int .i64 n] w fun u w'=>u.oneCell' = true ∧ Holds w' (arr 3 (Value.int .i64) u (List.replicate n.toNat z)::L):=by
  obtain ⟨N,hN⟩ : ∃ N : Nat,(N : Int) = n:=⟨n.toNat,by omega⟩
  have hNn : n.toNat = N:=by omega
  rw [hNn,← hN]
  obtain ⟨g,cg,rs,rfl,hcg,H⟩:=arr_some H (Nat.zero_lt_one)
  have H : Holds w (pt g (.cells (([z].map (Value.int .i64)) ++ rs).toArray 3 (0,0))::L):=H
  have ew : IntKind.u64.wrap (N : Int) = (N : Int):=IntWalk.u64_in _ ⟨by omega,by omega⟩
  refine CT.enter (N:=48) Try.func67 rfl rfl rfl rfl ?_
  refine W.seq (fun K0 hK0=>?_)
  refine W.region ?_
  refine O.ex (Ex.assign rfl) rfl ?_
  refine O.nil ?_
  refine hK0 _ _ _ ?_
  refine W.seq (fun K1 hK1=>?_)
  refine W.seq (fun K2 hK2=>?_)
  refine W.region ?_
  refine O.ex (Ex.move rfl) rfl ?_
  refine O.ex (Ex.lss rfl rfl) rfl ?_
  refine O.nil ?_
  refine hK2 _ _ _ ?_
  refine W.known_f rfl (decide_eq_false (by omega)) ?_
  refine W.skip ?_
  refine hK1 _ _ _ ?_
  refine W.seq (fun K3 hK3=>?_)
  refine W.region ?_
  refine O.ex (Ex.move rfl) rfl ?_
  refine O.ex (v:=.int .i64 1) (Ex.len rfl Try.runUnderlying28 rfl) rfl ?_
  refine O.ex (v:=.int .u64 1) (Ex.cast (Ex.convW (m:=1) Try.runUnderlying3 Try.runUnderlying122 rfl) rfl) rfl ?_
  refine O.ex (Ex.move rfl) rfl ?_
  refine O.ex (v:=.int .u64 (N : Int)) (Ex.cast (Ex.convW Try.runUnderlying3 Try.runUnderlying122 rfl) (by rw [ew])) rfl ?_
  refine O.callF Try.call92 rfl rfl (CT.mono (mulB_ct (n:=N) (by omega) (Holds.to (by assumption))) ?_)
  rintro _ w ⟨rfl,H⟩
  refine O.ex (Ex.move rfl) rfl ?_
  refine O.ex (Ex.extract rfl rfl) rfl ?_
  refine O.ex (Ex.extract rfl rfl) rfl ?_
  refine O.ex (Ex.assign rfl) rfl ?_
  refine O.ex (Ex.assign rfl) rfl ?_
  refine O.nil ?_
  refine hK3 _ _ _ ?_
  refine W.seq (fun K4 hK4=>?_)
  refine W.seq (fun K5 hK5=>?_)
  refine W.region ?_
  refine O.ex (Ex.move rfl) rfl ?_
  refine O.ex (Ex.gtr rfl rfl) rfl ?_
  refine O.ex (Ex.move rfl) rfl ?_
  refine O.known (t:=23) (c:=false) rfl (decide_eq_false (by omega)) ?_
  refine O.guard_t rfl rfl ?_
  refine O.ex (Ex.move rfl) rfl ?_
  refine O.guard_t rfl rfl ?_
  refine O.ex (Ex.gtr rfl rfl) rfl ?_
  refine O.ex (Ex.pick_f rfl rfl) rfl ?_
  refine O.nil ?_
  refine hK5 _ _ _ ?_
  refine W.known_f rfl (decide_eq_false (by omega)) ?_
  refine W.skip ?_
  refine hK4 _ _ _ ?_
  refine W.seq (fun K6 hK6=>?_)
  refine W.region ?_
  refine O.ex (Ex.move rfl) rfl ?_
  refine O.ex (by first|exact Ex.convToI Try.runUnderlying122 Try.runUnderlying3 rfl|exact Ex.convW Try.runUnderlying122 Try.runUnderlying3 rfl) rfl ?_
  refine O.makeR (0 : Int) (e:=Value.int .i64) (bt:=8) Try.runUnderlying28 Try.sizeOf3 Try.zeroValue3 Try.typeInfo3 rfl rfl rfl (fun s30 w hs30 H=>?_)
  refine O.ex (Ex.assign rfl) rfl ?_
  refine O.nil ?_
  refine hK6 _ _ _ ?_
  refine W.seq (fun K7 hK7=>?_)
  refine W.region ?_
  obtain ⟨b,cap,rest,rfl,hcap,H⟩:=arr_some H (by rw [List.length_replicate]; omega)
  rw [List.length_replicate] at hcap ⊢
  have hcap2 : N + rest.length = cap:=by omega
  have hNN : ((N : Int)).toNat = N:=Int.toNat_natCast N
  rw [hNN] at H ⊢
  refine O.ex (Ex.move rfl) rfl ?_
  refine O.ex (Ex.move rfl) rfl ?_
  refine O.copyE (b:=b) (od:=0) (ld:=N) (cd:=cap) (bs:=g) (oo:=0) (ls:=1) (cs:=cg) (c:=(List.replicate N (0 : Int)).map (Value.int .i64) ++ rest) Try.runUnderlying28 Try.sizeOf3 rfl rfl [Value.int .i64 z] (by simp; omega) (pt_cells (T:=3) (olds:=[z].map (Value.int .i64)) (rest:=rs) (Holds.to (M:=pt g (.cells (([z].map (Value.int .i64)) ++ rs).toArray 3 (0,0))::[]) H) 0) (by intro u hu; simp at hu; subst hu; rfl) H (by simp; omega) (fun w H=>?_)
  refine O.ex (Ex.assign rfl) rfl ?_
  refine O.nil ?_
  refine hK7 _ _ _ ?_
  refine W.seq (fun K8 hK8=>?_)
  refine W.block ?_
  have H : Holds w (pt b (.cells ((List.replicate 1 z ++ List.replicate (N - 1) (0 : Int)).map (Value.int .i64) ++ rest).toArray 3 (0,0))::L):=by
    have e : (List.replicate 1 z ++ List.replicate (N - 1) (0 : Int)).map (Value.int .i64) ++ rest = ((List.replicate N (0 : Int)).map (Value.int .i64) ++ rest).take 0 ++ [Value.int .i64 z] ++ ((List.replicate N (0 : Int)).map (Value.int .i64) ++ rest).drop (0 + [Value.int .i64 z].length):=by
      obtain ⟨M,rfl⟩ : ∃ M,N = M + 1:=⟨N - 1,by omega⟩
      simp [List.replicate_succ]
    rw [e]; exact Holds.to H
  refine W.loop (σ:=Nat) (fun k=>[(7,.slice (some ⟨b,0,none⟩) N cap),(8,.int .i64 (k : Int))]) (fun k ds w=>ds = [] ∧ 1 ≤ k ∧ k ≤ N ∧ Holds w (pt b (.cells ((List.replicate k z ++ List.replicate (N - k) (0 : Int)).map (Value.int .i64) ++ rest).toArray 3 (0,0))::L)) (fun k=>N - k) 1 ⟨rfl,rfl,trivial⟩ ⟨rfl,by omega,by omega,H⟩ ?_
  clear H
  rintro k _ w ⟨rfl,hk1,hkN,H⟩
  refine W.seq (fun K9 hK9=>?_)
  refine W.seq (fun K10 hK10=>?_)
  refine W.region ?_
  refine O.ex (Ex.move rfl) rfl ?_
  refine O.ex (Ex.move rfl) rfl ?_
  refine O.ex (v:=.int .i64 (N : Int)) (Ex.len rfl Try.runUnderlying28 rfl) rfl ?_
  refine O.ex (Ex.lss rfl rfl) rfl ?_
  refine O.nil ?_
  refine hK10 _ _ _ ?_
  first|refine W.cond_p rfl (fun hlt=>?_) (fun hge=>?_)|refine W.cond_b rfl (fun hlt=>?_) (fun hge=>?_)
  · refine W.skip ?_
    refine hK9 _ _ _ ?_
    refine W.block ?_
    have hkl : k < N:=by omega
    have hkt : ((k : Nat) : Int).toNat = k:=Int.toNat_natCast k
    refine W.drawTo (([] : List HProp)) (.take 0 (.take 1 (.take 2 (.take 3 (.take 4 (.take 5 (.take 6 (.one 7 (.take 8 (.take 9 .nil)))))))))) (mixed) (fun _ _ _ _ h=>h) (by assumption) PP.auto (by decide +kernel) (fun w H=>?_)
    refine OQ.ex rfl (fun w H=>(Ex.move rfl)) rfl ?_
    refine OQ.ex rfl (fun w H=>(Ex.move rfl)) rfl ?_
    refine OQ.ex rfl (fun w H=>(Ex.move rfl)) rfl ?_
    refine OQ.ex rfl (fun w H=>(Ex.sliceLoN (T:=3) (sz:=1) Try.runUnderlying28 Try.sizeOf3 rfl rfl (by omega) (by omega))) rfl ?_
    refine OQ.ex rfl (fun w H=>(Ex.move rfl)) rfl ?_
    refine OQ.ex rfl (fun w H=>(Ex.move rfl)) rfl ?_
    refine OQ.ex rfl (fun w H=>(Ex.sliceHiN (T:=3) (sz:=1) Try.runUnderlying28 Try.sizeOf3 rfl rfl (by omega) (by omega))) rfl ?_
    refine OQ.step rfl ?_
    rw [hkt,cutV_mk (show k < cap by omega)]
    have hm : ∃ m,m = min (N - k) k:=⟨_,rfl⟩
    obtain ⟨m,hm⟩:=hm
    have hc1 : ((List.replicate k z ++ List.replicate (N - k) (0 : Int)).map (Value.int .i64)).length = N:=by simp; omega
    refine O.copyE (b:=b) (od:=0 + k) (ld:=N - k) (cd:=cap - k) (bs:=b) (oo:=0) (ls:=k) (cs:=cap) (c:=(List.replicate k z ++ List.replicate (N - k) (0 : Int)).map (Value.int .i64) ++ rest) Try.runUnderlying28 Try.sizeOf3 rfl rfl (((List.replicate k z ++ List.replicate (N - k) (0 : Int)).map (Value.int .i64)).take m) (by rw [List.length_take,hc1,hm]; omega) (fun j u hu=>pt_cells (T:=3) (olds:=(List.replicate k z ++ List.replicate (N - k) (0 : Int)).map (Value.int .i64)) (rest:=rest) H 0 j u (by rw [List.drop_zero]; rw [List.getElem?_take] at hu; split at hu; exact hu; cases hu)) (by intro u hu; obtain ⟨a,_,rfl⟩:=List.mem_map.1 (List.mem_of_mem_take hu); rfl) H (by rw [List.length_append,hc1,List.length_take,hc1]; omega) (fun w H=>?_)
    have hvl : (((List.replicate k z ++ List.replicate (N - k) (0 : Int)).map (Value.int .i64)).take m).length = m:=by rw [List.length_take,hc1,hm]; omega
    rw [hvl] at H ⊢
    have e : ((List.replicate k z ++ List.replicate (N - k) (0 : Int)).map (Value.int .i64) ++ rest).take (0 + k) ++ ((List.replicate k z ++ List.replicate (N - k) (0 : Int)).map (Value.int .i64)).take m ++ ((List.replicate k z ++ List.replicate (N - k) (0 : Int)).map (Value.int .i64) ++ rest).drop (0 + k + m) = (List.replicate (k + m) z ++ List.replicate (N - (k + m)) (0 : Int)).map (Value.int .i64) ++ rest:=by
      have h:=rep_fill (Value.int .i64 z) (Value.int .i64 0) hkN m hm
      rw [Nat.zero_add,List.take_append_of_le_length (by rw [hc1]; omega),List.drop_append_of_le_length (by rw [hc1]; omega),← List.append_assoc]
      congr 1
      rw [List.map_append,List.map_append,List.map_replicate,List.map_replicate,List.map_replicate,List.map_replicate]
      exact h
    rw [e] at H
    refine O.thenNil ⟨(by first|exact Holds.to (by assumption)|assumption),?_⟩
    refine OQ.ex rfl (fun w H=>(by first|exact Ex.addI rfl rfl|exact Ex.add rfl rfl rfl)) rfl ?_
    refine OQ.ex rfl (fun w H=>(Ex.assign rfl)) rfl ?_
    refine OQ.done ?_
    exact ⟨k + m,⟨rfl,rfl,trivial⟩,⟨rfl,by omega,by omega,H⟩,by omega⟩
  · refine W.exit ?_
    refine hK8 _ _ _ ?_
    refine W.seq (fun K11 hK11=>?_)
    refine W.region ?_
    refine O.ex (Ex.move rfl) rfl ?_
    refine O.ex (Ex.assign rfl) rfl ?_
    refine O.nil ?_
    refine hK11 _ _ _ ?_
    refine W.ret ?_
    try dsimp only [thenQ,blockQ,retQ]
    first|refine ⟨_,⟨_,_,rfl,rfl,rfl⟩,?_⟩|(refine retD_mark ?_; intro w H; refine ⟨_,⟨_,_,rfl,rfl,rfl⟩,?_⟩)|(refine retD_mark2 ?_; intro w H; refine ⟨_,⟨_,_,rfl,rfl,rfl⟩,?_⟩)
    obtain rfl : k = N:=by omega
    rw [Nat.sub_self,List.replicate_zero,List.append_nil] at H
    have:=arr_mk (e:=Value.int .i64) (xs:=List.replicate k z) (rest:=rest) (cap:=cap) (by rw [List.length_replicate]; omega) H
    rw [List.length_replicate] at this
    exact ⟨rfl,this⟩
theorem other_ct {w : World} {a : Arc} {b : Bool} {L : List HProp} (H : Holds w L) : CT Try.prog 71 [a.val,.bool b] w fun u w'=>u = .int .i64 (oth a b) ∧ Holds w' L:=by
  refine CT.enter (N:=10) Try.func71 rfl rfl rfl rfl ?_
  refine W.seq (fun K0 hK0=>?_)
  refine W.region ?_
  refine O.boxP rfl (fun b2 w H=>?_)
  have H : Holds w (pt b2 (.cells #[.int .i64 a.t,.int .i64 a.h,.int .i64 a.w,.bool a.cl] 42 (0,0))::L):=H
  refine O.ex (Ex.assign rfl) rfl ?_
  refine O.nil ?_
  refine hK0 _ _ _ ?_
  refine W.seq (fun K1 hK1=>?_)
  refine W.seq (fun K2 hK2=>?_)
  refine W.region ?_
  refine O.ex (Ex.move rfl) rfl ?_
  refine O.nil ?_
  refine hK2 _ _ _ ?_
  first|refine W.cond_p rfl (fun hb=>?_) (fun hb=>?_)|refine W.cond_b rfl (fun hb=>?_) (fun hb=>?_)
  · refine W.seq (fun K3 hK3=>?_)
    refine W.region ?_
    refine O.ex (by first|exact Ex.field0 fld42_0 rfl|exact Ex.field fld42_0 rfl|exact Ex.fieldS fld42_0 rfl|exact Ex.fieldIn fld42_0 rfl) rfl ?_
    refine O.ex (by first|exact Ex.loadMh Try.isAgg3 rfl|exact Ex.loadInF Try.isAgg3 rfl (Holds.to (by assumption))|exact Ex.loadP Try.isAgg3 rfl|exact Ex.loadM Try.isAgg3 rfl|exact Ex.loadIn1 Try.isAgg3 rfl (Holds.to (by assumption))|exact Ex.loadVc Try.isAgg3 rfl|exact Ex.loadR Try.isAgg3 rfl|exact Ex.loadQ Try.isAgg3 rfl) rfl ?_
    refine O.ex (Ex.assign rfl) rfl ?_
    refine O.nil ?_
    refine hK3 _ _ _ ?_
    refine W.ret ?_
    try dsimp only [thenQ,blockQ,retQ]
    first|refine ⟨_,⟨_,_,rfl,rfl,rfl⟩,?_⟩|(refine retD_mark ?_; intro w H; refine ⟨_,⟨_,_,rfl,rfl,rfl⟩,?_⟩)|(refine retD_mark2 ?_; intro w H; refine ⟨_,⟨_,_,rfl,rfl,rfl⟩,?_⟩)
    unfold oth
    first
    | (rw [if_pos (show b = true from hb)]; exact ⟨rfl,Holds.to (by assumption)⟩)
    | (rw [if_neg (show ¬ b = true by simpa using hb)]; exact ⟨rfl,Holds.to (by assumption)⟩)
  · refine W.skip ?_
    refine hK1 _ _ _ ?_
    refine W.seq (fun K4 hK4=>?_)
    refine W.region ?_
    refine O.ex (by first|exact Ex.field0 fld42_1 rfl|exact Ex.field fld42_1 rfl|exact Ex.fieldS fld42_1 rfl|exact Ex.fieldIn fld42_1 rfl) rfl ?_
    refine O.ex (by first|exact Ex.loadMh Try.isAgg3 rfl|exact Ex.loadInF Try.isAgg3 rfl (Holds.to (by assumption))|exact Ex.loadP Try.isAgg3 rfl|exact Ex.loadM Try.isAgg3 rfl|exact Ex.loadIn1 Try.isAgg3 rfl (Holds.to (by assumption))|exact Ex.loadVc Try.isAgg3 rfl|exact Ex.loadR Try.isAgg3 rfl|exact Ex.loadQ Try.isAgg3 rfl) rfl ?_
    refine O.ex (Ex.assign rfl) rfl ?_
    refine O.nil ?_
    refine hK4 _ _ _ ?_
    refine W.ret ?_
    try dsimp only [thenQ,blockQ,retQ]
    first|refine ⟨_,⟨_,_,rfl,rfl,rfl⟩,?_⟩|(refine retD_mark ?_; intro w H; refine ⟨_,⟨_,_,rfl,rfl,rfl⟩,?_⟩)|(refine retD_mark2 ?_; intro w H; refine ⟨_,⟨_,_,rfl,rfl,rfl⟩,?_⟩)
    unfold oth
    first
    | (rw [if_pos (show b = true from hb)]; exact ⟨rfl,Holds.to (by assumption)⟩)
    | (rw [if_neg (show ¬ b = true by simpa using hb)]; exact ⟨rfl,Holds.to (by assumption)⟩)
theorem nvertex_ct {w : World} {g : Nat} {n most v : Int} {s : St} {L : List HProp} (hn : 0 ≤ n) (H : Holds w (Gh g n most s::L)) : CT Try.prog 39 [.pointer (some ⟨g,0,none⟩),.int .i64 v] w fun u w'=>u = .bool (decide (0 ≤ v ∧ v < n)) ∧ Holds w' (Gh g n most s::L):=by
  refine CT.enter (N:=13) Try.func39 rfl rfl rfl rfl ?_
  refine W.seq (fun K0 hK0=>?_)
  refine W.region ?_
  refine O.ex (Ex.assign rfl) rfl ?_
  refine O.nil ?_
  refine hK0 _ _ _ ?_
  refine W.seq (fun K1 hK1=>?_)
  refine W.region ?_
  refine O.ex (Ex.move rfl) rfl ?_
  refine O.ex (Ex.geq rfl rfl) rfl ?_
  refine O.ex (Ex.move rfl) rfl ?_
  first|refine O.split_p (t:=7) rfl (fun h0=>?_) (fun h0=>?_)|refine O.split (t:=7) rfl (fun h0=>?_) (fun h0=>?_)
  · refine O.guard_t rfl rfl ?_
    refine O.ex (Ex.move rfl) rfl ?_
    refine O.guard_t rfl rfl ?_
    refine O.ex (Ex.move rfl) rfl ?_
    refine O.guard_t rfl rfl ?_
    refine O.callF Try.call66 rfl rfl (CT.mono (gvertices_ct (g:=g) hn (Holds.to (by assumption))) ?_)
    rintro _ w ⟨rfl,H⟩
    refine O.guard_t rfl rfl ?_
    refine O.ex (Ex.lss rfl rfl) rfl ?_
    refine O.ex (Ex.pick_t rfl rfl) rfl ?_
    refine O.ex (Ex.assign rfl) rfl ?_
    refine O.nil ?_
    refine hK1 _ _ _ ?_
    refine W.ret ?_
    try dsimp only [thenQ,blockQ,retQ]
    first|refine ⟨_,⟨_,_,rfl,rfl,rfl⟩,?_⟩|(refine retD_mark ?_; intro w H; refine ⟨_,⟨_,_,rfl,rfl,rfl⟩,?_⟩)|(refine retD_mark2 ?_; intro w H; refine ⟨_,⟨_,_,rfl,rfl,rfl⟩,?_⟩)
    refine ⟨congrArg Value.bool ?_,Holds.to (by assumption)⟩
    first
    | exact decide_eq_decide.2 (by omega)
    | exact (decide_eq_false (by omega)).symm
  · refine O.guard_f rfl rfl rfl rfl ?_
    refine O.guard_f rfl rfl rfl rfl ?_
    refine O.guard_f rfl rfl rfl rfl ?_
    refine O.guard_f rfl rfl rfl rfl ?_
    refine O.ex (Ex.pick_f rfl rfl) rfl ?_
    refine O.ex (Ex.assign rfl) rfl ?_
    refine O.nil ?_
    refine hK1 _ _ _ ?_
    refine W.ret ?_
    try dsimp only [thenQ,blockQ,retQ]
    first|refine ⟨_,⟨_,_,rfl,rfl,rfl⟩,?_⟩|(refine retD_mark ?_; intro w H; refine ⟨_,⟨_,_,rfl,rfl,rfl⟩,?_⟩)|(refine retD_mark2 ?_; intro w H; refine ⟨_,⟨_,_,rfl,rfl,rfl⟩,?_⟩)
    refine ⟨congrArg Value.bool ?_,Holds.to (by assumption)⟩
    first
    | exact decide_eq_decide.2 (by omega)
    | exact (decide_eq_false (by omega)).symm
end Go.Proofs.Ytliofdfhimmjmaa
namespace Go.Proofs.Ytliofdfhimmjmaa
open Go.Rr Go Gr Hp
set_option linter.unusedVariables false
set_option linter.unusedSimpArgs false
theorem goarc_ct {w : World} {g ab cap : Nat} {es : Nat → Value × Value} {n most id : Int} {s : St} {L : List HProp} (H : Holds w (GO g ab cap es n most s::L)) :
    CT Try.prog 40 [.pointer (some ⟨g,0,none⟩),.int .i64 id] w fun u w'=>u = .tuple #[(arcQ s id).val,.bool (thB s id)] ∧ Holds w' (GO g ab cap es n most s::L) :=
  (garcO_ct (ghO_open.1 H)).mono fun u w' h=>⟨h.1,ghO_open.2 h.2⟩
theorem getI_mem {xs : List Int} {i : Nat} (h : i < xs.length) : xs.getD i default ∈ xs:=by
  rw [List.getD_eq_getElem?_getD,List.getElem?_eq_getElem h]; exact List.getElem_mem h
theorem take_getI {xs : List Int} {i : Nat} (h : i < xs.length) : xs.take (i + 1) = xs.take i ++ [xs.getD i default]:=by
  rw [List.take_succ_eq_append_getElem h]; simp [List.getD_eq_getElem?_getD,h]
/-- What the search's variables hold. -/
def capN (b4 b6 b9 b10 g hh : Nat) (q : Bool) (fv : Value) : HProp:=star [pt b4 (.cells #[.pointer (some ⟨g,0,none⟩)] 24 (0,0)),pt b6 (.cells #[.bool q] 4 (0,0)),pt b9 (.cells #[fv] 28 (0,0)),pt b10 (.cells #[.pointer (some ⟨hh,0,none⟩)] 99 (0,0))]
theorem capN_open {w : World} {b4 b6 b9 b10 g hh : Nat} {q : Bool} {fv : Value} {L : List HProp} : Holds w (capN b4 b6 b9 b10 g hh q fv::L) ↔ Holds w (pt b4 (.cells #[.pointer (some ⟨g,0,none⟩)] 24 (0,0))::pt b6 (.cells #[.bool q] 4 (0,0))::pt b9 (.cells #[fv] 28 (0,0))::pt b10 (.cells #[.pointer (some ⟨hh,0,none⟩)] 99 (0,0))::L):=by
  unfold capN
  simp only [Holds.star,List.cons_append,List.nil_append]
set_option maxHeartbeats 4000000 in
theorem spreadout_ct {w : World} {g s0 : Nat} {n most : Int} {s : St} {L : List HProp} (hg : GOk n most s) (h1 : s0 < n.toNat) (H : Holds w (Gh g n most s::L)) :
    CT Try.prog 43 [.pointer (some ⟨g,0,none⟩),.int .i64 (s0 : Int),.bool false,.func (.func 44) #[.pointer (some ⟨g,0,none⟩)] #[]] w fun u w'=>u.oneCell' = true ∧ Holds w' (arr 3 (Value.int .i64) u ((List.range n.toNat).map fun v=>far n (cD s false) s0 ((v : Nat) : Int))::Gh g n most s::L):=by
  have n1:=hg.n1
  have n2:=hg.n2
  obtain ⟨c,hc⟩ : ∃ c,c = cD s false:=⟨_,rfl⟩
  have hG : Good n c:=hc ▸ cD_good hg false
  rw [← hc]
  refine CT.enter (N:=89) Try.func43 rfl rfl rfl rfl ?_
  refine W.seq (fun K0 hK0=>?_)
  refine W.region ?_
  refine O.boxP rfl (fun b4 w H=>?_)
  refine O.boxP rfl (fun b6 w H=>?_)
  refine O.ex (Ex.assign rfl) rfl ?_
  refine O.nil ?_
  refine hK0 _ _ _ ?_
  refine W.seq (fun K1 hK1=>?_)
  refine W.region ?_
  refine O.build1 (e:=Value.int .i64) Try.runUnderlying28 Try.sizeOf3 Try.zeroValue3 rfl (fun v20 w hv20 H=>?_)
  refine O.ex (by first|exact Ex.loadP Try.isAgg24 rfl|exact Ex.loadQ Try.isAgg24 rfl|exact Ex.loadMh Try.isAgg24 rfl|exact Ex.loadR Try.isAgg24 rfl|exact Ex.loadInF Try.isAgg24 rfl (Holds.to (by assumption))|exact Ex.loadIn1 Try.isAgg24 rfl (Holds.to (by assumption))|exact Ex.loadM Try.isAgg24 rfl|exact Ex.loadVc Try.isAgg24 rfl) rfl ?_
  refine O.callF Try.call66 rfl rfl (CT.mono (gvertices_ct (g:=g) (n:=n) (most:=most) (s:=s) (by omega) (Holds.to (by assumption))) ?_)
  rintro _ w ⟨rfl,H⟩
  refine O.callF Try.call67 rfl rfl (CT.mono (repeat_ct (n:=n) n1 n2 (Holds.to (by assumption))) ?_)
  rintro _ w ⟨hfv,H⟩
  rename_i fv
  refine O.allocP Try.zeroValue28 (fun b9 w H=>?_)
  first|refine O.storeP Try.sizeOf28 rfl rfl (fun w H=>?_)|refine O.storeR Try.sizeOf28 rfl rfl (fun w H=>?_)|refine O.storeM Try.sizeOf28 rfl rfl (fun w H=>?_)|refine O.storeVc Try.sizeOf28 rfl rfl (fun w H=>?_)|refine O.storeQ Try.sizeOf28 rfl rfl (fun w H=>?_)
  refine O.nil ?_
  refine hK1 _ _ _ ?_
  refine W.seq (fun K2 hK2=>?_)
  refine W.region ?_
  refine O.ex (by first|exact Ex.loadP Try.isAgg24 rfl|exact Ex.loadQ Try.isAgg24 rfl|exact Ex.loadMh Try.isAgg24 rfl|exact Ex.loadR Try.isAgg24 rfl|exact Ex.loadInF Try.isAgg24 rfl (Holds.to (by assumption))|exact Ex.loadIn1 Try.isAgg24 rfl (Holds.to (by assumption))|exact Ex.loadM Try.isAgg24 rfl|exact Ex.loadVc Try.isAgg24 rfl) rfl ?_
  refine O.callF Try.call66 rfl rfl (CT.mono (gvertices_ct (g:=g) (n:=n) (most:=most) (s:=s) (by omega) (Holds.to (by assumption))) ?_)
  rintro _ w ⟨rfl,H⟩
  refine O.callF Try.call68 rfl rfl (CT.mono (newIH_ct (n:=n) (Holds.to (by assumption))) ?_)
  rintro _ w (⟨hx,-⟩|⟨-,hh,rfl,H⟩)
  · exact absurd (by omega) hx
  refine O.ex (Ex.move rfl) rfl ?_
  refine O.ex (Ex.extract rfl rfl) rfl ?_
  refine O.ex (Ex.extract rfl rfl) rfl ?_
  refine O.allocP Try.zeroValue99 (fun b10 w H=>?_)
  first|refine O.storeP Try.sizeOf99 rfl rfl (fun w H=>?_)|refine O.storeR Try.sizeOf99 rfl rfl (fun w H=>?_)|refine O.storeM Try.sizeOf99 rfl rfl (fun w H=>?_)|refine O.storeVc Try.sizeOf99 rfl rfl (fun w H=>?_)|refine O.storeQ Try.sizeOf99 rfl rfl (fun w H=>?_)
  refine O.ex (Ex.assign rfl) rfl ?_
  refine O.nil ?_
  refine hK2 _ _ _ ?_
  refine W.seq (fun K3 hK3=>?_)
  refine W.region ?_
  refine O.ex (by first|exact Ex.loadP Try.isAgg99 rfl|exact Ex.loadQ Try.isAgg99 rfl|exact Ex.loadMh Try.isAgg99 rfl|exact Ex.loadR Try.isAgg99 rfl|exact Ex.loadInF Try.isAgg99 rfl (Holds.to (by assumption))|exact Ex.loadIn1 Try.isAgg99 rfl (Holds.to (by assumption))|exact Ex.loadM Try.isAgg99 rfl|exact Ex.loadVc Try.isAgg99 rfl) rfl ?_
  refine O.ex (Ex.move rfl) rfl ?_
  refine O.callF Try.call69 rfl rfl (CT.mono (putIH_ct (Holds.to (by assumption))) ?_)
  rintro _ w ⟨-,H⟩
  rw [hp_start0 (c:=c) h1] at H
  refine O.nil ?_
  refine hK3 _ _ _ ?_
  refine W.seq (fun K4 hK4=>?_)
  refine W.seq (fun K5 hK5=>?_)
  refine W.region ?_
  refine O.ex (by first|exact Ex.loadP Try.isAgg99 rfl|exact Ex.loadQ Try.isAgg99 rfl|exact Ex.loadMh Try.isAgg99 rfl|exact Ex.loadR Try.isAgg99 rfl|exact Ex.loadInF Try.isAgg99 rfl (Holds.to (by assumption))|exact Ex.loadIn1 Try.isAgg99 rfl (Holds.to (by assumption))|exact Ex.loadM Try.isAgg99 rfl|exact Ex.loadVc Try.isAgg99 rfl) rfl ?_
  refine O.callF Try.call70 rfl rfl (CT.mono (popI1_ct (Holds.to (by assumption))) ?_)
  rintro _ w ⟨rfl,H⟩
  refine O.ex (Ex.move rfl) rfl ?_
  refine O.ex (Ex.extract rfl rfl) rfl ?_
  refine O.ex (Ex.extract rfl rfl) rfl ?_
  refine O.ex (Ex.extract rfl rfl) rfl ?_
  refine O.allocP Try.zeroValue3 (fun b13 w H=>?_)
  refine O.ex (Ex.assign rfl) rfl ?_
  first|refine O.storeP Try.sizeOf3 rfl rfl (fun w H=>?_)|refine O.storeR Try.sizeOf3 rfl rfl (fun w H=>?_)|refine O.storeM Try.sizeOf3 rfl rfl (fun w H=>?_)|refine O.storeVc Try.sizeOf3 rfl rfl (fun w H=>?_)|refine O.storeQ Try.sizeOf3 rfl rfl (fun w H=>?_)
  refine O.ex (Ex.assign rfl) rfl ?_
  refine O.nil ?_
  refine hK5 _ _ _ ?_
  refine W.block ?_
  have H : Holds w (capN b4 b6 b9 b10 g hh false fv::Gh g n most s::HqI hh (popL RI (Wt.hpW n.toNat c s0 0 (stN n c s0 0)))::pt b13 (.cells #[.int .i64 (pkP RI (Wt.hpW n.toNat c s0 0 (stN n c s0 0)))] 3 (0,0))::marks []::arr 3 (Value.int .i64) fv (FP n c s0 (stN n c s0 0))::L):=by
    have H2:=capN_open.2 (Holds.to (M:=pt b4 (.cells #[.pointer (some ⟨g,0,none⟩)] 24 (0,0))::pt b6 (.cells #[.bool false] 4 (0,0))::pt b9 (.cells #[fv] 28 (0,0))::pt b10 (.cells #[.pointer (some ⟨hh,0,none⟩)] 99 (0,0))::Gh g n most s::HqI hh (popL RI (Wt.hpW n.toNat c s0 0 (stN n c s0 0)))::pt b13 (.cells #[.int .i64 (pkP RI (Wt.hpW n.toNat c s0 0 (stN n c s0 0)))] 3 (0,0))::arr 3 (Value.int .i64) fv (List.replicate n.toNat 4611686018427387906)::L) (by assumption))
    rw [← FP_nil (c:=c) (s0:=s0)] at H2
    exact Holds.to (marks_nil H2)
  refine W.loop (σ:=Nat × Nat) (fun z=>[(3,.func (.func 44) #[.pointer (some ⟨g,0,none⟩)] #[]),(4,.pointer (some ⟨b4,0,none⟩)),(6,.pointer (some ⟨b6,0,none⟩)),(9,.pointer (some ⟨b9,0,none⟩)),(10,.pointer (some ⟨b10,0,none⟩)),(12,.int .i64 (pkN RI (Wt.hpW n.toNat c s0 0 (stN n c s0 z.1)) : Int)),(13,.pointer (some ⟨z.2,0,none⟩)),(14,.bool (pkO RI (Wt.hpW n.toNat c s0 0 (stN n c s0 z.1))))])
    (fun z ds w=>(stN n c s0 z.1).length = z.1 ∧ Holds w (capN b4 b6 b9 b10 g hh false fv::Gh g n most s::HqI hh (popL RI (Wt.hpW n.toNat c s0 0 (stN n c s0 z.1)))::pt z.2 (.cells #[.int .i64 (pkP RI (Wt.hpW n.toNat c s0 0 (stN n c s0 z.1)))] 3 (0,0))::marks ds::arr 3 (Value.int .i64) fv (FP n c s0 (stN n c s0 z.1))::L))
    (fun z=>n.toNat - z.1) (0,b13) ⟨rfl,rfl,rfl,rfl,rfl,rfl,rfl,rfl,trivial⟩ ⟨rfl,H⟩ ?_
  clear H
  rintro ⟨j,e⟩ ds w ⟨hjl,H⟩
  dsimp only at hjl H ⊢
  refine W.seq (fun K6 hK6=>?_)
  refine W.seq (fun K7 hK7=>?_)
  refine W.region ?_
  refine O.ex (Ex.move rfl) rfl ?_
  refine O.nil ?_
  refine hK7 _ _ _ ?_
  first|refine W.cond_p rfl (fun hok=>?_) (fun hno=>?_)|refine W.cond_b rfl (fun hok=>?_) (fun hno=>?_)
  · refine W.skip ?_
    refine hK6 _ _ _ ?_
    refine W.seq (fun K8 hK8=>?_)
    refine W.block ?_
    refine W.seq (fun K9 hK9=>?_)
    refine W.region ?_
    obtain ⟨b,eb,en,ep,el⟩:=pkO_true hok
    have hb : Wt.nx n.toNat c s0 0 (stN n c s0 j) = some b:=eb
    obtain ⟨hbN,hbP,hbw,hbd,hbp,hbl⟩:=Wt.nx_spec hb
    have hfar:=nx_far hG h1 hb
    rw [hbp,hfar] at ep
    rw [start_HL hG h1 hb] at el
    rw [ep,el] at H
    rw [en]
    obtain ⟨d,hd⟩ : ∃ d,d = far n c s0 b:=⟨_,rfl⟩
    have hdd : Dst d:=hd ▸ fw_dst hG n.toNat s0 b
    have hFPl:=FP_len (n:=n) (c:=c) (s0:=s0) (stN n c s0 j)
    have hb0 : (0 : Int) ≤ (b : Int):=by omega
    have hb1 : (b : Int) < ((FP n c s0 (stN n c s0 j)).length : Int):=by rw [hFPl]; omega
    have hbt : ((b : Nat) : Int).toNat = b:=Int.toNat_natCast b
    replace H:=capN_open.1 H
    refine O.ex (v:=fv) (Ex.loadP Try.isAgg28 rfl) rfl ?_
    refine O.ex (Ex.move rfl) rfl ?_
    refine O.ex (by first|exact Ex.loadP Try.isAgg3 rfl|exact Ex.loadQ Try.isAgg3 rfl|exact Ex.loadMh Try.isAgg3 rfl|exact Ex.loadR Try.isAgg3 rfl|exact Ex.loadInF Try.isAgg3 rfl (Holds.to (by assumption))|exact Ex.loadIn1 Try.isAgg3 rfl (Holds.to (by assumption))|exact Ex.loadM Try.isAgg3 rfl|exact Ex.loadVc Try.isAgg3 rfl) rfl ?_
    refine O.ex (by first|exact Ex.idxR Try.runUnderlying28 Try.sizeOf3 rfl rfl|exact Ex.idxIn Try.runUnderlying28 Try.sizeOf3 rfl rfl|exact Ex.idxS Try.runUnderlying28 Try.sizeOf3 rfl rfl|exact Ex.idx Try.runUnderlying28 Try.sizeOf3 rfl rfl (by omega) (by omega)) rfl ?_
    first|refine O.storeP Try.sizeOf3 rfl rfl (fun w H=>?_)|refine O.storeR Try.sizeOf3 rfl rfl (fun w H=>?_)|refine O.storeM Try.sizeOf3 rfl rfl (fun w H=>?_)|refine O.storeVc Try.sizeOf3 rfl rfl (fun w H=>?_)|refine O.storeQ Try.sizeOf3 rfl rfl (fun w H=>?_)
    rw [hbt,start_FL hG h1 hb] at H
    rw [← hd] at H
    refine O.nil ?_
    refine hK9 _ _ _ ?_
    refine W.seq (fun K10 hK10=>?_)
    refine W.region ?_
    refine O.ex (Ex.move rfl) rfl ?_
    refine O.ex (Ex.move rfl) rfl ?_
    refine O.callVT rfl rfl rfl (VT.mono (VT.fn (p:=#[.pointer (some ⟨g,0,none⟩)]) (q:=#[]) (args:=[.int .i64 (b : Int)]) Try.call44 (gout_ct (g:=g) (v:=(b : Int)) (Holds.to (by assumption)))) ?_)
    rintro _ w ⟨c2,c3,rfl,H⟩
    refine O.nil ?_
    refine hK10 _ _ _ ?_
    refine W.block ?_
    obtain ⟨ab,cap,es,HG⟩:=gh_open.1 (Holds.to (M:=Gh g n most s::capO c2 c3 g (b : Int)::pt b4 (.cells #[.pointer (some ⟨g,0,none⟩)] 24 (0,0))::pt b6 (.cells #[.bool false] 4 (0,0))::pt b9 (.cells #[fv] 28 (0,0))::pt b10 (.cells #[.pointer (some ⟨hh,0,none⟩)] 99 (0,0))::HqI hh (HL n c (stN n c s0 j) b d (rx s false ((outI s (b : Int)).take 0)))::pt e (.cells #[.int .i64 d] 3 (0,0))::marks ds::arr 3 (Value.int .i64) fv (FL n c s0 (stN n c s0 j) b d (rx s false ((outI s (b : Int)).take 0)))::L) H)
    replace H : Holds w (GO g ab cap es n most s::capO c2 c3 g (b : Int)::marks ds::pt b4 (.cells #[.pointer (some ⟨g,0,none⟩)] 24 (0,0))::pt b6 (.cells #[.bool false] 4 (0,0))::pt b9 (.cells #[fv] 28 (0,0))::pt b10 (.cells #[.pointer (some ⟨hh,0,none⟩)] 99 (0,0))::pt e (.cells #[.int .i64 d] 3 (0,0))::HqI hh (HL n c (stN n c s0 j) b d (rx s false ((outI s (b : Int)).take 0)))::arr 3 (Value.int .i64) fv (FL n c s0 (stN n c s0 j) b d (rx s false ((outI s (b : Int)).take 0)))::L):=Holds.to HG
    clear HG
    refine W.rangeFunc rfl Try.call73 H ?_
    rintro LR kk D w hLR H
    refine CT.mono (gout1_ct (κ:=Unit) (σ:=fun _=>False) (SL:=fun _=>[]) (J:=fun i=>LR .ready none::dblk D::marks ds::pt b4 (.cells #[.pointer (some ⟨g,0,none⟩)] 24 (0,0))::pt b6 (.cells #[.bool false] 4 (0,0))::pt b9 (.cells #[fv] 28 (0,0))::pt b10 (.cells #[.pointer (some ⟨hh,0,none⟩)] 99 (0,0))::pt e (.cells #[.int .i64 d] 3 (0,0))::HqI hh (HL n c (stN n c s0 j) b d (rx s false ((outI s (b : Int)).take i)))::arr 3 (Value.int .i64) fv (FL n c s0 (stN n c s0 j) b d (rx s false ((outI s (b : Int)).take i)))::L) (φ:=fun _=>True) hg trivial (Holds.to (by assumption)) ?_) ?_
    · intro Fr i w hi _ H
      have hmem:=getI_mem hi
      obtain ⟨id,hid⟩ : ∃ id,id = (outI s (b : Int)).getD i default:=⟨_,rfl⟩
      rw [← hid] at hmem ⊢
      obtain ⟨m1,m2,m3⟩:=(mem_arcsI (b:=false) (v:=(b : Int))).1 (show id ∈ arcsI s false (b : Int) from hmem)
      obtain ⟨a,ha⟩ : ∃ a,a = (s id.toNat).a:=⟨_,rfl⟩
      have hqa : arcQ s id = a:=by rw [ha]; exact if_pos m1
      obtain ⟨ho,hwt⟩:=hg.arc _ m2
      rw [← ha] at ho hwt
      obtain ⟨o,hoe,hoN⟩ : ∃ o : Nat,(o : Int) = oth a false ∧ o < n.toNat:=⟨(oth a false).toNat,by unfold oth; simp; omega,by unfold oth; simp; omega⟩
      have hwd : Dst a.w:=⟨by omega,by omega⟩
      obtain ⟨r,hr⟩ : ∃ r,r = rx s false ((outI s (b : Int)).take i):=⟨_,rfl⟩
      have hrd : ∀ x,Dst (r x):=fun x=>by
        rw [hr]
        exact rx_dst hg false (fun i hi=>((mem_arcsI (b:=false) (v:=(b : Int))).1 (show i ∈ arcsI s false (b : Int) from List.mem_of_mem_take hi)).2.1) x
      have hrn : rx s false ((outI s (b : Int)).take (i + 1)) = rx1 s false r id:=by rw [take_getI hi,rx_snoc,← hr,← hid]
      rw [← hr] at H
      rw [hrn]
      have hFLl:=FL_len (n:=n) (c:=c) (s0:=s0) (stN n c s0 j) b d r
      have hot : ((o : Nat) : Int).toNat = o:=Int.toNat_natCast o
      have ho0 : (0 : Int) ≤ (o : Int):=by omega
      have ho1 : (o : Int) < ((FL n c s0 (stN n c s0 j) b d r).length : Int):=by rw [hFLl]; omega
      refine VT.round hLR (Holds.to (by assumption)) rfl rfl ?_
      refine W.region ?_
      refine O.ex (Ex.assign rfl) rfl ?_
      refine O.nil ?_
      refine ⟨_,Holds.to (by assumption),fun w H=>?_⟩
      refine W.block ?_
      refine W.seq (fun K11 hK11=>?_)
      refine W.region ?_
      refine O.ex (by first|exact Ex.loadP Try.isAgg24 rfl|exact Ex.loadQ Try.isAgg24 rfl|exact Ex.loadMh Try.isAgg24 rfl|exact Ex.loadR Try.isAgg24 rfl|exact Ex.loadInF Try.isAgg24 rfl (Holds.to (by assumption))|exact Ex.loadIn1 Try.isAgg24 rfl (Holds.to (by assumption))|exact Ex.loadM Try.isAgg24 rfl|exact Ex.loadVc Try.isAgg24 rfl) rfl ?_
      refine O.ex (Ex.move rfl) rfl ?_
      refine O.callF Try.call40 rfl rfl (CT.mono (goarc_ct (g:=g) (ab:=ab) (cap:=cap) (es:=es) (Holds.to (by assumption))) ?_)
      rintro _ w ⟨rfl,H⟩
      rw [hqa]
      refine O.ex (Ex.move rfl) rfl ?_
      refine O.ex (Ex.extract rfl rfl) rfl ?_
      refine O.ex (Ex.extract rfl rfl) rfl ?_
      refine O.allocP Try.zeroValue42 (fun b16 w H=>?_)
      first|refine O.storeAggP Try.sizeOf42 rfl rfl rfl rfl (fun w H=>?_)|refine O.storeAggN Try.sizeOf42 rfl rfl rfl (fun w H=>?_) rfl
      refine O.ex (Ex.assign rfl) rfl ?_
      refine O.nil ?_
      refine hK11 _ _ _ ?_
      refine W.seq (fun K12 hK12=>?_)
      refine W.region ?_
      refine O.ex (by first|exact Ex.loadAggP Try.isAgg42 Try.sizeOf42 rfl|exact Ex.loadAggN Try.isAgg42 Try.sizeOf42 rfl|exact Ex.loadIn Try.isAgg42 Try.sizeOf42 rfl (Holds.to (by assumption))) rfl ?_
      refine O.ex (by first|exact Ex.loadP Try.isAgg4 rfl|exact Ex.loadQ Try.isAgg4 rfl|exact Ex.loadMh Try.isAgg4 rfl|exact Ex.loadR Try.isAgg4 rfl|exact Ex.loadInF Try.isAgg4 rfl (Holds.to (by assumption))|exact Ex.loadIn1 Try.isAgg4 rfl (Holds.to (by assumption))|exact Ex.loadM Try.isAgg4 rfl|exact Ex.loadVc Try.isAgg4 rfl) rfl ?_
      refine O.callF Try.call71 rfl rfl (CT.mono (other_ct (a:=a) (b:=false) (Holds.to (by assumption))) ?_)
      rintro _ w ⟨rfl,H⟩
      rw [← hoe]
      refine O.ex (Ex.assign rfl) rfl ?_
      refine O.nil ?_
      refine hK12 _ _ _ ?_
      refine W.seq (fun K13 hK13=>?_)
      refine W.region ?_
      refine O.ex (by first|exact Ex.loadP Try.isAgg3 rfl|exact Ex.loadQ Try.isAgg3 rfl|exact Ex.loadMh Try.isAgg3 rfl|exact Ex.loadR Try.isAgg3 rfl|exact Ex.loadInF Try.isAgg3 rfl (Holds.to (by assumption))|exact Ex.loadIn1 Try.isAgg3 rfl (Holds.to (by assumption))|exact Ex.loadM Try.isAgg3 rfl|exact Ex.loadVc Try.isAgg3 rfl) rfl ?_
      refine O.ex (by first|exact Ex.field0 fld42_2 rfl|exact Ex.field fld42_2 rfl|exact Ex.fieldS fld42_2 rfl|exact Ex.fieldIn fld42_2 rfl) rfl ?_
      refine O.ex (by first|exact Ex.loadMh Try.isAgg3 rfl|exact Ex.loadInF Try.isAgg3 rfl (Holds.to (by assumption))|exact Ex.loadP Try.isAgg3 rfl|exact Ex.loadM Try.isAgg3 rfl|exact Ex.loadIn1 Try.isAgg3 rfl (Holds.to (by assumption))|exact Ex.loadVc Try.isAgg3 rfl|exact Ex.loadR Try.isAgg3 rfl|exact Ex.loadQ Try.isAgg3 rfl) rfl ?_
      refine O.buildK (e:=Value.int .i64) (vs:=[(0,.int .i64 d),(1,.int .i64 a.w)]) [d,a.w] Try.runUnderlying28 Try.sizeOf3 Try.zeroValue3 rfl rfl rfl rfl rfl rfl (fun v66 w hv66 H=>?_)
      refine O.callF Try.call72 rfl rfl (CT.mono (add_ct (Holds.to (by assumption)) hdd hwd) ?_)
      rintro _ w ⟨rfl,H⟩
      refine O.ex (Ex.assign rfl) rfl ?_
      refine O.nil ?_
      refine hK13 _ _ _ ?_
      refine W.seq (fun K14 hK14=>?_)
      refine W.region ?_
      refine O.ex (by first|exact Ex.field0 fld42_3 rfl|exact Ex.field fld42_3 rfl|exact Ex.fieldS fld42_3 rfl|exact Ex.fieldIn fld42_3 rfl) rfl ?_
      refine O.ex (by first|exact Ex.loadMh Try.isAgg4 rfl|exact Ex.loadInF Try.isAgg4 rfl (Holds.to (by assumption))|exact Ex.loadP Try.isAgg4 rfl|exact Ex.loadM Try.isAgg4 rfl|exact Ex.loadIn1 Try.isAgg4 rfl (Holds.to (by assumption))|exact Ex.loadVc Try.isAgg4 rfl|exact Ex.loadR Try.isAgg4 rfl|exact Ex.loadQ Try.isAgg4 rfl) rfl ?_
      refine O.ex (by first|exact Ex.notD rfl|exact Ex.not rfl) rfl ?_
      refine O.ex (Ex.move rfl) rfl ?_
      first|refine O.split_p (t:=71) rfl (fun hop=>?_) (fun hcl=>?_)|refine O.split (t:=71) rfl (fun hop=>?_) (fun hcl=>?_)
      · refine O.guard_t rfl rfl ?_
        refine O.ex (Ex.move rfl) rfl ?_
        refine O.guard_t rfl rfl ?_
        refine O.ex (v:=fv) (Ex.loadP Try.isAgg28 rfl) rfl ?_
        refine O.guard_t rfl rfl ?_
        refine O.ex (Ex.move rfl) rfl ?_
        replace H:=Holds.to (M:=arr 3 (Value.int .i64) fv (FL n c s0 (stN n c s0 j) b d r)::_) H
        refine O.guard_t rfl rfl ?_
        refine O.ex (by first|exact Ex.idxR Try.runUnderlying28 Try.sizeOf3 rfl rfl|exact Ex.idxIn Try.runUnderlying28 Try.sizeOf3 rfl rfl|exact Ex.idxS Try.runUnderlying28 Try.sizeOf3 rfl rfl|exact Ex.idx Try.runUnderlying28 Try.sizeOf3 rfl rfl (by omega) (by omega)) rfl ?_
        refine O.guard_t rfl rfl ?_
        refine O.ex (by first|exact Ex.loadR Try.isAgg3 rfl|exact Ex.loadIn1 Try.isAgg3 rfl (Holds.to (by assumption))|exact Ex.loadInF Try.isAgg3 rfl (Holds.to (by assumption))|exact Ex.loadP Try.isAgg3 rfl|exact Ex.loadMh Try.isAgg3 rfl|exact Ex.loadM Try.isAgg3 rfl|exact Ex.loadVc Try.isAgg3 rfl|exact Ex.loadQ Try.isAgg3 rfl) rfl ?_
        refine O.guard_t rfl rfl ?_
        refine O.ex (Ex.lss rfl rfl) rfl ?_
        refine O.ex (Ex.pick_t rfl rfl) rfl ?_
        refine O.nil ?_
        refine hK14 _ _ _ ?_
        first|refine W.cond_p rfl (fun hlt=>?_) (fun hge=>?_)|refine W.cond_b rfl (fun hlt=>?_) (fun hge=>?_)
        · refine W.seq (fun K15 hK15=>?_)
          refine W.region ?_
          refine O.ex (v:=fv) (Ex.loadP Try.isAgg28 rfl (Holds.cell (Holds.to (M:=pt b9 (.cells #[fv] 28 (0,0))::[]) H) rfl)) rfl ?_
          refine O.ex (Ex.move rfl) rfl ?_
          refine O.ex (Ex.move rfl) rfl ?_
          refine O.ex (by first|exact Ex.idxR Try.runUnderlying28 Try.sizeOf3 rfl rfl|exact Ex.idxIn Try.runUnderlying28 Try.sizeOf3 rfl rfl|exact Ex.idxS Try.runUnderlying28 Try.sizeOf3 rfl rfl|exact Ex.idx Try.runUnderlying28 Try.sizeOf3 rfl rfl (by omega) (by omega)) rfl ?_
          first|refine O.storeP Try.sizeOf3 rfl rfl (fun w H=>?_)|refine O.storeR Try.sizeOf3 rfl rfl (fun w H=>?_)|refine O.storeM Try.sizeOf3 rfl rfl (fun w H=>?_)|refine O.storeVc Try.sizeOf3 rfl rfl (fun w H=>?_)|refine O.storeQ Try.sizeOf3 rfl rfl (fun w H=>?_)
          refine O.nil ?_
          refine hK15 _ _ _ ?_
          refine W.region ?_
          refine O.ex (by first|exact Ex.loadP Try.isAgg99 rfl|exact Ex.loadQ Try.isAgg99 rfl|exact Ex.loadMh Try.isAgg99 rfl|exact Ex.loadR Try.isAgg99 rfl|exact Ex.loadInF Try.isAgg99 rfl (Holds.to (by assumption))|exact Ex.loadIn1 Try.isAgg99 rfl (Holds.to (by assumption))|exact Ex.loadM Try.isAgg99 rfl|exact Ex.loadVc Try.isAgg99 rfl) rfl ?_
          refine O.ex (Ex.move rfl) rfl ?_
          refine O.ex (Ex.move rfl) rfl ?_
          refine O.callF Try.call69 rfl rfl (CT.mono (putIH_ct (Holds.to (by assumption))) ?_)
          rintro _ w ⟨-,H⟩
          refine O.nil ?_
          first
          | (have hcl' : a.cl = true:=by simpa using hcl
             have e1 : rx1 s false r id = r:=by unfold rx1; rw [← ha,if_pos hcl']
             rw [e1]
             exact ⟨_,Holds.to (by assumption),fun w H=>.inl ⟨rfl,trivial,Holds.to (by assumption)⟩⟩)
          | (have hop' : ¬ a.cl = true:=by simpa using hop
             have e1 : rx1 s false r id = fun x=>if x = (o : Int) then min (r x) a.w else r x:=by unfold rx1; rw [← ha,if_neg hop',hoe]
             rw [hot] at H
             have hl : two d a.w < (FL n c s0 (stN n c s0 j) b d r).getD o default:=hlt
             rw [hd] at hl H
             obtain ⟨k1,k2⟩:=step_lt hG h1 hb hrd hwd hoN hl
             rw [k1,k2] at H
             rw [e1]
             rw [← hd] at H
             exact ⟨_,Holds.to (by assumption),fun w H=>.inl ⟨rfl,trivial,Holds.to (by assumption)⟩⟩)
          | (have hop' : ¬ a.cl = true:=by simpa using hop
             have e1 : rx1 s false r id = fun x=>if x = (o : Int) then min (r x) a.w else r x:=by unfold rx1; rw [← ha,if_neg hop',hoe]
             have hl : ¬ two d a.w < (FL n c s0 (stN n c s0 j) b d r).getD o default:=hge
             rw [hd] at hl
             obtain ⟨k1,k2⟩:=step_ge hG h1 hb hrd hwd hoN hl
             rw [← hd] at k1 k2
             rw [k1,k2] at H
             rw [e1]
             exact ⟨_,Holds.to (by assumption),fun w H=>.inl ⟨rfl,trivial,Holds.to (by assumption)⟩⟩)
        · refine W.skip ?_
          first
          | (have hcl' : a.cl = true:=by simpa using hcl
             have e1 : rx1 s false r id = r:=by unfold rx1; rw [← ha,if_pos hcl']
             rw [e1]
             exact ⟨_,Holds.to (by assumption),fun w H=>.inl ⟨rfl,trivial,Holds.to (by assumption)⟩⟩)
          | (have hop' : ¬ a.cl = true:=by simpa using hop
             have e1 : rx1 s false r id = fun x=>if x = (o : Int) then min (r x) a.w else r x:=by unfold rx1; rw [← ha,if_neg hop',hoe]
             rw [hot] at H
             have hl : two d a.w < (FL n c s0 (stN n c s0 j) b d r).getD o default:=hlt
             rw [hd] at hl H
             obtain ⟨k1,k2⟩:=step_lt hG h1 hb hrd hwd hoN hl
             rw [k1,k2] at H
             rw [e1]
             rw [← hd] at H
             exact ⟨_,Holds.to (by assumption),fun w H=>.inl ⟨rfl,trivial,Holds.to (by assumption)⟩⟩)
          | (have hop' : ¬ a.cl = true:=by simpa using hop
             have e1 : rx1 s false r id = fun x=>if x = (o : Int) then min (r x) a.w else r x:=by unfold rx1; rw [← ha,if_neg hop',hoe]
             have hl : ¬ two d a.w < (FL n c s0 (stN n c s0 j) b d r).getD o default:=hge
             rw [hd] at hl
             obtain ⟨k1,k2⟩:=step_ge hG h1 hb hrd hwd hoN hl
             rw [← hd] at k1 k2
             rw [k1,k2] at H
             rw [e1]
             exact ⟨_,Holds.to (by assumption),fun w H=>.inl ⟨rfl,trivial,Holds.to (by assumption)⟩⟩)
      · refine O.guard_f rfl rfl rfl rfl ?_
        refine O.guard_f rfl rfl rfl rfl ?_
        refine O.guard_f rfl rfl rfl rfl ?_
        replace H:=Holds.to (M:=arr 3 (Value.int .i64) fv (FL n c s0 (stN n c s0 j) b d r)::_) H
        refine O.guard_f rfl rfl rfl rfl ?_
        refine O.guard_f rfl rfl rfl rfl ?_
        refine O.guard_f rfl rfl rfl rfl ?_
        refine O.ex (Ex.pick_f rfl rfl) rfl ?_
        refine O.nil ?_
        refine hK14 _ _ _ ?_
        refine W.cond_f rfl ?_
        refine W.skip ?_
        first
        | (have hcl' : a.cl = true:=by simpa using hcl
           have e1 : rx1 s false r id = r:=by unfold rx1; rw [← ha,if_pos hcl']
           rw [e1]
           exact ⟨_,Holds.to (by assumption),fun w H=>.inl ⟨rfl,trivial,Holds.to (by assumption)⟩⟩)
        | (have hop' : ¬ a.cl = true:=by simpa using hop
           have e1 : rx1 s false r id = fun x=>if x = (o : Int) then min (r x) a.w else r x:=by unfold rx1; rw [← ha,if_neg hop',hoe]
           rw [hot] at H
           have hl : two d a.w < (FL n c s0 (stN n c s0 j) b d r).getD o default:=hlt
           rw [hd] at hl H
           obtain ⟨k1,k2⟩:=step_lt hG h1 hb hrd hwd hoN hl
           rw [k1,k2] at H
           rw [e1]
           rw [← hd] at H
           exact ⟨_,Holds.to (by assumption),fun w H=>.inl ⟨rfl,trivial,Holds.to (by assumption)⟩⟩)
        | (have hop' : ¬ a.cl = true:=by simpa using hop
           have e1 : rx1 s false r id = fun x=>if x = (o : Int) then min (r x) a.w else r x:=by unfold rx1; rw [← ha,if_neg hop',hoe]
           have hl : ¬ two d a.w < (FL n c s0 (stN n c s0 j) b d r).getD o default:=hge
           rw [hd] at hl
           obtain ⟨k1,k2⟩:=step_ge hG h1 hb hrd hwd hoN hl
           rw [← hd] at k1 k2
           rw [k1,k2] at H
           rw [e1]
           exact ⟨_,Holds.to (by assumption),fun w H=>.inl ⟨rfl,trivial,Holds.to (by assumption)⟩⟩)
    rintro _ w (⟨_,H⟩|⟨_,hf,_⟩)
    rotate_left
    · exact hf.elim
    refine rangeEnd (Holds.to (by assumption)) (by nofun) (fun w H=>?_)
    rw [List.take_length] at H
    have hrr : ∀ x : Nat,x ≠ b → rx s false (outI s (b : Int)) x = c b x:=fun x hx=>by rw [hc]; exact rx_full hg false (by omega)
    rw [hd,end_HL hG h1 hb hrr,end_FL hG h1 hb hrr,← hd] at H
    have H:=marks_push (Holds.to (M:=dblk D::marks ds::GO g ab cap es n most s::pt b4 (.cells #[.pointer (some ⟨g,0,none⟩)] 24 (0,0))::pt b6 (.cells #[.bool false] 4 (0,0))::pt b9 (.cells #[fv] 28 (0,0))::pt b10 (.cells #[.pointer (some ⟨hh,0,none⟩)] 99 (0,0))::pt e (.cells #[.int .i64 d] 3 (0,0))::HqI hh (Wt.hpW n.toNat c s0 0 (stN n c s0 (j + 1)))::arr 3 (Value.int .i64) fv (FP n c s0 (stN n c s0 (j + 1)))::L) (by assumption))
    refine hK8 _ _ _ ?_
    refine W.seq (fun K16 hK16=>?_)
    refine W.seq (fun K17 hK17=>?_)
    refine W.region ?_
    refine O.ex (by first|exact Ex.loadP Try.isAgg3 rfl|exact Ex.loadQ Try.isAgg3 rfl|exact Ex.loadMh Try.isAgg3 rfl|exact Ex.loadR Try.isAgg3 rfl|exact Ex.loadInF Try.isAgg3 rfl (Holds.to (by assumption))|exact Ex.loadIn1 Try.isAgg3 rfl (Holds.to (by assumption))|exact Ex.loadM Try.isAgg3 rfl|exact Ex.loadVc Try.isAgg3 rfl) rfl ?_
    refine O.nil ?_
    refine hK17 _ _ _ ?_
    refine W.region ?_
    refine O.allocP Try.zeroValue3 (fun b13 w H=>?_)
    first|refine O.storeP Try.sizeOf3 rfl rfl (fun w H=>?_)|refine O.storeR Try.sizeOf3 rfl rfl (fun w H=>?_)|refine O.storeM Try.sizeOf3 rfl rfl (fun w H=>?_)|refine O.storeVc Try.sizeOf3 rfl rfl (fun w H=>?_)|refine O.storeQ Try.sizeOf3 rfl rfl (fun w H=>?_)
    refine O.nil ?_
    refine hK16 _ _ _ ?_
    refine W.region ?_
    refine O.ex (by first|exact Ex.loadP Try.isAgg99 rfl|exact Ex.loadQ Try.isAgg99 rfl|exact Ex.loadMh Try.isAgg99 rfl|exact Ex.loadR Try.isAgg99 rfl|exact Ex.loadInF Try.isAgg99 rfl (Holds.to (by assumption))|exact Ex.loadIn1 Try.isAgg99 rfl (Holds.to (by assumption))|exact Ex.loadM Try.isAgg99 rfl|exact Ex.loadVc Try.isAgg99 rfl) rfl ?_
    refine O.callF Try.call70 rfl rfl (CT.mono (popI1_ct (Holds.to (by assumption))) ?_)
    rintro _ w ⟨rfl,H⟩
    refine O.ex (Ex.move rfl) rfl ?_
    refine O.ex (Ex.extract rfl rfl) rfl ?_
    refine O.ex (Ex.extract rfl rfl) rfl ?_
    refine O.ex (Ex.extract rfl rfl) rfl ?_
    refine O.ex (Ex.assign rfl) rfl ?_
    first|refine O.storeP Try.sizeOf3 rfl rfl (fun w H=>?_)|refine O.storeR Try.sizeOf3 rfl rfl (fun w H=>?_)|refine O.storeM Try.sizeOf3 rfl rfl (fun w H=>?_)|refine O.storeVc Try.sizeOf3 rfl rfl (fun w H=>?_)|refine O.storeQ Try.sizeOf3 rfl rfl (fun w H=>?_)
    refine O.ex (Ex.assign rfl) rfl ?_
    refine O.nil ?_
    have H:=gh_open.2 ⟨ab,cap,es,Holds.to (by assumption)⟩
    have H:=capN_open.2 (Holds.to (by assumption))
    have e1:=Wt.st_some hb
    have hl2 : (stN n c s0 (j + 1)).length = j + 1:=by rw [show stN n c s0 (j + 1) = _ from e1,List.length_append,hjl]; rfl
    have hle:=(Wt.st_ok (N:=n.toNat) (s0:=s0) (wo:=0) hG (j + 1)).len
    rw [hl2] at hle
    exact ⟨(j + 1,b13),⟨rfl,rfl,rfl,rfl,rfl,rfl,rfl,rfl,trivial⟩,⟨hl2,Holds.to (by assumption)⟩,by dsimp only; omega⟩
  · refine W.exit ?_
    refine hK4 _ _ _ ?_
    refine W.seq (fun K18 hK18=>?_)
    refine W.region ?_
    refine O.ex (v:=fv) (by replace H:=capN_open.1 H; exact Ex.loadP Try.isAgg28 rfl) rfl ?_
    refine O.ex (Ex.assign rfl) rfl ?_
    refine O.nil ?_
    refine hK18 _ _ _ ?_
    refine W.ret ?_
    try dsimp only [thenQ,blockQ,retQ]
    have hn : Wt.nx n.toNat c s0 0 (stN n c s0 j) = none:=(pkO_false (by simpa using hno)).1
    rw [end_FP hG h1 hn] at H
    have hv1:=arr_one (Holds.to (M:=arr 3 (Value.int .i64) fv _::[]) H)
    refine retD_gen (L:=arr 3 (Value.int .i64) fv ((List.range n.toNat).map fun v=>far n c s0 ((v : Nat) : Int))::Gh g n most s::L) (Holds.to (by assumption)) (fun w H=>?_)
    exact ⟨_,⟨_,_,rfl,rfl,rfl⟩,hv1,H⟩
end Go.Proofs.Ytliofdfhimmjmaa
