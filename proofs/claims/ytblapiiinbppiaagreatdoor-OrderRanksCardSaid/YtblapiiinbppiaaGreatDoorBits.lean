import Derived.Test.YtblapiiinbppiaaGreatDoorFacts
import Derived.Test.YtblapiiinbppiaaGreatDoorRrBits
import Derived.Test.YtblapiiinbppiaaGreatDoorRrSets
namespace Go.Proofs.YtblapiiinbppiaaGreatDoor
open Go.Rr
set_option linter.unusedVariables false
theorem bit_ct {w : World} {i : Int} {L : List HProp} (H : Holds w L) :
    CT Tryz.prog 53 [.int .i64 i] w fun u w'=>u = .int .u64 (bitN i : Int) ∧ Holds w' L:=by
  refine CT.enter (N:=11) Tryz.func53 rfl rfl rfl rfl ?_
  refine W.seq (fun K0 hK0=>?_)
  refine W.region ?_
  refine O.ex (Ex.assign rfl) rfl ?_
  refine O.nil ?_
  refine hK0 _ _ _ ?_
  refine W.seq (fun K1 hK1=>?_)
  refine W.seq (fun K2 hK2=>?_)
  refine W.region ?_
  refine O.ex (Ex.move rfl) rfl ?_
  refine O.ex (Ex.lss rfl rfl) rfl ?_
  refine O.ex (Ex.move rfl) rfl ?_
  first|refine O.split_p (t:=5) rfl (fun h5=>?_) (fun h5=>?_)|refine O.split (t:=5) rfl (fun h5=>?_) (fun h5=>?_)
  · refine O.guard_f rfl rfl rfl rfl ?_
    refine O.guard_f rfl rfl rfl rfl ?_
    refine O.ex (Ex.pick_t rfl rfl) rfl ?_
    refine O.nil ?_
    refine hK2 _ _ _ ?_
    refine W.cond_t rfl ?_
    refine W.seq (fun K3 hK3=>?_)
    refine W.region ?_
    refine O.ex (Ex.assign rfl) rfl ?_
    refine O.nil ?_
    refine hK3 _ _ _ ?_
    refine W.ret ?_
    try dsimp only [thenQ,blockQ,retQ]
    first|refine ⟨_,⟨_,_,rfl,rfl,rfl⟩,?_⟩|(refine retD_mark ?_; intro w H; refine ⟨_,⟨_,_,rfl,rfl,rfl⟩,?_⟩)|(refine retD_mark2 ?_; intro w H; refine ⟨_,⟨_,_,rfl,rfl,rfl⟩,?_⟩)
    first
    | (refine ⟨?_,H⟩
       have e : bitN i = 0:=if_neg (by omega)
       rw [e]; rfl)
    | (refine ⟨?_,H⟩
       have e : bitN i = 2 ^ i.toNat:=if_pos (by omega)
       have hl:=bitN_lt i
       rw [e] at hl ⊢
       show Value.int .u64 _ = _
       rw [Nat.one_mul,Nat.mod_eq_of_lt hl])
  · refine O.guard_t rfl rfl ?_
    refine O.ex (Ex.move rfl) rfl ?_
    refine O.guard_t rfl rfl ?_
    refine O.ex (Ex.geq rfl rfl) rfl ?_
    refine O.ex (Ex.pick_f rfl rfl) rfl ?_
    refine O.nil ?_
    refine hK2 _ _ _ ?_
    first|refine W.cond_p rfl (fun h8=>?_) (fun h8=>?_)|refine W.cond_b rfl (fun h8=>?_) (fun h8=>?_)
    · refine W.seq (fun K4 hK4=>?_)
      refine W.region ?_
      refine O.ex (Ex.assign rfl) rfl ?_
      refine O.nil ?_
      refine hK4 _ _ _ ?_
      refine W.ret ?_
      try dsimp only [thenQ,blockQ,retQ]
      first|refine ⟨_,⟨_,_,rfl,rfl,rfl⟩,?_⟩|(refine retD_mark ?_; intro w H; refine ⟨_,⟨_,_,rfl,rfl,rfl⟩,?_⟩)|(refine retD_mark2 ?_; intro w H; refine ⟨_,⟨_,_,rfl,rfl,rfl⟩,?_⟩)
      first
      | (refine ⟨?_,H⟩
         have e : bitN i = 0:=if_neg (by omega)
         rw [e]; rfl)
      | (refine ⟨?_,H⟩
         have e : bitN i = 2 ^ i.toNat:=if_pos (by omega)
         have hl:=bitN_lt i
         rw [e] at hl ⊢
         show Value.int .u64 _ = _
         rw [Nat.one_mul,Nat.mod_eq_of_lt hl])
    · refine W.skip ?_
      refine hK1 _ _ _ ?_
      refine W.seq (fun K5 hK5=>?_)
      refine W.region ?_
      refine O.ex (Ex.move rfl) rfl ?_
      refine O.ex (Ex.shl64 1 i.toNat rfl (by show some (Value.int .i64 i) = some (Value.int .i64 ((i.toNat : Nat) : Int)); rw [show ((i.toNat : Nat) : Int) = i from by omega])) rfl ?_
      refine O.ex (Ex.assign rfl) rfl ?_
      refine O.nil ?_
      refine hK5 _ _ _ ?_
      refine W.ret ?_
      try dsimp only [thenQ,blockQ,retQ]
      first|refine ⟨_,⟨_,_,rfl,rfl,rfl⟩,?_⟩|(refine retD_mark ?_; intro w H; refine ⟨_,⟨_,_,rfl,rfl,rfl⟩,?_⟩)|(refine retD_mark2 ?_; intro w H; refine ⟨_,⟨_,_,rfl,rfl,rfl⟩,?_⟩)
      first
      | (refine ⟨?_,H⟩
         have e : bitN i = 0:=if_neg (by omega)
         rw [e]; rfl)
      | (refine ⟨?_,H⟩
         have e : bitN i = 2 ^ i.toNat:=if_pos (by omega)
         have hl:=bitN_lt i
         rw [e] at hl ⊢
         show Value.int .u64 _ = _
         rw [Nat.one_mul,Nat.mod_eq_of_lt hl])
abbrev TabAt (w0 : World) : Prop:=∀ j,j < 64 → w0.cell? ⟨0,j,none⟩ = some (.int .u8 ((Lib.deBruijn64tab.getD j 0 : Nat) : Int))
theorem tz_ct {w w0 : World} {x : Nat} {L : List HProp} (hT : TabAt w0) (H : Holds w (base w0::L)) (hx : x < 18446744073709551616) (h0 : x ≠ 0) :
    CT Tryz.prog 80 [.int .u64 (x : Int)] w fun u w'=>u = .int .i64 ((Lib.ctz 64 x : Nat) : Int) ∧ Holds w' (base w0::L):=by
  obtain ⟨hlow,hk⟩:=Lib.lowest_bit 64 x h0 hx
  obtain ⟨k,hkk⟩ : ∃ k,k = Lib.ctz 64 x:=⟨_,rfl⟩
  rw [← hkk] at hlow hk ⊢
  have hd:=Lib.deBruijn64_at k hk
  obtain ⟨a,ha⟩ : ∃ a,a = 2 ^ k:=⟨_,rfl⟩
  have ha64 : a < 18446744073709551616:=by rw [ha]; exact Nat.pow_lt_pow_right (n:=64) (by decide) hk
  rw [← ha] at hlow hd
  obtain ⟨j,hj⟩ : ∃ j,j = a * 285870213051353865 % 18446744073709551616 / 288230376151711744:=⟨_,rfl⟩
  rw [← hj] at hd
  obtain ⟨hj64,htab⟩:=hd
  have hc:=H.base_cell (hT j hj64)
  rw [htab] at hc
  clear hkk ha htab
  refine CT.enter (N:=14) Tryz.func80 rfl rfl rfl rfl ?_
  refine W.seq (fun K0 hK0=>?_)
  refine W.region ?_
  refine O.ex (Ex.assign rfl) rfl ?_
  refine O.nil ?_
  refine hK0 _ _ _ ?_
  refine W.seq (fun K1 hK1=>?_)
  refine W.seq (fun K2 hK2=>?_)
  refine W.region ?_
  refine O.ex (Ex.move rfl) rfl ?_
  refine O.ex (Ex.eql64 _ 0 rfl rfl) rfl ?_
  refine O.nil ?_
  refine hK2 _ _ _ ?_
  refine W.known_f rfl (decide_eq_false h0) ?_
  refine W.skip ?_
  refine hK1 _ _ _ ?_
  refine W.seq (fun K3 hK3=>?_)
  refine W.region ?_
  refine O.ex (Ex.move rfl) rfl ?_
  refine O.ex (Ex.move rfl) rfl ?_
  refine O.ex (Ex.neg (r:=((18446744073709551616 - x : Nat) : Int)) rfl (by rw [wrap64]; omega)) rfl ?_
  refine O.ex (Ex.and64 x (18446744073709551616 - x) rfl rfl) rfl ?_
  rw [show x &&& (18446744073709551616 - x) = a from hlow]
  refine O.ex (Ex.mul (r:=((a * 285870213051353865 % 18446744073709551616 : Nat) : Int)) rfl rfl (by rw [wrap64]; omega)) rfl ?_
  refine O.ex (Ex.shr64 (a * 285870213051353865 % 18446744073709551616) 58 rfl rfl) rfl ?_
  rw [show a * 285870213051353865 % 18446744073709551616 / 2 ^ 58 = j from hj.symm]
  refine O.ex (Ex.idxArr Tryz.runUnderlying139 Tryz.sizeOf5 rfl rfl) rfl ?_
  rw [show 0 + ((j : Nat) : Int).toNat * 1 = j from by simp]
  refine O.ex (Ex.load Tryz.isAgg5 rfl hc) rfl ?_
  refine O.ex (by first|exact Ex.convToI Tryz.runUnderlying5 Tryz.runUnderlying3 rfl|exact Ex.convW Tryz.runUnderlying5 Tryz.runUnderlying3 rfl) rfl ?_
  refine O.ex (Ex.assign rfl) rfl ?_
  refine O.nil ?_
  refine hK3 _ _ _ ?_
  refine W.ret ?_
  try dsimp only [thenQ,blockQ,retQ]
  first|refine ⟨_,⟨_,_,rfl,rfl,rfl⟩,?_⟩|(refine retD_mark ?_; intro w H; refine ⟨_,⟨_,_,rfl,rfl,rfl⟩,?_⟩)|(refine retD_mark2 ?_; intro w H; refine ⟨_,⟨_,_,rfl,rfl,rfl⟩,?_⟩)
  exact ⟨rfl,by first|assumption|exact Holds.to (by assumption)⟩
def fstS (s : Nat) : Int:=if s = 0 then 0 else Lib.ctz 64 s
theorem first_ct {w w0 : World} {s : Nat} {L : List HProp} (hT : TabAt w0) (H : Holds w (base w0::L)) (hs : s < 18446744073709551616) :
    CT Tryz.prog 55 [.int .u64 (s : Int)] w fun u w'=>u = .tuple #[.int .i64 (fstS s),.bool (decide (s ≠ 0))] ∧ Holds w' (base w0::L):=by
  refine CT.enter (N:=8) Tryz.func55 rfl rfl rfl rfl ?_
  refine W.seq (fun K0 hK0=>?_)
  refine W.region ?_
  refine O.ex (Ex.assign rfl) rfl ?_
  refine O.ex (Ex.assign rfl) rfl ?_
  refine O.nil ?_
  refine hK0 _ _ _ ?_
  refine W.seq (fun K1 hK1=>?_)
  refine W.seq (fun K2 hK2=>?_)
  refine W.region ?_
  refine O.ex (Ex.move rfl) rfl ?_
  refine O.ex (Ex.eql64 _ 0 rfl rfl) rfl ?_
  refine O.nil ?_
  refine hK2 _ _ _ ?_
  first|refine W.cond_p rfl (fun h0=>?_) (fun h0=>?_)|refine W.cond_b rfl (fun h0=>?_) (fun h0=>?_)
  · refine W.seq (fun K3 hK3=>?_)
    refine W.region ?_
    refine O.ex (Ex.assign rfl) rfl ?_
    refine O.ex (Ex.assign rfl) rfl ?_
    refine O.nil ?_
    refine hK3 _ _ _ ?_
    refine W.ret ?_
    try dsimp only [thenQ,blockQ,retQ]
    first|refine ⟨_,⟨_,_,rfl,rfl,_,_,rfl,rfl,rfl⟩,?_⟩|(refine retD_mark ?_; intro w H; refine ⟨_,⟨_,_,rfl,rfl,_,_,rfl,rfl,rfl⟩,?_⟩)|(refine retD_mark2 ?_; intro w H; refine ⟨_,⟨_,_,rfl,rfl,_,_,rfl,rfl,rfl⟩,?_⟩)
    exact ⟨by simp [oneOf,fstS,h0],Holds.to (by assumption)⟩
  · refine W.skip ?_
    refine hK1 _ _ _ ?_
    refine W.seq (fun K4 hK4=>?_)
    refine W.region ?_
    refine O.ex (Ex.move rfl) rfl ?_
    refine O.callF Tryz.call80 rfl rfl (CT.mono (tz_ct hT (Holds.to (by assumption)) hs h0) ?_)
    rintro _ w ⟨rfl,H⟩
    refine O.ex (Ex.assign rfl) rfl ?_
    refine O.ex (Ex.assign rfl) rfl ?_
    refine O.nil ?_
    refine hK4 _ _ _ ?_
    refine W.ret ?_
    try dsimp only [thenQ,blockQ,retQ]
    first|refine ⟨_,⟨_,_,rfl,rfl,_,_,rfl,rfl,rfl⟩,?_⟩|(refine retD_mark ?_; intro w H; refine ⟨_,⟨_,_,rfl,rfl,_,_,rfl,rfl,rfl⟩,?_⟩)|(refine retD_mark2 ?_; intro w H; refine ⟨_,⟨_,_,rfl,rfl,_,_,rfl,rfl,rfl⟩,?_⟩)
    exact ⟨by simp [oneOf,fstS,h0],Holds.to (by assumption)⟩
theorem has_ct {w : World} {s : Nat} {x : Int} {L : List HProp} (H : Holds w L) (hs : s < 18446744073709551616) :
    CT Tryz.prog 70 [.int .u64 (s : Int),.int .i64 x] w fun u w'=>u = .bool (inS s x) ∧ Holds w' L:=by
  have hb:=bitN_lt x
  have hab:=and_lt s (bitN x) hs
  refine CT.enter (N:=10) Tryz.func70 rfl rfl rfl rfl ?_
  refine W.seq (fun K0 hK0=>?_)
  refine W.region ?_
  refine O.ex (Ex.assign rfl) rfl ?_
  refine O.nil ?_
  refine hK0 _ _ _ ?_
  refine W.seq (fun K1 hK1=>?_)
  refine W.region ?_
  refine O.ex (Ex.move rfl) rfl ?_
  refine O.ex (Ex.move rfl) rfl ?_
  refine O.callF Tryz.call53 rfl rfl (CT.mono (bit_ct (Holds.to (by assumption))) ?_)
  rintro _ w ⟨rfl,H⟩
  refine O.ex (Ex.and64 _ _ rfl rfl) rfl ?_
  refine O.ex (Ex.neq64 _ 0 rfl rfl) rfl ?_
  refine O.ex (Ex.assign rfl) rfl ?_
  refine O.nil ?_
  refine hK1 _ _ _ ?_
  refine W.ret ?_
  try dsimp only [thenQ,blockQ,retQ]
  first|refine ⟨_,⟨_,_,rfl,rfl,rfl⟩,?_⟩|(refine retD_mark ?_; intro w H; refine ⟨_,⟨_,_,rfl,rfl,rfl⟩,?_⟩)|(refine retD_mark2 ?_; intro w H; refine ⟨_,⟨_,_,rfl,rfl,rfl⟩,?_⟩)
  exact ⟨congrArg Value.bool (has_law s x hs),Holds.to (by assumption)⟩
theorem with_ct {w : World} {s : Nat} {x : Int} {L : List HProp} (H : Holds w L) (hs : s < 18446744073709551616) :
    CT Tryz.prog 58 [.int .u64 (s : Int),.int .i64 x] w fun u w'=>u = .int .u64 ((s ||| bitN x : Nat) : Int) ∧ Holds w' L:=by
  have hb:=bitN_lt x
  refine CT.enter (N:=9) Tryz.func58 rfl rfl rfl rfl ?_
  refine W.seq (fun K0 hK0=>?_)
  refine W.region ?_
  refine O.ex (Ex.assign rfl) rfl ?_
  refine O.nil ?_
  refine hK0 _ _ _ ?_
  refine W.seq (fun K1 hK1=>?_)
  refine W.region ?_
  refine O.ex (Ex.move rfl) rfl ?_
  refine O.ex (Ex.move rfl) rfl ?_
  refine O.callF Tryz.call53 rfl rfl (CT.mono (bit_ct (Holds.to (by assumption))) ?_)
  rintro _ w ⟨rfl,H⟩
  refine O.ex (Ex.or64 _ _ rfl rfl) rfl ?_
  refine O.ex (Ex.assign rfl) rfl ?_
  refine O.nil ?_
  refine hK1 _ _ _ ?_
  refine W.ret ?_
  try dsimp only [thenQ,blockQ,retQ]
  first|refine ⟨_,⟨_,_,rfl,rfl,rfl⟩,?_⟩|(refine retD_mark ?_; intro w H; refine ⟨_,⟨_,_,rfl,rfl,rfl⟩,?_⟩)|(refine retD_mark2 ?_; intro w H; refine ⟨_,⟨_,_,rfl,rfl,rfl⟩,?_⟩)
  exact ⟨rfl,by first|assumption|exact Holds.to (by assumption)⟩
theorem without_ct {w : World} {s : Nat} {x : Int} {L : List HProp} (H : Holds w L) (hs : s < 18446744073709551616) :
    CT Tryz.prog 27 [.int .u64 (s : Int),.int .i64 x] w fun u w'=>u = .int .u64 ((s &&& (18446744073709551615 - bitN x) : Nat) : Int) ∧ Holds w' L:=by
  have hb:=bitN_lt x
  refine CT.enter (N:=9) Tryz.func27 rfl rfl rfl rfl ?_
  refine W.seq (fun K0 hK0=>?_)
  refine W.region ?_
  refine O.ex (Ex.assign rfl) rfl ?_
  refine O.nil ?_
  refine hK0 _ _ _ ?_
  refine W.seq (fun K1 hK1=>?_)
  refine W.region ?_
  refine O.ex (Ex.move rfl) rfl ?_
  refine O.ex (Ex.move rfl) rfl ?_
  refine O.callF Tryz.call53 rfl rfl (CT.mono (bit_ct (Holds.to (by assumption))) ?_)
  rintro _ w ⟨rfl,H⟩
  refine O.ex (Ex.andNot64 _ _ rfl rfl) rfl ?_
  refine O.ex (Ex.assign rfl) rfl ?_
  refine O.nil ?_
  refine hK1 _ _ _ ?_
  refine W.ret ?_
  try dsimp only [thenQ,blockQ,retQ]
  first|refine ⟨_,⟨_,_,rfl,rfl,rfl⟩,?_⟩|(refine retD_mark ?_; intro w H; refine ⟨_,⟨_,_,rfl,rfl,rfl⟩,?_⟩)|(refine retD_mark2 ?_; intro w H; refine ⟨_,⟨_,_,rfl,rfl,rfl⟩,?_⟩)
  exact ⟨rfl,by first|assumption|exact Holds.to (by assumption)⟩
theorem below_ct {w : World} {n : Int} {L : List HProp} (H : Holds w L) :
    CT Tryz.prog 23 [.int .i64 n] w fun u w'=>u = .int .u64 ((belN n : Nat) : Int) ∧ Holds w' L:=by
  have hb:=bitN_lt n
  refine CT.enter (N:=12) Tryz.func23 rfl rfl rfl rfl ?_
  refine W.seq (fun K0 hK0=>?_)
  refine W.region ?_
  refine O.ex (Ex.assign rfl) rfl ?_
  refine O.nil ?_
  refine hK0 _ _ _ ?_
  refine W.seq (fun K1 hK1=>?_)
  refine W.block ?_
  refine W.seq (fun K2 hK2=>?_)
  refine W.region ?_
  refine O.ex (Ex.move rfl) rfl ?_
  refine O.ex (Ex.leq rfl rfl) rfl ?_
  refine O.ex (Ex.assign rfl) rfl ?_
  refine O.nil ?_
  refine hK2 _ _ _ ?_
  first|refine W.cond_p rfl (fun h0=>?_) (fun h1=>?_)|refine W.cond_b rfl (fun h0=>?_) (fun h1=>?_)
  · refine W.seq (fun K3 hK3=>?_)
    refine W.region ?_
    refine O.ex (Ex.assign rfl) rfl ?_
    refine O.nil ?_
    refine hK3 _ _ _ ?_
    refine W.ret ?_
    try dsimp only [thenQ,blockQ,retQ]
    first|refine ⟨_,⟨_,_,rfl,rfl,rfl⟩,?_⟩|(refine retD_mark ?_; intro w H; refine ⟨_,⟨_,_,rfl,rfl,rfl⟩,?_⟩)|(refine retD_mark2 ?_; intro w H; refine ⟨_,⟨_,_,rfl,rfl,rfl⟩,?_⟩)
    first
    | (refine ⟨?_,Holds.to (by assumption)⟩
       rw [show belN n = 0 from if_pos h0]; rfl)
    | (refine ⟨?_,Holds.to (by assumption)⟩
       rw [show belN n = 18446744073709551615 from by unfold belN; rw [if_neg (by omega),if_pos h2]]; rfl)
    | (refine ⟨?_,Holds.to (by assumption)⟩
       rw [show belN n = bitN n - 1 from by unfold belN; rw [if_neg (by omega),if_neg h3,hb1]]; rfl)
  · refine W.seq (fun K4 hK4=>?_)
    refine W.region ?_
    refine O.ex (Ex.move rfl) rfl ?_
    refine O.ex (Ex.geq rfl rfl) rfl ?_
    refine O.ex (Ex.assign rfl) rfl ?_
    refine O.nil ?_
    refine hK4 _ _ _ ?_
    first|refine W.cond_p rfl (fun h2=>?_) (fun h3=>?_)|refine W.cond_b rfl (fun h2=>?_) (fun h3=>?_)
    · refine W.seq (fun K5 hK5=>?_)
      refine W.region ?_
      refine O.ex (Ex.assign rfl) rfl ?_
      refine O.nil ?_
      refine hK5 _ _ _ ?_
      refine W.ret ?_
      try dsimp only [thenQ,blockQ,retQ]
      first|refine ⟨_,⟨_,_,rfl,rfl,rfl⟩,?_⟩|(refine retD_mark ?_; intro w H; refine ⟨_,⟨_,_,rfl,rfl,rfl⟩,?_⟩)|(refine retD_mark2 ?_; intro w H; refine ⟨_,⟨_,_,rfl,rfl,rfl⟩,?_⟩)
      first
      | (refine ⟨?_,Holds.to (by assumption)⟩
         rw [show belN n = 0 from if_pos h0]; rfl)
      | (refine ⟨?_,Holds.to (by assumption)⟩
         rw [show belN n = 18446744073709551615 from by unfold belN; rw [if_neg (by omega),if_pos h2]]; rfl)
      | (refine ⟨?_,Holds.to (by assumption)⟩
         rw [show belN n = bitN n - 1 from by unfold belN; rw [if_neg (by omega),if_neg h3,hb1]]; rfl)
    · refine W.skip ?_
      refine hK1 _ _ _ ?_
      refine W.seq (fun K6 hK6=>?_)
      refine W.region ?_
      refine O.ex (Ex.move rfl) rfl ?_
      refine O.callF Tryz.call53 rfl rfl (CT.mono (bit_ct (Holds.to (by assumption))) ?_)
      rintro _ w ⟨rfl,H⟩
      have hb1 : bitN n = 2 ^ n.toNat:=if_pos (by omega)
      have hp:=Nat.two_pow_pos n.toNat
      rw [← hb1] at hp
      refine O.ex (Ex.sub64 _ 1 rfl rfl) rfl ?_
      refine O.ex (Ex.assign rfl) rfl ?_
      refine O.nil ?_
      refine hK6 _ _ _ ?_
      refine W.ret ?_
      try dsimp only [thenQ,blockQ,retQ]
      first|refine ⟨_,⟨_,_,rfl,rfl,rfl⟩,?_⟩|(refine retD_mark ?_; intro w H; refine ⟨_,⟨_,_,rfl,rfl,rfl⟩,?_⟩)|(refine retD_mark2 ?_; intro w H; refine ⟨_,⟨_,_,rfl,rfl,rfl⟩,?_⟩)
      first
      | (refine ⟨?_,Holds.to (by assumption)⟩
         rw [show belN n = 0 from if_pos h0]; rfl)
      | (refine ⟨?_,Holds.to (by assumption)⟩
         rw [show belN n = 18446744073709551615 from by unfold belN; rw [if_neg (by omega),if_pos h2]]; rfl)
      | (refine ⟨?_,Holds.to (by assumption)⟩
         rw [show belN n = bitN n - 1 from by unfold belN; rw [if_neg (by omega),if_neg h3,hb1]]; rfl)
def orL (xs : List Int) : Nat:=xs.foldl (fun s x=>s ||| bitN x) 0
theorem orL_aux (xs : List Int) : ∀ s,s < 18446744073709551616 → xs.foldl (fun s x=>s ||| bitN x) s < 18446744073709551616 ∧ ∀ i,i < 64 → (xs.foldl (fun s x=>s ||| bitN x) s).testBit i = (s.testBit i || decide ((i : Int) ∈ xs)):=by
  induction xs with
  | nil=>intro s hs; exact ⟨hs,fun i _=>by simp⟩
  | cons x xs ih =>
    intro s hs
    obtain ⟨h1,h2⟩:=ih (s ||| bitN x) (or_lt _ _ hs (bitN_lt x))
    refine ⟨h1,fun i hi=>?_⟩
    rw [List.foldl_cons,h2 i hi,with_bit s x i hi,Bool.or_assoc]
    congr 1
    by_cases e : (i : Int) = x <;> simp [e]
theorem orL_lt (xs : List Int) : orL xs < 18446744073709551616:=(orL_aux xs 0 (by decide)).1
theorem orL_bit (xs : List Int) (i : Nat) (hi : i < 64) : (orL xs).testBit i = decide ((i : Int) ∈ xs):=by
  rw [orL,(orL_aux xs 0 (by decide)).2 i hi]; simp
theorem take_getB (xs : List Int) (i : Nat) (h : i < xs.length) : xs.take (i + 1) = xs.take i ++ [xs.getD i default]:=by
  rw [List.take_succ_eq_append_getElem h]; simp [List.getD_eq_getElem?_getD,h]
theorem orL_succ (xs : List Int) (i : Nat) (h : i < xs.length) : orL (xs.take (i + 1)) = orL (xs.take i) ||| bitN (xs.getD i default):=by
  rw [take_getB xs i h]; unfold orL; rw [List.foldl_append]; rfl
theorem mem_take (xs : List Int) (x : Int) (i : Nat) (h : i < xs.length) : x ∈ xs.take (i + 1) ↔ x ∈ xs.take i ∨ xs.getD i default = x:=by
  rw [take_getB xs i h,List.mem_append,List.mem_singleton]; exact or_congr Iff.rfl eq_comm
theorem ofA_ct {w  : World} {v : Value} {xs : List Int} {L : List HProp} (H : Holds w (arr 3 (Value.int .i64) v xs::L)) (hl : xs.length ≤ 9223372036854775807) :
    CT Tryz.prog 69 [v] w fun u w'=>u = .int .u64 ((orL xs : Nat) : Int) ∧ Holds w' (arr 3 (Value.int .i64) v xs::L):=by
  refine CT.enter (N:=18) Tryz.func69 rfl rfl rfl rfl ?_
  refine W.seq (fun K0 hK0=>?_)
  refine W.region ?_
  refine O.ex (Ex.assign rfl) rfl ?_
  refine O.nil ?_
  refine hK0 _ _ _ ?_
  refine W.seq (fun K1 hK1=>?_)
  refine W.region ?_
  refine O.ex (Ex.assign rfl) rfl ?_
  refine O.nil ?_
  refine hK1 _ _ _ ?_
  refine W.seq (fun K2 hK2=>?_)
  refine W.seq (fun K3 hK3=>?_)
  refine W.region ?_
  refine O.ex (Ex.move rfl) rfl ?_
  refine O.ex (by first|exact Ex.lenR Tryz.runUnderlying28 rfl|exact Ex.lenIn Tryz.runUnderlying28 rfl|exact Ex.lenL Tryz.runUnderlying28 rfl|exact Ex.len rfl Tryz.runUnderlying28 rfl) rfl ?_
  refine O.ex (Ex.move rfl) rfl ?_
  refine O.nil ?_
  refine hK3 _ _ _ ?_
  refine W.block ?_
  refine W.loop (σ:=Nat) (fun i=>[(3,.int .u64 ((orL (xs.take i) : Nat) : Int)),(6,v),(7,.int .i64 xs.length),(8,.int .i64 (i : Int))]) (fun i ds w=>ds = [] ∧ i ≤ xs.length ∧ Holds w (arr 3 (Value.int .i64) v xs::L)) (fun i=>xs.length - i) 0 ⟨by rw [List.take_zero]; rfl,rfl,rfl,rfl,trivial⟩ ⟨rfl,by omega,Holds.to (by assumption)⟩ ?_
  clear H
  rintro i _ w ⟨rfl,hi,H⟩
  have ho:=orL_lt (xs.take i)
  have hb:=bitN_lt (xs.getD ((i : Nat) : Int).toNat default)
  refine W.seq (fun K4 hK4=>?_)
  refine W.region ?_
  refine O.ex (Ex.lss rfl rfl) rfl ?_
  refine O.nil ?_
  refine hK4 _ _ _ ?_
  refine W.seq (fun K5 hK5=>?_)
  first|refine W.cond_p rfl (fun hlt=>?_) (fun hge=>?_)|refine W.cond_b rfl (fun hlt=>?_) (fun hge=>?_)
  · refine W.skip ?_
    refine hK5 _ _ _ ?_
    refine W.seq (fun K6 hK6=>?_)
    refine W.block ?_
    refine W.seq (fun K7 hK7=>?_)
    refine W.region ?_
    refine O.ex (by first|exact Ex.idxR Tryz.runUnderlying28 Tryz.sizeOf3 rfl rfl|exact Ex.idxIn Tryz.runUnderlying28 Tryz.sizeOf3 rfl rfl|exact Ex.idxS Tryz.runUnderlying28 Tryz.sizeOf3 rfl rfl|exact Ex.idx Tryz.runUnderlying28 Tryz.sizeOf3 rfl rfl (by omega) (by omega)) rfl ?_
    refine O.ex (by first|exact Ex.loadP Tryz.isAgg3 rfl|exact Ex.loadR Tryz.isAgg3 rfl|exact Ex.loadIn1 Tryz.isAgg3 rfl (Holds.to (by assumption))) rfl ?_
    refine O.ex (Ex.assign rfl) rfl ?_
    refine O.nil ?_
    refine hK7 _ _ _ ?_
    refine W.region ?_
    refine O.ex (Ex.move rfl) rfl ?_
    refine O.ex (Ex.move rfl) rfl ?_
    refine O.callF Tryz.call53 rfl rfl (CT.mono (bit_ct (Holds.to (by assumption))) ?_)
    rintro _ w ⟨rfl,H⟩
    refine O.ex (Ex.or64 _ _ rfl rfl) rfl ?_
    refine O.ex (Ex.assign rfl) rfl ?_
    refine O.nil ?_
    refine hK6 _ _ _ ?_
    refine W.region ?_
    refine O.ex (by first|exact Ex.addI rfl rfl|exact Ex.add rfl rfl rfl) rfl ?_
    refine O.ex (Ex.move rfl) rfl ?_
    refine O.nil ?_
    exact ⟨i + 1,⟨by rw [orL_succ xs i (by omega)]; rfl,rfl,rfl,rfl,trivial⟩,⟨rfl,by omega,Holds.to (by assumption)⟩,by omega⟩
  · refine W.exit ?_
    refine hK2 _ _ _ ?_
    refine W.seq (fun K8 hK8=>?_)
    refine W.region ?_
    refine O.ex (Ex.move rfl) rfl ?_
    refine O.ex (Ex.assign rfl) rfl ?_
    refine O.nil ?_
    refine hK8 _ _ _ ?_
    refine W.ret ?_
    try dsimp only [thenQ,blockQ,retQ]
    first|refine ⟨_,⟨_,_,rfl,rfl,rfl⟩,?_⟩|(refine retD_mark ?_; intro w H; refine ⟨_,⟨_,_,rfl,rfl,rfl⟩,?_⟩)|(refine retD_mark2 ?_; intro w H; refine ⟨_,⟨_,_,rfl,rfl,rfl⟩,?_⟩)
    obtain rfl : i = xs.length:=by omega
    exact ⟨by rw [List.take_length]; rfl,Holds.to (by assumption)⟩
theorem inS_nat (s i : Nat) (h : i < 64) : inS s (i : Int) = s.testBit i:=by
  unfold inS; rw [decide_eq_true (by omega),Bool.true_and,Int.toNat_natCast]
theorem refHas_ct {w : World} {s : Nat} {x : Int} {L : List HProp} (H : Holds w L) (hs : s < 18446744073709551616) :
    CT Tryz.prog 114 [.int .u64 (s : Int),.int .i64 x] w fun u w'=>u = .bool (inS s x) ∧ Holds w' L:=by
  refine CT.enter (N:=22) Tryz.func114 rfl rfl rfl rfl ?_
  refine W.seq (fun K0 hK0=>?_)
  refine W.region ?_
  refine O.ex (Ex.assign rfl) rfl ?_
  refine O.nil ?_
  refine hK0 _ _ _ ?_
  refine W.seq (fun K1 hK1=>?_)
  refine W.seq (fun K2 hK2=>?_)
  refine W.region ?_
  refine O.ex (Ex.move rfl) rfl ?_
  refine O.ex (Ex.lss rfl rfl) rfl ?_
  refine O.ex (Ex.move rfl) rfl ?_
  first|refine O.split_p (t:=8) rfl (fun hneg=>?_) (fun hpos=>?_)|refine O.split (t:=8) rfl (fun hneg=>?_) (fun hpos=>?_)
  · refine O.guard_f rfl rfl rfl rfl ?_
    refine O.guard_f rfl rfl rfl rfl ?_
    refine O.ex (Ex.pick_t rfl rfl) rfl ?_
    refine O.nil ?_
    refine hK2 _ _ _ ?_
    refine W.cond_t rfl ?_
    refine W.seq (fun K3 hK3=>?_)
    refine W.region ?_
    refine O.ex (Ex.assign rfl) rfl ?_
    refine O.nil ?_
    refine hK3 _ _ _ ?_
    refine W.ret ?_
    try dsimp only [thenQ,blockQ,retQ]
    first|refine ⟨_,⟨_,_,rfl,rfl,rfl⟩,?_⟩|(refine retD_mark ?_; intro w H; refine ⟨_,⟨_,_,rfl,rfl,rfl⟩,?_⟩)|(refine retD_mark2 ?_; intro w H; refine ⟨_,⟨_,_,rfl,rfl,rfl⟩,?_⟩)
    first
    | (refine ⟨?_,Holds.to (by assumption)⟩
       rw [show inS s x = false from by unfold inS; rw [decide_eq_false (by omega),Bool.false_and]]; rfl)
    | (refine ⟨?_,Holds.to (by assumption)⟩
       obtain rfl : x = (i : Int):=by omega
       rw [inS_nat s i (by omega),Nat.testBit_eq_decide_div_mod_eq,← hy]; rfl)
  · refine O.guard_t rfl rfl ?_
    refine O.ex (Ex.move rfl) rfl ?_
    refine O.guard_t rfl rfl ?_
    refine O.ex (Ex.gtr rfl rfl) rfl ?_
    refine O.ex (Ex.pick_f rfl rfl) rfl ?_
    refine O.nil ?_
    refine hK2 _ _ _ ?_
    first|refine W.cond_p rfl (fun hbig=>?_) (fun hle=>?_)|refine W.cond_b rfl (fun hbig=>?_) (fun hle=>?_)
    · refine W.seq (fun K4 hK4=>?_)
      refine W.region ?_
      refine O.ex (Ex.assign rfl) rfl ?_
      refine O.nil ?_
      refine hK4 _ _ _ ?_
      refine W.ret ?_
      try dsimp only [thenQ,blockQ,retQ]
      first|refine ⟨_,⟨_,_,rfl,rfl,rfl⟩,?_⟩|(refine retD_mark ?_; intro w H; refine ⟨_,⟨_,_,rfl,rfl,rfl⟩,?_⟩)|(refine retD_mark2 ?_; intro w H; refine ⟨_,⟨_,_,rfl,rfl,rfl⟩,?_⟩)
      first
      | (refine ⟨?_,Holds.to (by assumption)⟩
         rw [show inS s x = false from by unfold inS; rw [decide_eq_false (by omega),Bool.false_and]]; rfl)
      | (refine ⟨?_,Holds.to (by assumption)⟩
         obtain rfl : x = (i : Int):=by omega
         rw [inS_nat s i (by omega),Nat.testBit_eq_decide_div_mod_eq,← hy]; rfl)
    · refine W.skip ?_
      refine hK1 _ _ _ ?_
      refine W.seq (fun K5 hK5=>?_)
      refine W.seq (fun K6 hK6=>?_)
      refine W.region ?_
      refine O.ex (Ex.assign rfl) rfl ?_
      refine O.nil ?_
      refine hK6 _ _ _ ?_
      refine W.block ?_
      refine W.loop (σ:=Nat) (fun i=>[(0,.int .u64 ((s / 2 ^ i : Nat) : Int)),(1,.int .i64 x),(5,.int .i64 (i : Int))]) (fun i ds w=>ds = [] ∧ (i : Int) ≤ x ∧ Holds w L) (fun i=>x.toNat - i) 0 ⟨by rw [Nat.pow_zero,Nat.div_one]; rfl,rfl,rfl,trivial⟩ ⟨rfl,by omega,Holds.to (by assumption)⟩ ?_
      clear H
      rintro i _ w ⟨rfl,hi,H⟩
      obtain ⟨y,hy⟩ : ∃ y,y = s / 2 ^ i:=⟨_,rfl⟩
      have hyl : y ≤ s:=hy ▸ Nat.div_le_self _ _
      rw [← hy]
      refine W.seq (fun K7 hK7=>?_)
      refine W.seq (fun K8 hK8=>?_)
      refine W.region ?_
      refine O.ex (Ex.move rfl) rfl ?_
      refine O.ex (Ex.move rfl) rfl ?_
      refine O.ex (Ex.lss rfl rfl) rfl ?_
      refine O.nil ?_
      refine hK8 _ _ _ ?_
      first|refine W.cond_p rfl (fun hlt=>?_) (fun hge=>?_)|refine W.cond_b rfl (fun hlt=>?_) (fun hge=>?_)
      · refine W.skip ?_
        refine hK7 _ _ _ ?_
        refine W.seq (fun K9 hK9=>?_)
        refine W.block ?_
        refine W.region ?_
        refine O.ex (Ex.move rfl) rfl ?_
        refine O.ex (Ex.quo (r:=((y / 2 : Nat) : Int)) rfl rfl (by decide) (by rw [wrap64,show ((y : Nat) : Int).tdiv 2 = ((y / 2 : Nat) : Int) from rfl]; omega)) rfl ?_
        refine O.ex (Ex.assign rfl) rfl ?_
        refine O.nil ?_
        refine hK9 _ _ _ ?_
        refine W.region ?_
        refine O.ex (Ex.move rfl) rfl ?_
        refine O.ex (by first|exact Ex.addI rfl rfl|exact Ex.add rfl rfl rfl) rfl ?_
        refine O.ex (Ex.assign rfl) rfl ?_
        refine O.nil ?_
        have hy2 : y / 2 = s / 2 ^ (i + 1):=by rw [hy,Nat.div_div_eq_div_mul,Nat.pow_succ]
        exact ⟨i + 1,⟨by rw [← hy2]; rfl,rfl,rfl,trivial⟩,⟨rfl,by omega,Holds.to (by assumption)⟩,by omega⟩
      · refine W.exit ?_
        refine hK5 _ _ _ ?_
        refine W.seq (fun K10 hK10=>?_)
        refine W.region ?_
        refine O.ex (Ex.move rfl) rfl ?_
        refine O.ex (Ex.rem (r:=((y % 2 : Nat) : Int)) rfl rfl (by decide) (show ((y : Nat) : Int).tmod 2 = ((y % 2 : Nat) : Int) from rfl)) rfl ?_
        refine O.ex (Ex.eql64 _ 1 rfl rfl) rfl ?_
        refine O.ex (Ex.assign rfl) rfl ?_
        refine O.nil ?_
        refine hK10 _ _ _ ?_
        refine W.ret ?_
        try dsimp only [thenQ,blockQ,retQ]
        first|refine ⟨_,⟨_,_,rfl,rfl,rfl⟩,?_⟩|(refine retD_mark ?_; intro w H; refine ⟨_,⟨_,_,rfl,rfl,rfl⟩,?_⟩)|(refine retD_mark2 ?_; intro w H; refine ⟨_,⟨_,_,rfl,rfl,rfl⟩,?_⟩)
        first
        | (refine ⟨?_,Holds.to (by assumption)⟩
           rw [show inS s x = false from by unfold inS; rw [decide_eq_false (by omega),Bool.false_and]]; rfl)
        | (refine ⟨?_,Holds.to (by assumption)⟩
           obtain rfl : x = (i : Int):=by omega
           rw [inS_nat s i (by omega),Nat.testBit_eq_decide_div_mod_eq,← hy]; rfl)
def capB (c s : Nat) : HProp:=pt c (.cells #[.int .u64 (s : Int)] 61 (0,0))
theorem all_ct {w : World} {s : Nat} {L : List HProp} (H : Holds w L) :
    CT Tryz.prog 25 [.int .u64 (s : Int)] w fun u w'=>∃ c,u = .func (.func 54) #[] #[.pointer (some ⟨c,0,none⟩)] ∧ Holds w' (capB c s::L):=by
  refine CT.enter (N:=4) Tryz.func25 rfl rfl rfl rfl ?_
  refine W.seq (fun K0 hK0=>?_)
  refine W.region ?_
  refine O.boxP rfl (fun b1 w H=>?_)
  refine O.ex (Ex.assign rfl) rfl ?_
  refine O.nil ?_
  refine hK0 _ _ _ ?_
  refine W.seq (fun K1 hK1=>?_)
  refine W.region ?_
  refine O.ex (Ex.makeFunc rfl rfl) rfl ?_
  refine O.ex (Ex.assign rfl) rfl ?_
  refine O.nil ?_
  refine hK1 _ _ _ ?_
  refine W.ret ?_
  try dsimp only [thenQ,blockQ,retQ]
  first|refine ⟨_,⟨_,_,rfl,rfl,rfl⟩,?_⟩|(refine retD_mark ?_; intro w H; refine ⟨_,⟨_,_,rfl,rfl,rfl⟩,?_⟩)|(refine retD_mark2 ?_; intro w H; refine ⟨_,⟨_,_,rfl,rfl,rfl⟩,?_⟩)
  exact ⟨_,rfl,Holds.to (by assumption)⟩
/-- What a set's iterator tells. -/
theorem all1_ct {w w0 : World} {c s : Nat} {fv : Value} {J : Nat → List HProp} {φ : Nat → Prop} {S : World → Prop} (hT : TabAt w0) (hs : s < 18446744073709551616) (hφ : φ 0)
    (H : Holds w (base w0::capB c s::J 0))
    (hy : ∀ (j : Nat) w,j < (lst s).length → φ j → Holds w (base w0::capB c s::J j) →
      VT Tryz.prog fv [.int .i64 (((lst s).getD j default : Nat) : Int)] w fun u w'=>(u = .bool true ∧ φ (j + 1) ∧ Holds w' (base w0::capB c s::J (j + 1))) ∨ (u = .bool false ∧ S w')) :
    CT Tryz.prog 54 [fv,.pointer (some ⟨c,0,none⟩)] w fun _ w'=>(φ (lst s).length ∧ Holds w' (base w0::capB c s::J (lst s).length)) ∨ S w':=by
  have H:=H.swap
  unfold capB at H
  refine CT.enter (N:=22) Tryz.func54 rfl rfl rfl rfl ?_
  refine W.seq (fun K0 hK0=>?_)
  refine W.region ?_
  refine O.ex (by first|exact Ex.loadP Tryz.isAgg61 rfl|exact Ex.loadR Tryz.isAgg61 rfl|exact Ex.loadIn1 Tryz.isAgg61 rfl (Holds.to (by assumption))) rfl ?_
  refine O.ex (Ex.assign rfl) rfl ?_
  refine O.nil ?_
  refine hK0 _ _ _ ?_
  refine W.block ?_
  refine W.loop (σ:=Nat × Nat) (fun i=>[(0,fv),(3,.int .u64 (i.2 : Int))]) (fun i ds w=>ds = [] ∧ i.2 < 18446744073709551616 ∧ lst i.2 = (lst s).drop i.1 ∧ i.1 ≤ (lst s).length ∧ φ i.1 ∧ Holds w (base w0::capB c s::J i.1)) (fun i=>(lst s).length - i.1) (0,s) ⟨rfl,rfl,trivial⟩ ⟨rfl,hs,rfl,by simp,hφ,Holds.to (by assumption)⟩ ?_
  clear H
  rintro ⟨j,y⟩ _ w ⟨rfl,hyl,hyd,hjl,hφj,H⟩
  dsimp only at hyl hyd hjl hφj H
  dsimp only
  refine W.seq (fun K1 hK1=>?_)
  refine W.seq (fun K2 hK2=>?_)
  refine W.region ?_
  refine O.ex (Ex.move rfl) rfl ?_
  refine O.ex (Ex.neq64 _ 0 rfl rfl) rfl ?_
  refine O.nil ?_
  refine hK2 _ _ _ ?_
  first|refine W.cond_p rfl (fun hne=>?_) (fun heq=>?_)|refine W.cond_b rfl (fun hne=>?_) (fun heq=>?_)
  · refine W.skip ?_
    refine hK1 _ _ _ ?_
    refine W.seq (fun K3 hK3=>?_)
    refine W.block ?_
    refine W.seq (fun K4 hK4=>?_)
    refine W.region ?_
    have hne' : y ≠ 0:=hne
    have hcons:=lst_cons y hne' hyl
    rw [hyd] at hcons
    have hj : j < (lst s).length:=by
      rcases Nat.lt_or_ge j (lst s).length with h|h
      · exact h
      · rw [List.drop_eq_nil_of_le h] at hcons; cases hcons
    have hget : (lst s).getD j default = Lib.ctz 64 y:=by
      have:=congrArg (fun l : List Nat=>l.head?) hcons
      simp only [List.head?_drop,List.head?_cons] at this
      rw [List.getD_eq_getElem?_getD,this]; rfl
    have hnext : lst (y &&& (y - 1)) = (lst s).drop (j + 1):=by
      have:=congrArg List.tail hcons
      rw [List.tail_drop,List.tail_cons] at this; exact this.symm
    have hnl:=and_lt y (y - 1) hyl
    have hfst : fstS y = (((lst s).getD j default : Nat) : Int):=by unfold fstS; rw [if_neg hne',hget]
    refine O.ex (Ex.move rfl) rfl ?_
    refine O.callF Tryz.call55 rfl rfl (CT.mono (first_ct hT (Holds.to (by assumption)) hyl) ?_)
    rintro _ w ⟨rfl,H⟩
    rw [hfst]
    refine O.ex (Ex.move rfl) rfl ?_
    refine O.ex (Ex.extract rfl rfl) rfl ?_
    refine O.ex (Ex.extract rfl rfl) rfl ?_
    refine O.ex (Ex.assign rfl) rfl ?_
    refine O.ex (Ex.assign rfl) rfl ?_
    refine O.nil ?_
    refine hK4 _ _ _ ?_
    refine W.seq (fun K5 hK5=>?_)
    refine W.region ?_
    refine O.ex (Ex.move rfl) rfl ?_
    refine O.ex (Ex.move rfl) rfl ?_
    refine O.callVT rfl rfl rfl (VT.mono (hy j w hj hφj (Holds.to (by assumption))) ?_)
    rintro _ w hh
    obtain (⟨rfl,hφ2,H⟩|⟨rfl,H⟩):=hh
    · refine O.ex (by first|exact Ex.notD rfl|exact Ex.not rfl) rfl ?_
      refine O.nil ?_
      refine hK5 _ _ _ ?_
      refine W.known_f rfl (by first|rfl|decide|(simp; done)|omega) ?_
      refine W.skip ?_
      refine hK3 _ _ _ ?_
      refine W.region ?_
      refine O.ex (Ex.move rfl) rfl ?_
      refine O.ex (Ex.move rfl) rfl ?_
      refine O.ex (Ex.sub64 _ 1 rfl rfl) rfl ?_
      refine O.ex (Ex.and64 _ _ rfl rfl) rfl ?_
      refine O.ex (Ex.assign rfl) rfl ?_
      refine O.nil ?_
      exact ⟨(j + 1,y &&& (y - 1)),⟨rfl,rfl,trivial⟩,⟨rfl,hnl,hnext,hj,hφ2,Holds.to (by assumption)⟩,by dsimp only; omega⟩
    · refine O.ex (by first|exact Ex.notD rfl|exact Ex.not rfl) rfl ?_
      refine O.nil ?_
      refine hK5 _ _ _ ?_
      refine W.known_t rfl (by first|rfl|decide|(simp; done)|omega) ?_
      refine W.ret ?_
      try dsimp only [thenQ,blockQ,retQ]
      first|refine ⟨_,rfl,?_⟩|(refine retD_mark ?_; intro w H; refine ⟨_,rfl,?_⟩)|(refine retD_mark2 ?_; intro w H; refine ⟨_,rfl,?_⟩)
      first
      | exact .inr H
      | (obtain rfl : j = (lst s).length:=by
           have h0 : y = 0:=by simpa using heq
           rw [h0,lst_zero] at hyd
           have:=(List.drop_eq_nil_iff).1 hyd.symm
           omega
         exact .inl ⟨hφj,Holds.to (by assumption)⟩)
  · refine W.exit ?_
    try dsimp only [thenQ,blockQ,retQ]
    first|refine ⟨_,rfl,?_⟩|(refine retD_mark ?_; intro w H; refine ⟨_,rfl,?_⟩)|(refine retD_mark2 ?_; intro w H; refine ⟨_,rfl,?_⟩)
    first
    | exact .inr H
    | (obtain rfl : j = (lst s).length:=by
         have h0 : y = 0:=by simpa using heq
         rw [h0,lst_zero] at hyd
         have:=(List.drop_eq_nil_iff).1 hyd.symm
         omega
       exact .inl ⟨hφj,Holds.to (by assumption)⟩)
end Go.Proofs.YtblapiiinbppiaaGreatDoor
