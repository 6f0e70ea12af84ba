import Derived.Test.YtblapiiinbppiaaGreatDoorOrder2
namespace Go.Proofs.YtblapiiinbppiaaGreatDoor
open Go.Rr Go Hp Wt
set_option linter.unusedVariables false
section
variable {w : World} {m r : Nat} {n v settles : Int} {c : Int → Int → Int} {L : List HProp}
theorem needN_le (hg : Good n c) : needN n c v settles ≤ 576:=by
  have h1:=needT_le n c v settles (detL n c v).length
  have h2:=det_len hg v
  rw [needT_all] at h1
  omega
theorem needV_ct (hg : Good n c) (hv : 0 ≤ v ∧ v < n) (H : Holds w (Mh m n c::L)) :
    CT Tryz.prog 15 [.pointer (some ⟨m,0,none⟩),.int .i64 v,.int .i64 settles] w fun y w'=>y = .tuple #[.int .i64 (needN n c v settles : Nat),.int .i64 0] ∧ Holds w' (Mh m n c::L):=by
  have:=need_ct (settles:=settles) (v:=v) hg H
  rwa [if_pos hv] at this
theorem needU_ct (hg : Good n c) (hv : ¬ (0 ≤ v ∧ v < n)) (H : Holds w (Mh m n c::L)) :
    CT Tryz.prog 15 [.pointer (some ⟨m,0,none⟩),.int .i64 v,.int .i64 settles] w fun y w'=>y = .tuple #[.int .i64 0,.int .i64 1] ∧ Holds w' (Mh m n c::L):=by
  have:=need_ct (settles:=settles) (v:=v) hg H
  rwa [if_neg hv] at this
theorem diffV_ct (hg : Good n c) (hv : 0 ≤ v ∧ v < n) (H : Holds w (Mh m n c::L)) :
    CT Tryz.prog 16 [.pointer (some ⟨m,0,none⟩),.int .i64 v,.int .i64 settles] w fun y w'=>y = .tuple #[.int .i64 (((needN n c v settles : Nat) : Int) - ((arC c v n.toNat 2 : Nat) : Int)),.int .i64 0] ∧ Holds w' (Mh m n c::L):=by
  have hn:=needN_le (v:=v) (settles:=settles) hg
  have ha:=arC_le c v n.toNat 2
  have n2:=hg.n2
  refine CT.enter (N:=31) Tryz.func16 rfl rfl rfl rfl ?_
  refine W.seq (fun K0 hK0=>?_)
  refine W.region ?_
  refine O.ex (Ex.assign rfl) rfl ?_
  refine O.ex (Ex.assign rfl) rfl ?_
  refine O.nil ?_
  refine hK0 _ _ _ ?_
  refine W.seq (fun K1 hK1=>?_)
  refine W.region ?_
  refine O.ex (Ex.move rfl) rfl ?_
  refine O.ex (Ex.move rfl) rfl ?_
  refine O.ex (Ex.move rfl) rfl ?_
  refine O.callF Tryz.call15 rfl rfl (CT.mono (needV_ct hg hv (Holds.to (by assumption))) ?_)
  rintro _ w ⟨rfl,H⟩
  refine O.ex (Ex.move rfl) rfl ?_
  refine O.ex (Ex.extract rfl rfl) rfl ?_
  refine O.ex (Ex.extract rfl rfl) rfl ?_
  refine O.ex (Ex.assign rfl) rfl ?_
  refine O.ex (Ex.assign rfl) rfl ?_
  refine O.nil ?_
  refine hK1 _ _ _ ?_
  refine W.seq (fun K2 hK2=>?_)
  refine W.seq (fun K3 hK3=>?_)
  refine W.region ?_
  refine O.ex (Ex.move rfl) rfl ?_
  refine O.ex (Ex.neqI rfl rfl) rfl ?_
  refine O.nil ?_
  refine hK3 _ _ _ ?_
  refine W.known_f rfl (by first|rfl|decide) ?_
  refine W.skip ?_
  refine hK2 _ _ _ ?_
  refine W.seq (fun K4 hK4=>?_)
  refine W.region ?_
  refine O.ex (Ex.move rfl) rfl ?_
  refine O.ex (Ex.move rfl) rfl ?_
  refine O.callF Tryz.call28 rfl rfl (CT.mono (around_ct hg (Holds.to (by assumption))) ?_)
  rintro _ w ⟨rfl,H⟩
  refine O.ex (Ex.move rfl) rfl ?_
  refine O.ex (Ex.extract rfl rfl) rfl ?_
  refine O.ex (Ex.extract rfl rfl) rfl ?_
  refine O.ex (Ex.assign rfl) rfl ?_
  refine O.ex (Ex.assign rfl) rfl ?_
  refine O.nil ?_
  refine hK4 _ _ _ ?_
  refine W.seq (fun K5 hK5=>?_)
  refine W.region ?_
  refine O.ex (Ex.move rfl) rfl ?_
  refine O.ex (Ex.move rfl) rfl ?_
  refine O.ex (by first|exact Ex.subI rfl rfl|exact Ex.sub rfl rfl rfl) rfl ?_
  refine O.ex (Ex.assign rfl) rfl ?_
  refine O.ex (Ex.assign rfl) rfl ?_
  refine O.nil ?_
  refine hK5 _ _ _ ?_
  refine W.ret ?_
  try dsimp only [thenQ,blockQ,retQ]
  first|refine ⟨_,⟨_,_,rfl,rfl,_,_,rfl,rfl,rfl⟩,?_⟩|(refine retD_mark ?_; intro w H; refine ⟨_,⟨_,_,rfl,rfl,_,_,rfl,rfl,rfl⟩,?_⟩)|(refine retD_mark2 ?_; intro w H; refine ⟨_,⟨_,_,rfl,rfl,_,_,rfl,rfl,rfl⟩,?_⟩)
  exact ⟨rfl,by first|assumption|exact Holds.to (by assumption)⟩
theorem refDiff_ct (hg : Good n c) (H : Holds w (Rh r n c::L)) :
    CT Tryz.prog 31 [.pointer (some ⟨r,0,none⟩),.int .i64 v,.int .i64 settles] w fun y w'=>y = .int .i64 (((needN n c v settles : Nat) : Int) - ((arC c v n.toNat 2 : Nat) : Int)) ∧ Holds w' (Rh r n c::L):=by
  have hn:=needN_le (v:=v) (settles:=settles) hg
  have h1:=sl_le (fun x=>c v x) n.toNat
  have h2:=sl_le (fun x=>c x v) n.toNat
  have n2:=hg.n2
  refine CT.enter (N:=21) Tryz.func31 rfl rfl rfl rfl ?_
  refine W.seq (fun K0 hK0=>?_)
  refine W.region ?_
  refine O.ex (Ex.assign rfl) rfl ?_
  refine O.nil ?_
  refine hK0 _ _ _ ?_
  refine W.seq (fun K1 hK1=>?_)
  refine W.region ?_
  refine O.ex (Ex.move rfl) rfl ?_
  refine O.ex (Ex.move rfl) rfl ?_
  refine O.ex (Ex.move rfl) rfl ?_
  refine O.callF Tryz.call62 rfl rfl (CT.mono (refNeed_ct hg (Holds.to (by assumption))) ?_)
  rintro _ w ⟨rfl,H⟩
  refine O.ex (Ex.move rfl) rfl ?_
  refine O.ex (Ex.move rfl) rfl ?_
  refine O.callF Tryz.call33 rfl rfl (CT.mono (refStepsf_ct hg (Holds.to (by assumption))) ?_)
  rintro _ w ⟨hx1,H⟩
  refine O.ex (by first|exact Ex.lenR Tryz.runUnderlying28 rfl|exact Ex.lenIn Tryz.runUnderlying28 rfl|exact Ex.lenL Tryz.runUnderlying28 rfl|exact Ex.len rfl Tryz.runUnderlying28 rfl) rfl ?_
  refine O.ex (by first|exact Ex.subI rfl rfl|exact Ex.sub rfl rfl rfl) rfl ?_
  refine O.ex (Ex.move rfl) rfl ?_
  refine O.ex (Ex.move rfl) rfl ?_
  refine O.callF Tryz.call33 rfl rfl (CT.mono (refStepst_ct hg (Holds.to (by assumption))) ?_)
  rintro _ w ⟨hx2,H⟩
  refine O.ex (by first|exact Ex.lenR Tryz.runUnderlying28 rfl|exact Ex.lenIn Tryz.runUnderlying28 rfl|exact Ex.lenL Tryz.runUnderlying28 rfl|exact Ex.len rfl Tryz.runUnderlying28 rfl) rfl ?_
  refine O.ex (by first|exact Ex.subI rfl rfl|exact Ex.sub rfl rfl rfl) rfl ?_
  refine O.ex (Ex.assign rfl) rfl ?_
  refine O.nil ?_
  refine hK1 _ _ _ ?_
  refine W.ret ?_
  try dsimp only [thenQ,blockQ,retQ]
  first|refine ⟨_,⟨_,_,rfl,rfl,rfl⟩,?_⟩|(refine retD_mark ?_; intro w H; refine ⟨_,⟨_,_,rfl,rfl,rfl⟩,?_⟩)|(refine retD_mark2 ?_; intro w H; refine ⟨_,⟨_,_,rfl,rfl,rfl⟩,?_⟩)
  exact ⟨congrArg (Value.int .i64) (by show _ = ((needN n c v settles : Nat) : Int) - (((sl (fun x=>c v x) n.toNat).length + (sl (fun x=>c x v) n.toNat).length : Nat) : Int); omega),Holds.to (by assumption)⟩
end
theorem ob : bitN 1 = 2:=by decide
theorem od3 : detL 3 aw3 1 = [⟨0,2,5,1⟩]:=by decide +kernel
theorem od4 : detL 3 aw4 1 = [⟨0,2,5,1⟩]:=by decide +kernel
theorem os3 : spB 3 aw3 0 1 2 9 = false:=by
  have h1 : to (3 : Int).toNat aw3 (0 : Int).toNat (bitN 1) 9 (two (aw3 0 1) (aw3 1 2)) 1:=by rw [aw_m,ob]; exact aw_a.1
  have h2 : stopP (3 : Int).toNat aw3 (0 : Int).toNat (bitN 1) 9 (two (aw3 0 1) (aw3 1 2)) 1:=by rw [aw_m,ob]; exact aw_a.2
  rw [← spB_eq (x:=2) h1 h2,ob]
  have : st (3 : Int).toNat aw3 (0 : Int).toNat 2 1 = [(0,0)]:=aw_s
  rw [this]; decide
theorem os4 : spB 3 aw4 0 1 2 9 = true:=by
  have h1 : to (3 : Int).toNat aw4 (0 : Int).toNat (bitN 1) 9 (two (aw4 0 1) (aw4 1 2)) 2:=by rw [aw_m4,ob]; exact aw_b.1
  have h2 : stopP (3 : Int).toNat aw4 (0 : Int).toNat (bitN 1) 9 (two (aw4 0 1) (aw4 1 2)) 2:=by rw [aw_m4,ob]; exact aw_b.2
  rw [← spB_eq (x:=2) h1 h2,ob]
  have : st (3 : Int).toNat aw4 (0 : Int).toNat 2 2 = [(0,0),(2,5)]:=aw_s4
  rw [this]; decide
theorem on3 : needN 3 aw3 1 9 = 1:=by
  unfold needN
  rw [od3,List.filter_cons_of_pos (by show (!spB 3 aw3 0 1 2 9) = true; rw [os3]; rfl)]
  rfl
theorem on4 : needN 3 aw4 1 9 = 0:=by
  unfold needN
  rw [od4,List.filter_cons_of_neg (by show ¬ (!spB 3 aw4 0 1 2 9) = true; rw [os4]; decide)]
  rfl
theorem oc3 : arC aw3 1 3 2 = 2:=by decide +kernel
set_option maxHeartbeats 1000000 in
theorem awake14_ct {w : World} {L : List HProp} (H : Holds w L) : CT Tryz.prog 5 [] w fun u w'=>u = .bool true ∧ Holds w' L:=by
  have g0:=good_none (n:=3) (by omega) (by omega)
  have g1:=good_put g0 0 1 2
  have g2:=good_put g1 1 2 3
  have g3 : Good 3 aw3:=good_put g2 0 2 9
  have g4 : Good 3 aw4:=good_put g3 0 2 5
  have k1 : ((needN 3 aw3 1 9 : Nat) : Int) = 1:=by rw [on3]; rfl
  have k2 : ((needN 3 aw3 1 9 : Nat) : Int) - ((arC aw3 1 (3 : Int).toNat 2 : Nat) : Int) = -1:=by rw [on3,show arC aw3 1 (3 : Int).toNat 2 = 2 from oc3]; rfl
  have k3 : ((needN 3 aw4 1 9 : Nat) : Int) = 0:=by rw [on4]; rfl
  refine CT.enter (N:=67) Tryz.func5 rfl rfl rfl rfl ?_
  refine W.seq (fun K0 hK0=>?_)
  refine W.region ?_
  refine O.ex (Ex.assign rfl) rfl ?_
  refine O.nil ?_
  refine hK0 _ _ _ ?_
  refine W.seq (fun K1 hK1=>?_)
  refine W.region ?_
  refine O.callF Tryz.call13 rfl rfl (CT.mono (new_ct (n:=3) (by assumption)) ?_)
  rintro _ w (⟨hno,-⟩|⟨-,m,rfl,H⟩)
  · exact absurd (by omega) hno
  refine O.ex (Ex.move rfl) rfl ?_
  refine O.ex (Ex.extract rfl rfl) rfl ?_
  refine O.ex (Ex.extract rfl rfl) rfl ?_
  refine O.ex (Ex.assign rfl) rfl ?_
  refine O.ex (Ex.assign rfl) rfl ?_
  refine O.nil ?_
  refine hK1 _ _ _ ?_
  refine W.seq (fun K2 hK2=>?_)
  refine W.seq (fun K3 hK3=>?_)
  refine W.region ?_
  refine O.ex (Ex.move rfl) rfl ?_
  refine O.ex (Ex.nilEq Tryz.runUnderlying45 rfl rfl) rfl ?_
  refine O.nil ?_
  refine hK3 _ _ _ ?_
  refine W.known_f rfl (by first|rfl|decide|exact decide_eq_true k1|exact decide_eq_true k2|exact decide_eq_true k3) ?_
  refine W.skip ?_
  refine hK2 _ _ _ ?_
  refine W.seq (fun K4 hK4=>?_)
  refine W.region ?_
  refine O.ex (Ex.move rfl) rfl ?_
  refine O.callF Tryz.call14 rfl rfl (CT.mono (put_ct g0 (Holds.to (by assumption))) ?_)
  rintro _ w ⟨-,H⟩
  refine O.nil ?_
  refine hK4 _ _ _ ?_
  refine W.seq (fun K5 hK5=>?_)
  refine W.region ?_
  refine O.ex (Ex.move rfl) rfl ?_
  refine O.callF Tryz.call14 rfl rfl (CT.mono (put_ct g1 (Holds.to (by assumption))) ?_)
  rintro _ w ⟨-,H⟩
  refine O.nil ?_
  refine hK5 _ _ _ ?_
  refine W.seq (fun K6 hK6=>?_)
  refine W.region ?_
  refine O.ex (Ex.move rfl) rfl ?_
  refine O.callF Tryz.call14 rfl rfl (CT.mono (put_ct g2 (Holds.to (by assumption))) ?_)
  rintro _ w ⟨-,H⟩
  have H : Holds w (Mh m 3 aw3::L):=Holds.to H
  refine O.nil ?_
  refine hK6 _ _ _ ?_
  refine W.seq (fun K7 hK7=>?_)
  refine W.region ?_
  refine O.ex (Ex.move rfl) rfl ?_
  refine O.callF Tryz.call15 rfl rfl (CT.mono (needV_ct g3 (by omega) (Holds.to (by assumption))) ?_)
  rintro _ w ⟨rfl,H⟩
  refine O.ex (Ex.move rfl) rfl ?_
  refine O.ex (Ex.extract rfl rfl) rfl ?_
  refine O.ex (Ex.extract rfl rfl) rfl ?_
  refine O.ex (Ex.assign rfl) rfl ?_
  refine O.ex (Ex.assign rfl) rfl ?_
  refine O.nil ?_
  refine hK7 _ _ _ ?_
  refine W.seq (fun K8 hK8=>?_)
  refine W.region ?_
  refine O.ex (Ex.move rfl) rfl ?_
  refine O.callF Tryz.call16 rfl rfl (CT.mono (diffV_ct g3 (by omega) (Holds.to (by assumption))) ?_)
  rintro _ w ⟨rfl,H⟩
  refine O.ex (Ex.move rfl) rfl ?_
  refine O.ex (Ex.extract rfl rfl) rfl ?_
  refine O.ex (Ex.extract rfl rfl) rfl ?_
  refine O.ex (Ex.assign rfl) rfl ?_
  refine O.ex (Ex.assign rfl) rfl ?_
  refine O.nil ?_
  refine hK8 _ _ _ ?_
  refine W.seq (fun K9 hK9=>?_)
  refine W.region ?_
  refine O.ex (Ex.move rfl) rfl ?_
  refine O.callF Tryz.call14 rfl rfl (CT.mono (put_ct g3 (Holds.to (by assumption))) ?_)
  rintro _ w ⟨-,H⟩
  have H : Holds w (Mh m 3 aw4::L):=Holds.to H
  refine O.nil ?_
  refine hK9 _ _ _ ?_
  refine W.seq (fun K10 hK10=>?_)
  refine W.region ?_
  refine O.ex (Ex.move rfl) rfl ?_
  refine O.callF Tryz.call15 rfl rfl (CT.mono (needV_ct g4 (by omega) (Holds.to (by assumption))) ?_)
  rintro _ w ⟨rfl,H⟩
  refine O.ex (Ex.move rfl) rfl ?_
  refine O.ex (Ex.extract rfl rfl) rfl ?_
  refine O.ex (Ex.extract rfl rfl) rfl ?_
  refine O.ex (Ex.assign rfl) rfl ?_
  refine O.ex (Ex.assign rfl) rfl ?_
  refine O.nil ?_
  refine hK10 _ _ _ ?_
  refine W.seq (fun K11 hK11=>?_)
  refine W.region ?_
  refine O.ex (Ex.move rfl) rfl ?_
  refine O.callF Tryz.call15 rfl rfl (CT.mono (needU_ct g4 (by omega) (Holds.to (by assumption))) ?_)
  rintro _ w ⟨rfl,H⟩
  refine O.ex (Ex.move rfl) rfl ?_
  refine O.ex (Ex.extract rfl rfl) rfl ?_
  refine O.ex (Ex.extract rfl rfl) rfl ?_
  refine O.ex (Ex.assign rfl) rfl ?_
  refine O.ex (Ex.assign rfl) rfl ?_
  refine O.nil ?_
  refine hK11 _ _ _ ?_
  refine W.seq (fun K12 hK12=>?_)
  refine W.region ?_
  refine O.ex (Ex.move rfl) rfl ?_
  refine O.ex (Ex.eqlI rfl rfl) rfl ?_
  refine O.ex (Ex.move rfl) rfl ?_
  refine O.known (t:=47) (c:=true) rfl (by first|rfl|decide|exact decide_eq_true k1|exact decide_eq_true k2|exact decide_eq_true k3) ?_
  refine O.guard_t rfl rfl ?_
  refine O.ex (Ex.move rfl) rfl ?_
  refine O.guard_t rfl rfl ?_
  refine O.ex (Ex.eqlI rfl rfl) rfl ?_
  refine O.ex (Ex.pick_t rfl rfl) rfl ?_
  refine O.ex (Ex.move rfl) rfl ?_
  refine O.known (t:=51) (c:=true) rfl (by first|rfl|decide|exact decide_eq_true k1|exact decide_eq_true k2|exact decide_eq_true k3) ?_
  refine O.guard_t rfl rfl ?_
  refine O.ex (Ex.move rfl) rfl ?_
  refine O.guard_t rfl rfl ?_
  refine O.ex (Ex.eqlI rfl rfl) rfl ?_
  refine O.ex (Ex.pick_t rfl rfl) rfl ?_
  refine O.ex (Ex.move rfl) rfl ?_
  refine O.known (t:=55) (c:=true) rfl (by first|rfl|decide|exact decide_eq_true k1|exact decide_eq_true k2|exact decide_eq_true k3) ?_
  refine O.guard_t rfl rfl ?_
  refine O.ex (Ex.move rfl) rfl ?_
  refine O.guard_t rfl rfl ?_
  refine O.ex (Ex.eqlI rfl rfl) rfl ?_
  refine O.ex (Ex.pick_t rfl rfl) rfl ?_
  refine O.ex (Ex.move rfl) rfl ?_
  refine O.known (t:=59) (c:=true) rfl (by first|rfl|decide|exact decide_eq_true k1|exact decide_eq_true k2|exact decide_eq_true k3) ?_
  refine O.guard_t rfl rfl ?_
  refine O.ex (Ex.move rfl) rfl ?_
  refine O.guard_t rfl rfl ?_
  refine O.ex (Ex.eqlI rfl rfl) rfl ?_
  refine O.ex (Ex.pick_t rfl rfl) rfl ?_
  refine O.ex (Ex.move rfl) rfl ?_
  refine O.known (t:=63) (c:=true) rfl (by first|rfl|decide|exact decide_eq_true k1|exact decide_eq_true k2|exact decide_eq_true k3) ?_
  refine O.guard_t rfl rfl ?_
  refine O.ex (Ex.move rfl) rfl ?_
  refine O.guard_t rfl rfl ?_
  refine O.ex (Ex.eqlI rfl rfl) rfl ?_
  refine O.ex (Ex.pick_t rfl rfl) rfl ?_
  refine O.ex (Ex.assign rfl) rfl ?_
  refine O.nil ?_
  refine hK12 _ _ _ ?_
  refine W.ret ?_
  try dsimp only [thenQ,blockQ,retQ]
  first|refine ⟨_,⟨_,_,rfl,rfl,rfl⟩,?_⟩|(refine retD_mark ?_; intro w H; refine ⟨_,⟨_,_,rfl,rfl,rfl⟩,?_⟩)|(refine retD_mark2 ?_; intro w H; refine ⟨_,⟨_,_,rfl,rfl,rfl⟩,?_⟩)
  exact ⟨by first|rfl|exact congrArg Value.bool (decide_eq_true rfl),Holds.to (by assumption)⟩
end Go.Proofs.YtblapiiinbppiaaGreatDoor
