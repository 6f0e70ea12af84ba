/- Bits of the numbers of 64 bits without a sign, as natural numbers. No program in sight. -/
import Derived.Laws.Bits64b
import Derived.Laws.Entries
import Derived.Test.YtliofdfhimmjmaaRrBase
namespace Go.Rr
set_option linter.unusedVariables false
theorem wrap64 (n : Int) : IntKind.u64.wrap n = n % 18446744073709551616:=IntKind.wrap_u64 n
section
variable {P : Program} {ro : Option Nat} {N : Nat} {Q : Q0} {l : Regs} {ds : List Deferred} {w w' : World} {ops : Array Oper} {os : List Oper}
variable {d : Tmp} {ty : TypeId} {pos : String} {af : Array Edge} {x y : Operand} {t yt : TypeId} {a b : Nat} {k : IntKind}
theorem Ex.bits {op : BinOp} {k : IntKind} {m n r : Int} (hop : op = .and ∨ op = .or ∨ op = .xor ∨ op = .andNot) (e1 : ev l x = some (.int k m)) (e2 : ev l y = some (.int k n)) (hr : Go.bits op k m n = r) : Ex P N l (.binOp op t x y yt) ty w (.int k r) w:=by
  subst hr
  rcases hop with rfl|rfl|rfl|rfl
  all_goals exact ⟨nofun,fun _ _ _ a ha=>by
    simp [execOp,ha.eval e1,ha.eval e2,eqGuard,binOp]
    first|rw [intBits_and]|rw [intBits_or]|rw [intBits_xor]|rw [intBits_andNot]
    simp⟩
theorem Ex.and64 (a b : Nat) (e1 : ev l x = some (.int .u64 (a : Int))) (e2 : ev l y = some (.int .u64 (b : Int))) (ha : a < 18446744073709551616:=by omega) (hb : b < 18446744073709551616:=by omega) : Ex P N l (.binOp .and t x y yt) ty w (.int .u64 ((a &&& b : Nat) : Int)) w :=
  Ex.bits (.inl rfl) e1 e2 (bits_and_u64_nat a b ha hb)
theorem Ex.shr64 (a n : Nat) (e1 : ev l x = some (.int .u64 (a : Int))) (e2 : ev l y = some (.int k (n : Int))) (hn : n ≤ 64:=by omega) : Ex P N l (.binOp .shr t x y yt) ty w (.int .u64 ((a / 2 ^ n : Nat) : Int)) w :=
  ⟨nofun,fun _ _ _ r hr=>by
    simp [execOp,hr.eval e1,hr.eval e2,eqGuard,binOp]
    try (rw [shift_shr_u64 k (a : Int) (n : Int) (by omega) (by omega)]; simp)⟩
theorem Ex.add64 (a b : Nat) (e1 : ev l x = some (.int .u64 (a : Int))) (e2 : ev l y = some (.int .u64 (b : Int))) : Ex P N l (.binOp .add t x y yt) ty w (.int .u64 (((a + b) % 18446744073709551616 : Nat) : Int)) w :=
  Ex.add e1 e2 (by rw [wrap64]; omega)
theorem Ex.idxArr {E sz bl off n : Nat} {i : Int} (hu : UndIs P t (.array n E)) (hs : SizeIs P E sz) (e1 : ev l x = some (.pointer (some ⟨bl,off,none⟩))) (e2 : ev l y = some (.int k i)) (h0 : 0 ≤ i:=by first|assumption|omega) (h1 : i < n:=by first|assumption|omega) :
    Ex P N l (.indexAddr t x y) ty w (.pointer (some ⟨bl,off + i.toNat * sz,none⟩)) w :=
  ⟨nofun,fun _ _ _ r hr=>by simp [execOp,Instr.indexAt,hr.eval e1,hr.eval e2,asIntOf,hu w,hs w,h0,h1,add_off,Instr.sureAddr]⟩
/-- []T{a, b, ..}, all of its places given. -/
theorem O.buildK {α : Type} {e : α → Value} {T : TypeId} {L : List HProp} {zv : Value} {n : Nat} {parts : Array (Nat × Operand)} {vs : List (Nat × Value)} (xs : List α) (hu : UndIs P t (.slice T)) (hs : SizeIs P T 1) (hz : ZeroIs P T zv) (hzc : zv.oneCell' = true) (hn : n = xs.length) (hn0 : Nat.blt 0 n = true) (hn1 : Nat.ble n 1000 = true)
    (ep : parts.toList.map (fun p=>(p.1,ev l p.2)) = vs.map (fun p=>(p.1,some p.2)))
    (hf : Instr.fill (fun i=>some (i,1)) (Array.replicate n zv) vs = some (xs.map e).toArray)
    (h : ∀ v w',v.oneCell' = true → Holds w' (arr T e v xs::L) → O P ro N ops os Q ((d,v)::l) ds w')
    (H : Holds w L:=by assumption) (hd : Nat.blt d N = true:=by rfl) :
    O P ro N ops (⟨some d,.buildSlice t n parts,ty,pos,af,none⟩::os) Q l ds w:=by
  have hc : zv.cells = #[zv]:=cells_one hzc
  have h0 : n ≠ 0 := by have : 0 < n:=by simpa using hn0
                        omega
  have h1 : n ≤ 1000:=by simpa using hn1
  have hnb : ¬ (16777216 < n):=by omega
  refine O.val (w':={ w with heap:=w.heap.push (.cells (xs.map e).toArray T) }) (v:=.slice (some ⟨w.heap.size,0,none⟩) n n) nofun (by simpa using hd) (fun a ha=>?_) (h _ _ rfl ?_)
  · have hp : (parts.map fun (i,x)=>(i,a.eval x)).toList = vs:=by
      rw [Array.toList_map]
      revert ep
      generalize parts.toList = ps
      clear hf
      intro ep
      induction ps generalizing vs with
      | nil=>cases vs <;> simp_all
      | cons p ps ih =>
        cases vs with
        | nil=>simp at ep
        | cons q vs =>
          simp only [List.map_cons,List.cons.injEq,Prod.mk.injEq] at ep ⊢
          obtain ⟨⟨e1,e2⟩,e3⟩:=ep
          refine ⟨?_,ih e3⟩
          rw [ha.eval e2,e1]
    have hz2 : ((Array.range (n * 1)).map fun x=>#[zv][x % #[zv].size]!) = Array.replicate n zv:=by
      apply Array.ext
      · simp
      · intro i h1 h2; simp [Nat.mod_one]
    simp only [execOp,Instr.buildSlice,hu w,hs w,Sem.run_bind,Result.andThen_ok,Nat.mul_one]
    rw [if_neg (by omega)]
    simp only [Sem.run_bind,Sem.run_pure,Result.andThen_ok,if_neg h0,hz w,hc]
    rw [hp]
    simp only [Nat.mul_one] at hz2
    rw [hz2,hf]
    rfl
  · subst hn
    exact arr_mk (e:=e) (xs:=xs) (rest:=[]) (cap:=xs.length) (by simp) (by
      have:=H.alloc (.cells (xs.map e).toArray T)
      simpa using this)
end
end Go.Rr
