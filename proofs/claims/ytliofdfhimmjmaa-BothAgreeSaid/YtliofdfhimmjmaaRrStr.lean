/- Texts in their order, byte by byte. No program in sight. -/
import Derived.Test.YtliofdfhimmjmaaRrBase
namespace Go.Rr
set_option linter.unusedVariables false
theorem bl_irr : ∀ x : List UInt8,Op.bytesLess x x = false
  | [] => rfl
  | a::x=>by simp [Op.bytesLess,bl_irr x]
theorem bl_tr : ∀ x y z : List UInt8,Op.bytesLess x y = true → Op.bytesLess y z = true → Op.bytesLess x z = true
  | _,_,[],_,h=>by simp [Op.bytesLess] at h
  | _,[],_::_,h,_=>by simp [Op.bytesLess] at h
  | [], _::_,_::_,_,_=>rfl
  | a::x,b::y,c::z,h1,h2=>by
    simp only [Op.bytesLess,Bool.or_eq_true,Bool.and_eq_true,decide_eq_true_eq,beq_iff_eq,UInt8.lt_iff_toNat_lt] at h1 h2 ⊢
    rcases h1 with h1|⟨rfl,h1⟩ <;> rcases h2 with h2|⟨rfl,h2⟩
    · exact .inl (by omega)
    · exact .inl h1
    · exact .inl h2
    · exact .inr ⟨rfl,bl_tr x y z h1 h2⟩
theorem bl_tri : ∀ x y : List UInt8,Op.bytesLess x y = true ∨ x = y ∨ Op.bytesLess y x = true
  | [], [] => .inr (.inl rfl)
  | [], _::_=>.inl rfl
  | _::_,[]=>.inr (.inr rfl)
  | a :: x,b::y=>by
    simp only [Op.bytesLess,Bool.or_eq_true,Bool.and_eq_true,decide_eq_true_eq,beq_iff_eq,UInt8.lt_iff_toNat_lt]
    rcases Nat.lt_trichotomy a.toNat b.toNat with h|h|h
    · exact .inl (.inl h)
    · obtain rfl:=UInt8.toNat_inj.1 h
      rcases bl_tri x y with k|rfl|k
      · exact .inl (.inr ⟨rfl,k⟩)
      · exact .inr (.inl rfl)
      · exact .inr (.inr (.inr ⟨rfl,k⟩))
    · exact .inr (.inr (.inl h))
/-- A text is less than another. -/
def LtS (a b : ByteArray) : Prop:=Op.bytesLess a.toList b.toList = true
instance (a b : ByteArray) : Decidable (LtS a b):=by unfold LtS; infer_instance
theorem LtS.irr (a : ByteArray) : ¬ LtS a a:=by unfold LtS; rw [bl_irr]; nofun
theorem LtS.tr {a b c : ByteArray} : LtS a b → LtS b c → LtS a c:=bl_tr _ _ _
theorem toList_inj {a b : ByteArray} (h : a.toList = b.toList) : a = b:=by
  have:=str_beq a b
  rw [h] at this
  simpa using this
theorem LtS.tri (a b : ByteArray) : LtS a b ∨ a = b ∨ LtS b a:=by
  rcases bl_tri a.toList b.toList with h|h|h
  · exact .inl h
  · exact .inr (.inl (toList_inj h))
  · exact .inr (.inr h)
section
variable {P : Program} {N : Nat} {l : Regs} {w : World} {ty : TypeId} {x y : Operand} {t yt : TypeId} {s u : ByteArray}
end
end Go.Rr
