/- Roads that come, go, and are closed, plainly: the places, what a change answers and leaves, the lists at a vertex. No program in sight. -/
import Derived.Test.YtliofdfhimmjmaaRrBase
namespace Go.Proofs.Ytliofdfhimmjmaa
open Go.Rr Go
set_option linter.unusedVariables false
namespace Gr
structure Arc where
  t : Int
  h : Int
  w : Int
  cl : Bool
  deriving DecidableEq,Inhabited
def Arc.zero : Arc:=⟨0,0,0,false⟩
structure Sl where
  a : Arc
  tk : Bool
  deriving DecidableEq
def Sl.zero : Sl:=⟨Arc.zero,false⟩
abbrev St:=Nat → Sl
def arcc (a : Arc) : Nat → Value
  | 0=>.int .i64 a.t
  | 1=>.int .i64 a.h
  | 2=>.int .i64 a.w
  | _=>.bool a.cl
def slc (x : Sl) : Nat → Value
  | 0=>.int .i64 x.a.t
  | 1=>.int .i64 x.a.h
  | 2=>.int .i64 x.a.w
  | 3=>.bool x.a.cl
  | _=>.bool x.tk
def Arc.val (a : Arc) : Value:=.agg #[.int .i64 a.t,.int .i64 a.h,.int .i64 a.w,.bool a.cl]
/-! ### Lists of numbers below 64 -/
def lstP (p : Nat → Bool) : List Int:=((List.range 64).filter p).map Int.ofNat
def lo (p : Nat → Bool) (k : Nat) : List Int:=((List.range k).filter p).map Int.ofNat
def hi (p : Nat → Bool) (k : Nat) : List Int:=((List.range' (k + 1) (63 - k)).filter p).map Int.ofNat
theorem lstP_split (p : Nat → Bool) {k : Nat} (h : k < 64) : lstP p = lo p k ++ ((if p k = true then [(k : Int)] else []) ++ hi p k):=by
  have e : List.range 64 = List.range k ++ (k::List.range' (k + 1) (63 - k)):=by
    have h1 : List.range' 0 64 = List.range' 0 k ++ List.range' (0 + k) (64 - k):=by
      rw [List.range'_append_1,show k + (64 - k) = 64 by omega]
    rw [List.range_eq_range',List.range_eq_range',h1,Nat.zero_add,show 64 - k = (63 - k) + 1 by omega,List.range'_succ]
  unfold lstP lo hi
  rw [e,List.filter_append,List.map_append]
  congr 1
  by_cases hp : p k = true
  · rw [List.filter_cons_of_pos hp,if_pos hp]; rfl
  · rw [List.filter_cons_of_neg hp,if_neg hp]; rfl
theorem mem_lo {p : Nat → Bool} {k : Nat} {x : Int} (h : x ∈ lo p k) : x < k:=by
  obtain ⟨i,hi,rfl⟩:=List.mem_map.1 h
  have:=List.mem_range.1 (List.mem_filter.1 hi).1
  show (i : Int) < k
  omega
theorem mem_hi {p : Nat → Bool} {k : Nat} {x : Int} (h : x ∈ hi p k) : (k : Int) < x:=by
  obtain ⟨i,hi,rfl⟩:=List.mem_map.1 h
  have:=List.mem_range'_1.1 (List.mem_filter.1 hi).1
  show (k : Int) < (i : Int)
  omega
theorem mem_lstP {p : Nat → Bool} {x : Int} : x ∈ lstP p ↔ (0 ≤ x ∧ x < 64) ∧ p x.toNat = true:=by
  unfold lstP
  constructor
  · intro h
    obtain ⟨i,hi,rfl⟩:=List.mem_map.1 h
    obtain ⟨h1,h2⟩:=List.mem_filter.1 hi
    have:=List.mem_range.1 h1
    exact ⟨⟨Int.natCast_nonneg i,by show (i : Int) < 64; omega⟩,h2⟩
  · rintro ⟨⟨h1,h2⟩,h3⟩
    exact List.mem_map.2 ⟨x.toNat,List.mem_filter.2 ⟨List.mem_range.2 (by omega),h3⟩,Int.toNat_of_nonneg h1⟩
theorem lstP_len (p : Nat → Bool) : (lstP p).length ≤ 64:=by
  unfold lstP; rw [List.length_map]
  have:=List.length_filter_le p (List.range 64)
  simpa using this
theorem lo_congr {p q : Nat → Bool} {k : Nat} (h : ∀ i,i ≠ k → p i = q i) : lo p k = lo q k:=by
  unfold lo; congr 1
  exact List.filter_congr fun i hi=>h i (by have:=List.mem_range.1 hi; omega)
theorem hi_congr {p q : Nat → Bool} {k : Nat} (h : ∀ i,i ≠ k → p i = q i) : hi p k = hi q k:=by
  unfold hi; congr 1
  exact List.filter_congr fun i hi=>h i (by have:=List.mem_range'_1.1 hi; omega)
theorem lstP_congr {p q : Nat → Bool} (h : ∀ i,i < 64 → p i = q i) : lstP p = lstP q:=by
  unfold lstP; congr 1
  exact List.filter_congr fun i hi=>h i (List.mem_range.1 hi)
theorem lstP_pair (p : Nat → Bool) : (lstP p).Pairwise (· < ·):=by
  unfold lstP
  rw [List.pairwise_map]
  refine List.Pairwise.filter _ ?_
  exact List.Pairwise.imp (fun h=>by show ((_ : Nat) : Int) < ((_ : Nat) : Int); omega) List.pairwise_lt_range
theorem getD_of {l : List Int} {i : Nat} (h : i < l.length) : l.getD i 0 = l[i]:=by
  rw [List.getD_eq_getElem?_getD,List.getElem?_eq_getElem h]; rfl
theorem lstP_sorted (p : Nat → Bool) : ∀ i j,i < j → j < (lstP p).length → (lstP p).getD i 0 < (lstP p).getD j 0:=fun i j hij hj=>by
  rw [getD_of hj,getD_of (show i < _ by omega)]
  exact List.pairwise_iff_getElem.1 (lstP_pair p) i j (by omega) hj hij
theorem at_place {A B M : List Int} {k : Int} {i : Nat} (hA : ∀ x ∈ A,x < k) (hM : ∀ x ∈ M ++ B,k ≤ x) (hi : i ≤ (A ++ (M ++ B)).length) (h1 : ∀ j,j < i → (A ++ (M ++ B)).getD j 0 < k) (h2 : ∀ j,i ≤ j → j < (A ++ (M ++ B)).length → k ≤ (A ++ (M ++ B)).getD j 0) : i = A.length:=by
  rcases Nat.lt_trichotomy i A.length with h|h|h
  · exfalso
    have hl : i < (A ++ (M ++ B)).length:=by rw [List.length_append]; omega
    have h3:=h2 i (Nat.le_refl _) hl
    rw [getD_of hl,List.getElem_append_left h] at h3
    have:=hA _ (List.getElem_mem h)
    omega
  · exact h
  · exfalso
    have hl : A.length < (A ++ (M ++ B)).length:=by omega
    have h3:=h1 A.length h
    rw [getD_of hl,List.getElem_append_right (Nat.le_refl _)] at h3
    have:=hM _ (List.getElem_mem (l:=M ++ B) (n:=A.length - A.length) (by rw [List.length_append] at hl; omega))
    omega
theorem lstP_ins {p q : Nat → Bool} {k i : Nat} (hk : k < 64) (hp : p k = false) (hq : q k = true) (h : ∀ i,i ≠ k → p i = q i) (hi : i ≤ (lstP p).length) (h1 : ∀ j,j < i → (lstP p).getD j 0 < (k : Int)) (h2 : ∀ j,i ≤ j → j < (lstP p).length → (k : Int) ≤ (lstP p).getD j 0) :
    (lstP p).take i ++ (k : Int)::(lstP p).drop i = lstP q:=by
  have e:=lstP_split p hk
  rw [if_neg (by rw [hp]; decide)] at e
  have hi':=at_place (A:=lo p k) (B:=Gr.hi p k) (M:=[]) (k:=(k : Int)) (i:=i) (fun x hx=>mem_lo hx) (fun x hx=>Int.le_of_lt (mem_hi hx)) (by rw [← e]; exact hi) (by rw [← e]; exact h1) (by rw [← e]; exact h2)
  rw [lstP_split q hk,if_pos hq,← lo_congr h,← hi_congr h,e,hi',List.take_left,List.drop_left]
  rfl
theorem lstP_del {p q : Nat → Bool} {k i : Nat} (hk : k < 64) (hp : p k = true) (hq : q k = false) (h : ∀ i,i ≠ k → p i = q i) (hi : i ≤ (lstP p).length) (h1 : ∀ j,j < i → (lstP p).getD j 0 < (k : Int)) (h2 : ∀ j,i ≤ j → j < (lstP p).length → (k : Int) ≤ (lstP p).getD j 0) :
    i < (lstP p).length ∧ (lstP p).eraseIdx i = lstP q:=by
  have e:=lstP_split p hk
  rw [if_pos hp] at e
  have hi':=at_place (A:=lo p k) (B:=Gr.hi p k) (M:=[(k : Int)]) (k:=(k : Int)) (i:=i) (fun x hx=>mem_lo hx) (fun x hx=>by
    rcases List.mem_append.1 hx with h|h
    · rw [List.mem_singleton.1 h]; exact Int.le_refl _
    · exact Int.le_of_lt (mem_hi h)) (by rw [← e]; exact hi) (by rw [← e]; exact h1) (by rw [← e]; exact h2)
  constructor
  · rw [e,hi']; simp
  · rw [lstP_split q hk,if_neg (by rw [hq]; decide),← lo_congr h,← hi_congr h,e,hi',List.eraseIdx_append_of_length_le (Nat.le_refl _),Nat.sub_self]
    rfl
/-! ### The places -/
def upS (s : St) (i : Nat) (x : Sl) : St:=fun k=>if k = i then x else s k
theorem upS_same (s : St) (i : Nat) (x : Sl) : upS s i x i = x:=if_pos rfl
theorem upS_other {s : St} {i k : Nat} {x : Sl} (h : k ≠ i) : upS s i x k = s k:=if_neg h
def tkP (s : St) : Nat → Bool:=fun i=>(s i).tk
def outP (s : St) (v : Int) : Nat → Bool:=fun i=>(s i).tk && decide ((s i).a.t = v)
def inP (s : St) (v : Int) : Nat → Bool:=fun i=>(s i).tk && decide ((s i).a.h = v)
def idsI (s : St) : List Int:=lstP (tkP s)
def outI (s : St) (v : Int) : List Int:=lstP (outP s v)
def inI (s : St) (v : Int) : List Int:=lstP (inP s v)
def cnt (s : St) : Int:=(idsI s).length
theorem cnt_rng (s : St) : 0 ≤ cnt s ∧ cnt s ≤ 64:=by have:=lstP_len (tkP s); unfold cnt idsI; omega
def okA (n : Int) (a : Arc) : Prop:=((0 ≤ a.t ∧ a.t < n) ∧ (0 ≤ a.h ∧ a.h < n)) ∧ (1 ≤ a.w ∧ a.w ≤ 4611686018427387904)
instance (n : Int) (a : Arc) : Decidable (okA n a):=by unfold okA; infer_instance
structure GOk (n most : Int) (s : St) : Prop where
  n1 : 1 ≤ n
  n2 : n ≤ 24
  m1 : 1 ≤ most
  m2 : most ≤ 64
  free : ∀ i,(s i).tk = false → s i = Sl.zero
  arc : ∀ i,(s i).tk = true → okA n (s i).a
  low : ∀ i,64 ≤ i → s i = Sl.zero
def noS : St:=fun _=>Sl.zero
theorem ok_none {n most : Int} (h1 : 1 ≤ n) (h2 : n ≤ 24) (m1 : 1 ≤ most) (m2 : most ≤ 64) : GOk n most noS:=⟨h1,h2,m1,m2,fun _ _=>rfl,fun _ h=>(by cases h),fun _ _=>rfl⟩
theorem GOk.up {n most : Int} {s : St} (h : GOk n most s) {i : Nat} {x : Sl} (hi : i < 64) (hx : x.tk = false → x = Sl.zero) (ha : x.tk = true → okA n x.a) : GOk n most (upS s i x):=by
  refine ⟨h.n1,h.n2,h.m1,h.m2,fun k hk=>?_,fun k hk=>?_,fun k hk=>?_⟩
  · by_cases e : k = i
    · subst e; rw [upS_same] at hk ⊢; exact hx hk
    · rw [upS_other e] at hk ⊢; exact h.free k hk
  · by_cases e : k = i
    · subst e; rw [upS_same] at hk ⊢; exact ha hk
    · rw [upS_other e] at hk ⊢; exact h.arc k hk
  · rw [upS_other (by omega)]; exact h.low k hk
abbrev pl (id : Int) : Prop:=0 ≤ id ∧ id < 64
def insC (n most : Int) (s : St) (id : Int) (a : Arc) : Int:=if ¬ (pl id ∧ okA n a) then 1 else if (s id.toNat).tk = true then 4 else if most ≤ cnt s then 2 else 0
def insS (n most : Int) (s : St) (id : Int) (a : Arc) : St:=if insC n most s id a = 0 then upS s id.toNat ⟨a,true⟩ else s
def thC (s : St) (id : Int) : Int:=if ¬ pl id then 1 else if (s id.toNat).tk = true then 0 else 3
def delS (s : St) (id : Int) : St:=if thC s id = 0 then upS s id.toNat Sl.zero else s
def turnC (s : St) (id : Int) (b : Bool) : Int:=if thC s id = 0 then (if (s id.toNat).a.cl = b then 5 else 0) else thC s id
def shut (x : Sl) (b : Bool) : Sl:={ x with a:={ x.a with cl:=b } }
def turnS (s : St) (id : Int) (b : Bool) : St:=if turnC s id b = 0 then upS s id.toNat (shut (s id.toNat) b) else s
def wOk (w : Int) : Prop:=1 ≤ w ∧ w ≤ 4611686018427387904
instance (w : Int) : Decidable (wOk w):=by unfold wOk; infer_instance
def weighC (s : St) (id w : Int) : Int:=if ¬ wOk w then 1 else thC s id
def wgt (x : Sl) (w : Int) : Sl:={ x with a:={ x.a with w:=w } }
def weighS (s : St) (id w : Int) : St:=if weighC s id w = 0 then upS s id.toNat (wgt (s id.toNat) w) else s
theorem thC_zero {s : St} {id : Int} : thC s id = 0 ↔ pl id ∧ (s id.toNat).tk = true:=by
  unfold thC
  by_cases h : pl id
  · rw [if_neg (by simpa using h)]
    by_cases h2 : (s id.toNat).tk = true
    · rw [if_pos h2]; exact ⟨fun _=>⟨h,h2⟩,fun _=>rfl⟩
    · rw [if_neg h2]; exact ⟨fun e=>by omega,fun e=>absurd e.2 h2⟩
  · rw [if_pos (by simpa using h)]; exact ⟨fun e=>by omega,fun e=>absurd e.1 h⟩
theorem insC_zero {n most : Int} {s : St} {id : Int} {a : Arc} : insC n most s id a = 0 ↔ (pl id ∧ okA n a) ∧ (s id.toNat).tk = false ∧ cnt s < most:=by
  unfold insC
  by_cases h : pl id ∧ okA n a
  · rw [if_neg (fun hh=>hh h)]
    cases h2 : (s id.toNat).tk with
    | true=>rw [if_pos rfl]; exact ⟨fun e=>by omega,fun e=>by cases e.2.1⟩
    | false =>
      rw [if_neg (by decide)]
      by_cases h3 : most ≤ cnt s
      · rw [if_pos h3]; exact ⟨fun e=>by omega,fun e=>by omega⟩
      · rw [if_neg h3]; exact ⟨fun _=>⟨h,rfl,by omega⟩,fun _=>rfl⟩
  · rw [if_pos h]; exact ⟨fun e=>by omega,fun e=>absurd e.1 h⟩
theorem ok_ins {n most : Int} {s : St} (h : GOk n most s) (id : Int) (a : Arc) : GOk n most (insS n most s id a):=by
  unfold insS
  split
  · rename_i e
    obtain ⟨⟨h1,h2⟩,_,_⟩:=insC_zero.1 e
    exact h.up (by omega) (fun hh=>by cases hh) (fun _=>h2)
  · exact h
theorem ok_del {n most : Int} {s : St} (h : GOk n most s) (id : Int) : GOk n most (delS s id):=by
  unfold delS
  split
  · rename_i e
    exact h.up (by have:=(thC_zero.1 e).1; omega) (fun _=>rfl) (fun hh=>by cases hh)
  · exact h
theorem turnC_zero {s : St} {id : Int} {b : Bool} : turnC s id b = 0 ↔ (pl id ∧ (s id.toNat).tk = true) ∧ (s id.toNat).a.cl = !b:=by
  unfold turnC
  by_cases h : thC s id = 0
  · rw [if_pos h]
    have h1:=thC_zero.1 h
    by_cases h2 : (s id.toNat).a.cl = b
    · rw [if_pos h2]; exact ⟨fun e=>by omega,fun e=>by rw [h2] at e; cases b <;> simp at e⟩
    · rw [if_neg h2]; exact ⟨fun _=>⟨h1,by cases hb : (s id.toNat).a.cl <;> cases b <;> simp_all⟩,fun _=>rfl⟩
  · rw [if_neg h]; exact ⟨fun e=>absurd e h,fun e=>absurd (thC_zero.2 e.1) h⟩
theorem ok_turn {n most : Int} {s : St} (h : GOk n most s) (id : Int) (b : Bool) : GOk n most (turnS s id b):=by
  unfold turnS
  split
  · rename_i e
    obtain ⟨⟨h1,h2⟩,h3⟩:=turnC_zero.1 e
    exact h.up (by omega) (fun hh=>by rw [show (shut (s id.toNat) b).tk = (s id.toNat).tk from rfl,h2] at hh; cases hh) (fun _=>h.arc _ h2)
  · exact h
theorem weighC_zero {s : St} {id w : Int} : weighC s id w = 0 ↔ wOk w ∧ pl id ∧ (s id.toNat).tk = true:=by
  unfold weighC
  by_cases h : wOk w
  · rw [if_neg (fun hh=>hh h),thC_zero]; exact ⟨fun e=>⟨h,e⟩,fun e=>e.2⟩
  · rw [if_pos h]; exact ⟨fun e=>by omega,fun e=>absurd e.1 h⟩
theorem ok_weigh {n most : Int} {s : St} (h : GOk n most s) (id w : Int) : GOk n most (weighS s id w):=by
  unfold weighS
  split
  · rename_i e
    obtain ⟨h0,h1,h2⟩:=weighC_zero.1 e
    exact h.up (by omega) (fun hh=>by rw [show (wgt (s id.toNat) w).tk = (s id.toNat).tk from rfl,h2] at hh; cases hh) (fun _=>⟨(h.arc _ h2).1,h0⟩)
  · exact h
/-- How many, behind one more and behind one less. -/
theorem cnt_ins {s : St} {i : Nat} {x : Sl} (hi : i < 64) (h : (s i).tk = false) (hx : x.tk = true) : cnt (upS s i x) = cnt s + 1:=by
  unfold cnt idsI
  have e : ∀ k,k ≠ i → tkP s k = tkP (upS s i x) k:=fun k hk=>by unfold tkP; rw [upS_other hk]
  rw [lstP_split (tkP s) hi,lstP_split (tkP (upS s i x)) hi,lo_congr e,hi_congr e,if_pos (by unfold tkP; rw [upS_same]; exact hx),if_neg (by unfold tkP; rw [h]; decide)]
  simp only [List.length_append,List.length_cons,List.length_nil]; omega
theorem cnt_del {s : St} {i : Nat} {x : Sl} (hi : i < 64) (h : (s i).tk = true) (hx : x.tk = false) : cnt (upS s i x) = cnt s - 1:=by
  unfold cnt idsI
  have e : ∀ k,k ≠ i → tkP s k = tkP (upS s i x) k:=fun k hk=>by unfold tkP; rw [upS_other hk]
  rw [lstP_split (tkP s) hi,lstP_split (tkP (upS s i x)) hi,lo_congr e,hi_congr e,if_neg (by unfold tkP; rw [upS_same,hx]; decide),if_pos (by unfold tkP; exact h)]
  simp only [List.length_append,List.length_cons,List.length_nil]; omega
theorem lists_same {s : St} {i : Nat} {x : Sl} (ht : x.tk = (s i).tk) (h1 : x.a.t = (s i).a.t) (h2 : x.a.h = (s i).a.h) : (∀ v,outI (upS s i x) v = outI s v) ∧ (∀ v,inI (upS s i x) v = inI s v) ∧ cnt (upS s i x) = cnt s:=by
  have key : ∀ k,(upS s i x k).tk = (s k).tk ∧ (upS s i x k).a.t = (s k).a.t ∧ (upS s i x k).a.h = (s k).a.h:=fun k=>by
    by_cases e : k = i
    · subst e; rw [upS_same]; exact ⟨ht,h1,h2⟩
    · rw [upS_other e]; exact ⟨rfl,rfl,rfl⟩
  refine ⟨fun v=>?_,fun v=>?_,?_⟩
  · exact lstP_congr fun k _=>by unfold outP; rw [(key k).1,(key k).2.1]
  · exact lstP_congr fun k _=>by unfold inP; rw [(key k).1,(key k).2.2]
  · unfold cnt idsI
    rw [lstP_congr (q:=tkP s) fun k _=>by unfold tkP; rw [(key k).1]]
theorem outI_other {s : St} {i : Nat} {x : Sl} {v : Int} (h1 : (s i).tk = true → (s i).a.t ≠ v) (h2 : x.tk = true → x.a.t ≠ v) : outI (upS s i x) v = outI s v:=lstP_congr fun k _=>by
  unfold outP
  by_cases e : k = i
  · subst e; rw [upS_same]
    cases ht : x.tk <;> cases hs : (s k).tk <;> simp_all
  · rw [upS_other e]
theorem inI_other {s : St} {i : Nat} {x : Sl} {v : Int} (h1 : (s i).tk = true → (s i).a.h ≠ v) (h2 : x.tk = true → x.a.h ≠ v) : inI (upS s i x) v = inI s v:=lstP_congr fun k _=>by
  unfold inP
  by_cases e : k = i
  · subst e; rw [upS_same]
    cases ht : x.tk <;> cases hs : (s k).tk <;> simp_all
  · rw [upS_other e]
/-! ### The best one -/
def bst1 (s : St) (head : Int) (b : Int × Int) (i : Int) : Int × Int:=if ((s i.toNat).a.h = head ∧ (s i.toNat).a.cl = false) ∧ (s i.toNat).a.w < b.1 then ((s i.toNat).a.w,i) else b
def bestL (s : St) (head : Int) (l : List Int) : Int × Int:=l.foldl (bst1 s head) (4611686018427387906,-1)
def best (s : St) (tail head : Int) : Int × Int:=bestL s head (outI s tail)
theorem bestL_snoc (s : St) (head : Int) (l : List Int) (i : Int) : bestL s head (l ++ [i]) = bst1 s head (bestL s head l) i:=by unfold bestL; rw [List.foldl_append]; rfl
end Gr
end Go.Proofs.Ytliofdfhimmjmaa
