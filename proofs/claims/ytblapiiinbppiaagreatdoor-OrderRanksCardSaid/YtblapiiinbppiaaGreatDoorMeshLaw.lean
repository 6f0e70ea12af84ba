/- Meshes, plainly: distances that stop at their end, steps, what contracting a vertex makes of them, and that it keeps all distances. No program in sight. -/
import Derived.Test.YtblapiiinbppiaaGreatDoorRrBase
namespace Go.Proofs.YtblapiiinbppiaaGreatDoor
open Go.Rr
set_option linter.unusedVariables false
def two (a b : Int) : Int:=if a = 4611686018427387906 ∨ b = 4611686018427387906 then 4611686018427387906 else if 4611686018427387904 < a + b then 4611686018427387905 else a + b
abbrev Dst (a : Int) : Prop:=0 ≤ a ∧ a ≤ 4611686018427387906
theorem two_dst {a b : Int} (ha : Dst a) (hb : Dst b) : Dst (two a b):=by unfold two Dst at *; split <;> (try split) <;> omega
theorem two_assoc {a b c : Int} (ha : Dst a) (hb : Dst b) (hc : Dst c) : two (two a b) c = two a (two b c):=by
  unfold two Dst at *; (repeat' split) <;> omega
theorem zero_two {a : Int} (ha : Dst a) : two 0 a = a:=by unfold two Dst at *; (repeat' split) <;> omega
theorem le_two_left {a b : Int} (ha : Dst a) (hb : Dst b) : a ≤ two a b:=by unfold two Dst at *; (repeat' split) <;> omega
theorem two_none_left {b : Int} : two 4611686018427387906 b = 4611686018427387906:=by unfold two; simp
theorem two_none_right {a : Int} : two a 4611686018427387906 = 4611686018427387906:=by unfold two; simp
theorem two_lt {a b : Int} (ha : Dst a) (hb : Dst b) : two a b < 4611686018427387906 ↔ a ≠ 4611686018427387906 ∧ b ≠ 4611686018427387906:=by
  unfold two Dst at *; (repeat' split) <;> omega
theorem two_one {a b : Int} (ha : Dst a) (hb : Dst b) (h : 1 ≤ a) : 1 ≤ two a b:=by have:=le_two_left ha hb; omega
/-- Steps among the vertices below n; elsewhere none. -/
structure Good (n : Int) (c : Int → Int → Int) : Prop where
  n1 : 1 ≤ n
  n2 : n ≤ 24
  lo : ∀ u w,1 ≤ c u w
  hi : ∀ u w,c u w ≤ 4611686018427387906
  dg : ∀ u,c u u = 4611686018427387906
  out : ∀ u w,¬ (0 ≤ u ∧ u < n ∧ 0 ≤ w ∧ w < n) → c u w = 4611686018427387906
theorem Good.dst {n : Int} {c : Int → Int → Int} (h : Good n c) (u w : Int) : Dst (c u w):=⟨by have:=h.lo u w; omega,h.hi u w⟩
def noneM : Int → Int → Int:=fun _ _=>4611686018427387906
theorem good_none {n : Int} (h1 : 1 ≤ n) (h2 : n ≤ 24) : Good n noneM:=⟨h1,h2,fun _ _=>by unfold noneM; omega,fun _ _=>by unfold noneM; omega,fun _=>rfl,fun _ _ _=>rfl⟩
def okP (n u w g : Int) : Prop:=0 ≤ u ∧ u < n ∧ 0 ≤ w ∧ w < n ∧ u ≠ w ∧ 1 ≤ g ∧ g ≤ 4611686018427387906
instance {n u w g : Int} : Decidable (okP n u w g):=by unfold okP; infer_instance
def putD (n : Int) (c : Int → Int → Int) (u w g : Int) : Int → Int → Int:=if okP n u w g then upd2 c u w g else c
theorem good_upd {n : Int} {c : Int → Int → Int} (h : Good n c) {u w g : Int} (ho : okP n u w g) : Good n (upd2 c u w g):=by
  unfold okP at ho
  refine ⟨h.n1,h.n2,fun a b=>?_,fun a b=>?_,fun a=>?_,fun a b hab=>?_⟩ <;> unfold upd2 <;> split
  · omega
  · exact h.lo a b
  · omega
  · exact h.hi a b
  · omega
  · exact h.dg a
  · omega
  · exact h.out a b hab
theorem good_put {n : Int} {c : Int → Int → Int} (h : Good n c) (u w g : Int) : Good n (putD n c u w g):=by
  unfold putD; split
  · exact good_upd h (by assumption)
  · exact h
structure LinkM where
  t : Int
  h : Int
  g : Int
  mid : Int
  deriving Inhabited,DecidableEq
def inn (c : Int → Int → Int) (v u a : Int) : Nat → List LinkM
  | 0=>[]
  | k + 1=>if c v (k : Nat) ≠ 4611686018427387906 ∧ u ≠ (k : Nat) then inn c v u a k ++ [⟨u,(k : Nat),two a (c v (k : Nat)),v⟩] else inn c v u a k
def outL (n : Nat) (c : Int → Int → Int) (v : Int) : Nat → List LinkM
  | 0=>[]
  | k + 1=>if c (k : Nat) v ≠ 4611686018427387906 then outL n c v k ++ inn c v (k : Nat) (c (k : Nat) v) n else outL n c v k
def detL (n : Int) (c : Int → Int → Int) (v : Int) : List LinkM:=outL n.toNat c v n.toNat
theorem inn_len (c : Int → Int → Int) (v u a : Int) : ∀ k,(inn c v u a k).length ≤ k
  | 0=>by simp [inn]
  | k + 1=>by have:=inn_len c v u a k; unfold inn; split <;> simp <;> omega
theorem outL_len (n : Nat) (c : Int → Int → Int) (v : Int) : ∀ k,(outL n c v k).length ≤ k * n
  | 0=>by simp [outL]
  | k + 1=>by
    have h1:=outL_len n c v k
    have h2:=inn_len c v (k : Nat) (c (k : Nat) v) n
    rw [Nat.add_mul,Nat.one_mul]
    unfold outL; split <;> simp <;> omega
theorem detL_len {n : Int} {c : Int → Int → Int} (h : Good n c) (v : Int) : (detL n c v).length ≤ 576:=by
  have h1:=outL_len n.toNat c v n.toNat
  have h2 : n.toNat * n.toNat ≤ 24 * 24:=Nat.mul_le_mul (by have:=h.n2; omega) (by have:=h.n2; omega)
  unfold detL; omega
/-- The document's way to the same links. -/
def rinn (c : Int → Int → Int) (v u : Int) : Nat → List LinkM
  | 0=>[]
  | k + 1=>if u ≠ (k : Nat) ∧ two (c u v) (c v (k : Nat)) < 4611686018427387906 then rinn c v u k ++ [⟨u,(k : Nat),two (c u v) (c v (k : Nat)),v⟩] else rinn c v u k
theorem rinn_eq {n : Int} {c : Int → Int → Int} (h : Good n c) (v u : Int) : ∀ k,rinn c v u k = if c u v ≠ 4611686018427387906 then inn c v u (c u v) k else []
  | 0=>by simp [rinn,inn]
  | k + 1=>by
    have ih:=rinn_eq h v u k
    unfold rinn inn
    rw [ih]
    have hl:=two_lt (h.dst u v) (h.dst v (k : Nat))
    by_cases h1 : c u v ≠ 4611686018427387906
    · rw [if_pos h1,if_pos h1]
      by_cases h2 : c v (k : Nat) ≠ 4611686018427387906 ∧ u ≠ (k : Nat)
      · rw [if_pos h2,if_pos ⟨h2.2,hl.2 ⟨h1,h2.1⟩⟩]
      · rw [if_neg h2,if_neg (fun hh=>h2 ⟨(hl.1 hh.2).2,hh.1⟩)]
    · rw [if_neg h1,if_neg h1,if_neg (fun hh=>h1 (hl.1 hh.2).1)]
def routL (n : Nat) (c : Int → Int → Int) (v : Int) : Nat → List LinkM
  | 0=>[]
  | k + 1=>routL n c v k ++ rinn c v (k : Nat) n
theorem rout_eq {n : Int} {c : Int → Int → Int} (h : Good n c) (m : Nat) (v : Int) : ∀ k,routL m c v k = outL m c v k
  | 0=>rfl
  | k + 1=>by
    unfold routL outL
    rw [rout_eq h m v k,rinn_eq h]
    split <;> simp
/-- What is done with the links, one behind the other. -/
def ap1 (s : (Int → Int → Int) × Int) (x : LinkM) : (Int → Int → Int) × Int:=if x.g < s.1 x.t x.h then (upd2 s.1 x.t x.h x.g,s.2 + 1) else s
def appl (l : List LinkM) (s : (Int → Int → Int) × Int) : (Int → Int → Int) × Int:=l.foldl ap1 s
theorem appl_append (l l' : List LinkM) (s : (Int → Int → Int) × Int) : appl (l ++ l') s = appl l' (appl l s):=by unfold appl; rw [List.foldl_append]
def contrC (n : Int) (c : Int → Int → Int) (v : Int) : Int → Int → Int:=fun a b=>if a = v ∨ b = v then 4611686018427387906 else (appl (detL n c v) (c,0)).1 a b
def contrK (n : Int) (c : Int → Int → Int) (v : Int) : Int:=(appl (detL n c v) (c,0)).2
theorem appl_inn (c : Int → Int → Int) (v u a : Int) (s : (Int → Int → Int) × Int) (x y : Int) : ∀ k : Nat,(appl (inn c v u a k) s).1 x y = if x = u ∧ 0 ≤ y ∧ y < k ∧ u ≠ y ∧ c v y ≠ 4611686018427387906 then min (s.1 x y) (two a (c v y)) else s.1 x y
  | 0=>by rw [if_neg (by omega)]; rfl
  | k + 1 => by
    have ih:=appl_inn c v u a s x y k
    unfold inn
    split
    · rename_i hk
      rw [appl_append]
      show (ap1 (appl (inn c v u a k) s) ⟨u,(k : Nat),two a (c v (k : Nat)),v⟩).1 x y = _
      unfold ap1
      by_cases e : x = u ∧ y = (k : Nat)
      · obtain ⟨rfl,rfl⟩:=e
        rw [if_neg (by omega)] at ih
        refine Eq.trans ?_ (if_pos ⟨rfl,by omega,by omega,hk.2,hk.1⟩).symm
        dsimp only
        rw [ih]
        split
        · unfold upd2; dsimp only; rw [if_pos ⟨rfl,rfl⟩,Int.min_def,if_neg (by omega)]
        · rw [ih,Int.min_def,if_pos (by omega)]
      · have h1 : (if two a (c v (k : Nat)) < (appl (inn c v u a k) s).1 u (k : Nat) then (upd2 (appl (inn c v u a k) s).1 u (k : Nat) (two a (c v (k : Nat))),(appl (inn c v u a k) s).2 + 1) else appl (inn c v u a k) s).1 x y = (appl (inn c v u a k) s).1 x y:=by
          split
          · unfold upd2; dsimp only; rw [if_neg e]
          · rfl
        refine h1.trans (ih.trans ?_)
        by_cases h2 : x = u ∧ 0 ≤ y ∧ y < k ∧ u ≠ y ∧ c v y ≠ 4611686018427387906
        · rw [if_pos h2,if_pos ⟨h2.1,h2.2.1,by omega,h2.2.2.2⟩]
        · rw [if_neg h2,if_neg (fun hh=>h2 ⟨hh.1,hh.2.1,by have:=hh.1; omega,hh.2.2.2⟩)]
    · rename_i hk
      rw [ih]
      by_cases h2 : x = u ∧ 0 ≤ y ∧ y < k ∧ u ≠ y ∧ c v y ≠ 4611686018427387906
      · rw [if_pos h2,if_pos ⟨h2.1,h2.2.1,by omega,h2.2.2.2⟩]
      · rw [if_neg h2,if_neg]
        rintro ⟨a1,a2,a3,a4,a5⟩
        by_cases e : y = (k : Nat)
        · subst e; exact hk ⟨a5,a4⟩
        · exact h2 ⟨a1,a2,by omega,a4,a5⟩
theorem appl_out (n : Nat) (c : Int → Int → Int) (v : Int) (s : (Int → Int → Int) × Int) (x y : Int) : ∀ k : Nat,(appl (outL n c v k) s).1 x y = if 0 ≤ x ∧ x < k ∧ c x v ≠ 4611686018427387906 ∧ 0 ≤ y ∧ y < n ∧ x ≠ y ∧ c v y ≠ 4611686018427387906 then min (s.1 x y) (two (c x v) (c v y)) else s.1 x y
  | 0=>by rw [if_neg (by omega)]; rfl
  | k + 1=>by
    have ih:=appl_out n c v s x y k
    unfold outL
    split
    · rename_i hk
      rw [appl_append,appl_inn,ih]
      by_cases e : x = (k : Nat)
      · subst e
        rw [if_neg (show ¬ (0 ≤ ((k : Nat) : Int) ∧ ((k : Nat) : Int) < (k : Nat) ∧ _) from fun hh=>by omega)]
        by_cases h2 : 0 ≤ y ∧ y < n ∧ (k : Int) ≠ y ∧ c v y ≠ 4611686018427387906
        · rw [if_pos ⟨rfl,h2⟩,if_pos ⟨by omega,by omega,hk,h2⟩]
        · rw [if_neg (fun hh=>h2 hh.2),if_neg (fun hh=>h2 hh.2.2.2)]
      · rw [if_neg (fun hh=>e hh.1)]
        by_cases h2 : 0 ≤ x ∧ x < k ∧ c x v ≠ 4611686018427387906 ∧ 0 ≤ y ∧ y < n ∧ x ≠ y ∧ c v y ≠ 4611686018427387906
        · rw [if_pos h2,if_pos ⟨h2.1,by omega,h2.2.2⟩]
        · rw [if_neg h2,if_neg (fun hh=>h2 ⟨hh.1,by omega,hh.2.2⟩)]
    · rename_i hk
      rw [ih]
      by_cases h2 : 0 ≤ x ∧ x < k ∧ c x v ≠ 4611686018427387906 ∧ 0 ≤ y ∧ y < n ∧ x ≠ y ∧ c v y ≠ 4611686018427387906
      · rw [if_pos h2,if_pos ⟨h2.1,by omega,h2.2.2⟩]
      · rw [if_neg h2,if_neg]
        rintro ⟨a1,a2,a3,a4⟩
        by_cases e : x = (k : Nat)
        · subst e; exact hk a3
        · exact h2 ⟨a1,by omega,a3,a4⟩
theorem contr_eq {n : Int} {c : Int → Int → Int} (h : Good n c) (v a b : Int) : contrC n c v a b = if a = v ∨ b = v ∨ a = b then 4611686018427387906 else min (c a b) (two (c a v) (c v b)):=by
  unfold contrC detL
  by_cases h1 : a = v ∨ b = v
  · rw [if_pos h1,if_pos (by omega)]
  · rw [if_neg h1,appl_out]
    dsimp only
    by_cases h2 : a = b
    · subst h2
      rw [if_neg (by omega),if_pos (by omega),h.dg]
    · rw [if_neg (show ¬ (a = v ∨ b = v ∨ a = b) by omega)]
      split
      · rfl
      · rename_i hn
        have : two (c a v) (c v b) = 4611686018427387906:=by
          by_cases h3 : c a v = 4611686018427387906
          · rw [h3,two_none_left]
          · by_cases h4 : c v b = 4611686018427387906
            · rw [h4,two_none_right]
            · exfalso
              have h5 : 0 ≤ a ∧ a < n ∧ 0 ≤ v ∧ v < n:=Decidable.byContradiction fun hh=>h3 (h.out a v hh)
              have h6 : 0 ≤ v ∧ v < n ∧ 0 ≤ b ∧ b < n:=Decidable.byContradiction fun hh=>h4 (h.out v b hh)
              exact hn ⟨h5.1,by omega,h3,h6.2.2.1,by omega,h2,h4⟩
        rw [this,Int.min_def,if_pos (h.hi a b)]
theorem good_contr {n : Int} {c : Int → Int → Int} (h : Good n c) (v : Int) : Good n (contrC n c v):=by
  have hc:=contr_eq h v
  refine ⟨h.n1,h.n2,fun a b=>?_,fun a b=>?_,fun a=>?_,fun a b hab=>?_⟩ <;> rw [hc] <;> split
  · omega
  · have h1:=h.lo a b
    have h2:=two_one (h.dst a v) (h.dst v b) (h.lo a v)
    omega
  · omega
  · have:=h.hi a b; omega
  · rfl
  · omega
  · rfl
  · rw [h.out a b hab]
    have h2:=two_dst (h.dst a v) (h.dst v b)
    have : two (c a v) (c v b) = 4611686018427387906:=by
      by_cases h3 : 0 ≤ a ∧ a < n
      · rw [h.out v b (by omega),two_none_right]
      · rw [h.out a v (by omega),two_none_left]
    rw [this]; omega
/-! ### Walks -/
inductive Wk (c : Int → Int → Int) : Int → Int → Int → Prop
  | nil (u : Int) : Wk c u u 0
  | cons (u x w s : Int) : Wk c x w s → Wk c u w (two (c u x) s)
theorem Wk.dst {n : Int} {c : Int → Int → Int} (h : Good n c) {u w s : Int} (k : Wk c u w s) : Dst s:=by
  induction k with
  | nil=>exact ⟨by omega,by omega⟩
  | cons u x w s _ ih=>exact two_dst (h.dst u x) ih
theorem Wk.trans {n : Int} {c : Int → Int → Int} (h : Good n c) {u x w s t : Int} (k : Wk c u x s) (m : Wk c x w t) : Wk c u w (two s t):=by
  have hm:=m.dst h
  induction k with
  | nil=>rw [zero_two hm]; exact m
  | cons u y x s k ih =>
    rw [two_assoc (h.dst u y) (k.dst h) hm]
    exact .cons _ _ _ _ (ih m)
def fwS (c : Int → Int → Int) : Int → Int → Int:=fun a b=>if a = b then 0 else c a b
def fwP (D : Int → Int → Int) (k : Int) : Int → Int → Int:=fun a b=>min (D a b) (two (D a k) (D k b))
def fw (c : Int → Int → Int) : Nat → Int → Int → Int
  | 0=>fwS c
  | k + 1=>fwP (fw c k) (k : Nat)
section
variable {n : Int} {c : Int → Int → Int}
/-- How far it is. -/
def far (n : Int) (c : Int → Int → Int) : Int → Int → Int:=fw c n.toNat
/-- A vertex to which, and from which, no step leads. -/
def gone (c : Int → Int → Int) (v : Int) : Prop:=∀ x,c x v = 4611686018427387906 ∧ c v x = 4611686018427387906
end
/-! ### For the walks -/
theorem mem_inn {n : Int} {c : Int → Int → Int} (h : Good n c) {v u : Int} {a : Int} (hu : 0 ≤ u ∧ u < n) (ha : Dst a) (h1 : 1 ≤ a) (x : LinkM) : ∀ k : Nat,(k : Int) ≤ n → x ∈ inn c v u a k → okP n x.t x.h x.g
  | 0,_,hx=>by simp [inn] at hx
  | k + 1,hk,hx=>by
    unfold inn at hx
    split at hx
    · rename_i hc
      rw [List.mem_append,List.mem_singleton] at hx
      rcases hx with hx|rfl
      · exact mem_inn h hu ha h1 x k (by omega) hx
      · have h2:=two_one ha (h.dst v (k : Nat)) h1
        have h3:=(two_dst ha (h.dst v (k : Nat))).2
        exact ⟨hu.1,hu.2,by dsimp only; omega,by dsimp only; omega,hc.2,h2,h3⟩
    · exact mem_inn h hu ha h1 x k (by omega) hx
theorem mem_out {n : Int} {c : Int → Int → Int} (h : Good n c) {v : Int} (x : LinkM) : ∀ k : Nat,(k : Int) ≤ n → x ∈ outL n.toNat c v k → okP n x.t x.h x.g
  | 0,_,hx=>by simp [outL] at hx
  | k + 1,hk,hx=>by
    unfold outL at hx
    split at hx
    · rw [List.mem_append] at hx
      rcases hx with hx|hx
      · exact mem_out h x k (by omega) hx
      · exact mem_inn h ⟨by omega,by omega⟩ (h.dst _ _) (h.lo _ _) x n.toNat (by have:=h.n1; omega) hx
    · exact mem_out h x k (by omega) hx
theorem mem_det {n : Int} {c : Int → Int → Int} (h : Good n c) {v : Int} {x : LinkM} (hx : x ∈ detL n c v) : okP n x.t x.h x.g:=mem_out h x n.toNat (by have:=h.n1; omega) hx
theorem good_ap1 {n : Int} {s : (Int → Int → Int) × Int} (h : Good n s.1) {x : LinkM} (hx : okP n x.t x.h x.g) : Good n (ap1 s x).1:=by
  unfold ap1; split
  · exact good_upd h hx
  · exact h
theorem good_appl {n : Int} (l : List LinkM) : ∀ s : (Int → Int → Int) × Int,Good n s.1 → (∀ x ∈ l,okP n x.t x.h x.g) → Good n (appl l s).1:=by
  induction l with
  | nil=>intro s h _; exact h
  | cons x l ih=>intro s h hx; exact ih _ (good_ap1 h (hx x (by simp))) fun y hy=>hx y (by simp [hy])
theorem appl_cnt (l : List LinkM) : ∀ s : (Int → Int → Int) × Int,s.2 ≤ (appl l s).2 ∧ (appl l s).2 ≤ s.2 + l.length:=by
  induction l with
  | nil=>intro s; simp [appl]
  | cons x l ih =>
    intro s
    have:=ih (ap1 s x)
    have h2 : s.2 ≤ (ap1 s x).2 ∧ (ap1 s x).2 ≤ s.2 + 1:=by unfold ap1; split <;> simp <;> omega
    show s.2 ≤ (appl l (ap1 s x)).2 ∧ (appl l (ap1 s x)).2 ≤ s.2 + (x::l).length
    rw [List.length_cons]; omega
theorem takeL (xs : List LinkM) (i : Nat) (h : i < xs.length) : xs.take (i + 1) = xs.take i ++ [xs.getD i default]:=by
  rw [List.take_succ_eq_append_getElem h]; simp [List.getD_eq_getElem?_getD,h]
theorem getL_mem (xs : List LinkM) (i : Nat) (h : i < xs.length) : xs.getD i default ∈ xs:=by
  rw [List.getD_eq_getElem?_getD,List.getElem?_eq_getElem h]; exact List.getElem_mem _
theorem appl_take (xs : List LinkM) (i : Nat) (h : i < xs.length) (s : (Int → Int → Int) × Int) : appl (xs.take (i + 1)) s = ap1 (appl (xs.take i) s) (xs.getD i default):=by
  rw [takeL xs i h,appl_append]; rfl
theorem row_neg (c : Int → Int → Int) (v : Int) : rowZ (fun a b=>4611686018427387906 - c a b) v 0 = fun a b=>4611686018427387906 - (if a = v then 4611686018427387906 else c a b):=by
  funext a b; unfold rowZ; dsimp only; split <;> omega
section
variable {D : Int → Int → Int} {n k u w : Int}
end
end Go.Proofs.YtblapiiinbppiaaGreatDoor
