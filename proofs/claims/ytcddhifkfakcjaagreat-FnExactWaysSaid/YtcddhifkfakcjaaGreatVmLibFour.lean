/- An interpreter DQ plain values for translated functions, and that it says what the model does (calls, statements, loops, arguments). No condition. -/
import Derived.Test.YtcddhifkfakcjaaGreatVmLibThree
import Derived.KernelRfl
namespace Go.Proofs.YtcddhifkfakcjaaGreat.Lib
open Go Go.RowKit
set_option linter.unusedVariables false
theorem aR {n : Int} (h0 : -9223372036854775808 <= n) (h1 : n <= 9223372036854775807) : IntKind.wrap .i64 n = n := by
 simp only [IntKind.wrap,IntKind.bits,IntKind.signed,Bool.true_and]
 split
 ·rename_i h
  simp only [decide_eq_true_eq,ge_iff_le] at h
  omega
 ·rename_i h
  simp only [decide_eq_true_eq,ge_iff_le] at h
  omega
theorem az {n : Nat} (h1 : (n : Int) + 1 <= 9223372036854775807) : IntKind.wrap .i64 ((n : Int) + 1) = ((n + 1 : Nat) : Int) := by
 rw [aR (by omega) h1]; rfl
theorem It {α β : Type} (p : α × β) : (p.1,p.2) = p := rfl
theorem ai {α R : Type} (x : α) (f : α -> Option R) : ay (some x) f = f x := rfl
def Ty.short : (t : Ty) -> t.T -> Prop
 | .sl _ t,l => l.length <= 1048576 /\ ∀ x,x ∈ l -> t.short x
 | .pair a b,p => a.short p.1 /\ b.short p.2
 | _,_ => True
section
variable {V X Y : Type}
theorem kt {s : V -> Option (Nat × V)} {mk : Int -> List Y -> V} {xs : List X} {conv : X -> Y}
  (h1 : ∀ (i : Nat) (out : List Y) (x : X),xs[i]? = some x -> out.length = xs.length -> s (mk (i : Int) out) = some (0,mk ((i + 1 : Nat) : Int) (out.set i (conv x))))
  (h2 : ∀ out : List Y,out.length = xs.length -> s (mk (xs.length : Int) out) = some (1,mk (xs.length : Int) out)) :
  ∀ (k i : Nat) (out : List Y) (n : Nat),i + k = xs.length -> out.length = xs.length -> k < n -> iter s n (mk (i : Int) out) = some (0,mk (xs.length : Int) (out.take i ++ (xs.drop i).map conv))
 | 0,i,out,n,hk,hl,hn => by
  obtain ⟨m,rfl⟩ : ∃ m,n = m + 1 := ⟨n - 1,by omega⟩
  have hi : i = xs.length := by omega
  subst hi
  rw [iter,h2 out hl]
  show some (0,mk (xs.length : Int) out) = _
  rw [List.drop_eq_nil_of_le (Nat.le_refl _),← hl,List.take_length]
  simp
 | k + 1,i,out,n,hk,hl,hn => by
  obtain ⟨m,rfl⟩ : ∃ m,n = m + 1 := ⟨n - 1,by omega⟩
  have hi : i < xs.length := by omega
  rw [iter,h1 i out xs[i] (List.getElem?_eq_getElem hi) hl]
  show iter s m (mk ((i + 1 : Nat) : Int) (out.set i (conv xs[i]))) = _
  rw [kt h1 h2 k (i + 1) _ m (by omega) (by simp [hl]) (by omega)]
  have e1 : (out.set i (conv xs[i])).take (i + 1) = out.take i ++ [conv xs[i]] := by
   rw [List.take_add_one,List.take_set_of_le (Nat.le_refl i),List.getElem?_set_self (by omega)]; rfl
  rw [e1,List.append_assoc,List.drop_eq_getElem_cons hi]
  rfl
theorem gf {s : V -> Option (Nat × V)} {mk : Int -> V} {c : Nat} {N : Nat}
  (h1 : ∀ i : Nat,i < N -> s (mk (i : Int)) = some (0,mk ((i + 1 : Nat) : Int)))
  (h2 : s (mk (N : Int)) = some (c + 1,mk (N : Int))) :
  ∀ (k i : Nat) (n : Nat),i + k = N -> k < n -> iter s n (mk (i : Int)) = some (c,mk (N : Int))
 | 0,i,n,hk,hn => by
  obtain ⟨m,rfl⟩ : ∃ m,n = m + 1 := ⟨n - 1,by omega⟩
  have hi : i = N := by omega
  subst hi
  rw [iter,h2]
  rfl
 | k + 1,i,n,hk,hn => by
  obtain ⟨m,rfl⟩ : ∃ m,n = m + 1 := ⟨n - 1,by omega⟩
  rw [iter,h1 i (by omega)]
  exact gf h1 h2 k (i + 1) m (by omega) (by omega)
theorem fold_iter {A : Type} {s : V -> Option (Nat × V)} {mk : A -> Int -> V} {xs : List X} {f : A -> X -> A} {Inv : Nat -> A -> Prop}
  (h1 : ∀ (i : Nat) (x : X) (a : A),xs[i]? = some x -> Inv i a -> s (mk a (i : Int)) = some (0,mk (f a x) ((i + 1 : Nat) : Int)) /\ Inv (i + 1) (f a x))
  (h2 : ∀ a,s (mk a (xs.length : Int)) = some (1,mk a (xs.length : Int))) :
  ∀ (k i : Nat) (a : A) (n : Nat),i + k = xs.length -> k < n -> Inv i a -> iter s n (mk a (i : Int)) = some (0,mk ((xs.drop i).foldl f a) (xs.length : Int))
 | 0,i,a,n,hk,hn,hI => by
  obtain ⟨m,rfl⟩ : ∃ m,n = m + 1 := ⟨n - 1,by omega⟩
  have hi : i = xs.length := by omega
  subst hi
  rw [iter,h2 a,List.drop_eq_nil_of_le (Nat.le_refl _)]
  rfl
 | k + 1,i,a,n,hk,hn,hI => by
  obtain ⟨m,rfl⟩ : ∃ m,n = m + 1 := ⟨n - 1,by omega⟩
  have hi : i < xs.length := by omega
  obtain ⟨h3,h4⟩ := h1 i xs[i] a (List.getElem?_eq_getElem hi) hI
  rw [iter,h3,List.drop_eq_getElem_cons hi]
  exact fold_iter h1 h2 k (i + 1) (f a xs[i]) m (by omega) (by omega) h4
theorem Fj {s : V -> Option (Nat × V)} {mk : Int -> Int -> Int -> V} {xs : List X} {g : X -> Int -> Int} {S : X -> Prop} {B : Int}
  (hg : ∀ x ∈ xs,∀ n,0 <= n -> n <= B -> g x n <= n /\ (0 <= g x n -> S x))
  (h1 : ∀ (i : Nat) (x : X) (n r : Int),0 <= n -> n <= B -> xs[i]? = some x -> s (mk n r (i : Int)) = if g x n < 0 then some (1,mk (g x n) (-1) (i : Int)) else some (0,mk (g x n) r ((i + 1 : Nat) : Int)))
  (h2 : ∀ n r,s (mk n r (xs.length : Int)) = some (2,mk n r (xs.length : Int))) :
  ∀ (k i : Nat) (n r : Int) (m : Nat),i + k = xs.length -> k < m -> 0 <= n -> n <= B ->
   (∃ n' i',iter s m (mk n r (i : Int)) = some (0,mk n' (-1) i')) ∨ (∃ n',iter s m (mk n r (i : Int)) = some (1,mk n' r (xs.length : Int)) /\ 0 <= n' /\ n' <= n /\ ∀ (j : Nat) (x : X),i <= j -> xs[j]? = some x -> S x)
 | 0,i,n,r,m,hk,hm,h0,hB => by
  obtain ⟨m,rfl⟩ : ∃ q,m = q + 1 := ⟨m - 1,by omega⟩
  have hi : i = xs.length := by omega
  subst hi
  refine .inr ⟨n,by rw [iter,h2]; rfl,h0,Int.le_refl _,fun j x hj hx => ?_⟩
  have := (List.getElem?_eq_some_iff.1 hx).1
  omega
 | k + 1,i,n,r,m,hk,hm,h0,hB => by
  obtain ⟨m,rfl⟩ : ∃ q,m = q + 1 := ⟨m - 1,by omega⟩
  have hi : i < xs.length := by omega
  have hx := List.getElem?_eq_getElem hi
  obtain ⟨g1,g2⟩ := hg xs[i] (List.getElem_mem hi) n h0 hB
  have h3 := h1 i xs[i] n r h0 hB hx
  by_cases hn : g xs[i] n < 0
  ·rw [if_pos hn] at h3
   exact .inl ⟨_,_,by rw [iter,h3]; rfl⟩
  ·rw [if_neg hn] at h3
   have e : iter s (m + 1) (mk n r (i : Int)) = iter s m (mk (g xs[i] n) r ((i + 1 : Nat) : Int)) := by rw [iter,h3]; rfl
   rw [e]
   rcases Fj hg h1 h2 k (i + 1) (g xs[i] n) r m (by omega) (by omega) (by omega) (by omega) with h | ⟨n',h4,h5,h6,h7⟩
   ·exact .inl h
   ·refine .inr ⟨n',h4,h5,by omega,fun j x hj hxj => ?_⟩
    by_cases hji : j = i
    ·subst hji
     rw [hx] at hxj
     cases hxj
     exact g2 (by omega)
    ·exact h7 j x (by omega) hxj
theorem ax {s : V -> Option (Nat × V)} {n : Nat} {v v' : V} {c : Nat} (h : iter s n v = some (c,v')) (d : Nat) : ji s n v d = (c == d) := by unfold ji; rw [h]
theorem aI {s : V -> Option (Nat × V)} {n : Nat} {v v' : V} {c : Nat} (h : iter s n v = some (c,v')) : kn s n v = v' := by unfold kn; rw [h]
def first (p : Nat -> Bool) : Nat -> Nat -> Option Nat
 | _,0 => none
 | i,k + 1 => bif p i then some i else first p (i + 1) k
theorem iA {p : Nat -> Bool} : ∀ {k i : Nat},first p i k = none -> ∀ j,i <= j -> j < i + k -> p j = false
 | 0,i,_,j,h1,h2 => by omega
 | k + 1,i,h,j,h1,h2 => by
  simp only [first] at h
  cases hp : p i with
  | true => rw [hp] at h; cases h
  | false =>
   rw [hp] at h
   by_cases hj : j = i
   ·subst hj; exact hp
   ·exact iA (k := k) (i := i + 1) h j (by omega) (by omega)
theorem fI {p : Nat -> Bool} : ∀ {k i j : Nat},first p i k = some j -> i <= j /\ j < i + k /\ p j = true
 | 0,i,j,h => by cases h
 | k + 1,i,j,h => by
  simp only [first] at h
  cases hp : p i with
  | true => rw [hp] at h; cases h; exact ⟨by omega,by omega,hp⟩
  | false =>
   rw [hp] at h
   obtain ⟨h1,h2,h3⟩ := fI (k := k) (i := i + 1) h
   exact ⟨by omega,by omega,h3⟩
theorem cv {s : V -> Option (Nat × V)} {mk : Int -> V} {fin : Nat -> V} {p : Nat -> Bool} {N : Nat}
  (h1 : ∀ i : Nat,i < N -> s (mk (i : Int)) = bif p i then some (1,fin i) else some (0,mk ((i + 1 : Nat) : Int)))
  (h2 : s (mk (N : Int)) = some (2,mk (N : Int))) :
  ∀ (k i : Nat) (n : Nat),i + k = N -> k < n -> iter s n (mk (i : Int)) = some (match first p i k with | some j => (0,fin j) | none => (1,mk (N : Int)))
 | 0,i,n,hk,hn => by
  obtain ⟨m,rfl⟩ : ∃ m,n = m + 1 := ⟨n - 1,by omega⟩
  have hi : i = N := by omega
  subst hi
  rw [iter,h2]
  rfl
 | k + 1,i,n,hk,hn => by
  obtain ⟨m,rfl⟩ : ∃ m,n = m + 1 := ⟨n - 1,by omega⟩
  rw [iter,h1 i (by omega)]
  simp only [first]
  cases hp : p i with
  | true => rfl
  | false => exact cv h1 h2 k (i + 1) m (by omega) (by omega)
theorem fu {p : X -> Bool} {xs : List X} {q : Nat -> Bool} (hq : ∀ (i : Nat) (x : X),xs[i]? = some x -> q i = p x) : (first q 0 xs.length).isSome = xs.any p := by
 cases h : first q 0 xs.length with
 | none =>
  have h0 := iA h
  symm
  rw [Option.isSome_none,List.any_eq_false]
  intro x hx
  obtain ⟨i,hi⟩ := List.getElem?_of_mem hx
  have hlt := (List.getElem?_eq_some_iff.1 hi).1
  rw [← hq i x hi,h0 i (Nat.zero_le _) (by omega)]
  simp
 | some j =>
  obtain ⟨h1,h2,h3⟩ := fI h
  have hj : j < xs.length := by omega
  symm
  rw [Option.isSome_some,List.any_eq_true]
  exact ⟨xs[j],List.getElem_mem hj,by rw [← hq j _ (List.getElem?_eq_getElem hj)]; exact h3⟩
theorem cI {A : Type} {s : V -> Option (Nat × V)} {mk : A -> Int -> V} {N c : Nat} {Inv : Nat -> A -> Prop}
  (h1 : ∀ (i : Nat) (a : A),i < N -> Inv i a -> ∃ a',s (mk a (i : Int)) = some (0,mk a' ((i + 1 : Nat) : Int)) /\ Inv (i + 1) a')
  (h2 : ∀ a,Inv N a -> s (mk a (N : Int)) = some (c + 1,mk a (N : Int))) :
  ∀ (k i : Nat) (a : A) (n : Nat),i + k = N -> k < n -> Inv i a -> ∃ a',iter s n (mk a (i : Int)) = some (c,mk a' (N : Int)) /\ Inv N a'
 | 0,i,a,n,hk,hn,hI => by
  obtain ⟨m,rfl⟩ : ∃ m,n = m + 1 := ⟨n - 1,by omega⟩
  have hi : i = N := by omega
  subst hi
  exact ⟨a,by rw [iter,h2 a hI]; rfl,hI⟩
 | k + 1,i,a,n,hk,hn,hI => by
  obtain ⟨m,rfl⟩ : ∃ m,n = m + 1 := ⟨n - 1,by omega⟩
  obtain ⟨a',h3,h4⟩ := h1 i a (by omega) hI
  rw [iter,h3]
  exact cI h1 h2 k (i + 1) a' m (by omega) (by omega) h4
def dN (k : Int) (n : Nat) : List Int := (List.range n).map fun (j : Nat) => k + (j : Int)
theorem eS (k : Int) (n : Nat) : (dN k n).length = n := by simp [dN]
theorem Il (k : Int) (n i : Nat) (h : i < n) : (dN k n)[i]? = some (k + (i : Int)) := by simp [dN,h]
theorem JG (k : Int) (l : List Int) (i : Nat) (h : i < l.length) : (dN k i ++ l.drop i).set i (k + (i : Int)) = dN k (i + 1) ++ l.drop (i + 1) := by
 have e : dN k (i + 1) = dN k i ++ [k + (i : Int)] := by simp [dN,List.range_succ]
 rw [e,List.drop_eq_getElem_cons h,List.set_append_right _ _ (by rw [eS]; exact Nat.le_refl _),eS,Nat.sub_self,List.append_assoc]
 rfl
end
end Go.Proofs.YtcddhifkfakcjaaGreat.Lib
namespace Go.Proofs.YtcddhifkfakcjaaGreat.Lib
open Go Go.RowKit
set_option linter.unusedVariables false
section
variable {α β : Type}
theorem FF {b : Bool} {x y : Option α} {z : α} : (cond b x y).getD z = cond b (x.getD z) (y.getD z) := by cases b <;> rfl
theorem zu {b : Bool} {x y : Option α} : (cond b x y).isSome = cond b x.isSome y.isSome := by cases b <;> rfl
theorem Mh {x z : α} : (some x).getD z = x := rfl
theorem LJ {z : α} : (none : Option α).getD z = z := rfl
theorem GM {x : α} : (some x).isSome = true := rfl
theorem Gg : (none : Option α).isSome = false := rfl
theorem Hj {o : Option β} {f : β -> Option α} {z : α} : (ay o f).getD z = qS o z fun x => (f x).getD z := by cases o <;> rfl
theorem Dd {o : Option β} {f : β -> Option α} : (ay o f).isSome = o9 o fun x => (f x).isSome := by cases o <;> rfl
theorem isSome_ite {p : Prop} [Decidable p] {x : Option α} : (if p then x else none).isSome = (decide p && x.isSome) := by by_cases h : p <;> simp [h]
theorem D6 {p : Prop} [Decidable p] {x : Option α} : (if p then none else x).isSome = (!decide p && x.isSome) := by by_cases h : p <;> simp [h]
end
def Sat {α : Type} (o : Option α) (P : α -> Prop) : Prop := ∃ r,o = some r /\ P r
section
variable {α β V : Type} {P Q : α -> Prop}
theorem VK {a : α} : Sat (some a) P = P a := propext ⟨fun ⟨r,h1,h2⟩ => by cases h1; exact h2,fun h => ⟨a,rfl,h⟩⟩
theorem zR : Sat (none : Option α) P = False := propext ⟨fun ⟨r,h1,h2⟩ => (by cases h1),False.elim⟩
theorem VM {p : Prop} [Decidable p] {x : Option α} : Sat (if p then x else none) P = (p /\ Sat x P) := by
 by_cases h : p <;> simp [h,zR]
theorem VO {p : Prop} [Decidable p] {x : Option α} : Sat (if p then none else x) P = (¬p /\ Sat x P) := by
 by_cases h : p <;> simp [h,zR]
theorem VN {o : Option β} {f : β -> Option α} : Sat (ay o f) P = ∃ b,o = some b /\ Sat (f b) P := by
 cases o with
 | none => exact propext ⟨fun ⟨r,h1,h2⟩ => (by cases h1),fun ⟨b,h1,h2⟩ => (by cases h1)⟩
 | some x => exact propext ⟨fun h => ⟨x,rfl,h⟩,fun ⟨b,h1,h2⟩ => by cases h1; exact h2⟩
theorem Sat.d {o : Option α} (h : Sat o P) : o.isSome = true := by obtain ⟨r,rfl,_⟩ := h; rfl
theorem Sat.v {o : Option α} {z : α} (h : Sat o P) : P (o.getD z) := by obtain ⟨r,rfl,h⟩ := h; exact h
theorem Sat.mono {o : Option α} (h : Sat o P) (hq : ∀ r,P r -> Q r) : Sat o Q := by obtain ⟨r,rfl,h⟩ := h; exact ⟨r,rfl,hq r h⟩
theorem zT {s : V -> Option (Nat × V)} {Q : V -> Prop} (Inv : Nat -> V -> Prop) (h : ∀ k v,Inv k v -> (∃ v',s v = some (1,v') /\ Q v') ∨ (∃ k' v',k = k' + 1 /\ s v = some (0,v') /\ Inv k' v')) : ∀ (k : Nat) (v : V) (n : Nat),Inv k v -> k < n -> ∃ v',iter s n v = some (0,v') /\ Q v'
 | k,v,0,_,hn => by omega
 | k,v,n + 1,hI,hn => by
  rcases h k v hI with ⟨v',h1,h2⟩ | ⟨k',v',rfl,h1,h2⟩
  ·exact ⟨v',by simp [iter,h1],h2⟩
  ·obtain ⟨v2,h3,h4⟩ := zT Inv h k' v' n h2 (by omega)
   exact ⟨v2,by simp [iter,h1,h3],h4⟩
end
theorem dv {V : Type} {s : V -> Option (Nat × V)} {f : Nat -> V} {c N : Nat} {v' : V} (h1 : ∀ i,i < N -> s (f i) = some (0,f (i + 1))) (h2 : s (f N) = some (c + 1,v')) : ∀ (k i n : Nat),i + k = N -> k < n -> iter s n (f i) = some (c,v')
 | 0,i,n,hk,hn => by
  obtain ⟨n,rfl⟩ : ∃ m,n = m + 1 := ⟨n - 1,by omega⟩
  have : i = N := by omega
  subst this
  rw [iter,h2]
  rfl
 | k + 1,i,n,hk,hn => by
  obtain ⟨n,rfl⟩ : ∃ m,n = m + 1 := ⟨n - 1,by omega⟩
  rw [iter,h1 i (by omega)]
  exact dv h1 h2 k (i + 1) n (by omega) (by omega)
theorem di {α : Type} {xs : List α} {i : Nat} {x : α} (h : xs[i]? = some x) : xs.take (i + 1) = xs.take i ++ [x] := by rw [List.take_add_one,h]; rfl
theorem lV {α β : Type} {f : β -> α -> β} {b : β} {xs : List α} {i : Nat} {x : α} (h : xs[i]? = some x) : (xs.take (i + 1)).foldl f b = f ((xs.take i).foldl f b) x := by rw [di h,List.foldl_append]; rfl
theorem eQ {α : Type} {p : α -> Bool} {xs : List α} {i : Nat} {x : α} (h : xs[i]? = some x) : (xs.take (i + 1)).filter p = (xs.take i).filter p ++ cond (p x) [x] [] := by rw [di h,List.filter_append]; cases hp : p x <;> simp [hp]
theorem sS {V K : Type} {s : V -> Option (Nat × V)} {mk : K -> V} {Inv : Nat -> K -> Prop} {Q : V -> Prop} {c N : Nat}
  (h1 : ∀ i k,i < N -> Inv i k -> ∃ k',s (mk k) = some (0,mk k') /\ Inv (i + 1) k') (h2 : ∀ k,Inv N k -> ∃ v',s (mk k) = some (c + 1,v') /\ Q v') :
  ∀ (m i n : Nat) (k : K),i + m = N -> m < n -> Inv i k -> ∃ v',iter s n (mk k) = some (c,v') /\ Q v'
 | 0,i,n,k,hm,hn,hI => by
  obtain ⟨n,rfl⟩ : ∃ n',n = n' + 1 := ⟨n - 1,by omega⟩
  have : i = N := by omega
  subst this
  obtain ⟨v',h3,h4⟩ := h2 k hI
  refine ⟨v',?_,h4⟩
  rw [iter,h3]
  rfl
 | m + 1,i,n,k,hm,hn,hI => by
  obtain ⟨n,rfl⟩ : ∃ n',n = n' + 1 := ⟨n - 1,by omega⟩
  obtain ⟨k',h3,h4⟩ := h1 i k (by omega) hI
  obtain ⟨v',h5,h6⟩ := sS h1 h2 m (i + 1) n k' (by omega) (by omega) h4
  refine ⟨v',?_,h6⟩
  rw [iter,h3]
  exact h5
theorem GL {α : Type} {q : α -> Bool} {xs m : List α} {i j : Nat} {x : α} (hx : xs[j]? = some x) (hij : i < j) (hl : m.length = xs.length) (ht : m.take i = (xs.take j).filter q) (hd : ∀ t,j <= t -> m[t]? = xs[t]?) (hq : q x = true) :
  i + 1 < j + 1 /\ (m.set i x).length = xs.length /\ (m.set i x).take (i + 1) = (xs.take (j + 1)).filter q /\ ∀ t,j + 1 <= t -> (m.set i x)[t]? = xs[t]? := by
 have hj := (List.getElem?_eq_some_iff.1 hx).1
 refine ⟨by omega,by simpa using hl,?_,fun t h => ?_⟩
 ·rw [eQ hx,← ht,hq,di (x := x) (by rw [List.getElem?_set_self (by omega)]),List.take_set_of_le (Nat.le_refl _)]
  rfl
 ·rw [List.getElem?_set_ne (by omega)]
  exact hd t (by omega)
theorem Gu {α : Type} {q : α -> Bool} {xs m : List α} {i j : Nat} {x : α} (hx : xs[j]? = some x) (hij : i < j) (ht : m.take i = (xs.take j).filter q) (hd : ∀ t,j <= t -> m[t]? = xs[t]?) (hq : q x = false) :
  i < j + 1 /\ m.take i = (xs.take (j + 1)).filter q /\ ∀ t,j + 1 <= t -> m[t]? = xs[t]? := by
 refine ⟨by omega,?_,fun t h => hd t (by omega)⟩
 rw [eQ hx,← ht,hq]
 simp
theorem vw {p : Nat -> Bool} : ∀ {k i j : Nat},first p i k = some j -> ∀ t,i <= t -> t < j -> p t = false
 | 0,i,j,h,_,_,_ => by cases h
 | k + 1,i,j,h,t,h1,h2 => by
  simp only [first] at h
  cases hp : p i with
  | true =>
   rw [hp] at h
   simp at h
   omega
  | false =>
   rw [hp] at h
   simp at h
   rcases Nat.lt_or_ge i t with h3 | h3
   ·exact vw h t (by omega) h2
   ·have : t = i := by omega
    subst this
    exact hp
theorem vr {α : Type} {p : α -> Bool} {xs : List α} {j : Nat} (h : ∀ t x,t < j -> xs[t]? = some x -> p x = false) (hj : j <= xs.length) : xs.take j = (xs.take j).filter fun x => !p x := by
 symm
 rw [List.filter_eq_self]
 intro x hx
 obtain ⟨t,ht,rfl⟩ := List.mem_iff_getElem.1 hx
 rw [List.length_take] at ht
 rw [List.getElem_take,h t _ (by omega) (List.getElem?_eq_getElem (by omega))]
 rfl
end Go.Proofs.YtcddhifkfakcjaaGreat.Lib
