/- An interpreter DQ plain values for translated functions, and that it says what the model does (values, operations). No condition. -/
import Derived.WalkKit
import Derived.Laws.AppendOwn
import Derived.Laws.OwnMore
import Derived.Laws.MakeOwn
import Derived.Laws.Rows
import Derived.Below
import Derived.Laws.BytesArg
import Derived.Laws.IdiomStrings
import Derived.Laws.Runes
import Derived.Laws.IdiomCopy
import Derived.Laws.Cells
import Derived.Laws.Entries
import Derived.ChangeKeysEq
import Derived.Great.BuildSlice
import Derived.Laws.StructEq
import Derived.KernelRfl
namespace Go.Proofs.YtcddhifkfakcjaaGreat.Lib
open Go Go.RowKit
set_option linter.unusedVariables false
inductive Ty where
 | int (k : IntKind) | bool | str | sl (e : TypeId) (t : Ty) | pair (a b : Ty) | nul (f : Bool)
 deriving DecidableEq
@[reducible] def Ty.T : Ty -> Type
 | .int _ => Int | .bool => Bool | .str => ByteArray | .sl _ t => List t.T | .pair a b => a.T × b.T | .nul _ => Unit
def Ty.sz : Ty -> Nat
 | .pair a b => a.sz + b.sz | _ => 1
def Ty.flat : Ty -> Bool
 | .sl _ _ => false | .nul _ => false | .pair a b => a.flat && b.flat | _ => true
def Ty.zero : (t : Ty) -> t.T
 | .int _ => (0 : Int) | .bool => false | .str => ByteArray.empty | .sl _ _ => [] | .pair a b => (a.zero,b.zero) | .nul _ => ()
def HO : Bool -> Value
 | true => .nilFunc | false => .pointer none
def Ty.zv : Ty -> List Value
 | .int k => [.int k 0] | .bool => [.bool false] | .str => [.string ByteArray.empty] | .sl _ _ => [.slice none 0 0] | .pair a b => a.zv ++ b.zv | .nul f => [HO f]
inductive Cell where
 | int (k : IntKind) (n : Int) | bool (b : Bool) | str (s : ByteArray)
 | nil | cap0 | nul (f : Bool)
 | emb (e : TypeId) (t : Ty) (l : List t.T) (b : Bool)
 | sl (j : Nat) | sub (j off len : Nat)
 | ptr (j i c : Nat)
 | eptr (t : Ty) (x : t.T) (c : Nat) (b : Bool)
 | fn (f : FuncId) (caps : List ((t : Ty) × t.T))
 | fnp (f : FuncId) (js : List Nat)
 | nl (j : Nat) | np (j i c : Nat) | inn (j i k : Nat)
 | und
inductive AV where
 | one (c : Cell) | agg (cs : List Cell) | tup (vs : List (Bool × List Cell))
def Ty.cells (b : Bool) : (t : Ty) -> t.T -> List Cell
 | .int k,n => [.int k n] | .bool,x => [.bool x] | .str,s => [.str s] | .sl e t,l => [.emb e t l b] | .pair x y,p => x.cells b p.1 ++ y.cells b p.2 | .nul f,_ => [.nul f]
def Ty.zc : Ty -> List Cell
 | .int k => [.int k 0] | .bool => [.bool false] | .str => [.str ByteArray.empty] | .sl _ _ => [.nil] | .pair a b => a.zc ++ b.zc | .nul f => [.nul f]
def Ty.parse (b : Bool) : (t : Ty) -> List Cell -> Option (t.T × List Cell)
 | .int k,.int k' n :: r => if k' = k then some (n,r) else none
 | .bool,.bool x :: r => some (x,r)
 | .str,.str s :: r => some (s,r)
 | .sl _ _,.nil :: r => some ([],r)
 | .sl _ _,.cap0 :: r => some ([],r)
 | .sl e t,.emb e' t' l b' :: r => if h : t' = t then (if e' = e /\ (b' = true -> b = true) then some (h ▸ l,r) else none) else none
 | .nul f,.nul f' :: r => if f' = f then some ((),r) else none
 | .pair x y,cs => (x.parse b cs).bind fun p => (y.parse b p.2).bind fun q => some ((p.1,q.1),q.2)
 | _,_ => none
def Ty.read (b : Bool) (t : Ty) (cs : List Cell) : Option t.T :=
 match t.parse b cs with
 | some (x,[]) => some x
 | _ => none
inductive Blk where
 | arr (e : TypeId) (t : Ty) (l : List t.T) (b : Bool)
 | fro (e : TypeId) (t : Ty) (l : List t.T) (b : Bool)
 | box (ty : TypeId) (cs : List Cell)
 | nst (e : TypeId) (t : Ty) (l : List t.T)
abbrev Sig := List (Nat × Blk)
@[reducible] def PIN : Nat := 4294967296
structure St where
 sl : List AV
 sg : Sig
inductive aF {α β : Type} (R : α -> β -> Prop) : List α -> List β -> Prop
 | nil : aF R [] []
 | cons {a b l m} : R a b -> aF R l m -> aF R (a :: l) (b :: m)
def Rp (ok : Nat -> Prop) (w : World) : (t : Ty) -> t.T -> List Value -> Prop
 | .int k,n,cs => cs = [.int k n]
 | .bool,b,cs => cs = [.bool b]
 | .str,s,cs => cs = [.string s]
 | .sl _ t,l,cs => ∃ A c,cs = [.slice A l.length c] /\ l.length <= c /\ c <= maxLen /\
   (0 < l.length -> ∃ ad : Addr,A = some ad /\ ok ad.block /\ ∀ i x,l[i]? = some x -> ∃ c,c.length = t.sz /\ Rp ok w t x c /\ ∀ q u,c[q]? = some u -> w.cell? (ad.add (i * t.sz + q)) = some u)
 | .pair a b,p,cs => ∃ c0 c1,cs = c0 ++ c1 /\ Rp ok w a p.1 c0 /\ Rp ok w b p.2 c1
 | .nul f,_,cs => cs = [HO f]
theorem Rp.len {ok : Nat -> Prop} {w : World} : ∀ {t : Ty} {x : t.T} {cs : List Value},Rp ok w t x cs -> cs.length = t.sz
 | .int _,_,_,h => by simp only [Rp] at h; rw [h]; rfl
 | .bool,_,_,h => by simp only [Rp] at h; rw [h]; rfl
 | .str,_,_,h => by simp only [Rp] at h; rw [h]; rfl
 | .sl _ _,_,_,h => by simp only [Rp] at h; obtain ⟨A,c,h,_⟩ := h; rw [h]; rfl
 | .pair a b,_,_,h => by
  simp only [Rp] at h
  obtain ⟨c0,c1,rfl,h0,h1⟩ := h
  rw [List.length_append,Rp.len h0,Rp.len h1]
  rfl
 | .nul f,_,_,h => by simp only [Rp] at h; rw [h]; rfl
theorem Rp.one {ok : Nat -> Prop} {w : World} : ∀ {t : Ty} {x : t.T} {cs : List Value},Rp ok w t x cs -> ∀ u ∈ cs,u.oneCell' = true
 | .int _,_,_,h,u,hu => by simp only [Rp] at h; subst h; rw [List.mem_singleton.1 hu]; rfl
 | .bool,_,_,h,u,hu => by simp only [Rp] at h; subst h; rw [List.mem_singleton.1 hu]; rfl
 | .str,_,_,h,u,hu => by simp only [Rp] at h; subst h; rw [List.mem_singleton.1 hu]; rfl
 | .sl _ _,_,_,h,u,hu => by simp only [Rp] at h; obtain ⟨A,c,h,_⟩ := h; subst h; rw [List.mem_singleton.1 hu]; rfl
 | .pair a b,_,_,h,u,hu => by
  simp only [Rp] at h
  obtain ⟨c0,c1,rfl,h0,h1⟩ := h
  rcases List.mem_append.1 hu with hu | hu
  ·exact Rp.one h0 u hu
  ·exact Rp.one h1 u hu
 | .nul f,_,_,h,u,hu => by simp only [Rp] at h; subst h; rw [List.mem_singleton.1 hu]; cases f <;> rfl
theorem Rp.step {ok ok' : Nat -> Prop} {w w' : World} (hk : ∀ g,ok g -> ok' g) (hw : ∀ g,ok g -> w'.heap[g]? = w.heap[g]?) : ∀ {t : Ty} {x : t.T} {cs : List Value},Rp ok w t x cs -> Rp ok' w' t x cs
 | .int _,_,_,h => by simp only [Rp] at h ⊢; exact h
 | .bool,_,_,h => by simp only [Rp] at h ⊢; exact h
 | .str,_,_,h => by simp only [Rp] at h ⊢; exact h
 | .sl _ t,l,_,h => by
  simp only [Rp] at h ⊢
  obtain ⟨A,c,h,hc,hm,hr⟩ := h
  refine ⟨A,c,h,hc,hm,fun hl => ?_⟩
  obtain ⟨ad,hA,hok,hr⟩ := hr hl
  refine ⟨ad,hA,hk _ hok,fun i x hx => ?_⟩
  obtain ⟨c,hc,hp,hq⟩ := hr i x hx
  refine ⟨c,hc,Rp.step hk hw hp,fun q u hu => ?_⟩
  have hb : (ad.add (i * t.sz + q)).block = ad.block := by unfold Addr.add; split <;> rfl
  rw [World.cell?_of_block (w := w) (by rw [hb]; exact hw _ hok)]
  exact hq q u hu
 | .pair a b,_,_,h => by
  simp only [Rp] at h ⊢
  obtain ⟨c0,c1,rfl,h0,h1⟩ := h
  exact ⟨c0,c1,rfl,Rp.step hk hw h0,Rp.step hk hw h1⟩
 | .nul f,_,_,h => by simp only [Rp] at h ⊢; exact h
theorem Rp.zero (ok : Nat -> Prop) (w : World) : ∀ t : Ty,Rp ok w t t.zero t.zv
 | .int _ => by simp only [Rp]; rfl
 | .bool => by simp only [Rp]; rfl
 | .str => by simp only [Rp]; rfl
 | .sl _ _ => by simp only [Rp]; exact ⟨none,0,rfl,Nat.zero_le _,Nat.zero_le _,fun h => absurd h (by simp [Ty.zero])⟩
 | .pair a b => by simp only [Rp]; exact ⟨_,_,rfl,Rp.zero ok w a,Rp.zero ok w b⟩
 | .nul f => by simp only [Rp]; rfl
inductive Loc where
 | dead | box (g : Nat) | arr (v : Value) (g : Option Nat) (sz : Nat)
 | nst (v : Value) (g : Option Nat) (sz : Nat) (hd : List (List (Value × Option Nat)))
structure al where
 loc : Nat -> Loc
 ok : Bool -> Nat -> Prop
def OX (A : Option Addr) (c sz off len : Nat) (v : Value) : Prop :=
 (off = 0 /\ v = .slice A len c) ∨ (0 < len /\ off + len <= c /\ ∃ a,A = some a /\ v = .slice (some (a.add (off * sz))) len (c - off)) ∨ (len = 0 /\ off ≠ 0 /\ ∃ A' c',v = .slice A' 0 c' /\ c' <= maxLen)
def Gi (ok : Nat -> Prop) (w : World) (t : Ty) (x : t.T) (a : Addr) : Prop :=
 ok a.block /\ ∃ cs,Rp ok w t x cs /\ ∀ q u,cs[q]? = some u -> w.cell? (a.add q) = some u
def rc (ρ : al) (w : World) : Cell -> Value -> Prop
 | .int k n,v => v = .int k n
 | .bool b,v => v = .bool b
 | .str s,v => v = .string s
 | .nil,v => v = .slice none 0 0
 | .cap0,v => ∃ A,v = .slice A 0 0
 | .nul f,v => v = HO f
 | .emb e t l b,v => Rp (ρ.ok b) w (.sl e t) l [v]
 | .sl j,v => ∃ g sz,ρ.loc j = .arr v g sz
 | .sub j off len,v => ∃ A n c g sz,ρ.loc j = .arr (.slice A n c) g sz /\ off + len <= n /\ OX A c sz off len v
 | .ptr j i c,v => (i = 0 /\ ∃ g,ρ.loc j = .box g /\ v = .pointer (some ⟨g,c,none⟩)) ∨ (∃ a n cp g sz,ρ.loc j = .arr (.slice (some a) n cp) g sz /\ v = .pointer (some (a.add (i * sz + c))))
 | .eptr t x c b,v => ∃ a,Gi (ρ.ok b) w t x a /\ v = .pointer (some (a.add c))
 | .fn f caps,v => ∃ vs : List Value,v = .func (.func f) #[] vs.toArray /\ aF (fun (p : (t : Ty) × t.T) u => ∃ a,Gi (ρ.ok true) w p.1 p.2 a /\ u = .pointer (some a)) caps vs
 | .fnp f js,v => ∃ vs : List Value,v = .func (.func f) #[] vs.toArray /\ aF (fun j u => ∃ g,ρ.loc j = .box g /\ u = .pointer (some ⟨g,0,none⟩)) js vs
 | .nl j,v => ∃ g sz hd,ρ.loc j = .nst v g sz hd
 | .np j i c,v => ∃ a n cp g sz hd,ρ.loc j = .nst (.slice (some a) n cp) g sz hd /\ v = .pointer (some (a.add (i * sz + c)))
 | .inn j i k,v => ∃ V g sz hd hs q,ρ.loc j = .nst V g sz hd /\ hd[i]? = some hs /\ hs[k]? = some (v,q)
 | .und,_ => True
def rp (ρ : al) (w : World) : Bool × List Cell -> Value -> Prop
 | (true,cs),v => ∃ vs : List Value,v = .agg vs.toArray /\ aF (rc ρ w) cs vs
 | (false,cs),v => ∃ c,cs = [c] /\ rc ρ w c v
def rav (ρ : al) (w : World) : AV -> Value -> Prop
 | .one c,v => rc ρ w c v
 | .agg cs,v => ∃ vs : List Value,v = .agg vs.toArray /\ aF (rc ρ w) cs vs
 | .tup ps,v => ∃ vs : List Value,v = .tuple vs.toArray /\ aF (rp ρ w) ps vs
def bU (ok : Nat -> Prop) (w : World) (t : Ty) (l : List t.T) (xs : List Value) : Prop :=
 xs.length = l.length * t.sz /\ ∀ j p,l[j]? = some p -> Rp ok w t p ((xs.drop (j * t.sz)).take t.sz)
def Have (w : World) (e : TypeId) (sz : Nat) (v : Value) (n : Nat) (xs : List Value) : Option Nat -> Prop
 | some g => w.ownsRow 0 e sz v n xs /\ v.ownBlock = some g
 | none => n = 0 /\ ∃ A,v = .slice A 0 0
def Rn (w : World) : (t : Ty) -> t.T -> List Value -> List (Value × Option Nat) -> Prop
 | .int k,n,cs,hs => cs = [.int k n] /\ hs = []
 | .bool,b,cs,hs => cs = [.bool b] /\ hs = []
 | .str,b,cs,hs => cs = [.string b] /\ hs = []
 | .nul f,_,cs,hs => cs = [HO f] /\ hs = []
 | .sl e t,l,cs,hs => t.flat = true /\ ∃ v g xs,cs = [v] /\ hs = [(v,g)] /\ bU (fun _ => False) w t l xs /\ Have w e t.sz v l.length xs g
 | .pair a b,p,cs,hs => ∃ c0 c1 h0 h1,cs = c0 ++ c1 /\ hs = h0 ++ h1 /\ Rn w a p.1 c0 h0 /\ Rn w b p.2 c1 h1
def kids (hd : List (List (Value × Option Nat))) : List Nat := hd.flatten.filterMap (·.2)
def ct (g : Option Nat) (hd : List (List (Value × Option Nat))) : List Nat := g.toList ++ kids hd
structure nk (w : World) (e : TypeId) (t : Ty) (l : List t.T) (v : Value) (g : Option Nat) (hd : List (List (Value × Option Nat))) (xs : List Value) : Prop where
 len : xs.length = l.length * t.sz
 hlen : hd.length = l.length
 el : ∀ i p,l[i]? = some p -> ∃ hs,hd[i]? = some hs /\ Rn w t p ((xs.drop (i * t.sz)).take t.sz) hs
 own : Have w e t.sz v l.length xs g
 nd : (ct g hd).Nodup
def eZ (ρ : al) (w : World) (j : Nat) : Blk -> Prop
 | .box ty cs => ∃ g,∃ vs : List Value,ρ.loc j = .box g /\ w.heap[g]? = some (.cells vs.toArray ty (0,0)) /\ aF (rc ρ w) cs vs
 | .arr e t l b => ∃ v g xs,ρ.loc j = .arr v g t.sz /\ bU (ρ.ok b) w t l xs /\
   match g with
   | some g => w.ownsRow 0 e t.sz v l.length xs /\ v.ownBlock = some g
   | none => l = [] /\ ∃ A,v = .slice A 0 0
 | .fro e t l b => ∃ v g,ρ.loc j = .arr v g t.sz /\ Rp (ρ.ok b) w (.sl e t) l [v]
 | .nst e t l => ∃ v g hd xs,ρ.loc j = .nst v g t.sz hd /\ nk w e t l v g hd xs
end Go.Proofs.YtcddhifkfakcjaaGreat.Lib
namespace Go.Proofs.YtcddhifkfakcjaaGreat.Lib
open Go Go.RowKit
set_option linter.unusedVariables false
inductive TD where
 | scal | slice (e : TypeId) | struct (fs : List (TypeId × Nat)) | other
structure TI where
 td : TD
 sz : Nat
 bytes : Nat
 ty : Option Ty
def TI.agg (i : TI) : Bool := match i.td with | .struct _ => true | _ => false
def o8 : Value -> Option Cell
 | .bool b => some (.bool b) | .int k n => some (.int k n) | .string s => some (.str s)
 | .slice none 0 0 => some .nil
 | .func (.func f) a b => (match a.toList,b.toList with | [],[] => some (.fn f []) | _,_ => none)
 | _ => none
def iS : List Value -> Option (List Cell)
 | [] => some []
 | v :: vs => (o8 v).bind fun c => (iS vs).bind fun cs => some (c :: cs)
def Fu : Value -> AV
 | .agg cs => match iS cs.toList with | some l => .agg l | none => .one .und
 | .tuple cs => match cs.toList with | [] => .tup [] | _ => .one .und
 | v => match o8 v with | some c => .one c | none => .one .und
def au (sl : List AV) : Operand -> AV
 | .tmp t => sl.getD t (.one .und)
 | .const v => Fu v
 | .func f => .one (.fn f [])
 | .global _ => .one .und
def Cell.ae (d : Nat) : Cell -> Bool
 | .sl j | .sub j _ _ | .ptr j _ _ | .nl j | .np j _ _ | .inn j _ _ => j == d
 | .fnp _ js => js.contains d
 | _ => false
def AV.ae (d : Nat) : AV -> Bool
 | .one c => c.ae d | .agg cs => cs.any (·.ae d) | .tup vs => vs.any (·.2.any (·.ae d))
def Cell.aT (p : Nat -> Bool) : Cell -> Cell
 | .sl j => bif p j then .und else .sl j
 | .sub j o l => bif p j then .und else .sub j o l
 | .ptr j i c => bif p j then .und else .ptr j i c
 | .fnp f js => bif js.any p then .und else .fnp f js
 | .nl j => bif p j then .und else .nl j
 | .np j i c => bif p j then .und else .np j i c
 | .inn j i k => bif p j then .und else .inn j i k
 | c => c
def AV.aT (p : Nat -> Bool) : AV -> AV
 | .one c => .one (c.aT p) | .agg cs => .agg (cs.map (·.aT p)) | .tup vs => .tup (vs.map fun q => (q.1,q.2.map (·.aT p)))
def Blk.aT (p : Nat -> Bool) : Blk -> Blk
 | .box t cs => .box t (cs.map (·.aT p)) | b => b
def Sig.aT (p : Nat -> Bool) : Sig -> Sig
 | [] => []
 | (j,b) :: r => bif p j then Sig.aT p r else (j,b.aT p) :: Sig.aT p r
def Sig.put (j : Nat) (b : Blk) : Sig -> Sig
 | [] => [(j,b)]
 | (i,c) :: r => bif i == j then (j,b) :: r else (i,c) :: Sig.put j b r
def Sig.get (j : Nat) : Sig -> Option Blk
 | [] => none
 | (i,c) :: r => bif i == j then some c else Sig.get j r
def St.aT (p : Nat -> Bool) (s : St) : St := ⟨s.sl.map (·.aT p),s.sg.aT p⟩
def St.aQ (j : Nat) (s : St) : St := ⟨s.sl.map (·.aT (· == j)),s.sg.map fun q => (q.1,q.2.aT (· == j))⟩
def St.put (dst : Option Nat) (v : AV) (s : St) : St :=
 match dst with
 | some d => ⟨s.sl.set d v,s.sg⟩
 | none => s
inductive CP where
 | dat (t : Ty) (b : Bool) | own (j : Nat) | ptr (j c : Nat) | und | fnc (f : FuncId) (ts : List Ty) | ept (t : Ty) | fnp (f : FuncId) (js : List Nat) | nest (j : Nat)
inductive SP where
 | und | one (p : CP) | agg (ps : List CP)
inductive GP where
 | arr (e : TypeId) (t : Ty) (b : Bool) | box (ty : TypeId) (ps : List CP) | nst (e : TypeId) (t : Ty)
@[reducible] def Tys.T : List Ty -> Type -> Type
 | [],R => R
 | t :: r,R => t.T × Tys.T r R
def Tys.cap {R : Type} : (ts : List Ty) -> List ((t : Ty) × t.T) -> Option R -> Option (Tys.T ts R)
 | [],cs,k => (match cs with | [] => k | _ => none)
 | t :: r,cs,k => (match cs with
  | ⟨t',x⟩ :: cs => if h : t' = t then (match Tys.cap r cs k with | some y => some (h ▸ x,y) | none => none) else none
  | [] => none)
def Tys.bld {R : Type} : (ts : List Ty) -> Tys.T ts R -> List ((t : Ty) × t.T) × R
 | [],x => ([],x)
 | t :: r,x => (⟨t,x.1⟩ :: (Tys.bld r x.2).1,(Tys.bld r x.2).2)
@[reducible] def CPs.T : List CP -> Type -> Type
 | [],R => R
 | .dat t _ :: r,R => t.T × CPs.T r R
 | .own _ :: r,R => CPs.T r R
 | .ptr _ _ :: r,R => CPs.T r R
 | .und :: r,R => CPs.T r R
 | .fnc _ ts :: r,R => Tys.T ts (CPs.T r R)
 | .ept t :: r,R => t.T × CPs.T r R
 | .fnp _ _ :: r,R => CPs.T r R
 | .nest _ :: r,R => CPs.T r R
@[reducible] def SPs.T : List SP -> Type -> Type
 | [],R => R
 | .und :: r,R => SPs.T r R
 | .one p :: r,R => CPs.T [p] (SPs.T r R)
 | .agg ps :: r,R => CPs.T ps (SPs.T r R)
@[reducible] def GPs.T : List (Nat × GP) -> Type
 | [] => Unit
 | (_,.arr _ t _) :: r => List t.T × GPs.T r
 | (_,.box _ ps) :: r => CPs.T ps (GPs.T r)
 | (_,.nst _ t) :: r => List t.T × GPs.T r
def CPs.cap {R : Type} : (ps : List CP) -> List Cell -> Option R -> Option (CPs.T ps R)
 | [],cs,k => (match cs with | [] => k | _ => none)
 | .dat t b :: r,cs,k => (match t.parse b cs with
  | some (x,cs) => (match CPs.cap r cs k with | some y => some (x,y) | none => none)
  | none => none)
 | .own j :: r,cs,k => (match cs with | .sl j' :: cs => bif j' == j then CPs.cap r cs k else none | _ => none)
 | .ptr j c :: r,cs,k => (match cs with | .ptr j' i c' :: cs => bif (j' == j) && (i == 0) && (c' == c) then CPs.cap r cs k else none | _ => none)
 | .und :: r,cs,k => (match cs with | _ :: cs => CPs.cap r cs k | _ => none)
 | .fnc f ts :: r,cs,k => (match cs with | .fn f' caps :: cs => bif f' == f then Tys.cap ts caps (CPs.cap r cs k) else none | _ => none)
 | .ept t :: r,cs,k => (match cs with
  | .eptr t' x c _ :: cs => if h : t' = t then bif c == 0 then (match CPs.cap r cs k with | some y => some (h ▸ x,y) | none => none) else none else none
  | _ => none)
 | .fnp f js :: r,cs,k => (match cs with | .fnp f' js' :: cs => bif (f' == f) && (js' == js) then CPs.cap r cs k else none | _ => none)
 | .nest j :: r,cs,k => (match cs with | .nl j' :: cs => bif j' == j then CPs.cap r cs k else none | _ => none)
def CPs.bld {R : Type} : (ps : List CP) -> CPs.T ps R -> List Cell × R
 | [],x => ([],x)
 | .dat t b :: r,x => (t.cells b x.1 ++ (CPs.bld r x.2).1,(CPs.bld r x.2).2)
 | .own j :: r,x => (.sl j :: (CPs.bld r x).1,(CPs.bld r x).2)
 | .ptr j c :: r,x => (.ptr j 0 c :: (CPs.bld r x).1,(CPs.bld r x).2)
 | .und :: r,x => (.und :: (CPs.bld r x).1,(CPs.bld r x).2)
 | .fnc f ts :: r,x => (.fn f (Tys.bld ts x).1 :: (CPs.bld r (Tys.bld ts x).2).1,(CPs.bld r (Tys.bld ts x).2).2)
 | .ept t :: r,x => (.eptr t x.1 0 true :: (CPs.bld r x.2).1,(CPs.bld r x.2).2)
 | .fnp f js :: r,x => (.fnp f js :: (CPs.bld r x).1,(CPs.bld r x).2)
 | .nest j :: r,x => (.nl j :: (CPs.bld r x).1,(CPs.bld r x).2)
def SPs.cap {R : Type} : (ss : List SP) -> List AV -> Option R -> Option (SPs.T ss R)
 | [],vs,k => (match vs with | [] => k | _ => none)
 | .und :: r,vs,k => (match vs with | _ :: vs => SPs.cap r vs k | _ => none)
 | .one p :: r,vs,k => (match vs with | .one c :: vs => CPs.cap [p] [c] (SPs.cap r vs k) | _ => none)
 | .agg ps :: r,vs,k => (match vs with | .agg cs :: vs => CPs.cap ps cs (SPs.cap r vs k) | _ => none)
def oneOf : List Cell -> AV | [c] => .one c | _ => .one .und
def SPs.bld {R : Type} : (ss : List SP) -> SPs.T ss R -> List AV × R
 | [],x => ([],x)
 | .und :: r,x => (.one .und :: (SPs.bld r x).1,(SPs.bld r x).2)
 | .one p :: r,x => (oneOf (CPs.bld [p] x).1 :: (SPs.bld r (CPs.bld [p] x).2).1,(SPs.bld r (CPs.bld [p] x).2).2)
 | .agg ps :: r,x => (.agg (CPs.bld ps x).1 :: (SPs.bld r (CPs.bld ps x).2).1,(SPs.bld r (CPs.bld ps x).2).2)
def GPs.cap : (gs : List (Nat × GP)) -> Sig -> Option (GPs.T gs)
 | [],_ => some ()
 | (j,.arr e t b) :: r,sg => (match sg.get j with
  | some (.arr e' t' l b') => if h : t' = t then (bif (e' == e) && (!b' || b) then (match GPs.cap r sg with | some y => some (h ▸ l,y) | none => none) else none) else none
  | _ => none)
 | (j,.box ty ps) :: r,sg => (match sg.get j with
  | some (.box ty' cs) => bif ty' == ty then CPs.cap ps cs (GPs.cap r sg) else none
  | _ => none)
 | (j,.nst e t) :: r,sg => (match sg.get j with
  | some (.nst e' t' l) => if h : t' = t then (bif e' == e then (match GPs.cap r sg with | some y => some (h ▸ l,y) | none => none) else none) else none
  | _ => none)
def GPs.bld : (gs : List (Nat × GP)) -> GPs.T gs -> Sig
 | [],_ => []
 | (j,.arr e t b) :: r,x => (j,.arr e t x.1 b) :: GPs.bld r x.2
 | (j,.box ty ps) :: r,x => (j,.box ty (CPs.bld ps x).1) :: GPs.bld r (CPs.bld ps x).2
 | (j,.nst e t) :: r,x => (j,.nst e t x.1) :: GPs.bld r x.2
@[reducible] def StT (ss : List SP) (gs : List (Nat × GP)) : Type := SPs.T ss (GPs.T gs)
def jH (ss : List SP) (gs : List (Nat × GP)) (st : St) : Option (StT ss gs) := SPs.cap ss st.sl (GPs.cap gs st.sg)
def ar (ss : List SP) (gs : List (Nat × GP)) (x : StT ss gs) : St := ⟨(SPs.bld ss x).1,GPs.bld gs (SPs.bld ss x).2⟩
inductive Ex where
 | normal | exit (id : Nat) | ret
inductive aL (α : Type) where
 | no | done (x : α) | br (c : Bool) (a b : aL α)
def aL.run {α R : Type} (k : α -> Option R) : aL α -> Option R
 | .no => none
 | .done x => k x
 | .br c a b => bif c then a.run k else b.run k
inductive LT where
 | none | node (a b : LT) | sum (ss : List SP) (gs : List (Nat × GP)) (F : StT ss gs -> aL (Ex × St))
def LT.l : LT -> LT | .node a _ => a | _ => .none
def LT.r : LT -> LT | .node _ b => b | _ => .none
structure Prim where
 ss : List SP
 F : SPs.T ss Unit -> aL (AV × Sig)
structure Mrk where
 ss : List SP
 gs : List (Nat × GP)
 F : StT ss gs -> aL (AV × Sig)
structure Gen where
 hand : List Bool
 ss : List SP
 gs : List (Nat × GP)
 F : StT ss gs -> aL (AV × Sig)
structure Env where
 ti : List (TypeId × TI)
 fn : List (FuncId × Func)
 prim : List (FuncId × Prim) := []
 lt : List (FuncId × LT) := []
 mark : List (FuncId × Mrk) := []
 eqt : List TypeId := []
 gen : List (FuncId × Gen) := []
 nest : Bool := false
section
variable {R : Type}
def Cell.ofElem (agg : Bool) (cs : List Cell) : Option AV :=
 match agg,cs with
 | true,cs => some (.agg cs)
 | false,[c] => some (.one c)
 | _,_ => none
def Ty.nB : Ty -> Nat
 | .sl _ _ => 1 | .pair a b => a.nB + b.nB | _ => 0
def Ty.lY : Ty -> Bool
 | .sl _ t => t.flat | .pair a b => a.lY && b.lY | _ => true
def Ty.lG (j i : Nat) : (t : Ty) -> t.T -> Nat -> List Cell
 | .int k,n,_ => [.int k n] | .bool,x,_ => [.bool x] | .str,s,_ => [.str s] | .sl _ _,_,k => [.inn j i k]
 | .pair a b,p,k => a.lG j i p.1 k ++ b.lG j i p.2 (k + a.nB) | .nul f,_,_ => [.nul f]
abbrev Fc := (q : TypeId × Ty) × List q.2.T
def Ty.rowAt : (t : Ty) -> t.T -> Nat -> Option Fc
 | .sl e t,l,k => (match k with | 0 => some ⟨(e,t),l⟩ | _ => none)
 | .pair a b,p,k => bif Nat.blt k a.nB then a.rowAt p.1 k else b.rowAt p.2 (k - a.nB)
 | _,_,_ => none
def Ty.setRow : (t : Ty) -> t.T -> Nat -> Fc -> Option t.T
 | .sl _ t,_,k,q => (match k with | 0 => (if h : q.1.2 = t then some (h ▸ q.2) else none) | _ => none)
 | .pair a b,p,k,q => bif Nat.blt k a.nB then (match a.setRow p.1 k q with | some x => some (x,p.2) | none => none) else (match b.setRow p.2 (k - a.nB) q with | some x => some (p.1,x) | none => none)
 | _,_,_,_ => none
def Ty.iv : (t : Ty) -> t.T -> Nat -> List Cell -> Option (t.T × Nat × List Cell)
 | .int k,x,c,cs => (match cs with
  | [] => some (x,c,[])
  | d :: r => (match c with | 0 => (match d with | .int k' n => if k' = k then some (n,0,r) else none | _ => none) | c + 1 => some (x,c,d :: r)))
 | .bool,x,c,cs => (match cs with
  | [] => some (x,c,[])
  | d :: r => (match c with | 0 => (match d with | .bool n => some (n,0,r) | _ => none) | c + 1 => some (x,c,d :: r)))
 | .str,x,c,cs => (match cs with
  | [] => some (x,c,[])
  | d :: r => (match c with | 0 => (match d with | .str n => some (n,0,r) | _ => none) | c + 1 => some (x,c,d :: r)))
 | .nul _,x,c,cs => (match cs with
  | [] => some (x,c,[])
  | d :: r => (match c with | 0 => none | c + 1 => some (x,c,d :: r)))
 | .sl _ _,x,c,cs => (match cs with
  | [] => some (x,c,[])
  | d :: r => (match c with | 0 => none | c + 1 => some (x,c,d :: r)))
 | .pair a b,p,c,cs => (match a.iv p.1 c cs with
  | some (x,c,r) => (match b.iv p.2 c r with | some (y,c,r) => some ((x,y),c,r) | none => none)
  | none => none)
def Ty.takeN (sg : Sig) : (t : Ty) -> List Cell -> Option (t.T × List Cell × List Nat)
 | .int k,cs => (match cs with | .int k' n :: r => if k' = k then some (n,r,[]) else none | _ => none)
 | .bool,cs => (match cs with | .bool x :: r => some (x,r,[]) | _ => none)
 | .str,cs => (match cs with | .str x :: r => some (x,r,[]) | _ => none)
 | .nul f,cs => (match cs with | .nul f' :: r => if f' = f then some ((),r,[]) else none | _ => none)
 | .sl e t,cs => (match cs with
  | .nil :: r => bif t.flat then some ([],r,[]) else none
  | .cap0 :: r => bif t.flat then some ([],r,[]) else none
  | .sl j :: r => (match sg.get j with
   | some (.arr e' t' l _) => if h : t' = t then (bif (e' == e) && (t.flat && Nat.blt j PIN) then some (h ▸ l,r,[j]) else none) else none
   | _ => none)
  | _ => none)
 | .pair a b,cs => (match a.takeN sg cs with
  | some (x,r,m) => (match b.takeN sg r with | some (y,r,m') => some ((x,y),r,m ++ m') | none => none)
  | none => none)
def mf (c n : Nat) (cs : List Cell) : Option (List Cell) :=
 let r := (cs.drop c).take n
 bif r.length == n then some r else none
def kr (op : BinOp) (k : IntKind) (a b : Int) (kk : Cell -> Option R) : Option R :=
 match op with
 | .add => kk (.int k (k.wrap (a + b))) | .sub => kk (.int k (k.wrap (a - b))) | .mul => kk (.int k (k.wrap (a * b)))
 | .quo => if b = 0 then none else kk (.int k (k.wrap (a.tdiv b)))
 | .rem => if b = 0 then none else kk (.int k (a.tmod b))
 | .and => kk (.int k (k.wrap (BitVec.ofInt k.bits a &&& BitVec.ofInt k.bits b).toNat))
 | .or => kk (.int k (k.wrap (BitVec.ofInt k.bits a ||| BitVec.ofInt k.bits b).toNat))
 | .xor => kk (.int k (k.wrap (BitVec.ofInt k.bits a ^^^ BitVec.ofInt k.bits b).toNat))
 | .eql => kk (.bool (a == b)) | .neq => kk (.bool (a != b))
 | .lss => kk (.bool (a < b)) | .leq => kk (.bool (a <= b)) | .gtr => kk (.bool (a > b)) | .geq => kk (.bool (a ≥ b))
 | .shl => if b < 0 then none else kk (.int k (k.wrap (a * 2 ^ (min b.toNat k.bits))))
 | .shr => if b < 0 then none else kk (.int k (a.fdiv (2 ^ (min b.toNat k.bits))))
 | _ => none
def tc (op : BinOp) (a b : ByteArray) (kk : Cell -> Option R) : Option R :=
 match op with
 | .add => if a.size + b.size <= 9223372036854775807 then kk (.str (a ++ b)) else none
 | .eql => kk (.bool (a.toList == b.toList)) | .neq => kk (.bool (!(a.toList == b.toList)))
 | _ => none
def gQ (op : BinOp) (x y : Cell) (kk : Cell -> Option R) : Option R :=
 match x,y with
 | .int k a,.int k' b => (match op with
  | .shl | .shr => kr op k a b kk
  | _ => if k = k' then kr op k a b kk else none)
 | .str a,.str b => tc op a b kk
 | _,_ => none
def I5 (E : Env) (t : TypeId) : Bool := match E.ti.lookup t with | some { td := .scal,ty := some .bool,.. } => true | _ => false
def NA (E : Env) (t : TypeId) : Bool := match E.ti.lookup t with | some { td := .scal,ty := some .str,.. } => true | _ => false
def rG (op : UnOp) (x : Cell) (kk : Cell -> Option R) : Option R :=
 match op,x with
 | .not,.bool b => kk (.bool (!b))
 | .neg,.int k n => kk (.int k (k.wrap (0 - n)))
 | _,_ => none
def fj (sg : Sig) (x : Cell) (kk : Int -> Option R) : Option R :=
 match x with
 | .nil | .cap0 => kk 0
 | .emb _ _ l _ => kk l.length
 | .sub _ _ n => kk n
 | .sl j => (match sg.get j with
  | some (.arr _ _ l _) | some (.fro _ _ l _) => kk l.length
  | _ => none)
 | .nl j => (match sg.get j with
  | some (.nst _ _ l) => kk l.length
  | _ => none)
 | _ => none
def gF (sg : Sig) (n : Nat) (x : Cell) (i : Int) (kk : Cell -> Option R) : Option R :=
 match x with
 | .emb _ t l b => bif t.sz == n then (if 0 <= i then (match l[i.toNat]? with | some x => kk (.eptr t x 0 b) | none => none) else none) else none
 | .sl j => (match sg.get j with
  | some (.arr _ t l _) => bif t.sz == n then (if 0 <= i then (if i < l.length then kk (.ptr j i.toNat 0) else none) else none) else none
  | some (.fro _ t l b) => bif t.sz == n then (if 0 <= i then (match l[i.toNat]? with | some x => kk (.eptr t x 0 b) | none => none) else none) else none
  | _ => none)
 | .nl j => (match sg.get j with
  | some (.nst _ t l) => bif t.sz == n then (if 0 <= i then (if i < l.length then kk (.np j i.toNat 0) else none) else none) else none
  | _ => none)
 | .sub j off len => (match sg.get j with
  | some (.arr _ t l _) => bif t.sz == n then (if 0 <= i then (if i < (len : Int) then (if off + i.toNat < l.length then kk (.ptr j (off + i.toNat) 0) else none) else none) else none) else none
  | _ => none)
 | _ => none
def eK (ρ : Operand -> AV) : Option Operand -> Option (Option Int)
 | none => some none
 | some x => (match ρ x with | .one (.int _ n) => some (some n) | _ => none)
def nU (lo : Option Int) (h : Nat) (k : Nat -> Nat -> Option R) : Option R :=
 match lo with
 | none => k 0 h
 | some l => if 0 <= l then (if l <= (h : Int) then k l.toNat h else none) else none
def e7 (len : Nat) (lo hi : Option Int) (k : Nat -> Nat -> Option R) : Option R :=
 match hi with
 | none => nU lo len k
 | some h => if 0 <= h then (if h <= (len : Int) then nU lo h.toNat k else none) else none
def cQ (sg : Sig) (n : Nat) (x : Cell) (lo hi : Option Int) (kk : Cell -> Option R) : Option R :=
 match x with
 | .nil => e7 0 lo hi fun _ _ => kk .cap0
 | .cap0 => e7 0 lo hi fun _ _ => kk .cap0
 | .emb e t l b => bif t.sz == n then e7 l.length lo hi fun p q => kk (.emb e t ((l.take q).drop p) b) else none
 | .sl j => (match sg.get j with
  | some (.arr _ t l _) => bif t.sz == n then e7 l.length lo hi fun p q => kk (.sub j p (q - p)) else none
  | some (.fro e t l b) => bif t.sz == n then e7 l.length lo hi fun p q => kk (.emb e t ((l.take q).drop p) b) else none
  | _ => none)
 | _ => none
def loadCells (sg : Sig) (n : Nat) (p : Cell) (kk : List Cell -> Option R) : Option R :=
 match p with
 | .eptr t x c b => (match mf c n (t.cells b x) with | some cs => kk cs | none => none)
 | .ptr j i c => (match sg.get j with
  | some (.box _ cs) => (match i with | 0 => (match mf c n cs with | some cs => kk cs | none => none) | _ => none)
  | some (.arr _ t l b) => (match l[i]? with
   | some x => (match mf c n (t.cells b x) with | some cs => kk cs | none => none)
   | none => none)
  | _ => none)
 | .np j i c => (match sg.get j with
  | some (.nst _ t l) => (match l[i]? with
   | some x => (match mf c n (t.lG j i x 0) with | some cs => kk cs | none => none)
   | none => none)
  | _ => none)
 | _ => none
def Cell.fb : Cell -> Bool
 | .und => false | _ => true
def AV.cells? : AV -> Option (List Cell)
 | .one c => bif c.fb then some [c] else none | .agg cs => bif cs.all (·.fb) then some cs else none | .tup _ => none
def gS (place : Nat -> Option (Nat × Nat)) (cells : List Cell) : List (Nat × AV) -> Option (List Cell)
 | [] => some cells
 | (i,v) :: rest =>
  (match place i with
  | some (off,n) => (match v.cells? with
   | some cs => bif (cs.length == n) && Nat.ble (off + n) cells.length then gS place (cells.take off ++ cs ++ cells.drop (off + n)) rest else none
   | none => none)
  | none => none)
def placeOf (E : Env) (fs : List (TypeId × Nat)) (i : Nat) : Option (Nat × Nat) :=
 match fs[i]? with
 | some (ft,off) => (match E.ti.lookup ft with
  | some ti => some (off,ti.sz)
  | none => none)
 | none => none
def fg (E : Env) : List (TypeId × Nat) -> Nat -> List Cell -> List Cell -> Option Bool
 | [],_,cs,ds => (match cs,ds with | [],[] => some true | _,_ => none)
 | (ft,off) :: fs,n,cs,ds => (match cs,ds with
  | c :: cs,d :: ds => bif off == n then (match E.ti.lookup ft with
   | some { td := .scal,ty := some (.int _),.. } => (match c,d with
    | .int k a,.int k' b => if k = k' then (match fg E fs (n + 1) cs ds with | some r => some ((a == b) && r) | none => none) else none
    | _,_ => none)
   | some { td := .scal,ty := some .bool,.. } => (match c,d with
    | .bool a,.bool b => (match fg E fs (n + 1) cs ds with | some r => some ((a == b) && r) | none => none)
    | _,_ => none)
   | some { td := .scal,ty := some .str,.. } => (match c,d with
    | .str a,.str b => (match fg E fs (n + 1) cs ds with | some r => some ((a.toList == b.toList) && r) | none => none)
    | _,_ => none)
   | _ => none) else none
  | _,_ => none)
def bB (b : Bool) (t : Ty) : List (Nat × AV) -> Nat -> Option (List t.T)
 | [],_ => some []
 | (i,v) :: r,n => bif i == n then (match v.cells? with
  | some cs => (match t.read b cs with
   | some x => (match bB b t r (n + 1) with | some xs => some (x :: xs) | none => none)
   | none => none)
  | none => none) else none
def sq (s : ByteArray) : List Int := s.data.toList.map fun c => (c.toNat : Int)
def Sig.free (sg : Sig) (d : Nat) : Bool := (sg.get d).isNone && Nat.blt d PIN
theorem Sig.a8 {sg : Sig} {d : Nat} : sg.free d = true ↔ sg.get d = none /\ d < PIN := by
 simp only [Sig.free,Bool.and_eq_true,Option.isNone_iff_eq_none,Nat.blt_eq]
def Kt (f : FuncId) : List Nat -> Cell
 | [] => .fn f []
 | js => .fnp f js
def jf (sg : Sig) (ρ : Operand -> AV) : List Operand -> Option (List Nat)
 | [] => some []
 | x :: r => (match ρ x with
  | .one (.ptr j 0 0) => (match sg.get j with
   | some (.box _ _) => (match jf sg ρ r with | some l => some (j :: l) | none => none)
   | _ => none)
  | _ => none)
def bytesOf (sg : Sig) : Cell -> Option (List Int)
 | .nil | .cap0 => some []
 | .emb _ t l _ => if h : t = .int .u8 then some ((h ▸ l : List (Ty.T (.int .u8)))) else none
 | .sl j => (match sg.get j with
  | some (.arr _ t l _) => if h : t = .int .u8 then some ((h ▸ l : List (Ty.T (.int .u8)))) else none
  | some (.fro _ t l _) => if h : t = .int .u8 then some ((h ▸ l : List (Ty.T (.int .u8)))) else none
  | _ => none)
 | _ => none
def qop (E : Env) (sg : Sig) (ρ : Operand -> AV) (dst : Option Nat) (op : Op) (k : AV -> Sig -> Option R) : Option R :=
 match op with
 | .move x | .assign x => k (ρ x) []
 | .pick c a b =>
  match ρ a,ρ b with
  | .one (.bool x),.one (.bool y) => (match ρ c with | .one (.bool v) => k (.one (.bool (bif v then x else y))) [] | _ => none)
  | va,vb => (match ρ c with | .one (.bool true) => k va [] | .one (.bool false) => k vb [] | _ => none)
 | .alloc t => (match dst,E.ti.lookup t with
  | some d,some { ty := some τ,.. } => bif sg.free d then k (.one (.ptr d 0 0)) [(d,.box t τ.zc)] else none
  | _,_ => none)
 | .box t x => (match dst,E.ti.lookup t,(ρ x).cells? with
  | some d,some i,some cs => bif sg.free d && (cs.length == i.sz) then k (.one (.ptr d 0 0)) [(d,.box t cs)] else none
  | _,_,_ => none)
 | .load t a => (match ρ a,E.ti.lookup t with
  | .one p,some i => bif i.sz != 0 then (loadCells sg i.sz p fun cs => (match Cell.ofElem i.agg cs with | some v => k v [] | none => none)) else none
  | _,_ => none)
 | .nilCheck x => (match ρ x with
  | .one (.ptr j i c) => k (.one (.ptr j i c)) []
  | .one (.eptr t x c b) => k (.one (.eptr t x c b)) []
  | .one (.np j i c) => k (.one (.np j i c)) []
  | .one (.fn f cs) => k (.one (.fn f cs)) []
  | .one (.fnp f js) => k (.one (.fnp f js)) []
  | _ => none)
 | .binOp op t x y _ => (match ρ x,ρ y with
  | .one (.bool p),.one (.bool q) => bif I5 E t then (match op with | .eql => k (.one (.bool (p == q))) [] | .neq => k (.one (.bool (!(p == q)))) [] | _ => none) else none
  | .one a,.one b => gQ op a b fun c => k (.one c) []
  | .agg cs,.agg ds => bif E.eqt.contains t then (match E.ti.lookup t with
   | some { td := .struct fs,.. } => (match fg E fs 0 cs ds with
    | some r => (match op with | .eql => k (.one (.bool r)) [] | .neq => k (.one (.bool (!r))) [] | _ => none)
    | none => none)
   | _ => none) else none
  | _,_ => none)
 | .unOp op _ x => (match ρ x with
  | .one a => rG op a fun c => k (.one c) []
  | _ => none)
 | .makeSlice t l c => (match dst,E.ti.lookup t,ρ l,ρ c with
  | some d,some { td := .slice e,.. },.one (.int .i64 n),.one (.int .i64 m) => (match E.ti.lookup e with
   | some { ty := some τ,bytes := by_,.. } => bif sg.free d && by_ != 0 then
     (if 0 <= n then (if n = m then (if n.toNat * by_ <= 140737488351232 then (bif E.nest && (!τ.flat && τ.lY) then k (.one (.nl d)) [(d,.nst e τ (List.replicate n.toNat τ.zero))] else k (.one (.sl d)) [(d,.arr e τ (List.replicate n.toNat τ.zero) false)]) else none) else none) else none) else none
   | _ => none)
  | _,_,_,_ => none)
 | .fieldAddr t x f => (match ρ x,E.ti.lookup t with
  | .one p,some { td := .struct fs,.. } => (match fs[f]? with
   | some (_,off) => (match p with
    | .ptr j i c => k (.one (.ptr j i (c + off))) []
    | .eptr t x c b => k (.one (.eptr t x (c + off) b)) []
    | .np j i c => k (.one (.np j i (c + off))) []
    | _ => none)
   | none => none)
  | _,_ => none)
 | .field t x f => (match ρ x,E.ti.lookup t with
  | .agg cs,some { td := .struct fs,.. } => (match fs[f]? with
   | some (ft,off) => (match E.ti.lookup ft with
    | some i => (match mf off i.sz cs with
     | some cs => (match Cell.ofElem i.agg cs with | some v => k v [] | none => none)
     | none => none)
    | none => none)
   | none => none)
  | _,_ => none)
 | .indexAddr t x i => (match ρ x,ρ i,E.ti.lookup t with
  | .one c,.one (.int _ n),some { td := .slice e,.. } => (match E.ti.lookup e with
   | some ie => gF sg ie.sz c n fun p => k (.one p) []
   | none => none)
  | _,_,_ => none)
 | .index t x i => (match ρ x,ρ i with
  | .one (.str s),.one (.int _ n) => bif NA E t then (if 0 <= n then (match s[n.toNat]? with | some b => k (.one (.int .u8 b.toNat)) [] | none => none) else none) else none
  | _,_ => none)
 | .slice t x lo hi mx => (match mx with
  | none => (match ρ x,E.ti.lookup t,eK ρ lo,eK ρ hi with
   | .one (.str s),some { td := .scal,ty := some .str,.. },some l,some h => e7 s.size l h fun p q => k (.one (.str (s.extract p q))) []
   | .one c,some { td := .slice e,.. },some l,some h => (match E.ti.lookup e with
    | some ie => cQ sg ie.sz c l h fun c => k (.one c) []
    | none => none)
   | _,_,_,_ => none)
  | some _ => none)
 | .convert src dty x => (match ρ x,E.ti.lookup src,E.ti.lookup dty with
  | .one (.int _ n),some _,some { td := .scal,ty := some (.int q),.. } => k (.one (.int q (q.wrap n))) []
  | .one (.int _ n),some _,some { td := .scal,ty := some .str,.. } => k (.one (.str (Utf8.encode n))) []
  | .one c,some { td := .slice e,.. },some { td := .scal,ty := some .str,.. } => (match E.ti.lookup e with
   | some { td := .scal,ty := some (.int .u8),.. } => (match bytesOf sg c with
    | some l => k (.one (.str (strOfNums l))) []
    | none => none)
   | _ => none)
  | .one (.str s),some { td := .scal,ty := some .str,.. },some { td := .slice e,.. } => (match dst,E.ti.lookup e with
   | some d,some { td := .scal,ty := some (.int .u8),.. } => bif sg.free d then (if s.size <= 140737488351232 then k (.one (.sl d)) [(d,.fro e (.int .u8) (sq s) false)] else none) else none
   | _,_ => none)
  | _,_,_ => none)
 | .build t ps => (match E.ti.lookup t with
  | some { td := .struct fs,ty := some τ,.. } => (match gS (placeOf E fs) τ.zc (ps.toList.map fun p => (p.1,ρ p.2)) with
   | some cs => k (.agg cs) []
   | none => none)
  | _ => none)
 | .makeFunc fn first captured => (match fn,first.toList with
  | .func f,[] => (match jf sg ρ captured.toList with
   | some js => k (.one (Kt f js)) []
   | none => none)
  | _,_ => none)
 | .extract x i => (match ρ x with
  | .tup vs => (match vs[i]? with
   | some (g,cs) => (match Cell.ofElem g cs with | some v => k v [] | none => none)
   | none => none)
  | _ => none)
 | .call c => (match c.callee,c.args.toList,c.argTypes.toList with
  | .builtin .len,[x],t :: _ => (match ρ x,E.ti.lookup t with
   | .one (.str s),some { td := .scal,ty := some .str,.. } => k (.one (.int .i64 s.size)) []
   | .one c,some { td := .slice _,.. } => fj sg c fun n => k (.one (.int .i64 n)) []
   | _,_ => none)
  | .builtin .min,[x,y],_ => (match ρ x,ρ y with
   | .one (.int q a),.one (.int q' b) => if q = q' then k (.one (.int q (if b < a then b else a))) [] else none
   | _,_ => none)
  | .builtin .max,[x,y],_ => (match ρ x,ρ y with
   | .one (.int q a),.one (.int q' b) => if q = q' then k (.one (.int q (if b > a then b else a))) [] else none
   | _,_ => none)
  | _,_,_ => none)
 | _ => none
end
end Go.Proofs.YtcddhifkfakcjaaGreat.Lib
namespace Go.Proofs.YtcddhifkfakcjaaGreat.Lib
open Go Go.RowKit
set_option linter.unusedVariables false
def settle (sg : Sig) : List Cell -> Option (Sig × List Cell)
 | [] => some (sg,[])
 | .sl j :: r => (match sg.get j with
  | some (.arr e t l b) => (match settle (sg.put j (.fro e t l b)) r with | some (sg,cs) => some (sg,.emb e t l b :: cs) | none => none)
  | some (.fro e t l b) => (match settle sg r with | some (sg,cs) => some (sg,.emb e t l b :: cs) | none => none)
  | _ => none)
 | .sub j o n :: r => (match sg.get j with
  | some (.arr e t l b) => (match settle (sg.put j (.fro e t l b)) r with | some (sg,cs) => some (sg,.emb e t ((l.drop o).take n) b :: cs) | none => none)
  | some (.fro e t l b) => (match settle sg r with | some (sg,cs) => some (sg,.emb e t ((l.drop o).take n) b :: cs) | none => none)
  | _ => none)
 | c :: r => (match settle sg r with | some (sg,cs) => some (sg,c :: cs) | none => none)
def cm (sg : Sig) : AV -> Option (Sig × AV)
 | .one c => (match settle sg [c] with | some (sg,[c]) => some (sg,.one c) | _ => none)
 | .agg cs => (match settle sg cs with | some (sg,cs) => some (sg,.agg cs) | none => none)
 | .tup vs => some (sg,.tup vs)
def Cell.dn (sg : Sig) : Cell -> Cell
 | .sl j => (match sg.get j with | some (.fro e t l b) => .emb e t l b | _ => .sl j)
 | .sub j o n => (match sg.get j with | some (.fro e t l b) => .emb e t ((l.drop o).take n) b | _ => .sub j o n)
 | c => c
def AV.dn (sg : Sig) : AV -> AV
 | .one c => .one (c.dn sg) | .agg cs => .agg (cs.map (·.dn sg)) | .tup vs => .tup vs
def Blk.dn (sg : Sig) : Blk -> Blk
 | .box t cs => .box t (cs.map (·.dn sg)) | b => b
def SH : Blk -> Bool
 | .fro _ _ _ _ => true | _ => false
def St.dn (s : St) : St := bif s.sg.any (fun q => SH q.2) then ⟨s.sl.map (·.dn s.sg),s.sg.map fun q => (q.1,q.2.dn s.sg)⟩ else s
def yZ (p : SP) (sg : Sig) (v : AV) : Sig × AV :=
 match p,v with
 | .one (.dat _ _),.one (.sl j) => (cm sg (.one (.sl j))).getD (sg,v)
 | .one (.dat _ _),.one (.sub j o n) => (cm sg (.one (.sub j o n))).getD (sg,v)
 | .agg ps,.agg cs => bif cs.any (fun c => match c with | .sl _ | .sub _ _ _ => true | _ => false) && ps.all (fun p => match p with | .dat _ _ => true | _ => false) then (cm sg (.agg cs)).getD (sg,v) else (sg,v)
 | _,v => (sg,v)
def jO : List SP -> Sig -> List AV -> Sig × List AV
 | p :: ps,sg,v :: vs => (match yZ p sg v with
  | (sg,v) => (match jO ps sg vs with | (sg,vs) => (sg,v :: vs)))
 | _,sg,vs => (sg,vs)
def St.GA (ss : List SP) (s : St) : St := match jO ss s.sg s.sl with | (sg,sl) => ⟨sl,sg⟩
def GP.find : List (Nat × GP) -> Nat -> Option GP
 | [],_ => none
 | (i,g) :: r,j => bif i == j then some g else GP.find r j
def eM (sg : Sig) : List (Nat × GP) -> Sig
 | [] => []
 | (j,g) :: r => (match g with
  | .arr e t _ => bif (sg.get j).isNone && Nat.blt j PIN then (j,.arr e t [] false) :: eM sg r else eM sg r
  | .nst e t => bif (sg.get j).isNone && Nat.blt j PIN then (j,.nst e t []) :: eM sg r else eM sg r
  | _ => eM sg r)
def nN (add : Sig) : CP -> Cell -> Cell
 | .own j,.nil => (match add.get j with | some (.arr _ _ _ _) => .sl j | _ => .nil)
 | .nest j,.nil => (match add.get j with | some (.nst _ _ _) => .nl j | _ => .nil)
 | _,c => c
def kj (add : Sig) : List CP -> List Cell -> List Cell
 | [],cs => cs
 | p :: r,cs => (match p with
  | .dat t _ => cs.take t.sz ++ kj add r (cs.drop t.sz)
  | p => (match cs with | c :: cs => nN add p c :: kj add r cs | [] => []))
def pJ (add : Sig) : SP -> AV -> AV
 | .one p,.one c => .one (nN add p c)
 | .agg ps,.agg cs => .agg (kj add ps cs)
 | _,v => v
def iI (add : Sig) : List SP -> List AV -> List AV
 | s :: ss,v :: vs => pJ add s v :: iI add ss vs
 | _,vs => vs
def fh (add : Sig) (gs : List (Nat × GP)) (j : Nat) : Blk -> Blk
 | .box ty cs => (match GP.find gs j with | some (.box _ ps) => .box ty (kj add ps cs) | _ => .box ty cs)
 | b => b
def St.fresh (ss : List SP) (gs : List (Nat × GP)) (st : St) : St :=
 match eM st.sg gs with
 | [] => st
 | q :: r => ⟨iI (q :: r) ss st.sl,(q :: r) ++ st.sg.map fun p => (p.1,fh (q :: r) gs p.1 p.2)⟩
def nodup : List Nat -> Bool
 | [] => true
 | a :: l => !l.contains a && nodup l
def bZ (js : List (Nat × Nat)) : Bool := nodup (js.map (·.1)) && nodup (js.map (·.2))
def look : List (Nat × Nat) -> Nat -> Option Nat
 | [],_ => none
 | (a,b) :: r,j => bif a == j then some b else look r j
def qJ (f : Nat -> Option Nat) : List Nat -> Option (List Nat)
 | [] => some []
 | j :: r => (match f j,qJ f r with | some i,some l => some (i :: l) | _,_ => none)
def Cell.ren (f : Nat -> Option Nat) : Cell -> Cell
 | .sl j => (match f j with | some i => .sl i | none => .und)
 | .sub j o n => (match f j with | some i => .sub i o n | none => .und)
 | .ptr j k c => (match f j with | some i => .ptr i k c | none => .und)
 | .fnp g js => (match qJ f js with | some l => .fnp g l | none => .und)
 | .nl j => (match f j with | some i => .nl i | none => .und)
 | .np j k c => (match f j with | some i => .np i k c | none => .und)
 | .inn j k c => (match f j with | some i => .inn i k c | none => .und)
 | c => c
def AV.ren (f : Nat -> Option Nat) : AV -> AV
 | .one c => .one (c.ren f) | .agg cs => .agg (cs.map (·.ren f)) | .tup vs => .tup (vs.map fun q => (q.1,q.2.map (·.ren f)))
def Blk.ren (f : Nat -> Option Nat) : Blk -> Blk
 | .box t cs => .box t (cs.map (·.ren f)) | b => b
def Sig.sel (f : Nat -> Option Nat) (sg : Sig) : List (Nat × Nat) -> Sig
 | [] => []
 | (j,i) :: r => (match sg.get j with | some b => (i,b.ren f) :: Sig.sel f sg r | none => Sig.sel f sg r)
def Sig.only (p : Nat -> Bool) (sg : Sig) : List Nat -> Sig
 | [] => []
 | j :: r => (match sg.get j with | some b => (j,b.aT p) :: Sig.only p sg r | none => Sig.only p sg r)
def St.pY (m : List Bool) (keep : List Nat) (s : St) : St :=
 let p := fun j => !keep.contains j
 ⟨List.zipWith (fun b (v : AV) => bif b then v.aT p else .one .und) m s.sl,s.sg.only p keep⟩
def St.dead (m : List Bool) (s : St) : St := ⟨List.zipWith (fun b (v : AV) => bif b then v else .one .und) m s.sl,s.sg⟩
def DJ : List AV -> Nat -> List Nat
 | [],_ => []
 | .one (.sub _ o _) :: r,i => (match o with | 0 => i :: DJ r (i + 1) | _ => DJ r (i + 1))
 | _ :: r,i => DJ r (i + 1)
def dt (s : St) (i : Nat) : St :=
 match s.sl[i]? with
 | some (.one (.sub j o n)) => (match o,s.sg.get j with
  | 0,some (.arr e t l b) => bif Nat.blt j PIN then ⟨(s.aQ j).sl.set i (.one (.sl j)),(s.aQ j).sg.put j (.arr e t (l.take n) b)⟩ else s
  | _,_ => s)
 | _ => s
def e9 : List Nat -> St -> St
 | [],s => s
 | i :: r,s => e9 r (dt s i)
def St.Nb (s : St) : St := e9 (DJ s.sl 0) s
def nC : List CP -> List Cell -> List (Nat × Nat)
 | [],_ => []
 | p :: r,cs => (match p with
  | .dat t _ => nC r (cs.drop t.sz)
  | p => (match cs with
   | [] => []
   | c :: cs => (match p,c with
    | .own j,.sl i => (i,j) :: nC r cs
    | .nest j,.nl i => (i,j) :: nC r cs
    | .ptr j _,.ptr i _ _ => (i,j) :: nC r cs
    | .fnp _ js,.fnp _ is => is.zip js ++ nC r cs
    | _,_ => nC r cs)))
def MT : List SP -> List AV -> List (Nat × Nat)
 | p :: ps,v :: vs => (match p,v with
  | .one p,.one c => nC [p] [c]
  | .agg ps,.agg cs => nC ps cs
  | _,_ => []) ++ MT ps vs
 | _,_ => []
def qV : List (Nat × Nat) -> List Nat -> List (Nat × Nat)
 | [],_ => []
 | (j,i) :: r,seen => bif seen.contains j then qV r seen else (j,i) :: qV r (j :: seen)
def J2 : List (Nat × Nat) -> Nat -> Option Nat
 | [],_ => none
 | (i,j') :: r,j => bif j' == j then some i else J2 r j
def HJ (sg : Sig) : List (Nat × GP) -> List (Nat × Nat) -> List (Nat × Nat)
 | [],acc => acc
 | (j,g) :: r,acc => HJ sg r (acc ++ (match g,J2 acc j with
  | .box _ ps,some i => (match sg.get i with | some (.box _ cs) => nC ps cs | _ => [])
  | _,_ => []))
def Cr (sg : Sig) : List (Nat × GP) -> List (Nat × Nat)
 | [] => []
 | (j,_) :: r => bif Nat.ble PIN j && (sg.get j).isSome then (j,j) :: Cr sg r else Cr sg r
def Nh (ss : List SP) (gs : List (Nat × GP)) (s : St) : List (Nat × Nat) := qV (HJ s.sg gs (HJ s.sg gs (MT ss s.sl ++ Cr s.sg gs))) []
def Kr (sg : Sig) (js : List (Nat × Nat)) : Bool := bZ js && (js.all fun q => (sg.get q.1).isSome && (Nat.blt q.2 PIN || q.1 == q.2))
def St.sel (js : List (Nat × Nat)) (s : St) : St := ⟨s.sl.map (·.ren (look js)),s.sg.sel (look js) js⟩
def St.named (ss : List SP) (gs : List (Nat × GP)) (s : St) : St := bif Kr s.sg (Nh ss gs s) then s.sel (Nh ss gs s) else s
def wfB (ss : List SP) (gs : List (Nat × GP)) : Bool :=
 let ok := fun (p : CP) => match p with | .own j | .ptr j _ | .nest j => gs.any (·.1 == j) | .fnp _ js => js.all fun j => gs.any (·.1 == j) | _ => true
 ss.all (fun s => match s with | .und => true | .one p => ok p | .agg ps => ps.all ok) && gs.all (fun g => match g.2 with | .box _ ps => ps.all ok | _ => true)
def SP.fb : SP -> Bool
 | .und => false | _ => true
def rowsOf : List Cell -> List Nat
 | [] => []
 | .sl j :: r => j :: rowsOf r
 | .sub j _ _ :: r => j :: rowsOf r
 | _ :: r => rowsOf r
def wq : List CP -> List Cell -> List Nat
 | [],_ => []
 | .dat t _ :: r,cs => rowsOf (cs.take t.sz) ++ wq r (cs.drop t.sz)
 | _ :: r,cs => wq r cs.tail
def P6 : List (Nat × GP) -> Nat -> Option GP
 | [],_ => none
 | (j,g) :: r,i => bif j == i then some g else P6 r i
def HV (gs : List (Nat × GP)) (sg : Sig) : List SP -> List AV -> List Nat
 | p :: ps,v :: vs => (match p,v with
  | .one (.ptr i _),.one (.ptr j _ _) => (match P6 gs i,sg.get j with | some (.box _ qs),some (.box _ cs) => wq qs cs | _,_ => [])
  | _,_ => []) ++ HV gs sg ps vs
 | _,_ => []
def dk : List Nat -> Sig -> Sig
 | [],sg => sg
 | j :: r,sg => (match sg.get j with | some (.arr e t l b) => dk r (sg.put j (.fro e t l b)) | _ => dk r sg)
def St.Av (ss : List SP) (gs : List (Nat × GP)) (s : St) : St :=
 match HV gs s.sg ss s.sl with
 | [] => s
 | j :: r => St.dn ⟨s.sl,dk (j :: r) s.sg⟩
def St.V8 (ss : List SP) (gs : List (Nat × GP)) (s : St) : St := St.fresh ss gs (St.named ss gs ((((s.dead (ss.map (·.fb))).Nb.dn).GA ss).Av ss gs))
def sF (ss : List SP) (gs : List (Nat × GP)) (s : St) : Option (StT ss gs) :=
 match jH ss gs s with
 | some v => some v
 | none => bif ss.length == s.sl.length then jH ss gs (s.V8 ss gs) else none
def St.norm (ss : List SP) (gs : List (Nat × GP)) (s : St) : St :=
 bif wfB ss gs then (match sF ss gs s with
  | some v => ar ss gs v
  | none => s) else s
def bR (sg : Sig) : List (Nat × AV) -> Option (Sig × List (Nat × AV))
 | [] => some (sg,[])
 | (i,v) :: r => (match cm sg v with
  | some (sg,v) => (match bR sg r with | some (sg,ps) => some (sg,(i,v) :: ps) | none => none)
  | none => none)
def rowOf (t : Ty) (sg : Sig) : Cell -> Option (List t.T × Bool)
 | .nil | .cap0 => some ([],false)
 | .emb _ t' l b => if h : t' = t then some (h ▸ l,b) else none
 | .sl j => (match sg.get j with
  | some (.arr _ t' l b) => if h : t' = t then some (h ▸ l,b) else none
  | some (.fro _ t' l b) => if h : t' = t then some (h ▸ l,b) else none
  | _ => none)
 | .sub j o n => (match sg.get j with
  | some (.arr _ t' l b) => if h : t' = t then some (((h ▸ l : List t.T).drop o).take n,b) else none
  | some (.fro _ t' l b) => if h : t' = t then some (((h ▸ l : List t.T).drop o).take n,b) else none
  | _ => none)
 | _ => none
def dI (E : Env) (sg : Sig) : List Nat -> Option (List ((t : Ty) × t.T))
 | [] => some []
 | j :: r => (match sg.get j with
  | some (.box ty cs) => (match E.ti.lookup ty with
   | some { ty := some τ,.. } => (match τ.read true cs with
    | some x => (match dI E sg r with | some l => some (⟨τ,x⟩ :: l) | none => none)
    | none => none)
   | _ => none)
  | _ => none)
def dX (E : Env) (sg : Sig) : Cell -> Option (Cell × Bool)
 | .sl j => (match sg.get j with
  | some (.arr e t l b) => some (.emb e t l true,true)
  | some (.fro e t l b) => some (.emb e t l b,false)
  | _ => none)
 | .sub j o n => (match sg.get j with
  | some (.arr e t l b) => some (.emb e t ((l.drop o).take n) true,true)
  | some (.fro e t l b) => some (.emb e t ((l.drop o).take n) b,false)
  | _ => none)
 | .fnp f js => (match dI E sg js with | some l => some (.fn f l,true) | none => none)
 | .nl j => (match sg.get j with
  | some (.nst e t l) => some (.emb e t l true,true)
  | _ => none)
 | .inn j i k => some (.inn j i k,true)
 | .ptr _ _ _ | .np _ _ _ | .und => none
 | c => some (c,false)
def cE (E : Env) (sg : Sig) : List Cell -> Option (List Cell × Bool)
 | [] => some ([],false)
 | c :: r => (match dX E sg c with
  | some (c,u) => (match cE E sg r with | some (cs,u') => some (c :: cs,u || u') | none => none)
  | none => none)
def wC (E : Env) (sg : Sig) : AV -> Option (AV × Bool)
 | .one c => (match dX E sg c with | some (c,u) => some (.one c,u) | none => none)
 | .agg cs => (match cE E sg cs with | some (cs,u) => some (.agg cs,u) | none => none)
 | .tup _ => none
def dj (E : Env) (sg : Sig) : List AV -> Option (List AV × Bool)
 | [] => some ([],false)
 | v :: r => (match wC E sg v with
  | some (v,u) => (match dj E sg r with | some (vs,u') => some (v :: vs,u || u') | none => none)
  | none => none)
section
variable {R : Type}
def Cell.p8 : Cell -> Bool
 | .inn _ _ _ => true | _ => false
def eb (sg : Sig) (c : Cell) (k : Cell -> Option R) : Option R :=
 match c with
 | .inn j i n => (match sg.get j with
  | some (.nst _ t l) => (match l[i]? with
   | some x => (match t.rowAt x n with | some q => k (.emb q.1.1 q.1.2 q.2 true) | none => none)
   | none => none)
  | _ => none)
 | c => k c
def df (sg : Sig) : List Cell -> (List Cell -> Option R) -> Option R
 | [],k => k []
 | c :: r,k => eb sg c fun c => df sg r fun cs => k (c :: cs)
def ln (sg : Sig) : AV -> (AV -> Option R) -> Option R
 | .one c,k => eb sg c fun c => k (.one c)
 | .agg cs,k => df sg cs fun cs => k (.agg cs)
 | .tup _,_ => none
def eY (sg : Sig) : List AV -> (List AV -> Option R) -> Option R
 | [],k => k []
 | v :: r,k => ln sg v fun v => eY sg r fun vs => k (v :: vs)
end
def Cell.dT : Cell -> Bool
 | .emb _ _ _ b => !b | .eptr _ _ _ b => !b | .fn _ caps => caps.isEmpty | _ => true
def AV.dT : AV -> Bool
 | .one c => c.dT | .agg cs => cs.all (·.dT) | .tup vs => vs.all (·.2.all (·.dT))
def Blk.dT : Blk -> Bool
 | .arr _ _ _ b => !b | .fro _ _ _ b => !b | .box _ cs => cs.all (·.dT) | .nst _ _ _ => true
def Cell.shift (d : Nat) : Cell -> Cell
 | .sl j => .sl (j + d) | .sub j o n => .sub (j + d) o n | .ptr j i c => .ptr (j + d) i c | .fnp f js => .fnp f (js.map (· + d)) | .nl j => .nl (j + d) | .np j i c => .np (j + d) i c | .inn j i k => .inn (j + d) i k | c => c
def AV.shift (d : Nat) : AV -> AV
 | .one c => .one (c.shift d) | .agg cs => .agg (cs.map (·.shift d)) | .tup vs => .tup (vs.map fun q => (q.1,q.2.map (·.shift d)))
def Blk.shift (d : Nat) : Blk -> Blk
 | .box t cs => .box t (cs.map (·.shift d)) | b => b
def Sig.shift (d : Nat) (sg : Sig) : Sig := sg.map fun q => (q.1 + d,q.2.shift d)
def Cell.BG : Cell -> Bool
 | .sl _ => false | .sub _ _ _ => false | .ptr _ _ _ => false | .fnp _ _ => false | .nl _ => false | .np _ _ _ => false | .inn _ _ _ => false | .und => false | _ => true
def Blk.Qp : Blk -> Bool
 | .arr _ _ _ _ => true | .nst _ _ _ => true | _ => false
def eF (sg : Sig) : List Cell -> Nat -> Option (List Cell × Sig × List (Nat × Nat))
 | [],_ => some ([],[],[])
 | c :: r,n => (match eF sg r (n + 1) with
  | some (cs,out,js) => (match c with
   | .sl j => (match sg.get j with
    | some (.arr e t l b) => some (.sl (4096 * (n + 1)) :: cs,(4096 * (n + 1),.arr e t l b) :: out,(4096 * (n + 1),j) :: js)
    | some (.fro e t l b) => some (.emb e t l b :: cs,out,js)
    | _ => none)
   | .sub j o m => (match sg.get j with
    | some (.fro e t l b) => some (.emb e t ((l.drop o).take m) b :: cs,out,js)
    | _ => none)
   | .ptr j i o => (match sg.get j with
    | some (.box ty bs) => bif i == 0 && (o == 0 && bs.all (·.BG)) then some (.ptr (4096 * (n + 1)) 0 0 :: cs,(4096 * (n + 1),.box ty bs) :: out,(4096 * (n + 1),j) :: js) else none
    | _ => none)
   | .nl j => (match sg.get j with
    | some (.nst e t l) => some (.nl (4096 * (n + 1)) :: cs,(4096 * (n + 1),.nst e t l) :: out,(4096 * (n + 1),j) :: js)
    | _ => none)
   | .fnp _ _ | .np _ _ _ | .inn _ _ _ | .und => none
   | c => some (c :: cs,out,js))
  | none => none)
def iO : AV -> Option (Bool × List Cell)
 | .one c => some (false,[c]) | .agg cs => some (true,cs) | .tup _ => none
def gN (sg : Sig) : List AV -> Nat -> Option (List (Bool × List Cell) × Sig × List (Nat × Nat))
 | [],_ => some ([],[],[])
 | v :: r,n => (match iO v with
  | some (g,cs) => (match eF sg cs n,gN sg r (n + cs.length) with
   | some (cs,out,js),some (vs,out',js') => some ((g,cs) :: vs,out ++ out',js ++ js')
   | _,_ => none)
  | none => none)
def rf (sg : Sig) : List AV -> Option (AV × Sig)
 | [v] => (match iO v with
  | some (g,cs) => (match eF sg cs 0 with
   | some (cs,out,js) => bif bZ js then (match Cell.ofElem g cs with | some v => some (v,out) | none => none) else none
   | none => none)
  | none => none)
 | vs => (match gN sg vs 0 with
  | some (ps,out,js) => bif bZ js then some (.tup ps,out) else none
  | none => none)
def Cell.plain : Cell -> Bool
 | .int _ _ | .bool _ | .str _ => true | _ => false
def AV.plain : AV -> Bool
 | .one c => c.plain | .agg cs => cs.all (·.plain) | .tup _ => false
def zN : Bool × List Cell -> AV
 | (true,cs) => .agg cs
 | (false,cs) => oneOf cs
def cK : List (Nat × Nat) -> Nat -> Option Nat
 | [],_ => none
 | (i,j') :: r,j => bif j' == j then some i else cK r j
def jA (js : List (Nat × Nat)) (upd : Sig) (j : Nat) : Option Blk :=
 match cK js j with
 | some i => upd.get i
 | none => none
def jT (js : List (Nat × Nat)) (upd : Sig) : Sig -> Sig
 | [] => []
 | (j,b) :: r => (j,(match jA js upd j with | some b' => b' | none => b)) :: jT js upd r
def kept (sg' : Sig) : Sig -> Option Sig
 | [] => some []
 | (i,b) :: r => (match b,sg'.get i with
  | .arr _ _ _ _,some (.arr e t l q) => bif t.flat && Nat.ble PIN i then (match kept sg' r with | some out => some ((i,.arr e t l q) :: out) | none => none) else none
  | .nst _ _ _,some (.nst e t l) => bif Nat.ble PIN i then (match kept sg' r with | some out => some ((i,.nst e t l) :: out) | none => none) else none
  | _,_ => none)
def C3 (E : Env) : Operand -> Option Mrk
 | .func g => E.mark.lookup g
 | _ => none
def Cell.boxes : Cell -> List Nat
 | .ptr j _ _ => [j] | .fnp _ js => js | _ => []
def AV.all : AV -> List Cell
 | .one c => [c] | .agg cs => cs | .tup vs => vs.flatMap (·.2)
def m7 (sg : Sig) : Nat -> List Nat -> List Nat -> List Nat
 | 0,_,acc => acc
 | n + 1,todo,acc => (match todo with
  | [] => acc
  | j :: t => bif acc.contains j then m7 sg n t acc else (match sg.get j with
   | some (.box _ cs) => m7 sg n (cs.flatMap Cell.boxes ++ t) (acc ++ [j])
   | _ => m7 sg n t acc))
def gb : Nat -> List Cell -> List (Nat × Nat)
 | _,[] => []
 | n,c :: r => (match c with
  | .sl j => (j,4096 * n) :: gb (n + 1) r
  | .sub j _ _ => (j,4096 * n) :: gb (n + 1) r
  | .nl j => (j,4096 * n) :: gb (n + 1) r
  | _ => gb (n + 1) r)
def Tr (j k : Nat) : Nat := bif Nat.ble PIN j then j - PIN else 32 + k
def zg (sg : Sig) (ix : Nat -> Nat -> Nat) : List Nat -> Nat -> List (Nat × Nat)
 | [],_ => []
 | j :: r,k => (match sg.get j with | some (.box _ cs) => gb (4096 + 64 * ix j k) cs | _ => []) ++ zg sg ix r (k + 1)
def sW (nm : Nat -> Nat -> Nat) : List Nat -> Nat -> List (Nat × Nat)
 | [],_ => []
 | j :: r,k => (j,nm j k) :: sW nm r (k + 1)
def Mj (sg : Sig) (js : List (Nat × Nat)) : Bool := bZ js && js.all fun q => (sg.get q.1).isSome
def Fl (sg : Sig) (args : List AV) : List (Nat × Nat) :=
 let bs := m7 sg 64 ((args.flatMap AV.all).flatMap Cell.boxes) []
 sW (fun _ k => PIN + k) bs 0 ++ qV (zg sg (fun _ k => k) bs 0 ++ gb 10240 (args.flatMap AV.all)) []
def Eh (sg : Sig) (given : List Nat) (vs : List AV) : List (Nat × Nat) :=
 let bs := m7 sg 64 (given ++ (vs.flatMap AV.all).flatMap Cell.boxes) []
 sW (fun j k => bif Nat.ble PIN j then j else 4096 * (9216 + k)) bs 0 ++ qV (zg sg Tr bs 0 ++ gb 8192 (vs.flatMap AV.all)) []
def nD (sg : Sig) : List Bool -> List AV -> Option (Sig × List AV)
 | _,[] => some (sg,[])
 | hs,v :: r => (match (match hs with | true :: _ => some (sg,v) | _ => cm sg v) with
  | some (sg,v) => (match nD sg hs.tail r with | some (sg,vs) => some (sg,v :: vs) | none => none)
  | none => none)
def gone (js : List (Nat × Nat)) (j : Nat) : Bool := match look js j with | some i => Nat.blt i PIN | none => false
def fS (js : List (Nat × Nat)) : Sig -> Sig
 | [] => []
 | (j,b) :: r => bif (look js j).isSome then fS js r else (j,b.aT (gone js)) :: fS js r
def xf (js : List (Nat × Nat)) (d : Nat) (fin : Sig) : List (Nat × Nat) := fin.map fun q => (q.1,match cK js q.1 with | some j => j | none => q.1 + d)
def JY : List AV -> Option AV
 | [] => some (.tup [])
 | [v] => (match iO v with | some p => some (zN p) | none => none)
 | vs => (match vs.mapM iO with | some ps => some (.tup ps) | none => none)
section
variable {R : Type}
def Ec (sg : Sig) (m : Gen) (args : List AV) : Option (Sig × List (Nat × Nat) × StT m.ss m.gs) :=
 match nD sg m.hand args with
 | some (sg1,args1) =>
  let js := Fl sg1 args1
  bif Mj sg1 js then (match jH m.ss m.gs (St.fresh m.ss m.gs (St.dn ⟨args1.map (·.ren (look js)),Sig.sel (look js) sg1 js⟩)) with
   | some v => some (sg1,js,v)
   | none => none) else none
 | none => none
def iN (sl : List AV) (sg1 : Sig) (js : List (Nat × Nat)) (dst : Option Nat) (res : AV) (fin : Sig) (k : St -> Option R) : Option R :=
 let ks := xf js (dst.getD 0) fin
 let sr := fS js sg1
 bif bZ ks && (ks.all (fun q => (sr.get q.2).isNone && (bif Nat.ble PIN q.1 then (cK js q.1).isSome else Nat.blt q.2 PIN)) && js.all (fun q => Nat.blt q.2 PIN || (fin.get q.2).isSome)) then
  k (St.put dst (res.ren (look ks)) ⟨sl.map (·.aT (gone js)),Sig.sel (look ks) fin ks ++ sr⟩) else none
def iJ (sg : Sig) (args : List AV) (g : FuncId) : List (FuncId × Gen) -> Option ((m : Gen) × (Sig × List (Nat × Nat) × StT m.ss m.gs))
 | [] => none
 | (f,m) :: r => bif f == g then (match Ec sg m args with | some q => some ⟨m,q⟩ | none => iJ sg args g r) else iJ sg args g r
def kc (E : Env) (st : St) (dst : Option Nat) (f : AV) (args : List AV) (k : St -> Option R) (other : Option R) : Option R :=
 match f with
 | .one (.fn g []) => (match iJ st.sg args g E.gen with
  | some q => (q.1.F q.2.2.2).run fun x => iN st.sl q.2.1 q.2.2.1 dst x.1 x.2 k
  | none => other)
 | .one (.fnp g js) => (match iJ st.sg (args ++ js.map fun j => .one (.ptr j 0 0)) g E.gen with
  | some q => (q.1.F q.2.2.2).run fun x => iN st.sl q.2.1 q.2.2.1 dst x.1 x.2 k
  | none => other)
 | _ => other
end
section
variable {R : Type}
def Cell.bX (p : Nat -> Bool) (j : Nat) : Cell -> Cell
 | .inn j' i k => bif j' == j then .und else Cell.aT p (.inn j' i k)
 | c => c.aT p
def AV.bX (p : Nat -> Bool) (j : Nat) : AV -> AV
 | .one c => .one (c.bX p j) | .agg cs => .agg (cs.map (·.bX p j)) | .tup vs => .tup (vs.map fun q => (q.1,q.2.map (·.bX p j)))
def Blk.bX (p : Nat -> Bool) (j : Nat) : Blk -> Blk
 | .box t cs => .box t (cs.map (·.bX p j)) | b => b
def Sig.bX (p : Nat -> Bool) (j : Nat) : Sig -> Sig
 | [] => []
 | (i,b) :: r => bif p i then Sig.bX p j r else (i,b.bX p j) :: Sig.bX p j r
def St.bX (ms : List Nat) (j : Nat) (b : Blk) (s : St) : St := ⟨s.sl.map (·.bX (ms.contains ·) j),(s.sg.bX (ms.contains ·) j).put j b⟩
def kP (st : St) (n : Nat) (j i c : Nat) (cs : List Cell) (k : St -> Option R) : Option R :=
 match st.sg.get j with
 | some (.nst e τ l) => (match l[i]? with
  | some x => bif Nat.ble (c + n) τ.sz then
   (match τ.iv x c cs with
   | some (y,_,[]) => k ⟨st.sl,st.sg.put j (.nst e τ (l.set i y))⟩
   | _ => (match c,τ.takeN st.sg cs with
    | 0,some (y,[],ms) => bif (n == τ.sz) && (nodup ms && Nat.blt j PIN) then k (st.bX ms j (.nst e τ (l.set i y))) else none
    | _,_ => none)) else none
  | none => none)
 | _ => none
def lO (E : Env) (st : St) (t : TypeId) (p v : AV) (k : St -> Option R) : Option R :=
 match p,v.cells?,E.ti.lookup t with
 | .one (.ptr j i c),some cs,some ti => bif cs.length == ti.sz then (match st.sg.get j with
  | some (.box ty old) => (match i with
   | 0 => bif Nat.ble (c + ti.sz) old.length then k ⟨st.sl,st.sg.put j (.box ty (old.take c ++ cs ++ old.drop (c + ti.sz)))⟩ else none
   | _ => none)
  | some (.arr e τ l b) => (match settle st.sg cs with
   | some (sg,cs) => (match sg.get j with
    | some (.arr _ _ _ _) => (match l[i]? with
     | some x => bif Nat.ble (c + ti.sz) τ.sz then
      (match τ.read b ((τ.cells b x).take c ++ cs ++ (τ.cells b x).drop (c + ti.sz)) with
      | some y => k ⟨st.sl,sg.put j (.arr e τ (l.set i y) b)⟩
      | none => (match τ.read true ((τ.cells b x).take c ++ cs ++ (τ.cells b x).drop (c + ti.sz)) with
       | some y => k ⟨st.sl,sg.put j (.arr e τ (l.set i y) true)⟩
       | none => none)) else none
     | none => none)
    | _ => none)
   | none => none)
  | _ => none) else none
 | .one (.np j i c),some cs,some ti => bif cs.length == ti.sz then kP st ti.sz j i c cs k else none
 | _,_,_ => none
def target (st : St) (d : Nat) (e : TypeId) : Cell -> Option Nat
 | .nil | .cap0 => bif st.sg.free d then some d else none
 | .sl j => (match st.sg.get j with | some (.arr e' _ _ _) => bif e' == e && Nat.blt j PIN then some j else none | _ => none)
 | .sub j o _ => (match o,st.sg.get j with | 0,some (.arr e' _ _ _) => bif e' == e && Nat.blt j PIN then some j else none | _,_ => none)
 | _ => none
def gZ (E : Env) (st : St) (d : Nat) (e : TypeId) (τ : Ty) (by_ : Nat) (j j' : Nat) (k : St -> Option R) : Option R :=
 match st.sg.get j,st.sg.get j' with
 | some (.nst e1 τ1 l),some (.nst e2 τ2 m) => if h : τ1 = τ then (if h' : τ2 = τ then (bif (e1 == e) && ((e2 == e) && ((Nat.blt j PIN && Nat.blt j' PIN) && ((!(j' == j)) && by_ != 0))) then
    (if ((h ▸ l : List τ.T) ++ (h' ▸ m : List τ.T)).length * by_ <= 140737488351232 then
     k ((((st.aQ j).bX [j'] j (.nst e τ ((h ▸ l : List τ.T) ++ (h' ▸ m : List τ.T))))).put (some d) (.one (.nl j))) else none) else none) else none) else none
 | _,_ => none
def je (E : Env) (st : St) (dst : Option Nat) (t : TypeId) (s x : AV) (k : St -> Option R) : Option R :=
 match E.ti.lookup t,dst,s,x with
 | some { td := .slice e,.. },some d,.one s,.one x => (match E.ti.lookup e with
  | some { ty := some τ,bytes := by_,.. } => (match s,x with
   | .nl j,.nl j' => gZ E st d e τ by_ j j' k
   | s,x => (match rowOf τ st.sg s,rowOf τ st.sg x with
   | some (l,b),some (m,b') =>
    (match target st d e s with
    | some j => if (l ++ m).length * by_ <= 140737488351232 then bif by_ != 0 then
      k ((⟨(st.aQ j).sl,(st.aQ j).sg.put j (.arr e τ (l ++ m) (b || (b' && !τ.flat)))⟩ : St).put (some d) (.one (.sl j))) else none else none
    | none => none)
   | _,_ => none))
  | _ => none)
 | _,_,_,_ => none
abbrev aJ := FuncId -> List AV -> Sig -> Option (AV × Sig)
def jm (args : List AV) (g : FuncId) : List (FuncId × Prim) -> Option (aL (AV × Sig))
 | [] => none
 | (f,p) :: r => bif f == g then (match SPs.cap p.ss args (some ()) with | some v => some (p.F v) | none => jm args g r) else jm args g r
def Kf (E : Env) (call : aJ) (g : FuncId) (args : List AV) (k : AV × Sig -> Option R) : Option R :=
 match jm args g E.prim with
 | some o => o.run k
 | none => (call g args []).bind k
def fe (E : Env) (call : aJ) (st : St) (dst : Option Nat) (f : AV) (args : List AV) (k : St -> Option R) : Option R :=
 match f with
 | .one (.fn g caps) => (match dj E st.sg args with
  | some (args,own) => eY st.sg args fun args => Kf E call g (args ++ caps.map fun c => .one (.eptr c.1 c.2 0 true)) fun r =>
   bif !own || (r.1.dT && r.2.all (·.2.dT)) then (match dst with
    | some d => bif r.2.all (fun q => st.sg.free (q.1 + d)) then k ⟨st.sl.set d (r.1.shift d),r.2.shift d ++ st.sg⟩ else none
    | none => k st) else none
  | none => none)
 | _ => none
def gw (st : St) (dst : Option Nat) (m : Mrk) (args : List AV) (k : St -> Option R) : Option R :=
 match gN st.sg args 1048576 with
 | some (ps,out,js) => bif bZ js && out.all (·.2.Qp) then (match jH m.ss m.gs ⟨ps.map zN,out⟩ with
  | some v => (m.F v).run fun r => bif r.1.plain && js.all (fun q => (r.2.get q.1).isSome) then k (St.put dst r.1 ⟨st.sl,jT js r.2 st.sg⟩) else none
  | none => none) else none
 | none => none
def il (st : St) (dst : Option Nat) (m : Mrk) (j i k0 : Nat) (rest : List AV) (k : St -> Option R) : Option R :=
 match st.sg.get j with
 | some (.nst e t l) => (match l[i]? with
  | some x => (match t.rowAt x k0 with
   | some q => bif rest.all (·.plain) then (match jH m.ss m.gs ⟨.one (.sl 4294971392) :: rest,[(4294971392,.arr q.1.1 q.1.2 q.2 false)]⟩ with
    | some v => (m.F v).run fun r => bif r.1.plain then (match r.2.get 4294971392 with
     | some (.arr e2 t2 l2 _) => if h : t2 = q.1.2 then (bif e2 == q.1.1 then (match t.setRow x k0 ⟨q.1,h ▸ l2⟩ with
      | some y => k (St.put dst r.1 ⟨st.sl,st.sg.put j (.nst e t (l.set i y))⟩)
      | none => none) else none) else none
     | _ => none) else none
    | none => none) else none
   | none => none)
  | none => none)
 | _ => none
def gX (st : St) (dst : Option Nat) (m : Mrk) (args : List AV) (k : St -> Option R) : Option R :=
 match args with
 | [] => gw st dst m [] k
 | .one c :: rest => (match c with
  | .inn j i k0 => il st dst m j i k0 rest k
  | c => gw st dst m (.one c :: rest) k)
 | v :: rest => gw st dst m (v :: rest) k
def iq (sg : Sig) (t : Ty) : List (Nat × AV) -> Nat -> Option (List t.T × List Nat)
 | [],_ => some ([],[])
 | (i,v) :: r,n => bif i == n then (match v.cells? with
  | some cs => (match t.takeN sg cs with
   | some (x,[],ms) => (match iq sg t r (n + 1) with | some (xs,ms') => some (x :: xs,ms ++ ms') | none => none)
   | _ => none)
  | none => none) else none
def gq (E : Env) (st : St) (dst : Option Nat) (t : TypeId) (n : Nat) (ps : List (Nat × AV)) (k : St -> Option R) (other : Option R) : Option R :=
 match E.nest with
 | false => other
 | true => (match dst,E.ti.lookup t with
  | some d,some { td := .slice e,.. } => (match E.ti.lookup e with
   | some { ty := some τ,.. } => bif !τ.flat && τ.lY then (match iq st.sg τ ps 0 with
     | some (l,ms) => bif (st.sg.free d && (n == ps.length)) && (Nat.ble (n * τ.sz) 16777216 && nodup ms) then k ((st.bX ms d (.nst e τ l)).put (some d) (.one (.nl d))) else other
     | none => other) else other
   | _ => other)
  | _,_ => other)
def nS (E : Env) (st : St) (t : TypeId) (x : AV) (k : St -> Option R) : Option R :=
 match x,E.ti.lookup t with
 | .one (.sub j o n),some { td := .slice e,.. } => (match st.sg.get j,E.ti.lookup e with
  | some (.arr e' τ l b),some { ty := some τ',.. } => if τ' = τ then k ⟨st.sl,st.sg.put j (.arr e' τ (l.take o ++ List.replicate n τ.zero ++ l.drop (o + n)) b)⟩ else none
  | _,_ => none)
 | _,_ => none
def exec (E : Env) (call : aJ) (o : Oper) (st : St) (k : St -> Option R) : Option R :=
 match o.op with
 | .store t a v => lO E st t (au st.sl a) (au st.sl v) fun st => k (st.put o.dst (.one .und))
 | .call c => (match c.callee,c.args.toList,c.argTypes.toList with
  | .builtin .append,[s,x],[t,t'] => bif t' == t then je E st o.dst t (au st.sl s) (au st.sl x) k else none
  | .builtin .clear,[x],[t] => nS E st t (au st.sl x) fun st => k (St.put o.dst (.tup []) st)
  | .value f,args,_ => (match C3 E f with
   | some m => gX st o.dst m (args.map (au st.sl)) k
   | none => (match E.gen with
    | [] => fe E call st o.dst (au st.sl f) (args.map (au st.sl)) k
    | _ :: _ => kc E st o.dst (au st.sl f) (args.map (au st.sl)) k (fe E call st o.dst (au st.sl f) (args.map (au st.sl)) k)))
  | _,_,_ => qop E st.sg (au st.sl) o.dst o.op fun v add => k (St.put o.dst v ⟨st.sl,add ++ st.sg⟩))
 | .buildSlice t n ps => gq E st o.dst t n (ps.toList.map fun p => (p.1,au st.sl p.2)) k (match bR st.sg (ps.toList.map fun p => (p.1,au st.sl p.2)) with
  | some (sg,ps') => (match o.dst,E.ti.lookup t with
   | some d,some { td := .slice e,.. } => (match E.ti.lookup e with
    | some { ty := some τ,.. } => bif sg.free d && (n == ps'.length) && Nat.ble (n * τ.sz) 16777216 then
      (match bB false τ ps' 0 with
      | some l => k ⟨st.sl.set d (.one (.sl d)),(d,.arr e τ l false) :: sg⟩
      | none => (match bB true τ ps' 0 with
       | some l => k ⟨st.sl.set d (.one (.sl d)),(d,.arr e τ l true) :: sg⟩
       | none => none)) else none
    | _ => none)
   | _,_ => none)
  | none => none)
 | op => qop E st.sg (au st.sl) o.dst op fun v add => k (St.put o.dst v ⟨st.sl,add ++ st.sg⟩)
def aW (E : Env) (call : aJ) (all : List Oper) : List Oper -> St -> (St -> Option R) -> Option R
 | [],st,k => k st
 | o :: r,st,k =>
  match o.guard with
  | none => exec E call o st fun st => aW E call all r st k
  | some (j,want) => (match (all[j]?).bind (·.dst) with
   | some t => (match st.sl[t]? with
    | some (.one (.bool v)) => (match v with
     | true => bif want then exec E call o (st.put (some t) (.one (.bool true))) (fun st => aW E call all r st k) else aW E call all r ((st.put (some t) (.one (.bool true))).put o.dst (.tup [])) k
     | false => bif want then aW E call all r ((st.put (some t) (.one (.bool false))).put o.dst (.tup [])) k else exec E call o (st.put (some t) (.one (.bool false))) (fun st => aW E call all r st k))
    | some (.tup []) => aW E call all r (st.put o.dst (.tup [])) k
    | _ => none)
   | none => none)
def AV.fb : AV -> Bool
 | .one .und => false | _ => true
def St.mask (m : List Bool) (keep : List Nat) (s : St) : St := ((s.dead m).Nb.dn).pY m keep
def mI (sl : List AV) : List ResultVar -> List Nat
 | [] => []
 | .tmp t :: r => (match sl.getD t (.one .und) with | .one (.sub _ 0 _) => t :: mI sl r | _ => mI sl r)
 | .cell _ _ :: r => mI sl r
def kC (s : St) (d q : Nat) : St :=
 match s.sg.get d with
 | some (.box _ cs) => (match cs[q]? with
  | some (.sub j o n) => (match o,s.sg.get j with
   | 0,some (.arr e t l b) => bif Nat.blt j PIN then (match (s.aQ j).sg.get d with
    | some (.box ty cs') => ⟨(s.aQ j).sl,((s.aQ j).sg.put j (.arr e t (l.take n) b)).put d (.box ty (cs'.set q (.sl j)))⟩
    | _ => s) else s
   | _,_ => s)
  | _ => s)
 | _ => s
def eI (d : Nat) : Nat -> St -> St
 | 0,s => s
 | k + 1,s => kC (eI d k s) d k
def cG : List ResultVar -> St -> St
 | [],s => s
 | .tmp _ :: r,s => cG r s
 | .cell t _ :: r,s => (match s.sl.getD t (.one .und) with
  | .one (.ptr d 0 0) => (match s.sg.get d with
   | some (.box _ cs) => cG r (eI d cs.length s)
   | _ => cG r s)
  | _ => cG r s)
def St.ends (fn : Func) (s : St) : St := cG fn.results.toList (e9 (mI s.sl fn.results.toList) s)
inductive Nz where
 | mask (m : List Bool) (keep : List Nat) | norm (ss : List SP) (gs : List (Nat × GP)) | two (ss : List SP) (gs : List (Nat × GP)) (sx : List SP) (gx : List (Nat × GP))
def Nz.len : Nz -> Nat
 | .mask m _ => m.length | .norm ss _ => ss.length | .two ss _ _ _ => ss.length
def Nz.run : Nz -> St -> St
 | .mask m keep,s => s.mask m keep | .norm ss gs,s => s.norm ss gs | .two ss gs _ _,s => s.norm ss gs
def Nz.out : Nz -> St -> St
 | .mask m keep,s => s.mask m keep | .norm ss gs,s => s.norm ss gs | .two _ _ sx gx,s => s.norm sx gx
def dV (body : St -> (Ex -> St -> Option R) -> Option R) (z : Nz) : Nat -> St -> (Ex -> St -> Option R) -> Option R
 | 0,_,_ => none
 | n + 1,st,k => body st fun e st => bif st.sl.length == z.len then (match e with
  | .normal => dV body z n (z.run st) k
  | .exit id => k (.exit id) (z.run st)
  | .ret => k .ret (z.out st)) else none
def ca (E : Env) (call : aJ) (draw : Env -> aJ -> List Oper -> St -> Bool) (fuel : Nat) : Code -> LT -> St -> (Ex -> St -> Option R) -> Option R
 | .skip,_,st,k => k .normal st
 | .label _,_,st,k => k .normal st
 | .region _ ops d,lt,st,k => (match lt with
  | .sum ss gs F => (match sF ss gs st with
   | some v => (F v).run fun q => k q.1 q.2
   | none => none)
  | _ => bif !d || draw E call ops.toList st then aW E call ops.toList ops.toList st (k .normal) else none)
 | .seq a b,lt,st,k => ca E call draw fuel a lt.l st fun e st => match e with
  | .normal => ca E call draw fuel b lt.r st k
  | e => k e st
 | .cond c a b,lt,st,k => (match lt with
  | .sum ss gs F => (match sF ss gs st with
   | some v => (F v).run fun q => k q.1 q.2
   | none => none)
  | lt => (match au st.sl c with
   | .one (.bool v) => (match v with
    | true => ca E call draw fuel a lt.l st k
    | false => ca E call draw fuel b lt.r st k)
   | _ => none))
 | .block id b,lt,st,k => ca E call draw fuel b lt.l st fun e st => match e with
  | .exit i => bif i == id then k .normal st else k (.exit i) st
  | e => k e st
 | .loop b,lt,st,k => (match lt with
  | .sum ss gs F => (match sF ss gs st with
   | some v => (F v).run fun q => k q.1 q.2
   | none => none)
  | lt => dV (ca E call draw fuel b lt.l) (.mask (st.sl.map (·.fb)) (st.sg.map (·.1))) fuel st k)
 | .exit id,_,st,k => k (.exit id) st
 | .ret,_,st,k => k .ret st
 | _,_,_,_ => none
end
def MA (E : Env) (st : St) : ResultVar -> Option AV
 | .tmp t => some (st.sl.getD t (.one .und))
 | .cell a t => (match st.sl.getD a (.one .und),E.ti.lookup t with
  | .one (.ptr j i c),some ti => bif ti.sz != 0 then (loadCells st.sg ti.sz (.ptr j i c) fun cs => Cell.ofElem ti.agg cs) else none
  | _,_ => none)
def fP (E : Env) (st : St) : List ResultVar -> Option (List AV)
 | [] => some []
 | r :: rs => (match MA E st r,fP E st rs with | some v,some vs => some (v :: vs) | _,_ => none)
def Ty.rows : Ty -> List (Option (TypeId × Ty))
 | .sl e t => [some (e,t)] | .pair a b => a.rows ++ b.rows | _ => [none]
def yW (E : Env) (t : TypeId) : List (Option (TypeId × Ty)) := match E.ti.lookup t with | some { ty := some τ,.. } => τ.rows | _ => []
def cr (n : Bool) : List (Option (TypeId × Ty)) -> Nat -> List Cell -> List Cell × Sig
 | q :: ks,p,c :: cs => (match cr n ks (p + 1) cs with
  | (cs,add) => (match q,c with
   | some (e,t),.nil => bif n && (!t.flat && t.lY) then (.nl (1048576 + p) :: cs,(1048576 + p,.nst e t []) :: add) else (.sl (1048576 + p) :: cs,(1048576 + p,.arr e t [] false) :: add)
   | _,c => (c :: cs,add)))
 | _,_,cs => (cs,[])
def rU (n : Bool) (ks : List (Option (TypeId × Ty))) (p : Nat) : AV -> AV × Sig
 | .one c => (match cr n ks p [c] with | ([c],add) => (.one c,add) | _ => (.one c,[]))
 | .agg cs => (match cr n ks p cs with | (cs,add) => (.agg cs,add))
 | v => (v,[])
def eA (E : Env) : List TypeId -> Nat -> List AV -> List AV × Sig
 | t :: ts,p,v :: vs => (match rU E.nest (yW E t) p v,eA E ts (p + 64) vs with | (v,add),(vs,add') => (v :: vs,add ++ add'))
 | _,_,vs => (vs,[])
def gA (E : Env) (ts : List TypeId) (sg : Sig) (vs : List AV) : Sig × List AV :=
 match eA E ts 0 vs with
 | (_,[]) => (sg,vs)
 | (vs',q :: r) => bif nodup ((q :: r).map (·.1)) && (q :: r).all (fun x => sg.free x.1) then ((q :: r) ++ sg,vs') else (sg,vs)
def Ie (E : Env) (call : aJ) (draw : Env -> aJ -> List Oper -> St -> Bool) (fuel : Nat) (fn : Func) (c : Code) (lt : LT) (args : List AV) (sg : Sig) : Option (AV × Sig) :=
 ca E call draw fuel c lt ⟨args ++ List.replicate (fn.ntmps - args.length) (.one .und),sg⟩ fun e st => match e with
  | .exit _ => none
  | _ => (match fP E (st.ends fn) fn.results.toList with | some vs => (match gA E fn.resultTypes.toList (st.ends fn).sg vs with | (sg,vs) => rf sg vs) | none => none)
def D3 (E : Env) (call : aJ) (draw : Env -> aJ -> List Oper -> St -> Bool) (fuel : Nat) (fn : Func) (c : Code) (lt : LT) (st : St) : Option (AV × Sig) :=
 ca E call draw fuel c lt ⟨st.sl ++ List.replicate (fn.ntmps - st.sl.length) (.one .und),st.sg⟩ fun e st' => match e with
  | .exit _ => none
  | _ => (match fP E st' fn.results.toList with
   | some vs => (match vs with
    | [v] => bif v.plain then (match kept st'.sg st.sg with | some out => some (v,out) | none => none) else none
    | _ => none)
   | none => none)
def Env.find (E : Env) (f : FuncId) : Option Func := E.fn.lookup f
def Env.GF (E : Env) (f : FuncId) : LT := (E.lt.lookup f).getD .none
def ev (E : Env) (draw : Env -> aJ -> List Oper -> St -> Bool) : Nat -> aJ
 | 0,_,_,_ => none
 | n + 1,f,args,sg => (match E.find f with
  | some fn => (match fn.body with
   | some c => Ie E (ev E draw n) draw n fn c (E.GF f) args sg
   | none => none)
  | none => none)
def Bw (E : Env) (draw : Env -> aJ -> List Oper -> St -> Bool) (n : Nat) (f : FuncId) (st : St) : Option (AV × Sig) :=
 match E.find f with
 | some fn => (match fn.body with
  | some c => D3 E (ev E draw n) draw n fn c (E.GF f) st
  | none => none)
 | none => none
end Go.Proofs.YtcddhifkfakcjaaGreat.Lib
namespace Go.Proofs.YtcddhifkfakcjaaGreat.Lib
open Go Go.RowKit
set_option linter.unusedVariables false
set_option linter.unusedSimpArgs false
structure TI.Ok (P : Program) (t : TypeId) (i : TI) : Prop where
 info : ∃ ti,P.info? t = some ti /\ ti.size = i.sz /\ ti.bytes = i.bytes /\ ∀ τ,i.ty = some τ -> τ.sz = i.sz /\ ∃ z,ti.zero = some z /\ z.cells = τ.zv.toArray
 und : ∃ d,P.underlying t = some d /\ (match i.td with
  | .slice e => d = .slice e
  | .struct fs => ∃ fa : Array Field,d = .struct fa /\ fs = fa.toList.map (fun f => (f.type,f.offset)) /\ ∀ f ∈ fa.toList,∃ fi,P.info? f.type = some fi /\ fi.size ≠ 0
  | .scal => (match i.ty with | some (.int k) => d = .int k | some .bool => d = .bool | some .str => d = .string | _ => False)
  | .other => (match d with | .struct _ | .array _ _ => true | _ => false) = false)
theorem Sig.get_append (a b : Sig) (j : Nat) : (a ++ b).get j = (a.get j).or (b.get j) := by
 induction a with
 | nil => simp [Sig.get]
 | cons q r ih =>
  obtain ⟨i,c⟩ := q
  simp only [List.cons_append,Sig.get]
  cases h : (i == j) <;> simp [ih]
theorem Sig.bg (s : Sig) (j : Nat) (b : Blk) (i : Nat) : (s.put j b).get i = if j = i then some b else s.get i := by
 induction s with
 | nil =>
  simp only [Sig.put,Sig.get]
  by_cases h : j = i
  ·simp [h]
  ·simp [h,beq_eq_false_iff_ne.2 h]
 | cons q r ih =>
  obtain ⟨a,c⟩ := q
  simp only [Sig.put]
  by_cases h : a = j
  ·subst h
   simp only [BEq.rfl,cond_true,Sig.get]
   by_cases h : a = i
   ·simp [h]
   ·simp [h,beq_eq_false_iff_ne.2 h]
  ·simp only [beq_eq_false_iff_ne.2 h,cond_false,Sig.get,ih]
   by_cases h1 : a = i
   ·subst h1; simp [Ne.symm h]
   ·simp [beq_eq_false_iff_ne.2 h1]
theorem Sig.get_map (s : Sig) (f : Blk -> Blk) (i : Nat) : Sig.get i (s.map fun q => (q.1,f q.2)) = (s.get i).map f := by
 induction s with
 | nil => rfl
 | cons q r ih =>
  obtain ⟨a,c⟩ := q
  simp only [List.map_cons,Sig.get,ih]
  cases h : (a == i) <;> simp
theorem Sig.GS (s : Sig) (d i : Nat) : (s.shift d).get (i + d) = (s.get i).map (·.shift d) := by
 induction s with
 | nil => rfl
 | cons q r ih =>
  obtain ⟨a,c⟩ := q
  have h0 : (a + d == i + d) = (a == i) := by
   by_cases h : a = i
   ·subst h; simp
   ·rw [beq_eq_false_iff_ne.2 h,beq_eq_false_iff_ne.2 (by omega)]
  simp only [Sig.shift,List.map_cons,Sig.get,h0] at ih ⊢
  rw [ih]
  cases h : (a == i) <;> simp
theorem Sig.q8 (s : Sig) (d i : Nat) (h : i < d) : (s.shift d).get i = none := by
 induction s with
 | nil => rfl
 | cons q r ih =>
  obtain ⟨a,c⟩ := q
  simp only [Sig.shift,List.map_cons,Sig.get] at ih ⊢
  rw [ih,beq_eq_false_iff_ne.2 (by omega)]
  rfl
theorem Sig.get_mem {s : Sig} {j : Nat} {b : Blk} (h : s.get j = some b) : (j,b) ∈ s := by
 induction s with
 | nil => simp [Sig.get] at h
 | cons q r ih =>
  obtain ⟨a,c⟩ := q
  simp only [Sig.get] at h
  cases hb : (a == j) with
  | true => rw [hb] at h; simp at h; have := eq_of_beq hb; subst this; subst h; simp
  | false => rw [hb] at h; simp at h; exact List.mem_cons_of_mem _ (ih h)
theorem aF.imp {α β : Type} {R S : α -> β -> Prop} {l : List α} {m : List β} (h : aF R l m) (hi : ∀ a b,a ∈ l -> R a b -> S a b) : aF S l m := by
 induction h with
 | nil => exact .nil
 | cons h0 _ ih => exact .cons (hi _ _ List.mem_cons_self h0) (ih fun a b ha => hi a b (List.mem_cons_of_mem _ ha))
theorem aF.length {α β : Type} {R : α -> β -> Prop} {l : List α} {m : List β} (h : aF R l m) : l.length = m.length := by
 induction h with
 | nil => rfl
 | cons _ _ ih => simp [ih]
theorem aF.get {α β : Type} {R : α -> β -> Prop} {l : List α} {m : List β} (h : aF R l m) (i : Nat) {a : α} (ha : l[i]? = some a) : ∃ b,m[i]? = some b /\ R a b := by
 induction h generalizing i with
 | nil => simp at ha
 | cons h0 _ ih =>
  cases i with
  | zero => simp at ha; subst ha; exact ⟨_,by simp,h0⟩
  | succ i => simp at ha; simpa using ih i ha
theorem aF.append {α β : Type} {R : α -> β -> Prop} {l l' : List α} {m m' : List β} (h : aF R l m) (h' : aF R l' m') : aF R (l ++ l') (m ++ m') := by
 induction h with
 | nil => exact h'
 | cons h0 _ ih => exact .cons h0 ih
theorem aF.take {α β : Type} {R : α -> β -> Prop} {l : List α} {m : List β} (h : aF R l m) (n : Nat) : aF R (l.take n) (m.take n) := by
 induction h generalizing n with
 | nil => simp; exact .nil
 | cons h0 _ ih => cases n with
  | zero => simp; exact .nil
  | succ n => simp; exact .cons h0 (ih n)
theorem aF.drop {α β : Type} {R : α -> β -> Prop} {l : List α} {m : List β} (h : aF R l m) (n : Nat) : aF R (l.drop n) (m.drop n) := by
 induction h generalizing n with
 | nil => simp; exact .nil
 | cons h0 h1 ih => cases n with
  | zero => simp; exact .cons h0 h1
  | succ n => simp; exact ih n
theorem aF.set {α β : Type} {R : α -> β -> Prop} {l : List α} {m : List β} (h : aF R l m) (n : Nat) {a : α} {b : β} (hr : R a b) : aF R (l.set n a) (m.set n b) := by
 induction h generalizing n with
 | nil => simp; exact .nil
 | cons h0 h1 ih => cases n with
  | zero => simp; exact .cons hr h1
  | succ n => simp; exact .cons h0 (ih n)
theorem aF.split {α β : Type} {R : α -> β -> Prop} {l l' : List α} {m : List β} (h : aF R (l ++ l') m) : ∃ m0 m1,m = m0 ++ m1 /\ aF R l m0 /\ aF R l' m1 := by
 induction l generalizing m with
 | nil => exact ⟨[],m,rfl,.nil,h⟩
 | cons a l ih =>
  cases h with
  | cons h0 h1 =>
   obtain ⟨m0,m1,rfl,h2,h3⟩ := ih h1
   exact ⟨_ :: m0,m1,rfl,.cons h0 h2,h3⟩
theorem aF.single {α β : Type} {R : α -> β -> Prop} {a : α} {m : List β} (h : aF R [a] m) : ∃ b,m = [b] /\ R a b := by
 cases h with
 | cons h0 h1 => cases h1; exact ⟨_,rfl,h0⟩
theorem aF.b9 {α β γ : Type} {R : α -> β -> Prop} {S : γ -> β -> Prop} (f : α -> γ) {l : List α} {m : List β} (h : aF R l m) (hi : ∀ a b,a ∈ l -> R a b -> S (f a) b) : aF S (l.map f) m := by
 induction h with
 | nil => exact .nil
 | cons h0 _ ih => exact .cons (hi _ _ List.mem_cons_self h0) (ih fun a b ha => hi a b (List.mem_cons_of_mem _ ha))
structure Step (U : Nat -> Prop) (ρ ρ' : al) (w w' : World) : Prop where
 loc : ∀ j,U j -> ρ'.loc j = ρ.loc j
 ok : ∀ b g,ρ.ok b g -> ρ'.ok b g
 heap : ∀ b g,ρ.ok b g -> w'.heap[g]? = w.heap[g]?
theorem Gi.step {ok ok' : Nat -> Prop} {w w' : World} (hk : ∀ g,ok g -> ok' g) (hw : ∀ g,ok g -> w'.heap[g]? = w.heap[g]?) {t : Ty} {x : t.T} {a : Addr} (h : Gi ok w t x a) : Gi ok' w' t x a := by
 obtain ⟨h0,cs,h1,h2⟩ := h
 refine ⟨hk _ h0,cs,h1.step hk hw,fun q u hu => ?_⟩
 have hb : (a.add q).block = a.block := by unfold Addr.add; split <;> rfl
 rw [World.cell?_of_block (w := w) (by rw [hb]; exact hw _ h0)]
 exact h2 q u hu
theorem cM {U : Nat -> Prop} {ρ ρ' : al} {w w' : World} (s : Step U ρ ρ' w w') {c : Cell} {v : Value} (hu : ∀ j,c.ae j = true -> U j) (h : rc ρ w c v) : rc ρ' w' c v := by
 cases c with
 | int k n => exact h
 | bool b => exact h
 | str b => exact h
 | nil => exact h
 | cap0 => exact h
 | nul f => exact h
 | emb e t l b => exact Rp.step (s.ok b) (s.heap b) h
 | sl j =>
  obtain ⟨g,sz,h⟩ := h
  exact ⟨g,sz,(s.loc j (hu j (by simp [Cell.ae]))).trans h⟩
 | sub j o n =>
  obtain ⟨A,m,c,g,sz,h,h1⟩ := h
  exact ⟨A,m,c,g,sz,(s.loc j (hu j (by simp [Cell.ae]))).trans h,h1⟩
 | ptr j i c =>
  have hl := s.loc j (hu j (by simp [Cell.ae]))
  rcases h with ⟨h0,g,h,h1⟩ | ⟨a,m,cp,g,sz,h,h1⟩
  ·exact .inl ⟨h0,g,hl.trans h,h1⟩
  ·exact .inr ⟨a,m,cp,g,sz,hl.trans h,h1⟩
 | eptr t x c b =>
  obtain ⟨a,h,h1⟩ := h
  exact ⟨a,h.step (s.ok b) (s.heap b),h1⟩
 | fn f caps =>
  obtain ⟨vs,h,h1⟩ := h
  exact ⟨vs,h,h1.imp fun p u _ ⟨a,h,h2⟩ => ⟨a,h.step (s.ok true) (s.heap true),h2⟩⟩
 | fnp f js =>
  obtain ⟨vs,h,h1⟩ := h
  exact ⟨vs,h,h1.imp fun j u hj ⟨g,h,h2⟩ => ⟨g,(s.loc j (hu j (by simp [Cell.ae,hj]))).trans h,h2⟩⟩
 | nl j =>
  obtain ⟨g,sz,hd,h⟩ := h
  exact ⟨g,sz,hd,(s.loc j (hu j (by simp [Cell.ae]))).trans h⟩
 | np j i c =>
  obtain ⟨a,n,cp,g,sz,hd,h,h1⟩ := h
  exact ⟨a,n,cp,g,sz,hd,(s.loc j (hu j (by simp [Cell.ae]))).trans h,h1⟩
 | inn j i k =>
  obtain ⟨V,g,sz,hd,hs,q,h,h1⟩ := h
  exact ⟨V,g,sz,hd,hs,q,(s.loc j (hu j (by simp [Cell.ae]))).trans h,h1⟩
 | und => trivial
theorem dD {U : Nat -> Prop} {ρ ρ' : al} {w w' : World} (s : Step U ρ ρ' w w') {cs : List Cell} {vs : List Value} (hu : ∀ j,cs.any (·.ae j) = true -> U j) (h : aF (rc ρ w) cs vs) : aF (rc ρ' w') cs vs :=
 h.imp fun c v hc h => cM s (fun j hj => hu j (List.any_eq_true.2 ⟨c,hc,hj⟩)) h
theorem bQ {U : Nat -> Prop} {ρ ρ' : al} {w w' : World} (s : Step U ρ ρ' w w') {c : AV} {v : Value} (hu : ∀ j,c.ae j = true -> U j) (h : rav ρ w c v) : rav ρ' w' c v := by
 cases c with
 | one c => exact cM s hu h
 | agg cs =>
  obtain ⟨vs,h,h1⟩ := h
  exact ⟨vs,h,dD s hu h1⟩
 | tup ps =>
  obtain ⟨vs,h,h1⟩ := h
  refine ⟨vs,h,h1.imp fun p u hp h2 => ?_⟩
  have hu' : ∀ j,p.2.any (·.ae j) = true -> U j := fun j hj => hu j (List.any_eq_true.2 ⟨p,hp,hj⟩)
  obtain ⟨g,cs⟩ := p
  cases g with
  | true =>
   obtain ⟨vs,h,h1⟩ := h2
   exact ⟨vs,h,dD s hu' h1⟩
  | false =>
   obtain ⟨c,rfl,h⟩ := h2
   exact ⟨c,rfl,cM s (fun j hj => hu' j (by simpa using hj)) h⟩
theorem bU.step {ok ok' : Nat -> Prop} {w w' : World} (hk : ∀ g,ok g -> ok' g) (hw : ∀ g,ok g -> w'.heap[g]? = w.heap[g]?) {t : Ty} {l : List t.T} {xs : List Value} (h : bU ok w t l xs) : bU ok' w' t l xs :=
 ⟨h.1,fun j p hp => (h.2 j p hp).step hk hw⟩
def Loc.own : Loc -> Nat -> Prop
 | .box g,k => k = g | .arr _ (some g) _,k => k = g | .nst _ g _ hd,k => k ∈ ct g hd | _,_ => False
theorem Have.step {w w' : World} {e : TypeId} {sz : Nat} {v : Value} {n : Nat} {xs : List Value} {g : Option Nat} (hw : ∀ k,g = some k -> w'.heap[k]? = w.heap[k]?) (h : Have w e sz v n xs g) : Have w' e sz v n xs g := by
 cases g with
 | none => exact h
 | some g =>
  obtain ⟨h2,h3⟩ := h
  refine ⟨⟨h2.1,?_⟩,h3⟩
  rcases h2.2 with h | ⟨g',cap,cur,hv,h4,h5,h6⟩
  ·exact .inl h
  ·subst hv
   have : g' = g := by simpa [Value.ownBlock] using h3
   subst this
   exact .inr ⟨g',cap,cur,rfl,h4,(hw g' rfl).trans h5,h6⟩
theorem Rn.step {w w' : World} : ∀ {t : Ty} {x : t.T} {cs : List Value} {hs : List (Value × Option Nat)},(∀ k ∈ hs.filterMap (·.2),w'.heap[k]? = w.heap[k]?) -> Rn w t x cs hs -> Rn w' t x cs hs
 | .int _,_,_,_,_,h => h
 | .bool,_,_,_,_,h => h
 | .str,_,_,_,_,h => h
 | .nul _,_,_,_,_,h => h
 | .sl _ _,_,_,_,hw,h => by
  obtain ⟨h0,v,g,xs,rfl,rfl,h1,h2⟩ := h
  exact ⟨h0,v,g,xs,rfl,rfl,h1.step (fun _ h => h) (fun _ h => h.elim),h2.step fun k hk => hw k (by simp [hk])⟩
 | .pair _ _,_,_,_,hw,h => by
  obtain ⟨c0,c1,h0,h1,rfl,rfl,h2,h3⟩ := h
  exact ⟨c0,c1,h0,h1,rfl,rfl,h2.step fun k hk => hw k (by rw [List.filterMap_append]; exact List.mem_append_left _ hk),h3.step fun k hk => hw k (by rw [List.filterMap_append]; exact List.mem_append_right _ hk)⟩
theorem cF {hd : List (List (Value × Option Nat))} {i : Nat} {hs : List (Value × Option Nat)} {k : Nat} (hi : hd[i]? = some hs) (hk : k ∈ hs.filterMap (·.2)) : k ∈ kids hd := by
 unfold kids
 obtain ⟨q,hq,hk⟩ := List.mem_filterMap.1 hk
 exact List.mem_filterMap.2 ⟨q,List.mem_flatten.2 ⟨hs,List.mem_of_getElem? hi,hq⟩,hk⟩
theorem nk.step {w w' : World} {e : TypeId} {t : Ty} {l : List t.T} {v : Value} {g : Option Nat} {hd : List (List (Value × Option Nat))} {xs : List Value} (hw : ∀ k ∈ ct g hd,w'.heap[k]? = w.heap[k]?) (h : nk w e t l v g hd xs) : nk w' e t l v g hd xs :=
 ⟨h.len,h.hlen,fun i p hp => by
  obtain ⟨hs,h1,h2⟩ := h.el i p hp
  exact ⟨hs,h1,h2.step fun k hk => hw k (List.mem_append_right _ (cF h1 hk))⟩,h.own.step fun k hk => hw k (List.mem_append_left _ (by simp [hk])),h.nd⟩
def Blk.kind : Blk -> Nat
 | .box _ _ => 0 | .arr _ _ _ _ => 1 | .fro _ _ _ _ => 2 | .nst _ _ _ => 3
def Blk.ae (d : Nat) : Blk -> Bool
 | .box _ cs => cs.any (·.ae d) | _ => false
theorem cd {U : Nat -> Prop} {ρ ρ' : al} {w w' : World} (s : Step U ρ ρ' w w') {j : Nat} {b : Blk} (hj : U j) (hu : ∀ d,b.ae d = true -> U d)
  (hb : ∀ g,(ρ.loc j).own g -> (∀ e t l q,b ≠ .fro e t l q) -> w'.heap[g]? = w.heap[g]?) (h : eZ ρ w j b) : eZ ρ' w' j b := by
 have hl := s.loc j hj
 cases b with
 | box ty cs =>
  obtain ⟨g,vs,h0,h1,h2⟩ := h
  exact ⟨g,vs,hl.trans h0,(hb g (by rw [h0]; rfl) (by simp)).trans h1,dD s hu h2⟩
 | arr e t l b =>
  obtain ⟨v,g,xs,h0,h1,h2⟩ := h
  refine ⟨v,g,xs,hl.trans h0,h1.step (s.ok b) (s.heap b),?_⟩
  cases g with
  | none => exact h2
  | some g =>
   obtain ⟨h2,h3⟩ := h2
   refine ⟨⟨h2.1,?_⟩,h3⟩
   rcases h2.2 with h | ⟨g',cap,cur,hv,h4,h5,h6⟩
   ·exact .inl h
   ·subst hv
    have : g' = g := by simpa [Value.ownBlock] using h3
    subst this
    exact .inr ⟨g',cap,cur,rfl,h4,(hb g' (by rw [h0]; rfl) (by simp)).trans h5,h6⟩
 | fro e t l b =>
  obtain ⟨v,g,h0,h1⟩ := h
  exact ⟨v,g,hl.trans h0,Rp.step (s.ok b) (s.heap b) h1⟩
 | nst e t l =>
  obtain ⟨v,g,hd,xs,h0,h1⟩ := h
  exact ⟨v,g,hd,xs,hl.trans h0,h1.step fun k hk => hb k (by rw [h0]; exact hk) (by simp)⟩
def aP (ρ : al) (sg : Sig) (j g : Nat) : Prop :=
 match sg.get j with
 | some (.box _ _) => ρ.loc j = .box g
 | some (.arr _ _ _ _) => ∃ v sz,ρ.loc j = .arr v (some g) sz
 | some (.nst _ _ _) => ∃ v g' sz hd,ρ.loc j = .nst v g' sz hd /\ g ∈ ct g' hd
 | _ => False
structure Ow where
 o : Nat -> Prop
 ok0 : Bool -> Nat -> Prop
 loc : Nat -> Loc
instance : CoeFun Ow (fun _ => Nat -> Prop) := ⟨Ow.o⟩
structure Mem (B : Nat) (O : Ow) (ρ : al) (sg : Sig) (w : World) : Prop where
 blk : ∀ j b,sg.get j = some b -> eZ ρ w j b
 inj : ∀ i j g,aP ρ sg i g -> aP ρ sg j g -> i = j
 old : ∀ j g,aP ρ sg j g -> B <= g ∨ O g
 okb : ∀ b g,ρ.ok b g -> g < w.heap.size
 oko : ∀ b g,ρ.ok b g -> ∀ j,¬ aP ρ sg j g
 okm : ∀ g,ρ.ok false g -> ρ.ok true g
 okx : ∀ b g,ρ.ok b g -> O.ok0 b g ∨ B <= g ∨ O g
 oky : ∀ b g,O.ok0 b g -> ρ.ok b g
 dom : ∀ j b d,sg.get j = some b -> b.ae d = true -> (sg.get d).isSome = true
structure da (B : Nat) (O : Ow) (w w' : World) : Prop where
 os : w'.os = w.os
 tape : w'.tape = w.tape
 output : w'.output = w.output
 size : w.heap.size <= w'.heap.size
 block : ∀ g,g < B -> ¬ O g -> w'.heap[g]? = w.heap[g]?
theorem da.refl (B : Nat) (O : Ow) (w : World) : da B O w w := ⟨rfl,rfl,rfl,Nat.le_refl _,fun _ _ _ => rfl⟩
theorem da.trans {B : Nat} {O : Ow} {a b c : World} (h : da B O a b) (k : da B O b c) : da B O a c :=
 ⟨k.os.trans h.os,k.tape.trans h.tape,k.output.trans h.output,Nat.le_trans h.size k.size,fun g h1 h2 => (k.block g h1 h2).trans (h.block g h1 h2)⟩
def VG (P : Program) (G : Nat) : Prop := G < P.globals.size /\ ∃ zero t,((begin P (fun _ _ => 0) default).world.heap[G]?).bind Obj.row? = some (zero,t) /\ zero.size = 1 /\ P.buildable t = true /\ P.cellTypes P.depth t = some [t] /\ P.underlying t = some (.int .i64)
def GH (P : Program) (ρ : al) (w : World) : Prop := ∀ G,VG P G -> ρ.ok true G /\ ∃ m,w.cell? ⟨G,0,none⟩ = some (.int .i64 m)
def Glo (P : Program) (B : Nat) (O : Ow) (w0 : World) : Prop := ∀ G,VG P G -> O.ok0 true G /\ G < B /\ ¬ O G /\ ∃ m,w0.cell? ⟨G,0,none⟩ = some (.int .i64 m)
structure Sim (P : Program) (B : Nat) (O : Ow) (w0 : World) (ρ : al) (st : St) (a : Act) (w : World) : Prop where
 mem : Mem B O ρ st.sg w
 len : a.tmps.size = st.sl.length
 sl : ∀ (i : Nat) (v : AV),st.sl[i]? = some v -> ∃ u : Value,a.tmps[i]? = some u /\ rav ρ w v u
 dom : ∀ (i : Nat) (v : AV) (d : Nat),st.sl[i]? = some v -> v.ae d = true -> (st.sg.get d).isSome = true
 defers : a.defers = []
 fr : da B O w0 w
 base : B <= w.heap.size
 pin : ∀ j,PIN <= j -> ρ.loc j = O.loc j
 glo : Glo P B O w0
theorem Sim.L4 {P : Program} {B : Nat} {O : Ow} {w0 w : World} {ρ : al} {st : St} {a : Act} (h : Sim P B O w0 ρ st a w) : Glo P B O w := fun G hG => by
 obtain ⟨h1,h2,h3,m,hm⟩ := h.glo G hG
 exact ⟨h1,h2,h3,m,(World.cell?_of_block (h.fr.block G h2 h3)).trans hm⟩
theorem Sim.gh {P : Program} {B : Nat} {O : Ow} {w0 w : World} {ρ : al} {st : St} {a : Act} (h : Sim P B O w0 ρ st a w) : GH P ρ w := fun G hG => by
 obtain ⟨h1,_,_,m,hm⟩ := h.L4 G hG
 exact ⟨h.mem.oky _ _ h1,m,hm⟩
theorem Sim.RB {P : Program} {B : Nat} {O : Ow} {w0 w : World} {ρ : al} {st : St} {a : Act} (h : Sim P B O w0 ρ st a w) : Glo P w.heap.size ⟨fun g => ∃ j,aP ρ st.sg j g,ρ.ok,ρ.loc⟩ w := fun G hG => by
 obtain ⟨h1,h2⟩ := h.gh G hG
 exact ⟨h1,h.mem.okb _ _ h1,fun ⟨j,hj⟩ => h.mem.oko _ _ h1 j hj,h2⟩
def wA (P : Program) (f : FuncId) (args : List AV) (res : AV) (out : Sig) : Prop :=
 ∀ (ρ0 : al) (w : World) (vs : List Value),(∀ b g,ρ0.ok b g -> g < w.heap.size) -> (∀ g,ρ0.ok false g -> ρ0.ok true g) -> GH P ρ0 w -> aF (rav ρ0 w) args vs -> (∀ v ∈ args,∀ d,v.ae d = false) ->
  (∃ fn, P.funcs[f]? = some fn /\ fn.body.isSome = true /\ (fn.name == "runtime.NumGoroutine") = false) /\ Calls P f vs.toArray w fun e w' => ∃ v ρ', e = .returned v /\ rav ρ' w' res v /\ Mem w.heap.size ⟨fun _ => False, ρ0.ok, ρ0.loc⟩ ρ' out w' /\
   (∀ d,res.ae d = true -> (out.get d).isSome = true) /\ Below w.heap.size w w'
def cJ (P : Program) (call : aJ) : Prop := ∀ f args res out,call f args [] = some (res,out) -> wA P f args res out
def gG (P : Program) (f : FuncId) (p : Prim) : Prop := ∀ v res out,(p.F v).run some = some (res,out) -> wA P f (SPs.bld (R := Unit) p.ss v).1 res out
def Ex.to : Ex -> Exit
 | .normal => .normal | .exit id => .exit id | .ret => .ret
def aH (P : Program) (b : Code) (ss : List SP) (gs : List (Nat × GP)) (F : StT ss gs -> aL (Ex × St)) : Prop :=
 ∀ (B : Nat) (O : Ow) (w0 w : World) (ρ : al) (a : Act) (v : StT ss gs) (e : Ex) (st' : St) (Q : Exit -> Act -> World -> Prop),(F v).run some = some (e,st') -> Sim P B O w0 ρ (ar ss gs v) a w ->
  (∀ ρ' a' w',Sim P B O w0 ρ' st' a' w' -> Q e.to a' w') -> (Code.loop b).wp P Q a w
def CP.ae (d : Nat) : CP -> Bool | .own j | .ptr j _ | .nest j => j == d | .fnp _ js => js.contains d | _ => false
def SP.ae (d : Nat) : SP -> Bool | .und => false | .one p => p.ae d | .agg ps => ps.any (·.ae d)
def GP.ae (d : Nat) : GP -> Bool | .box _ ps => ps.any (·.ae d) | _ => false
def mo (ss : List SP) (gs : List (Nat × GP)) : Prop := ∀ d,(ss.any (·.ae d) || gs.any (·.2.ae d)) = true -> gs.any (·.1 == d) = true
def bo (P : Program) (c : Code) (ss : List SP) (gs : List (Nat × GP)) (F : StT ss gs -> aL (Ex × St)) : Prop :=
 ∀ (B : Nat) (O : Ow) (w0 w : World) (ρ : al) (a : Act) (v : StT ss gs) (e : Ex) (st' : St) (Q : Exit -> Act -> World -> Prop),(F v).run some = some (e,st') -> Sim P B O w0 ρ (ar ss gs v) a w ->
  (∀ ρ' a' w',Sim P B O w0 ρ' st' a' w' -> Q e.to a' w') -> c.wp P Q a w
def af (P : Program) : Code -> LT -> Prop
 | .seq a b,lt => af P a lt.l /\ af P b lt.r
 | .cond c a b,lt => (match lt with | .sum ss gs F => mo ss gs /\ bo P (.cond c a b) ss gs F | lt => af P a lt.l /\ af P b lt.r)
 | .block _ b,lt => af P b lt.l
 | .region id ops d,lt => (match lt with | .sum ss gs F => mo ss gs /\ bo P (.region id ops d) ss gs F | _ => True)
 | .loop b,lt => (match lt with | .sum ss gs F => mo ss gs /\ aH P b ss gs F | lt => af P b lt.l)
 | _,_ => True
def Blk.Alike : Blk -> Blk -> Prop
 | .arr _ _ _ _,b => ∃ e t l q,b = .arr e t l q
 | .nst _ _ _,b => ∃ e t l,b = .nst e t l
 | _,_ => False
def dE (P : Program) (f : FuncId) (m : Mrk) : Prop :=
 mo m.ss m.gs /\ (∃ fn, P.funcs[f]? = some fn /\ fn.body.isSome = true /\ (fn.name == "runtime.NumGoroutine") = false) /\
 ∀ (v : StT m.ss m.gs) (res : AV) (upd : Sig),(m.F v).run some = some (res,upd) -> ∀ (B : Nat) (O : Ow) (ρ : al) (a : Act) (w : World),Sim P B O w ρ (ar m.ss m.gs v) a w ->
  Calls P f a.tmps w fun e w' => ∃ u,e = .returned u /\ rav ρ w' res u /\
   (∀ i b',upd.get i = some b' -> (∃ b,(ar m.ss m.gs v).sg.get i = some b /\ b.Alike b') /\ eZ ρ w' i b') /\
   w'.os = w.os /\ w'.tape = w.tape /\ w'.output = w.output /\ w.heap.size <= w'.heap.size /\ ∀ g,g < w.heap.size -> (∀ j,¬ aP ρ (ar m.ss m.gs v).sg j g) -> w'.heap[g]? = w.heap[g]?
def yP (sg0 : Sig) (ρ : al) (w : World) (res : AV) (fin : Sig) (e : Ending) (w' : World) : Prop :=
 ∃ u ρ',e = .returned u /\ rav ρ' w' res u /\ Mem w.heap.size ⟨fun g => ∃ j,aP ρ sg0 j g,ρ.ok,ρ.loc⟩ ρ' fin w' /\ (∀ i,PIN <= i -> (fin.get i).isSome = true -> ρ'.loc i = ρ.loc i) /\ (∀ d,res.ae d = true -> (fin.get d).isSome = true) /\
  w'.os = w.os /\ w'.tape = w.tape /\ w'.output = w.output /\ w.heap.size <= w'.heap.size /\ ∀ g,g < w.heap.size -> (∀ j,¬ aP ρ sg0 j g) -> w'.heap[g]? = w.heap[g]?
def bD (P : Program) (f : FuncId) (m : Gen) : Prop :=
 mo m.ss m.gs /\ (∃ fn, P.funcs[f]? = some fn /\ fn.body.isSome = true /\ (fn.name == "runtime.NumGoroutine") = false) /\
 ∀ (v : StT m.ss m.gs) (res : AV) (fin : Sig),(m.F v).run some = some (res,fin) -> ∀ (B : Nat) (O : Ow) (ρ : al) (a : Act) (w : World),Sim P B O w ρ (ar m.ss m.gs v) a w ->
  Calls P f a.tmps w (yP (ar m.ss m.gs v).sg ρ w res fin)
def EqT (P : Program) (t : TypeId) : Prop := P.stoodInHeld t = false /\ P.eqGuardType P.depth t = false /\ ∀ fa, P.underlying t = some (.struct fa) -> ∀ f ∈ fa.toList, f.name ≠ "_"
structure Env.Ok (P : Program) (E : Env) : Prop where
 ti : ∀ t i,E.ti.lookup t = some i -> TI.Ok P t i
 fn : ∀ f fn, E.fn.lookup f = some fn -> P.funcs[f]? = some fn /\ (fn.name == "runtime.NumGoroutine") = false
 prim : ∀ q ∈ E.prim,gG P q.1 q.2
 lt : ∀ f fn c,E.fn.lookup f = some fn -> fn.body = some c -> af P c (E.GF f)
 mark : ∀ f m,E.mark.lookup f = some m -> dE P f m
 eqt : ∀ t ∈ E.eqt,EqT P t
 gen : ∀ q ∈ E.gen,bD P q.1 q.2
theorem Sim.put {P : Program} {B : Nat} {O : Ow} {w0 w : World} {ρ : al} {st : St} {a : Act} (h : Sim P B O w0 ρ st a w) (d : Option Nat) {v : AV} {u : Value} (hv : rav ρ w v u) (hd : ∀ j,v.ae j = true -> (st.sg.get j).isSome = true) : Sim P B O w0 ρ (st.put d v) (a.put d u) w := by
 cases d with
 | none => exact h
 | some d =>
  refine ⟨h.mem,by simp [St.put,Act.put,h.len],fun i x hx => ?_,fun i x j hx hj => ?_,h.defers,h.fr,h.base,h.pin,h.glo⟩
  ·simp only [St.put,List.getElem?_set] at hx
   simp only [Act.put,Array.getElem?_setIfInBounds]
   by_cases hi : d = i
   ·subst hi
    simp only [if_true] at hx ⊢
    split at hx
    ·rename_i hlt
     rw [if_pos (by rw [h.len]; exact hlt)]
     cases hx
     exact ⟨u,rfl,hv⟩
    ·cases hx
   ·rw [if_neg hi] at hx ⊢
    exact h.sl i x hx
  ·simp only [St.put,List.getElem?_set] at hx
   by_cases hi : d = i
   ·rw [if_pos hi] at hx
    split at hx
    ·cases hx; exact hd j hj
    ·cases hx
   ·rw [if_neg hi] at hx
    exact h.dom i x j hx hj
theorem Sim.eval {P : Program} {B : Nat} {O : Ow} {w0 w : World} {ρ : al} {st : St} {a : Act} (h : Sim P B O w0 ρ st a w) (x : Operand) : rav ρ w (au st.sl x) (a.eval x) /\ ∀ d,(au st.sl x).ae d = true -> (st.sg.get d).isSome = true := by
 have hcell : ∀ v c,o8 v = some c -> rc ρ w c v /\ ∀ d,c.ae d = false := by
  intro v c hc
  unfold o8 at hc
  split at hc
  ·cases hc; exact ⟨rfl,fun _ => rfl⟩
  ·cases hc; exact ⟨rfl,fun _ => rfl⟩
  ·cases hc; exact ⟨rfl,fun _ => rfl⟩
  ·cases hc; exact ⟨rfl,fun _ => rfl⟩
  ·rename_i f x y
   split at hc
   ·rename_i h1 h2
    cases hc
    have h1 : x = #[] := by cases x; simp_all
    have h2 : y = #[] := by cases y; simp_all
    subst h1
    subst h2
    exact ⟨⟨[],rfl,.nil⟩,fun _ => rfl⟩
   ·cases hc
  ·cases hc
 have hcells : ∀ vs cs,iS vs = some cs -> aF (rc ρ w) cs vs /\ ∀ d,cs.any (·.ae d) = false := by
  intro vs
  induction vs with
  | nil => intro cs hc; simp only [iS,Option.some.injEq] at hc; subst hc; exact ⟨.nil,fun _ => rfl⟩
  | cons v vs ih =>
   intro cs hc
   simp only [iS] at hc
   obtain ⟨c,h1,hc⟩ := Option.bind_eq_some_iff.1 hc
   obtain ⟨cs',h2,hc⟩ := Option.bind_eq_some_iff.1 hc
   simp only [Option.some.injEq] at hc
   subst hc
   obtain ⟨h3,h4⟩ := ih _ h2
   obtain ⟨h5,h6⟩ := hcell _ _ h1
   exact ⟨.cons h5 h3,fun d => by simp [h6 d,h4 d]⟩
 cases x with
 | tmp t =>
  simp only [au,Act.eval]
  cases hs : st.sl[t]? with
  | none => rw [List.getD_eq_getElem?_getD,hs]; exact ⟨trivial,fun d hd => by cases hd⟩
  | some v =>
   obtain ⟨u,hu,hr⟩ := h.sl t v hs
   rw [List.getD_eq_getElem?_getD,hs,Array.getD_eq_getD_getElem?,hu]
   exact ⟨hr,fun d hd => h.dom t v d hs hd⟩
 | const v =>
  simp only [au,Act.eval]
  unfold Fu
  split
  ·rename_i cs
   split
   ·rename_i l hl
    obtain ⟨h1,h2⟩ := hcells _ _ hl
    exact ⟨⟨cs.toList,by simp,h1⟩,fun d hd => by simp [AV.ae,h2 d] at hd⟩
   ·exact ⟨trivial,fun d hd => by cases hd⟩
  ·rename_i cs
   split
   ·rename_i hl
    exact ⟨⟨[],by rw [← hl],.nil⟩,fun d hd => by cases hd⟩
   ·exact ⟨trivial,fun d hd => by cases hd⟩
  ·split
   ·rename_i c hc
    obtain ⟨h1,h2⟩ := hcell _ _ hc
    exact ⟨h1,fun d hd => by simp [AV.ae,h2 d] at hd⟩
   ·exact ⟨trivial,fun d hd => by cases hd⟩
 | func f => exact ⟨⟨[],rfl,.nil⟩,fun d hd => by cases hd⟩
 | global g => exact ⟨trivial,fun d hd => by cases hd⟩
end Go.Proofs.YtcddhifkfakcjaaGreat.Lib
namespace Go.Proofs.YtcddhifkfakcjaaGreat.Lib
open Go Go.RowKit
set_option linter.unusedVariables false
set_option linter.unusedSimpArgs false
def al.upd (ρ : al) (d : Nat) (L : Loc) : al := ⟨fun j => if j = d then L else ρ.loc j,ρ.ok⟩
theorem al.ba (ρ : al) (d : Nat) (L : Loc) : (ρ.upd d L).loc d = L := by simp [al.upd]
theorem al.cT (ρ : al) {d j : Nat} (L : Loc) (h : j ≠ d) : (ρ.upd d L).loc j = ρ.loc j := by simp [al.upd,h]
def al.allow (ρ : al) (b : Bool) (G : Nat -> Prop) : al := ⟨ρ.loc,fun q g => ρ.ok q g ∨ (G g /\ (b = true -> q = true))⟩
def Po (ρ : al) (sg : Sig) (w w' : World) (dst : Option Nat) (v : AV) (add : Sig) (u : Value) : Prop :=
 (add = [] /\ w' = w /\ rav ρ w v u /\ ∀ d,v.ae d = true -> (sg.get d).isSome = true) ∨
 (∃ d b L,dst = some d /\ (sg.get d = none /\ d < PIN) /\ add = [(d,b)] /\ Below w.heap.size w w' /\ eZ (ρ.upd d L) w' d b /\ rav (ρ.upd d L) w' v u /\
  (∀ x,v.ae x = true -> x = d) /\ (∀ x,b.ae x = true -> (sg.get x).isSome = true) /\ (∀ g,L.own g -> w.heap.size <= g)) ∨
 ∃ d e t l,dst = some d /\ (sg.get d = none /\ d < PIN) /\ add = [(d,.fro e t l false)] /\ v = .one (.sl d) /\ Below w.heap.size w w' /\ Rp (fun g => w.heap.size <= g /\ g < w'.heap.size) w' (.sl e t) l [u]
theorem aE {ρ : al} {sg : Sig} {j g : Nat} : aP ρ sg j g ↔ ∃ b,sg.get j = some b /\ (∀ e t l q,b ≠ .fro e t l q) /\ ((∃ ty cs,b = .box ty cs /\ ρ.loc j = .box g) ∨ (∃ e t l q,b = .arr e t l q /\ ∃ v sz,ρ.loc j = .arr v (some g) sz) ∨ (∃ e t l,b = .nst e t l /\ ∃ v g' sz hd,ρ.loc j = .nst v g' sz hd /\ g ∈ ct g' hd)) := by
 unfold aP
 split
 ·rename_i ty cs h
  constructor
  ·intro h1; exact ⟨_,h,by simp,.inl ⟨ty,cs,rfl,h1⟩⟩
  ·rintro ⟨b,h1,_,h2⟩
   rw [h] at h1; cases h1
   rcases h2 with ⟨_,_,_,h2⟩ | ⟨_,_,_,_,h2,_⟩ | ⟨_,_,_,h2,_⟩
   ·exact h2
   ·cases h2
   ·cases h2
 ·rename_i e t l q h
  constructor
  ·intro h1; exact ⟨_,h,by simp,.inr (.inl ⟨e,t,l,q,rfl,h1⟩)⟩
  ·rintro ⟨b,h1,_,h2⟩
   rw [h] at h1; cases h1
   rcases h2 with ⟨_,_,h2,_⟩ | ⟨_,_,_,_,_,h2⟩ | ⟨_,_,_,h2,_⟩
   ·cases h2
   ·exact h2
   ·cases h2
 ·rename_i e t l h
  constructor
  ·intro h1; exact ⟨_,h,by simp,.inr (.inr ⟨e,t,l,rfl,h1⟩)⟩
  ·rintro ⟨b,h1,_,h2⟩
   rw [h] at h1; cases h1
   rcases h2 with ⟨_,_,h2,_⟩ | ⟨_,_,_,_,h2,_⟩ | ⟨_,_,_,_,h2⟩
   ·cases h2
   ·cases h2
   ·exact h2
 ·rename_i h1 h2 h0
  constructor
  ·exact False.elim
  ·rintro ⟨b,h3,h4,h5⟩
   rcases h5 with ⟨ty,cs,rfl,_⟩ | ⟨e,t,l,q,rfl,_⟩ | ⟨e,t,l,rfl,_⟩
   ·exact h1 _ _ h3
   ·exact h2 _ _ _ _ h3
   ·exact h0 _ _ _ h3
theorem aP.tr {ρ ρ' : al} {sg sg' : Sig} {i j g : Nat} (h : aP ρ' sg' i g) (hk : ∀ b',sg'.get i = some b' -> ∃ b,sg.get j = some b /\ b.kind = b'.kind) (hl : ρ'.loc i = ρ.loc j) : aP ρ sg j g := by
 obtain ⟨b',h1,h2,h3⟩ := aE.1 h
 obtain ⟨b,h4,h5⟩ := hk b' h1
 rw [hl] at h3
 refine aE.2 ⟨b,h4,?_,?_⟩
 ·rintro e t l q rfl
  rcases h3 with ⟨_,_,rfl,_⟩ | ⟨_,_,_,_,rfl,_⟩ | ⟨_,_,_,rfl,_⟩ <;> cases h5
 ·rcases h3 with ⟨_,_,rfl,h3⟩ | ⟨_,_,_,_,rfl,h3⟩ | ⟨_,_,_,rfl,h3⟩
  ·cases b <;> cases h5
   exact .inl ⟨_,_,rfl,h3⟩
  ·cases b <;> cases h5
   exact .inr (.inl ⟨_,_,_,_,rfl,h3⟩)
  ·cases b <;> cases h5
   exact .inr (.inr ⟨_,_,_,rfl,h3⟩)
theorem aP.own {ρ : al} {sg : Sig} {j g : Nat} (h : aP ρ sg j g) : (ρ.loc j).own g := by
 obtain ⟨b,_,_,h⟩ := aE.1 h
 rcases h with ⟨_,_,_,h⟩ | ⟨_,_,_,_,_,_,_,h⟩ | ⟨_,_,_,_,_,_,_,_,h,h1⟩
 ·rw [h]; rfl
 ·rw [h]; rfl
 ·rw [h]; exact h1
theorem cD {ρ : al} {sg : Sig} {w : World} {j g : Nat} {b : Blk} (hj : sg.get j = some b) (hr : eZ ρ w j b) (hf : ∀ e t l q,b ≠ .fro e t l q) (hg : (ρ.loc j).own g) : aP ρ sg j g := by
 refine aE.2 ⟨b,hj,hf,?_⟩
 cases b with
 | fro e t l q => exact absurd rfl (hf e t l q)
 | box ty cs =>
  obtain ⟨g',vs,h3,_⟩ := hr
  rw [h3] at hg
  exact .inl ⟨ty,cs,rfl,by rw [h3,show g = g' from hg]⟩
 | arr e t l q =>
  obtain ⟨v',g',xs,h3,_⟩ := hr
  rw [h3] at hg
  cases g' with
  | none => exact hg.elim
  | some g' => exact .inr (.inl ⟨e,t,l,q,rfl,v',t.sz,by rw [h3,show g = g' from hg]⟩)
 | nst e t l =>
  obtain ⟨v',g',hd,xs,h3,_⟩ := hr
  rw [h3] at hg
  exact .inr (.inr ⟨e,t,l,rfl,v',g',t.sz,hd,h3,hg⟩)
theorem Have.lt {w : World} {e : TypeId} {sz : Nat} {v : Value} {n : Nat} {xs : List Value} {g : Nat} (h : Have w e sz v n xs (some g)) : g < w.heap.size := (h.1.lt g h.2).2
theorem Rn.lt {w : World} : ∀ {t : Ty} {x : t.T} {cs : List Value} {hs : List (Value × Option Nat)} {k : Nat},Rn w t x cs hs -> k ∈ hs.filterMap (·.2) -> k < w.heap.size
 | .int _,_,_,_,_,h,hk => by rw [h.2] at hk; cases hk
 | .bool,_,_,_,_,h,hk => by rw [h.2] at hk; cases hk
 | .str,_,_,_,_,h,hk => by rw [h.2] at hk; cases hk
 | .nul _,_,_,_,_,h,hk => by rw [h.2] at hk; cases hk
 | .sl _ _,_,_,_,k,h,hk => by
  obtain ⟨_,v,g,xs,rfl,rfl,_,h2⟩ := h
  cases g with
  | none => cases hk
  | some g =>
   have : k = g := by simpa using hk
   subst this
   exact h2.lt
 | .pair _ _,_,_,_,k,h,hk => by
  obtain ⟨c0,c1,h0,h1,rfl,rfl,h2,h3⟩ := h
  rw [List.filterMap_append] at hk
  rcases List.mem_append.1 hk with hk | hk
  ·exact h2.lt hk
  ·exact h3.lt hk
theorem rA {g : Option Nat} {hd : List (List (Value × Option Nat))} {k : Nat} : k ∈ ct g hd ↔ g = some k ∨ ∃ (i : Nat) (hs : List (Value × Option Nat)),hd[i]? = some hs /\ k ∈ hs.filterMap (·.2) := by
 unfold ct kids
 rw [List.mem_append]
 constructor
 ·rintro (h | h)
  ·exact .inl (by simpa using h)
  ·obtain ⟨q,hq,h1⟩ := List.mem_filterMap.1 h
   obtain ⟨hs,h2,h3⟩ := List.mem_flatten.1 hq
   obtain ⟨i,hi,h4⟩ := List.mem_iff_getElem.1 h2
   exact .inr ⟨i,hs,by rw [List.getElem?_eq_getElem hi,h4],List.mem_filterMap.2 ⟨q,h3,h1⟩⟩
 ·rintro (h | ⟨i,hs,h1,h2⟩)
  ·exact .inl (by simp [h])
  ·exact .inr (cF h1 h2)
theorem nk.lt {w : World} {e : TypeId} {t : Ty} {l : List t.T} {v : Value} {g : Option Nat} {hd : List (List (Value × Option Nat))} {xs : List Value} {k : Nat} (h : nk w e t l v g hd xs) (hk : k ∈ ct g hd) : k < w.heap.size := by
 rcases rA.1 hk with rfl | ⟨i,hs,h1,h2⟩
 ·exact h.own.lt
 ·have hi : i < l.length := by rw [← h.hlen]; exact (List.getElem?_eq_some_iff.1 h1).1
  obtain ⟨hs',h3,h4⟩ := h.el i _ (List.getElem?_eq_getElem hi)
  rw [h1] at h3; cases h3
  exact h4.lt h2
theorem Mem.lt {B : Nat} {O : Ow} {ρ : al} {sg : Sig} {w : World} (h : Mem B O ρ sg w) {j g : Nat} (ho : aP ρ sg j g) : g < w.heap.size := by
 obtain ⟨b,hb,_,h1⟩ := aE.1 ho
 have hr := h.blk j b hb
 rcases h1 with ⟨ty,cs,rfl,h2⟩ | ⟨e,t,l,q,rfl,v,sz,h2⟩ | ⟨e,t,l,rfl,v,g',sz,hd,h2,h5⟩
 ·obtain ⟨g',vs,h3,h4,_⟩ := hr
  rw [h2] at h3; cases h3
  exact (Array.getElem?_eq_some_iff.1 h4).1
 ·obtain ⟨v',g',xs,h3,_,h4⟩ := hr
  rw [h2] at h3; cases h3
  exact (h4.1.lt g h4.2).2
 ·obtain ⟨v',g2,hd',xs,h3,h4⟩ := hr
  rw [h2] at h3; cases h3
  exact h4.lt h5
theorem Sim.grow {P : Program} {B : Nat} {O : Ow} {w0 w w' : World} {ρ : al} {st : St} {a : Act} (h : Sim P B O w0 ρ st a w) (hb : Below w.heap.size w w') :
  Sim P B O w0 (ρ.allow false (fun g => w.heap.size <= g /\ g < w'.heap.size)) st a w' := by
 have hstep : Step (fun _ => True) ρ (ρ.allow false (fun g => w.heap.size <= g /\ g < w'.heap.size)) w w' := ⟨fun j _ => rfl,fun _ _ h => .inl h,fun b g hg => hb.block g (h.mem.okb b g hg)⟩
 refine ⟨⟨?_,h.mem.inj,h.mem.old,?_,?_,?_,?_,fun b g hg => .inl (h.mem.oky b g hg),h.mem.dom⟩,h.len,?_,h.dom,h.defers,h.fr.trans ⟨hb.os,hb.tape,hb.output,hb.size,fun g h1 _ => hb.block g (Nat.lt_of_lt_of_le h1 h.base)⟩,Nat.le_trans h.base hb.size,h.pin,h.glo⟩
 ·intro j b' hj
  refine cd hstep trivial (fun _ _ => trivial) (fun g hg hf => hb.block g (h.mem.lt (j := j) (cD hj (h.mem.blk j b' hj) hf hg))) (h.mem.blk j b' hj)
 ·intro b g hg
  rcases hg with hg | ⟨hg,_⟩
  ·exact Nat.lt_of_lt_of_le (h.mem.okb b g hg) hb.size
  ·exact hg.2
 ·intro b g hg j h1
  rcases hg with hg | ⟨hg,_⟩
  ·exact h.mem.oko b g hg j h1
  ·exact absurd (h.mem.lt (ρ := ρ) h1) (by omega)
 ·intro g hg
  rcases hg with hg | ⟨hg,_⟩
  ·exact .inl (h.mem.okm g hg)
  ·exact .inr ⟨hg,nofun⟩
 ·intro b g hg
  rcases hg with hg | ⟨hg,_⟩
  ·exact h.mem.okx b g hg
  ·exact .inr (.inl (Nat.le_trans h.base hg.1))
 ·intro i x hx
  obtain ⟨u,hu,hr⟩ := h.sl i x hx
  exact ⟨u,hu,bQ hstep (fun _ _ => trivial) hr⟩
theorem Sim.M7 {P : Program} {B : Nat} {O : Ow} {w0 w w' : World} {ρ : al} {st : St} {a : Act} {dst : Option Nat} {v : AV} {add : Sig} {u : Value} (h : Sim P B O w0 ρ st a w) (ha : ∃ d b L,dst = some d /\ (st.sg.get d = none /\ d < PIN) /\ add = [(d,b)] /\ Below w.heap.size w w' /\ eZ (ρ.upd d L) w' d b /\ rav (ρ.upd d L) w' v u /\ (∀ x,v.ae x = true -> x = d) /\ (∀ x,b.ae x = true -> (st.sg.get x).isSome = true) /\ (∀ g,L.own g -> w.heap.size <= g)) :
  ∃ ρ',Sim P B O w0 ρ' (St.put dst v ⟨st.sl,add ++ st.sg⟩) (a.put dst u) w' := by
 obtain ⟨d,b,L,rfl,⟨hn,hdp⟩,rfl,hb,hr,hv,hvu,hbu,hL⟩ := ha
 refine ⟨ρ.upd d L,?_⟩
 have hstep : Step (fun j => j ≠ d) ρ (ρ.upd d L) w w' := ⟨fun j hj => al.cT ρ L hj,fun _ _ h => h,fun b g hg => hb.block g (h.mem.okb b g hg)⟩
 have hget : ∀ j,Sig.get j ([(d,b)] ++ st.sg) = if j = d then some b else st.sg.get j := by
  intro j
  simp only [List.cons_append,List.nil_append,Sig.get]
  by_cases hj : d = j
  ·subst hj; simp
  ·rw [beq_eq_false_iff_ne.2 hj,if_neg (Ne.symm hj)]; rfl
 have hown : ∀ j g,aP (ρ.upd d L) ([(d,b)] ++ st.sg) j g -> (j = d /\ L.own g) ∨ (j ≠ d /\ aP ρ st.sg j g) := by
  intro j g ho
  obtain ⟨b',h1,h2,h3⟩ := aE.1 ho
  rw [hget] at h1
  by_cases hj : j = d
  ·subst hj
   rw [if_pos rfl] at h1; cases h1
   have := ho.own
   rw [al.ba] at this
   exact .inl ⟨rfl,this⟩
  ·rw [if_neg hj] at h1
   rw [al.cT ρ L hj] at h3
   exact .inr ⟨hj,aE.2 ⟨b',h1,h2,h3⟩⟩
 have hnd : ∀ j,(st.sg.get j).isSome = true -> j ≠ d := by rintro j hj rfl; rw [hn] at hj; cases hj
 have hsome : ∀ j,(st.sg.get j).isSome = true -> (Sig.get j ([(d,b)] ++ st.sg)).isSome = true := by
  intro j hj
  rw [hget,if_neg (hnd j hj)]; exact hj
 have h' : Sim P B O w0 (ρ.upd d L) ⟨st.sl,[(d,b)] ++ st.sg⟩ a w' := by
  refine ⟨⟨?_,?_,?_,?_,?_,h.mem.okm,h.mem.okx,h.mem.oky,?_⟩,h.len,?_,?_,h.defers,h.fr.trans ⟨hb.os,hb.tape,hb.output,hb.size,fun g h1 _ => hb.block g (Nat.lt_of_lt_of_le h1 h.base)⟩,Nat.le_trans h.base hb.size,fun j hj => (al.cT ρ L (by omega)).trans (h.pin j hj),h.glo⟩
  ·intro j b' hj
   rw [hget] at hj
   by_cases hjd : j = d
   ·subst hjd; rw [if_pos rfl] at hj; cases hj; exact hr
   ·rw [if_neg hjd] at hj
    refine cd hstep hjd (fun x hx => hnd x (h.mem.dom j b' x hj hx)) (fun g hg hf => hb.block g (h.mem.lt (j := j) (cD hj (h.mem.blk j b' hj) hf hg))) (h.mem.blk j b' hj)
  ·intro i j g h1 h2
   rcases hown i g h1 with ⟨rfl,h3⟩ | ⟨h3,h4⟩ <;> rcases hown j g h2 with ⟨rfl,h5⟩ | ⟨h5,h6⟩
   ·rfl
   ·exact absurd (h.mem.lt h6) (by have := hL g h3; omega)
   ·exact absurd (h.mem.lt h4) (by have := hL g h5; omega)
   ·exact h.mem.inj i j g h4 h6
  ·intro j g h1
   rcases hown j g h1 with ⟨rfl,h3⟩ | ⟨h3,h4⟩
   ·exact .inl (Nat.le_trans h.base (hL g h3))
   ·exact h.mem.old j g h4
  ·intro b g hg
   exact Nat.lt_of_lt_of_le (h.mem.okb b g hg) hb.size
  ·intro b g hg j h1
   rcases hown j g h1 with ⟨rfl,h3⟩ | ⟨h3,h4⟩
   ·exact absurd (h.mem.okb b g hg) (by have := hL g h3; omega)
   ·exact h.mem.oko b g hg j h4
  ·intro j b' x hj hx
   rw [hget] at hj
   by_cases hjd : j = d
   ·subst hjd; rw [if_pos rfl] at hj; cases hj; exact hsome x (hbu x hx)
   ·rw [if_neg hjd] at hj; exact hsome x (h.mem.dom j b' x hj hx)
  ·intro i x hx
   obtain ⟨u,hu,hr⟩ := h.sl i x hx
   exact ⟨u,hu,bQ hstep (fun j hj => hnd j (h.dom i x j hx hj)) hr⟩
  ·intro i x j hx hj
   exact hsome j (h.dom i x j hx hj)
 exact h'.put (some d) hv (fun j hj => by rw [hvu j hj]; rw [show (⟨st.sl,[(d,b)] ++ st.sg⟩ : St).sg = [(d,b)] ++ st.sg from rfl,hget,if_pos rfl]; rfl)
theorem Sim.PH {P : Program} {B : Nat} {O : Ow} {w0 w w' : World} {ρ : al} {st : St} {a : Act} {dst : Option Nat} {v : AV} {add : Sig} {u : Value} (h : Sim P B O w0 ρ st a w) (ha : Po ρ st.sg w w' dst v add u) :
  ∃ ρ',Sim P B O w0 ρ' (St.put dst v ⟨st.sl,add ++ st.sg⟩) (a.put dst u) w' := by
 rcases ha with ⟨rfl,rfl,hv,hu⟩ | ha | ⟨d,e,t,l,rfl,hn,rfl,rfl,hb,hr⟩
 ·exact ⟨ρ,h.put dst hv hu⟩
 ·exact h.M7 ha
 ·have h1 := h.grow hb
  refine h1.M7 ⟨d,_,.arr u none t.sz,rfl,hn,rfl,Below.refl _ _,⟨u,none,al.ba _ _ _,hr.step (fun g hg => .inr ⟨hg,nofun⟩) (fun _ _ => rfl)⟩,⟨_,_,al.ba _ _ _⟩,?_,(fun x hx => by cases hx),fun g hg => hg.elim⟩
  intro x hx
  have hx : (d == x) = true := hx
  exact (eq_of_beq hx).symm
theorem c8 {ρ : al} {w : World} {b : Bool} : ∀ {t : Ty} {x : t.T} {cs : List Value},Rp (ρ.ok b) w t x cs -> aF (rc ρ w) (t.cells b x) cs
 | .int _,_,_,h => by simp only [Rp] at h; subst h; exact .cons rfl .nil
 | .bool,_,_,h => by simp only [Rp] at h; subst h; exact .cons rfl .nil
 | .str,_,_,h => by simp only [Rp] at h; subst h; exact .cons rfl .nil
 | .sl e t,l,cs,h => by
  have h0 := h
  simp only [Rp] at h0
  obtain ⟨A,c,rfl,_⟩ := h0
  exact .cons h .nil
 | .pair a b,p,_,h => by
  simp only [Rp] at h
  obtain ⟨c0,c1,rfl,h0,h1⟩ := h
  exact (c8 h0).append (c8 h1)
 | .nul f,_,_,h => by simp only [Rp] at h; subst h; exact .cons rfl .nil
theorem EK {ρ : al} {w : World} : ∀ t : Ty,aF (rc ρ w) t.zc t.zv
 | .int _ => .cons rfl .nil | .bool => .cons rfl .nil | .str => .cons rfl .nil | .sl _ _ => .cons rfl .nil | .nul _ => .cons rfl .nil
 | .pair a b => (EK a).append (EK b)
theorem qG (d : Nat) : ∀ t : Ty,t.zc.any (·.ae d) = false
 | .int _ => rfl | .bool => rfl | .str => rfl | .sl _ _ => rfl | .nul _ => rfl
 | .pair a b => by simp only [Ty.zc,List.any_append,qG d a,qG d b,Bool.or_self]
theorem Ty.iV (b : Bool) (d : Nat) : ∀ (t : Ty) (x : t.T),(t.cells b x).any (·.ae d) = false
 | .int _,_ => rfl
 | .bool,_ => rfl
 | .str,_ => rfl
 | .sl _ _,_ => rfl
 | .pair a c,p => by simp only [Ty.cells,List.any_append,Ty.iV b d a,Ty.iV b d c,Bool.or_self]
 | .nul _,_ => rfl
theorem Have.slice {w : World} {e : TypeId} {sz : Nat} {v : Value} {n : Nat} {xs : List Value} {g : Option Nat} (h : Have w e sz v n xs g) : ∃ A m c,v = .slice A m c := by
 cases g with
 | none => obtain ⟨_,A,rfl⟩ := h; exact ⟨A,0,0,rfl⟩
 | some g =>
  rcases h.1.2 with ⟨rfl,_⟩ | ⟨g',cap,cur,rfl,_⟩
  ·exact ⟨_,_,_,rfl⟩
  ·exact ⟨_,_,_,rfl⟩
theorem Rn.one {w : World} : ∀ {t : Ty} {x : t.T} {cs : List Value} {hs : List (Value × Option Nat)},Rn w t x cs hs -> ∀ q ∈ hs,q.1.oneCell' = true
 | .int _,_,_,_,h,q,hq => by rw [h.2] at hq; cases hq
 | .bool,_,_,_,h,q,hq => by rw [h.2] at hq; cases hq
 | .str,_,_,_,h,q,hq => by rw [h.2] at hq; cases hq
 | .nul _,_,_,_,h,q,hq => by rw [h.2] at hq; cases hq
 | .sl _ _,_,_,_,h,q,hq => by
  obtain ⟨_,v,g,xs,rfl,rfl,_,h2⟩ := h
  rw [List.mem_singleton.1 hq]
  obtain ⟨A,m,c,rfl⟩ := h2.slice
  rfl
 | .pair _ _,_,_,_,h,q,hq => by
  obtain ⟨c0,c1,h0,h1,rfl,rfl,h2,h3⟩ := h
  rcases List.mem_append.1 hq with hq | hq
  ·exact h2.one q hq
  ·exact h3.one q hq
theorem Mem.nest {B : Nat} {O : Ow} {ρ : al} {sg : Sig} {w : World} (h : Mem B O ρ sg w) {j : Nat} (hj : (sg.get j).isSome = true) {v : Value} {g : Option Nat} {sz : Nat} {hd : List (List (Value × Option Nat))} (hl : ρ.loc j = .nst v g sz hd) : v.oneCell' = true /\ ∀ (i : Nat) (hs : List (Value × Option Nat)) (q : Value × Option Nat),hd[i]? = some hs -> q ∈ hs -> q.1.oneCell' = true := by
 cases hb : sg.get j with
 | none => rw [hb] at hj; cases hj
 | some b =>
  have hr := h.blk j b hb
  cases b with
  | box ty cs => obtain ⟨g,vs,h0,_⟩ := hr; rw [hl] at h0; cases h0
  | arr e t l b => obtain ⟨v',g',xs,h0,_⟩ := hr; rw [hl] at h0; cases h0
  | fro e t l b => obtain ⟨v',g',h0,_⟩ := hr; rw [hl] at h0; cases h0
  | nst e t l =>
   obtain ⟨v',g',hd',xs,h0,h1⟩ := hr
   rw [hl] at h0; cases h0
   refine ⟨?_,fun i hs q hi hq => ?_⟩
   ·obtain ⟨A,m,c,rfl⟩ := h1.own.slice
    rfl
   ·have hi' : i < l.length := by rw [← h1.hlen]; exact (List.getElem?_eq_some_iff.1 hi).1
    obtain ⟨hs',h3,h4⟩ := h1.el i _ (List.getElem?_eq_getElem hi')
    rw [hi] at h3; cases h3
    exact h4.one q hq
theorem O2 {ρ : al} {w : World} {c : Cell} {v : Value} (h : rc ρ w c v) (hd : c.fb = true) (hl : ∀ j,c.ae j = true -> ∀ g sz,ρ.loc j = .arr v g sz -> v.oneCell' = true)
  (hn : ∀ j,c.ae j = true -> ∀ V g sz hd,ρ.loc j = .nst V g sz hd -> V.oneCell' = true /\ ∀ (i : Nat) (hs : List (Value × Option Nat)) (q : Value × Option Nat),hd[i]? = some hs -> q ∈ hs -> q.1.oneCell' = true) : v.oneCell' = true := by
 cases c with
 | int k n => simp only [rc] at h; subst h; rfl
 | bool b => simp only [rc] at h; subst h; rfl
 | str b => simp only [rc] at h; subst h; rfl
 | nil => simp only [rc] at h; subst h; rfl
 | cap0 => obtain ⟨A,rfl⟩ := h; rfl
 | nul f => simp only [rc] at h; subst h; cases f <;> rfl
 | emb e t l b => exact Rp.one h v (by simp)
 | sl j => obtain ⟨g,sz,h⟩ := h; exact hl j (by simp [Cell.ae]) g sz h
 | sub j o n =>
  obtain ⟨A,m,c,g,sz,_,_,h⟩ := h
  rcases h with ⟨_,rfl⟩ | ⟨_,_,a,_,rfl⟩ | ⟨_,_,A',c',rfl,_⟩ <;> rfl
 | ptr j i c =>
  rcases h with ⟨_,g,_,rfl⟩ | ⟨a,m,cp,g,sz,_,rfl⟩ <;> rfl
 | eptr t x c b => obtain ⟨a,_,rfl⟩ := h; rfl
 | fn f caps => obtain ⟨vs,rfl,_⟩ := h; rfl
 | fnp f js => obtain ⟨vs,rfl,_⟩ := h; rfl
 | nl j => obtain ⟨g,sz,hd',h⟩ := h; exact (hn j (by simp [Cell.ae]) v g sz hd' h).1
 | np j i c => obtain ⟨a,n,cp,g,sz,hd',_,rfl⟩ := h; rfl
 | inn j i k => obtain ⟨V,g,sz,hd',hs,q,h,h1,h2⟩ := h; exact (hn j (by simp [Cell.ae]) V g sz hd' h).2 i hs (v,q) h1 (List.mem_of_getElem? h2)
 | und => cases hd
theorem Mem.slice {B : Nat} {O : Ow} {ρ : al} {sg : Sig} {w : World} (h : Mem B O ρ sg w) {j : Nat} (hj : (sg.get j).isSome = true) {v : Value} {g : Option Nat} {sz : Nat} (hl : ρ.loc j = .arr v g sz) : ∃ A n c,v = .slice A n c := by
 cases hb : sg.get j with
 | none => rw [hb] at hj; cases hj
 | some b =>
  have hr := h.blk j b hb
  cases b with
  | box ty cs =>
   obtain ⟨g,vs,h0,_⟩ := hr
   rw [hl] at h0; cases h0
  | arr e t l b =>
   obtain ⟨v',g',xs,h0,_,h1⟩ := hr
   rw [hl] at h0; cases h0
   cases g with
   | none => obtain ⟨_,A,rfl⟩ := h1; exact ⟨A,0,0,rfl⟩
   | some g =>
    rcases h1.1.2 with ⟨rfl,_⟩ | ⟨g',cap,cur,rfl,_⟩
    ·exact ⟨_,_,_,rfl⟩
    ·exact ⟨_,_,_,rfl⟩
  | fro e t l b =>
   obtain ⟨v',g',h0,h1⟩ := hr
   rw [hl] at h0; cases h0
   simp only [Rp] at h1
   obtain ⟨A,c,h1,_⟩ := h1
   simp only [List.cons.injEq,and_true] at h1
   exact ⟨A,_,c,h1⟩
  | nst e t l =>
   obtain ⟨v',g',hd,xs,h0,_⟩ := hr
   rw [hl] at h0; cases h0
theorem vP {B : Nat} {O : Ow} {ρ : al} {sg : Sig} {w : World} (h : Mem B O ρ sg w) {cs : List Cell} {vs : List Value} (hr : aF (rc ρ w) cs vs) (hd : cs.all (·.fb) = true) (hu : ∀ j,cs.any (·.ae j) = true -> (sg.get j).isSome = true) :
  ∀ u ∈ vs,u.oneCell' = true := by
 induction hr with
 | nil => intro u hu; cases hu
 | cons h0 h1 ih =>
  simp only [List.all_cons,Bool.and_eq_true] at hd
  intro u hm
  rcases List.mem_cons.1 hm with rfl | hm
  ·exact O2 h0 hd.1 (fun j hj g sz hl => by
    obtain ⟨A,n,c,rfl⟩ := h.slice (hu j (by simp [hj])) hl
    rfl) fun j hj V g sz hd' hl => h.nest (hu j (by simp [hj])) hl
  ·exact ih hd.2 (fun j hj => hu j (by simp only [List.any_cons,hj,Bool.or_true])) u hm
theorem fv {B : Nat} {O : Ow} {ρ : al} {sg : Sig} {w : World} (h : Mem B O ρ sg w) {x : AV} {u : Value} {cs : List Cell} (hr : rav ρ w x u) (hc : x.cells? = some cs) (hu : ∀ j,x.ae j = true -> (sg.get j).isSome = true) :
  ∃ vs : List Value,u.cells = vs.toArray /\ aF (rc ρ w) cs vs /\ (∀ v ∈ vs,v.oneCell' = true) /\ ∀ j,cs.any (·.ae j) = true -> x.ae j = true := by
 cases x with
 | one c =>
  simp only [AV.cells?] at hc
  cases hd : c.fb with
  | false => rw [hd] at hc; cases hc
  | true =>
   rw [hd] at hc
   simp only [cond_true,Option.some.injEq] at hc
   subst hc
   have h1 : aF (rc ρ w) [c] [u] := .cons hr .nil
   have h2 := vP h h1 (by simp [hd]) (fun j hj => hu j (by simpa [AV.ae] using hj))
   refine ⟨[u],?_,h1,h2,fun j hj => by simpa [AV.ae] using hj⟩
   have := h2 u (by simp)
   cases u <;> first | rfl | cases this
 | agg l =>
  simp only [AV.cells?] at hc
  cases hd : l.all (·.fb) with
  | false => rw [hd] at hc; cases hc
  | true =>
   rw [hd] at hc
   simp only [cond_true,Option.some.injEq] at hc
   subst hc
   obtain ⟨vs,rfl,h1⟩ := hr
   exact ⟨vs,rfl,h1,vP h h1 hd (fun j hj => hu j hj),fun j hj => hj⟩
 | tup ps => cases hc
end Go.Proofs.YtcddhifkfakcjaaGreat.Lib
namespace Go.Proofs.YtcddhifkfakcjaaGreat.Lib
open Go Go.RowKit
set_option linter.unusedVariables false
set_option linter.unusedSimpArgs false
theorem aq {α : Type} (b : Bool) (x y : α) : cond b x y = if b = true then x else y := by cases b <;> rfl
section
variable {P : Program} {E : Env} (hE : Env.Ok P E) {B : Nat} {O : Ow} {w0 w : World} {ρ : al} {st : St} {a : Act} {R : Type} {r : R}
def QOk (P : Program) (ρ : al) (sg : Sig) (a : Act) (w : World) (o : Oper) (k : AV -> Sig -> Option R) (r : R) : Prop :=
 ∃ v add u w',k v add = some r /\ (execOp a.eval o).run P w = .ok (.value u) w' /\ Po ρ sg w w' o.dst v add u
theorem QOk.same {o : Oper} {k : AV -> Sig -> Option R} {v : AV} {u : Value} (hk : k v [] = some r) (hr : (execOp a.eval o).run P w = .ok (.value u) w) (hv : rav ρ w v u) (hu : ∀ d,v.ae d = true -> (st.sg.get d).isSome = true) : QOk P ρ st.sg a w o k r :=
 ⟨v,[],u,w,hk,hr,.inl ⟨rfl,rfl,hv,hu⟩⟩
def cW (P : Program) (ρ : al) (sg : Sig) (a : Act) (w : World) (o : Oper) (k : AV -> Sig -> Option R) (r : R) : Prop :=
 ∃ v u,k v [] = some r /\ (∀ w,(execOp a.eval o).run P w = .ok (.value u) w) /\ rav ρ w v u /\ ∀ d,v.ae d = true -> (sg.get d).isSome = true
theorem cW.same {o : Oper} {k : AV -> Sig -> Option R} {v : AV} {u : Value} (hk : k v [] = some r) (hr : ∀ w,(execOp a.eval o).run P w = .ok (.value u) w) (hv : rav ρ w v u) (hu : ∀ d,v.ae d = true -> (st.sg.get d).isSome = true) : cW P ρ st.sg a w o k r := ⟨v,u,hk,hr,hv,hu⟩
theorem cW.ok {o : Oper} {k : AV -> Sig -> Option R} (h : cW P ρ st.sg a w o k r) : QOk P ρ st.sg a w o k r := let ⟨_,_,hk,hr,hv,hu⟩ := h; QOk.same hk (hr w) hv hu
theorem eN {c n : Nat} {cs l : List Cell} (h : mf c n cs = some l) : l = (cs.drop c).take n /\ l.length = n /\ c + n <= cs.length ∨ (n = 0 /\ l = []) := by
 unfold mf at h
 rw [aq] at h
 simp only [beq_iff_eq] at h
 split at h
 ·rename_i hl
  cases h
  by_cases hn : n = 0
  ·exact .inr ⟨hn,by subst hn; simp⟩
  ·refine .inl ⟨rfl,hl,?_⟩
   simp only [List.length_take,List.length_drop] at hl
   omega
 ·cases h
theorem EW {P : Program} {t : TypeId} {i : TI} (h : TI.Ok P t i) (w : World) : (isAgg t).run P w = .ok i.agg w := by
 obtain ⟨td,sz,by_,ty⟩ := i
 obtain ⟨d,h1,h2⟩ := h.und
 unfold isAgg
 rw [Sem.run_bind,run_underlying h1 w]
 simp only [Result.andThen_ok]
 cases td with
 | slice e => simp only at h2; subst h2; rfl
 | struct fs => simp only at h2; obtain ⟨fa,rfl,_⟩ := h2; rfl
 | scal =>
  simp only at h2
  split at h2
  ·subst h2; rfl
  ·subst h2; rfl
  ·subst h2; rfl
  ·exact h2.elim
 | other => simp only at h2; cases d <;> first | rfl | (cases h2)
theorem iw {P : Program} {t : TypeId} {i : TI} (h : TI.Ok P t i) (w : World) : (sizeOf t).run P w = .ok i.sz w := by
 obtain ⟨ti,h1,h2,_⟩ := h.info
 unfold sizeOf typeInfo
 simp [Sem.run_bind,h1,h2]
theorem H8 {P : Program} {t : TypeId} {i : TI} (h : TI.Ok P t i) {τ : Ty} (hτ : i.ty = some τ) (w : World) : ∃ z,z.cells = τ.zv.toArray /\ (zeroValue t).run P w = .ok z w := by
 obtain ⟨ti,h1,h2,h3,h4⟩ := h.info
 obtain ⟨_,z,h5,h6⟩ := h4 τ hτ
 refine ⟨z,h6,?_⟩
 unfold zeroValue typeInfo
 simp [Sem.run_bind,h1,h5]
theorem s6 {P : Program} {t : TypeId} {i : TI} (h : TI.Ok P t i) {w : World} {p : Addr} {vs : List Value} (hl : vs.length = i.sz) (hc : ∀ j v,vs[j]? = some v -> w.cell? (p.add j) = some v) {v : Value}
  (hv : (i.agg = true /\ v = .agg vs.toArray) ∨ (i.agg = false /\ vs = [v])) : (loadVar t p).run P w = .ok v w := by
 unfold loadVar
 rw [Sem.run_bind,EW h w,Result.andThen_ok]
 rcases hv with ⟨ha,rfl⟩ | ⟨ha,rfl⟩
 ·rw [ha,if_pos rfl]
  have h1 : (Go.loadCells p i.sz).run P w = .ok vs.toArray w := by rw [← hl]; exact run_loadCells_list (P := P) w p vs hc
  simp [Sem.run_bind,iw h w,h1]
 ·rw [ha,if_neg (by simp)]
  have h1 := hc 0 v rfl
  rw [show p.add 0 = p by simp [Addr.add]] at h1
  simp [run_load,h1]
theorem eU {g : Bool} {cs : List Cell} {v : AV} (h : Cell.ofElem g cs = some v) : (g = true /\ v = .agg cs) ∨ (g = false /\ ∃ c,cs = [c] /\ v = .one c) := by
 unfold Cell.ofElem at h
 split at h
 ·cases h; exact .inl ⟨rfl,rfl⟩
 ·cases h; exact .inr ⟨rfl,_,rfl,rfl⟩
 ·cases h
theorem bx (a : Addr) (i j : Nat) : (a.add i).add j = a.add (i + j) := by
 by_cases hi : i = 0
 ·by_cases hj : j = 0 <;> simp [Addr.add,hi,hj]
 ·by_cases hj : j = 0 <;> simp [Addr.add,hi,hj,Nat.add_assoc]
theorem fV (g j : Nat) : (⟨g,0,none⟩ : Addr).add j = ⟨g,j,none⟩ := by unfold Addr.add; split <;> simp_all
theorem N0 (g c j : Nat) : (⟨g,c,none⟩ : Addr).add j = ⟨g,c + j,none⟩ := by unfold Addr.add; split <;> simp_all
theorem Rn.mE {w : World} : ∀ {t : Ty} {x : t.T} {cs : List Value} {hs : List (Value × Option Nat)},Rn w t x cs hs -> hs.length = t.nB
 | .int _,_,_,_,h => by rw [h.2]; rfl
 | .bool,_,_,_,h => by rw [h.2]; rfl
 | .str,_,_,_,h => by rw [h.2]; rfl
 | .nul _,_,_,_,h => by rw [h.2]; rfl
 | .sl _ _,_,_,_,h => by obtain ⟨_,v,g,xs,_,rfl,_⟩ := h; rfl
 | .pair _ _,_,_,_,h => by
  obtain ⟨c0,c1,h0,h1,_,rfl,h2,h3⟩ := h
  rw [List.length_append,h2.mE,h3.mE]
  rfl
theorem Rn.len {w : World} : ∀ {t : Ty} {x : t.T} {cs : List Value} {hs : List (Value × Option Nat)},Rn w t x cs hs -> cs.length = t.sz
 | .int _,_,_,_,h => by rw [h.1]; rfl
 | .bool,_,_,_,h => by rw [h.1]; rfl
 | .str,_,_,_,h => by rw [h.1]; rfl
 | .nul _,_,_,_,h => by rw [h.1]; rfl
 | .sl _ _,_,_,_,h => by obtain ⟨_,v,g,xs,rfl,_⟩ := h; rfl
 | .pair _ _,_,_,_,h => by
  obtain ⟨c0,c1,h0,h1,rfl,_,h2,h3⟩ := h
  rw [List.length_append,h2.len,h3.len]
  rfl
theorem Rn.N1 {w : World} : ∀ {t : Ty} {x : t.T} {cs : List Value} {hs : List (Value × Option Nat)},Rn w t x cs hs -> ∀ u ∈ cs,u.oneCell' = true
 | .int _,_,_,_,h,u,hu => by rw [h.1] at hu; rw [List.mem_singleton.1 hu]; rfl
 | .bool,_,_,_,h,u,hu => by rw [h.1] at hu; rw [List.mem_singleton.1 hu]; rfl
 | .str,_,_,_,h,u,hu => by rw [h.1] at hu; rw [List.mem_singleton.1 hu]; rfl
 | .nul f,_,_,_,h,u,hu => by rw [h.1] at hu; rw [List.mem_singleton.1 hu]; cases f <;> rfl
 | .sl _ _,_,_,_,h,u,hu => by
  obtain ⟨_,v,g,xs,rfl,rfl,_,h2⟩ := h
  rw [List.mem_singleton.1 hu]
  obtain ⟨A,m,c,rfl⟩ := h2.slice
  rfl
 | .pair _ _,_,_,_,h,u,hu => by
  obtain ⟨c0,c1,h0,h1,rfl,rfl,h2,h3⟩ := h
  rcases List.mem_append.1 hu with hu | hu
  ·exact h2.N1 u hu
  ·exact h3.N1 u hu
theorem pF {ρ : al} {w : World} {j i : Nat} {V : Value} {g : Option Nat} {sz : Nat} {hd : List (List (Value × Option Nat))} {full : List (Value × Option Nat)} (hl : ρ.loc j = .nst V g sz hd) (hi : hd[i]? = some full) : ∀ {t : Ty} {x : t.T} {cs : List Value} {hs : List (Value × Option Nat)} {k : Nat},Rn w t x cs hs -> (∀ m q,hs[m]? = some q -> full[k + m]? = some q) -> aF (rc ρ w) (t.lG j i x k) cs
 | .int _,_,_,_,_,h,_ => by rw [h.1]; exact .cons rfl .nil
 | .bool,_,_,_,_,h,_ => by rw [h.1]; exact .cons rfl .nil
 | .str,_,_,_,_,h,_ => by rw [h.1]; exact .cons rfl .nil
 | .nul _,_,_,_,_,h,_ => by rw [h.1]; exact .cons rfl .nil
 | .sl _ _,_,_,_,k,h,hf => by
  obtain ⟨_,v,g',xs,rfl,rfl,_⟩ := h
  exact .cons ⟨V,g,sz,hd,full,g',hl,hi,hf 0 _ rfl⟩ .nil
 | .pair a b,_,_,_,k,h,hf => by
  obtain ⟨c0,c1,h0,h1,rfl,rfl,h2,h3⟩ := h
  refine (pF hl hi h2 fun m q hm => hf m q ?_).append (pF hl hi h3 fun m q hm => ?_)
  ·rw [List.getElem?_append_left (List.getElem?_eq_some_iff.1 hm).1]; exact hm
  ·have := hf (h0.length + m) q (by rw [List.getElem?_append_right (by omega),Nat.add_sub_cancel_left]; exact hm)
   rwa [h2.mE,← Nat.add_assoc] at this
theorem kd (j i d : Nat) : ∀ (t : Ty) (x : t.T) (k : Nat),(t.lG j i x k).any (·.ae d) = true -> d = j
 | .int _,_,_,h => by cases h
 | .bool,_,_,h => by cases h
 | .str,_,_,h => by cases h
 | .nul _,_,_,h => by cases h
 | .sl _ _,_,_,h => by
  simp only [Ty.lG,List.any_cons,List.any_nil,Bool.or_false,Cell.ae,beq_iff_eq] at h
  exact h.symm
 | .pair a b,p,k,h => by
  simp only [Ty.lG,List.any_append,Bool.or_eq_true] at h
  rcases h with h | h
  ·exact kd j i d a _ _ h
  ·exact kd j i d b _ _ h
theorem Have.block {w : World} {e : TypeId} {sz : Nat} {A : Addr} {m c : Nat} {n : Nat} {xs : List Value} {g : Option Nat} (h : Have w e sz (.slice (some A) m c) n xs g) (hn : 0 < n) : ∃ k cur,g = some k /\ A = ⟨k,0,none⟩ /\ m = n /\ w.heap[k]? = some (.cells cur e (0,0)) /\ n <= c /\ c <= maxLen /\ cur.size = c * sz /\ cur.toList.take (n * sz) = xs /\ xs.length = n * sz /\ w.ownsRow 0 e sz (.slice (some A) m c) n xs := by
 cases g with
 | none => obtain ⟨h,_⟩ := h; omega
 | some k =>
  obtain ⟨h1,h2⟩ := h
  have h3 := h1
  obtain ⟨h4,h5⟩ := h3
  rcases h5 with ⟨h6,_⟩ | ⟨g',cap,cur,h6,_,hcur,hnc,hcm,hcs,htake⟩
  ·cases h6
  ·cases h6
   have : g' = k := by simpa [Value.ownBlock] using h2
   subst this
   exact ⟨g',cur,rfl,rfl,rfl,hcur,hnc,hcm,hcs,htake,h4,h1⟩
theorem Have.form {w : World} {e : TypeId} {sz : Nat} {v : Value} {n : Nat} {xs : List Value} {g : Option Nat} (h : Have w e sz v n xs g) (hn : 0 < n) : ∃ k c,g = some k /\ v = .slice (some ⟨k,0,none⟩) n c := by
 cases g with
 | none => obtain ⟨h,_⟩ := h; omega
 | some k =>
  obtain ⟨h1,h2⟩ := h
  rcases h1.2 with ⟨rfl,_⟩ | ⟨g',cap,cur,rfl,_⟩
  ·cases h2
  ·have : g' = k := by simpa [Value.ownBlock] using h2
   subst this
   exact ⟨g',cap,rfl,rfl⟩
theorem jo (h : Mem B O ρ st.sg w) {n : Nat} {p : Cell} {u : Value} {kk : List Cell -> Option R} (hk : loadCells st.sg n p kk = some r) (hp : rc ρ w p u) (hn : 0 < n) :
  ∃ cs ad vs,kk cs = some r /\ u = .pointer (some ad) /\ vs.length = n /\ aF (rc ρ w) cs vs /\ (∀ (j : Nat) (v : Value),vs[j]? = some v -> w.cell? (ad.add j) = some v) /\ ∀ d,cs.any (·.ae d) = true -> (st.sg.get d).isSome = true := by
 unfold loadCells at hk
 cases p with
 | eptr t x c b =>
  simp only at hk
  split at hk
  ·rename_i l hw
   obtain ⟨a,⟨hok,vs,h1,h2⟩,rfl⟩ := hp
   rcases eN hw with ⟨rfl,hl,hle⟩ | ⟨h0,_⟩
   ·have h3 := c8 (ρ := ρ) h1
    refine ⟨_,a.add c,(vs.drop c).take n,hk,rfl,?_,(h3.drop c).take n,fun j v hv => ?_,fun d hd => ?_⟩
    ·rw [← ((h3.drop c).take n).length]; exact hl
    ·rw [List.getElem?_take] at hv
     split at hv
     ·rw [List.getElem?_drop] at hv
      rw [bx]
      exact h2 _ _ hv
     ·cases hv
    ·have := Ty.iV b d t x
     rw [List.any_eq_false] at this
     obtain ⟨c',hc',hd'⟩ := List.any_eq_true.1 hd
     exact absurd hd' (by simpa using this c' (List.mem_of_mem_drop (List.mem_of_mem_take hc')))
   ·omega
  ·cases hk
 | ptr j i c =>
  simp only at hk
  split at hk
  ·rename_i ty cs hg
   split at hk
   ·split at hk
    ·rename_i l hw
     obtain ⟨g,vs,h0,h1,h2⟩ := h.blk j _ hg
     rcases hp with ⟨_,g',h3,rfl⟩ | ⟨a,m,cp,g',sz,h3,_⟩
     ·rw [h0] at h3; cases h3
      rcases eN hw with ⟨rfl,hl,hle⟩ | ⟨h0,_⟩
      ·refine ⟨_,⟨g,c,none⟩,(vs.drop c).take n,hk,rfl,?_,(h2.drop c).take n,fun q v hv => ?_,fun d hd => ?_⟩
       ·rw [← ((h2.drop c).take n).length]; exact hl
       ·rw [List.getElem?_take] at hv
        split at hv
        ·rw [List.getElem?_drop] at hv
         rw [N0,cell_of_row w g (c + q) vs.toArray ty (0,0) h1]
         simpa using hv
        ·cases hv
       ·refine h.dom j _ d hg ?_
        obtain ⟨c',hc',hd'⟩ := List.any_eq_true.1 hd
        exact List.any_eq_true.2 ⟨c',List.mem_of_mem_drop (List.mem_of_mem_take hc'),hd'⟩
      ·omega
     ·rw [h0] at h3; cases h3
    ·cases hk
   ·cases hk
  ·rename_i e t l b hg
   split at hk
   ·rename_i x hx
    split at hk
    ·rename_i lc hw
     obtain ⟨v,g,xs,h0,h1,h2⟩ := h.blk j _ hg
     rcases hp with ⟨_,g',h3,rfl⟩ | ⟨a,m,cp,g',sz,h3,rfl⟩
     ·rw [h0] at h3; cases h3
     ·rw [h0] at h3; cases h3
      rcases eN hw with ⟨rfl,hl,hle⟩ | ⟨h0',_⟩
      ·have h4 := c8 (ρ := ρ) (h1.2 i x hx)
       cases g with
       | none => obtain ⟨rfl,_⟩ := h2; simp at hx
       | some g =>
        obtain ⟨h2,h5⟩ := h2
        have ha : a = ⟨g,0,none⟩ := by
         rcases h2.2 with ⟨h6,_⟩ | ⟨g',cap,cur,h6,_⟩
         ·cases h6
         ·cases h6
          simp only [Value.ownBlock,Option.some.injEq] at h5
          rw [h5]
        subst ha
        refine ⟨_,(⟨g,0,none⟩ : Addr).add (i * t.sz + c),((((xs.drop (i * t.sz)).take t.sz).drop c).take n),hk,rfl,?_,(h4.drop c).take n,fun q v hv => ?_,fun d hd => ?_⟩
        ·rw [← ((h4.drop c).take n).length]; exact hl
        ·rw [List.getElem?_take] at hv
         split at hv
         ·rw [List.getElem?_drop,List.getElem?_take] at hv
          split at hv
          ·rw [List.getElem?_drop] at hv
           rw [bx,Nat.add_assoc]
           exact h2.cells h5 _ _ hv
          ·cases hv
         ·cases hv
        ·have := Ty.iV b d t x
         rw [List.any_eq_false] at this
         obtain ⟨c',hc',hd'⟩ := List.any_eq_true.1 hd
         exact absurd hd' (by simpa using this c' (List.mem_of_mem_drop (List.mem_of_mem_take hc')))
      ·omega
    ·cases hk
   ·cases hk
  ·cases hk
 | np j i c =>
  simp only at hk
  split at hk
  ·rename_i e t l hg
   split at hk
   ·rename_i x hx
    split at hk
    ·rename_i lc hw
     obtain ⟨v,g,hd,xs,h0,hN⟩ := h.blk j _ hg
     obtain ⟨a,m,cp,g',sz,hd',h3,rfl⟩ := hp
     rw [h0] at h3; cases h3
     rcases eN hw with ⟨rfl,hl,hle⟩ | ⟨h0',_⟩
     ·obtain ⟨hs,hh,hR⟩ := hN.el i x hx
      have h4 := pF h0 hh hR (k := 0) (fun m q hm => by rw [Nat.zero_add]; exact hm)
      have hpos : 0 < l.length := Nat.lt_of_le_of_lt (Nat.zero_le _) (List.getElem?_eq_some_iff.1 hx).1
      obtain ⟨k,cur,rfl,rfl,rfl,_,_,_,_,_,_,hown⟩ := hN.own.block hpos
      refine ⟨_,(⟨k,0,none⟩ : Addr).add (i * t.sz + c),((((xs.drop (i * t.sz)).take t.sz).drop c).take n),hk,rfl,?_,(h4.drop c).take n,fun q v hv => ?_,fun d hd => ?_⟩
      ·rw [← ((h4.drop c).take n).length]; exact hl
      ·rw [List.getElem?_take] at hv
       split at hv
       ·rw [List.getElem?_drop,List.getElem?_take] at hv
        split at hv
        ·rw [List.getElem?_drop] at hv
         rw [bx,Nat.add_assoc]
         exact hown.cells rfl _ _ hv
        ·cases hv
       ·cases hv
      ·obtain ⟨c',hc',hd'⟩ := List.any_eq_true.1 hd
       have := kd j i d t x 0 (List.any_eq_true.2 ⟨c',List.mem_of_mem_drop (List.mem_of_mem_take hc'),hd'⟩)
       rw [this,hg]; rfl
     ·omega
    ·cases hk
   ·cases hk
  ·cases hk
 | _ => cases hk
end
end Go.Proofs.YtcddhifkfakcjaaGreat.Lib
namespace Go.Proofs.YtcddhifkfakcjaaGreat.Lib
open Go Go.RowKit
set_option linter.unusedVariables false
set_option linter.unusedSimpArgs false
section
variable {P : Program} {E : Env} {B : Nat} {O : Ow} {w0 w w' : World} {ρ : al} {a : Act} {R : Type} {r : R} {sg : Sig} {st : St}
theorem Be {t : TypeId} {i : TI} (h : TI.Ok P t i) {cs : Array Value} {off : Nat} {vs : List Value} (hv : vs = (cs.toList.drop off).take i.sz) (hl : off + i.sz <= cs.size) {v : Value} (hr : (i.agg = true /\ v = .agg vs.toArray) ∨ (i.agg = false /\ vs = [v])) : (part t cs off).run P w = .ok v w := by
 unfold part
 rw [Sem.run_bind,EW h w,Result.andThen_ok]
 rcases hr with ⟨hg,rfl⟩ | ⟨hg,rfl⟩
 ·rw [hg,if_pos rfl,Sem.run_bind,iw h w,Result.andThen_ok]
  have : cs.extract off (off + i.sz) = vs.toArray := by
   apply Array.ext'
   rw [hv,Array.toList_extract,List.extract_eq_take_drop]
   congr 1
   omega
  rw [this]
  rfl
 ·rw [hg,if_neg (by simp)]
  have h1 : cs[off]? = some v := by
   have h2 : ((cs.toList.drop off).take i.sz)[0]? = some v := by rw [← hv]; rfl
   rw [List.getElem?_take] at h2
   split at h2
   ·rw [List.getElem?_drop] at h2
    simpa using h2
   ·cases h2
  rw [h1]
  rfl
theorem Ar {t : TypeId} {i : TI} (h : TI.Ok P t i) (hg : i.agg = false) (hs : i.sz = 1) {pre vs : List Value} {v : Value} {off : Nat} (ho : off = pre.length) : (part t (pre ++ v :: vs).toArray off).run P w = .ok v w := by
 subst ho
 refine Be h (vs := [v]) ?_ ?_ (.inr ⟨hg,rfl⟩)
 ·rw [hs]; simp
 ·rw [hs]; simp
theorem nx (hE : Env.Ok P E) (d : Nat) : ∀ (fs : List Field) (n : Nat) (pre pre' vs us : List Value) (cs ds : List Cell) (b : Bool), pre.length = n -> pre'.length = n -> (∀ f ∈ fs, f.name ≠ "_") ->
  fg E (fs.map fun f => (f.type,f.offset)) n cs ds = some b -> aF (rc ρ w) cs vs -> aF (rc ρ w) ds us -> (Op.eqFields (d + 1) (pre ++ vs).toArray (pre' ++ us).toArray fs).run P w = .ok b w
 | [],n,pre,pre',vs,us,cs,ds,b,_,_,_,h,_,_ => by
  simp only [List.map_nil,fg] at h
  split at h
  ·cases h
   simp [Op.eqFields]
  ·cases h
 | f :: fs,n,pre,pre',vs,us,cs,ds,b,hp,hp',hn,h,hc,hd => by
  simp only [List.map_cons,fg] at h
  split at h
  ·rename_i c cs d' ds
   cases hc with
   | @cons _ v _ vs hv hvs =>
   cases hd with
   | @cons _ u _ us hu hus =>
   simp only [aq,beq_iff_eq] at h
   split at h
   ·rename_i hoff
    have fin : ∀ (i : TI) (r0 r1 : Bool),TI.Ok P f.type i -> i.agg = false -> i.sz = 1 -> (Op.equalIn (d + 1) f.type v u).run P w = .ok r0 w -> fg E (fs.map fun f => (f.type,f.offset)) (n + 1) cs ds = some r1 -> b = (r0 && r1) ->
      (Op.eqFields (d + 1) (pre ++ v :: vs).toArray (pre' ++ u :: us).toArray (f :: fs)).run P w = .ok b w := by
     intro i r0 r1 hi hg hs heq hrest hb
     have ih := nx hE d fs (n + 1) (pre ++ [v]) (pre' ++ [u]) vs us cs ds r1 (by simp [hp]) (by simp [hp']) (fun f hf => hn f (List.mem_cons_of_mem _ hf)) hrest hvs hus
     simp only [List.append_assoc,List.singleton_append] at ih
     simp only [Op.eqFields]
     rw [if_pos (hn f List.mem_cons_self)]
     rw [Sem.run_bind,Ar hi hg hs (hoff.trans hp.symm),Result.andThen_ok,Sem.run_bind,Ar hi hg hs (hoff.trans hp'.symm),Result.andThen_ok,Sem.run_bind,heq,Result.andThen_ok,hb]
     cases r0
     ·simp
     ·simp only [Bool.not_true,Bool.false_eq_true,if_false,Bool.true_and]
      exact ih
    have scal : ∀ (sz by_ : Nat) (τ : Ty),E.ti.lookup f.type = some ⟨.scal,sz,by_,some τ⟩ -> (match τ with | .int _ | .bool | .str => True | _ => False) -> TI.Ok P f.type ⟨.scal,sz,by_,some τ⟩ /\ sz = 1 := by
     intro sz by_ τ hl hτ
     have hi := hE.ti _ _ hl
     obtain ⟨ti,_,h2,_,h4⟩ := hi.info
     have := (h4 τ rfl).1
     refine ⟨hi,this.symm.trans ?_⟩
     cases τ <;> first | rfl | exact hτ.elim
    split at h
    ·rename_i sz by_ k0 hl
     obtain ⟨hi,h1⟩ := scal sz by_ _ hl trivial
     obtain ⟨_,h2,h3⟩ := hi.und
     simp only at h3
     subst h3
     split at h
     ·rename_i k a k' b'
      split at h
      ·rename_i hk
       subst hk
       split at h
       ·rename_i r1 hr
        cases h
        have hv : v = .int k a := hv
        have hu : u = .int k b' := hu
        subst hv; subst hu
        exact fin _ _ r1 hi rfl h1 (run_equalIn_int w d f.type k k0 a b' h2) hr rfl
       ·cases h
      ·cases h
     ·cases h
    ·rename_i sz by_ hl
     obtain ⟨hi,h1⟩ := scal sz by_ _ hl trivial
     obtain ⟨_,h2,h3⟩ := hi.und
     simp only at h3
     subst h3
     split at h
     ·rename_i a b'
      split at h
      ·rename_i r1 hr
       cases h
       have hv : v = .bool a := hv
       have hu : u = .bool b' := hu
       subst hv; subst hu
       exact fin _ _ r1 hi rfl h1 (run_equalIn_bool' w d f.type a b' h2) hr rfl
      ·cases h
     ·cases h
    ·rename_i sz by_ hl
     obtain ⟨hi,h1⟩ := scal sz by_ _ hl trivial
     obtain ⟨_,h2,h3⟩ := hi.und
     simp only at h3
     subst h3
     split at h
     ·rename_i a b'
      split at h
      ·rename_i r1 hr
       cases h
       have hv : v = .string a := hv
       have hu : u = .string b' := hu
       subst hv; subst hu
       exact fin _ _ r1 hi rfl h1 (run_equalIn_string w d f.type a b' h2) hr rfl
      ·cases h
     ·cases h
    ·cases h
   ·cases h
  ·cases h
theorem yo (hE : Env.Ok P E) {t : TypeId} {fs : List (TypeId × Nat)} {sz by_ : Nat} {ty : Option Ty} (ht : E.ti.lookup t = some ⟨.struct fs,sz,by_,ty⟩) (hq : E.eqt.contains t = true) {cs ds : List Cell} {b : Bool} (h : fg E fs 0 cs ds = some b) {vs us : List Value} (hc : aF (rc ρ w) cs vs) (hd : aF (rc ρ w) ds us) :
  (∀ op x y,(eqGuard op t x y (.agg vs.toArray) (.agg us.toArray)).run P w = .ok () w) /\ (Op.equalIn 10000 t (.agg vs.toArray) (.agg us.toArray)).run P w = .ok b w := by
 obtain ⟨h1,h2,h3⟩ := hE.eqt t (by simpa using hq)
 obtain ⟨_,h4,h5⟩ := (hE.ti _ _ ht).und
 simp only at h5
 obtain ⟨fa,rfl,rfl,_⟩ := h5
 have hfo : P.fieldsOf t = fa := by unfold Program.fieldsOf; rw [h4]
 refine ⟨fun op x y => run_eqGuard_agg w op t x y _ _ h2,?_⟩
 rw [run_equalIn_struct w 9999 t _ _ (by rw [hfo]; exact h4) h1,hfo]
 exact nx hE 9998 fa.toList 0 [] [] vs us cs ds b rfl rfl (h3 fa h4) h hc hd
theorem qZ : ∀ (l : List Value) (k off : Nat) (cs : Array Value),off + k + l.length <= cs.size -> ((l.zipIdx k).foldl (fun cs x => cs.setIfInBounds (off + x.2) x.1) cs).toList = cs.toList.take (off + k) ++ l ++ cs.toList.drop (off + k + l.length)
 | [],k,off,cs,h => by simp
 | v :: l,k,off,cs,h => by
  simp only [List.length_cons] at h
  simp only [List.zipIdx_cons,List.foldl_cons,List.length_cons]
  rw [qZ l (k + 1) off _ (by simp only [Array.size_setIfInBounds]; omega)]
  apply List.ext_getElem?
  intro i
  simp only [Array.toList_setIfInBounds,List.append_assoc]
  have hlen : (cs.toList.take (off + k)).length = off + k := by simp; omega
  have hlen' : ((cs.toList.set (off + k) v).take (off + (k + 1))).length = off + k + 1 := by simp; omega
  rcases Nat.lt_trichotomy i (off + k) with hi | hi | hi
  ·rw [List.getElem?_append_left (by omega),List.getElem?_append_left (by omega),List.getElem?_take,if_pos (by omega),List.getElem?_take,if_pos hi,List.getElem?_set_ne (by omega)]
  ·subst hi
   rw [List.getElem?_append_left (by omega),List.getElem?_append_right (by omega),hlen,Nat.sub_self,List.getElem?_take,if_pos (by omega),List.getElem?_set_self (by simp; omega)]
   rfl
  ·have A : ((cs.toList.set (off + k) v).take (off + (k + 1)) ++ (l ++ (cs.toList.set (off + k) v).drop (off + (k + 1) + l.length)))[i]? = (l ++ (cs.toList.set (off + k) v).drop (off + (k + 1) + l.length))[i - (off + k + 1)]? := by
    rw [List.getElem?_append_right (by omega),hlen']
   have B : (cs.toList.take (off + k) ++ (v :: l ++ cs.toList.drop (off + k + (l.length + 1))))[i]? = (l ++ cs.toList.drop (off + k + (l.length + 1)))[i - (off + k + 1)]? := by
    rw [List.getElem?_append_right (by omega),hlen,show i - (off + k) = (i - (off + k + 1)) + 1 by omega,List.cons_append,List.getElem?_cons_succ]
   rw [A,B]
   by_cases h2 : i - (off + k + 1) < l.length
   ·rw [List.getElem?_append_left h2,List.getElem?_append_left h2]
   ·rw [List.getElem?_append_right (by omega),List.getElem?_append_right (by omega),List.getElem?_drop,List.getElem?_drop,List.getElem?_set_ne (by omega)]
    congr 1
    omega
theorem zx (v : Array Value) (off : Nat) (cs : Array Value) (h : off + v.size <= cs.size) : (v.zipIdx.foldl (fun cs (x : Value × Nat) => cs.setIfInBounds (off + x.2) x.1) cs).toList = cs.toList.take off ++ v.toList ++ cs.toList.drop (off + v.size) := by
 rw [← Array.foldl_toList,Array.toList_zipIdx]
 have := qZ v.toList 0 off cs (by simpa using h)
 simpa using this
end
end Go.Proofs.YtcddhifkfakcjaaGreat.Lib
namespace Go.Proofs.YtcddhifkfakcjaaGreat.Lib
open Go Go.RowKit
set_option linter.unusedVariables false
set_option linter.unusedSimpArgs false
section
variable {P : Program} {E : Env} {B : Nat} {O : Ow} {w0 w : World} {ρ : al} {st : St} {a : Act} {R : Type} {r : R}
theorem ON (h : Sim P B O w0 ρ st a w) {o : Oper} {c x y : Operand} (ho : o.op = .pick c x y) {k : AV -> Sig -> Option R} (hk : qop E st.sg (au st.sl) o.dst o.op k = some r) : QOk P ρ st.sg a w o k r := by
 have run : ∀ b,a.eval c = .bool b -> (execOp a.eval o).run P w = .ok (.value (if b then a.eval x else a.eval y)) w := by
  intro b hb
  unfold execOp
  simp [ho,hb,asBool,Sem.run_bind]
 rw [ho] at hk
 simp only [qop] at hk
 have hc := (h.eval c).1
 split at hk
 ·rename_i p q hp hq
  split at hk
  ·rename_i v hv
   rw [hv] at hc
   have hx := (h.eval x).1
   have hy := (h.eval y).1
   rw [hp] at hx
   rw [hq] at hy
   refine QOk.same hk (run v hc) ?_ (fun d hd => by cases hd)
   have hx : a.eval x = .bool p := hx
   have hy : a.eval y = .bool q := hy
   cases v <;> simp [rav,rc,hx,hy]
  ·cases hk
 ·split at hk
  ·rename_i hv
   rw [hv] at hc
   exact QOk.same hk (run true hc) (h.eval x).1 (h.eval x).2
  ·rename_i hv
   rw [hv] at hc
   exact QOk.same hk (run false hc) (h.eval y).1 (h.eval y).2
  ·cases hk
theorem Mz {d : Nat} {t : TypeId} {cs : List Cell} {vs : List Value} (h : Sim P B O w0 ρ st a w) {o : Oper} (hd : o.dst = some d) (hn : st.sg.get d = none /\ d < PIN) {k : AV -> Sig -> Option R} (hk : k (.one (.ptr d 0 0)) [(d,.box t cs)] = some r)
  (hr : (execOp a.eval o).run P w = .ok (.value (.pointer (some ⟨w.heap.size,0,none⟩))) (w.alloc (.cells vs.toArray t))) (hv : aF (rc ρ w) cs vs) (hu : ∀ x,cs.any (·.ae x) = true -> (st.sg.get x).isSome = true) : QOk P ρ st.sg a w o k r := by
 have hb : Below w.heap.size w (w.alloc (.cells vs.toArray t)) := (Below.refl _ _).alloc (Nat.le_refl _) _
 refine ⟨_,_,_,_,hk,hr,.inr (.inl ⟨d,_,.box w.heap.size,hd,hn,rfl,hb,?_,?_,?_,hu,fun g hg => Nat.le_of_eq hg.symm⟩)⟩
 ·refine ⟨w.heap.size,vs,al.ba _ _ _,heap_alloc_new w _,dD (U := fun j => j ≠ d) ⟨fun j hj => al.cT ρ _ hj,fun _ _ h => h,fun b g hg => hb.block g (h.mem.okb b g hg)⟩ (fun j hj e => ?_) hv⟩
  have := hu j hj
  rw [e,hn.1] at this
  cases this
 ·exact .inl ⟨rfl,_,al.ba _ _ _,rfl⟩
 ·intro x hx
  have hx : (d == x) = true := hx
  exact (eq_of_beq hx).symm
theorem K3 (hE : Env.Ok P E) (h : Sim P B O w0 ρ st a w) {o : Oper} {t : TypeId} (ho : o.op = .alloc t) {k : AV -> Sig -> Option R} (hk : qop E st.sg (au st.sl) o.dst o.op k = some r) : QOk P ρ st.sg a w o k r := by
 rw [ho] at hk
 simp only [qop] at hk
 split at hk
 ·rename_i d td sz by_ τ hd ht
  rw [aq] at hk
  split at hk
  ·rename_i hn
   obtain ⟨z,hz,hrun⟩ := H8 (hE.ti _ _ ht) rfl w
   refine Mz h hd (Sig.a8.1 hn) hk (vs := τ.zv) ?_ (EK τ) (fun x hx => by rw [qG] at hx; cases hx)
   unfold execOp
   simp [ho,Instr.alloc,Sem.run_bind,hrun,newVar,newRow,hz]
  ·cases hk
 ·cases hk
theorem PW (hE : Env.Ok P E) (h : Sim P B O w0 ρ st a w) {o : Oper} {t : TypeId} {x : Operand} (ho : o.op = .box t x) {k : AV -> Sig -> Option R} (hk : qop E st.sg (au st.sl) o.dst o.op k = some r) : QOk P ρ st.sg a w o k r := by
 rw [ho] at hk
 simp only [qop] at hk
 split at hk
 ·rename_i d i cs hd ht hc
  rw [aq] at hk
  split at hk
  ·rename_i hn
   simp only [Bool.and_eq_true,Sig.a8] at hn
   obtain ⟨vs,h1,h2,_,h3⟩ := fv h.mem (h.eval x).1 hc (h.eval x).2
   refine Mz h hd hn.1 hk (vs := vs) ?_ h2 (fun j hj => (h.eval x).2 j (h3 j hj))
   unfold execOp
   simp [ho,Instr.box,Sem.run_bind,newVar,newRow,h1]
  ·cases hk
 ·cases hk
theorem Om (hE : Env.Ok P E) (h : Sim P B O w0 ρ st a w) {o : Oper} {t : TypeId} {x : Operand} (ho : o.op = .load t x) {k : AV -> Sig -> Option R} (hk : qop E st.sg (au st.sl) o.dst o.op k = some r) : QOk P ρ st.sg a w o k r := by
 rw [ho] at hk
 simp only [qop] at hk
 split at hk
 ·rename_i p i hp ht
  rw [aq] at hk
  split at hk
  ·rename_i hz
   have hx := (h.eval x).1
   rw [hp] at hx
   obtain ⟨cs,ad,vs,hk,hu,hl,hr,hc,hd⟩ := jo h.mem hk hx (by simpa [Nat.pos_iff_ne_zero] using hz)
   split at hk
   ·rename_i v hv
    have hrun : ∀ u,((i.agg = true /\ u = .agg vs.toArray) ∨ (i.agg = false /\ vs = [u])) -> (execOp a.eval o).run P w = .ok (.value u) w := by
     intro u hv
     have := s6 (hE.ti _ _ ht) hl hc hv
     unfold execOp
     simp [ho,hu,Instr.loadAt,Instr.sureAddr,Sem.run_bind,this]
    rcases eU hv with ⟨hg,rfl⟩ | ⟨hg,c,rfl,rfl⟩
    ·exact QOk.same hk (hrun _ (.inl ⟨hg,rfl⟩)) ⟨vs,rfl,hr⟩ hd
    ·obtain ⟨u,rfl,hr1⟩ := hr.single
     exact QOk.same hk (hrun _ (.inr ⟨hg,rfl⟩)) hr1 (fun d hx => hd d (by simpa [AV.ae] using hx))
   ·cases hk
  ·cases hk
 ·cases hk
theorem US (h : Sim P B O w0 ρ st a w) {o : Oper} {x : Operand} (ho : o.op = .nilCheck x) {k : AV -> Sig -> Option R} (hk : qop E st.sg (au st.sl) o.dst o.op k = some r) : QOk P ρ st.sg a w o k r := by
 rw [ho] at hk
 simp only [qop] at hk
 have hx := (h.eval x).1
 have hu := (h.eval x).2
 split at hk <;> rename_i hp
 ·rw [hp] at hx hu
  refine QOk.same hk (u := a.eval x) ?_ hx hu
  unfold execOp
  rcases hx with ⟨_,g,_,h2⟩ | ⟨_,_,_,_,_,_,h2⟩ <;> simp [ho,h2]
 ·rw [hp] at hx hu
  refine QOk.same hk (u := a.eval x) ?_ hx hu
  unfold execOp
  obtain ⟨_,_,h2⟩ := hx
  simp [ho,h2]
 ·rw [hp] at hx hu
  refine QOk.same hk (u := a.eval x) ?_ hx hu
  unfold execOp
  obtain ⟨_,_,_,_,_,_,_,h2⟩ := hx
  simp [ho,h2]
 ·rw [hp] at hx hu
  refine QOk.same hk (u := a.eval x) ?_ hx hu
  unfold execOp
  obtain ⟨_,h2,_⟩ := hx
  simp [ho,h2]
 ·rw [hp] at hx hu
  refine QOk.same hk (u := a.eval x) ?_ hx hu
  unfold execOp
  obtain ⟨_,h2,_⟩ := hx
  simp [ho,h2]
 ·cases hk
theorem zj {op : BinOp} {k : IntKind} {x y : Int} {kk : Cell -> Option R} (hk : kr op k x y kk = some r) :
  ∃ c u,kk c = some r /\ rc ρ w c u /\ (∀ d,c.ae d = false) /\ ((op = .shl ∨ op = .shr) -> ∀ yk,(Op.shift op k x yk y).run P w = .ok u w) /\ (¬ (op = .shl ∨ op = .shr) -> (match op with
   | .add | .sub | .mul => Op.intArith op k x y
   | .quo | .rem => Op.intDiv op k x y
   | .and | .or | .xor | .andNot => Op.intBits op k x y
   | _ => Op.intCmp op x y).run P w = .ok u w) := by
 cases op <;> simp only [kr] at hk
 case quo =>
  split at hk
  ·cases hk
  ·rename_i h0; exact ⟨_,_,hk,rfl,fun _ => rfl,by simp,fun _ => by simp [Op.intDiv,h0]⟩
 case rem =>
  split at hk
  ·cases hk
  ·rename_i h0; exact ⟨_,_,hk,rfl,fun _ => rfl,by simp,fun _ => by simp [Op.intDiv,h0]⟩
 case shl =>
  split at hk
  ·cases hk
  ·rename_i h0; exact ⟨_,_,hk,rfl,fun _ => rfl,fun _ _ => by simp [Op.shift,h0],by simp⟩
 case shr =>
  split at hk
  ·cases hk
  ·rename_i h0; exact ⟨_,_,hk,rfl,fun _ => rfl,fun _ _ => by simp [Op.shift,h0],by simp⟩
 all_goals first | cases hk | exact ⟨_,_,hk,rfl,fun _ => rfl,by simp,fun _ => rfl⟩
theorem Sq (hE : Env.Ok P E) (h : Sim P B O w0 ρ st a w) {o : Oper} {op : BinOp} {t t' : TypeId} {x y : Operand} (ho : o.op = .binOp op t x y t') {k : AV -> Sig -> Option R} (hs : qop E st.sg (au st.sl) o.dst o.op k = some r) : QOk P ρ st.sg a w o k r := by
 rw [ho] at hs
 simp only [qop] at hs
 have run : ∀ u,((eqGuard op t x y (a.eval x) (a.eval y)).run P w = .ok () w) -> (binOp op t (a.eval x) (a.eval y)).run P w = .ok u w -> (execOp a.eval o).run P w = .ok (.value u) w := by
  intro u h1 h2
  unfold execOp
  simp [ho,Sem.run_bind,h1,h2]
 have hx := (h.eval x).1
 have hy := (h.eval y).1
 split at hs
 ·rename_i p q hc hd
  rw [hc] at hx
  rw [hd] at hy
  have hx' : a.eval x = .bool p := hx
  have hy' : a.eval y = .bool q := hy
  rw [aq] at hs
  split at hs
  ·rename_i hbt
   have hu : P.underlying t = some .bool := by
    unfold I5 at hbt
    split at hbt
    ·rename_i sz by_ ht
     obtain ⟨d,h1,h2⟩ := (hE.ti _ _ ht).und
     simp only at h2
     rw [h1,h2]
    ·cases hbt
   have hg : (eqGuard op t x y (a.eval x) (a.eval y)).run P w = .ok () w := by
    rw [hx',hy']
    unfold eqGuard
    cases op <;> rfl
   have heq : (Op.equal t (.bool p) (.bool q)).run P w = .ok (p == q) w := by
    unfold Op.equal Op.maxDepth
    rw [show (10000 : Nat) = 9999 + 1 from rfl]
    unfold Op.equalIn
    rw [Sem.run_bind,run_underlying hu w]
    rfl
   split at hs
   ·refine QOk.same hs (u := .bool (p == q)) (run _ hg ?_) rfl (fun d hd => by cases hd)
    rw [hx',hy']
    simp [binOp,Sem.run_bind,heq]
   ·refine QOk.same hs (u := .bool (!(p == q))) (run _ hg ?_) rfl (fun d hd => by cases hd)
    rw [hx',hy']
    simp [binOp,Sem.run_bind,heq]
   ·cases hs
  ·cases hs
 ·rename_i c d hc hd
  rw [hc] at hx
  rw [hd] at hy
  unfold gQ at hs
  split at hs
  ·rename_i k' p k'' q
   have hx : a.eval x = .int k' p := hx
   have hy : a.eval y = .int k'' q := hy
   have hg : (eqGuard op t x y (a.eval x) (a.eval y)).run P w = .ok () w := by
    rw [hx,hy]
    unfold eqGuard
    cases op <;> rfl
   have key : (op = .shl ∨ op = .shr) ∨ (¬ (op = .shl ∨ op = .shr) /\ k' = k'') -> kr op k' p q (fun c => k (.one c) []) = some r -> QOk P ρ st.sg a w o k r := by
    intro hop hi
    obtain ⟨c,u,hk,hr,hn,h1,h2⟩ := zj (P := P) (ρ := ρ) (w := w) hi
    refine QOk.same hk (run u hg ?_) hr (fun d hd => by rw [show AV.ae d (.one c) = c.ae d from rfl,hn] at hd; cases hd)
    rw [hx,hy]
    rcases hop with hop | ⟨hop,rfl⟩
    ·have := h1 hop k''
     rcases hop with rfl | rfl <;> simpa [binOp] using this
    ·have := h2 hop
     cases op <;> first | (simp at hop; done) | simpa [binOp] using this
   split at hs
   ·exact key (.inl (.inl rfl)) hs
   ·exact key (.inl (.inr rfl)) hs
   ·rename_i n1 n2
    split at hs
    ·rename_i he
     exact key (.inr ⟨by rintro (rfl | rfl) <;> simp_all,he⟩) hs
    ·cases hs
  ·rename_i p q
   have hx : a.eval x = .string p := hx
   have hy : a.eval y = .string q := hy
   have hg : (eqGuard op t x y (a.eval x) (a.eval y)).run P w = .ok () w := by
    rw [hx,hy]
    unfold eqGuard
    cases op <;> rfl
   unfold tc at hs
   split at hs
   ·split at hs
    ·rename_i hle
     refine QOk.same hs (u := .string (p ++ q)) (run _ hg ?_) rfl (fun d hd => by cases hd)
     rw [hx,hy]
     have : ¬ ((p.size + q.size : Nat) : Int) > IntKind.i64.max := by
      have : IntKind.i64.max = 9223372036854775807 := rfl
      omega
     simp only [binOp,Op.stringOp]
     rw [if_neg this]
     rfl
    ·cases hs
   ·refine QOk.same hs (u := .bool (p.toList == q.toList)) (run _ hg ?_) rfl (fun d hd => by cases hd)
    rw [hx,hy]
    rfl
   ·refine QOk.same hs (u := .bool (!(p.toList == q.toList))) (run _ hg ?_) rfl (fun d hd => by cases hd)
    rw [hx,hy]
    rfl
   ·cases hs
  ·cases hs
 ·rename_i cs ds hc hd
  rw [hc] at hx
  rw [hd] at hy
  obtain ⟨vs,hx,hvs⟩ := hx
  obtain ⟨us,hy,hus⟩ := hy
  simp only [aq] at hs
  split at hs
  ·rename_i hq
   split at hs
   ·rename_i fs sz by_ ty ht
    split at hs
    ·rename_i b hb
     obtain ⟨h1,h2⟩ := yo (w := w) hE ht hq hb hvs hus
     split at hs
     ·refine QOk.same hs (u := .bool b) (run _ (by rw [hx,hy]; exact h1 _ _ _) ?_) rfl (fun d hd => by cases hd)
      rw [hx,hy,run_eql_struct,h2]
      rfl
     ·refine QOk.same hs (u := .bool (!b)) (run _ (by rw [hx,hy]; exact h1 _ _ _) ?_) rfl (fun d hd => by cases hd)
      rw [hx,hy,run_neq_struct,h2]
      rfl
     ·cases hs
    ·cases hs
   ·cases hs
  ·cases hs
 ·cases hs
end
end Go.Proofs.YtcddhifkfakcjaaGreat.Lib
namespace Go.Proofs.YtcddhifkfakcjaaGreat.Lib
open Go Go.RowKit
set_option linter.unusedVariables false
set_option linter.unusedSimpArgs false
theorem Ty.eD : ∀ t : Ty,0 < t.sz
 | .int _ => Nat.one_pos | .bool => Nat.one_pos | .str => Nat.one_pos | .sl _ _ => Nat.one_pos | .nul _ => Nat.one_pos
 | .pair a b => by have := Ty.eD a; simp only [Ty.sz]; omega
theorem Ty.bY : ∀ t : Ty,t.zv.length = t.sz
 | .int _ => rfl | .bool => rfl | .str => rfl | .sl _ _ => rfl | .nul _ => rfl
 | .pair a b => by simp only [Ty.zv,Ty.sz,List.length_append,Ty.bY a,Ty.bY b]
theorem Ty.Bs : ∀ t : Ty,∀ u ∈ t.zv,u.oneCell' = true
 | .int _,u,h => by rw [List.mem_singleton.1 h]; rfl
 | .bool,u,h => by rw [List.mem_singleton.1 h]; rfl
 | .str,u,h => by rw [List.mem_singleton.1 h]; rfl
 | .sl _ _,u,h => by rw [List.mem_singleton.1 h]; rfl
 | .nul f,u,h => by rw [List.mem_singleton.1 h]; cases f <;> rfl
 | .pair a b,u,h => by
  rcases List.mem_append.1 h with h | h
  ·exact Ty.Bs a u h
  ·exact Ty.Bs b u h
theorem r7 (z : List Value) (hz : 0 < z.length) (n j : Nat) (hj : j < n) : ((madeCells z.toArray (n * z.length)).toList.drop (j * z.length)).take z.length = z := by
 have h1 : j * z.length + z.length <= n * z.length := by rw [← Nat.succ_mul]; exact Nat.mul_le_mul_right _ hj
 apply List.ext_getElem?
 intro i
 rw [List.getElem?_take]
 split
 ·rename_i hi
  rw [List.getElem?_drop]
  have h2 : j * z.length + i < n * z.length := by omega
  simp only [madeCells,Array.toList_map,List.getElem?_map,Array.toList_range,List.getElem?_range h2,Option.map_some]
  rw [List.size_toArray]
  have h3 : (j * z.length + i) % z.length = i := by rw [Nat.mul_comm,Nat.mul_add_mod,Nat.mod_eq_of_lt hi]
  rw [h3,List.getElem?_eq_getElem hi]
  simp [hi]
 ·rename_i hi
  rw [List.getElem?_eq_none (by omega)]
theorem Bh (ok : Nat -> Prop) (w : World) (t : Ty) (n : Nat) : bU ok w t (List.replicate n t.zero) (madeCells t.zv.toArray (n * t.sz)).toList := by
 refine ⟨by rw [Array.length_toList,size_madeCells,List.length_replicate],fun j p hp => ?_⟩
 have hj : j < n := by
  have := (List.getElem?_eq_some_iff.1 hp).1
  simpa using this
 have hp' : p = t.zero := by
  rw [List.getElem?_replicate,if_pos hj] at hp
  cases hp; rfl
 subst hp'
 have := r7 t.zv (by rw [Ty.bY]; exact Ty.eD t) n j hj
 rw [Ty.bY] at this
 rw [this]
 exact Rp.zero ok w t
section
variable {P : Program} {E : Env} {B : Nat} {O : Ow} {w0 w : World} {ρ : al} {st : St} {a : Act} {R : Type} {r : R}
theorem abI (h : Sim P B O w0 ρ st a w) {o : Oper} {op : UnOp} {t : TypeId} {x : Operand} (ho : o.op = .unOp op t x) {k : AV -> Sig -> Option R} (hk : qop E st.sg (au st.sl) o.dst o.op k = some r) : QOk P ρ st.sg a w o k r := by
 rw [ho] at hk
 simp only [qop] at hk
 split at hk
 ·rename_i c hc
  have hx := (h.eval x).1
  rw [hc] at hx
  unfold rG at hk
  split at hk
  ·have hx : a.eval x = _ := hx
   refine QOk.same hk (u := .bool (!_)) ?_ rfl (fun d hd => by cases hd)
   unfold execOp
   simp [ho,hx,Op.unary]
  ·have hx : a.eval x = _ := hx
   refine QOk.same hk (u := .int _ _) ?_ rfl (fun d hd => by cases hd)
   unfold execOp
   simp [ho,hx,Op.unary,Op.intArith]
  ·cases hk
 ·cases hk
theorem rM {t : TypeId} {sz by_ : Nat} {ty : Option Ty} {fs : List (TypeId × Nat)} (h : TI.Ok P t ⟨.struct fs,sz,by_,ty⟩) : ∃ fa : Array Field,P.underlying t = some (.struct fa) /\ fs = fa.toList.map (fun f => (f.type,f.offset)) /\ ∀ f ∈ fa.toList,∃ fi,P.info? f.type = some fi /\ fi.size ≠ 0 := by
 obtain ⟨d,h1,fa,rfl,h2,h3⟩ := h.und
 exact ⟨fa,h1,h2,h3⟩
theorem cg {t e : TypeId} {sz by_ : Nat} {ty : Option Ty} (h : TI.Ok P t ⟨.slice e,sz,by_,ty⟩) : P.underlying t = some (.slice e) := by
 obtain ⟨d,h1,h2⟩ := h.und
 simp only at h2
 rw [h1,h2]
theorem ni {t : TypeId} {sz by_ : Nat} (h : TI.Ok P t ⟨.scal,sz,by_,some .str⟩) : P.underlying t = some .string := by
 obtain ⟨d,h1,h2⟩ := h.und
 simp only at h2
 rw [h1,h2]
theorem EB (hE : Env.Ok P E) (h : Sim P B O w0 ρ st a w) {o : Oper} {t : TypeId} {x : Operand} {f : Nat} (ho : o.op = .fieldAddr t x f) {k : AV -> Sig -> Option R} (hk : qop E st.sg (au st.sl) o.dst o.op k = some r) : cW P ρ st.sg a w o k r := by
 rw [ho] at hk
 simp only [qop] at hk
 split at hk
 ·rename_i p fs sz by_ ty hp ht
  split at hk
  ·rename_i ft off hf
   obtain ⟨fa,hu,rfl,hz⟩ := rM (hE.ti _ _ ht)
   rw [List.getElem?_map,Option.map_eq_some_iff] at hf
   obtain ⟨fl,hfl,hf⟩ := hf
   simp only [Prod.mk.injEq] at hf
   obtain ⟨rfl,rfl⟩ := hf
   obtain ⟨fi,hi,hnz⟩ := hz fl (List.mem_of_getElem? hfl)
   have hfa : fa[f]? = some fl := by simpa using hfl
   have run : ∀ ad : Addr,a.eval x = .pointer (some ad) -> ∀ w,(execOp a.eval o).run P w = .ok (.value (.pointer (some (ad.add fl.offset)))) w := by
    intro ad had w2
    unfold execOp
    simp [ho,had,Instr.fieldAt,Sem.run_bind,run_underlying hu,hfa,Instr.sureAddr,fieldPlace,sizeOf,typeInfo,hi,hnz]
   have hx := (h.eval x).1
   have hd := (h.eval x).2
   rw [hp] at hx hd
   split at hk
   ·rename_i j i c
    rcases hx with ⟨h0,g,h1,h2⟩ | ⟨ad,m,cp,g,sz,h1,h2⟩
    ·refine cW.same hk (run _ h2) (.inl ⟨h0,g,h1,?_⟩) hd
     rw [N0]
    ·refine cW.same hk (run _ h2) (.inr ⟨ad,m,cp,g,sz,h1,?_⟩) hd
     rw [bx,Nat.add_assoc]
   ·obtain ⟨ad,h1,h2⟩ := hx
    refine cW.same hk (run _ h2) ⟨ad,h1,?_⟩ hd
    rw [bx]
   ·obtain ⟨ad,m,cp,g,sz,hd0,h1,h2⟩ := hx
    refine cW.same hk (run _ h2) ⟨ad,m,cp,g,sz,hd0,h1,?_⟩ hd
    rw [bx,Nat.add_assoc]
   ·cases hk
  ·cases hk
 ·cases hk
theorem LA (hE : Env.Ok P E) (h : Sim P B O w0 ρ st a w) {o : Oper} {t : TypeId} {x : Operand} {f : Nat} (ho : o.op = .fieldAddr t x f) {k : AV -> Sig -> Option R} (hk : qop E st.sg (au st.sl) o.dst o.op k = some r) : QOk P ρ st.sg a w o k r := (EB hE h ho hk).ok
theorem Mn (hE : Env.Ok P E) (h : Sim P B O w0 ρ st a w) {o : Oper} {t : TypeId} {x : Operand} {f : Nat} (ho : o.op = .field t x f) {k : AV -> Sig -> Option R} (hk : qop E st.sg (au st.sl) o.dst o.op k = some r) : QOk P ρ st.sg a w o k r := by
 rw [ho] at hk
 simp only [qop] at hk
 split at hk
 ·rename_i cs fs sz by_ ty hp ht
  split at hk
  ·rename_i ft off hf
   obtain ⟨fa,hu,rfl,hz⟩ := rM (hE.ti _ _ ht)
   rw [List.getElem?_map,Option.map_eq_some_iff] at hf
   obtain ⟨fl,hfl,hf⟩ := hf
   simp only [Prod.mk.injEq] at hf
   obtain ⟨rfl,rfl⟩ := hf
   obtain ⟨fi,hi,hnz⟩ := hz fl (List.mem_of_getElem? hfl)
   have hfa : fa[f]? = some fl := by simpa using hfl
   split at hk
   ·rename_i ti hft
    split at hk
    ·rename_i cs' hw
     split at hk
     ·rename_i v hv
      have hx := (h.eval x).1
      have hd := (h.eval x).2
      rw [hp] at hx hd
      obtain ⟨vs,hvs,hr⟩ := hx
      have hsz : ti.sz ≠ 0 := by
       obtain ⟨q,hq,hq2,_⟩ := (hE.ti _ _ hft).info
       rw [hi] at hq; cases hq
       rw [← hq2]; exact hnz
      rcases eN hw with ⟨rfl,hl,hle⟩ | ⟨h0,_⟩
      ·have hr' := (hr.drop fl.offset).take ti.sz
       have hlen : fl.offset + ti.sz <= vs.toArray.size := by rw [List.size_toArray,← hr.length]; exact hle
       have hd' : ∀ j,((cs.drop fl.offset).take ti.sz).any (·.ae j) = true -> (st.sg.get j).isSome = true := by
        intro j hj
        obtain ⟨c',hc',hd'⟩ := List.any_eq_true.1 hj
        exact hd j (List.any_eq_true.2 ⟨c',List.mem_of_mem_drop (List.mem_of_mem_take hc'),hd'⟩)
       have run : ∀ u,((ti.agg = true /\ u = .agg ((vs.drop fl.offset).take ti.sz).toArray) ∨ (ti.agg = false /\ (vs.drop fl.offset).take ti.sz = [u])) -> (execOp a.eval o).run P w = .ok (.value u) w := by
        intro u hu'
        have := Be (P := P) (w := w) (hE.ti _ _ hft) (cs := vs.toArray) (off := fl.offset) (vs := (vs.drop fl.offset).take ti.sz) rfl hlen hu'
        unfold execOp
        simp [ho,hvs,Instr.field,Sem.run_bind,run_underlying hu,hfa,asAgg,this]
       rcases eU hv with ⟨hg,rfl⟩ | ⟨hg,c,hc,rfl⟩
       ·exact QOk.same hk (run _ (.inl ⟨hg,rfl⟩)) ⟨_,rfl,hr'⟩ hd'
       ·rw [hc] at hr' hd'
        obtain ⟨u,hu',hr1⟩ := hr'.single
        exact QOk.same hk (run u (.inr ⟨hg,hu'⟩)) hr1 (fun j hj => hd' j (by simpa [AV.ae] using hj))
      ·exact absurd h0 hsz
     ·cases hk
    ·cases hk
   ·cases hk
  ·cases hk
 ·cases hk
theorem Ef (hE : Env.Ok P E) (h : Sim P B O w0 ρ st a w) {o : Oper} {t : TypeId} {x i : Operand} (ho : o.op = .indexAddr t x i) {k : AV -> Sig -> Option R} (hk : qop E st.sg (au st.sl) o.dst o.op k = some r) : cW P ρ st.sg a w o k r := by
 rw [ho] at hk
 simp only [qop] at hk
 split at hk
 ·rename_i c ik n e sz by_ ty hp hi ht
  split at hk
  ·rename_i ie he
   have hu := cg (hE.ti _ _ ht)
   have hx := (h.eval x).1
   have hd := (h.eval x).2
   have hy := (h.eval i).1
   rw [hp] at hx hd
   rw [hi] at hy
   have hy : a.eval i = .int ik n := hy
   have run : ∀ (ad : Addr) (len cap : Nat),a.eval x = .slice (some ad) len cap -> 0 <= n -> n < len -> ∀ w,(execOp a.eval o).run P w = .ok (.value (.pointer (some (ad.add (n.toNat * ie.sz))))) w := by
    intro ad len cap had h0 h1 w2
    unfold execOp
    simp [ho,had,hy,Instr.indexAt,Sem.run_bind,run_underlying hu,asIntOf,h0,h1,iw (hE.ti _ _ he)]
   have emb : ∀ {τ : Ty} {l : List τ.T} {b : Bool} {e' : TypeId} {y : τ.T},Rp (ρ.ok b) w (.sl e' τ) l [a.eval x] -> τ.sz = ie.sz -> 0 <= n -> l[n.toNat]? = some y -> k (.one (.eptr τ y 0 b)) [] = some r -> cW P ρ st.sg a w o k r := by
    intro τ l b e' y hr hz h0 hl hk
    simp only [Rp] at hr
    obtain ⟨A,cp,hv,hle,_,hr⟩ := hr
    simp only [List.cons.injEq,and_true] at hv
    have hlt := (List.getElem?_eq_some_iff.1 hl).1
    obtain ⟨ad,rfl,hok,hr⟩ := hr (by omega)
    obtain ⟨cs,hcl,hcr,hcc⟩ := hr _ _ hl
    refine cW.same hk (run ad _ cp hv h0 (by omega)) ⟨ad.add (n.toNat * ie.sz),⟨?_,cs,hcr,fun q u hq => ?_⟩,?_⟩ (fun d hd => by cases hd)
    ·have : (ad.add (n.toNat * ie.sz)).block = ad.block := by unfold Addr.add; split <;> rfl
     rw [this]; exact hok
    ·rw [bx,← hz]; exact hcc q u hq
    ·rw [bx,Nat.add_zero]
   unfold gF at hk
   split at hk
   ·rw [aq] at hk
    split at hk
    ·rename_i hz
     split at hk
     ·rename_i h0
      split at hk
      ·rename_i y hl
       exact emb hx (by simpa using hz) h0 hl hk
      ·cases hk
     ·cases hk
    ·cases hk
   ·rename_i j
    split at hk
    ·rename_i e' τ l b hg
     rw [aq] at hk
     split at hk
     ·rename_i hz
      split at hk
      ·rename_i h0
       split at hk
       ·rename_i hlt
        obtain ⟨v,g,xs,h1,h2,h3⟩ := h.mem.blk j _ hg
        obtain ⟨g',sz',h4⟩ := hx
        rw [h1] at h4; cases h4
        cases g with
        | none => obtain ⟨rfl,_⟩ := h3; simp at hlt; omega
        | some g =>
         rcases h3.1.2 with ⟨h5,h6⟩ | ⟨g',cap,cur,h5,_⟩
         ·omega
         ·refine cW.same hk (run _ _ _ h5 h0 hlt) (.inr ⟨_,_,_,_,_,h1.trans (by rw [h5]),?_⟩) hd
          rw [Nat.add_zero]
          simp only [beq_iff_eq] at hz
          rw [hz]
       ·cases hk
      ·cases hk
     ·cases hk
    ·rename_i e' τ l b hg
     rw [aq] at hk
     split at hk
     ·rename_i hz
      split at hk
      ·rename_i h0
       split at hk
       ·rename_i y hl
        obtain ⟨v,g,h1,h2⟩ := h.mem.blk j _ hg
        obtain ⟨g',sz',h4⟩ := hx
        rw [h1] at h4; cases h4
        exact emb h2 (by simpa using hz) h0 hl hk
       ·cases hk
      ·cases hk
     ·cases hk
    ·cases hk
   ·rename_i j
    split at hk
    ·rename_i e' τ l hg
     rw [aq] at hk
     split at hk
     ·rename_i hz
      split at hk
      ·rename_i h0
       split at hk
       ·rename_i hlt
        obtain ⟨v,g,hd',xs,h1,hN⟩ := h.mem.blk j _ hg
        obtain ⟨g',sz',hd2,h4⟩ := hx
        rw [h1] at h4; cases h4
        obtain ⟨k',c',rfl,h5⟩ := hN.own.form (by omega)
        refine cW.same hk (run _ _ _ h5 h0 hlt) ⟨_,_,_,_,_,_,h1.trans (by rw [h5]),?_⟩ hd
        rw [Nat.add_zero]
        simp only [beq_iff_eq] at hz
        rw [hz]
       ·cases hk
      ·cases hk
     ·cases hk
    ·cases hk
   ·rename_i j off len
    split at hk
    ·rename_i e' τ l b hg
     rw [aq] at hk
     split at hk
     ·rename_i hz
      split at hk
      ·rename_i h0
       split at hk
       ·rename_i hlt
        split at hk
        ·rename_i hlt2
         obtain ⟨v,g,xs,h1,h2,h3⟩ := h.mem.blk j _ hg
         obtain ⟨A,m,cp,g',sz',h4,h5,h6⟩ := hx
         rw [h1] at h4; cases h4
         simp only [beq_iff_eq] at hz
         cases g with
         | none => obtain ⟨rfl,_⟩ := h3; simp at hlt2
         | some g =>
          rcases h3.1.2 with ⟨h7,h8⟩ | ⟨g2,cap,cur,h7,_⟩
          ·omega
          ·cases h7
           rcases h6 with ⟨rfl,hv⟩ | ⟨_,_,ad,ha,hv⟩ | ⟨h9,_⟩
           ·refine cW.same hk (run _ _ _ hv h0 hlt) (.inr ⟨_,_,_,_,_,h1,?_⟩) hd
            rw [Nat.add_zero,Nat.zero_add,hz]
           ·cases ha
            refine cW.same hk (run _ _ _ hv h0 hlt) (.inr ⟨_,_,_,_,_,h1,?_⟩) hd
            rw [Nat.add_zero,Nat.add_mul,← hz,bx]
           ·subst h9
            omega
        ·cases hk
       ·cases hk
      ·cases hk
     ·cases hk
    ·cases hk
   ·cases hk
  ·cases hk
 ·cases hk
theorem Lv (hE : Env.Ok P E) (h : Sim P B O w0 ρ st a w) {o : Oper} {t : TypeId} {x i : Operand} (ho : o.op = .indexAddr t x i) {k : AV -> Sig -> Option R} (hk : qop E st.sg (au st.sl) o.dst o.op k = some r) : QOk P ρ st.sg a w o k r := (Ef hE h ho hk).ok
theorem LL (hE : Env.Ok P E) (h : Sim P B O w0 ρ st a w) {o : Oper} {t : TypeId} {x i : Operand} (ho : o.op = .index t x i) {k : AV -> Sig -> Option R} (hk : qop E st.sg (au st.sl) o.dst o.op k = some r) : QOk P ρ st.sg a w o k r := by
 rw [ho] at hk
 simp only [qop] at hk
 split at hk
 ·rename_i s ik n hp hi
  rw [aq] at hk
  split at hk
  ·rename_i hs
   have hu : P.underlying t = some .string := by
    unfold NA at hs
    split at hs
    ·rename_i ht; exact ni (hE.ti _ _ ht)
    ·cases hs
   have hx := (h.eval x).1
   have hy := (h.eval i).1
   rw [hp] at hx
   rw [hi] at hy
   have hx : a.eval x = .string s := hx
   have hy : a.eval i = .int ik n := hy
   split at hk
   ·rename_i h0
    split at hk
    ·rename_i b hb
     refine QOk.same hk (u := .int .u8 b.toNat) ?_ rfl (fun d hd => by cases hd)
     unfold execOp
     simp [ho,hx,hy,Instr.index,Sem.run_bind,run_underlying hu,asIntOf,h0,hb]
    ·cases hk
   ·cases hk
  ·cases hk
 ·cases hk
theorem cR {R : Type} {r : R} {len : Nat} {lo hi : Option Int} {k : Nat -> Nat -> Option R} (h : e7 len lo hi k = some r) : ∃ p q,p <= q /\ q <= len /\ k p q = some r /\ (∀ {S : Type} (f : Nat -> Nat -> Option S),e7 len lo hi f = f p q) /\
  ((lo = none /\ p = 0) ∨ ∃ n,lo = some n /\ 0 <= n /\ p = n.toNat) /\ ((hi = none /\ q = len) ∨ ∃ n,hi = some n /\ 0 <= n /\ q = n.toNat) := by
 have lo_ : ∀ hh,nU lo hh k = some r -> ∃ p,p <= hh /\ k p hh = some r /\ (∀ {S : Type} (f : Nat -> Nat -> Option S),nU lo hh f = f p hh) /\ ((lo = none /\ p = 0) ∨ ∃ n,lo = some n /\ 0 <= n /\ p = n.toNat) := by
  intro hh h
  cases lo with
  | none => exact ⟨0,Nat.zero_le _,h,fun f => rfl,.inl ⟨rfl,rfl⟩⟩
  | some l =>
   simp only [nU] at h
   split at h
   ·rename_i h0
    split at h
    ·rename_i h1
     exact ⟨l.toNat,by omega,h,fun f => by simp only [nU,if_pos h0,if_pos h1],.inr ⟨l,rfl,h0,rfl⟩⟩
    ·cases h
   ·cases h
 cases hi with
 | none =>
  obtain ⟨p,h1,h2,h3,h4⟩ := lo_ len h
  exact ⟨p,len,h1,Nat.le_refl _,h2,fun f => h3 f,h4,.inl ⟨rfl,rfl⟩⟩
 | some u =>
  simp only [e7] at h
  split at h
  ·rename_i h0
   split at h
   ·rename_i h1
    obtain ⟨p,h2,h3,h4,h5⟩ := lo_ u.toNat h
    exact ⟨p,u.toNat,h2,by omega,h3,fun f => by simp only [e7,if_pos h0,if_pos h1]; exact h4 f,h5,.inr ⟨u,rfl,h0,rfl⟩⟩
   ·cases h
  ·cases h
theorem DD (b : Bool) {len cap p q : Nat} (hlc : len <= cap) (hpq : p <= q) (hq : q <= len) {lo hi : Option Value} (h1 : (lo = none /\ p = 0) ∨ ∃ k n,lo = some (.int k n) /\ 0 <= n /\ p = n.toNat) (h2 : (hi = none /\ q = len) ∨ ∃ k n,hi = some (.int k n) /\ 0 <= n /\ q = n.toNat) (w : World) :
  (Instr.sliceBounds b len cap lo hi none).run P w = .ok (p,q,cap) w := by
 have bnd : ∀ (k : IntKind) (n : Int) (y : Nat) (c : BoundsCode),0 <= n -> n.toNat <= y -> (Instr.sliceBound (.int k n) y c).run P w = .ok n.toNat w := by
  intro k n y c h0 h1
  have : 0 <= n /\ n <= (y : Int) := ⟨h0,by omega⟩
  simp [Instr.sliceBound,asIntOf,this]
 rcases h1 with ⟨rfl,rfl⟩ | ⟨k1,n1,rfl,h10,rfl⟩ <;> rcases h2 with ⟨rfl,rfl⟩ | ⟨k2,n2,rfl,h20,rfl⟩
 ·simp [Instr.sliceBounds,Sem.run_bind]
 ·simp [Instr.sliceBounds,Sem.run_bind,bnd k2 n2 cap _ h20 (by omega)]
 ·simp [Instr.sliceBounds,Sem.run_bind,bnd k1 n1 q _ h10 hpq]
 ·simp [Instr.sliceBounds,Sem.run_bind,bnd k2 n2 cap _ h20 (by omega),bnd k1 n1 _ _ h10 hpq]
theorem p9 (h : Sim P B O w0 ρ st a w) {x : Option Operand} {v : Option Int} (hx : eK (au st.sl) x = some v) : (x = none /\ v = none) ∨ ∃ y k n,x = some y /\ v = some n /\ a.eval y = .int k n := by
 cases x with
 | none => cases hx; exact .inl ⟨rfl,rfl⟩
 | some y =>
  simp only [eK] at hx
  split at hx
  ·rename_i k n hy
   cases hx
   have := (h.eval y).1
   rw [hy] at this
   exact .inr ⟨y,k,n,rfl,rfl,this⟩
  ·cases hx
theorem v7 (a : Addr) : a.add 0 = a := by unfold Addr.add; split <;> simp_all
theorem EO (hE : Env.Ok P E) (h : Sim P B O w0 ρ st a w) {o : Oper} {t : TypeId} {x : Operand} {lo hi mx : Option Operand} (ho : o.op = .slice t x lo hi mx) {k : AV -> Sig -> Option R} (hk : qop E st.sg (au st.sl) o.dst o.op k = some r) : cW P ρ st.sg a w o k r := by
 rw [ho] at hk
 simp only [qop] at hk
 split at hk
 ·have bd : ∀ {l u : Option Int} {len cap p q : Nat} (b : Bool),eK (au st.sl) lo = some l -> eK (au st.sl) hi = some u -> len <= cap -> p <= q -> q <= len -> ((l = none /\ p = 0) ∨ ∃ n,l = some n /\ 0 <= n /\ p = n.toNat) -> ((u = none /\ q = len) ∨ ∃ n,u = some n /\ 0 <= n /\ q = n.toNat) ->
    ∀ w,(Instr.sliceBounds b len cap (lo.map a.eval) (hi.map a.eval) none).run P w = .ok (p,q,cap) w := by
   intro l u len cap p q b hl hu hlc hpq hq h1 h2 w2
   refine DD b hlc hpq hq ?_ ?_ w2
   ·rcases p9 h hl with ⟨rfl,rfl⟩ | ⟨y,k,n,rfl,rfl,hy⟩
    ·rcases h1 with ⟨_,h1⟩ | ⟨n,h1,_⟩
     ·exact .inl ⟨rfl,h1⟩
     ·cases h1
    ·rcases h1 with ⟨h1,_⟩ | ⟨n',h1,h3⟩
     ·cases h1
     ·cases h1; exact .inr ⟨k,n,by simp [hy],h3⟩
   ·rcases p9 h hu with ⟨rfl,rfl⟩ | ⟨y,k,n,rfl,rfl,hy⟩
    ·rcases h2 with ⟨_,h2⟩ | ⟨n,h2,_⟩
     ·exact .inl ⟨rfl,h2⟩
     ·cases h2
    ·rcases h2 with ⟨h2,_⟩ | ⟨n',h2,h3⟩
     ·cases h2
     ·cases h2; exact .inr ⟨k,n,by simp [hy],h3⟩
  split at hk
  ·rename_i s sz by_ l u hp ht hl hu
   obtain ⟨p,q,h1,h2,h3,_,h5,h6⟩ := cR hk
   have hx := (h.eval x).1
   rw [hp] at hx
   have hx : a.eval x = .string s := hx
   refine cW.same h3 (u := .string (s.extract p q)) (fun w2 => ?_) rfl (fun d hd => by cases hd)
   unfold execOp
   simp [ho,hx,Instr.sliceAt,Instr.slice,Sem.run_bind,run_underlying (ni (hE.ti _ _ ht)),bd false hl hu (Nat.le_refl _) h1 h2 h5 h6]
  ·rename_i c e sz by_ ty l u hp ht hl hu
   split at hk
   ·rename_i ie he
    have hut := cg (hE.ti _ _ ht)
    have hx := (h.eval x).1
    have hd := (h.eval x).2
    rw [hp] at hx hd
    have run : ∀ (A : Option Addr) (len cap p q : Nat),a.eval x = .slice A len cap -> len <= cap -> p <= q -> q <= len -> ((l = none /\ p = 0) ∨ ∃ n,l = some n /\ 0 <= n /\ p = n.toNat) -> ((u = none /\ q = len) ∨ ∃ n,u = some n /\ 0 <= n /\ q = n.toNat) ->
      ∀ w,(execOp a.eval o).run P w = .ok (.value (.slice (if cap = p then A else A.map (·.add (p * ie.sz))) (q - p) (cap - p))) w := by
     intro A len cap p q hx hlc hpq hq h1 h2 w2
     unfold execOp
     simp [ho,hx,Instr.sliceAt,Instr.slice,Sem.run_bind,run_underlying hut,bd true hl hu hlc hpq hq h1 h2,iw (hE.ti _ _ he)]
    have zero : ∀ A : Option Addr,a.eval x = .slice A 0 0 -> (e7 0 l u fun _ _ => k (.one .cap0) []) = some r -> cW P ρ st.sg a w o k r := by
     intro A hA hk
     obtain ⟨p,q,h1,h2,h3,_,h5,h6⟩ := cR hk
     have hq0 : q = 0 := by omega
     have hp0 : p = 0 := by omega
     subst hq0; subst hp0
     refine cW.same h3 (run A 0 0 0 0 hA (Nat.le_refl _) h1 h2 h5 h6) ⟨A,?_⟩ (fun d hd => by cases hd)
     simp
    have emb : ∀ {τ : Ty} {xs : List τ.T} {b : Bool} {e' : TypeId},Rp (ρ.ok b) w (.sl e' τ) xs [a.eval x] -> τ.sz = ie.sz -> (e7 xs.length l u fun p q => k (.one (.emb e' τ ((xs.take q).drop p) b)) []) = some r -> cW P ρ st.sg a w o k r := by
     intro τ xs b e' hr hz hk
     obtain ⟨p,q,h1,h2,h3,_,h5,h6⟩ := cR hk
     simp only [Rp] at hr
     obtain ⟨A,cp,hv,hle,hm,hr⟩ := hr
     simp only [List.cons.injEq,and_true] at hv
     refine cW.same h3 (run A _ cp p q hv hle h1 h2 h5 h6) ?_ (fun d hd => by cases hd)
     have hlen : ((xs.take q).drop p).length = q - p := by simp [Nat.min_eq_left h2]
     show Rp _ _ _ _ _
     simp only [Rp]
     refine ⟨_,_,by rw [hlen],by rw [hlen]; omega,by omega,fun hpos => ?_⟩
     rw [hlen] at hpos
     obtain ⟨ad,rfl,hok,hr⟩ := hr (by omega)
     refine ⟨ad.add (p * ie.sz),by rw [if_neg (by omega)]; rfl,?_,fun i y hy => ?_⟩
     ·have : (ad.add (p * ie.sz)).block = ad.block := by unfold Addr.add; split <;> rfl
      rw [this]; exact hok
     ·rw [List.getElem?_drop,List.getElem?_take] at hy
      split at hy
      ·obtain ⟨c0,hc1,hc2,hc3⟩ := hr _ _ hy
       refine ⟨c0,hc1,hc2,fun qq uu hqq => ?_⟩
       rw [bx,show p * ie.sz + (i * τ.sz + qq) = (p + i) * τ.sz + qq by rw [← hz,Nat.add_mul]; omega]
       exact hc3 qq uu hqq
      ·cases hy
    unfold cQ at hk
    split at hk
    ·exact zero none hx hk
    ·obtain ⟨A,hA⟩ := hx
     exact zero A hA hk
    ·rename_i e' τ xs b
     rw [aq] at hk
     split at hk
     ·rename_i hz; exact emb hx (by simpa using hz) hk
     ·cases hk
    ·rename_i j
     obtain ⟨g,szl,hloc⟩ := hx
     split at hk
     ·rename_i e' τ xs b hj
      rw [aq] at hk
      split at hk
      ·rename_i hz
       have hz : τ.sz = ie.sz := by simpa using hz
       obtain ⟨p,q,h1,h2,h3,_,h5,h6⟩ := cR hk
       obtain ⟨v,g',vs,hl',hel,hr⟩ := h.mem.blk j _ hj
       rw [hloc] at hl'
       cases hl'
       have hsj : (st.sg.get j).isSome = true := by rw [hj]; rfl
       cases g with
       | none =>
        obtain ⟨rfl,A,hA⟩ := hr
        have hq0 : q = 0 := by simpa using h2
        have hp0 : p = 0 := by omega
        subst hq0; subst hp0
        refine cW.same h3 (run A 0 0 0 0 hA (Nat.le_refl _) h1 (Nat.le_refl _) h5 (by simpa using h6)) ⟨A,0,0,none,_,by rw [hloc,hA],Nat.le_refl _,.inl ⟨rfl,by simp⟩⟩ (fun d hd => by simp only [AV.ae,Cell.ae,beq_iff_eq] at hd; subst hd; exact hsj)
       | some g =>
        rcases hr.1.2 with ⟨hv0,hn0⟩ | ⟨gg,cap,cur,hv,_,_,hcap,hcm,_⟩
        ·rw [hv0] at hr; cases hr.2
        ·refine cW.same h3 (run _ _ cap p q hv hcap h1 h2 h5 h6) ⟨some ⟨gg,0,none⟩,xs.length,cap,some g,τ.sz,by rw [hloc,hv],by omega,?_⟩ (fun d hd => by simp only [AV.ae,Cell.ae,beq_iff_eq] at hd; subst hd; exact hsj)
         rcases Nat.eq_zero_or_pos p with hp0 | hp0
         ·subst hp0
          refine .inl ⟨rfl,?_⟩
          simp [v7]
         ·rcases Nat.eq_zero_or_pos (q - p) with hq0 | hq0
          ·exact .inr (.inr ⟨hq0,by omega,_,_,by rw [hq0],by omega⟩)
          ·exact .inr (.inl ⟨hq0,by omega,_,rfl,by rw [if_neg (by omega),← hz]; rfl⟩)
      ·cases hk
     ·rename_i e' τ xs b hj
      rw [aq] at hk
      split at hk
      ·rename_i hz
       obtain ⟨v,g',hl',hr⟩ := h.mem.blk j _ hj
       rw [hloc] at hl'
       cases hl'
       exact emb hr (by simpa using hz) hk
      ·cases hk
     ·cases hk
    ·cases hk
   ·cases hk
  ·cases hk
 ·cases hk
theorem Mb (hE : Env.Ok P E) (h : Sim P B O w0 ρ st a w) {o : Oper} {t : TypeId} {x : Operand} {lo hi mx : Option Operand} (ho : o.op = .slice t x lo hi mx) {k : AV -> Sig -> Option R} (hk : qop E st.sg (au st.sl) o.dst o.op k = some r) : QOk P ρ st.sg a w o k r := (EO hE h ho hk).ok
theorem GC (h : Sim P B O w0 ρ st a w) {o : Oper} {x : Operand} {i : Nat} (ho : o.op = .extract x i) {k : AV -> Sig -> Option R} (hk : qop E st.sg (au st.sl) o.dst o.op k = some r) : QOk P ρ st.sg a w o k r := by
 rw [ho] at hk
 simp only [qop] at hk
 split at hk
 ·rename_i ps hp
  split at hk
  ·rename_i g cs hi
   split at hk
   ·rename_i v hv
    have hx := (h.eval x).1
    have hd := (h.eval x).2
    rw [hp] at hx hd
    obtain ⟨vs,hvs,hr⟩ := hx
    obtain ⟨u,hu,hr⟩ := hr.get i hi
    have hd' : ∀ j,cs.any (·.ae j) = true -> (st.sg.get j).isSome = true := fun j hj => hd j (List.any_eq_true.2 ⟨_,List.mem_of_getElem? hi,hj⟩)
    have run : (execOp a.eval o).run P w = .ok (.value u) w := by
     unfold execOp
     simp [ho,hvs,Instr.extract,hu]
    rcases eU hv with ⟨rfl,rfl⟩ | ⟨rfl,c,rfl,rfl⟩
    ·exact QOk.same hk run hr hd'
    ·obtain ⟨c',hc,hr⟩ := hr
     cases hc
     exact QOk.same hk run hr (fun j hj => hd' j (by simpa [AV.ae] using hj))
   ·cases hk
  ·cases hk
 ·cases hk
end
end Go.Proofs.YtcddhifkfakcjaaGreat.Lib
namespace Go.Proofs.YtcddhifkfakcjaaGreat.Lib
open Go Go.RowKit
set_option linter.unusedVariables false
set_option linter.unusedSimpArgs false
section
variable {P : Program} {E : Env} {B : Nat} {O : Ow} {w0 w : World} {ρ : al} {st : St} {a : Act} {R : Type} {r : R}
theorem T0 {d : Nat} {e : TypeId} {τ : Ty} {l : List τ.T} {b : Bool} {xs : List Value} {v : Value} {w' : World} (h : Sim P B O w0 ρ st a w) {o : Oper} (hd : o.dst = some d) (hn : st.sg.get d = none /\ d < PIN) {k : AV -> Sig -> Option R} (hk : k (.one (.sl d)) [(d,.arr e τ l b)] = some r)
  (hr : (execOp a.eval o).run P w = .ok (.value v) w') (hb : Below w.heap.size w w') (hv : w'.ownsRow 0 e τ.sz v l.length xs) (hg : v.ownBlock = some w.heap.size) (hx : bU (ρ.ok b) w τ l xs) : QOk P ρ st.sg a w o k r := by
 refine ⟨_,_,_,_,hk,hr,.inr (.inl ⟨d,_,.arr v (some w.heap.size) τ.sz,hd,hn,rfl,hb,?_,?_,?_,(fun x hx => by cases hx),fun g hg => Nat.le_of_eq hg.symm⟩)⟩
 ·exact ⟨v,some w.heap.size,xs,al.ba _ _ _,hx.step (fun _ h => h) (fun g hg => hb.block g (h.mem.okb b g hg)),hv,hg⟩
 ·exact ⟨_,_,al.ba _ _ _⟩
 ·intro x hx
  have hx : (d == x) = true := hx
  exact (eq_of_beq hx).symm
theorem Rn.zero (w : World) : ∀ t : Ty,t.lY = true -> ∃ hs,Rn w t t.zero t.zv hs /\ ∀ q ∈ hs,q.2 = none
 | .int _,_ => ⟨[],⟨rfl,rfl⟩,nofun⟩
 | .bool,_ => ⟨[],⟨rfl,rfl⟩,nofun⟩
 | .str,_ => ⟨[],⟨rfl,rfl⟩,nofun⟩
 | .nul _,_ => ⟨[],⟨rfl,rfl⟩,nofun⟩
 | .sl e t,h => ⟨[(.slice none 0 0,none)],⟨h,_,none,[],rfl,rfl,⟨by simp [Ty.zero],fun j p hp => by simp [Ty.zero] at hp⟩,⟨rfl,none,rfl⟩⟩,fun q hq => by rw [List.mem_singleton.1 hq]⟩
 | .pair a b,h => by
  simp only [Ty.lY,Bool.and_eq_true] at h
  obtain ⟨h0,h1,h2⟩ := Rn.zero w a h.1
  obtain ⟨h3,h4,h5⟩ := Rn.zero w b h.2
  exact ⟨h0 ++ h3,⟨_,_,h0,h3,rfl,rfl,h1,h4⟩,fun q hq => (List.mem_append.1 hq).elim (h2 q) (h5 q)⟩
theorem OD {d : Nat} {e : TypeId} {τ : Ty} {l : List τ.T} {hd : List (List (Value × Option Nat))} {xs : List Value} {v : Value} {w' : World} (h : Sim P B O w0 ρ st a w) {o : Oper} (hds : o.dst = some d) (hn : st.sg.get d = none /\ d < PIN) {k : AV -> Sig -> Option R} (hk : k (.one (.nl d)) [(d,.nst e τ l)] = some r)
  (hr : (execOp a.eval o).run P w = .ok (.value v) w') (hb : Below w.heap.size w w') (hN : nk w' e τ l v (some w.heap.size) hd xs) (hk' : kids hd = []) : QOk P ρ st.sg a w o k r := by
 refine ⟨_,_,_,_,hk,hr,.inr (.inl ⟨d,_,.nst v (some w.heap.size) τ.sz hd,hds,hn,rfl,hb,?_,?_,?_,(fun x hx => by cases hx),fun g hg => ?_⟩)⟩
 ·exact ⟨v,some w.heap.size,hd,xs,al.ba _ _ _,hN⟩
 ·exact ⟨_,_,_,al.ba _ _ _⟩
 ·intro x hx
  have hx : (d == x) = true := hx
  exact (eq_of_beq hx).symm
 ·have hg : g ∈ ct (some w.heap.size) hd := hg
  unfold ct at hg
  rw [hk'] at hg
  simp only [Option.toList_some,List.append_nil,List.mem_singleton] at hg
  exact Nat.le_of_eq hg.symm
theorem vY {n : Nat} {hs : List (Value × Option Nat)} (h : ∀ q ∈ hs,q.2 = none) : kids (List.replicate n hs) = [] := by
 unfold kids
 rw [List.filterMap_eq_nil_iff]
 intro q hq
 obtain ⟨l,h1,h2⟩ := List.mem_flatten.1 hq
 rw [List.eq_of_mem_replicate h1] at h2
 exact h q h2
theorem Pm (hE : Env.Ok P E) (h : Sim P B O w0 ρ st a w) {o : Oper} {t : TypeId} {x y : Operand} (ho : o.op = .makeSlice t x y) {k : AV -> Sig -> Option R} (hk : qop E st.sg (au st.sl) o.dst o.op k = some r) : QOk P ρ st.sg a w o k r := by
 rw [ho] at hk
 simp only [qop] at hk
 split at hk
 ·rename_i d e sz by_ ty n m hd ht hx hy
  split at hk
  ·rename_i td sz' by' τ he
   rw [aq] at hk
   split at hk
   ·rename_i hn
    simp only [Bool.and_eq_true,Sig.a8,bne_iff_ne] at hn
    split at hk
    ·rename_i h0
     split at hk
     ·rename_i hnm
      split at hk
      ·rename_i hle
       subst hnm
       obtain ⟨ti,h1,h2,h3,h4⟩ := (hE.ti _ _ he).info
       obtain ⟨h5,z,h6,h7⟩ := h4 τ rfl
       have hbp : 0 < by' := Nat.pos_of_ne_zero hn.2
       have hnle : n.toNat <= 140737488351232 := Nat.le_trans (Nat.le_mul_of_pos_right _ hbp) hle
       have hx' := (h.eval x).1
       have hy' := (h.eval y).1
       rw [hx] at hx'
       rw [hy] at hy'
       have hx' : a.eval x = .int .i64 n := hx'
       have hy' : a.eval y = .int .i64 n := hy'
       simp only at h2 h3 h5
       obtain ⟨w',hr,ho',hgr⟩ := run_make_full (P := P) w 0 t e ti z τ.sz (cg (hE.ti _ _ ht)) h1 h6 (h2.trans h5.symm) .i64 .i64 n.toNat (by rw [h3,Nat.mul_comm]; omega) (by unfold maxLen; omega) (Nat.zero_le _)
       rw [Int.toNat_of_nonneg h0] at hr
       rw [aq] at hk
       split at hk
       ·rename_i hnest
        simp only [Bool.and_eq_true] at hnest
        obtain ⟨hs,hz1,hz2⟩ := Rn.zero w' τ hnest.2.2
        refine OD h hd hn.1 hk (v := .slice (some ⟨w.heap.size,0,none⟩) n.toNat n.toNat) (xs := (madeCells z.cells (n.toNat * τ.sz)).toList) (hd := List.replicate n.toNat hs) ?_ ⟨hgr.os,hgr.tape,hgr.output,hgr.size,fun g hg => hgr.block g hg (by simp)⟩ ⟨?_,by simp,fun i p hp => ?_,by rw [List.length_replicate]; exact ⟨ho',rfl⟩,?_⟩ (vY hz2)
        ·unfold execOp
         simp [ho,hx',hy',Sem.run_bind,hr]
        ·rw [h7,Array.length_toList,size_madeCells,List.length_replicate]
        ·have hi : i < n.toNat := by
          have := (List.getElem?_eq_some_iff.1 hp).1
          simpa using this
         have hp' : p = τ.zero := by
          rw [List.getElem?_replicate,if_pos hi] at hp
          cases hp; rfl
         subst hp'
         refine ⟨hs,by rw [List.getElem?_replicate,if_pos hi],?_⟩
         have := r7 τ.zv (by rw [Ty.bY]; exact Ty.eD τ) n.toNat i hi
         rw [Ty.bY] at this
         rw [h7,this]
         exact hz1
        ·unfold ct
         rw [vY hz2]
         simp
       refine T0 h hd hn.1 hk (v := .slice (some ⟨w.heap.size,0,none⟩) n.toNat n.toNat) (xs := (madeCells z.cells (n.toNat * τ.sz)).toList) ?_ ⟨hgr.os,hgr.tape,hgr.output,hgr.size,fun g hg => hgr.block g hg (by simp)⟩ (by rw [List.length_replicate]; exact ho') rfl ?_
       ·unfold execOp
        simp [ho,hx',hy',Sem.run_bind,hr]
       ·rw [h7]
        exact Bh _ _ _ _
      ·cases hk
     ·cases hk
    ·cases hk
   ·cases hk
  ·cases hk
 ·cases hk
theorem sd {α : Type} {a : Array α} {l : List α} (h : a.toList = l) : a = l.toArray := by cases a; simp_all
theorem vl (h : Sim P B O w0 ρ st a w) {c : Cell} {u : Value} {kk : Int -> Option R} (hk : fj st.sg c kk = some r) (hc : rc ρ w c u) : ∃ A n cp,u = .slice A n cp /\ kk n = some r := by
 unfold fj at hk
 split at hk
 ·have hc : u = _ := hc; subst hc; exact ⟨_,_,_,rfl,hk⟩
 ·obtain ⟨A,rfl⟩ := hc; exact ⟨_,_,_,rfl,hk⟩
 ·simp only [rc,Rp] at hc
  obtain ⟨A,cp,hv,_⟩ := hc
  simp only [List.cons.injEq,and_true] at hv
  exact ⟨_,_,_,hv,hk⟩
 ·obtain ⟨A,n,c,g,sz,_,_,hs⟩ := hc
  rcases hs with ⟨_,rfl⟩ | ⟨_,_,ad,_,rfl⟩ | ⟨rfl,_,A',c',rfl,_⟩
  ·exact ⟨_,_,_,rfl,hk⟩
  ·exact ⟨_,_,_,rfl,hk⟩
  ·exact ⟨_,_,_,rfl,hk⟩
 ·rename_i j
  obtain ⟨g,sz,hl⟩ := hc
  split at hk
  ·rename_i e t l b hg
   obtain ⟨v,g',xs,h1,_,h3⟩ := h.mem.blk j _ hg
   rw [h1] at hl; cases hl
   cases g with
   | none => obtain ⟨rfl,A,rfl⟩ := h3; exact ⟨_,_,_,rfl,hk⟩
   | some g =>
    rcases h3.1.2 with ⟨rfl,h6⟩ | ⟨g',cap,cur,rfl,_⟩
    ·rw [h6] at hk; exact ⟨_,_,_,rfl,hk⟩
    ·exact ⟨_,_,_,rfl,hk⟩
  ·rename_i e t l b hg
   obtain ⟨v,g',h1,h2⟩ := h.mem.blk j _ hg
   rw [h1] at hl; cases hl
   simp only [Rp] at h2
   obtain ⟨A,cp,hv,_⟩ := h2
   simp only [List.cons.injEq,and_true] at hv
   exact ⟨_,_,_,hv,hk⟩
  ·cases hk
 ·rename_i j
  obtain ⟨g,sz,hd,hl⟩ := hc
  split at hk
  ·rename_i e t l hg
   obtain ⟨v,g',hd',xs,h1,hN⟩ := h.mem.blk j _ hg
   rw [h1] at hl; cases hl
   rcases Nat.eq_zero_or_pos l.length with h0 | h0
   ·have h3 := hN.own
    rw [h0] at h3 hk
    cases g with
    | none => obtain ⟨_,A,rfl⟩ := h3; exact ⟨_,_,_,rfl,hk⟩
    | some g =>
     rcases h3.1.2 with ⟨rfl,h6⟩ | ⟨g',cap,cur,rfl,_⟩
     ·exact ⟨_,_,_,rfl,hk⟩
     ·exact ⟨_,_,_,rfl,hk⟩
   ·obtain ⟨k',c',rfl,h5⟩ := hN.own.form h0
    exact ⟨_,_,_,h5,hk⟩
  ·cases hk
 ·cases hk
theorem Oc (hE : Env.Ok P E) (h : Sim P B O w0 ρ st a w) {o : Oper} {c : Call} (ho : o.op = .call c) {k : AV -> Sig -> Option R} (hk : qop E st.sg (au st.sl) o.dst o.op k = some r) : QOk P ρ st.sg a w o k r := by
 rw [ho] at hk
 simp only [qop] at hk
 split at hk
 ·rename_i x t ts hc ha hat
  have ha := sd ha
  have hat0 : c.argTypes[0]? = some t := by rw [← Array.getElem?_toList,hat]; rfl
  split at hk
  ·rename_i s sz by_ hp ht
   have hx := (h.eval x).1
   rw [hp] at hx
   have hx : a.eval x = .string s := hx
   refine QOk.same hk (u := .int .i64 s.size) ?_ rfl (fun d hd => by cases hd)
   unfold execOp
   simp [ho,Sem.run_bind,resolve,hc,ha,invoke,builtin,Builtin.len_,hat0,hx,run_underlying (ni (hE.ti _ _ ht)),goInt]
  ·rename_i cl e sz by_ ty hp ht
   have hx := (h.eval x).1
   rw [hp] at hx
   obtain ⟨A,n,cp,hu,hk⟩ := vl h hk hx
   refine QOk.same hk (u := .int .i64 n) ?_ rfl (fun d hd => by cases hd)
   unfold execOp
   simp [ho,Sem.run_bind,resolve,hc,ha,invoke,builtin,Builtin.len_,hat0,hu,run_underlying (cg (hE.ti _ _ ht)),goInt]
  ·cases hk
 ·rename_i ts x y hc ha
  have ha := sd ha
  split at hk
  ·rename_i q p q' p' hp hp'
   have hx := (h.eval x).1
   have hy := (h.eval y).1
   rw [hp] at hx
   rw [hp'] at hy
   have hx : a.eval x = .int q p := hx
   have hy : a.eval y = .int q' p' := hy
   split at hk
   ·refine QOk.same hk (u := .int q (if p' < p then p' else p)) ?_ rfl (fun d hd => by cases hd)
    unfold execOp
    simp [ho,Sem.run_bind,resolve,hc,ha,invoke,builtin,Builtin.min_,Builtin.min2,hx,hy]
   ·cases hk
  ·cases hk
 ·rename_i ts x y hc ha
  have ha := sd ha
  split at hk
  ·rename_i q p q' p' hp hp'
   have hx := (h.eval x).1
   have hy := (h.eval y).1
   rw [hp] at hx
   rw [hp'] at hy
   have hx : a.eval x = .int q p := hx
   have hy : a.eval y = .int q' p' := hy
   split at hk
   ·refine QOk.same hk (u := .int q (if p' > p then p' else p)) ?_ rfl (fun d hd => by cases hd)
    unfold execOp
    simp [ho,Sem.run_bind,resolve,hc,ha,invoke,builtin,Builtin.max_,Builtin.max2,hx,hy]
   ·cases hk
  ·cases hk
 ·cases hk
theorem yF {ok : Nat -> Prop} {w : World} {e : TypeId} {t : Ty} {l : List t.T} {v : Value} {xs : List Value} {g : Nat} (ho : w.ownsRow 0 e t.sz v l.length xs) (hg : v.ownBlock = some g) (hok : ok g) (hx : bU ok w t l xs) : Rp ok w (.sl e t) l [v] := by
 simp only [Rp]
 rcases ho.2 with ⟨rfl,h1⟩ | ⟨g',cap,cur,rfl,_,hh,hle,hm,_⟩
 ·cases hg
 ·have : g' = g := by simpa [Value.ownBlock] using hg
  subst this
  refine ⟨_,cap,rfl,hle,hm,fun hp => ⟨_,rfl,hok,fun i x hxi => ⟨_,?_,hx.2 i x hxi,fun q u hq => ?_⟩⟩⟩
  ·exact (hx.2 i x hxi).len
  ·rw [List.getElem?_take] at hq
   split at hq
   ·rw [List.getElem?_drop] at hq
    exact ho.cells (g := g') rfl _ u hq
   ·cases hq
theorem Jq (h : Sim P B O w0 ρ st a w) {c : Cell} {u : Value} {l : List Int} (e : TypeId) (hb : bytesOf st.sg c = some l) (hc : rc ρ w c u) : ∃ ok : Nat -> Prop,Rp ok w (.sl e (.int .u8)) l [u] := by
 unfold bytesOf at hb
 split at hb
 ·cases hb
  have hc : u = .slice none 0 0 := hc
  subst hc
  refine ⟨fun _ => False,?_⟩
  simp only [Rp]
  exact ⟨none,0,rfl,Nat.zero_le _,Nat.zero_le _,fun hp => absurd hp (by simp)⟩
 ·cases hb
  obtain ⟨A,rfl⟩ := hc
  refine ⟨fun _ => False,?_⟩
  simp only [Rp]
  exact ⟨A,0,rfl,Nat.zero_le _,Nat.zero_le _,fun hp => absurd hp (by simp)⟩
 ·split at hb
  ·rename_i ht
   subst ht
   cases hb
   exact ⟨_,hc⟩
  ·cases hb
 ·rename_i j
  obtain ⟨g',sz,hl⟩ := hc
  split at hb
  ·rename_i e' t l' b hj
   split at hb
   ·rename_i ht
    subst ht
    cases hb
    obtain ⟨v,g,xs,h1,h2,h3⟩ := h.mem.blk j _ hj
    rw [h1] at hl; cases hl
    cases g' with
    | none =>
     obtain ⟨rfl,A,rfl⟩ := h3
     refine ⟨fun _ => False,?_⟩
     simp only [Rp]
     exact ⟨A,0,rfl,Nat.zero_le _,Nat.zero_le _,fun hp => absurd hp (by simp)⟩
    | some g =>
     have hx : bU (fun k => ρ.ok b k ∨ k = g) w (.int .u8) l' xs := h2.step (fun _ h => .inl h) (fun _ _ => rfl)
     have := yF (ok := fun k => ρ.ok b k ∨ k = g) h3.1 h3.2 (.inr rfl) hx
     refine ⟨fun k => ρ.ok b k ∨ k = g,?_⟩
     simp only [Rp] at this ⊢
     exact this
   ·cases hb
  ·rename_i e' t l' b hj
   split at hb
   ·rename_i ht
    subst ht
    cases hb
    obtain ⟨v,g,h1,h2⟩ := h.mem.blk j _ hj
    rw [h1] at hl; cases hl
    exact ⟨_,h2⟩
   ·cases hb
  ·cases hb
 ·cases hb
theorem Pj (hE : Env.Ok P E) (h : Sim P B O w0 ρ st a w) {o : Oper} {src dst : TypeId} {x : Operand} (ho : o.op = .convert src dst x) {k : AV -> Sig -> Option R} (hk : qop E st.sg (au st.sl) o.dst o.op k = some r) : QOk P ρ st.sg a w o k r := by
 rw [ho] at hk
 simp only [qop] at hk
 have hx := (h.eval x).1
 have run : ∀ u w',(convert src dst (a.eval x)).run P w = .ok u w' -> (execOp a.eval o).run P w = .ok (.value u) w' := by
  intro u w' hu
  unfold execOp
  simp [ho,Sem.run_bind,hu]
 split at hk
 ·rename_i q n si sz by_ k' hv hs hd
  rw [hv] at hx
  have hx : a.eval x = .int q n := hx
  obtain ⟨ds,h1,_⟩ := (hE.ti _ _ hs).und
  obtain ⟨dd,h2,h3⟩ := (hE.ti _ _ hd).und
  simp only at h3
  subst h3
  have hik : P.intKind dst = k' := by simp [Program.intKind,h2]
  have := run_convert_int (P := P) w src dst q n (by rw [h1]; rfl) (by rw [hik]; exact h2)
  rw [hik] at this
  exact QOk.same hk (run _ _ (by rw [hx]; exact this)) rfl (fun d hd => by cases hd)
 ·rename_i q n si sz by_ hv hs hd
  rw [hv] at hx
  have hx : a.eval x = .int q n := hx
  obtain ⟨ds,h1,_⟩ := (hE.ti _ _ hs).und
  obtain ⟨dd,h2,h3⟩ := (hE.ti _ _ hd).und
  simp only at h3
  subst h3
  exact QOk.same hk (run _ _ (by rw [hx]; exact run_convert_int_string w src dst q n (by rw [h1]; rfl) h2)) rfl (fun d hd => by cases hd)
 ·rename_i c e sz1 by1 ty1 sz2 by2 hn1 hv hs hd
  split at hk
  ·rename_i sz3 by3 he
   split at hk
   ·rename_i l hl
    rw [hv] at hx
    have hx : rc ρ w c (a.eval x) := hx
    obtain ⟨ok,hrp⟩ := Jq h e hl hx
    obtain ⟨dd,h2,h3⟩ := (hE.ti _ _ hd).und
    simp only at h3
    subst h3
    obtain ⟨de,h4,h5⟩ := (hE.ti _ _ he).und
    simp only at h5
    subst h5
    have hsl := cg (hE.ti _ _ hs)
    simp only [Rp] at hrp
    obtain ⟨A,cp,hu,_,_,hr⟩ := hrp
    simp only [List.cons.injEq,and_true] at hu
    have hfin : (convert src dst (a.eval x)).run P w = .ok (.string (strOfNums l)) w := by
     rw [hu]
     rcases Nat.eq_zero_or_pos l.length with h0 | h0
     ·have : l = [] := List.eq_nil_of_length_eq_zero h0
      subst this
      rw [List.length_nil,run_convert_bytes_string w src dst e _ 0 cp hsl h4 h2]
      cases A <;> simp [Conv.bytesToString,Go.loadCells,strOfNums] <;> rfl
     ·obtain ⟨ad,rfl,_,hcell⟩ := hr h0
      have hl2 : (Go.loadCells ad l.length).run P w = .ok (l.map (Value.int .u8)).toArray w := by
       have := run_loadCells_list (P := P) w ad (l.map (Value.int .u8)) (fun j v hj => by
        rw [List.getElem?_map,Option.map_eq_some_iff] at hj
        obtain ⟨y,hy,rfl⟩ := hj
        obtain ⟨cs,_,hcs,hq⟩ := hcell j y hy
        have hcs : cs = [.int .u8 y] := hcs
        subst hcs
        have := hq 0 _ rfl
        simpa [Ty.sz] using this)
       simpa using this
      rw [run_convert_bytes_string w src dst e _ l.length cp hsl h4 h2,run_bytesToString w _ l.length cp l hl2,foldl_push_bytes]
      simp [strOfNums,ByteArray.empty,ByteArray.emptyWithCapacity]
      rfl
    exact QOk.same hk (run _ _ hfin) rfl (fun d hd => by cases hd)
   ·cases hk
  ·cases hk
 ·rename_i s sz1 by1 e sz2 by2 ty2 hv hs hn1
  split at hk
  ·rename_i d sz3 by3 hd he
   rw [aq] at hk
   split at hk
   ·rename_i hfr
    split at hk
    ·rename_i hle
     rw [hv] at hx
     have hx : a.eval x = .string s := hx
     obtain ⟨de,h4,h5⟩ := (hE.ti _ _ he).und
     simp only at h5
     subst h5
     have hsl := cg (hE.ti _ _ hn1)
     have hst := ni (hE.ti _ _ hs)
     have hr := run_bytes_of_string (P := P) w src dst e s hst hsl h4
     have hge := grownCap_ge w s.size 0 e
     have hcm := grownCap_le_maxLen w s.size 0 e (by unfold maxLen; omega)
     have hsz : s.data.toList.length = s.size := rfl
     have hnl : (sq s).length = s.size := by rw [sq,List.length_map,hsz]
     refine ⟨_,_,_,w.drew.alloc (.cells (bytesRow s (grownCap w s.size 0 e)) e ((bytesRow s (grownCap w s.size 0 e)).size,(bytesRow s (grownCap w s.size 0 e)).size + 1)),hk,run _ _ (by rw [hx]; exact hr),.inr (.inr ⟨d,e,.int .u8,sq s,hd,Sig.a8.1 hfr,rfl,rfl,⟨rfl,rfl,rfl,Nat.le_of_lt (by show w.heap.size < (w.heap.push _).size; simp),fun k hk => heap_alloc_old w.drew _ hk⟩,?_⟩)⟩
     simp only [Rp]
     refine ⟨_,grownCap w s.size 0 e,by rw [hnl],by rw [hnl]; exact hge,hcm,fun _ => ⟨_,rfl,⟨Nat.le_refl _,by show w.heap.size < (w.heap.push _).size; simp⟩,fun i x hxi => ⟨[.int .u8 x],rfl,rfl,fun q u hq => ?_⟩⟩⟩
     cases q with
     | succ q => cases hq
     | zero =>
      cases hq
      have hi : i < s.size := by
       have := (List.getElem?_eq_some_iff.1 hxi).1
       omega
      rw [fV]
      refine (World.cell?_alloc_mark w.drew _ e _ _).trans ?_
      have e1 : i * Ty.sz (.int .u8) + 0 = i := by simp [Ty.sz]
      rw [e1,bytesRow,Array.getElem?_append_left (by rw [Array.size_map]; exact hi)]
      rw [sq,List.getElem?_map] at hxi
      obtain ⟨y,hy,rfl⟩ := Option.map_eq_some_iff.1 hxi
      rw [Array.getElem?_map,← Array.getElem?_toList,hy]
      rfl
    ·cases hk
   ·cases hk
  ·cases hk
 ·cases hk
theorem vK : ∀ (fs : List Field),(∀ f ∈ fs,∃ fi,P.info? f.type = some fi /\ fi.size ≠ 0) -> ∃ places,fs.mapM (fun f => (P.info? f.type).map fun i => (f.offset,i.size)) = some places /\ ∀ (i : Nat) (f : Field) (fi : TypeInfo),fs[i]? = some f -> P.info? f.type = some fi -> places[i]? = some (f.offset,fi.size)
 | [],_ => ⟨[],rfl,fun i f fi h => by simp at h⟩
 | f :: fs,h => by
  obtain ⟨fi,h1,_⟩ := h f List.mem_cons_self
  obtain ⟨places,h2,h3⟩ := vK fs fun g hg => h g (List.mem_cons_of_mem _ hg)
  refine ⟨(f.offset,fi.size) :: places,by simp [List.mapM_cons,h1,h2],fun i g gi hg hi => ?_⟩
  cases i with
  | zero =>
   simp only [List.getElem?_cons_zero,Option.some.injEq] at hg
   subst hg
   rw [h1] at hi; cases hi
   rfl
  | succ i => simpa using h3 i g gi (by simpa using hg) hi
theorem tw (h : Sim P B O w0 ρ st a w) {fs : List (TypeId × Nat)} {pl : Nat -> Option (Nat × Nat)} (hpl : ∀ i q,placeOf E fs i = some q -> pl i = some q) : ∀ (ps : List (Nat × Operand)) (cells cells' : List Cell) (vs : List Value),aF (rc ρ w) cells vs -> gS (placeOf E fs) cells (ps.map fun p => (p.1,au st.sl p.2)) = some cells' ->
  ∃ vs' : List Value,Instr.fill pl vs.toArray (ps.map fun p => (p.1,a.eval p.2)) = some vs'.toArray /\ aF (rc ρ w) cells' vs' /\ ∀ d,cells'.any (·.ae d) = true -> cells.any (·.ae d) = true ∨ (st.sg.get d).isSome = true
 | [],cells,cells',vs,hv,hf => by
  simp only [List.map_nil,gS,Option.some.injEq] at hf
  subst hf
  exact ⟨vs,rfl,hv,fun d hd => .inl hd⟩
 | (i,x) :: ps,cells,cells',vs,hv,hf => by
  simp only [List.map_cons,gS] at hf
  split at hf
  ·rename_i off n hp
   split at hf
   ·rename_i cs hc
    simp only [aq] at hf
    split at hf
    ·rename_i hle
     simp only [Bool.and_eq_true,beq_iff_eq,Nat.ble_eq] at hle
     obtain ⟨us,h1,h2,_,h3⟩ := fv h.mem (h.eval x).1 hc (h.eval x).2
     have hlen := h2.length
     have hvl := hv.length
     obtain ⟨vs',h4,h5,h6⟩ := tw h hpl ps _ cells' (vs.take off ++ us ++ vs.drop (off + n)) (((hv.take off).append h2).append (hv.drop (off + n))) hf
     refine ⟨vs',?_,h5,fun d hd => ?_⟩
     ·simp only [List.map_cons,Instr.fill,hpl i _ hp,h1]
      rw [if_neg]
      ·rw [← h4]
       congr 1
       apply Array.ext'
       rw [zx]
       ·simp only [List.size_toArray]
        rw [show us.length = n by omega]
       ·simp only [List.size_toArray]; omega
      ·simp only [List.size_toArray,Bool.or_eq_true,bne_iff_ne,ne_eq,decide_eq_true_eq]
       omega
     ·rcases h6 d hd with h7 | h7
      ·simp only [List.any_append,Bool.or_eq_true] at h7
       rcases h7 with (h7 | h7) | h7
       ·obtain ⟨c,hc1,hc2⟩ := List.any_eq_true.1 h7
        exact .inl (List.any_eq_true.2 ⟨c,List.mem_of_mem_take hc1,hc2⟩)
       ·exact .inr ((h.eval x).2 d (h3 d h7))
       ·obtain ⟨c,hc1,hc2⟩ := List.any_eq_true.1 h7
        exact .inl (List.any_eq_true.2 ⟨c,List.mem_of_mem_drop hc1,hc2⟩)
      ·exact .inr h7
    ·cases hf
   ·cases hf
  ·cases hf
theorem Lk (hE : Env.Ok P E) (h : Sim P B O w0 ρ st a w) {o : Oper} {t : TypeId} {ps : Array (Nat × Operand)} (ho : o.op = .build t ps) {k : AV -> Sig -> Option R} (hk : qop E st.sg (au st.sl) o.dst o.op k = some r) : QOk P ρ st.sg a w o k r := by
 rw [ho] at hk
 simp only [qop] at hk
 split at hk
 ·rename_i fs sz by_ τ ht
  split at hk
  ·rename_i cs hf
   obtain ⟨ti,h1,h2,h3,h4⟩ := (hE.ti _ _ ht).info
   obtain ⟨h5,z,h6,h7⟩ := h4 τ rfl
   obtain ⟨_,h8,h9⟩ := (hE.ti _ _ ht).und
   simp only at h9
   obtain ⟨fa,rfl,rfl,h10⟩ := h9
   obtain ⟨places,h11,h12⟩ := vK fa.toList h10
   obtain ⟨vs',h13,h14,h15⟩ := tw (E := E) h (pl := (places.toArray[·]?)) (fun i q hq => by
    unfold placeOf at hq
    split at hq
    ·rename_i ft off hi
     split at hq
     ·rename_i ti' hl
      cases hq
      rw [List.getElem?_map,Option.map_eq_some_iff] at hi
      obtain ⟨f,hf1,hf2⟩ := hi
      cases hf2
      obtain ⟨fi,g1,g2,_⟩ := (hE.ti _ _ hl).info
      have := h12 i f fi hf1 g1
      simp only [List.getElem?_toArray]
      rw [this,g2]
     ·cases hq
    ·cases hq) ps.toList _ cs _ (EK τ) hf
   refine QOk.same hk (u := .agg vs'.toArray) ?_ ⟨vs',rfl,h14⟩ (fun d hd => ?_)
   ·have hb : P.built t (ps.map fun (i,x) => (i,a.eval x)).toList = some vs'.toArray := by
     unfold Program.built
     rw [h1,h8]
     simp only [h6,h11,h7]
     rw [← h13]
     simp
    have := run_build (P := P) w t _ _ hb
    unfold execOp
    simp only [ho,Sem.run_bind,this,Result.andThen_ok]
    rfl
   ·rcases h15 d hd with h16 | h16
    ·rw [qG] at h16; cases h16
    ·exact h16
  ·cases hk
 ·cases hk
theorem mK (h : Sim P B O w0 ρ st a w) : ∀ {xs : List Operand} {js : List Nat},jf st.sg (au st.sl) xs = some js -> aF (fun j u => ∃ g,ρ.loc j = .box g /\ u = .pointer (some ⟨g,0,none⟩)) js (xs.map a.eval) /\ ∀ d,js.contains d = true -> (st.sg.get d).isSome = true
 | [],js,hc => by
  simp only [jf,Option.some.injEq] at hc
  subst hc
  exact ⟨.nil,fun d hd => by cases hd⟩
 | x :: xs,js,hc => by
  simp only [jf] at hc
  split at hc
  ·rename_i j hx
   split at hc
   ·rename_i ty cs hj
    split at hc
    ·rename_i l hl
     simp only [Option.some.injEq] at hc
     subst hc
     obtain ⟨h1,h2⟩ := mK h hl
     have hr := (h.eval x).1
     rw [hx] at hr
     obtain ⟨g,vs,h3,_⟩ := h.mem.blk j _ hj
     refine ⟨.cons ⟨g,h3,?_⟩ h1,fun d hd => ?_⟩
     ·rcases hr with ⟨_,g',h4,h5⟩ | ⟨_,_,_,_,_,h4,_⟩
      ·rw [h3] at h4; cases h4; exact h5
      ·rw [h3] at h4; cases h4
     ·simp only [List.contains_cons,Bool.or_eq_true,beq_iff_eq] at hd
      rcases hd with hd | hd
      ·subst hd; rw [hj]; rfl
      ·exact h2 d hd
    ·cases hc
   ·cases hc
  ·cases hc
theorem TF (h : Sim P B O w0 ρ st a w) {o : Oper} {fn : Fn} {first captured : Array Operand} (ho : o.op = .makeFunc fn first captured) {k : AV -> Sig -> Option R} (hk : qop E st.sg (au st.sl) o.dst o.op k = some r) : QOk P ρ st.sg a w o k r := by
 rw [ho] at hk
 simp only [qop] at hk
 split at hk
 ·rename_i f hf
  have hf := sd hf
  split at hk
  ·rename_i js hjs
   obtain ⟨h1,h2⟩ := mK h hjs
   have hrun : (execOp a.eval o).run P w = .ok (.value (.func (.func f) #[] (captured.map a.eval))) w := by
    unfold execOp
    simp [ho,Instr.makeFunc,hf,Sem.run_bind]
   have hcap : captured.map a.eval = (captured.toList.map a.eval).toArray := by
    apply Array.ext'
    simp
   rw [hcap] at hrun
   cases js with
   | nil =>
    generalize captured.toList.map a.eval = us at h1 hrun
    cases h1
    exact QOk.same hk hrun ⟨[],rfl,.nil⟩ (fun d hd => by cases hd)
   | cons j js => exact QOk.same hk hrun ⟨_,rfl,h1⟩ (fun d hd => h2 d hd)
  ·cases hk
 ·cases hk
theorem vG (hE : Env.Ok P E) (h : Sim P B O w0 ρ st a w) (o : Oper) {k : AV -> Sig -> Option R} (hk : qop E st.sg (au st.sl) o.dst o.op k = some r) : QOk P ρ st.sg a w o k r := by
 cases ho : o.op with
 | move x =>
  rw [ho] at hk
  refine QOk.same (v := au st.sl x) (u := a.eval x) (by simpa [qop] using hk) ?_ (h.eval x).1 (h.eval x).2
  unfold execOp
  simp [ho]
 | assign x =>
  rw [ho] at hk
  refine QOk.same (v := au st.sl x) (u := a.eval x) (by simpa [qop] using hk) ?_ (h.eval x).1 (h.eval x).2
  unfold execOp
  simp [ho]
 | pick c x y => exact ON h ho hk
 | alloc t => exact K3 hE h ho hk
 | box t x => exact PW hE h ho hk
 | load t x => exact Om hE h ho hk
 | nilCheck x => exact US h ho hk
 | binOp op t x y t' => exact Sq hE h ho hk
 | unOp op t x => exact abI h ho hk
 | makeSlice t x y => exact Pm hE h ho hk
 | fieldAddr t x f => exact LA hE h ho hk
 | field t x f => exact Mn hE h ho hk
 | indexAddr t x i => exact Lv hE h ho hk
 | index t x i => exact LL hE h ho hk
 | extract x i => exact GC h ho hk
 | slice t x lo hi mx => exact Mb hE h ho hk
 | call c => exact Oc hE h ho hk
 | makeFunc fn first captured => exact TF h ho hk
 | build t ps => exact Lk hE h ho hk
 | convert src dst x => exact Pj hE h ho hk
 | _ => rw [ho] at hk; simp only [qop] at hk; cases hk
end
end Go.Proofs.YtcddhifkfakcjaaGreat.Lib
namespace Go.Proofs.YtcddhifkfakcjaaGreat.Lib
open Go Go.RowKit
set_option linter.unusedVariables false
set_option linter.unusedSimpArgs false
theorem vH (a : Addr) (n : Nat) : (a.add n).block = a.block := by unfold Addr.add; split <;> rfl
theorem Cw {ok : Nat -> Prop} {w : World} {e : TypeId} {t : Ty} {l : List t.T} {A : Option Addr} {c off len : Nat} {v : Value} (h : Rp ok w (.sl e t) l [.slice A l.length c]) (hle : off + len <= l.length) (hv : OX A c t.sz off len v) : Rp ok w (.sl e t) ((l.drop off).take len) [v] := by
 simp only [Rp] at h ⊢
 obtain ⟨A',c',h1,h2,h3,h4⟩ := h
 simp only [List.cons.injEq,Value.slice.injEq,and_true] at h1
 obtain ⟨rfl,_,rfl⟩ := h1
 have hl : ((l.drop off).take len).length = len := by rw [List.length_take,List.length_drop]; omega
 have hget : ∀ i x,((l.drop off).take len)[i]? = some x -> i < len /\ l[off + i]? = some x := by
  intro i x hx
  rw [List.getElem?_take] at hx
  split at hx
  ·rw [List.getElem?_drop] at hx; exact ⟨by assumption,hx⟩
  ·cases hx
 rcases hv with ⟨rfl,rfl⟩ | ⟨h5,h6,ad,rfl,rfl⟩ | ⟨rfl,_,A',c',rfl,hc'⟩
 ·refine ⟨A,c,by rw [hl],by rw [hl]; omega,h3,fun hp => ?_⟩
  obtain ⟨ad,hA,hok,hr⟩ := h4 (by omega)
  refine ⟨ad,hA,hok,fun i x hx => ?_⟩
  have := (hget i x hx).2
  rw [Nat.zero_add] at this
  exact hr i x this
 ·refine ⟨some (ad.add (off * t.sz)),c - off,by rw [hl],by rw [hl]; omega,by omega,fun hp => ?_⟩
  obtain ⟨ad',hA,hok,hr⟩ := h4 (by omega)
  cases hA
  refine ⟨_,rfl,by rw [vH]; exact hok,fun i x hx => ?_⟩
  obtain ⟨cs,hcl,hcr,hcc⟩ := hr _ x (hget i x hx).2
  refine ⟨cs,hcl,hcr,fun q u hq => ?_⟩
  rw [bx,← Nat.add_assoc,← Nat.add_mul]
  exact hcc q u hq
 ·refine ⟨A',c',by simp,by simp,hc',fun hp => ?_⟩
  simp at hp
structure dh (ρ ρ' : al) : Prop where
 loc : ρ'.loc = ρ.loc
 ok : ∀ b g,ρ.ok b g -> ρ'.ok b g
theorem dh.refl (ρ : al) : dh ρ ρ := ⟨rfl,fun _ _ h => h⟩
theorem dh.trans {a b c : al} (h : dh a b) (k : dh b c) : dh a c := ⟨k.loc.trans h.loc,fun q g x => k.ok q g (h.ok q g x)⟩
theorem dh.step {ρ ρ' : al} (h : dh ρ ρ') (w : World) : Step (fun _ => True) ρ ρ' w w := ⟨fun j _ => by rw [h.loc],h.ok,fun _ _ _ => rfl⟩
section
variable {P : Program} {E : Env} {B : Nat} {O : Ow} {w0 w : World} {ρ : al} {a : Act} {R : Type} {r : R} {sg : Sig}
theorem fk {ρ' : al} {j : Nat} {e : TypeId} {t : Ty} {l : List t.T} {b : Bool} (hl : ρ'.loc = ρ.loc) {i g : Nat} (h : aP ρ' (sg.put j (.fro e t l b)) i g) : i ≠ j /\ aP ρ sg i g := by
 obtain ⟨b',h1,h2,h3⟩ := aE.1 h
 rw [Sig.bg] at h1
 split at h1
 ·cases h1
  exact absurd rfl (h2 e t l b)
 ·rename_i hne
  rw [hl] at h3
  exact ⟨fun e => hne e.symm,aE.2 ⟨b',h1,h2,h3⟩⟩
theorem Mem.freeze (h : Mem B O ρ sg w) {j : Nat} {e : TypeId} {t : Ty} {l : List t.T} {b : Bool} (hj : sg.get j = some (.arr e t l b)) :
  ∃ ρ',dh ρ ρ' /\ Mem B O ρ' (sg.put j (.fro e t l b)) w := by
 obtain ⟨v,g,xs,h1,h2,h3⟩ := h.blk j _ hj
 refine ⟨ρ.allow b (fun k => g = some k),⟨rfl,fun _ _ h => .inl h⟩,?_⟩
 have hm : dh ρ (ρ.allow b (fun k => g = some k)) := ⟨rfl,fun _ _ h => .inl h⟩
 have howns : ∀ k,g = some k -> aP ρ sg j k := fun k hk => aE.2 ⟨_,hj,by simp,.inr (.inl ⟨e,t,l,b,rfl,v,t.sz,by rw [h1,hk]⟩)⟩
 refine ⟨fun i b' hi => ?_,fun i k g' hi hk => ?_,fun i g' hi => h.old i g' (fk (ρ := ρ) rfl hi).2,fun q g' hq => ?_,fun q g' hq i hi => ?_,fun g' hg => ?_,fun q g' hq => ?_,fun q g' hq => .inl (h.oky q g' hq),fun i b' d hi hu => ?_⟩
 ·rw [Sig.bg] at hi
  split at hi
  ·rename_i hji
   subst hji
   cases hi
   refine ⟨v,g,h1,?_⟩
   have h2' : bU ((ρ.allow b (fun k => g = some k)).ok b) w t l xs := h2.step (fun _ h => .inl h) (fun _ _ => rfl)
   cases g with
   | none =>
    obtain ⟨rfl,A,rfl⟩ := h3
    simp only [Rp]
    exact ⟨A,0,rfl,Nat.zero_le _,Nat.zero_le _,fun hp => absurd hp (by simp)⟩
   | some g => exact yF h3.1 h3.2 (.inr ⟨rfl,fun h => h⟩) h2'
  ·exact cd (hm.step w) trivial (fun _ _ => trivial) (fun _ _ _ => rfl) (h.blk i b' hi)
 ·exact h.inj i k g' (fk (ρ := ρ) rfl hi).2 (fk (ρ := ρ) rfl hk).2
 ·rcases hq with hq | ⟨hq,_⟩
  ·exact h.okb q g' hq
  ·exact h.lt (howns g' hq)
 ·obtain ⟨hne,hi⟩ := fk (ρ := ρ) rfl hi
  rcases hq with hq | ⟨hq,_⟩
  ·exact h.oko q g' hq i hi
  ·exact hne (h.inj i j g' hi (howns g' hq))
 ·rcases hg with hg | ⟨hg,hb⟩
  ·exact .inl (h.okm g' hg)
  ·exact .inr ⟨hg,fun _ => rfl⟩
 ·rcases hq with hq | ⟨hq,_⟩
  ·exact h.okx q g' hq
  ·exact .inr (h.old j g' (howns g' hq))
 ·rw [Sig.bg] at hi ⊢
  split at hi
  ·cases hi; cases hu
  ·have := h.dom i b' d hi hu
   split
   ·rfl
   ·exact this
structure bW (sg sg' : Sig) : Prop where
 some : ∀ j,(sg'.get j).isSome = (sg.get j).isSome
 same : ∀ j b,sg'.get j = .some b -> (∀ e t l q,b ≠ .fro e t l q) -> sg.get j = .some b
theorem bW.refl (sg : Sig) : bW sg sg := ⟨fun _ => rfl,fun _ _ h _ => h⟩
theorem bW.trans {a b c : Sig} (h : bW a b) (k : bW b c) : bW a c := ⟨fun j => (k.some j).trans (h.some j),fun j x hx hn => h.same j x (k.same j x hx hn) hn⟩
theorem bW.put {j : Nat} {e : TypeId} {t : Ty} {l : List t.T} {b : Bool} (hj : sg.get j = .some (.arr e t l b)) : bW sg (sg.put j (.fro e t l b)) := by
 refine ⟨fun i => ?_,fun i x hi hn => ?_⟩
 ·rw [Sig.bg]
  split
  ·rename_i h; subst h; rw [hj]; rfl
  ·rfl
 ·rw [Sig.bg] at hi
  split at hi
  ·cases hi; exact absurd rfl (hn e t l b)
  ·exact hi
theorem gn (h : Mem B O ρ sg w) {j : Nat} {e : TypeId} {t : Ty} {l : List t.T} {b : Bool} (hj : sg.get j = some (.fro e t l b)) :
  (∀ v,rc ρ w (.sl j) v -> rc ρ w (.emb e t l b) v) /\ ∀ o n v,rc ρ w (.sub j o n) v -> rc ρ w (.emb e t ((l.drop o).take n) b) v := by
 obtain ⟨v,g,h1,h2⟩ := h.blk j _ hj
 have hv : ∃ A c,v = .slice A l.length c := by
  have := h2
  simp only [Rp] at this
  obtain ⟨A,c,h3,_⟩ := this
  simp only [List.cons.injEq,and_true] at h3
  exact ⟨A,c,h3⟩
 obtain ⟨A,c,rfl⟩ := hv
 refine ⟨fun v hv => ?_,fun o n v hv => ?_⟩
 ·obtain ⟨g',sz,h3⟩ := hv
  rw [h1] at h3; cases h3
  exact h2
 ·obtain ⟨A',m,c',g',sz,h3,h4,h5⟩ := hv
  rw [h1] at h3; cases h3
  exact Cw h2 h4 h5
theorem iR : ∀ (cs : List Cell) (sg : Sig) (ρ : al) (vs : List Value) (sg' : Sig) (cs' : List Cell),Mem B O ρ sg w -> aF (rc ρ w) cs vs -> settle sg cs = some (sg',cs') ->
  ∃ ρ',dh ρ ρ' /\ Mem B O ρ' sg' w /\ bW sg sg' /\ aF (rc ρ' w) cs' vs /\ ∀ d,cs'.any (·.ae d) = true -> cs.any (·.ae d) = true := by
 intro cs
 induction cs with
 | nil =>
  intro sg ρ vs sg' cs' h hr hs
  simp only [settle,Option.some.injEq,Prod.mk.injEq] at hs
  obtain ⟨rfl,rfl⟩ := hs
  exact ⟨ρ,dh.refl _,h,bW.refl _,hr,fun _ h => h⟩
 | cons c cs ih =>
  intro sg ρ vs sg' cs' h hr hs
  cases hr with
  | @cons _ u0 _ us h0 h1 =>
  have keep : ∀ {d : Cell} {ρ1 : al} {sg1 : Sig},dh ρ ρ1 -> Mem B O ρ1 sg1 w -> bW sg sg1 -> rc ρ1 w d u0 -> (∀ x,d.ae x = true -> c.ae x = true) -> (match settle sg1 cs with | some (sg,l) => some (sg,d :: l) | none => none) = some (sg',cs') ->
    ∃ ρ',dh ρ ρ' /\ Mem B O ρ' sg' w /\ bW sg sg' /\ aF (rc ρ' w) cs' (u0 :: us) /\ ∀ x,cs'.any (·.ae x) = true -> (c :: cs).any (·.ae x) = true := by
   intro d ρ1 sg1 hm hM hf hd hu hs
   split at hs
   ·rename_i sg2 l hl
    simp only [Option.some.injEq,Prod.mk.injEq] at hs
    obtain ⟨rfl,rfl⟩ := hs
    obtain ⟨ρ2,hm2,hM2,hf2,hr2,hu2⟩ := ih sg1 ρ1 _ _ _ hM (dD (hm.step w) (fun _ _ => trivial) h1) hl
    refine ⟨ρ2,hm.trans hm2,hM2,hf.trans hf2,.cons (cM (hm2.step w) (fun _ _ => trivial) hd) hr2,fun x hx => ?_⟩
    simp only [List.any_cons,Bool.or_eq_true] at hx ⊢
    exact hx.imp (hu x) (hu2 x)
   ·cases hs
  unfold settle at hs
  split at hs
  ·rename_i heq; cases heq
  ·rename_i j r heq
   simp only [List.cons.injEq] at heq
   obtain ⟨rfl,rfl⟩ := heq
   split at hs
   ·rename_i e t l b hj
    obtain ⟨ρ1,hm,hM⟩ := h.freeze hj
    have hj' : (sg.put j (.fro e t l b)).get j = some (.fro e t l b) := by rw [Sig.bg,if_pos rfl]
    exact keep hm hM (bW.put hj) ((gn hM hj').1 _ (cM (hm.step w) (fun _ _ => trivial) h0)) (fun x hx => by cases hx) hs
   ·rename_i e t l b hj
    exact keep (dh.refl _) h (bW.refl _) ((gn h hj).1 _ h0) (fun x hx => by cases hx) hs
   ·cases hs
  ·rename_i j o n r heq
   simp only [List.cons.injEq] at heq
   obtain ⟨rfl,rfl⟩ := heq
   split at hs
   ·rename_i e t l b hj
    obtain ⟨ρ1,hm,hM⟩ := h.freeze hj
    have hj' : (sg.put j (.fro e t l b)).get j = some (.fro e t l b) := by rw [Sig.bg,if_pos rfl]
    exact keep hm hM (bW.put hj) ((gn hM hj').2 _ _ _ (cM (hm.step w) (fun _ _ => trivial) h0)) (fun x hx => by cases hx) hs
   ·rename_i e t l b hj
    exact keep (dh.refl _) h (bW.refl _) ((gn h hj).2 _ _ _ h0) (fun x hx => by cases hx) hs
   ·cases hs
  ·rename_i c' r hn1 hn2 heq
   simp only [List.cons.injEq] at heq
   obtain ⟨rfl,rfl⟩ := heq
   exact keep (dh.refl _) h (bW.refl _) h0 (fun x hx => hx) hs
theorem Sim.more {st : St} (h : Sim P B O w0 ρ st a w) {ρ' : al} {sg' : Sig} (hm : dh ρ ρ') (hM : Mem B O ρ' sg' w) (hf : bW st.sg sg') : Sim P B O w0 ρ' ⟨st.sl,sg'⟩ a w :=
 ⟨hM,h.len,fun i v hi => by
  obtain ⟨u,hu,hr⟩ := h.sl i v hi
  exact ⟨u,hu,bQ (hm.step w) (fun _ _ => trivial) hr⟩,fun i v d hi hd => by rw [hf.some]; exact h.dom i v d hi hd,h.defers,h.fr,h.base,fun j hj => (congrFun hm.loc j).trans (h.pin j hj),h.glo⟩
end
end Go.Proofs.YtcddhifkfakcjaaGreat.Lib
namespace Go.Proofs.YtcddhifkfakcjaaGreat.Lib
open Go Go.RowKit
set_option linter.unusedVariables false
set_option linter.unusedSimpArgs false
theorem Rp.mono {ok ok' : Nat -> Prop} {w : World} {t : Ty} {x : t.T} {cs : List Value} (hk : ∀ g,ok g -> ok' g) (h : Rp ok w t x cs) : Rp ok' w t x cs := h.step hk (fun _ _ => rfl)
theorem iL {ok ok' : Nat -> Prop} {w : World} : ∀ {t : Ty} {x : t.T} {cs : List Value},t.flat = true -> Rp ok w t x cs -> Rp ok' w t x cs
 | .int _,_,_,_,h => by simp only [Rp] at h ⊢; exact h
 | .bool,_,_,_,h => by simp only [Rp] at h ⊢; exact h
 | .str,_,_,_,h => by simp only [Rp] at h ⊢; exact h
 | .sl _ _,_,_,hf,_ => by cases hf
 | .nul _,_,_,hf,_ => by cases hf
 | .pair a b,_,_,hf,h => by
  simp only [Ty.flat,Bool.and_eq_true] at hf
  simp only [Rp] at h ⊢
  obtain ⟨c0,c1,rfl,h0,h1⟩ := h
  exact ⟨c0,c1,rfl,iL hf.1 h0,iL hf.2 h1⟩
theorem gB {ρ : al} {w : World} (hm : ∀ g,ρ.ok false g -> ρ.ok true g) {b : Bool} : ∀ {t : Ty} {cs : List Cell} {x : t.T} {rest : List Cell} {vs : List Value},t.parse b cs = some (x,rest) -> aF (rc ρ w) cs vs ->
  ∃ v0 v1,vs = v0 ++ v1 /\ Rp (ρ.ok b) w t x v0 /\ aF (rc ρ w) rest v1
 | .int k,cs,x,rest,vs,h,hr => by
  cases hr with
  | nil => simp [Ty.parse] at h
  | @cons c v r us h0 h1 =>
   cases c <;> simp only [Ty.parse] at h <;> try (cases h; done)
   split at h
   ·rename_i hk
    simp only [Option.some.injEq,Prod.mk.injEq] at h
    obtain ⟨rfl,rfl⟩ := h
    subst hk
    exact ⟨[v],us,rfl,by simp only [Rp]; rw [show v = _ from h0],h1⟩
   ·cases h
 | .bool,cs,x,rest,vs,h,hr => by
  cases hr with
  | nil => simp [Ty.parse] at h
  | @cons c v r us h0 h1 =>
   cases c <;> simp only [Ty.parse] at h <;> try (cases h; done)
   simp only [Option.some.injEq,Prod.mk.injEq] at h
   obtain ⟨rfl,rfl⟩ := h
   exact ⟨[v],us,rfl,by simp only [Rp]; rw [show v = _ from h0],h1⟩
 | .str,cs,x,rest,vs,h,hr => by
  cases hr with
  | nil => simp [Ty.parse] at h
  | @cons c v r us h0 h1 =>
   cases c <;> simp only [Ty.parse] at h <;> try (cases h; done)
   simp only [Option.some.injEq,Prod.mk.injEq] at h
   obtain ⟨rfl,rfl⟩ := h
   exact ⟨[v],us,rfl,by simp only [Rp]; rw [show v = _ from h0],h1⟩
 | .nul f,cs,x,rest,vs,h,hr => by
  cases hr with
  | nil => simp [Ty.parse] at h
  | @cons c v r us h0 h1 =>
   cases c <;> simp only [Ty.parse] at h <;> try (cases h; done)
   split at h
   ·rename_i hk
    simp only [Option.some.injEq,Prod.mk.injEq] at h
    obtain ⟨_,rfl⟩ := h
    subst hk
    exact ⟨[v],us,rfl,by simp only [Rp]; rw [show v = _ from h0],h1⟩
   ·cases h
 | .sl e t,cs,x,rest,vs,h,hr => by
  cases hr with
  | nil => simp [Ty.parse] at h
  | @cons c v r us h0 h1 =>
   cases c with
   | nil =>
    simp only [Ty.parse,Option.some.injEq,Prod.mk.injEq] at h
    obtain ⟨rfl,rfl⟩ := h
    refine ⟨[v],us,rfl,?_,h1⟩
    simp only [Rp]
    exact ⟨none,0,by rw [show v = _ from h0]; rfl,Nat.zero_le _,Nat.zero_le _,fun hp => absurd hp (by simp)⟩
   | cap0 =>
    simp only [Ty.parse,Option.some.injEq,Prod.mk.injEq] at h
    obtain ⟨rfl,rfl⟩ := h
    obtain ⟨A,rfl⟩ := h0
    refine ⟨[_],us,rfl,?_,h1⟩
    simp only [Rp]
    exact ⟨A,0,rfl,Nat.zero_le _,Nat.zero_le _,fun hp => absurd hp (by simp)⟩
   | emb e' t' l b' =>
    simp only [Ty.parse] at h
    split at h
    ·rename_i ht
     subst ht
     split at h
     ·rename_i hb
      simp only [Option.some.injEq,Prod.mk.injEq] at h
      obtain ⟨rfl,rfl⟩ := h
      obtain ⟨rfl,hb⟩ := hb
      refine ⟨[v],us,rfl,?_,h1⟩
      have h0 : Rp (ρ.ok b') w (.sl e' t') l [v] := h0
      refine Rp.mono ?_ h0
      cases b' <;> cases b
      ·exact fun _ h => h
      ·exact hm
      ·exact absurd (hb rfl) (by simp)
      ·exact fun _ h => h
     ·cases h
    ·cases h
   | _ => simp only [Ty.parse] at h; cases h
 | .pair p q,cs,x,rest,vs,h,hr => by
  simp only [Ty.parse] at h
  obtain ⟨⟨x0,r0⟩,h0,h⟩ := Option.bind_eq_some_iff.1 h
  obtain ⟨⟨x1,r1⟩,h1,h⟩ := Option.bind_eq_some_iff.1 h
  simp only [Option.some.injEq,Prod.mk.injEq] at h
  obtain ⟨rfl,rfl⟩ := h
  obtain ⟨v0,v1,rfl,h2,h3⟩ := gB hm h0 hr
  obtain ⟨v2,v3,rfl,h4,h5⟩ := gB hm h1 h3
  exact ⟨v0 ++ v2,v3,by rw [List.append_assoc],by simp only [Rp]; exact ⟨v0,v2,rfl,h2,h4⟩,h5⟩
theorem lB {ρ : al} {w : World} (hm : ∀ g,ρ.ok false g -> ρ.ok true g) {b : Bool} {t : Ty} {cs : List Cell} {x : t.T} {vs : List Value} (h : t.read b cs = some x) (hr : aF (rc ρ w) cs vs) : Rp (ρ.ok b) w t x vs := by
 unfold Ty.read at h
 split at h
 ·rename_i y hp
  cases h
  obtain ⟨v0,v1,rfl,h1,h2⟩ := gB hm hp hr
  cases h2
  rw [List.append_nil]
  exact h1
 ·cases h
def bG (cur : List Value) (o : Nat) (vs : List Value) : List Value := cur.take o ++ vs ++ cur.drop (o + vs.length)
theorem zF (cur : List Value) (o : Nat) (v : Value) (vs : List Value) (h : o + (vs.length + 1) <= cur.length) : bG (cur.set o v) (o + 1) vs = bG cur o (v :: vs) := by
 unfold bG
 have h1 : (cur.set o v).take (o + 1) = cur.take o ++ [v] := by
  rw [List.take_succ_eq_append_getElem (by simp; omega)]
  rw [List.take_set_of_le (Nat.le_refl _)]
  simp
 rw [h1,List.drop_set_of_lt (by omega)]
 simp only [List.length_cons,List.append_assoc,List.singleton_append,List.cons_append,List.nil_append]
 rw [show o + 1 + vs.length = o + (vs.length + 1) by omega]
theorem du (g : Nat) (ty : TypeId) : ∀ (vs : List Value) (o : Nat) (w : World) (cur : List Value),w.heap[g]? = some (.cells cur.toArray ty (0,0)) -> o + vs.length <= cur.length -> (w.setCells g o vs).heap[g]? = some (.cells (bG cur o vs).toArray ty (0,0))
 | [],o,w,cur,h,hl => by
  simp only [World.setCells,bG,List.append_nil,List.length_nil,Nat.add_zero,List.take_append_drop]
  exact h
 | v :: vs,o,w,cur,h,hl => by
  rw [World.setCells]
  rw [List.length_cons] at hl
  rw [← zF cur o v vs hl]
  refine du g ty vs (o + 1) _ (cur.set o v) ?_ (by rw [List.length_set]; omega)
  rw [heap_setCell_same w g o cur.toArray ty v h]
  simp
theorem bz (g : Nat) : ∀ (vs : List Value) (o : Nat) (w : World) (k : Nat),k ≠ g -> (w.setCells g o vs).heap[k]? = w.heap[k]?
 | [],_,_,_,_ => rfl
 | v :: vs,o,w,k,h => by
  rw [World.setCells,bz g vs (o + 1) _ k h]
  exact heap_setCell_other w ⟨g,o,none⟩ k v h
theorem cA (g : Nat) : ∀ (vs : List Value) (o : Nat) (w : World),(w.setCells g o vs).heap.size = w.heap.size
 | [],_,_ => rfl
 | v :: vs,o,w => by
  rw [World.setCells,cA g vs]
  simp [World.setCell]
theorem dU {B : Nat} {O : Ow} {g : Nat} (hg : B <= g ∨ O g) (vs : List Value) (o : Nat) (w : World) : da B O w (w.setCells g o vs) := by
 have h := World.keptBut_setCells g (may := fun _ => True) vs o w (fun _ _ => trivial)
 refine ⟨h.1,?_,h.2.1,by rw [cA]; exact Nat.le_refl _,fun k hk hn => bz g vs o w k ?_⟩
 ·have : ∀ (vs : List Value) (o : Nat) (w : World),(w.setCells g o vs).tape = w.tape := by
   intro vs
   induction vs with
   | nil => intro o w; rfl
   | cons v vs ih => intro o w; rw [World.setCells,ih]; rfl
  exact this vs o w
 ·rintro rfl
  rcases hg with hg | hg
  ·omega
  ·exact hn hg
theorem kR {P : Program} {t : TypeId} {i : TI} (h : TI.Ok P t i) {w : World} {g o : Nat} {ty : TypeId} {cur vs : List Value} {v : Value} (hv : v.cells = vs.toArray) (hl : vs.length = i.sz) (hg : w.heap[g]? = some (.cells cur.toArray ty (0,0))) (hle : o + vs.length <= cur.length) (h1 : ∀ u ∈ vs,u.oneCell' = true) :
  (storeVar t ⟨g,o,none⟩ v).run P w = .ok () (w.setCells g o vs) := by
 have hs := run_storeCells_cells (P := P) g o vs 0 w (fun j hj => by
   rw [Nat.add_zero,cell_of_row w g (o + j) cur.toArray ty (0,0) hg]
   simp
   omega) (fun j _ => by rw [Nat.add_zero]; exact frozen_of_row w g _ cur.toArray ty hg) h1
 rw [Nat.add_zero] at hs
 unfold storeVar
 simp [Sem.run_bind,iw h w,hv,hl,hs]
end Go.Proofs.YtcddhifkfakcjaaGreat.Lib
namespace Go.Proofs.YtcddhifkfakcjaaGreat.Lib
open Go Go.RowKit
set_option linter.unusedVariables false
set_option linter.unusedSimpArgs false
section
variable {P : Program} {E : Env} {B : Nat} {O : Ow} {w0 w w' : World} {ρ ρ' : al} {a : Act} {R : Type} {r : R} {sg : Sig} {st : St}
theorem Mem.renew (h : Mem B O ρ sg w) (hB : B <= w.heap.size) {j : Nat} {b' : Blk} (hok : ρ'.ok = ρ.ok) (hloc : ∀ i,i ≠ j -> ρ'.loc i = ρ.loc i)
  (huse : ∀ i b d,sg.get i = some b -> i ≠ j -> b.ae d = true -> ρ'.loc d = ρ.loc d)
  (hw : ∀ k,k < w.heap.size -> ¬ aP ρ sg j k -> w'.heap[k]? = w.heap[k]?) (hs : w.heap.size <= w'.heap.size)
  (hb : eZ ρ' w' j b') (hL : ∀ g,(ρ'.loc j).own g -> w.heap.size <= g ∨ aP ρ sg j g) (hu : ∀ d,b'.ae d = true -> (sg.get d).isSome = true ∨ d = j) :
  Mem B O ρ' (sg.put j b') w' := by
 have hstep : Step (fun d => ρ'.loc d = ρ.loc d) ρ ρ' w w' := ⟨fun _ h => h,fun b g hg => by rw [hok]; exact hg,fun b g hg => hw g (h.okb b g hg) (h.oko b g hg j)⟩
 have hown : ∀ i g,aP ρ' (sg.put j b') i g -> (i = j /\ (ρ'.loc j).own g) ∨ (i ≠ j /\ aP ρ sg i g) := by
  intro i g ho
  obtain ⟨b,h1,h2,h3⟩ := aE.1 ho
  rw [Sig.bg] at h1
  by_cases hi : j = i
  ·subst hi
   exact .inl ⟨rfl,ho.own⟩
  ·rw [if_neg hi] at h1
   rw [hloc i (Ne.symm hi)] at h3
   exact .inr ⟨Ne.symm hi,aE.2 ⟨b,h1,h2,h3⟩⟩
 refine ⟨fun i b hi => ?_,fun i k g hi hk => ?_,fun i g hi => ?_,fun q g hq => ?_,fun q g hq i hi => ?_,fun g hg => ?_,fun q g hq => by rw [hok] at hq; exact h.okx q g hq,fun q g hq => by rw [hok]; exact h.oky q g hq,fun i b d hi hd => ?_⟩
 ·rw [Sig.bg] at hi
  by_cases hj : j = i
  ·subst hj; rw [if_pos rfl] at hi; cases hi; exact hb
  ·rw [if_neg hj] at hi
   refine cd hstep (hloc i (Ne.symm hj)) (fun d hd => huse i b d hi (Ne.symm hj) hd) (fun g hg hf => ?_) (h.blk i b hi)
   have ho : aP ρ sg i g := cD hi (h.blk i b hi) hf hg
   exact hw g (h.lt ho) (fun hj' => hj (h.inj j i g hj' ho))
 ·rcases hown i g hi with ⟨rfl,h1⟩ | ⟨h1,h2⟩ <;> rcases hown k g hk with ⟨rfl,h3⟩ | ⟨h3,h4⟩
  ·rfl
  ·rcases hL g h1 with h5 | h5
   ·exact absurd (h.lt h4) (by omega)
   ·exact (h.inj i k g h5 h4)
  ·rcases hL g h3 with h5 | h5
   ·exact absurd (h.lt h2) (by omega)
   ·exact (h.inj i k g h2 h5)
  ·exact h.inj i k g h2 h4
 ·rcases hown i g hi with ⟨rfl,h1⟩ | ⟨h1,h2⟩
  ·rcases hL g h1 with h5 | h5
   ·exact .inl (Nat.le_trans hB h5)
   ·exact h.old i g h5
  ·exact h.old i g h2
 ·rw [hok] at hq; exact Nat.lt_of_lt_of_le (h.okb q g hq) hs
 ·rw [hok] at hq
  rcases hown i g hi with ⟨rfl,h1⟩ | ⟨h1,h2⟩
  ·rcases hL g h1 with h5 | h5
   ·exact absurd (h.okb q g hq) (by omega)
   ·exact h.oko q g hq i h5
  ·exact h.oko q g hq i h2
 ·rw [hok] at hg ⊢; exact h.okm g hg
 ·rw [Sig.bg] at hi ⊢
  by_cases hj : j = i
  ·subst hj
   rw [if_pos rfl] at hi; cases hi
   by_cases hd' : j = d
   ·rw [if_pos hd']; rfl
   ·rw [if_neg hd']
    rcases hu d hd with h1 | h1
    ·exact h1
    ·exact absurd h1.symm hd'
  ·rw [if_neg hj] at hi
   split
   ·rfl
   ·exact h.dom i b d hi hd
theorem Ly {j : Nat} {b : Blk} (d : Nat) (h : (sg.get d).isSome = true) : ((sg.put j b).get d).isSome = true := by
 rw [Sig.bg]; split
 ·rfl
 ·exact h
theorem Sim.renew (h : Sim P B O w0 ρ st a w) {j : Nat} {b' : Blk} (hM : Mem B O ρ' (st.sg.put j b') w') (hk : da B O w w') (hok : ∀ q g,ρ.ok q g -> ρ'.ok q g) (hheap : ∀ q g,ρ.ok q g -> w'.heap[g]? = w.heap[g]?)
  (hloc : ∀ (i : Nat) (v : AV) (d : Nat),st.sl[i]? = some v -> v.ae d = true -> ρ'.loc d = ρ.loc d) (hpin : ∀ i,PIN <= i -> ρ'.loc i = ρ.loc i) : Sim P B O w0 ρ' ⟨st.sl,st.sg.put j b'⟩ a w' :=
 ⟨hM,h.len,fun i v hi => by
  obtain ⟨u,hu,hr⟩ := h.sl i v hi
  exact ⟨u,hu,bQ (U := fun d => ρ'.loc d = ρ.loc d) ⟨fun _ h => h,hok,hheap⟩ (fun d hd => hloc i v d hi hd) hr⟩,
  fun i v d hi hd => Ly d (h.dom i v d hi hd),h.defers,h.fr.trans hk,Nat.le_trans h.base hk.size,fun i hi => (hpin i hi).trans (h.pin i hi),h.glo⟩
theorem jk {cur : List Value} {o : Nat} {vs : List Value} (h : o + vs.length <= cur.length) (i : Nat) : (bG cur o vs)[i]? = if i < o then cur[i]? else if i < o + vs.length then vs[i - o]? else cur[i]? := by
 unfold bG
 have h1 : (cur.take o).length = o := by rw [List.length_take]; omega
 split
 ·rename_i hi
  rw [List.append_assoc,List.getElem?_append_left (by omega),List.getElem?_take,if_pos hi]
 ·rename_i hi
  split
  ·rename_i hj
   rw [List.append_assoc,List.getElem?_append_right (by omega),h1,List.getElem?_append_left (by omega)]
  ·rename_i hj
   rw [List.getElem?_append_right (by rw [List.length_append]; omega),List.length_append,h1,List.getElem?_drop]
   congr 1
   omega
theorem u7 {cur vs xs : List Value} {m i c sz n : Nat} (hm : m <= cur.length) (hx : cur.take m = xs) (hn : vs.length = n) (hc : c + n <= sz) (hi : i + sz <= m) :
  (((bG cur (i + c) vs).take m).drop i).take sz = ((xs.drop i).take sz).take c ++ vs ++ ((xs.drop i).take sz).drop (c + n) := by
 subst hx hn
 have h0 : ((((cur.take m).drop i).take sz).take c).length = c := by simp only [List.length_take,List.length_drop]; omega
 apply List.ext_getElem?
 intro q
 rw [List.getElem?_take]
 split
 ·rename_i hq
  rw [List.getElem?_drop,List.getElem?_take,if_pos (by omega),jk (by omega)]
  split
  ·rename_i h1
   rw [List.append_assoc,List.getElem?_append_left (by omega),List.getElem?_take,if_pos (by omega),List.getElem?_take,if_pos hq,List.getElem?_drop,List.getElem?_take,if_pos (by omega)]
  ·rename_i h1
   split
   ·rename_i h2
    rw [List.append_assoc,List.getElem?_append_right (by omega),h0,List.getElem?_append_left (by omega)]
    congr 1
    omega
   ·rename_i h2
    rw [List.getElem?_append_right (by rw [List.length_append]; omega),List.length_append,h0,List.getElem?_drop,List.getElem?_take,if_pos (by omega),List.getElem?_drop,List.getElem?_take,if_pos (by omega)]
    congr 1
    omega
 ·rename_i hq
  rw [List.getElem?_eq_none]
  simp only [List.length_append,List.length_drop,List.length_take]
  omega
theorem tI {cur vs xs : List Value} {m i c sz n i' : Nat} (hm : m <= cur.length) (hx : cur.take m = xs) (hn : vs.length = n) (hc : c + n <= sz) (hi : i + sz <= m) (hi' : i' + sz <= m) (hne : i' + sz <= i ∨ i + sz <= i') :
  (((bG cur (i + c) vs).take m).drop i').take sz = (xs.drop i').take sz := by
 subst hx hn
 apply List.ext_getElem?
 intro q
 rw [List.getElem?_take,List.getElem?_take]
 split
 ·rename_i hq
  rw [List.getElem?_drop,List.getElem?_take,if_pos (by omega),List.getElem?_drop,List.getElem?_take,if_pos (by omega),jk (by omega)]
  split
  ·rfl
  ·rw [if_neg (by omega)]
 ·rfl
theorem taken {α : Type} {l : List α} {n : Nat} (h : n <= l.length) : (l.take n).length = n := by rw [List.length_take]; omega
end
end Go.Proofs.YtcddhifkfakcjaaGreat.Lib
namespace Go.Proofs.YtcddhifkfakcjaaGreat.Lib
open Go Go.RowKit
set_option linter.unusedVariables false
set_option linter.unusedSimpArgs false
section
variable {P : Program} {E : Env} {B : Nat} {O : Ow} {w0 w w' : World} {ρ ρ' : al} {a : Act} {R : Type} {r : R} {sg sg' : Sig} {st : St}
theorem xC (hE : Env.Ok P E) (h : Sim P B O w0 ρ st a w) {o : Oper} {c : Call} {t : TypeId} {x : Operand} (ho : o.op = .call c) (hc : c.callee = .builtin .clear) (ha : c.args.toList = [x]) (hat : c.argTypes.toList = [t]) {k : St -> Option R} (hk : nS E st t (au st.sl x) k = some r) :
  ∃ ρ' st' w',k st' = some r /\ (execOp a.eval o).run P w = .ok (.value (.tuple #[])) w' /\ Sim P B O w0 ρ' st' a w' := by
 unfold nS at hk
 split at hk
 ·rename_i j off n e sz by_ ty hp ht
  split at hk
  ·rename_i e' τ l b sz' by' td τ' hj he
   split at hk
   ·rename_i hτ
    subst hτ
    have hu := cg (hE.ti _ _ ht)
    have hx := (h.eval x).1
    rw [hp] at hx
    obtain ⟨A,N,cp,g,szl,hloc,hle,hsub⟩ := hx
    obtain ⟨va,g',xs,h2,h3,h4⟩ := h.mem.blk j _ hj
    rw [hloc] at h2
    cases h2
    have hargs : c.args = #[x] := by cases hc' : c.args; rw [hc'] at ha; simp only at ha; subst ha; rfl
    have hats : c.argTypes = #[t] := by cases hc' : c.argTypes; rw [hc'] at hat; simp only at hat; subst hat; rfl
    have run : ∀ (u : Value) (w' : World),a.eval x = u -> (Builtin.clear_ #[t] o.type #[u]).run P w = .ok (.tuple #[]) w' -> (execOp a.eval o).run P w = .ok (.value (.tuple #[])) w' := by
     intro u w' hu hr
     unfold execOp
     simp [ho,hc,hargs,hats,hu,Sem.run_bind,resolve,invoke,builtin,hr]
    have hNl : N = l.length := by
     cases g with
     | none =>
      obtain ⟨rfl,A',h0⟩ := h4
      cases h0; rfl
     | some g =>
      rcases h4.1.2 with ⟨h0,hn0⟩ | ⟨_,cap,cur,h0,_⟩
      ·rw [h0] at h4; cases h4.2
      ·cases h0; rfl
    subst hNl
    have triv : n = 0 -> ∃ ρ' st' w',k st' = some r /\ (execOp a.eval o).run P w = .ok (.value (.tuple #[])) w' /\ Sim P B O w0 ρ' st' a w' := by
     rintro rfl
     have hl : l.take off ++ List.replicate 0 τ'.zero ++ l.drop (off + 0) = l := by simp
     rw [hl] at hk
     have hv : ∃ A' c',a.eval x = .slice A' 0 c' := by
      rcases hsub with ⟨_,hv⟩ | ⟨h0,_⟩ | ⟨_,_,A',c',hv,_⟩
      ·exact ⟨_,_,hv⟩
      ·omega
      ·exact ⟨_,_,hv⟩
     obtain ⟨A',c',hv⟩ := hv
     refine ⟨ρ,_,w,hk,run _ w hv ?_,?_⟩
     ·cases A' <;> simp [Builtin.clear_,run_underlying hu]
     ·refine h.renew (h.mem.renew h.base rfl (fun _ _ => rfl) (fun _ _ _ _ _ _ => rfl) (fun _ _ _ => rfl) (Nat.le_refl _) (h.mem.blk j _ hj) (fun g' hg' => ?_) (fun d hd => by cases hd)) (da.refl _ _ _) (fun _ _ h => h) (fun _ _ _ => rfl) (fun _ _ _ _ _ => rfl) (fun _ _ => rfl)
      rw [hloc] at hg'
      cases g with
      | none => cases hg'
      | some g => exact .inr (aE.2 ⟨_,hj,by simp,.inr (.inl ⟨_,_,_,_,rfl,_,_,by rw [hloc,show g' = g from hg']⟩)⟩)
    rcases Nat.eq_zero_or_pos n with hn | hn
    ·exact triv hn
    ·cases g with
     | none => obtain ⟨rfl,_⟩ := h4; simp at hle; omega
     | some g =>
      obtain ⟨hown,hgb⟩ := h4
      obtain ⟨hxl,hown2⟩ := hown
      rcases hown2 with ⟨h7,_⟩ | ⟨g2,cap,cur,h7,_,hcur,hnc,hcm,hcs,htake⟩
      ·rw [h7] at hgb; cases hgb
      ·cases h7
       have : g2 = g := by simpa [Value.ownBlock] using hgb
       subst this
       obtain ⟨ti,i1,i2,i3,i4⟩ := (hE.ti _ _ he).info
       obtain ⟨i5,z,i6,i7⟩ := i4 τ' rfl
       simp only at i5
       have hv : ∃ c',a.eval x = .slice (some ⟨g2,off * τ'.sz,none⟩) n c' := by
        rcases hsub with ⟨rfl,hv⟩ | ⟨_,_,ad,had,hv⟩ | ⟨h0,_⟩
        ·exact ⟨_,by rw [hv,Nat.zero_mul]⟩
        ·cases had; exact ⟨_,by rw [hv,fV]⟩
        ·omega
       obtain ⟨c',hv⟩ := hv
       have hzs : z.cells.size = τ'.sz := by rw [i7]; simp [Ty.bY]
       have hzl : (Builtin.zeroCells z.cells n).toList = (madeCells τ'.zv.toArray (n * τ'.sz)).toList := by
        unfold Builtin.zeroCells madeCells
        rw [hzs,i7]
        simp only [List.size_toArray,Ty.bY]
       generalize hzz : (madeCells τ'.zv.toArray (n * τ'.sz)).toList = zs at hzl
       have hzlen : zs.length = n * τ'.sz := by rw [← hzz,Array.length_toList,size_madeCells]
       have hzat : ∀ q,q < n -> (zs.drop (q * τ'.sz)).take τ'.sz = τ'.zv := fun q hq => by
        have := r7 τ'.zv (by rw [Ty.bY]; exact Ty.eD τ') n q hq
        rw [Ty.bY] at this
        rw [← hzz]; exact this
       have hzone : ∀ u ∈ zs,u.oneCell' = true := by
        intro u hu
        obtain ⟨q,hq,rfl⟩ := List.mem_iff_getElem.1 hu
        rw [hzlen] at hq
        have hsp := Ty.eD τ'
        have hqd : q / τ'.sz < n := by rw [Nat.div_lt_iff_lt_mul hsp]; exact hq
        have hqm := Nat.mod_lt q hsp
        have h0 := hzat _ hqd
        have hqe : q / τ'.sz * τ'.sz + q % τ'.sz = q := by rw [Nat.mul_comm]; exact Nat.div_add_mod q τ'.sz
        have h1 : ((zs.drop (q / τ'.sz * τ'.sz)).take τ'.sz)[q % τ'.sz]? = zs[q]? := by
         rw [List.getElem?_take,if_pos hqm,List.getElem?_drop,hqe]
        rw [h0] at h1
        have h2 := h1.symm.trans (List.getElem?_eq_getElem (by rw [Ty.bY]; exact hqm))
        rw [List.getElem?_eq_getElem (by rw [hzlen]; exact hq)] at h2
        have h2 := Option.some.inj h2
        rw [h2]
        exact Ty.Bs τ' _ (List.getElem_mem _)
       have hcl : cur.toList.length = cp * τ'.sz := by simpa using hcs
       have hend : (off + n) * τ'.sz <= l.length * τ'.sz := Nat.mul_le_mul_right _ hle
       have hcurl : l.length * τ'.sz <= cur.toList.length := by rw [hcl]; exact Nat.mul_le_mul_right _ hnc
       have hcur' : w.heap[g2]? = some (.cells cur.toList.toArray e' (0,0)) := by simpa using hcur
       have hroom : off * τ'.sz + zs.length <= cur.toList.length := by rw [hzlen,← Nat.add_mul]; omega
       have hst : (storeCells ⟨g2,off * τ'.sz,none⟩ zs).run P w = .ok () (w.setCells g2 (off * τ'.sz) zs) := by
        have hs := run_storeCells_cells (P := P) g2 (off * τ'.sz) zs 0 w (fun q hq => by
         rw [Nat.add_zero,cell_of_row w g2 (off * τ'.sz + q) cur.toList.toArray e' (0,0) hcur']
         simp
         have := hroom
         simp only [Array.length_toList] at this
         omega) (fun q _ => by rw [Nat.add_zero]; exact frozen_of_row w g2 _ cur.toList.toArray e' hcur') hzone
        rwa [Nat.add_zero] at hs
       have hsame : ∀ k',k' ≠ g2 -> (w.setCells g2 (off * τ'.sz) zs).heap[k']? = w.heap[k']? := fun k' hk' => bz g2 zs _ w k' hk'
       have hog : aP ρ st.sg j g2 := aE.2 ⟨_,hj,by simp,.inr (.inl ⟨_,_,_,_,rfl,_,_,hloc⟩)⟩
       have hkp := dU (h.mem.old j g2 hog) zs (off * τ'.sz) w
       have hstep : Step (fun _ => True) ρ ρ w (w.setCells g2 (off * τ'.sz) zs) := ⟨fun _ _ => rfl,fun _ _ h => h,fun q k' hq => hsame k' (fun e => h.mem.oko q k' hq j (e ▸ hog))⟩
       have hnl : (l.take off ++ List.replicate n τ'.zero ++ l.drop (off + n)).length = l.length := by
        simp only [List.length_append,List.length_take,List.length_replicate,List.length_drop]; omega
       refine ⟨ρ,_,_,hk,run _ _ hv ?_,h.renew (h.mem.renew h.base rfl (fun _ _ => rfl) (fun _ _ _ _ _ _ => rfl) (fun k' hk' hn => hsame k' (fun e => hn (e ▸ hog))) (by rw [cA]; exact Nat.le_refl _) ?_ (fun g' hg' => ?_) (fun d hd => by cases hd)) hkp (fun _ _ h => h) hstep.heap (fun _ _ _ _ _ => rfl) (fun _ _ => rfl)⟩
       ·obtain ⟨m,rfl⟩ : ∃ m,n = m + 1 := ⟨n - 1,by omega⟩
        have hzv : (zeroValue e).run P w = .ok z w := by
         unfold zeroValue typeInfo
         simp [i1,i6]
        simp [Builtin.clear_,run_underlying hu,hzv,hzl,hst]
       ·have hnew := du g2 e' zs (off * τ'.sz) w cur.toList hcur' hroom
        have hsl : (bG cur.toList (off * τ'.sz) zs).length = cur.toList.length := by
         unfold bG
         simp only [List.length_append,List.length_take,List.length_drop]
         omega
        refine ⟨_,some g2,(bG cur.toList (off * τ'.sz) zs).take (l.length * τ'.sz),hloc,⟨?_,fun i' p' hp' => ?_⟩,⟨?_,.inr ⟨g2,cp,_,by rw [hnl],Nat.zero_le _,hnew,by rw [hnl]; exact hnc,hcm,by simp [hsl,hcs],by rw [hnl]⟩⟩,hgb⟩
        ·rw [taken (by omega),hnl]
        ·have hi' : i' < l.length := by have := (List.getElem?_eq_some_iff.1 hp').1; rwa [hnl] at this
         have hi'sz : i' * τ'.sz + τ'.sz <= l.length * τ'.sz := by rw [← Nat.succ_mul]; exact Nat.mul_le_mul_right _ hi'
         have hat : ∀ q,q < τ'.sz -> ((((bG cur.toList (off * τ'.sz) zs).take (l.length * τ'.sz)).drop (i' * τ'.sz)).take τ'.sz)[q]? = (bG cur.toList (off * τ'.sz) zs)[i' * τ'.sz + q]? := fun q hq => by
          rw [List.getElem?_take,if_pos hq,List.getElem?_drop,List.getElem?_take,if_pos (by omega)]
         have hlen1 : ((((bG cur.toList (off * τ'.sz) zs).take (l.length * τ'.sz)).drop (i' * τ'.sz)).take τ'.sz).length = τ'.sz := by
          simp only [List.length_take,List.length_drop]
          omega
         have hsplit : (i' + 1) * τ'.sz <= off * τ'.sz ∨ (off * τ'.sz <= i' * τ'.sz /\ (i' + 1) * τ'.sz <= (off + n) * τ'.sz) ∨ (off + n) * τ'.sz <= i' * τ'.sz := by
          rcases Nat.lt_or_ge i' off with h0 | h0
          ·exact .inl (Nat.mul_le_mul_right _ h0)
          ·rcases Nat.lt_or_ge i' (off + n) with h1 | h1
           ·exact .inr (.inl ⟨Nat.mul_le_mul_right _ h0,Nat.mul_le_mul_right _ h1⟩)
           ·exact .inr (.inr (Nat.mul_le_mul_right _ h1))
         rw [Nat.succ_mul,Nat.add_mul off n] at hsplit
         have outside : (i' < off ∨ off + n <= i') -> l[i']? = some p' -> Rp (ρ.ok b) (w.setCells g2 (off * τ'.sz) zs) τ' p' ((((bG cur.toList (off * τ'.sz) zs).take (l.length * τ'.sz)).drop (i' * τ'.sz)).take τ'.sz) := by
          intro hio hl
          have hsp : i' * τ'.sz + τ'.sz <= off * τ'.sz ∨ off * τ'.sz + n * τ'.sz <= i' * τ'.sz := by
           rcases hio with h0 | h0
           ·left; rw [← Nat.succ_mul]; exact Nat.mul_le_mul_right _ h0
           ·right; rw [← Nat.add_mul]; exact Nat.mul_le_mul_right _ h0
          have heq : (((bG cur.toList (off * τ'.sz) zs).take (l.length * τ'.sz)).drop (i' * τ'.sz)).take τ'.sz = (xs.drop (i' * τ'.sz)).take τ'.sz := by
           apply List.ext_getElem?
           intro q
           rcases Nat.lt_or_ge q τ'.sz with hq | hq
           ·rw [hat q hq,jk (by omega),← htake,List.getElem?_take,if_pos hq,List.getElem?_drop,List.getElem?_take,if_pos (show i' * τ'.sz + q < l.length * τ'.sz by omega)]
            split
            ·rfl
            ·rw [if_neg (by omega)]
           ·rw [List.getElem?_eq_none (by omega),List.getElem?_eq_none (by simp only [List.length_take,List.length_drop]; omega)]
          rw [heq]
          exact (h3.2 i' p' hl).step (fun _ h => h) (fun g' hg' => hstep.heap _ _ hg')
         rcases Nat.lt_or_ge i' off with h0 | h0
         ·refine outside (.inl h0) ?_
          rw [List.append_assoc,List.getElem?_append_left (by rw [List.length_take]; omega),List.getElem?_take,if_pos h0] at hp'
          exact hp'
         ·have hto : (l.take off).length = off := by rw [List.length_take]; omega
          rcases Nat.lt_or_ge i' (off + n) with h1 | h1
          ·rw [List.append_assoc,List.getElem?_append_right (by omega),hto,List.getElem?_append_left (by rw [List.length_replicate]; omega),List.getElem?_replicate,if_pos (by omega)] at hp'
           cases hp'
           have heq : (((bG cur.toList (off * τ'.sz) zs).take (l.length * τ'.sz)).drop (i' * τ'.sz)).take τ'.sz = τ'.zv := by
            rw [← hzat (i' - off) (by omega)]
            have hm : (i' - off) * τ'.sz = i' * τ'.sz - off * τ'.sz := Nat.sub_mul _ _ _
            have hm1 : off * τ'.sz <= i' * τ'.sz := Nat.mul_le_mul_right _ h0
            have hm2 : i' * τ'.sz + τ'.sz <= off * τ'.sz + n * τ'.sz := by rw [← Nat.succ_mul,← Nat.add_mul]; exact Nat.mul_le_mul_right _ h1
            apply List.ext_getElem?
            intro q
            rcases Nat.lt_or_ge q τ'.sz with hq | hq
            ·rw [hat q hq,jk (by omega),if_neg (by omega),if_pos (by omega),List.getElem?_take,if_pos hq,List.getElem?_drop]
             congr 1
             omega
            ·rw [List.getElem?_eq_none (by omega),List.getElem?_eq_none (by simp only [List.length_take,List.length_drop]; omega)]
           rw [heq]
           exact Rp.zero _ _ τ'
          ·refine outside (.inr h1) ?_
           rw [List.getElem?_append_right (by simp only [List.length_append,List.length_replicate]; omega),List.length_append,hto,List.length_replicate,List.getElem?_drop] at hp'
           rwa [show off + n + (i' - (off + n)) = i' by omega] at hp'
        ·rw [taken (by omega),hnl]
       ·rw [hloc] at hg'
        exact .inr (by rw [show g' = g2 from hg']; exact hog)
   ·cases hk
  ·cases hk
 ·cases hk
end
end Go.Proofs.YtcddhifkfakcjaaGreat.Lib
namespace Go.Proofs.YtcddhifkfakcjaaGreat.Lib
open Go Go.RowKit
set_option linter.unusedVariables false
set_option linter.unusedSimpArgs false
def Row (ok : Nat -> Prop) (w : World) (t : Ty) (l : List t.T) (v : Value) : Prop :=
 ∃ A c,v = .slice A l.length c /\ (0 < l.length -> ∃ ad : Addr,A = some ad /\ ∀ i x,l[i]? = some x -> ∃ c,c.length = t.sz /\ Rp ok w t x c /\ ∀ q u,c[q]? = some u -> w.cell? (ad.add (i * t.sz + q)) = some u)
theorem Row.NN {ok : Nat -> Prop} {w : World} {e : TypeId} {t : Ty} {l : List t.T} {v : Value} (h : Rp ok w (.sl e t) l [v]) : Row ok w t l v := by
 simp only [Rp] at h
 obtain ⟨A,c,h1,_,_,h2⟩ := h
 simp only [List.cons.injEq,and_true] at h1
 refine ⟨A,c,h1,fun hp => ?_⟩
 obtain ⟨ad,h3,_,h4⟩ := h2 hp
 exact ⟨ad,h3,h4⟩
theorem Row.O3 {ok : Nat -> Prop} {w : World} {e : TypeId} {t : Ty} {l : List t.T} {v : Value} {xs : List Value} {g : Option Nat} (hx : bU ok w t l xs)
  (h : match g with | some g => w.ownsRow 0 e t.sz v l.length xs /\ v.ownBlock = some g | none => l = [] /\ ∃ A,v = .slice A 0 0) : Row ok w t l v := by
 cases g with
 | none =>
  obtain ⟨rfl,A,rfl⟩ := h
  exact ⟨A,0,rfl,fun hp => absurd hp (by simp)⟩
 | some g =>
  obtain ⟨ho,hg⟩ := h
  rcases ho.2 with ⟨rfl,_⟩ | ⟨g',cap,cur,rfl,_⟩
  ·cases hg
  ·refine ⟨_,cap,rfl,fun hp => ⟨_,rfl,fun i x hxi => ⟨_,(hx.2 i x hxi).len,hx.2 i x hxi,fun q u hq => ?_⟩⟩⟩
   rw [List.getElem?_take] at hq
   split at hq
   ·rw [List.getElem?_drop] at hq
    exact ho.cells (g := g') rfl _ u hq
   ·cases hq
theorem Row.sub {ok : Nat -> Prop} {w : World} {t : Ty} {l : List t.T} {A : Option Addr} {c off len : Nat} {v : Value} (h : Row ok w t l (.slice A l.length c)) (hle : off + len <= l.length) (hv : OX A c t.sz off len v) : Row ok w t ((l.drop off).take len) v := by
 obtain ⟨A',c',h1,h4⟩ := h
 simp only [Value.slice.injEq,true_and] at h1
 obtain ⟨rfl,rfl⟩ := h1
 have hl : ((l.drop off).take len).length = len := by rw [List.length_take,List.length_drop]; omega
 have hget : ∀ i x,((l.drop off).take len)[i]? = some x -> i < len /\ l[off + i]? = some x := by
  intro i x hx
  rw [List.getElem?_take] at hx
  split at hx
  ·rw [List.getElem?_drop] at hx; exact ⟨by assumption,hx⟩
  ·cases hx
 rcases hv with ⟨rfl,rfl⟩ | ⟨h5,h6,ad,rfl,rfl⟩ | ⟨rfl,_,A',c',rfl,hc'⟩
 ·refine ⟨A,c,by rw [hl],fun hp => ?_⟩
  obtain ⟨ad,hA,hr⟩ := h4 (by omega)
  refine ⟨ad,hA,fun i x hx => ?_⟩
  have := (hget i x hx).2
  rw [Nat.zero_add] at this
  exact hr i x this
 ·refine ⟨some (ad.add (off * t.sz)),c - off,by rw [hl],fun hp => ?_⟩
  obtain ⟨ad',hA,hr⟩ := h4 (by omega)
  cases hA
  refine ⟨_,rfl,fun i x hx => ?_⟩
  obtain ⟨cs,hcl,hcr,hcc⟩ := hr _ x (hget i x hx).2
  refine ⟨cs,hcl,hcr,fun q u hq => ?_⟩
  rw [bx,← Nat.add_assoc,← Nat.add_mul]
  exact hcc q u hq
 ·exact ⟨A',c',by simp,fun hp => by simp at hp⟩
theorem bU.cons {ok : Nat -> Prop} {w : World} {t : Ty} {x : t.T} {l : List t.T} {c xs : List Value} (h0 : Rp ok w t x c) (h : bU ok w t l xs) : bU ok w t (x :: l) (c ++ xs) := by
 have hc := h0.len
 refine ⟨by rw [List.length_append,List.length_cons,hc,h.1,Nat.succ_mul]; omega,fun j p hp => ?_⟩
 cases j with
 | zero =>
  simp only [List.getElem?_cons_zero,Option.some.injEq] at hp
  subst hp
  rw [Nat.zero_mul,List.drop_zero,← hc,List.take_left]
  exact h0
 | succ j =>
  rw [List.getElem?_cons_succ] at hp
  have := h.2 j p hp
  rw [Nat.succ_mul,Nat.add_comm,← hc,← List.drop_drop,List.drop_left,hc]
  exact this
theorem bU.append {ok : Nat -> Prop} {w : World} {t : Ty} {m : List t.T} {ys : List Value} (hm : bU ok w t m ys) : ∀ {l : List t.T} {xs : List Value},bU ok w t l xs -> bU ok w t (l ++ m) (xs ++ ys)
 | [],xs,h => by
  have : xs = [] := List.eq_nil_of_length_eq_zero (by simpa using h.1)
  subst this
  exact hm
 | x :: l,xs,h => by
  have hl := h.1
  rw [List.length_cons,Nat.succ_mul] at hl
  have h0 := h.2 0 x rfl
  rw [Nat.zero_mul,List.drop_zero] at h0
  have hd : bU ok w t l (xs.drop t.sz) := by
   refine ⟨by rw [List.length_drop]; omega,fun j p hp => ?_⟩
   have := h.2 (j + 1) p (by simpa using hp)
   rwa [Nat.succ_mul,Nat.add_comm,← List.drop_drop] at this
  have := bU.cons h0 (bU.append hm hd)
  rw [← List.append_assoc,List.take_append_drop] at this
  exact this
theorem CN {ok : Nat -> Prop} {w : World} {t : Ty} {l : List t.T} {xs : List Value} (h : bU ok w t l xs) {n : Nat} (hn : n <= l.length) : bU ok w t (l.take n) (xs.take (n * t.sz)) := by
 have hle : n * t.sz <= l.length * t.sz := Nat.mul_le_mul_right _ hn
 refine ⟨by rw [List.length_take,List.length_take,h.1]; rw [Nat.min_eq_left hn]; omega,fun j p hp => ?_⟩
 rw [List.getElem?_take] at hp
 split at hp
 ·rename_i hj
  have hj' : j * t.sz + t.sz <= n * t.sz := by rw [← Nat.succ_mul]; exact Nat.mul_le_mul_right _ hj
  have := h.2 j p hp
  have he : (((xs.take (n * t.sz)).drop (j * t.sz)).take t.sz) = (xs.drop (j * t.sz)).take t.sz := by
   rw [List.drop_take,List.take_take,Nat.min_eq_left (by omega)]
  rw [he]
  exact this
 ·cases hp
theorem Aw {ok : Nat -> Prop} {w : World} {t : Ty} (ad : Addr) : ∀ (l : List t.T) (o : Nat),(∀ i x,l[i]? = some x -> ∃ c,c.length = t.sz /\ Rp ok w t x c /\ ∀ q u,c[q]? = some u -> w.cell? (ad.add (o + (i * t.sz + q))) = some u) ->
  ∃ news,bU ok w t l news /\ (∀ j u,news[j]? = some u -> w.cell? (ad.add (o + j)) = some u) /\ ∀ u ∈ news,u.oneCell' = true
 | [],o,h => ⟨[],⟨by simp,fun j p hp => by simp at hp⟩,fun j u hu => by simp at hu,fun u hu => by cases hu⟩
 | x :: l,o,h => by
  obtain ⟨c,h1,h2,h3⟩ := h 0 x rfl
  obtain ⟨news,h4,h5,h6⟩ := Aw ad l (o + t.sz) (fun i x hx => by
   obtain ⟨c,h1,h2,h3⟩ := h (i + 1) x (by simpa using hx)
   refine ⟨c,h1,h2,fun q u hu => ?_⟩
   have := h3 q u hu
   rwa [show o + ((i + 1) * t.sz + q) = o + t.sz + (i * t.sz + q) by rw [Nat.succ_mul]; omega] at this)
  refine ⟨c ++ news,bU.cons h2 h4,fun j u hu => ?_,fun u hu => ?_⟩
  ·rcases Nat.lt_or_ge j c.length with hj | hj
   ·rw [List.getElem?_append_left hj] at hu
    have := h3 j u hu
    rwa [Nat.zero_mul,Nat.zero_add] at this
   ·rw [List.getElem?_append_right hj] at hu
    have := h5 _ u hu
    rwa [show o + t.sz + (j - c.length) = o + j by omega] at this
  ·rcases List.mem_append.1 hu with hu | hu
   ·exact h2.one u hu
   ·exact h6 u hu
def Own (w : World) (e : TypeId) (sz : Nat) (v : Value) (n : Nat) (xs : List Value) : Option Nat -> Prop
 | some g => w.ownsRow 0 e sz v n xs /\ v.ownBlock = some g
 | none => n = 0 /\ xs = [] /\ ∃ A,v = .slice A 0 0
theorem r9 {P : Program} {w : World} {t e ty : TypeId} {ti : TypeInfo} {z : Value} {sz : Nat} (ht : P.underlying t = some (.slice e)) (hi : P.info? e = some ti) (hz : ti.zero = some z) (hsz : ti.size = sz) (hzc : z.cells.size = sz) (hsp : 0 < sz)
  {v : Value} {n : Nat} {xs : List Value} {g : Option Nat} (hv : Own w e sz v n xs g) {m : Nat} {ad : Addr} {c : Nat} {news : List Value} (hm : 0 < m) (h1 : news.length = m * sz) (h2 : ∀ j u,news[j]? = some u -> w.cell? (ad.add j) = some u) (h3 : ∀ u ∈ news,u.oneCell' = true) (hle : (n + m) * ti.bytes <= 140737488351232) (hby : ti.bytes ≠ 0) :
  ∃ v' w' g',(Builtin.append_ #[t,t] ty #[v,.slice (some ad) m c]).run P w = .ok v' w' /\ Own w' e sz v' (n + m) (xs ++ news) g' /\
   w'.os = w.os /\ w'.tape = w.tape /\ w'.output = w.output /\ w.heap.size <= w'.heap.size /\ (∀ k,k < w.heap.size -> g ≠ some k -> w'.heap[k]? = w.heap[k]?) /\ (∀ k,g' = some k -> g = some k ∨ w.heap.size <= k) := by
 have h63 : n + m <= maxLen := by
  have := Nat.le_trans (Nat.le_mul_of_pos_right (n + m) (Nat.pos_of_ne_zero hby)) hle
  unfold maxLen; omega
 have own : ∀ (hw : w.ownsRow 0 e sz v n xs),g = v.ownBlock -> ∃ v' w' g',(Builtin.append_ #[t,t] ty #[v,.slice (some ad) m c]).run P w = .ok v' w' /\ Own w' e sz v' (n + m) (xs ++ news) g' /\
   w'.os = w.os /\ w'.tape = w.tape /\ w'.output = w.output /\ w.heap.size <= w'.heap.size /\ (∀ k,k < w.heap.size -> g ≠ some k -> w'.heap[k]? = w.heap[k]?) /\ (∀ k,g' = some k -> g = some k ∨ w.heap.size <= k) := by
  intro hw hg
  obtain ⟨v',w',hrun,ho,hgr,hnil⟩ := run_append_own (P := P) w 0 t ty e ti z sz ti.bytes ht hi hz hsz rfl hzc hsp v n xs hw ad m c news h1 h2 h3 h63 (by omega) (Nat.zero_le _)
  have hob : ∃ k,v'.ownBlock = some k := by
   rcases ho.2 with ⟨_,h⟩ | ⟨g',cap,cur,rfl,_⟩
   ·omega
   ·exact ⟨g',rfl⟩
  obtain ⟨k,hk⟩ := hob
  refine ⟨v',w',some k,hrun,⟨ho,hk⟩,hgr.os,hgr.tape,hgr.output,hgr.size,fun k' hk' hne => hgr.block k' hk' (by rw [← hg]; exact Ne.symm hne),fun k' hk' => ?_⟩
  cases hk'
  by_cases hlt : k < w.heap.size
  ·left
   have hl : news.length = m * ti.size := by rw [h1,hsz]
   rcases hw.2 with ⟨rfl,rfl⟩ | ⟨g0,cap,cur,rfl,hb0,hg0,hnc,hcm,hcs,htake⟩
   ·have hr := run_append_nil (P := P) w t ty e ti z ht hi hz ad m c news hl h2 hm (by unfold maxLen at h63; omega) (by simp only [Nat.zero_add] at hle; omega)
    rw [hrun] at hr
    cases hr
    simp only [Value.ownBlock,Option.some.injEq] at hk
    omega
   ·by_cases hroom : n + m <= cap
    ·have hr := run_append_room (P := P) w t ty e ti ht hi g0 n cap cur hg0 ad m c news hl h2 h3 hroom (by rw [hl,hcs,hsz,← Nat.add_mul]; exact Nat.mul_le_mul_right _ hroom)
     rw [hrun] at hr
     cases hr
     rw [hg,← hk]
     rfl
    ·have hr := run_append_grow (P := P) w t ty e ti z ht hi hz ⟨g0,0,none⟩ n cap xs (by rw [hw.1,hsz]) (hw.cells (g := g0) rfl) ad m c news hl h2 (by omega) (by unfold maxLen at h63; omega) (growslice_fits (by omega) (by omega))
     rw [hrun] at hr
     cases hr
     simp only [Value.ownBlock,Option.some.injEq] at hk
     omega
  ·right; omega
 cases g with
 | some g => exact own hv.1 hv.2.symm
 | none =>
  obtain ⟨rfl,rfl,A,rfl⟩ := hv
  cases A with
  | none => exact own (World.ownsRow_nil w 0 e sz) rfl
  | some a0 =>
   have hr := run_append_grow (P := P) w t ty e ti z ht hi hz a0 0 0 [] (by simp) (fun j u hu => by simp at hu) ad m c news (by rw [h1,hsz]) h2 (by omega) (by unfold maxLen at h63; omega) (growslice_fits (by omega) (by omega))
   have hge := grownCap_ge w (0 + m) 0 e
   have hcm := grownCap_le_maxLen w (0 + m) 0 e h63
   refine ⟨_,_,some w.heap.size,hr,⟨⟨?_,.inr ⟨w.heap.size,_,_,rfl,Nat.zero_le _,heap_alloc_new w.drew _,hge,hcm,?_,?_⟩⟩,rfl⟩,rfl,rfl,rfl,by simp,fun k hk _ => heap_alloc_old w.drew _ hk,fun k hk => .inr (by cases hk; exact Nat.le_refl _)⟩
   ·simp [h1]
   ·simp only [Array.size_append,List.size_toArray,size_zeroCells,hzc,h1,List.length_nil,Nat.zero_add,← Nat.add_mul] at hge ⊢
    congr 1
    omega
   ·simp only [Array.toList_append,List.append_assoc,List.nil_append,Nat.zero_add]
    rw [← h1]
    exact List.take_left
theorem BT {P : Program} {w : World} {t e ty : TypeId} {ti : TypeInfo} {z : Value} {τ : Ty} (ht : P.underlying t = some (.slice e)) (hi : P.info? e = some ti) (hz : ti.zero = some z) (hsz : ti.size = τ.sz) (hzc : z.cells.size = τ.sz)
  {v : Value} {n : Nat} {xs : List Value} {g : Option Nat} (hv : Own w e τ.sz v n xs g) {ok : Nat -> Prop} {m : List τ.T} {u : Value} (hu : Row ok w τ m u) (hle : (n + m.length) * ti.bytes <= 140737488351232) (hby : ti.bytes ≠ 0) :
  ∃ v' w' g' news,(Builtin.append_ #[t,t] ty #[v,u]).run P w = .ok v' w' /\ bU ok w τ m news /\ Own w' e τ.sz v' (n + m.length) (xs ++ news) g' /\
   w'.os = w.os /\ w'.tape = w.tape /\ w'.output = w.output /\ w.heap.size <= w'.heap.size /\ (∀ k,k < w.heap.size -> g ≠ some k -> w'.heap[k]? = w.heap[k]?) /\ (∀ k,g' = some k -> g = some k ∨ w.heap.size <= k) := by
 have h63 : n + m.length <= maxLen := by
  have := Nat.le_trans (Nat.le_mul_of_pos_right (n + m.length) (Nat.pos_of_ne_zero hby)) hle
  unfold maxLen; omega
 obtain ⟨A,c,rfl,hr⟩ := hu
 rcases Nat.eq_zero_or_pos m.length with hm | hm
 ·have hm' : m = [] := List.eq_nil_of_length_eq_zero hm
  subst hm'
  refine ⟨v,w,g,[],?_,⟨by simp,fun j p hp => by simp at hp⟩,by simpa using hv,rfl,rfl,rfl,Nat.le_refl _,fun _ _ _ => rfl,fun k hk => .inl hk⟩
  have hform : ∃ B n' cap,v = .slice B n' cap /\ n' <= cap := by
   cases g with
   | none => obtain ⟨_,_,A,rfl⟩ := hv; exact ⟨A,0,0,rfl,Nat.le_refl _⟩
   | some g =>
    rcases hv.1.2 with ⟨rfl,_⟩ | ⟨g',cap,cur,rfl,_,_,h,_⟩
    ·exact ⟨_,_,_,rfl,Nat.le_refl _⟩
    ·exact ⟨_,_,_,rfl,h⟩
  obtain ⟨B,n',cap,rfl,hle'⟩ := hform
  cases A <;> cases B <;> simp [Builtin.append_,run_underlying ht,sizeOf,typeInfo,hi,Builtin.lenOf,Builtin.firstCells,Go.loadCells,loadCellsFrom,hle',storeCells]
 ·obtain ⟨ad,hA,hrd⟩ := hr hm
  subst hA
  obtain ⟨news,h1,h2,h3⟩ := Aw ad m 0 (fun i x hx => by
   obtain ⟨c,h1,h2,h3⟩ := hrd i x hx
   exact ⟨c,h1,h2,fun q u hu => by rw [Nat.zero_add]; exact h3 q u hu⟩)
  simp only [Nat.zero_add] at h2
  obtain ⟨v',w',g',hrun,ho,r1,r2,r3,r4,r5,r6⟩ := r9 (P := P) (ty := ty) ht hi hz hsz hzc (Ty.eD τ) hv (c := c) hm h1.1 h2 h3 hle hby
  exact ⟨v',w',g',news,hrun,h1,ho,r1,r2,r3,r4,r5,r6⟩
end Go.Proofs.YtcddhifkfakcjaaGreat.Lib
namespace Go.Proofs.YtcddhifkfakcjaaGreat.Lib
open Go Go.RowKit
set_option linter.unusedVariables false
set_option linter.unusedSimpArgs false
theorem gp {p : Nat -> Bool} {c : Cell} {d : Nat} (h : (c.aT p).ae d = true) : c.ae d = true /\ p d = false := by
 cases c <;> simp only [Cell.aT] at h
 case sl j =>
  cases hp : p j with
  | true => rw [hp] at h; cases h
  | false => rw [hp] at h; have hj : (j == d) = true := h; exact ⟨hj,by rw [← eq_of_beq hj]; exact hp⟩
 case sub j o n =>
  cases hp : p j with
  | true => rw [hp] at h; cases h
  | false => rw [hp] at h; have hj : (j == d) = true := h; exact ⟨hj,by rw [← eq_of_beq hj]; exact hp⟩
 case ptr j i c =>
  cases hp : p j with
  | true => rw [hp] at h; cases h
  | false => rw [hp] at h; have hj : (j == d) = true := h; exact ⟨hj,by rw [← eq_of_beq hj]; exact hp⟩
 case nl j =>
  cases hp : p j with
  | true => rw [hp] at h; cases h
  | false => rw [hp] at h; have hj : (j == d) = true := h; exact ⟨hj,by rw [← eq_of_beq hj]; exact hp⟩
 case np j i c =>
  cases hp : p j with
  | true => rw [hp] at h; cases h
  | false => rw [hp] at h; have hj : (j == d) = true := h; exact ⟨hj,by rw [← eq_of_beq hj]; exact hp⟩
 case inn j i k =>
  cases hp : p j with
  | true => rw [hp] at h; cases h
  | false => rw [hp] at h; have hj : (j == d) = true := h; exact ⟨hj,by rw [← eq_of_beq hj]; exact hp⟩
 case fnp f js =>
  cases hp : js.any p with
  | true => rw [hp] at h; cases h
  | false =>
   rw [hp] at h
   have hj : js.contains d = true := h
   refine ⟨hj,?_⟩
   rw [List.any_eq_false] at hp
   simpa using hp d (by simpa using hj)
 all_goals cases h
theorem dF {ρ : al} {w : World} {p : Nat -> Bool} {c : Cell} {v : Value} (h : rc ρ w c v) : rc ρ w (c.aT p) v := by
 cases c <;> simp only [Cell.aT] <;> first | exact h | skip
 case sl j => cases p j <;> first | exact h | exact trivial
 case sub j o n => cases p j <;> first | exact h | exact trivial
 case ptr j i c => cases p j <;> first | exact h | exact trivial
 case fnp f js => cases js.any p <;> first | exact h | exact trivial
 case nl j => cases p j <;> first | exact h | exact trivial
 case np j i c => cases p j <;> first | exact h | exact trivial
 case inn j i k => cases p j <;> first | exact h | exact trivial
theorem iX {ρ : al} {w : World} {p : Nat -> Bool} {cs : List Cell} {vs : List Value} (h : aF (rc ρ w) cs vs) : aF (rc ρ w) (cs.map (·.aT p)) vs :=
 h.b9 _ (fun _ _ _ h => dF h)
theorem lJ {ρ : al} {w : World} {p : Nat -> Bool} {c : AV} {v : Value} (h : rav ρ w c v) : rav ρ w (c.aT p) v := by
 cases c with
 | one c => exact dF h
 | agg cs => obtain ⟨vs,h0,h1⟩ := h; exact ⟨vs,h0,iX h1⟩
 | tup ps =>
  obtain ⟨vs,h0,h1⟩ := h
  refine ⟨vs,h0,h1.b9 _ fun q v _ h => ?_⟩
  obtain ⟨g,cs⟩ := q
  cases g with
  | true => obtain ⟨vs,h0,h1⟩ := h; exact ⟨vs,h0,iX h1⟩
  | false => obtain ⟨c,rfl,h⟩ := h; exact ⟨c.aT p,rfl,dF h⟩
theorem lT {p : Nat -> Bool} {cs : List Cell} {d : Nat} (h : (cs.map (·.aT p)).any (·.ae d) = true) : cs.any (·.ae d) = true /\ p d = false := by
 obtain ⟨c,hc,hd⟩ := List.any_eq_true.1 h
 obtain ⟨c',hc',rfl⟩ := List.mem_map.1 hc
 obtain ⟨h1,h2⟩ := gp hd
 exact ⟨List.any_eq_true.2 ⟨c',hc',h1⟩,h2⟩
theorem ey {p : Nat -> Bool} {v : AV} {d : Nat} (h : (v.aT p).ae d = true) : v.ae d = true /\ p d = false := by
 cases v with
 | one c => exact gp h
 | agg cs => exact lT h
 | tup ps =>
  obtain ⟨q,hq,hd⟩ := List.any_eq_true.1 h
  obtain ⟨q',hq',rfl⟩ := List.mem_map.1 hq
  obtain ⟨h1,h2⟩ := lT hd
  exact ⟨List.any_eq_true.2 ⟨q',hq',h1⟩,h2⟩
theorem eE {p : Nat -> Bool} {b : Blk} {d : Nat} (h : (b.aT p).ae d = true) : b.ae d = true /\ p d = false := by
 cases b with
 | box t cs => exact lT h
 | _ => cases h
section
variable {P : Program} {E : Env} {B : Nat} {O : Ow} {w0 w w' : World} {ρ ρ' : al} {a : Act} {R : Type} {r : R} {sg sg' : Sig} {st : St}
theorem qo {p : Nat -> Bool} {j : Nat} {b : Blk} (h : eZ ρ w j b) : eZ ρ w j (b.aT p) := by
 cases b with
 | box t cs => obtain ⟨g,vs,h0,h1,h2⟩ := h; exact ⟨g,vs,h0,h1,iX h2⟩
 | arr e t l b => exact h
 | fro e t l b => exact h
 | nst e t l => exact h
theorem zM {p : Nat -> Bool} (b : Blk) : (b.aT p).kind = b.kind := by cases b <;> rfl
theorem Mem.aT (h : Mem B O ρ sg w) {p : Nat -> Bool} (hs : ∀ i b',sg'.get i = some b' -> ∃ b,sg.get i = some b /\ b' = b.aT p) (hd : ∀ d,(sg.get d).isSome = true -> p d = false -> (sg'.get d).isSome = true) : Mem B O ρ sg' w := by
 have hown : ∀ i g,aP ρ sg' i g -> aP ρ sg i g := by
  intro i g ho
  exact ho.tr (fun b' h1 => by
   obtain ⟨b,h4,rfl⟩ := hs i b' h1
   exact ⟨b,h4,by cases b <;> rfl⟩) rfl
 exact ⟨fun i b' hi => by obtain ⟨b,h1,rfl⟩ := hs i b' hi; exact qo (h.blk i b h1),fun i k g hi hk => h.inj i k g (hown i g hi) (hown k g hk),fun i g hi => h.old i g (hown i g hi),h.okb,
  fun q g hq i hi => h.oko q g hq i (hown i g hi),h.okm,h.okx,h.oky,fun i b' d hi hu => by
   obtain ⟨b,h1,rfl⟩ := hs i b' hi
   obtain ⟨h2,h3⟩ := eE hu
   exact hd d (h.dom i b d h1 h2) h3⟩
theorem Sim.aQ (h : Sim P B O w0 ρ st a w) (j : Nat) : Sim P B O w0 ρ (st.aQ j) a w := by
 have hget : ∀ i,Sig.get i (st.aQ j).sg = (st.sg.get i).map (·.aT (· == j)) := fun i => Sig.get_map _ _ _
 refine ⟨h.mem.aT (p := (· == j)) (fun i b' hi => ?_) (fun d hd _ => ?_),by simp [St.aQ,h.len],fun i v hi => ?_,fun i v d hi hd => ?_,h.defers,h.fr,h.base,h.pin,h.glo⟩
 ·rw [hget,Option.map_eq_some_iff] at hi
  obtain ⟨b,h1,h2⟩ := hi
  exact ⟨b,h1,h2.symm⟩
 ·rw [hget,Option.isSome_map]; exact hd
 ·simp only [St.aQ,List.getElem?_map,Option.map_eq_some_iff] at hi
  obtain ⟨v',h1,rfl⟩ := hi
  obtain ⟨u,h2,h3⟩ := h.sl i v' h1
  exact ⟨u,h2,lJ h3⟩
 ·simp only [St.aQ,List.getElem?_map,Option.map_eq_some_iff] at hi
  obtain ⟨v',h1,rfl⟩ := hi
  rw [hget,Option.isSome_map]
  exact h.dom i v' d h1 (ey hd).1
theorem GI (h : Mem B O ρ sg w) {τ : Ty} {c : Cell} {u : Value} {l : List τ.T} {b : Bool} (hr : rowOf τ sg c = some (l,b)) (hc : rc ρ w c u) : Row (ρ.ok b) w τ l u := by
 have own : ∀ {j : Nat} {e : TypeId} {l : List τ.T} {b : Bool},sg.get j = some (.arr e τ l b) -> ∃ v g,ρ.loc j = .arr v g τ.sz /\ Row (ρ.ok b) w τ l v := by
  intro j e l b hj
  obtain ⟨v,g,xs,h1,h2,h3⟩ := h.blk j _ hj
  exact ⟨v,g,h1,Row.O3 h2 h3⟩
 have fro : ∀ {j : Nat} {e : TypeId} {l : List τ.T} {b : Bool},sg.get j = some (.fro e τ l b) -> ∃ v g,ρ.loc j = .arr v g τ.sz /\ Row (ρ.ok b) w τ l v := by
  intro j e l b hj
  obtain ⟨v,g,h1,h2⟩ := h.blk j _ hj
  exact ⟨v,g,h1,Row.NN h2⟩
 have sub : ∀ {j o n : Nat} {l : List τ.T} {b : Bool} {u v : Value} {g : Option Nat},ρ.loc j = .arr v g τ.sz -> Row (ρ.ok b) w τ l v -> rc ρ w (.sub j o n) u -> Row (ρ.ok b) w τ ((l.drop o).take n) u := by
  intro j o n l b u v g h1 h2 hc
  obtain ⟨A,m,cp,g',sz,h3,h4,h5⟩ := hc
  rw [h1] at h3; cases h3
  have h6 := h2
  obtain ⟨A',c',h6,_⟩ := h6
  cases h6
  exact Row.sub h2 h4 h5
 unfold rowOf at hr
 split at hr
 ·cases hr; exact ⟨none,0,hc,fun hp => by simp at hp⟩
 ·cases hr
  obtain ⟨A,hc⟩ := hc
  exact ⟨A,0,hc,fun hp => by simp at hp⟩
 ·split at hr
  ·rename_i ht
   subst ht
   cases hr
   exact Row.NN hc
  ·cases hr
 ·rename_i j
  split at hr
  ·rename_i e t' l' b' hj
   split at hr
   ·rename_i ht
    subst ht
    cases hr
    obtain ⟨v,g,h1,h2⟩ := own hj
    obtain ⟨g',sz,h3⟩ := hc
    rw [h1] at h3; cases h3
    exact h2
   ·cases hr
  ·rename_i e t' l' b' hj
   split at hr
   ·rename_i ht
    subst ht
    cases hr
    obtain ⟨v,g,h1,h2⟩ := fro hj
    obtain ⟨g',sz,h3⟩ := hc
    rw [h1] at h3; cases h3
    exact h2
   ·cases hr
  ·cases hr
 ·rename_i j o n
  split at hr
  ·rename_i e t' l' b' hj
   split at hr
   ·rename_i ht
    subst ht
    cases hr
    obtain ⟨v,g,h1,h2⟩ := own hj
    exact sub h1 h2 hc
   ·cases hr
  ·rename_i e t' l' b' hj
   split at hr
   ·rename_i ht
    subst ht
    cases hr
    obtain ⟨v,g,h1,h2⟩ := fro hj
    exact sub h1 h2 hc
   ·cases hr
  ·cases hr
 ·cases hr
end
end Go.Proofs.YtcddhifkfakcjaaGreat.Lib
