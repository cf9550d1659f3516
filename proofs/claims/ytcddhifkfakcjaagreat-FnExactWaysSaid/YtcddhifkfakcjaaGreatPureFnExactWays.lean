/- FnExactWays: the program and the reference answer alike. No condition. -/
import Derived.Test.YtcddhifkfakcjaaGreatVmRowFnExactWays
import Derived.Test.YtcddhifkfakcjaaGreatVmLibFour
namespace Go.Proofs.YtcddhifkfakcjaaGreat.Vm
open Go Go.Proofs.YtcddhifkfakcjaaGreat.Lib
set_option linter.unusedSimpArgs false
set_option linter.unusedVariables false
def SZ (r n : Int) (S : Prop) : Prop := r <= n /\ (0 <= r -> S)
theorem SZ.neg {n : Int} {S : Prop} (h0 : 0 <= n) : SZ (-1) n S := ⟨by omega,fun h => absurd h (by omega)⟩
theorem YK (x : List (Ty.T ah)) (ho : Ty.ok (.sl 200 ah) x) (n : Int) (h0 : 0 <= n) (h1 : n <= 1048576) : SZ (v73 x n) n (Ty.short (.sl 200 ah) x) := by
 have hl := ho.2
 unfold v73
 rw [aR (by omega) (by omega)]
 by_cases h : n - (x.length : Int) < 0
 ·rw [decide_eq_true h]; exact .neg h0
 ·rw [decide_eq_false h]; exact ⟨show n - (x.length : Int) <= n by omega,fun _ => ⟨by omega,fun x _ => by simp [Ty.short]⟩⟩
theorem aaz (x : List (Ty.T aD)) (ho : Ty.ok (.sl 202 aD) x) (n : Int) (h0 : 0 <= n) (h1 : n <= 1048576) : SZ (v74 x n) n (Ty.short (.sl 202 aD) x) := by
 have hl := ho.2
 unfold v74
 rw [aR (by omega) (by omega)]
 by_cases h : n - (x.length : Int) < 0
 ·rw [decide_eq_true h]; exact .neg h0
 ·rw [decide_eq_false h]; exact ⟨show n - (x.length : Int) <= n by omega,fun _ => ⟨by omega,fun x _ => by simp [Ty.short]⟩⟩
theorem acb (x : Ty.T y24) (ho : Ty.ok y24 x) (n : Int) (h0 : 0 <= n) (h1 : n <= 1048576) : SZ (v17 x n) n (Ty.short y24 x) := by
 unfold v17
 have y0 := YK x.1 ho.1 n h0 h1
 have z0 := y0
 by_cases g0 : v73 x.1 n < 0
 ·rw [decide_eq_true g0]; exact .neg h0
 ·rw [decide_eq_false g0]
  have y1 := aaz x.2.1 ho.2.1 (v73 x.1 n) (by omega) (by have := z0.1; omega)
  have z1 := y1
  by_cases g1 : v74 x.2.1 (v73 x.1 n) < 0
  ·rw [decide_eq_true g1]; exact .neg h0
  ·rw [decide_eq_false g1]
   exact ⟨show v74 x.2.1 (v73 x.1 n) <= n by have := z0.1; have := z1.1; omega,fun _ => ⟨(z0.2 (by omega)),⟨(z1.2 (by omega)),(by simp [Ty.short])⟩⟩⟩
theorem P0 (x : List (Ty.T y48)) (ho : Ty.ok (.sl 49 y48) x) (n : Int) (h0 : 0 <= n) (h1 : n <= 1048576) : SZ (ua x n) n (Ty.short (.sl 49 y48) x) := by
 have hl := ho.2
 unfold ua
 rw [aR (by omega) (by omega)]
 by_cases h : n - (x.length : Int) < 0
 ·rw [decide_eq_true h]; exact .neg h0
 ·rw [decide_eq_false h]; exact ⟨show n - (x.length : Int) <= n by omega,fun _ => ⟨by omega,fun x _ => by simp [Ty.short]⟩⟩
theorem QW (x : Ty.T jx) (ho : Ty.ok jx x) (n : Int) (h0 : 0 <= n) (h1 : n <= 1048576) : SZ (uk x n) n (Ty.short jx x) := by
 unfold uk
 have y0 := P0 x.2.2.2.2.2.2 ho.2.2.2.2.2.2 n h0 h1
 have z0 := y0
 by_cases g0 : ua x.2.2.2.2.2.2 n < 0
 ·rw [decide_eq_true g0]; exact .neg h0
 ·rw [decide_eq_false g0]
  exact ⟨show ua x.2.2.2.2.2.2 n <= n by have := z0.1; omega,fun _ => ⟨(by simp [Ty.short]),⟨(by simp [Ty.short]),⟨(by simp [Ty.short]),⟨(by simp [Ty.short]),⟨(by simp [Ty.short]),⟨(by simp [Ty.short]),(z0.2 (by omega))⟩⟩⟩⟩⟩⟩⟩
theorem ZJ (x : Ty.T bF) (ho : Ty.ok bF x) (n : Int) (h0 : 0 <= n) (h1 : n <= 1048576) : SZ (v75 x n) n (Ty.short bF x) := by
 unfold v75
 have y0 := QW x.2.2.2.2.2.2.1 ho.2.2.2.2.2.2.1 n h0 h1
 have z0 := y0
 by_cases g0 : uk x.2.2.2.2.2.2.1 n < 0
 ·rw [decide_eq_true g0]; exact .neg h0
 ·rw [decide_eq_false g0]
  exact ⟨show uk x.2.2.2.2.2.2.1 n <= n by have := z0.1; omega,fun _ => ⟨(by simp [Ty.short]),⟨(by simp [Ty.short]),⟨(by simp [Ty.short]),⟨(by simp [Ty.short]),⟨(by simp [Ty.short]),⟨(by simp [Ty.short]),⟨(z0.2 (by omega)),(by simp [Ty.short])⟩⟩⟩⟩⟩⟩⟩⟩
theorem WI (xs : List (Ty.T bF)) (ho : Ty.ok (.sl 122 bF) xs) (n : Int) (h0 : 0 <= n) (h1 : n <= 1048576) : d18 xs n = true /\ SZ (v18 xs n) n (Ty.short (.sl 122 bF) xs) := by
 have hl := ho.2
 unfold d18 v18
 rw [aR (n := n - (xs.length : Int)) (by omega) (by omega)]
 by_cases h : n - (xs.length : Int) < 0
 ·rw [decide_eq_true h]; exact ⟨rfl,.neg h0⟩
 ·rw [decide_eq_false h]
  have key := Fj (s := vR) (mk := fun n r i => (xs,n,r,i,())) (xs := xs) (g := v75) (S := Ty.short bF) (B := 1048576) (fun x hx n h0 h1 => ZJ x (ho.1 x hx) n h0 h1) (fun i x n r hn0 hn1 hx => by
   have hxm : x ∈ xs := List.mem_of_getElem? hx
   obtain ⟨hi,rfl⟩ := List.getElem?_eq_some_iff.1 hx
   skip
   simp [vR,uG,ai,hi,  az (n := i) (by omega),Bool.cond_decide]) (fun n r => by simp [vR,uG]) xs.length 0 (n - (xs.length : Int)) 0 (Aq (xs,n - (xs.length : Int),0,0,())) (by omega) (by simp [Aq]; omega) (by omega) (by omega)
  rcases key with ⟨n',i',hk⟩ | ⟨n',hk,g0,g1,g2⟩
  ·have e0 : mL xs (n - (xs.length : Int)) 0 0 0 = true := ax hk 0
   have ew : vE xs (n - (xs.length : Int)) 0 0 = (xs,n',-1,i',()) := aI hk
   rw [e0,ew]
   exact ⟨rfl,.neg h0⟩
  ·have e0 : mL xs (n - (xs.length : Int)) 0 0 0 = false := ax hk 0
   have e1 : mL xs (n - (xs.length : Int)) 0 0 1 = true := ax hk 1
   have ew : vE xs (n - (xs.length : Int)) 0 0 = (xs,n',0,(xs.length : Int),()) := aI hk
   rw [e0,e1,ew]
   refine ⟨rfl,?_,fun _ => ⟨by omega,fun x hx => ?_⟩⟩
   ·show n' <= n
    omega
   ·obtain ⟨j,hj⟩ := List.getElem?_of_mem hx
    exact g2 j x (Nat.zero_le _) hj
theorem TJ (x : Ty.T ah) : Lm x = x := rfl
theorem Xx (xs : List (Ty.T ah)) (hs : Ty.short (.sl 200 ah) xs) : d79 xs = true /\ v79 xs = xs := by
 have hb := hs.1
 have h : ∀ (n : Nat) (hn : xs.length < n) (out : List (Ty.T ah)) (ho : out.length = xs.length),iter sf n (xs,[],0,out,()) = some (0,(xs,[],(xs.length : Int),xs,())) := fun n hn out ho => by
  have := kt (s := sf) (mk := fun i o => (xs,[],i,o,())) (xs := xs) (conv := fun x => x) (fun i out x hx hl => by
   obtain ⟨hi,rfl⟩ := List.getElem?_eq_some_iff.1 hx
   skip
   simp [sf,wb,ai,hi,hl,TJ,az (n := i) (by omega)]) (fun out hl => by simp [sf,wb]) xs.length 0 out n (by omega) ho hn
  simpa using this
 have h := h (As (xs,[],0,(List.replicate ((xs.length : Int)).toNat (Ty.zero ah)),())) (by simp [As]; omega) (List.replicate ((xs.length : Int)).toNat (Ty.zero ah)) (by simp)
 have hk : vW xs [] 0 (List.replicate ((xs.length : Int)).toNat (Ty.zero ah)) 0 = true := ax h 0
 have hw : D7 xs [] 0 (List.replicate ((xs.length : Int)).toNat (Ty.zero ah)) = (xs,[],(xs.length : Int),xs,()) := aI h
 constructor
 ·show (_ && (_ && (cond (vW xs [] 0 (List.replicate ((xs.length : Int)).toNat (Ty.zero ah)) 0) true false))) = true
  rw [hk]
  simp
  omega
 ·show cond (vW xs [] 0 (List.replicate ((xs.length : Int)).toNat (Ty.zero ah)) 0) (D7 xs [] 0 (List.replicate ((xs.length : Int)).toNat (Ty.zero ah))).2.2.2.1 [] = xs
  rw [hk,hw]
  rfl
theorem Sm (x : Ty.T aD) : Mp x = x := rfl
theorem Xy (xs : List (Ty.T aD)) (hs : Ty.short (.sl 202 aD) xs) : d80 xs = true /\ v80 xs = xs := by
 have hb := hs.1
 have h : ∀ (n : Nat) (hn : xs.length < n) (out : List (Ty.T aD)) (ho : out.length = xs.length),iter sV n (xs,[],0,out,()) = some (0,(xs,[],(xs.length : Int),xs,())) := fun n hn out ho => by
  have := kt (s := sV) (mk := fun i o => (xs,[],i,o,())) (xs := xs) (conv := fun x => x) (fun i out x hx hl => by
   obtain ⟨hi,rfl⟩ := List.getElem?_eq_some_iff.1 hx
   skip
   simp [sV,vc,ai,hi,hl,Sm,az (n := i) (by omega)]) (fun out hl => by simp [sV,vc]) xs.length 0 out n (by omega) ho hn
  simpa using this
 have h := h (Ba (xs,[],0,(List.replicate ((xs.length : Int)).toNat (Ty.zero aD)),())) (by simp [Ba]; omega) (List.replicate ((xs.length : Int)).toNat (Ty.zero aD)) (by simp)
 have hk : uU xs [] 0 (List.replicate ((xs.length : Int)).toNat (Ty.zero aD)) 0 = true := ax h 0
 have hw : E8 xs [] 0 (List.replicate ((xs.length : Int)).toNat (Ty.zero aD)) = (xs,[],(xs.length : Int),xs,()) := aI h
 constructor
 ·show (_ && (_ && (cond (uU xs [] 0 (List.replicate ((xs.length : Int)).toNat (Ty.zero aD)) 0) true false))) = true
  rw [hk]
  simp
  omega
 ·show cond (uU xs [] 0 (List.replicate ((xs.length : Int)).toNat (Ty.zero aD)) 0) (E8 xs [] 0 (List.replicate ((xs.length : Int)).toNat (Ty.zero aD))).2.2.2.1 [] = xs
  rw [hk,hw]
  rfl
theorem VT (x : Ty.T y24) (hs : Ty.short y24 x) : d20 x = true /\ v20 x = (x.2.2.1,x.2.2.2,x.1,x.2.1) := by
 have h0 := Xx x.1 hs.1
 have h1 := Xy x.2.1 hs.2.1
 unfold d20 v20
 rw [h0.1,h0.2,h1.1,h1.2]
 exact ⟨rfl,rfl⟩
theorem Qd (x : Ty.T y96) : qx x = x := rfl
theorem Sl (x : Ty.T y98) : Cl x = x := rfl
theorem R6 (x : Ty.T y48) : v22 x = x := rfl
theorem S4 (xs : List (Ty.T y48)) (hs : Ty.short (.sl 49 y48) xs) : d164 xs = true /\ Hf xs = xs := by
 have hb := hs.1
 have h : ∀ (n : Nat) (hn : xs.length < n) (out : List (Ty.T y48)) (ho : out.length = xs.length),iter l9 n (xs,[],0,out,()) = some (0,(xs,[],(xs.length : Int),xs,())) := fun n hn out ho => by
  have := kt (s := l9) (mk := fun i o => (xs,[],i,o,())) (xs := xs) (conv := fun x => x) (fun i out x hx hl => by
   obtain ⟨hi,rfl⟩ := List.getElem?_eq_some_iff.1 hx
   skip
   simp [l9,ou,ai,hi,hl,R6,az (n := i) (by omega)]) (fun out hl => by simp [l9,ou]) xs.length 0 out n (by omega) ho hn
  simpa using this
 have h := h (r8 (xs,[],0,(List.replicate ((xs.length : Int)).toNat (Ty.zero y48)),())) (by simp [r8]; omega) (List.replicate ((xs.length : Int)).toNat (Ty.zero y48)) (by simp)
 have hk : n9 xs [] 0 (List.replicate ((xs.length : Int)).toNat (Ty.zero y48)) 0 = true := ax h 0
 have hw : yM xs [] 0 (List.replicate ((xs.length : Int)).toNat (Ty.zero y48)) = (xs,[],(xs.length : Int),xs,()) := aI h
 constructor
 ·show (_ && (_ && (cond (n9 xs [] 0 (List.replicate ((xs.length : Int)).toNat (Ty.zero y48)) 0) true false))) = true
  rw [hk]
  simp
  omega
 ·show cond (n9 xs [] 0 (List.replicate ((xs.length : Int)).toNat (Ty.zero y48)) 0) (yM xs [] 0 (List.replicate ((xs.length : Int)).toNat (Ty.zero y48))).2.2.2.1 [] = xs
  rw [hk,hw]
  rfl
theorem UZ (x : Ty.T jx) (hs : Ty.short jx x) : d154 x = true /\ jz x = (x.1,x.2.1,x.2.2.1,x.2.2.2.1,x.2.2.2.2.1,x.2.2.2.2.2.1,x.2.2.2.2.2.2) := by
 have h0 := S4 x.2.2.2.2.2.2 hs.2.2.2.2.2.2
 unfold d154 jz
 rw [h0.1,h0.2]
 exact ⟨rfl,rfl⟩
theorem ab7 (x : Ty.T bF) (hs : Ty.short bF x) : d81 x = true /\ v81 x = (x.1,x.2.1,x.2.2.1,x.2.2.2.1,x.2.2.2.2.1,x.2.2.2.2.2.1,x.2.2.2.2.2.2.1.1,x.2.2.2.2.2.2.1.2.1,x.2.2.2.2.2.2.1.2.2.1,x.2.2.2.2.2.2.1.2.2.2.1,x.2.2.2.2.2.2.1.2.2.2.2.1,x.2.2.2.2.2.2.1.2.2.2.2.2.1,x.2.2.2.2.2.2.2.1,x.2.2.2.2.2.2.2.2,x.2.2.2.2.2.2.1.2.2.2.2.2.2) := by
 have h0 : True /\ qx x.2.2.2.2.1 = _ := ⟨trivial,Qd x.2.2.2.2.1⟩
 have h1 : True /\ Cl x.2.2.2.2.2.1 = _ := ⟨trivial,Sl x.2.2.2.2.2.1⟩
 have h2 := UZ x.2.2.2.2.2.2.1 hs.2.2.2.2.2.2.1
 unfold d81 v81
 rw [h0.2,h1.2,h2.1,h2.2]
 exact ⟨rfl,rfl⟩
theorem abz (xs : List (Ty.T bF)) (hs : Ty.short (.sl 122 bF) xs) : d21 xs = true /\ v21 xs = xs := by
 have hb := hs.1
 have h : ∀ (n : Nat) (hn : xs.length < n) (out : List (Ty.T aa)) (ho : out.length = xs.length),iter qU n (xs,[],0,out,()) = some (0,(xs,[],(xs.length : Int),xs,())) := fun n hn out ho => by
  have := kt (s := qU) (mk := fun i o => (xs,[],i,o,())) (xs := xs) (conv := fun x => x) (fun i out x hx hl => by
   obtain ⟨hi,rfl⟩ := List.getElem?_eq_some_iff.1 hx
   have h0 := ab7 xs[i] (hs.2 _ (List.getElem_mem hi))
   simp [qU,vn,ai,hi,hl,h0.1,h0.2,az (n := i) (by omega)]) (fun out hl => by simp [qU,vn]) xs.length 0 out n (by omega) ho hn
  simpa using this
 have h := h (AZ (xs,[],0,(List.replicate ((xs.length : Int)).toNat (Ty.zero aa)),())) (by simp [AZ]; omega) (List.replicate ((xs.length : Int)).toNat (Ty.zero aa)) (by simp)
 have hk : uA xs [] 0 (List.replicate ((xs.length : Int)).toNat (Ty.zero aa)) 0 = true := ax h 0
 have hw : ER xs [] 0 (List.replicate ((xs.length : Int)).toNat (Ty.zero aa)) = (xs,[],(xs.length : Int),xs,()) := aI h
 constructor
 ·show (_ && (_ && (cond (uA xs [] 0 (List.replicate ((xs.length : Int)).toNat (Ty.zero aa)) 0) true false))) = true
  rw [hk]
  simp
  omega
 ·show cond (uA xs [] 0 (List.replicate ((xs.length : Int)).toNat (Ty.zero aa)) 0) (ER xs [] 0 (List.replicate ((xs.length : Int)).toNat (Ty.zero aa))).2.2.2.1 [] = xs
  rw [hk,hw]
  rfl
theorem aaH (xs : List (Int)) (hs : Ty.short (.sl 3 (.int .i64)) xs) : d70 xs xs = true /\ v70 xs xs = true := by
 have hb := hs.1
 have h := gf (s := wc) (mk := fun i => (xs,xs,false,i,())) (c := 1) (N := xs.length) (fun i hi => by
  skip
  simp [wc,vh,ai,hi,  az (n := i) (by omega)]) (by simp [wc,vh]) xs.length 0 (Bd (xs,xs,false,0,())) (by omega) (by simp [Bd]; omega)
 have h0 : p7 xs xs false 0 0 = false := ax h 0
 have h1 : p7 xs xs false 0 1 = true := ax h 1
 unfold d70 v70
 rw [h0,h1]
 simp
theorem V6 (xs : List (List (Ty.T (.int .i64)))) (hs : Ty.short (.sl 28 (.sl 3 (.int .i64))) xs) : d24 xs xs = true /\ v24 xs xs = true := by
 have hb := hs.1
 have h := gf (s := uN) (mk := fun i => (xs,xs,false,i,())) (c := 1) (N := xs.length) (fun i hi => by
  have h0 := aaH xs[i] (hs.2 _ (List.getElem_mem hi))
  simp [uN,vB,ai,hi,h0.1,h0.2,az (n := i) (by omega)]) (by simp [uN,vB]) xs.length 0 (Bo (xs,xs,false,0,())) (by omega) (by simp [Bo]; omega)
 have h0 : pZ xs xs false 0 0 = false := ax h 0
 have h1 : pZ xs xs false 0 1 = true := ax h 1
 unfold d24 v24
 rw [h0,h1]
 simp
theorem UR (x : Ty.T ah) : HE x x = true := by simp [HE]
theorem aaE (xs : List (Ty.T ah)) (hs : Ty.short (.sl 180 ah) xs) : d84 xs xs = true /\ v84 xs xs = true := by
 have hb := hs.1
 have h := gf (s := uZ) (mk := fun i => (xs,xs,false,i,())) (c := 1) (N := xs.length) (fun i hi => by
  skip
  simp [uZ,uV,ai,hi,UR,az (n := i) (by omega)]) (by simp [uZ,uV]) xs.length 0 (zO (xs,xs,false,0,())) (by omega) (by simp [zO]; omega)
 have h0 : pX xs xs false 0 0 = false := ax h 0
 have h1 : pX xs xs false 0 1 = true := ax h 1
 unfold d84 v84
 rw [h0,h1]
 simp
theorem T7 (x : Ty.T aD) : Iu x x = true := by simp [Iu]
theorem ab2 (xs : List (Ty.T aD)) (hs : Ty.short (.sl 182 aD) xs) : d85 xs xs = true /\ v85 xs xs = true := by
 have hb := hs.1
 have h := gf (s := uo) (mk := fun i => (xs,xs,false,i,())) (c := 1) (N := xs.length) (fun i hi => by
  skip
  simp [uo,uJ,ai,hi,T7,az (n := i) (by omega)]) (by simp [uo,uJ]) xs.length 0 (Ap (xs,xs,false,0,())) (by omega) (by simp [Ap]; omega)
 have h0 : p6 xs xs false 0 0 = false := ax h 0
 have h1 : p6 xs xs false 0 1 = true := ax h 1
 unfold d85 v85
 rw [h0,h1]
 simp
theorem ZO (x : Ty.T y36) (hs : Ty.short y36 x) : d25 x x = true /\ v25 x x = true := by
 have h0 := aaE x.1 hs.1
 have h1 := ab2 x.2.1 hs.2.1
 unfold d25 v25
 rw [h0.1,h0.2,h1.1,h1.2]
 simp
theorem VB (x : Ty.T y96) : DA x x = true := by simp [DA]
theorem Qt (x : Ty.T y98) : B0 x x = true := by simp [B0]
theorem SN (x : Ty.T y48) : JV x x = true := by simp [JV]
theorem Si (xs : List (Ty.T y48)) (hs : Ty.short (.sl 56 y48) xs) : d104 xs xs = true /\ Dq xs xs = true := by
 have hb := hs.1
 have h := gf (s := oH) (mk := fun i => (xs,xs,false,i,())) (c := 1) (N := xs.length) (fun i hi => by
  skip
  simp [oH,og,ai,hi,SN,az (n := i) (by omega)]) (by simp [oH,og]) xs.length 0 (sA (xs,xs,false,0,())) (by omega) (by simp [sA]; omega)
 have h0 : kz xs xs false 0 0 = false := ax h 0
 have h1 : kz xs xs false 0 1 = true := ax h 1
 unfold d104 Dq
 rw [h0,h1]
 simp
theorem QC (x : Ty.T aZ) (hs : Ty.short aZ x) : d161 x x = true /\ CL x x = true := by
 have h0 := Si x.2.2.2.2.2.2 hs.2.2.2.2.2.2
 unfold d161 CL
 rw [h0.1,h0.2]
 simp
theorem aan (x : Ty.T aa) (hs : Ty.short aa x) : d86 x x = true /\ v86 x x = true := by
 have h2 := QC x.2.2.2.2.2.2.1 hs.2.2.2.2.2.2.1
 unfold d86 v86
 rw [h2.1,h2.2,VB,Qt]
 simp
theorem Yn (xs : List (Ty.T aa)) (hs : Ty.short (.sl 103 aa) xs) : d26 xs xs = true /\ v26 xs xs = true := by
 have hb := hs.1
 have h := gf (s := vO) (mk := fun i => (xs,xs,false,i,())) (c := 1) (N := xs.length) (fun i hi => by
  have h0 := aan xs[i] (hs.2 _ (List.getElem_mem hi))
  simp [vO,uW,ai,hi,h0.1,h0.2,az (n := i) (by omega)]) (by simp [vO,uW]) xs.length 0 (AQ (xs,xs,false,0,())) (by omega) (by simp [AQ]; omega)
 have h0 : qc xs xs false 0 0 = false := ax h 0
 have h1 : qc xs xs false 0 1 = true := ax h 1
 unfold d26 v26
 rw [h0,h1]
 simp
theorem SR (a : Int) (b : Int) (c : Int) (d : Int) (n : Int) (z : Int) (t : Bool) : v96 ((a,b,c,d,n,z,t) : Ty.T y48) = dO ((a,b,c,d,n,z,t) : Ty.T y48) := by
 simp only [v96,t96,dO,t148,aY,v99,oe,kf,dy,l1,lW,qv]
 dsimp only [Ty.T]
 have cc : ∀ (p q r : Bool),cond p q r = true ↔ (p = true /\ q = true) ∨ (p = false /\ r = true) := by decide
 have cf : ∀ (p q r : Bool),cond p q r = false ↔ (p = true /\ q = false) ∨ (p = false /\ r = false) := by decide
 by_cases h1 : a = 1
 ·subst h1; rw [Bool.eq_iff_iff]; cases t <;> simp [cc,cf, *] <;> omega
 by_cases h2 : a = 2
 ·subst h2; rw [Bool.eq_iff_iff]; cases t <;> simp [cc,cf, *] <;> omega
 by_cases h3 : a = 3
 ·subst h3; rw [Bool.eq_iff_iff]; cases t <;> simp [cc,cf, *] <;> omega
 by_cases h4 : a = 4
 ·subst h4; rw [Bool.eq_iff_iff]; cases t <;> simp [cc,cf, *] <;> omega
 by_cases h5 : a = 5
 ·subst h5; rw [Bool.eq_iff_iff]; cases t <;> simp [cc,cf, *] <;> omega
 by_cases h6 : a = 6
 ·subst h6; rw [Bool.eq_iff_iff]; cases t <;> simp [cc,cf, *] <;> omega
 rw [Bool.eq_iff_iff]; cases t <;> simp [cc,cf, *] <;> omega
theorem JS (e : Ty.T y48) : v96 e = dO e := by
 obtain ⟨a,b,c,d,n,z,t⟩ := e
 exact SR a b c d n z t
theorem T3 (a b c d z : Int) (t : Bool) : dO ((a,b,c,d,-1,z,t) : Ty.T y48) = false := by
 simp only [dO,t148,aY]
 dsimp only [Ty.T]
 have cc : ∀ (p q r : Bool),cond p q r = true ↔ (p = true /\ q = true) ∨ (p = false /\ r = true) := by decide
 have cf : ∀ (p q r : Bool),cond p q r = false ↔ (p = true /\ q = false) ∨ (p = false /\ r = false) := by decide
 cases t <;> simp [cc,cf]
theorem Pu (e : Ty.T y48) : FJ e = jy e := by
 obtain ⟨a,b,c,d,n,z,t⟩ := e
 have h := T3 a b c d z t
 simp only [FJ,jy,JS]
 by_cases hn : n = (-1 : Int)
 ·subst hn
  rw [h]
  cases (a == (2 : Int)) <;> simp [bne, *]
 ·have h1 : (n == (-1 : Int)) = false := by simpa using hn
  simp only [h1]
  cases (dO (a,b,c,d,n,z,t)) <;> cases (a == (2 : Int)) <;> simp [bne, *]
theorem PL (k : Int) (w : Int) (s : Int) (p : Int) (l : Int) (t : Int) (z : Int) : qM ((k,w,s,p,l,t,z) : Ty.T y96) = qt ((k,w,s,p,l,t,z) : Ty.T y96) := by
 simp only [qM,t223,qt,t241,aY,v99,oe,Gq,F5]
 dsimp only [Ty.T]
 have cc : ∀ (p q r : Bool),cond p q r = true ↔ (p = true /\ q = true) ∨ (p = false /\ r = true) := by decide
 have cf : ∀ (p q r : Bool),cond p q r = false ↔ (p = true /\ q = false) ∨ (p = false /\ r = false) := by decide
 by_cases h1 : k = 1
 ·subst h1; rw [Bool.eq_iff_iff]; simp [cc,cf, *] <;> omega
 by_cases h2 : k = 2
 ·subst h2; rw [Bool.eq_iff_iff]; simp [cc,cf, *] <;> omega
 by_cases h3 : k = 3
 ·subst h3; rw [Bool.eq_iff_iff]; simp [cc,cf, *] <;> omega
 by_cases h4 : k = 4
 ·subst h4; rw [Bool.eq_iff_iff]; simp [cc,cf, *] <;> omega
 by_cases h5 : k = 5
 ·subst h5; rw [Bool.eq_iff_iff]; simp [cc,cf, *] <;> omega
 by_cases h6 : k = 6
 ·subst h6; rw [Bool.eq_iff_iff]; simp [cc,cf, *] <;> omega
 rw [Bool.eq_iff_iff]; simp [cc,cf, *] <;> omega
theorem MB (e : Ty.T y96) : qM e = qt e := by
 obtain ⟨k,w,s,p,l,t,z⟩ := e
 exact PL k w s p l t z
theorem Kc (k : Int) (n : Int) : se ((k,n) : Ty.T y98) = sP ((k,n) : Ty.T y98) := by
 simp only [se,t224,sP,t242,aY,v99,eu]
 dsimp only [Ty.T]
 have cc : ∀ (p q r : Bool),cond p q r = true ↔ (p = true /\ q = true) ∨ (p = false /\ r = true) := by decide
 have cf : ∀ (p q r : Bool),cond p q r = false ↔ (p = true /\ q = false) ∨ (p = false /\ r = false) := by decide
 by_cases h0 : k = 0
 ·subst h0; rw [Bool.eq_iff_iff]; simp [cc,cf, *] <;> omega
 by_cases h1 : k = 1
 ·subst h1; rw [Bool.eq_iff_iff]; simp [cc,cf, *] <;> omega
 by_cases h2 : k = 2
 ·subst h2; rw [Bool.eq_iff_iff]; simp [cc,cf, *] <;> omega
 by_cases h3 : k = 3
 ·subst h3; rw [Bool.eq_iff_iff]; simp [cc,cf, *] <;> omega
 by_cases h4 : k = 4
 ·subst h4; rw [Bool.eq_iff_iff]; simp [cc,cf, *] <;> omega
 by_cases h5 : k = 5
 ·subst h5; rw [Bool.eq_iff_iff]; simp [cc,cf, *] <;> omega
 rw [Bool.eq_iff_iff]; simp [cc,cf, *] <;> omega
theorem Ee (e : Ty.T y98) : se e = sP e := by
 obtain ⟨k,n⟩ := e
 exact Kc k n
theorem Lb (a : Ty.T aZ) (hb : a.2.2.2.2.2.2.length <= 1048576) : (a.2.2.2.2.2.2.any (fun x => !jy x) = true /\ sB false 0 a 0 = true /\ ∃ j : Nat,rb false 0 a = (false,(j : Int),a,())) ∨ (a.2.2.2.2.2.2.any (fun x => !jy x) = false /\ sB false 0 a 0 = false /\ sB false 0 a 1 = true /\ rb false 0 a = (false,(a.2.2.2.2.2.2.length : Int),a,())) := by
 have h := cv (s := o3) (mk := fun i => (false,i,a,())) (fin := fun i => (false,(i : Int),a,())) (p := fun i => match a.2.2.2.2.2.2[i]? with | some x => !jy x | none => false) (N := a.2.2.2.2.2.2.length) (fun i hi => by
  have h1 := List.getElem?_eq_getElem hi
  simp only [h1]
  skip
  cases ht : (jy a.2.2.2.2.2.2[i] : Bool) <;> simp [o3,od,ai,hi,h1,ht,  az (n := i) (by omega)]) (by simp [o3,od]) a.2.2.2.2.2.2.length 0 (s9 (false,0,a,())) (by omega) (by simp only [s9]; omega)
 have hf := fu (p := fun x => !jy x) (xs := a.2.2.2.2.2.2) (q := fun i => match a.2.2.2.2.2.2[i]? with | some x => !jy x | none => false) (fun i x h1 => by simp only [h1])
 revert h hf
 generalize first _ 0 a.2.2.2.2.2.2.length = o
 intro h hf
 cases o with
 | none => exact .inr ⟨hf.symm,ax h 0,ax h 1,aI h⟩
 | some j => exact .inl ⟨hf.symm,ax h 0,j,aI h⟩
theorem Kp (l : List (Ty.T y48)) (hb : l.length <= 1048576) : (l.any (fun x => !jy x) = true /\ dZ l 0 ((l).length : Int) 0 0 = true /\ ∃ j : Nat,ny l 0 ((l).length : Int) 0 = (l,(j : Int),((l).length : Int),(j : Int),())) ∨ (l.any (fun x => !jy x) = false /\ dZ l 0 ((l).length : Int) 0 0 = false /\ dZ l 0 ((l).length : Int) 0 1 = true /\ ny l 0 ((l).length : Int) 0 = (l,0,((l).length : Int),(l.length : Int),())) := by
 have h := cv (s := ir) (mk := fun i => (l,0,((l).length : Int),i,())) (fin := fun i => (l,(i : Int),((l).length : Int),(i : Int),())) (p := fun i => match l[i]? with | some x => !jy x | none => false) (N := l.length) (fun i hi => by
  have h1 := List.getElem?_eq_getElem hi
  simp only [h1]
  skip
  cases ht : (jy l[i] : Bool) <;> simp [ir,ig,ai,hi,h1,ht,LD,Pu,az (n := i) (by omega)]) (by simp [ir,ig]) l.length 0 (kg (l,0,((l).length : Int),0,())) (by omega) (by simp only [kg]; omega)
 have hf := fu (p := fun x => !jy x) (xs := l) (q := fun i => match l[i]? with | some x => !jy x | none => false) (fun i x h1 => by simp only [h1])
 revert h hf
 generalize first _ 0 l.length = o
 intro h hf
 cases o with
 | none => exact .inr ⟨hf.symm,ax h 0,ax h 1,aI h⟩
 | some j => exact .inl ⟨hf.symm,ax h 0,j,aI h⟩
theorem LG (l : List (Ty.T y48)) (hb : l.length <= 1048576) : q4 l = true /\ tG l = l.any (fun x => !jy x) := by
 unfold q4 tG nY rR
 rcases Kp l hb with ⟨hB,e0,j,hw⟩ | ⟨hB,e0,e1,hw⟩
 ·rw [e0,hw,hB]
  exact ⟨rfl,decide_eq_true (show ((j : Int)) ≥ 0 by omega)⟩
 ·rw [e0,e1,hB]
  exact ⟨rfl,rfl⟩
theorem JT (k n p s z kind : Int) (b : Bool) (l : List (Ty.T y48)) : yY ((k,n,p,s,z,b,l) : Ty.T aZ) kind = qw ((k,n,p,s,z,b,l) : Ty.T aZ) kind := by
 simp only [yY,t226,qw,t244,aY,v99,Gq]
 dsimp only [Ty.T]
 have cc : ∀ (p q r : Bool),cond p q r = true ↔ (p = true /\ q = true) ∨ (p = false /\ r = true) := by decide
 have cf : ∀ (p q r : Bool),cond p q r = false ↔ (p = true /\ q = false) ∨ (p = false /\ r = false) := by decide
 by_cases h1 : k = 1
 ·subst h1; rw [Bool.eq_iff_iff]; simp [cc,cf] <;> omega
 by_cases h2 : k = 2
 ·subst h2; rw [Bool.eq_iff_iff]; simp [cc,cf] <;> omega
 by_cases h3 : k = 3
 ·subst h3; rw [Bool.eq_iff_iff]; simp [cc,cf] <;> omega
 by_cases h4 : k = 4
 ·subst h4; rw [Bool.eq_iff_iff]; simp [cc,cf] <;> omega
 by_cases h5 : k = 5
 ·subst h5; rw [Bool.eq_iff_iff]; simp [cc,cf] <;> omega
 by_cases h6 : k = 6
 ·subst h6; rw [Bool.eq_iff_iff]; simp [cc,cf] <;> omega
 by_cases h7 : k = 7
 ·subst h7; rw [Bool.eq_iff_iff]; simp [cc,cf] <;> omega
 by_cases h8 : k = 8
 ·subst h8; rw [Bool.eq_iff_iff]; simp [cc,cf] <;> omega
 by_cases h9 : k = 9
 ·subst h9; rw [Bool.eq_iff_iff]; simp [cc,cf] <;> omega
 rw [Bool.eq_iff_iff]; simp [cc,cf, *] <;> omega
theorem Eb (a : Ty.T aZ) (kind : Int) : yY a kind = qw a kind := by
 obtain ⟨k,n,p,s,z,b,l⟩ := a
 exact JT k n p s z kind b l
theorem N9 (k n p s z : Int) (b : Bool) (l : List (Ty.T y48)) (hb : l.length <= 1048576) : d243 ((k,n,p,s,z,b,l) : Ty.T aZ) = true /\ d225 ((k,n,p,s,z,b,l) : Ty.T aZ) = true /\ oL ((k,n,p,s,z,b,l) : Ty.T aZ) = ue ((k,n,p,s,z,b,l) : Ty.T aZ) := by
 have hi := LG l hb
 have hs := Lb ((k,n,p,s,z,b,l) : Ty.T aZ) hb
 dsimp only at hs
 have cc : ∀ (p q r : Bool),cond p q r = true ↔ (p = true /\ q = true) ∨ (p = false /\ r = true) := by decide
 have cf : ∀ (p q r : Bool),cond p q r = false ↔ (p = true /\ q = false) ∨ (p = false /\ r = false) := by decide
 rcases hs with ⟨hB,e0,j,hw⟩ | ⟨hB,e0,e1,hw⟩
 ·simp only [d243,t243,d225,t225,ue,oL,xx,oA,xG,o6,xQ,nP,yL,o5,wu,o0,yO,oF,we,pw,wS,py,sT,mu,wy,oB,sn,ka,sh,id,nfs,Gv,aY,v99,kf,l1,qv,hi.1,hi.2,hB,e0,hw]
  dsimp only [Ty.T]
  have hl : 0 <= (List.length (α := Ty.T y48) l : Int) := by omega
  generalize (List.length (α := Ty.T y48) l : Int) = m at hl
  by_cases h1 : k = 1
  ·subst h1; refine ⟨by simp,by simp,?_⟩; rw [Bool.eq_iff_iff]; cases b <;> simp [cc,cf, *] <;> omega
  by_cases h2 : k = 2
  ·subst h2; refine ⟨by simp,by simp,?_⟩; rw [Bool.eq_iff_iff]; cases b <;> simp [cc,cf, *] <;> omega
  by_cases h3 : k = 3
  ·subst h3; refine ⟨by simp,by simp,?_⟩; rw [Bool.eq_iff_iff]; cases b <;> simp [cc,cf, *] <;> omega
  by_cases h4 : k = 4
  ·subst h4; refine ⟨by simp,by simp,?_⟩; rw [Bool.eq_iff_iff]; cases b <;> simp [cc,cf, *] <;> omega
  by_cases h5 : k = 5
  ·subst h5; refine ⟨by simp,by simp,?_⟩; rw [Bool.eq_iff_iff]; cases b <;> simp [cc,cf, *] <;> omega
  by_cases h6 : k = 6
  ·subst h6; refine ⟨by simp,by simp,?_⟩; rw [Bool.eq_iff_iff]; cases b <;> simp [cc,cf, *] <;> omega
  by_cases h7 : k = 7
  ·subst h7; refine ⟨by simp,by simp,?_⟩; rw [Bool.eq_iff_iff]; cases b <;> simp [cc,cf, *] <;> omega
  by_cases h8 : k = 8
  ·subst h8; refine ⟨by simp,by simp,?_⟩; rw [Bool.eq_iff_iff]; cases b <;> simp [cc,cf, *] <;> omega
  by_cases h9 : k = 9
  ·subst h9; refine ⟨by simp,by simp,?_⟩; rw [Bool.eq_iff_iff]; cases b <;> simp [cc,cf, *] <;> omega
  refine ⟨by simp [*],by simp [*],?_⟩; rw [Bool.eq_iff_iff]; cases b <;> simp [cc,cf, *] <;> omega
 ·simp only [d243,t243,d225,t225,ue,oL,xx,oA,xG,o6,xQ,nP,yL,o5,wu,o0,yO,oF,we,pw,wS,py,sT,mu,wy,oB,sn,ka,sh,id,nfs,Gv,aY,v99,kf,l1,qv,hi.1,hi.2,hB,e0,e1,hw]
  dsimp only [Ty.T]
  have hl : 0 <= (List.length (α := Ty.T y48) l : Int) := by omega
  generalize (List.length (α := Ty.T y48) l : Int) = m at hl
  by_cases h1 : k = 1
  ·subst h1; refine ⟨by simp,by simp,?_⟩; rw [Bool.eq_iff_iff]; cases b <;> simp [cc,cf, *] <;> omega
  by_cases h2 : k = 2
  ·subst h2; refine ⟨by simp,by simp,?_⟩; rw [Bool.eq_iff_iff]; cases b <;> simp [cc,cf, *] <;> omega
  by_cases h3 : k = 3
  ·subst h3; refine ⟨by simp,by simp,?_⟩; rw [Bool.eq_iff_iff]; cases b <;> simp [cc,cf, *] <;> omega
  by_cases h4 : k = 4
  ·subst h4; refine ⟨by simp,by simp,?_⟩; rw [Bool.eq_iff_iff]; cases b <;> simp [cc,cf, *] <;> omega
  by_cases h5 : k = 5
  ·subst h5; refine ⟨by simp,by simp,?_⟩; rw [Bool.eq_iff_iff]; cases b <;> simp [cc,cf, *] <;> omega
  by_cases h6 : k = 6
  ·subst h6; refine ⟨by simp,by simp,?_⟩; rw [Bool.eq_iff_iff]; cases b <;> simp [cc,cf, *] <;> omega
  by_cases h7 : k = 7
  ·subst h7; refine ⟨by simp,by simp,?_⟩; rw [Bool.eq_iff_iff]; cases b <;> simp [cc,cf, *] <;> omega
  by_cases h8 : k = 8
  ·subst h8; refine ⟨by simp,by simp,?_⟩; rw [Bool.eq_iff_iff]; cases b <;> simp [cc,cf, *] <;> omega
  by_cases h9 : k = 9
  ·subst h9; refine ⟨by simp,by simp,?_⟩; rw [Bool.eq_iff_iff]; cases b <;> simp [cc,cf, *] <;> omega
  refine ⟨by simp [*],by simp [*],?_⟩; rw [Bool.eq_iff_iff]; cases b <;> simp [cc,cf, *] <;> omega
theorem NP (a : Ty.T aZ) (hb : a.2.2.2.2.2.2.length <= 1048576) : d243 a = true /\ d225 a = true /\ oL a = ue a := by
 obtain ⟨k,n,p,s,z,b,l⟩ := a
 exact N9 k n p s z b l hb
theorem GO (i1 i2 i3 i4 : Int) (p : Ty.T y96) (g : Ty.T y98) (a : Ty.T aZ) (u l : Int) (hb : a.2.2.2.2.2.2.length <= 1048576) : d200 ((i1,i2,i3,i4,p,g,a,u,l) : Ty.T aa) = true /\ d176 ((i1,i2,i3,i4,p,g,a,u,l) : Ty.T aa) = true /\ um ((i1,i2,i3,i4,p,g,a,u,l) : Ty.T aa) = iu ((i1,i2,i3,i4,p,g,a,u,l) : Ty.T aa) := by
 have ha := NP a hb
 simp only [d200,t200,d176,t176,iu,um,aY,v99,kf,l1,MB,Ee,Eb,ha.1,ha.2.1,ha.2.2,nfs]
 generalize qt p = b1
 generalize sP g = b2
 generalize qw a p.1 = b3
 generalize ue a = b4
 generalize (a.1 == (2 : Int)) = b5
 dsimp only [Ty.T]
 have cc : ∀ (p q r : Bool),cond p q r = true ↔ (p = true /\ q = true) ∨ (p = false /\ r = true) := by decide
 have cf : ∀ (p q r : Bool),cond p q r = false ↔ (p = true /\ q = false) ∨ (p = false /\ r = false) := by decide
 cases b5
 ·cases b1 <;> cases b2 <;> cases b3 <;> cases b4 <;> (refine ⟨by simp,by simp,?_⟩; rw [Bool.eq_iff_iff]; simp [cc,cf] <;> omega)
 ·cases b1 <;> cases b2 <;> cases b3 <;> cases b4 <;> (refine ⟨by simp,by simp,?_⟩; rw [Bool.eq_iff_iff]; simp [cc,cf] <;> omega)
theorem ki (e : Ty.T aa) (hb : e.2.2.2.2.2.2.1.2.2.2.2.2.2.length <= 1048576) : d200 e = true /\ d176 e = true /\ um e = iu e := by
 obtain ⟨i1,i2,i3,i4,p,g,a,u,l⟩ := e
 exact GO i1 i2 i3 i4 p g a u l hb
theorem sa {V W : Type} {s1 : V -> Option (Nat × V)} {s2 : W -> Option (Nat × W)} {mk1 : Int -> V} {mk2 : Int -> W} {fin1 : Nat -> V} {fin2 : Nat -> W} {N : Nat}
  (h : ∀ i : Nat,i < N -> (s1 (mk1 (i : Int)) = some (0,mk1 ((i + 1 : Nat) : Int)) /\ s2 (mk2 (i : Int)) = some (0,mk2 ((i + 1 : Nat) : Int))) ∨ (s1 (mk1 (i : Int)) = some (1,fin1 i) /\ s2 (mk2 (i : Int)) = some (1,fin2 i)))
  (e1 : s1 (mk1 (N : Int)) = some (2,mk1 (N : Int))) (e2 : s2 (mk2 (N : Int)) = some (2,mk2 (N : Int))) : ∀ (k i n m : Nat),i + k = N -> k < n -> k < m ->
  (∃ j,iter s1 n (mk1 (i : Int)) = some (0,fin1 j) /\ iter s2 m (mk2 (i : Int)) = some (0,fin2 j)) ∨ (iter s1 n (mk1 (i : Int)) = some (1,mk1 (N : Int)) /\ iter s2 m (mk2 (i : Int)) = some (1,mk2 (N : Int)))
 | 0,i,n,m,hk,hn,hm => by
  obtain ⟨n,rfl⟩ : ∃ x,n = x + 1 := ⟨n - 1,by omega⟩
  obtain ⟨m,rfl⟩ : ∃ x,m = x + 1 := ⟨m - 1,by omega⟩
  have : i = N := by omega
  subst this
  exact .inr ⟨by rw [iter,e1]; rfl,by rw [iter,e2]; rfl⟩
 | k + 1,i,n,m,hk,hn,hm => by
  obtain ⟨n,rfl⟩ : ∃ x,n = x + 1 := ⟨n - 1,by omega⟩
  obtain ⟨m,rfl⟩ : ∃ x,m = x + 1 := ⟨m - 1,by omega⟩
  rcases h i (by omega) with ⟨a,b⟩ | ⟨a,b⟩
  ·rw [iter,a,iter,b]
   exact sa h e1 e2 k (i + 1) n m (by omega) (by omega) (by omega)
  ·exact .inl ⟨i,by rw [iter,a]; rfl,by rw [iter,b]; rfl⟩
theorem pg (j : Nat) (h : (j : Int) <= 9223372036854775806) : IntKind.wrap .i64 (((j + 1 : Nat) : Int) - 1) = (j : Int) := by rw [aR (by omega) (by omega)]; omega
theorem GW (a : Int) (b : Int) (c : Int) (d : Int) (e : Int) (f : Int) (g : Int) (h : Int) (p : Int) (q : Int) (r : Int) (s : Bool) (t : Bool) : HA ((a,b,c,d,e,f,g,h,p,q,r,s,t) : Ty.T ah) = zz ((a,b,c,d,e,f,g,h,p,q,r,s,t) : Ty.T ah) := by
 simp only [HA,t168,zz,t198,aY,v99,kf,l1,qv,F8,F5,oe]
 dsimp only [Ty.T]
 have cc : ∀ (p q r : Bool),cond p q r = true ↔ (p = true /\ q = true) ∨ (p = false /\ r = true) := by decide
 have cf : ∀ (p q r : Bool),cond p q r = false ↔ (p = true /\ q = false) ∨ (p = false /\ r = false) := by decide
 rw [Bool.eq_iff_iff]; cases s <;> cases t <;> simp [cc,cf, *] <;> omega
theorem wG (e : Ty.T ah) : HA e = zz e := by
 obtain ⟨a,b,c,d,e,f,g,h,p,q,r,s,t⟩ := e
 exact GW a b c d e f g h p q r s t
theorem HP (p : Ty.T ah) (h : zz p = true) : (0 : Int) <= p.2.1 /\ (0 : Int) <= p.2.2.1 := by
 simp only [zz,t198,aY] at h
 have cc : ∀ (p q r : Bool),cond p q r = true ↔ (p = true /\ q = true) ∨ (p = false /\ r = true) := by decide
 have cf : ∀ (p q r : Bool),cond p q r = false ↔ (p = true /\ q = false) ∨ (p = false /\ r = false) := by decide
 simp [cc,cf] at h
 dsimp only [Ty.T] at h ⊢
 omega
theorem MK (x m : Int) (hx : 0 <= x) (hm : 0 <= m) (hm2 : m <= 1048576) : v99 x 0 (IntKind.wrap .i64 (m - 1)) = !decide (x ≥ m) := by
 rw [aR (by omega) (by omega)]
 simp only [v99]
 rw [Bool.eq_iff_iff]
 have cc : ∀ (p q r : Bool),cond p q r = true ↔ (p = true /\ q = true) ∨ (p = false /\ r = true) := by decide
 have cf : ∀ (p q r : Bool),cond p q r = false ↔ (p = true /\ q = false) ∨ (p = false /\ r = false) := by decide
 simp [cc,cf]
 omega
theorem Mq (a : Ty.T y36) (hb : a.1.length <= 1048576) (hl : a.2.1.length <= 1048576) : (∃ j : Nat,iter gJ (pt (false,0,a,())) (false,0,a,()) = some (0,(false,(j : Int),a,())) /\ iter lb (vA (false,a.1,((a.1).length : Int),0,a,())) (false,a.1,((a.1).length : Int),0,a,()) = some (0,(false,a.1,((a.1).length : Int),(j : Int),a,()))) ∨ (iter gJ (pt (false,0,a,())) (false,0,a,()) = some (1,(false,(a.1.length : Int),a,())) /\ iter lb (vA (false,a.1,((a.1).length : Int),0,a,())) (false,a.1,((a.1).length : Int),0,a,()) = some (1,(false,a.1,((a.1).length : Int),(a.1.length : Int),a,()))) := by
 refine sa (s1 := gJ) (s2 := lb) (mk1 := fun i => (false,i,a,())) (mk2 := fun i => (false,a.1,((a.1).length : Int),i,a,())) (fin1 := fun i => (false,(i : Int),a,())) (fin2 := fun i => (false,a.1,((a.1).length : Int),(i : Int),a,())) (N := a.1.length) (fun i hi => ?_) (by simp [gJ,kq]) (by simp [lb,ql]) a.1.length 0 _ _ (by omega) (by simp only [pt]; omega) (by simp only [vA]; omega)
 have h1 : a.1[i]? = some a.1[i] := List.getElem?_eq_getElem hi
 have h3 : (i : Int) < (a.1.length : Int) := by omega
 generalize a.1[i] = p at h1
 cases hp : zz p with
 | false =>
  refine .inr ⟨?_,?_⟩
  ·simp only [gJ,kq,decide_eq_true h3,cond_true,if_pos (show (0 : Int) <= (i : Int) by omega),Int.toNat_natCast,h1,ai,hp,Bool.not_false]
  ·simp only [lb,ql,decide_eq_true h3,cond_true,if_pos (show (0 : Int) <= (i : Int) by omega),Int.toNat_natCast,h1,ai,wG,hp,Bool.not_false]
 | true =>
  have hlow := HP p hp
  have hs1 := MK p.2.1 (a.2.1.length : Int) hlow.1 (by omega) (by omega)
  have hs2 := MK p.2.2.1 (a.2.1.length : Int) hlow.2 (by omega) (by omega)
  have hw := az (n := i) (by omega)
  match i,hi,h1,h3,hw with
  | 0,hi,h1,h3,hw =>
   simp only [gJ,kq,lb,ql,kX,decide_eq_true h3,cond_true,if_pos (show (0 : Int) <= ((0 : Nat) : Int) by omega),Int.toNat_natCast,h1,ai,wG,hp,Bool.not_true,cond_false,hs1,hs2,Bool.not_not,decide_eq_false (show ¬ ((0 : Nat) : Int) > 0 by omega),hw]
   cases decide (p.2.1 ≥ (a.2.1.length : Int)) <;> cases decide (p.2.2.1 ≥ (a.2.1.length : Int)) <;> cases decide (p.2.2.2.2.1 > a.2.2.2) <;> first | exact .inl ⟨rfl,rfl⟩ | exact .inr ⟨rfl,rfl⟩
  | j + 1,hi,h1,h3,hw =>
   have h2 : a.1[j]? = some a.1[j] := List.getElem?_eq_getElem (by omega)
   generalize a.1[j] = q at h2
   simp only [gJ,kq,lb,ql,kX,decide_eq_true h3,cond_true,if_pos (show (0 : Int) <= ((j + 1 : Nat) : Int) by omega),Int.toNat_natCast,h1,h2,ai,wG,hp,Bool.not_true,cond_false,hs1,hs2,Bool.not_not,decide_eq_true (show ((j + 1 : Nat) : Int) > 0 by omega),pg j (by omega),if_pos (show (0 : Int) <= (j : Int) by omega),hw]
   cases decide (q.1 ≥ p.1) <;> cases decide (p.2.1 ≥ (a.2.1.length : Int)) <;> cases decide (p.2.2.1 ≥ (a.2.1.length : Int)) <;> cases decide (p.2.2.2.2.1 > a.2.2.2) <;> first | exact .inl ⟨rfl,rfl⟩ | exact .inr ⟨rfl,rfl⟩
theorem L0 (x y : Int) (t : Bool) : Gd ((x,y,t) : Ty.T aD) = !jh ((x,y,t) : Ty.T aD) := by
 simp only [Gd,jh,aY,v99,eu,oe]
 try dsimp only [Ty.T]
 have cc : ∀ (p q r : Bool),cond p q r = true ↔ (p = true /\ q = true) ∨ (p = false /\ r = true) := by decide
 have cf : ∀ (p q r : Bool),cond p q r = false ↔ (p = true /\ q = false) ∨ (p = false /\ r = false) := by decide
 rw [Bool.eq_iff_iff]
 simp [cc,cf]
 omega
theorem PA (s : Ty.T aD) : Gd s = !jh s := L0 s.1 s.2.1 s.2.2
theorem Gy (a : Ty.T y36) (hb : a.2.1.length <= 1048576) : (a.2.1.any (fun x => !jh x) = true /\ rK false 0 a 0 = true /\ ∃ j : Nat,Dc false 0 a = (false,(j : Int),a,())) ∨ (a.2.1.any (fun x => !jh x) = false /\ rK false 0 a 0 = false /\ rK false 0 a 1 = true /\ Dc false 0 a = (false,(a.2.1.length : Int),a,())) := by
 have h := cv (s := pj) (mk := fun i => (false,i,a,())) (fin := fun i => (false,(i : Int),a,())) (p := fun i => match a.2.1[i]? with | some x => !jh x | none => false) (N := a.2.1.length) (fun i hi => by
  have h1 := List.getElem?_eq_getElem hi
  simp only [h1]
  skip
  cases ht : (jh a.2.1[i] : Bool) <;> simp [pj,oJ,ai,hi,h1,ht,  az (n := i) (by omega)]) (by simp [pj,oJ]) a.2.1.length 0 (sk (false,0,a,())) (by omega) (by simp only [sk]; omega)
 have hf := fu (p := fun x => !jh x) (xs := a.2.1) (q := fun i => match a.2.1[i]? with | some x => !jh x | none => false) (fun i x h1 => by simp only [h1])
 revert h hf
 generalize first _ 0 a.2.1.length = o
 intro h hf
 cases o with
 | none => exact .inr ⟨hf.symm,ax h 0,ax h 1,aI h⟩
 | some j => exact .inl ⟨hf.symm,ax h 0,j,aI h⟩
theorem Db (l : List (Ty.T aD)) (hb : l.length <= 1048576) : (l.any (fun x => !jh x) = true /\ er l 0 ((l).length : Int) 0 0 = true /\ ∃ j : Nat,mS l 0 ((l).length : Int) 0 = (l,(j : Int),((l).length : Int),(j : Int),())) ∨ (l.any (fun x => !jh x) = false /\ er l 0 ((l).length : Int) 0 0 = false /\ er l 0 ((l).length : Int) 0 1 = true /\ mS l 0 ((l).length : Int) 0 = (l,0,((l).length : Int),(l.length : Int),())) := by
 have h := cv (s := gR) (mk := fun i => (l,0,((l).length : Int),i,())) (fin := fun i => (l,(i : Int),((l).length : Int),(i : Int),())) (p := fun i => match l[i]? with | some x => !jh x | none => false) (N := l.length) (fun i hi => by
  have h1 := List.getElem?_eq_getElem hi
  simp only [h1]
  skip
  cases ht : (jh l[i] : Bool) <;> simp [gR,hY,ai,hi,h1,ht,PA,az (n := i) (by omega)]) (by simp [gR,hY]) l.length 0 (jD (l,0,((l).length : Int),0,())) (by omega) (by simp only [jD]; omega)
 have hf := fu (p := fun x => !jh x) (xs := l) (q := fun i => match l[i]? with | some x => !jh x | none => false) (fun i x h1 => by simp only [h1])
 revert h hf
 generalize first _ 0 l.length = o
 intro h hf
 cases o with
 | none => exact .inr ⟨hf.symm,ax h 0,ax h 1,aI h⟩
 | some j => exact .inl ⟨hf.symm,ax h 0,j,aI h⟩
theorem Gh (l : List (Ty.T aD)) (hb : l.length <= 1048576) : sI l = true /\ tT l = l.any (fun x => !jh x) := by
 unfold sI tT oC rN
 rcases Db l hb with ⟨hB,e0,j,hw⟩ | ⟨hB,e0,e1,hw⟩
 ·rw [e0,hw,hB]
  exact ⟨rfl,decide_eq_true (show ((j : Int)) ≥ 0 by omega)⟩
 ·rw [e0,e1,hB]
  exact ⟨rfl,rfl⟩
theorem K5 (a : Ty.T y36) (hb : a.1.length <= 1048576) (hl : a.2.1.length <= 1048576) : d125 a = true /\ d95 a = true /\ v95 a = Gf a := by
 have hi := Gh a.2.1 hl
 unfold d125 d95 Gf v95 t125 t95
 try simp only [nfs]
 simp only [kX,F8,v99,aY]
 rcases Mq a hb hl with ⟨j,x1,x2⟩ | ⟨x1,x2⟩
 ·have e0 : q7 false 0 a 0 = true := ax x1 0
  have f0 : A1 false a.1 ((a.1).length : Int) 0 a 0 = true := ax x2 0
  have ew : iQ false 0 a = _ := aI x1
  have fw : AY false a.1 ((a.1).length : Int) 0 a = _ := aI x2
  simp only [e0,f0,ew,fw]
  generalize decide ((a.1.length : Int) > (8 : Int)) = b1
  cases b1
  ·refine ⟨?_,?_,?_⟩ <;> simp
  ·exact ⟨rfl,rfl,rfl⟩
 ·have e0 : q7 false 0 a 0 = false := ax x1 0
  have e1 : q7 false 0 a 1 = true := ax x1 1
  have f0 : A1 false a.1 ((a.1).length : Int) 0 a 0 = false := ax x2 0
  have f1 : A1 false a.1 ((a.1).length : Int) 0 a 1 = true := ax x2 1
  have ew : iQ false 0 a = _ := aI x1
  have fw : AY false a.1 ((a.1).length : Int) 0 a = _ := aI x2
  simp only [e0,e1,f0,f1,ew,fw,hi.1,hi.2]
  rcases Gy a hl with ⟨hB,y0,k,hw⟩ | ⟨hB,y0,y1,hw⟩
  ·simp only [y0,hw,hB]
   generalize decide ((a.1.length : Int) > (8 : Int)) = b1
   cases b1
   ·refine ⟨?_,?_,?_⟩ <;> simp
   ·exact ⟨rfl,rfl,rfl⟩
  ·simp only [y0,y1,hw,hB]
   generalize decide ((a.1.length : Int) > (8 : Int)) = b1
   cases b1
   ·refine ⟨?_,?_,?_⟩ <;> simp
   ·exact ⟨rfl,rfl,rfl⟩
theorem Jh (l : List (Ty.T aa)) (hb : l.length <= 1048576) (hv : ∀ x ∈ l,x.2.2.2.2.2.2.1.2.2.2.2.2.2.length <= 1048576) : (∃ j : Nat,iter iE (pv (l,false,0,())) (l,false,0,()) = some (0,(l,false,(j : Int),())) /\ iter mU (vM (l,false,l,((l).length : Int),0,())) (l,false,l,((l).length : Int),0,()) = some (0,(l,false,l,((l).length : Int),(j : Int),()))) ∨ (iter iE (pv (l,false,0,())) (l,false,0,()) = some (1,(l,false,(l.length : Int),())) /\ iter mU (vM (l,false,l,((l).length : Int),0,())) (l,false,l,((l).length : Int),0,()) = some (1,(l,false,l,((l).length : Int),(l.length : Int),()))) := by
 refine sa (s1 := iE) (s2 := mU) (mk1 := fun i => (l,false,i,())) (mk2 := fun i => (l,false,l,((l).length : Int),i,())) (fin1 := fun i => (l,false,(i : Int),())) (fin2 := fun i => (l,false,l,((l).length : Int),(i : Int),())) (N := l.length) (fun i hi => ?_) (by simp [iE,lE]) (by simp [mU,rF]) l.length 0 _ _ (by omega) (by simp only [pv]; omega) (by simp only [vM]; omega)
 have h1 : l[i]? = some l[i] := List.getElem?_eq_getElem hi
 have h3 : (i : Int) < (l.length : Int) := by omega
 have hq := ki l[i] (hv _ (List.getElem_mem hi))
 generalize l[i] = p at h1 hq
 have hw := az (n := i) (by omega)
 match i,hi,h1,h3,hw with
 | 0,hi,h1,h3,hw =>
  simp only [iE,lE,mU,rF,decide_eq_true h3,cond_true,if_pos (show (0 : Int) <= ((0 : Nat) : Int) by omega),Int.toNat_natCast,h1,ai,hq.1,hq.2.1,hq.2.2,decide_eq_false (show ¬ ((0 : Nat) : Int) > 0 by omega),cond_false,hw]
  cases iu p <;> first | exact .inl ⟨rfl,rfl⟩ | exact .inr ⟨rfl,rfl⟩
 | j + 1,hi,h1,h3,hw =>
  have h2 : l[j]? = some l[j] := List.getElem?_eq_getElem (by omega)
  generalize l[j] = q at h2
  simp only [iE,lE,mU,rF,decide_eq_true h3,cond_true,if_pos (show (0 : Int) <= ((j + 1 : Nat) : Int) by omega),Int.toNat_natCast,h1,h2,ai,hq.1,hq.2.1,hq.2.2,decide_eq_true (show ((j + 1 : Nat) : Int) > 0 by omega),pg j (by omega),if_pos (show (0 : Int) <= (j : Int) by omega),hw]
  cases iu p <;> cases decide (q.1 ≥ p.1) <;> first | exact .inl ⟨rfl,rfl⟩ | exact .inr ⟨rfl,rfl⟩
theorem Ll (l : List (Ty.T aa)) (hb : l.length <= 1048576) (hv : ∀ x ∈ l,x.2.2.2.2.2.2.1.2.2.2.2.2.2.length <= 1048576) : d130 l = true /\ d97 l = true /\ v97 l = xF l := by
 unfold d130 d97 xF v97
 rcases Jh l hb hv with ⟨j,x1,x2⟩ | ⟨x1,x2⟩
 ·have e0 : eX l false 0 0 = true := ax x1 0
  have f0 : mN l false l ((l).length : Int) 0 0 = true := ax x2 0
  have ew : jI l false 0 = _ := aI x1
  have fw : vf l false l ((l).length : Int) 0 = _ := aI x2
  simp only [e0,f0,ew,fw]
  first | exact ⟨rfl,rfl,rfl⟩ | simp
 ·have e0 : eX l false 0 0 = false := ax x1 0
  have e1 : eX l false 0 1 = true := ax x1 1
  have f0 : mN l false l ((l).length : Int) 0 0 = false := ax x2 0
  have f1 : mN l false l ((l).length : Int) 0 1 = true := ax x2 1
  have ew : jI l false 0 = _ := aI x1
  have fw : vf l false l ((l).length : Int) 0 = _ := aI x2
  simp only [e0,e1,f0,f1,ew,fw]
  first | exact ⟨rfl,rfl,rfl⟩ | simp
theorem TR (u : List (Ty.T (.int .i64))) (n : Int) (hb : u.length <= 1048576) : d250 u n = true /\ Ak u n = (u.any fun x => x == n) := by
 have h := cv (s := nW) (mk := fun i => (u,n,false,i,())) (fin := fun i => (u,n,true,(i : Int),())) (p := fun i => match u[i]? with | some x => (x == n) | none => false) (N := u.length) (fun i hi => by
  have h1 := List.getElem?_eq_getElem hi
  simp only [h1]
  skip
  cases ht : ((u[i] : Int) == n) <;> simp [nW,pD,ai,hi,h1,ht,  az (n := i) (by omega)]) (by simp [nW,pD]) u.length 0 (rL (u,n,false,0,())) (by omega) (by simp [rL]; omega)
 have hf := fu (p := fun x => (x == n)) (xs := u) (q := fun i => match u[i]? with | some x => (x == n) | none => false) (fun i x h1 => by simp only [h1])
 unfold d250 Ak
 revert h hf
 generalize first _ 0 u.length = o
 intro h hf
 cases o with
 | none =>
  have e0 : jj u n false 0 0 = false := ax h 0
  have e1 : jj u n false 0 1 = true := ax h 1
  rw [e0,e1,← hf]
  exact ⟨rfl,rfl⟩
 | some j =>
  have e0 : jj u n false 0 0 = true := ax h 0
  have hw : DO u n false 0 = _ := aI h
  rw [e0,hw,← hf]
  exact ⟨rfl,rfl⟩
theorem Zm (u : List (Ty.T (.int .i64))) (n : Int) (hb : u.length <= 1048576) : d286 u n = true /\ FK u n = (match first (fun i => match u[i]? with | some x => (n == x) | none => false) 0 u.length with | some j => (j : Int) | none => -1) := by
 have h := cv (s := oc) (mk := fun i => (u,n,0,((u).length : Int),i,())) (fin := fun i => (u,n,(i : Int),((u).length : Int),(i : Int),())) (p := fun i => match u[i]? with | some x => (n == x) | none => false) (N := u.length) (fun i hi => by
  have h1 := List.getElem?_eq_getElem hi
  simp only [h1]
  skip
  cases ht : ((n == (u[i] : Int)) : Bool) <;> simp [oc,oa,ai,hi,h1,ht,  az (n := i) (by omega)]) (by simp [oc,oa]) u.length 0 (re (u,n,0,((u).length : Int),0,())) (by omega) (by simp [re]; omega)
 unfold d286 FK
 revert h
 generalize first _ 0 u.length = o
 intro h
 cases o with
 | none =>
  have e0 : ja u n 0 ((u).length : Int) 0 0 = false := ax h 0
  have e1 : ja u n 0 ((u).length : Int) 0 1 = true := ax h 1
  rw [e0,e1]
  exact ⟨rfl,rfl⟩
 | some j =>
  have e0 : ja u n 0 ((u).length : Int) 0 0 = true := ax h 0
  have hw : D5 u n 0 ((u).length : Int) 0 = _ := aI h
  rw [e0,hw]
  exact ⟨rfl,rfl⟩
theorem aa8 (u : List (Ty.T (.int .i64))) (n : Int) (hb : u.length <= 1048576) : d227 u n = true /\ Iv u n = u.any fun x => x == n := by
 have h := Zm u n hb
 have e : (first (fun i => match u[i]? with | some x => n == x | none => false) 0 u.length).isSome = u.any fun x => n == x := fu (fun i x h => by simp only [h])
 have e2 : (u.any fun x => n == x) = u.any fun x => x == n := by congr 1; funext x; exact Bool.beq_comm
 unfold d227 Iv d262 ID
 rw [h.1,h.2,← e2,← e]
 cases first (fun i => match u[i]? with | some x => n == x | none => false) 0 u.length with
 | none => exact ⟨by simp,by simp⟩
 | some j => exact ⟨by simp,by simp⟩
theorem NB (l : List (Ty.T y48)) (hb : l.length <= 1048576) : d185 l = true := decide_eq_true (show List.length l * _ <= _ by omega)
theorem Fi (l : List (Ty.T (.int .i64))) (hb : l.length <= 1048576) : d184 l = true := decide_eq_true (show List.length l * _ <= _ by omega)
theorem cpI (e : Ty.T aa) (hb : e.2.2.2.2.2.2.1.2.2.2.2.2.2.length <= 1048576) : d165 e = true /\ bA e = ((e.1,e.2.1,e.2.2.1,e.2.2.2.1,e.2.2.2.2.1,e.2.2.2.2.2.1,e.2.2.2.2.2.2.1.1,e.2.2.2.2.2.2.1.2.1,e.2.2.2.2.2.2.1.2.2.1,e.2.2.2.2.2.2.1.2.2.2.1,e.2.2.2.2.2.2.1.2.2.2.2.1,e.2.2.2.2.2.2.1.2.2.2.2.2.1),e.2.2.2.2.2.2.2,e.2.2.2.2.2.2.1.2.2.2.2.2.2) := by
 have h := NB _ hb
 unfold d165 bA t165
 try simp only [nfs]
 rw [h]
 exact ⟨rfl,rfl⟩
theorem cpS (e : Ty.T aa) (hb : e.2.2.2.2.2.2.1.2.2.2.2.2.2.length <= 1048576) : d207 e = true /\ bS e = ((e.1,e.2.1,e.2.2.1,e.2.2.2.1,e.2.2.2.2.1,e.2.2.2.2.2.1,e.2.2.2.2.2.2.1.1,e.2.2.2.2.2.2.1.2.1,e.2.2.2.2.2.2.1.2.2.1,e.2.2.2.2.2.2.1.2.2.2.1,e.2.2.2.2.2.2.1.2.2.2.2.1,e.2.2.2.2.2.2.1.2.2.2.2.2.1),e.2.2.2.2.2.2.2,e.2.2.2.2.2.2.1.2.2.2.2.2.2) := by
 have h : d249 e.2.2.2.2.2.2.1 = true := by
  unfold d249
  simp only [List.nil_append,Bool.and_true]
  exact decide_eq_true (by omega)
 unfold d207 bS t207
 try simp only [nfs]
 rw [h]
 exact ⟨rfl,rfl⟩
theorem ctI (l : List (Ty.T aa)) (hb : l.length <= 1048576) (hv : ∀ x ∈ l,x.2.2.2.2.2.2.1.2.2.2.2.2.2.length <= 1048576) : d94 l = true /\ v94 l = l := by
 have h := dv (s := vS) (f := fun i => ([],l,((l).length : Int),(i : Int),l.take i,())) (c := 0) (N := l.length) (v' := ([],l,((l).length : Int),(l.length : Int),l.take l.length,())) (fun i hi => by
  have h1 : l[i]? = some l[i] := List.getElem?_eq_getElem hi
  have hw := az (n := i) (by omega)
  have hc := cpI l[i] (hv _ (List.getElem_mem hi))
  have hz : ∀ x : Ty.T aa,(l.take i ++ [x]).length * 192 <= 140737488351232 := fun x => by simp only [List.length_append,List.length_cons,List.length_nil,List.length_take]; omega
  rw [di h1]
  simp only [vS,uE,decide_eq_true (show (i : Int) < (l.length : Int) by omega),cond_true,if_pos (show (0 : Int) <= (i : Int) by omega),Int.toNat_natCast,h1,ai,hw,hc.1,hc.2,if_pos (hz _)] <;> rfl) (by simp [vS,uE]) l.length 0 (A4 ([],l,((l).length : Int),0,[],())) (by omega) (by simp only [A4]; omega)
 have hk : Fw [] l ((l).length : Int) 0 [] 0 = true := ax h 0
 have hw : KR [] l ((l).length : Int) 0 [] = _ := aI h
 unfold d94 v94
 rw [hk,hw]
 exact ⟨rfl,by simp⟩
theorem ctS (l : List (Ty.T aa)) (hb : l.length <= 1048576) (hv : ∀ x ∈ l,x.2.2.2.2.2.2.1.2.2.2.2.2.2.length <= 1048576) : d147 l = true /\ gV l = l := by
 have h := dv (s := oD) (f := fun i => (l,[],(i : Int),l.take i,())) (c := 0) (N := l.length) (v' := (l,[],(l.length : Int),l.take l.length,())) (fun i hi => by
  have h1 : l[i]? = some l[i] := List.getElem?_eq_getElem hi
  have hw := az (n := i) (by omega)
  have hc := cpS l[i] (hv _ (List.getElem_mem hi))
  have hz : ∀ x : Ty.T aa,(l.take i ++ [x]).length * 192 <= 140737488351232 := fun x => by simp only [List.length_append,List.length_cons,List.length_nil,List.length_take]; omega
  rw [di h1]
  simp only [oD,pe,decide_eq_true (show (i : Int) < (l.length : Int) by omega),cond_true,if_pos (show (0 : Int) <= (i : Int) by omega),Int.toNat_natCast,h1,ai,hw,hc.1,hc.2,if_pos (hz _)] <;> rfl) (by simp [oD,pe]) l.length 0 (tH (l,[],0,[],())) (by omega) (by simp only [tH]; omega)
 have hk : xR l [] 0 [] 0 = true := ax h 0
 have hw : DZ l [] 0 [] = _ := aI h
 unfold d147 gV
 rw [hk,hw]
 exact ⟨rfl,by simp⟩
theorem cuI (l : List (Ty.T an)) (hb : l.length <= 1048576) (hv : ∀ x ∈ l,x.2.2.2.2.2.1.length <= 1048576) : d103 l = true /\ Ik l = l := by
 have h := dv (s := pL) (f := fun i => ([],l,((l).length : Int),(i : Int),l.take i,())) (c := 0) (N := l.length) (v' := ([],l,((l).length : Int),(l.length : Int),l.take l.length,())) (fun i hi => by
  have h1 : l[i]? = some l[i] := List.getElem?_eq_getElem hi
  have hw := az (n := i) (by omega)
  have hc := NB _ (hv _ (List.getElem_mem hi))
  have hz : ∀ x : Ty.T an,(l.take i ++ [x]).length * 128 <= 140737488351232 := fun x => by simp only [List.length_append,List.length_cons,List.length_nil,List.length_take]; omega
  rw [di h1]
  simp only [pL,ph,decide_eq_true (show (i : Int) < (l.length : Int) by omega),cond_true,if_pos (show (0 : Int) <= (i : Int) by omega),Int.toNat_natCast,h1,ai,hw,hc,J3,if_pos (hz _)] <;> rfl) (by simp [pL,ph]) l.length 0 (rW ([],l,((l).length : Int),0,[],())) (by omega) (by simp only [rW]; omega)
 have hk : yG [] l ((l).length : Int) 0 [] 0 = true := ax h 0
 have hw : DC [] l ((l).length : Int) 0 [] = _ := aI h
 unfold d103 Ik
 rw [hk,hw]
 exact ⟨rfl,by simp⟩
theorem pa (s : Ty.T y36) (id : Int) (hb : s.1.length <= 1048576) : d285 s id = true /\ iT s id = (match first (fun i => match s.1[i]? with | some x => (x.1 == id) | none => false) 0 s.1.length with | some j => (j : Int) | none => -1) := by
 have h := cv (s := nR) (mk := fun i => (id,0,i,s,())) (fin := fun i => (id,(i : Int),(i : Int),s,())) (p := fun i => match s.1[i]? with | some x => (x.1 == id) | none => false) (N := s.1.length) (fun i hi => by
  have h1 := List.getElem?_eq_getElem hi
  simp only [h1]
  skip
  cases ht : (((s.1[i]).1 == id) : Bool) <;> simp [nR,oy,ai,hi,h1,ht,  az (n := i) (by omega)]) (by simp [nR,oy]) s.1.length 0 (sZ (id,0,0,s,())) (by omega) (by simp [sZ]; omega)
 unfold d285 iT
 revert h
 generalize first _ 0 s.1.length = o
 intro h
 cases o with
 | none =>
  have e0 : iC id 0 0 s 0 = false := ax h 0
  have e1 : iC id 0 0 s 1 = true := ax h 1
  rw [e0,e1]
  exact ⟨rfl,rfl⟩
 | some j =>
  have e0 : iC id 0 0 s 0 = true := ax h 0
  have hw : CG id 0 0 s = _ := aI h
  rw [e0,hw]
  exact ⟨rfl,rfl⟩
theorem ia (s : List (Ty.T ah)) (id : Int) (hb : s.length <= 1048576) : lH s id = true /\ oQ s id = (match first (fun i => match s[i]? with | some x => (x.1 == id) | none => false) 0 s.length with | some j => (j : Int) | none => -1) := by
 have h := cv (s := ij) (mk := fun i => (s,id,0,((s).length : Int),i,())) (fin := fun i => (s,id,(i : Int),((s).length : Int),(i : Int),())) (p := fun i => match s[i]? with | some x => (x.1 == id) | none => false) (N := s.length) (fun i hi => by
  have h1 := List.getElem?_eq_getElem hi
  simp only [h1]
  skip
  cases ht : (((s[i]).1 == id) : Bool) <;> simp [ij,hO,ai,hi,h1,ht,xA,az (n := i) (by omega)]) (by simp [ij,hO]) s.length 0 (kx (s,id,0,((s).length : Int),0,())) (by omega) (by simp [kx]; omega)
 unfold lH oQ
 revert h
 generalize first _ 0 s.length = o
 intro h
 cases o with
 | none =>
  have e0 : dP s id 0 ((s).length : Int) 0 0 = false := ax h 0
  have e1 : dP s id 0 ((s).length : Int) 0 1 = true := ax h 1
  rw [e0,e1]
  exact ⟨rfl,rfl⟩
 | some j =>
  have e0 : dP s id 0 ((s).length : Int) 0 0 = true := ax h 0
  have hw : qX s id 0 ((s).length : Int) 0 = _ := aI h
  rw [e0,hw]
  exact ⟨rfl,rfl⟩
theorem pi (s : Ty.T y36) (id : Int) (hb : s.1.length <= 1048576) : d273 s id = true /\ mj s id = iT s id := by
 have h1 := pa s id hb
 have h2 := ia s.1 id hb
 unfold d273 mj
 rw [h2.1,h2.2,h1.2]
 exact ⟨rfl,rfl⟩
theorem paR (s : Ty.T y36) (id : Int) (hb : s.1.length <= 1048576) : iT s id < 0 ∨ (0 <= iT s id /\ ∃ p,s.1[(iT s id).toNat]? = some p /\ p.1 = id) := by
 rw [(pa s id hb).2]
 cases h : first (fun i => match s.1[i]? with | some x => (x.1 == id) | none => false) 0 s.1.length with
 | none => exact .inl (by decide)
 | some j =>
  obtain ⟨_,hj,hp⟩ := fI h
  have e : s.1[j]? = some s.1[j] := List.getElem?_eq_getElem (by omega)
  refine .inr ⟨by show (0 : Int) <= (j : Int); omega,s.1[j],by show s.1[((j : Nat) : Int).toNat]? = _; rw [Int.toNat_natCast]; exact e,?_⟩
  simp only [e] at hp
  exact eq_of_beq hp
theorem src (s : Ty.T y36) (e : Ty.T y48) (hb : s.1.length <= 1048576) : d304 s e = true /\ d303 s e = true /\ DT s e = DW s e := by
 have h1 := pa s e.2.1 hb
 have h2 := pi s e.2.1 hb
 have key : d304 s e = true := by
  unfold d304 zt
  try simp only [nfs]
  rw [h1.1]
  rcases paR s e.2.1 hb with h | ⟨h,p,hp,_⟩
  ·cases (e.1 != (1 : Int)) <;> simp [h]
  ·cases (e.1 != (1 : Int)) <;> simp [hp,o9,h]
 refine ⟨key,?_,?_⟩
 ·rw [← key]
  unfold d304 d303 zt CT
  try simp only [nfs]
  rw [h1.1,h2.1,h2.2]
 ·unfold DW DT zt CT
  try simp only [nfs]
  rw [h1.1,h2.1,h2.2]
theorem IM (s : Ty.T y36) (x : Int) : kX s x = aY x 0 (IntKind.wrap .i64 (((s.2.1).length : Int) - (1 : Int))) := by
 simp only [kX,aY,v99]
theorem tgt (s : Ty.T y36) (e : Ty.T y48) (hb : s.1.length <= 1048576) : d257 s e = true /\ d235 s e = true /\ pG s e = mV s e := by
 have h1 := pa s e.2.2.1 hb
 have h2 := pi s e.2.2.1 hb
 unfold d257 d235 mV pG
 rw [h1.1,h2.1,h2.2,IM]
 cases (e.2.2.1 == (0 : Int))
 ·rcases paR s e.2.2.1 hb with h | ⟨h,p,hp,_⟩
  ·simp [h]
  ·simp [hp,o9,h]
 ·cases aY e.2.2.2.1 0 (IntKind.wrap .i64 (((s.2.1).length : Int) - (1 : Int))) <;> exact ⟨rfl,rfl,rfl⟩
theorem Zy (s : Ty.T y36) (x : Int) (p : Ty.T y96) (e : Ty.T y48) (hb : s.1.length <= 1048576) : d298 s x p e = true /\ d289 s x p e = true /\ FG s x p e = Gp s x p e := by
 have h := tgt s e hb
 unfold d298 d289 Gp FG DM t289
 try simp only [nfs]
 rw [h.1,h.2.1,h.2.2]
 refine ⟨?_,?_,rfl⟩ <;> simp
theorem Ye (s : Ty.T y36) (p : Ty.T y96) (e : Ty.T y48) (hb : s.1.length <= 1048576) : d299 s p e = true /\ d290 s p e = true /\ BL s p e = Br s p e := by
 have h := src s e hb
 unfold d299 d290 Br BL
 rw [h.1,h.2.1,h.2.2]
 refine ⟨?_,?_,rfl⟩ <;> simp
theorem acd (s : Ty.T y36) (x : Int) (p : Ty.T y96) (e : Ty.T y48) (hb : s.1.length <= 1048576) : d282 s x p e = true /\ d266 s x p e = true /\ Gt s x p e = Gb s x p e := by
 have h1 := Zy s x p e hb
 have h2 := Ye s p e hb
 unfold d282 d266 Gb Gt
 rw [h1.1,h1.2.1,h1.2.2,h2.1,h2.2.1,h2.2.2,MB,JS]
 refine ⟨?_,?_,rfl⟩ <;> simp
theorem gone (e : Ty.T y48) : Ck e = tj e := rfl
theorem UP (e : Ty.T aa) (t : Int) : FI e t = GR e t := rfl
theorem YD (e : Ty.T aa) (v : Ty.T y48) : Gr e v = FV e v := rfl
theorem Li (s : Ty.T y36) (e : Ty.T y48) (hb : s.1.length <= 1048576) : d214 s e = true /\ d182 s e = true /\ Hk s e = wD s e := by
 have h := tgt s e hb
 unfold d214 d182 wD Hk
 rw [h.1,h.2.1,h.2.2]
 cases hc : (mV s e == (-1 : Int)) <;> simp [bne,hc]
def AN (side : Int) (k : Int) (x : Ty.T ah) : Int := cond (x.2.2.2.1 == (2 : Int)) (cond (x.2.2.1 == side) (IntKind.wrap .i64 (k + 1)) k) k
def vt (side : Int) (k : Int) (x : Ty.T ah) : Int := cond (x.2.2.2.1 == (2 : Int)) (cond (x.2.2.1 == side) (cond x.2.2.2.2.2.2.2.2.2.2.2.2 (IntKind.wrap .i64 (k + 1)) k) k) k
theorem U1 (s : Ty.T y36) (side : Int) (hb : s.1.length <= 1048576) : d296 s side = true /\ IX s side = s.1.foldl (AN side) 0 := by
 have h := fold_iter (s := pn) (mk := fun (k : Int) i => (side,0,k,i,s,())) (xs := s.1) (f := (AN side)) (Inv := fun _ _ => True) (fun i x k hx hI => by
  obtain ⟨hi,rfl⟩ := List.getElem?_eq_some_iff.1 hx
  refine ⟨?_,trivial⟩
  skip
  cases c1 : ((s.1[i]).2.2.2.1 == (2 : Int)) <;> cases c2 : ((s.1[i]).2.2.1 == side) <;> cases c3 : (s.1[i]).2.2.2.2.2.2.2.2.2.2.2.2 <;> simp [pn,pR,ai,hi,AN,c1,c2,c3,az (n := i) (by omega)]) (fun k => by simp [pn,pR]) s.1.length 0 0 (sY (side,0,0,0,s,())) (by omega) (by simp [sY]; omega) trivial
 have hk : yB side 0 0 0 s 0 = true := ax h 0
 have hw : CJ side 0 0 0 s = _ := aI h
 unfold d296 IX
 rw [hk,hw]
 exact ⟨rfl,rfl⟩
theorem QY (s : Ty.T y36) (side : Int) (hb : s.1.length <= 1048576) : d297 s side = true /\ KZ s side = s.1.foldl (vt side) 0 := by
 have h := fold_iter (s := pH) (mk := fun (k : Int) i => (side,0,k,i,s,())) (xs := s.1) (f := (vt side)) (Inv := fun _ _ => True) (fun i x k hx hI => by
  obtain ⟨hi,rfl⟩ := List.getElem?_eq_some_iff.1 hx
  refine ⟨?_,trivial⟩
  skip
  cases c1 : ((s.1[i]).2.2.2.1 == (2 : Int)) <;> cases c2 : ((s.1[i]).2.2.1 == side) <;> cases c3 : (s.1[i]).2.2.2.2.2.2.2.2.2.2.2.2 <;> simp [pH,oh,ai,hi,vt,c1,c2,c3,az (n := i) (by omega)]) (fun k => by simp [pH,oh]) s.1.length 0 0 (qN (side,0,0,0,s,())) (by omega) (by simp [qN]; omega) trivial
 have hk : xy side 0 0 0 s 0 = true := ax h 0
 have hw : Ct side 0 0 0 s = _ := aI h
 unfold d297 KZ
 rw [hk,hw]
 exact ⟨rfl,rfl⟩
theorem Te (s : Ty.T y36) (side : Int) (hb : s.1.length <= 1048576) : d288 s side = true /\ GK s side = s.1.foldl (vt side) 0 := by
 have h := fold_iter (s := nL) (mk := fun (k : Int) i => (side,0,k,s.1,((s.1).length : Int),i,())) (xs := s.1) (f := (vt side)) (Inv := fun _ _ => True) (fun i x k hx hI => by
  obtain ⟨hi,rfl⟩ := List.getElem?_eq_some_iff.1 hx
  refine ⟨?_,trivial⟩
  skip
  cases c1 : ((s.1[i]).2.2.2.1 == (2 : Int)) <;> cases c2 : ((s.1[i]).2.2.1 == side) <;> cases c3 : (s.1[i]).2.2.2.2.2.2.2.2.2.2.2.2 <;> simp [nL,ov,ai,hi,vt,c1,c2,c3,az (n := i) (by omega)]) (fun k => by simp [nL,ov]) s.1.length 0 0 (tP (side,0,0,s.1,((s.1).length : Int),0,())) (by omega) (by simp [tP]; omega) trivial
 have hk : zh side 0 0 s.1 ((s.1).length : Int) 0 0 = true := ax h 0
 have hw : CX side 0 0 s.1 ((s.1).length : Int) 0 = _ := aI h
 unfold d288 GK
 rw [hk,hw]
 exact ⟨rfl,rfl⟩
theorem FP (side : Int) (l : List (Ty.T ah)) : ∀ k : Int,0 <= k -> k + l.length <= 9223372036854775807 -> l.foldl (AN side) k = k + (((l.filter fun x => (x.2.2.2.1 == (2 : Int)) && (x.2.2.1 == side)).length : Nat) : Int) := by
 induction l with
 | nil => intro k _ _; simp
 | cons x l ih =>
  intro k h0 hk
  simp only [List.length_cons] at hk
  have e : IntKind.wrap .i64 (k + 1) = k + 1 := aR (by omega) (by omega)
  simp only [List.foldl_cons,AN,List.filter_cons,e]
  cases c1 : (x.2.2.2.1 == (2 : Int)) <;> cases c2 : (x.2.2.1 == side) <;> simp only [cond_true,cond_false,Bool.and_true,Bool.and_false,if_true,Bool.false_eq_true,if_false,List.length_cons]
  ·exact ih k h0 (by omega)
  ·exact ih k h0 (by omega)
  ·exact ih k h0 (by omega)
  ·rw [ih (k + 1) (by omega) (by omega)]; omega
theorem onF (s : Ty.T y36) (side : Int) (hs : ¬ side = -1) (hb : s.1.length <= 1048576) : d287 s side = true /\ F0 s side = (s.1.filter fun x => (x.2.2.2.1 == (2 : Int)) && (x.2.2.1 == side)).map (·.1) := by
 have h := dv (s := pV) (f := fun i => (side,[],s.1,((s.1).length : Int),(i : Int),((s.1.take i).filter fun x => (x.2.2.2.1 == (2 : Int)) && (x.2.2.1 == side)).map (·.1),())) (c := 0) (N := s.1.length) (v' := (side,[],s.1,((s.1).length : Int),(s.1.length : Int),((s.1.take s.1.length).filter fun x => (x.2.2.2.1 == (2 : Int)) && (x.2.2.1 == side)).map (·.1),())) (fun i hi => by
  have h1 : s.1[i]? = some s.1[i] := List.getElem?_eq_getElem hi
  have hw := az (n := i) (by omega)
  have hn : (side == (-1 : Int)) = false := by simpa using hs
  have hz : ∀ x : Int,(@HAppend.hAppend (List Int) (List Int) (List Int) _ (((s.1.take i).filter fun x => (x.2.2.2.1 == (2 : Int)) && (x.2.2.1 == side)).map (·.1)) [x]).length * 8 <= 140737488351232 := fun x => by
   have := List.length_filter_le (fun x : Ty.T ah => (x.2.2.2.1 == (2 : Int)) && (x.2.2.1 == side)) (s.1.take i)
   simp only [List.length_append,List.length_cons,List.length_nil,List.length_map,List.length_take] at this ⊢
   omega
  rw [eQ h1]
  cases c1 : ((s.1[i]).2.2.2.1 == (2 : Int)) <;> cases c2 : ((s.1[i]).2.2.1 == side) <;> simp only [pV,pW,decide_eq_true (show (i : Int) < (s.1.length : Int) by omega),cond_true,cond_false,if_pos (show (0 : Int) <= (i : Int) by omega),Int.toNat_natCast,h1,ai,hw,hn,c1,c2,Bool.and_true,Bool.and_false,if_pos (hz _),List.append_nil,List.map_append,List.map_cons,List.map_nil] <;> rfl) (by simp [pV,pW]) s.1.length 0 (rI (side,[],s.1,((s.1).length : Int),0,[],())) (by omega) (by simp only [rI]; omega)
 have hk : yA side [] s.1 ((s.1).length : Int) 0 [] 0 = true := ax h 0
 have hw : BJ side [] s.1 ((s.1).length : Int) 0 [] = _ := aI h
 unfold d287 F0
 rw [hk,hw]
 exact ⟨rfl,by simp⟩
theorem holds (s : Ty.T y36) (x : Int) (g : Ty.T y98) (hb : s.1.length <= 1048576) (hl : s.2.1.length <= 1048576) : d281 s x g = true /\ d265 s x g = true /\ Da s x g = GD s x g := by
 have h1 := U1 s x hb
 have h2 := QY s x hb
 have h3 := Te s x hb
 unfold d281 d265 GD Da t281
 try simp only [nfs]
 rw [Ee,IM,h1.1,h1.2,h2.1,h2.2,h3.1,h3.2]
 cases sP g
 ·exact ⟨rfl,rfl,rfl⟩
 ·cases hS : aY x 0 (IntKind.wrap .i64 (((s.2.1).length : Int) - (1 : Int)))
  ·exact ⟨rfl,rfl,rfl⟩
  ·rw [aR (by omega) (by omega)] at hS
   simp only [aY] at hS
   have cc : ∀ (p q r : Bool),cond p q r = true ↔ (p = true /\ q = true) ∨ (p = false /\ r = true) := by decide
   have cf : ∀ (p q r : Bool),cond p q r = false ↔ (p = true /\ q = false) ∨ (p = false /\ r = false) := by decide
   simp [cc,cf] at hS
   have h0 : 0 <= x := hS.1
   have hx : ∃ y,s.2.1[x.toNat]? = some y := ⟨s.2.1[x.toNat]'(by omega),List.getElem?_eq_getElem _⟩
   obtain ⟨y,hy⟩ := hx
   have h4 := onF s x (by omega) hb
   have h5 := FP x s.1 0 (by omega) (by omega)
   rw [h4.1,h4.2,hy,h5]
   simp only [o9,qS,h0,decide_true,Bool.true_and,Bool.not_true,cond_false,cond_true,List.length_map,Int.zero_add]
   refine ⟨?_,?_,rfl⟩ <;> simp
theorem bound (a : Int) : eu a = gm a := by
 unfold eu gm
 by_cases h1 : (2147483647 : Int) < a <;> by_cases h2 : a < (-2147483647 : Int) <;> simp only [h1,h2,gt_iff_lt,decide_true,decide_false,if_true,if_false,cond_true,cond_false] <;> (try split) <;> omega
theorem gC (a b : Int) : ic a b = eJ a b := by
 unfold ic eJ
 by_cases h1 : b < a <;> simp only [h1,gt_iff_lt,decide_true,decide_false,if_true,if_false,cond_true,cond_false]
 ·by_cases h2 : b < 0 <;> simp only [h2,decide_true,decide_false,cond_true,cond_false] <;> split <;> omega
 ·by_cases h2 : a < 0 <;> simp only [h2,decide_true,decide_false,cond_true,cond_false] <;> split <;> omega
theorem plus (a b : Int) : FQ a b = Gc a b := by unfold FQ Gc; simp only [bound]
theorem less (a b : Int) : I6 a b = IF a b := by unfold I6 IF; simp only [bound]
theorem TL (a : Int) : Gm a = F9 a := by unfold Gm F9; simp only [bound]
theorem half (a : Int) : FY a = Ga a := by unfold FY Ga; simp only [bound]
theorem kZ (e : Ty.T y48) (n : Int) : Au e n = ym e n := by unfold Au ym; rw [gC]
theorem gK (a : Ty.T aZ) (n : Int) : DY a n = B8 a n := by unfold DY B8; simp only [gC,plus,TL,half]
noncomputable def kY (e x : Ty.T y48) : Ty.T y48 := cond (x.2.2.2.2.1 == (-1 : Int)) (x.1,x.2.1,x.2.2.1,x.2.2.2.1,eJ e.2.2.2.2.1 2147483647,x.2.2.2.2.2) x
theorem KN (a : Ty.T aZ) (h : ¬ a.1 = 9) (e : Ty.T y48) : d254 a e = true /\ xi a e = [] := by
 have hb : (a.1 == (9 : Int)) = false := by simpa using h
 have h : iter jl (iB ([],0,a,e,[],())) ([],0,a,e,[],()) = some (0,([],0,a,e,[],())) := by
  rw [show iB ([],0,a,e,[],()) = (iB ([],0,a,e,[],()) - 1) + 1 by simp only [iB]; omega]
  have : jl ([],0,a,e,[],()) = some (1,([],0,a,e,[],())) := by
   simp only [jl,mr,hb,cond_false]
   cases decide ((0 : Int) < (a.2.2.2.2.2.2.length : Int)) <;> rfl
  rw [iter,this]
  rfl
 have hk : rm [] 0 a e [] 0 = true := ax h 0
 have hw : wB [] 0 a e [] = _ := aI h
 unfold d254 xi
 rw [hk,hw]
 exact ⟨rfl,rfl⟩
theorem M6 (a : Ty.T aZ) (h9 : a.1 = 9) (e : Ty.T y48) (hb : a.2.2.2.2.2.2.length <= 1048576) : d254 a e = true /\ xi a e = a.2.2.2.2.2.2.map (kY e) := by
 have h := dv (s := jl) (f := fun i => ([],(i : Int),a,e,(a.2.2.2.2.2.2.take i).map (kY e),())) (c := 0) (N := a.2.2.2.2.2.2.length) (v' := ([],(a.2.2.2.2.2.2.length : Int),a,e,(a.2.2.2.2.2.2.take a.2.2.2.2.2.2.length).map (kY e),())) (fun i hi => by
  have h1 : a.2.2.2.2.2.2[i]? = some a.2.2.2.2.2.2[i] := List.getElem?_eq_getElem hi
  have hw := az (n := i) (by omega)
  have hz : ∀ x : Ty.T y48,(@HAppend.hAppend (List (Ty.T y48)) (List (Ty.T y48)) (List (Ty.T y48)) _ ((a.2.2.2.2.2.2.take i).map (kY e)) [x]).length * 56 <= 140737488351232 := fun x => by
   simp only [List.length_append,List.length_cons,List.length_nil,List.length_map,List.length_take]
   omega
  rw [di h1,List.map_append,List.map_cons,List.map_nil]
  cases c1 : ((a.2.2.2.2.2.2[i]).2.2.2.2.1 == (-1 : Int)) <;> simp only [jl,mr,decide_eq_true (show (i : Int) < (a.2.2.2.2.2.2.length : Int) by omega),cond_true,cond_false,if_pos (show (0 : Int) <= (i : Int) by omega),Int.toNat_natCast,h1,ai,hw,c1,h9,beq_self_eq_true,if_pos (hz _),kY] <;> rfl) (by simp [jl,mr]) a.2.2.2.2.2.2.length 0 (iB ([],0,a,e,[],())) (by omega) (by simp only [iB]; omega)
 have hk : rm [] 0 a e [] 0 = true := ax h 0
 have hw : wB [] 0 a e [] = _ := aI h
 unfold d254 xi
 rw [hk,hw]
 exact ⟨rfl,by simp⟩
theorem Pl (a : Ty.T aZ) (h : ¬ a.1 = 9) (e : Ty.T y48) : d270 a e = true /\ ud a e = [] := by
 have hb : (a.1 != (9 : Int)) = true := by simpa using h
 unfold d270 ud
 rw [hb]
 exact ⟨rfl,rfl⟩
theorem Rh (a : Ty.T aZ) (h9 : a.1 = 9) (e : Ty.T y48) (hb : a.2.2.2.2.2.2.length <= 1048576) : d270 a e = true /\ ud a e = a.2.2.2.2.2.2.map (kY e) := by
 have hb9 : (a.1 != (9 : Int)) = false := by rw [h9]; rfl
 have h := dv (s := pr) (f := fun i => ([],a.2.2.2.2.2.2,((a.2.2.2.2.2.2).length : Int),(i : Int),e,(a.2.2.2.2.2.2.take i).map (kY e),())) (c := 0) (N := a.2.2.2.2.2.2.length) (v' := ([],a.2.2.2.2.2.2,((a.2.2.2.2.2.2).length : Int),(a.2.2.2.2.2.2.length : Int),e,(a.2.2.2.2.2.2.take a.2.2.2.2.2.2.length).map (kY e),())) (fun i hi => by
  have h1 : a.2.2.2.2.2.2[i]? = some a.2.2.2.2.2.2[i] := List.getElem?_eq_getElem hi
  have hw := az (n := i) (by omega)
  have hz : ∀ x : Ty.T y48,(@HAppend.hAppend (List (Ty.T y48)) (List (Ty.T y48)) (List (Ty.T y48)) _ ((a.2.2.2.2.2.2.take i).map (kY e)) [x]).length * 56 <= 140737488351232 := fun x => by
   simp only [List.length_append,List.length_cons,List.length_nil,List.length_map,List.length_take]
   omega
  rw [di h1,List.map_append,List.map_cons,List.map_nil]
  cases c1 : ((a.2.2.2.2.2.2[i]).2.2.2.2.1 == (-1 : Int)) <;> simp only [pr,oT,decide_eq_true (show (i : Int) < (a.2.2.2.2.2.2.length : Int) by omega),cond_true,cond_false,if_pos (show (0 : Int) <= (i : Int) by omega),Int.toNat_natCast,h1,ai,hw,c1,gC,if_pos (hz _),kY] <;> rfl) (by simp [pr,oT]) a.2.2.2.2.2.2.length 0 (qP ([],a.2.2.2.2.2.2,((a.2.2.2.2.2.2).length : Int),0,e,[],())) (by omega) (by simp only [qP]; omega)
 have hk : yU [] a.2.2.2.2.2.2 ((a.2.2.2.2.2.2).length : Int) 0 e [] 0 = true := ax h 0
 have hw : CK [] a.2.2.2.2.2.2 ((a.2.2.2.2.2.2).length : Int) 0 e [] = _ := aI h
 unfold d270 ud
 rw [hk,hw]
 rw [hb9]
 exact ⟨rfl,by simp⟩
theorem parts (a : Ty.T aZ) (e : Ty.T y48) (hb : a.2.2.2.2.2.2.length <= 1048576) : d254 a e = true /\ d270 a e = true /\ ud a e = xi a e := by
 by_cases h : a.1 = 9
 ·have h1 := M6 a h e hb
  have h2 := Rh a h e hb
  exact ⟨h1.1,h2.1,by rw [h1.2,h2.2]⟩
 ·have h1 := KN a h e
  have h2 := Pl a h e
  exact ⟨h1.1,h2.1,by rw [h1.2,h2.2]⟩
theorem Ae (a : Ty.T aZ) (e : Ty.T y48) (hb : a.2.2.2.2.2.2.length <= 1048576) : (xi a e).length <= a.2.2.2.2.2.2.length := by
 by_cases h : a.1 = 9
 ·rw [(M6 a h e hb).2]; simp
 ·rw [(KN a h e).2]; simp
theorem fits (s : Ty.T y36) (x : Ty.T aa) (e : Ty.T y48) (hb : s.1.length <= 1048576) (hl : s.2.1.length <= 1048576) (hv : x.2.2.2.2.2.2.1.2.2.2.2.2.2.length <= 1048576) : d251 s x e = true /\ d228 s x e = true /\ I0 s x e = pq s x e := by
 have h1 := ki x hv
 have h2 := holds s x.2.1 x.2.2.2.2.2.1 hb hl
 have h3 := acd s x.2.1 x.2.2.2.2.1 e hb
 unfold d251 d228 pq I0
 rw [h1.1,h1.2.1,h1.2.2,UP,YD,h2.1,h2.2.1,h2.2.2,h3.1,h3.2.1,h3.2.2]
 refine ⟨?_,?_,rfl⟩ <;> simp
theorem Jz (s : Ty.T y36) (x : Ty.T aa) (e : Ty.T y48) (hv : x.2.2.2.2.2.2.1.2.2.2.2.2.2.length <= 1048576) (h : pq s x e = true) : iu x = true := by
 unfold pq at h
 rw [(ki x hv).1] at h
 cases hc : iu x with
 | true => rfl
 | false => rw [hc] at h; cases h
theorem EY (x : Ty.T aa) (h : iu x = true) : @LE.le Int _ 0 x.2.2.2.1 /\ @LE.le Int _ x.2.2.2.1 4 := by
 cases hc : aY x.2.2.2.1 0 4 with
 | true =>
  simp only [aY] at hc
  have cc : ∀ (p q r : Bool),cond p q r = true ↔ (p = true /\ q = true) ∨ (p = false /\ r = true) := by decide
  have cf : ∀ (p q r : Bool),cond p q r = false ↔ (p = true /\ q = false) ∨ (p = false /\ r = false) := by decide
  simpa [cc,cf] using hc
 | false =>
  exfalso
  simp only [iu,t200,hc,nfs] at h
  cases h1 : aY x.1 1 99 <;> cases h2 : aY x.2.1 0 2 <;> cases h3 : aY x.2.2.1 0 99 <;> simp [h1,h2,h3] at h
theorem ea (l : List (Ty.T aa)) (id : Int) (hb : l.length <= 1048576) : d211 l id = true /\ jB l id = (match first (fun i => match l[i]? with | some x => (x.1 == id) | none => false) 0 l.length with | some j => (j : Int) | none => -1) := by
 have h := cv (s := pE) (mk := fun i => (l,id,0,i,())) (fin := fun i => (l,id,(i : Int),(i : Int),())) (p := fun i => match l[i]? with | some x => (x.1 == id) | none => false) (N := l.length) (fun i hi => by
  have h1 := List.getElem?_eq_getElem hi
  simp only [h1]
  skip
  cases ht : (((l[i]).1 == id) : Bool) <;> simp [pE,o7,ai,hi,h1,ht,  az (n := i) (by omega)]) (by simp [pE,o7]) l.length 0 (ra (l,id,0,0,())) (by omega) (by simp [ra]; omega)
 unfold d211 jB
 revert h
 generalize first _ 0 l.length = o
 intro h
 cases o with
 | none =>
  have e0 : iH l id 0 0 0 = false := ax h 0
  have e1 : iH l id 0 0 1 = true := ax h 1
  rw [e0,e1]
  exact ⟨rfl,rfl⟩
 | some j =>
  have e0 : iH l id 0 0 0 = true := ax h 0
  have hw : DL l id 0 0 = _ := aI h
  rw [e0,hw]
  exact ⟨rfl,rfl⟩
theorem eia (l : List (Ty.T aa)) (id : Int) (hb : l.length <= 1048576) : lP l id = true /\ ox l id = (match first (fun i => match l[i]? with | some x => (x.1 == id) | none => false) 0 l.length with | some j => (j : Int) | none => -1) := by
 have h := cv (s := hX) (mk := fun i => (l,id,0,((l).length : Int),i,())) (fin := fun i => (l,id,(i : Int),((l).length : Int),(i : Int),())) (p := fun i => match l[i]? with | some x => (x.1 == id) | none => false) (N := l.length) (fun i hi => by
  have h1 := List.getElem?_eq_getElem hi
  simp only [h1]
  skip
  cases ht : (((l[i]).1 == id) : Bool) <;> simp [hX,gW,ai,hi,h1,ht,xm,az (n := i) (by omega)]) (by simp [hX,gW]) l.length 0 (kA (l,id,0,((l).length : Int),0,())) (by omega) (by simp [kA]; omega)
 unfold lP ox
 revert h
 generalize first _ 0 l.length = o
 intro h
 cases o with
 | none =>
  have e0 : ep l id 0 ((l).length : Int) 0 0 = false := ax h 0
  have e1 : ep l id 0 ((l).length : Int) 0 1 = true := ax h 1
  rw [e0,e1]
  exact ⟨rfl,rfl⟩
 | some j =>
  have e0 : ep l id 0 ((l).length : Int) 0 0 = true := ax h 0
  have hw : ry l id 0 ((l).length : Int) 0 = _ := aI h
  rw [e0,hw]
  exact ⟨rfl,rfl⟩
theorem ei (l : List (Ty.T aa)) (id : Int) (hb : l.length <= 1048576) : d181 l id = true /\ uf l id = jB l id := by
 have h1 := ea l id hb
 have h2 := eia l id hb
 unfold d181 uf
 rw [h2.1,h2.2,h1.2]
 exact ⟨rfl,rfl⟩
theorem op5 {c : Int} (h : c <= 4) : ¬ c > 5 /\ c < 5 := by omega
theorem acC {c b : Int} (h1 : c <= 4) (h2 : b = 5) (h4 : ¬ c < b) : False := by omega
theorem Zw {c b : Int} (h : c > b) : (c == b) = false := by simp; omega
theorem QB {c b : Int} (h1 : ¬ c > b) (h2 : ¬ c < b) : (c == b) = true := by simp; omega
noncomputable def gH (s : Ty.T y36) (e : Ty.T y48) (u : List (Ty.T (.int .i64))) (p : Int × List (Ty.T (.int .i64))) (x : Ty.T aa) : Int × List (Ty.T (.int .i64)) :=
 cond (u.any fun y => y == x.1) p (cond (!pq s x e) p (cond (decide (x.2.2.2.1 > p.1)) p (cond (decide (x.2.2.2.1 < p.1)) (x.2.2.2.1,[x.1]) (p.1,p.2 ++ [x.1]))))
structure OptI (l : List (Ty.T aa)) (u : List (Ty.T (.int .i64))) (n : Nat) (p : Int × List (Ty.T (.int .i64))) : Prop where
 len : p.2.length <= n
 top : (p.2 = [] /\ p.1 = 5) ∨ (p.2.length ≠ 0 /\ p.1 <= 4)
 mem : ∀ y ∈ p.2,(∃ x ∈ l,x.1 = y) /\ (u.any fun z => z == y) = false
theorem LX {s : Ty.T y36} {e : Ty.T y48} {l : List (Ty.T aa)} {u : List (Ty.T (.int .i64))} {n : Nat} {p : Int × List (Ty.T (.int .i64))} {x : Ty.T aa} (hx : x ∈ l) (hv : x.2.2.2.2.2.2.1.2.2.2.2.2.2.length <= 1048576) (h : OptI l u n p) : OptI l u (n + 1) (gH s e u p x) := by
 unfold gH
 cases h1 : u.any fun y => y == x.1
 ·cases h2 : pq s x e
  ·exact ⟨Nat.le_succ_of_le h.len,h.top,h.mem⟩
  ·have hc := EY x (Jz s x e hv h2)
   by_cases h3 : x.2.2.2.1 > p.1
   ·simp only [h3,decide_true,Bool.not_true,cond_false,cond_true]
    exact ⟨Nat.le_succ_of_le h.len,h.top,h.mem⟩
   ·by_cases h4 : x.2.2.2.1 < p.1
    ·simp only [h3,h4,decide_true,decide_false,Bool.not_true,cond_false,cond_true]
     refine ⟨by simp,.inr ⟨by simp,by simpa using hc.2⟩,fun y hy => ?_⟩
     rw [List.mem_singleton] at hy
     subst hy
     exact ⟨⟨x,hx,rfl⟩,h1⟩
    ·simp only [h3,h4,decide_false,Bool.not_true,cond_false]
     refine ⟨by simp only [List.length_append,List.length_cons,List.length_nil]; have := h.len; omega,.inr ⟨by simp,?_⟩,fun y hy => ?_⟩
     ·show p.1 <= 4
      rcases h.top with h5 | h5
      ·exact (acC hc.2 h5.2 h4).elim
      ·exact h5.2
     ·rcases List.mem_append.1 hy with hy | hy
      ·exact h.mem y hy
      ·rw [List.mem_singleton] at hy
       subst hy
       exact ⟨⟨x,hx,rfl⟩,h1⟩
 ·exact ⟨Nat.le_succ_of_le h.len,h.top,h.mem⟩
theorem xh (s : Ty.T y36) (e : Ty.T y48) (l : List (Ty.T aa)) (u : List (Ty.T (.int .i64))) (hv : ∀ x ∈ l,x.2.2.2.2.2.2.1.2.2.2.2.2.2.length <= 1048576) : ∀ n,n <= l.length -> OptI l u n ((l.take n).foldl (gH s e u) (5,[]))
 | 0,_ => ⟨by simp,.inl ⟨rfl,rfl⟩,fun y hy => by cases hy⟩
 | n + 1,h => by
  rw [lV (List.getElem?_eq_getElem (l := l) (i := n) (by omega))]
  exact LX (List.getElem_mem _) (hv _ (List.getElem_mem _)) (xh s e l u hv n (by omega))
theorem Pv (s : Ty.T y36) (l : List (Ty.T aa)) (e : Ty.T y48) (u : List (Ty.T (.int .i64))) (hb : s.1.length <= 1048576) (hs : s.2.1.length <= 1048576) (hn : l.length <= 1048576) (hu : u.length <= 1048576) (hv : ∀ x ∈ l,x.2.2.2.2.2.2.1.2.2.2.2.2.2.length <= 1048576) : d208 s l e u = true /\ dY s l e u = (l.foldl (gH s e u) (5,[])).2 := by
 have h := dv (s := oM) (f := fun i => (l,u,[],((l.take i).foldl (gH s e u) (5,[])).1,(i : Int),s,e,((l.take i).foldl (gH s e u) (5,[])).2,())) (c := 0) (N := l.length) (v' := (l,u,[],((l.take l.length).foldl (gH s e u) (5,[])).1,(l.length : Int),s,e,((l.take l.length).foldl (gH s e u) (5,[])).2,())) (fun i hi => by
  have h1 : l[i]? = some l[i] := List.getElem?_eq_getElem hi
  have hw := az (n := i) (by omega)
  have hf := fits s l[i] e hb hs (hv _ (List.getElem_mem hi))
  have hh := TR u (l[i]).1 hu
  have hI := xh s e l u hv i (by omega)
  rw [lV h1]
  revert hI
  generalize (l.take i).foldl (gH s e u) (5,[]) = p
  obtain ⟨b,o⟩ := p
  intro hI
  have hz : ∀ x : Int,(@HAppend.hAppend (List Int) (List Int) (List Int) _ o [x]).length * 8 <= 140737488351232 := fun x => by
   have : o.length <= i := hI.len
   simp only [List.length_append,List.length_cons,List.length_nil]
   omega
  have hz2 : (o.length + 1) * 8 <= 140737488351232 := by
   have : o.length <= i := hI.len
   omega
  cases c1 : u.any fun y => y == (l[i]).1 <;> cases c2 : pq s l[i] e <;> by_cases c3 : (l[i]).2.2.2.1 > b <;> by_cases c4 : (l[i]).2.2.2.1 < b <;> simp [oM,pU,hi,h1,ai,hw,hh.1,hh.2,hf.1,hf.2.1,hf.2.2,c1,c2,c3,c4,gH,hz2]) (by simp [oM,pU]) l.length 0 (sb (l,u,[],5,0,s,e,[],())) (by omega) (by simp only [sb]; omega)
 have hk : xd l u [] 5 0 s e [] 0 = true := ax h 0
 have hw : CB l u [] 5 0 s e [] = _ := aI h
 unfold d208 dY
 rw [hk,hw]
 exact ⟨rfl,by simp⟩
def Mf (p : Int × List (Ty.T (.int .i64))) : Int := match p.2 with | [] => 0 | _ :: _ => p.1
theorem WE (s : Ty.T y36) (l : List (Ty.T aa)) (e : Ty.T y48) (u : List (Ty.T (.int .i64))) (hb : s.1.length <= 1048576) (hs : s.2.1.length <= 1048576) (hn : l.length <= 1048576) (hu : u.length <= 1048576) (hv : ∀ x ∈ l,x.2.2.2.2.2.2.1.2.2.2.2.2.2.length <= 1048576) : d178 s l e u = true /\ bM s l e u = (l.foldl (gH s e u) (5,[])).2 := by
 have h := dv (s := mn) (f := fun i => (u,[],(Mf ((l.take i).foldl (gH s e u) (5,[]))),l,((l).length : Int),(i : Int),s,e,((l.take i).foldl (gH s e u) (5,[])).2,())) (c := 0) (N := l.length) (v' := (u,[],(Mf ((l.take l.length).foldl (gH s e u) (5,[]))),l,((l).length : Int),(l.length : Int),s,e,((l.take l.length).foldl (gH s e u) (5,[])).2,())) (fun i hi => by
  have h1 : l[i]? = some l[i] := List.getElem?_eq_getElem hi
  have hw := az (n := i) (by omega)
  have hf := fits s l[i] e hb hs (hv _ (List.getElem_mem hi))
  have hh := aa8 u (l[i]).1 hu
  have hI := xh s e l u hv i (by omega)
  rw [lV h1]
  revert hI
  generalize (l.take i).foldl (gH s e u) (5,[]) = p
  obtain ⟨b,o⟩ := p
  intro hI
  have hz : ∀ x : Int,(@HAppend.hAppend (List Int) (List Int) (List Int) _ o [x]).length * 8 <= 140737488351232 := fun x => by
   have : o.length <= i := hI.len
   simp only [List.length_append,List.length_cons,List.length_nil]
   omega
  have hz2 : (o.length + 1) * 8 <= 140737488351232 := by
   have : o.length <= i := hI.len
   omega
  have hcl : pq s l[i] e = true -> (l[i]).2.2.2.1 <= 4 := fun h => (EY _ (Jz s _ e (hv _ (List.getElem_mem hi)) h)).2
  cases o with
  | nil =>
   have h5 : b = 5 := by
    rcases hI.top with h | h
    ·exact h.2
    ·exact absurd rfl h.1
   subst h5
   cases c1 : u.any fun y => y == (l[i]).1 <;> cases c2 : pq s l[i] e <;> try (have c3 := hcl c2)
   all_goals simp [mn,lX,hi,h1,ai,hw,hh.1,hh.2,hf.1,hf.2.1,hf.2.2,c1,c2,gH,Mf]
   all_goals simp [(op5 (hcl c2)).1,(op5 (hcl c2)).2]
  | cons y o =>
   have hl : ((((y :: o).length : Nat) : Int) == (0 : Int)) = false := by simp; omega
   have hl2 : (((o.length : Nat) : Int) + 1 == (0 : Int)) = false := by simp; omega
   cases c1 : u.any fun y => y == (l[i]).1 <;> cases c2 : pq s l[i] e <;> by_cases c3 : (l[i]).2.2.2.1 > b <;> by_cases c4 : (l[i]).2.2.2.1 < b <;> try exact (Int.lt_asymm c3 c4).elim
   all_goals (try (have c5 := Zw c3))
   all_goals (try (have c5 := QB c3 c4))
   all_goals simp [mn,lX,hi,h1,ai,hw,hh.1,hh.2,hf.1,hf.2.1,hf.2.2,c1,c2,c3,c4,gH,Mf,hl,hl2]
   all_goals try simp [hl2,c5]
   all_goals try (simp only [List.length_cons] at hz2; simp [hz2])
   all_goals try omega) (by simp [mn,lX]) l.length 0 (sU (u,[],0,l,((l).length : Int),0,s,e,[],())) (by omega) (by simp only [sU]; omega)
 have hk : yC u [] 0 l ((l).length : Int) 0 s e [] 0 = true := ax h 0
 have hw : BZ u [] 0 l ((l).length : Int) 0 s e [] = _ := aI h
 unfold d178 bM
 rw [hk,hw]
 exact ⟨rfl,by simp⟩
theorem options (s : Ty.T y36) (l : List (Ty.T aa)) (e : Ty.T y48) (u : List (Ty.T (.int .i64))) (hb : s.1.length <= 1048576) (hs : s.2.1.length <= 1048576) (hn : l.length <= 1048576) (hu : u.length <= 1048576) (hv : ∀ x ∈ l,x.2.2.2.2.2.2.1.2.2.2.2.2.2.length <= 1048576) : d208 s l e u = true /\ d178 s l e u = true /\ bM s l e u = dY s l e u /\ (dY s l e u).length <= l.length /\ (∀ y ∈ dY s l e u,(∃ x ∈ l,x.1 = y) /\ (u.any fun z => z == y) = false) := by
 have h1 := Pv s l e u hb hs hn hu hv
 have h2 := WE s l e u hb hs hn hu hv
 have h3 := xh s e l u hv l.length (Nat.le_refl _)
 rw [List.take_length] at h3
 rw [h1.2,h2.2]
 exact ⟨h1.1,h2.1,rfl,h3.len,h3.mem⟩
theorem dix (l : List (Ty.T y48)) (hb : l.length <= 1048576) : tq l = true /\ aS l = (match first (fun i => match l[i]? with | some x => (ga x) | none => false) 0 l.length with | some j => (j : Int) | none => -1) := by
 have h := cv (s := g9) (mk := fun i => (l,0,((l).length : Int),i,())) (fin := fun i => (l,(i : Int),((l).length : Int),(i : Int),())) (p := fun i => match l[i]? with | some x => (ga x) | none => false) (N := l.length) (fun i hi => by
  have h1 := List.getElem?_eq_getElem hi
  simp only [h1]
  skip
  cases ht : ((ga l[i]) : Bool) <;> simp [g9,gY,ai,hi,h1,ht,  az (n := i) (by omega)]) (by simp [g9,gY]) l.length 0 (jX (l,0,((l).length : Int),0,())) (by omega) (by simp [jX]; omega)
 unfold tq aS
 revert h
 generalize first _ 0 l.length = o
 intro h
 cases o with
 | none =>
  have e0 : eg l 0 ((l).length : Int) 0 0 = false := ax h 0
  have e1 : eg l 0 ((l).length : Int) 0 1 = true := ax h 1
  rw [e0,e1]
  exact ⟨rfl,rfl⟩
 | some j =>
  have e0 : eg l 0 ((l).length : Int) 0 0 = true := ax h 0
  have hw : tR l 0 ((l).length : Int) 0 = _ := aI h
  rw [e0,hw]
  exact ⟨rfl,rfl⟩
theorem Zz (l : List (Ty.T y48)) (hb : l.length <= 1048576) : rO l = true /\ tL l = l.filter fun x => !ga x := by
 have h0 := dix l hb
 cases hf : first (fun i => match l[i]? with | some x => (ga x) | none => false) 0 l.length with
 | none =>
  rw [hf] at h0
  have hk := vr (p := ga) (xs := l) (j := l.length) (fun t x ht hx => by have := iA hf t (by omega) (by omega); simpa only [hx] using this) (Nat.le_refl _)
  rw [List.take_length] at hk
  unfold rO tL lF
  try simp only [nfs]
  rw [h0.1,h0.2,← hk]
  exact ⟨rfl,rfl⟩
 | some j =>
  rw [hf] at h0
  obtain ⟨_,hj,hp⟩ := fI hf
  have hk := vr (p := ga) (xs := l) (j := j) (fun t x ht hx => by have := vw hf t (by omega) (by omega); simpa only [hx] using this) (by omega)
  have hx : l[j]? = some l[j] := List.getElem?_eq_getElem (by omega)
  simp only [hx] at hp
  have hw1 := az (n := j) (by omega)
  have h := sS (s := fX) (mk := fun k : List (Ty.T y48) × Nat × Nat => ([],(k.2.1 : Int),(k.2.2 : Int),k.1,()))
   (Inv := fun t k => k.2.2 = t /\ k.2.1 < t /\ k.1.length = l.length /\ k.1.take k.2.1 = (l.take t).filter (fun x => !ga x) /\ ∀ r,t <= r -> k.1[r]? = l[r]?)
   (Q := fun v => ∃ (i : Nat) (m : List (Ty.T y48)),v = ([],(i : Int),(l.length : Int),m,()) /\ i <= m.length /\ m.take i = l.filter fun x => !ga x)
   (c := 0) (N := l.length) (fun t k ht hI => by
    obtain ⟨m,i,r⟩ := k
    obtain ⟨hr,hi,hl,htk,hd⟩ := hI
    dsimp only at hr hi hl htk hd
    subst hr
    have hx : l[r]? = some l[r] := List.getElem?_eq_getElem ht
    have hm : m[r]? = some l[r] := by rw [hd r (Nat.le_refl _),hx]
    obtain ⟨y,hy⟩ : ∃ y,m[i]? = some y := ⟨m[i]'(by omega),List.getElem?_eq_getElem _⟩
    have g1 : (r : Int) < (m.length : Int) := by omega
    have g2 : (i : Int) < (m.length : Int) := by omega
    have g3 := az (n := r) (by omega)
    have g4 := az (n := i) (by omega)
    have g5 : (0 : Int) <= (r : Int) := by omega
    have g6 : (0 : Int) <= (i : Int) := by omega
    cases hq : ga l[r] with
    | false =>
     have h := GL (q := fun x => !ga x) hx hi hl htk hd (by rw [hq]; rfl)
     refine ⟨(m.set i l[r],i + 1,r + 1),?_,rfl,h⟩
     simp only [fX,fW,decide_eq_true g1,cond_true,if_pos g5,if_pos g1,Int.toNat_natCast,hm,ai,hq,Bool.not_false,if_pos g6,if_pos g2,hy,g3,g4]
    | true =>
     have h := Gu (q := fun x => !ga x) hx hi htk hd (by rw [hq]; rfl)
     refine ⟨(m,i,r + 1),?_,rfl,h.1,hl,h.2⟩
     simp only [fX,fW,decide_eq_true g1,cond_true,if_pos g5,if_pos g1,Int.toNat_natCast,hm,ai,hq,Bool.not_true,cond_false,g3])
   (fun k hI => by
    obtain ⟨m,i,r⟩ := k
    obtain ⟨hr,hi,hl,htk,hd⟩ := hI
    dsimp only at hr hi hl htk hd
    subst hr
    refine ⟨_,?_,i,m,rfl,by omega,by rw [htk,List.take_length]⟩
    have g1 : ¬ ((l.length : Int) < (m.length : Int)) := by omega
    simp only [fX,fW,decide_eq_false g1,cond_false])
   (l.length - (j + 1)) (j + 1) (jK ([],(j : Int),((j + 1 : Nat) : Int),l,())) (l,j,j + 1) (by omega) (by simp only [jK]; omega) ⟨rfl,Nat.lt_succ_self j,rfl,by rw [eQ hx,← hk]; simp [hp],fun _ _ => rfl⟩
  obtain ⟨v',hv,i,m,rfl,hi,hm⟩ := h
  have hkk : zB [] (j : Int) ((j + 1 : Nat) : Int) l 0 = true := ax hv 0
  have hww : bq [] (j : Int) ((j + 1 : Nat) : Int) l = _ := aI hv
  have e1 : (((j : Nat) : Int) == (-1 : Int)) = false := by simp
  have e2 : ∀ R D : List (Ty.T y48),((m.take i ++ R ++ D).take i) = m.take i := fun R D => by rw [List.append_assoc,List.take_append_of_le_length (by simp; omega),List.take_take,Nat.min_self]
  have g0 : (0 : Int) <= (i : Int) := by omega
  have g1 : (i : Int) <= (m.length : Int) := by omega
  have g2 : ∀ R D : List (Ty.T y48),(i : Int) <= ((m.take i ++ R ++ D).length : Int) := fun R D => by simp only [List.length_append,List.length_take]; omega
  unfold rO tL lF
  try simp only [nfs]
  rw [h0.1,h0.2]
  simp only [e1,hw1,hkk,hww,cond_true,cond_false,if_pos g0,if_pos g1,if_pos (g2 _ _),decide_eq_true g0,decide_eq_true g1,decide_eq_true (g2 _ _),Bool.and_true,Int.toNat_natCast,e2]
  rw [hm]
  exact ⟨trivial,rfl⟩
theorem Us (e : Ty.T aa) (n : Int) (hb : e.2.2.2.2.2.2.1.2.2.2.2.2.2.length <= 1048576) : d256 e n = true /\ d232 e n = true /\ Gw e n = zn e n := by
 have h1 := cpS e hb
 have h2 := cpI e hb
 unfold d256 d232 zn Gw t256 t232
 try simp only [nfs]
 rw [h1.1,h1.2,h2.1,h2.2]
 simp only [cond_true,gC,less]
 cases (e.2.2.2.2.2.2.1.1 == (2 : Int)) <;> cases decide (e.2.2.2.2.2.2.2.2 > (0 : Int)) <;> simp
theorem SG (i1 i2 i3 i4 : Int) (p : Ty.T y96) (g : Ty.T y98) (k n po t z : Int) (b : Bool) (l : List (Ty.T y48)) (u lf : Int) (v : Ty.T y48) (e : Ty.T aa) (he : e = (i1,i2,i3,i4,p,g,(k,n,po,t,z,b,l),u,lf)) (hb : l.length <= 1048576) : ec ([],0,0,e.2.2.2.2.2.2.1.1,(e.2.2.2.2.2.2.1.1 == (1 : Int)),e,v,(0,0,0,0,(0,0,0,0,0,0,0),(0,0),(0,0,0,0,0,false,[]),0,0),[],()) = true /\ d229 e v = true /\ gP e v = bJ ([],0,0,e.2.2.2.2.2.2.1.1,(e.2.2.2.2.2.2.1.1 == (1 : Int)),e,v,(0,0,0,0,(0,0,0,0,0,0,0),(0,0),(0,0,0,0,0,false,[]),0,0),[],()) := by
 have hp := parts (k,n,po,t,z,b,l) v hb
 subst he
 by_cases k1 : k = 1
 ·subst k1
  simp [ec,bJ,cN,gP,t229,d229,nO,t255,gC,kZ,gK,hp.1,hp.2.1,hp.2.2,dq,nfs]
  try (cases (v.1 == (1 : Int)) <;> simp)
 by_cases k2 : k = 2
 ·subst k2
  simp [ec,bJ,cN,gP,t229,d229,nO,t255,gC,kZ,gK,hp.1,hp.2.1,hp.2.2,dq,nfs]
  try (skip)
 by_cases k3 : k = 3
 ·subst k3
  simp [ec,bJ,cN,gP,t229,d229,nO,t255,gC,kZ,gK,hp.1,hp.2.1,hp.2.2,dq,nfs]
  try (skip)
 by_cases k4 : k = 4
 ·subst k4
  simp [ec,bJ,cN,gP,t229,d229,nO,t255,gC,kZ,gK,hp.1,hp.2.1,hp.2.2,dq,nfs]
  try (skip)
 by_cases k5 : k = 5
 ·subst k5
  simp [ec,bJ,cN,gP,t229,d229,nO,t255,gC,kZ,gK,hp.1,hp.2.1,hp.2.2,dq,nfs]
  try (skip)
 by_cases k6 : k = 6
 ·subst k6
  simp [ec,bJ,cN,gP,t229,d229,nO,t255,gC,kZ,gK,hp.1,hp.2.1,hp.2.2,dq,nfs]
  try (skip)
 by_cases k7 : k = 7
 ·subst k7
  simp [ec,bJ,cN,gP,t229,d229,nO,t255,gC,kZ,gK,hp.1,hp.2.1,hp.2.2,dq,nfs]
  try (cases (z != (2 : Int)) <;> simp)
 by_cases k8 : k = 8
 ·subst k8
  simp [ec,bJ,cN,gP,t229,d229,nO,t255,gC,kZ,gK,hp.1,hp.2.1,hp.2.2,dq,nfs]
  try (cases (v.2.2.2.2.2.1 == (2 : Int)) <;> cases v.2.2.2.2.2.2 <;> simp)
 by_cases k9 : k = 9
 ·subst k9
  simp [ec,bJ,cN,gP,t229,d229,nO,t255,gC,kZ,gK,hp.1,hp.2.1,hp.2.2,dq,nfs]
  try (skip)
 have j1 : (k == (1 : Int)) = false := by simpa using k1
 have j2 : (k == (2 : Int)) = false := by simpa using k2
 have j3 : (k == (3 : Int)) = false := by simpa using k3
 have j4 : (k == (4 : Int)) = false := by simpa using k4
 have j5 : (k == (5 : Int)) = false := by simpa using k5
 have j6 : (k == (6 : Int)) = false := by simpa using k6
 have j7 : (k == (7 : Int)) = false := by simpa using k7
 have j8 : (k == (8 : Int)) = false := by simpa using k8
 have j9 : (k == (9 : Int)) = false := by simpa using k9
 simp [ec,bJ,cN,gP,t229,d229,nO,t255,gC,kZ,gK,hp.1,hp.2.1,hp.2.2,dq,j1,j2,j3,j4,j5,j6,j7,j8,j9,nfs]
theorem ZV (e : Ty.T aa) (v : Ty.T y48) (hb : e.2.2.2.2.2.2.1.2.2.2.2.2.2.length <= 1048576) : ec ([],0,0,e.2.2.2.2.2.2.1.1,(e.2.2.2.2.2.2.1.1 == (1 : Int)),e,v,(0,0,0,0,(0,0,0,0,0,0,0),(0,0),(0,0,0,0,0,false,[]),0,0),[],()) = true /\ d229 e v = true /\ gP e v = bJ ([],0,0,e.2.2.2.2.2.2.1.1,(e.2.2.2.2.2.2.1.1 == (1 : Int)),e,v,(0,0,0,0,(0,0,0,0,0,0,0),(0,0),(0,0,0,0,0,false,[]),0,0),[],()) := by
 obtain ⟨i1,i2,i3,i4,p,g,⟨k,n,po,t,z,b,l⟩,u,lf⟩ := e
 exact SG i1 i2 i3 i4 p g k n po t z b l u lf v _ rfl hb
theorem D4 (e : Ty.T aa) (v : Ty.T y48) (hb : e.2.2.2.2.2.2.1.2.2.2.2.2.2.length <= 1048576) : (bJ ([],0,0,e.2.2.2.2.2.2.1.1,(e.2.2.2.2.2.2.1.1 == (1 : Int)),e,v,(0,0,0,0,(0,0,0,0,0,0,0),(0,0),(0,0,0,0,0,false,[]),0,0),[],())).2.length <= 1048576 := by
 have hp := parts e.2.2.2.2.2.2.1 v hb
 have hl := Ae e.2.2.2.2.2.2.1 v hb
 simp only [bJ,cN,hp.1]
 cases h1 : (e.2.2.2.2.2.2.1.1 == (1 : Int)) <;> cases h2 : (v.1 == (1 : Int)) <;> cases h3 : (e.2.2.2.2.2.2.1.1 == (2 : Int)) <;> cases h4 : (e.2.2.2.2.2.2.1.1 == (9 : Int)) <;> simp <;> omega
theorem FU (n po t z : Int) (b : Bool) (l : List (Ty.T y48)) (h : oL ((9,n,po,t,z,b,l) : Ty.T aZ) = true) : l.length <= 3 := by
 rcases Nat.lt_or_ge 3 l.length with hl | hl
 ·exfalso
  have hf : v99 (l.length : Int) 1 3 = false := by simp [v99]; omega
  simp [oL,t225,sT,mu,sn,ka,sh,hf,nfs] at h
 ·exact hl
theorem Mg (e : Ty.T aa) (hb : e.2.2.2.2.2.2.1.2.2.2.2.2.2.length <= 1048576) (h : iu e = true) (h9 : e.2.2.2.2.2.2.1.1 = 9) : e.2.2.2.2.2.2.1.2.2.2.2.2.2.length <= 3 := by
 rw [← (ki e hb).2.2] at h
 have ha : oL e.2.2.2.2.2.2.1 = true := by
  cases hc : oL e.2.2.2.2.2.2.1 with
  | true => rfl
  | false =>
   exfalso
   have hd := (NP e.2.2.2.2.2.2.1 hb).2.1
   simp [um,t176,hc,hd,nfs] at h
 obtain ⟨i1,i2,i3,i4,p,g,⟨k,n,po,t,z,b,l⟩,u,lf⟩ := e
 dsimp only at h9 ha ⊢
 subst h9
 exact FU n po t z b l ha
theorem LC (e : Ty.T aa) (v : Ty.T y48) (hb : e.2.2.2.2.2.2.1.2.2.2.2.2.2.length <= 1048576) (h : iu e = true) : (bJ ([],0,0,e.2.2.2.2.2.2.1.1,(e.2.2.2.2.2.2.1.1 == (1 : Int)),e,v,(0,0,0,0,(0,0,0,0,0,0,0),(0,0),(0,0,0,0,0,false,[]),0,0),[],())).2.length <= 3 := by
 have hp := parts e.2.2.2.2.2.2.1 v hb
 have hl := Ae e.2.2.2.2.2.2.1 v hb
 by_cases h9 : e.2.2.2.2.2.2.1.1 = 9
 ·have h3 := Mg e hb h h9
  simp only [bJ,cN,hp.1,h9]
  simp
  omega
 ·have h4 : (e.2.2.2.2.2.2.1.1 == (9 : Int)) = false := by simpa using h9
  simp only [bJ,cN,hp.1,h4]
  cases h1 : (e.2.2.2.2.2.2.1.1 == (1 : Int)) <;> cases h2 : (v.1 == (1 : Int)) <;> cases h3 : (e.2.2.2.2.2.2.1.1 == (2 : Int)) <;> simp
theorem TU (x : Ty.T y48) : (!ga x) = cond (dO x) (!tj x) false := by
 unfold ga
 rw [JS,gone]
 cases dO x <;> rfl
theorem LR (e : Ty.T aa) (r : Int) (l : List (Ty.T y48)) (hb : l.length <= 1048576) : iter ly (sD ([],0,r,0,e,(0,0,0,0,(0,0,0,0,0,0,0),(0,0),(0,0,0,0,0,false,[]),0,0),l,[],())) ([],0,r,0,e,(0,0,0,0,(0,0,0,0,0,0,0),(0,0),(0,0,0,0,0,false,[]),0,0),l,[],()) = some (0,([],0,r,(l.length : Int),e,(0,0,0,0,(0,0,0,0,0,0,0),(0,0),(0,0,0,0,0,false,[]),0,0),l,(l.filter fun x => !ga x),())) := by
 refine dv (s := ly) (f := fun i => ([],0,r,(i : Int),e,(0,0,0,0,(0,0,0,0,0,0,0),(0,0),(0,0,0,0,0,false,[]),0,0),l,((l.take i).filter fun x => !ga x),())) (c := 0) (N := l.length) (fun i hi => ?_) ?_ l.length 0 _ (by omega) (by simp only [sD]; omega)
 ·have h1 : l[i]? = some l[i] := List.getElem?_eq_getElem hi
  have hw := az (n := i) (by omega)
  have hz : ∀ x : Ty.T y48,((l.take i).filter (fun x => !ga x) ++ [x]).length * 56 <= 140737488351232 := fun x => by
   have := List.length_filter_le (fun x => !ga x) (l.take i)
   simp only [List.length_append,List.length_cons,List.length_nil,List.length_take] at this ⊢
   omega
  have g5 : (0 : Int) <= (i : Int) := by omega
  have g6 : (i : Int) < (l.length : Int) := by omega
  have hk := TU l[i]
  rw [eQ h1,hk]
  cases c1 : dO l[i] <;> cases c2 : tj l[i] <;> simp only [ly,oW,Dn,l5,iG,Dl,CQ,CM,nQ,decide_eq_true g6,cond_true,cond_false,if_pos g5,if_pos g6,Int.toNat_natCast,h1,ai,c1,c2,hw,Bool.not_true,Bool.not_false,if_pos (hz _),decide_eq_true (hz _),decide_eq_true g5,Bool.and_true,List.append_nil,Option.getD_some,Option.isSome_some]
 ·simp [ly,oW]
theorem VC (e : Ty.T aa) (v : Ty.T y48) (hb : e.2.2.2.2.2.2.1.2.2.2.2.2.2.length <= 1048576) : d212 e v = true /\ d180 e v = true /\ cn e v = cu e v /\ (cu e v).2.2.2.1.length <= 3 /\ (cu e v).2.2.2.2 = e.2.2.2.2.2.2.1.2.2.2.2.2.2 /\ (cu e v).2.1 = (((e.1,e.2.1,e.2.2.1,e.2.2.2.1,e.2.2.2.2.1,e.2.2.2.2.2.1,e.2.2.2.2.2.2.1.1,e.2.2.2.2.2.2.1.2.1,e.2.2.2.2.2.2.1.2.2.1,e.2.2.2.2.2.2.1.2.2.2.1,e.2.2.2.2.2.2.1.2.2.2.2.1,e.2.2.2.2.2.2.1.2.2.2.2.2.1),e.2.2.2.2.2.2.2,e.2.2.2.2.2.2.1.2.2.2.2.2.2)).1 := by
 have h1 := ki e hb
 have h2 := ZV e v hb
 have h3 := LR e (bJ ([],0,0,e.2.2.2.2.2.2.1.1,(e.2.2.2.2.2.2.1.1 == (1 : Int)),e,v,(0,0,0,0,(0,0,0,0,0,0,0),(0,0),(0,0,0,0,0,false,[]),0,0),[],())).1 (bJ ([],0,0,e.2.2.2.2.2.2.1.1,(e.2.2.2.2.2.2.1.1 == (1 : Int)),e,v,(0,0,0,0,(0,0,0,0,0,0,0),(0,0),(0,0,0,0,0,false,[]),0,0),[],())).2 (D4 e v hb)
 have h4 := cpS e hb
 have h5 := cpI e hb
 have h6 := Us e (bJ ([],0,0,e.2.2.2.2.2.2.1.1,(e.2.2.2.2.2.2.1.1 == (1 : Int)),e,v,(0,0,0,0,(0,0,0,0,0,0,0),(0,0),(0,0,0,0,0,false,[]),0,0),[],())).1 hb
 have h7 := Zz (bJ ([],0,0,e.2.2.2.2.2.2.1.1,(e.2.2.2.2.2.2.1.1 == (1 : Int)),e,v,(0,0,0,0,(0,0,0,0,0,0,0),(0,0),(0,0,0,0,0,false,[]),0,0),[],())).2 (D4 e v hb)
 have h8 := D4 e v hb
 have hk : Ja [] 0 (bJ ([],0,0,e.2.2.2.2.2.2.1.1,(e.2.2.2.2.2.2.1.1 == (1 : Int)),e,v,(0,0,0,0,(0,0,0,0,0,0,0),(0,0),(0,0,0,0,0,false,[]),0,0),[],())).1 0 e (0,0,0,0,(0,0,0,0,0,0,0),(0,0),(0,0,0,0,0,false,[]),0,0) (bJ ([],0,0,e.2.2.2.2.2.2.1.1,(e.2.2.2.2.2.2.1.1 == (1 : Int)),e,v,(0,0,0,0,(0,0,0,0,0,0,0),(0,0),(0,0,0,0,0,false,[]),0,0),[],())).2 [] 0 = true := ax h3 0
 have hw : HF [] 0 (bJ ([],0,0,e.2.2.2.2.2.2.1.1,(e.2.2.2.2.2.2.1.1 == (1 : Int)),e,v,(0,0,0,0,(0,0,0,0,0,0,0),(0,0),(0,0,0,0,0,false,[]),0,0),[],())).1 0 e (0,0,0,0,(0,0,0,0,0,0,0),(0,0),(0,0,0,0,0,false,[]),0,0) (bJ ([],0,0,e.2.2.2.2.2.2.1.1,(e.2.2.2.2.2.2.1.1 == (1 : Int)),e,v,(0,0,0,0,(0,0,0,0,0,0,0),(0,0),(0,0,0,0,0,false,[]),0,0),[],())).2 [] = _ := aI h3
 have hs : (zn e (bJ ([],0,0,e.2.2.2.2.2.2.1.1,(e.2.2.2.2.2.2.1.1 == (1 : Int)),e,v,(0,0,0,0,(0,0,0,0,0,0,0),(0,0),(0,0,0,0,0,false,[]),0,0),[],())).1).2.2 = e.2.2.2.2.2.2.1.2.2.2.2.2.2 /\ (zn e (bJ ([],0,0,e.2.2.2.2.2.2.1.1,(e.2.2.2.2.2.2.1.1 == (1 : Int)),e,v,(0,0,0,0,(0,0,0,0,0,0,0),(0,0),(0,0,0,0,0,false,[]),0,0),[],())).1).1 = (((e.1,e.2.1,e.2.2.1,e.2.2.2.1,e.2.2.2.2.1,e.2.2.2.2.2.1,e.2.2.2.2.2.2.1.1,e.2.2.2.2.2.2.1.2.1,e.2.2.2.2.2.2.1.2.2.1,e.2.2.2.2.2.2.1.2.2.2.1,e.2.2.2.2.2.2.1.2.2.2.2.1,e.2.2.2.2.2.2.1.2.2.2.2.2.1),e.2.2.2.2.2.2.2,e.2.2.2.2.2.2.1.2.2.2.2.2.2)).1 := by
  unfold zn t256
  try simp only [nfs]
  rw [h4.1,h4.2]
  simp only [cond_true]
  cases (e.2.2.2.2.2.2.1.1 == (2 : Int)) <;> cases decide (e.2.2.2.2.2.2.2.2 > (0 : Int)) <;> exact ⟨rfl,rfl⟩
 have hg : wJ ([],0,e,v,(0,0,0,0,(0,0,0,0,0,0,0),(0,0),(0,0,0,0,0,false,[]),0,0),()) = true /\ xv ([],0,e,v,(0,0,0,0,(0,0,0,0,0,0,0),(0,0),(0,0,0,0,0,false,[]),0,0),()) = cond (!iu e) true (cond (!dO v) true (!qw e.2.2.2.2.2.2.1 v.1)) := by
  simp only [wJ,xv,pz,h1.1,cond_true]
  cases iu e <;> cases dO v <;> exact ⟨rfl,rfl⟩
 unfold d212 d180 cu cn t212 t180
 try simp only [nfs]
 rw [hg.1,hg.2,h1.2.1,h1.2.2,JS,Eb]
 cases c1 : iu e
 ·rw [h4.1,h4.2,h5.1,h5.2]
  simp
 cases c2 : dO v
 ·rw [h4.1,h4.2,h5.1,h5.2]
  simp
 cases c3 : qw e.2.2.2.2.2.2.1 v.1
 ·rw [h4.1,h4.2,h5.1,h5.2]
  simp
 have h9 : ((bJ ([],0,0,e.2.2.2.2.2.2.1.1,(e.2.2.2.2.2.2.1.1 == (1 : Int)),e,v,(0,0,0,0,(0,0,0,0,0,0,0),(0,0),(0,0,0,0,0,false,[]),0,0),[],())).2.filter fun x => !ga x).length <= 3 := Nat.le_trans (List.length_filter_le _ _) (LC e v hb c1)
 simp only [te,fQ]
 rw [h2.1,h2.2.1,h2.2.2,hk,hw]
 simp only [h7.1,h7.2,h6.1,h6.2.1,h6.2.2,hs.1,hs.2,h9,cond_true,cond_false,Bool.not_true,Option.getD_some,Option.isSome_some,and_true,true_and]
theorem eaR (l : List (Ty.T aa)) (id : Int) (hb : l.length <= 1048576) : (jB l id < 0 /\ ∀ x ∈ l,¬ x.1 = id) ∨ (∃ (j : Nat) (p : Ty.T aa),jB l id = (j : Int) /\ j < l.length /\ l[j]? = some p /\ p.1 = id) := by
 rw [(ea l id hb).2]
 cases h : first (fun i => match l[i]? with | some x => (x.1 == id) | none => false) 0 l.length with
 | none =>
  refine .inl ⟨by decide,fun x hx => ?_⟩
  obtain ⟨i,hi,rfl⟩ := List.mem_iff_getElem.1 hx
  have := iA h i (by omega) (by omega)
  simp only [List.getElem?_eq_getElem hi] at this
  simpa using this
 | some j =>
  obtain ⟨_,hj,hp⟩ := fI h
  have e : l[j]? = some l[j] := List.getElem?_eq_getElem (by omega)
  simp only [e] at hp
  exact .inr ⟨j,l[j],rfl,by omega,e,eq_of_beq hp⟩
theorem update (T : List (Ty.T aa)) (n : Ty.T aa) (hb : T.length <= 1048576) (hv : ∀ x ∈ T,x.2.2.2.2.2.2.1.2.2.2.2.2.2.length <= 1048576) (hn : n.2.2.2.2.2.2.1.2.2.2.2.2.2.length <= 1048576) : d213 T n = true /\ d183 T n = true /\ LZ T n = A7 T n /\ (A7 T n).map (·.1) = T.map (·.1) /\ ∀ x ∈ A7 T n,x.2.2.2.2.2.2.1.2.2.2.2.2.2.length <= 1048576 := by
 have h1 := ctS T hb hv
 have h2 := ctI T hb hv
 have h3 := cpS n hn
 have h4 := cpI n hn
 have h5 := ei T n.1 hb
 have h6 := ea T n.1 hb
 unfold d213 d183 A7 LZ t213 t183
 try simp only [nfs]
 rw [h1.1,h1.2,h2.1,h2.2,h3.1,h3.2,h4.1,h4.2,h5.1,h5.2,h6.1]
 rcases eaR T n.1 hb with ⟨h,_⟩ | ⟨j,p,hj,hl,hp,hi⟩
 ·have e : ¬ jB T n.1 ≥ 0 := by omega
  rw [decide_eq_false e]
  exact ⟨rfl,rfl,rfl,rfl,hv⟩
 ·have g0 : (0 : Int) <= (j : Int) := by omega
  have g1 : (j : Int) < (T.length : Int) := by omega
  have g2 : (j : Int) ≥ 0 := g0
  rw [hj]
  simp only [decide_eq_true g2,decide_eq_true g0,decide_eq_true g1,cond_true,if_pos g0,if_pos g1,Int.toNat_natCast,hp,ai,o9,qS,Option.getD_some,Option.isSome_some,Bool.and_true,true_and,and_true]
  refine ⟨?_,fun x hx => ?_⟩
  ·rw [List.map_set]
   apply List.ext_getElem?
   intro i
   by_cases hij : j = i
   ·subst hij
    simp [hl,hp,hi]
    rw [(List.getElem?_eq_some_iff.1 hp).2]
    exact hi.symm
   ·rw [List.getElem?_set_ne hij]
  ·rcases List.mem_or_eq_of_mem_set hx with h | rfl
   ·exact hv x h
   ·exact hn
theorem Ue (h0 : List (Ty.T (.int .i64))) (h1 : List (Ty.T (.int .i64))) (h4 : Int) (h5 : List (Ty.T (.int .i64))) (h6 : Int) (h7 : Bool) (h8 : List (Ty.T (.int .i64))) (h9 : Int) (h10 : Int) (h11 : Int) (h12 : Bool) (h13 : Int) (i : Nat) (l : List (Ty.T (.int .i64))) (x : Ty.T (.int .i64)) (hx : h0[i]? = some x) (hb : l.length <= 2097152) : ∃ p : Nat,p <= l.length /\ iter jW (oP (h0,h1,(i : Int),(l.length : Int),h4,h5,h6,h7,h8,h9,h10,h11,h12,h13,l,())) (h0,h1,(i : Int),(l.length : Int),h4,h5,h6,h7,h8,h9,h10,h11,h12,h13,l,()) = some (0,(h0,h1,(i : Int),(p : Int),h4,h5,h6,h7,h8,h9,h10,h11,h12,h13,l,())) := by
 obtain ⟨v',h1,p,hp,rfl⟩ := zT (s := jW) (Q := fun v => ∃ p : Nat,p <= l.length /\ v = (h0,h1,(i : Int),(p : Int),h4,h5,h6,h7,h8,h9,h10,h11,h12,h13,l,())) (fun k v => k <= l.length /\ v = (h0,h1,(i : Int),(k : Int),h4,h5,h6,h7,h8,h9,h10,h11,h12,h13,l,())) (fun k v hI => by
  obtain ⟨hk,rfl⟩ := hI
  cases k with
  | zero =>
   refine .inl ⟨_,?_,0,Nat.zero_le _,rfl⟩
   simp [jW,lC,tf,rZ,iD]
  | succ k =>
   have hw : IntKind.wrap .i64 (((k + 1 : Nat) : Int) - 1) = (k : Int) := pg k (by omega)
   obtain ⟨y,hy⟩ : ∃ y,l[k]? = some y := ⟨l[k]'(by omega),List.getElem?_eq_getElem _⟩
   have g0 : ((k + 1 : Nat) : Int) > 0 := by omega
   have g1 : (0 : Int) <= (k : Int) := by omega
   have g2 : (k : Int) < (l.length : Int) := by omega
   have g3 : (0 : Int) <= (i : Int) := by omega
   by_cases hc : y > x
   ·exact .inr ⟨k,_,rfl,by simp only [jW,lC,tf,rZ,iD,decide_eq_true g0,cond_true,hw,if_pos g1,if_pos g2,decide_eq_true g1,decide_eq_true g2,Int.toNat_natCast,hy,ai,if_pos g3,decide_eq_true g3,hx,o9,qS,Option.isSome_some,Option.getD_some,Bool.and_true,decide_eq_true hc],by omega,rfl⟩
   ·exact .inl ⟨_,by simp only [jW,lC,tf,rZ,iD,decide_eq_true g0,cond_true,hw,if_pos g1,if_pos g2,decide_eq_true g1,decide_eq_true g2,Int.toNat_natCast,hy,ai,if_pos g3,decide_eq_true g3,hx,o9,qS,Option.isSome_some,Option.getD_some,Bool.and_true,decide_eq_false hc,cond_false],k + 1,hk,rfl⟩) l.length (h0,h1,(i : Int),(l.length : Int),h4,h5,h6,h7,h8,h9,h10,h11,h12,h13,l,()) (oP (h0,h1,(i : Int),(l.length : Int),h4,h5,h6,h7,h8,h9,h10,h11,h12,h13,l,())) ⟨Nat.le_refl _,rfl⟩ (by simp only [oP]; omega)
 exact ⟨p,hp,h1⟩
theorem OQ (h0 : List (Ty.T (.int .i64))) (h1 : List (Ty.T (.int .i64))) (h4 : Int) (h5 : List (Ty.T (.int .i64))) (h6 : Int) (h7 : Bool) (h8 : List (Ty.T (.int .i64))) (h9 : Int) (h10 : Int) (h11 : Int) (h12 : Bool) (h13 : Int) (i : Nat) (l : List (Ty.T (.int .i64))) (x : Ty.T (.int .i64)) (hx : h0[i]? = some x) (hb : l.length <= 2097152) : ∃ p : Nat,p <= l.length /\ KP h0 h1 (i : Int) (l.length : Int) h4 h5 h6 h7 h8 h9 h10 h11 h12 h13 l 0 = true /\ H6 h0 h1 (i : Int) (l.length : Int) h4 h5 h6 h7 h8 h9 h10 h11 h12 h13 l = (h0,h1,(i : Int),(p : Int),h4,h5,h6,h7,h8,h9,h10,h11,h12,h13,l,()) := by
 obtain ⟨p,h1,h2⟩ := Ue h0 h1 h4 h5 h6 h7 h8 h9 h10 h11 h12 h13 i l x hx hb
 exact ⟨p,h1,ax h2 0,aI h2⟩
theorem Cy {xs : List (Ty.T (.int .i64))} (hn : xs.Nodup) {t : Nat} (ht : t < xs.length) : (xs.take t).any (fun y => y == xs[t]) = false := by
 rw [List.any_eq_false]
 intro y hy he
 obtain ⟨j,hj,rfl⟩ := List.mem_iff_getElem.1 hy
 rw [List.length_take] at hj
 have := List.pairwise_iff_getElem.1 hn j t (by omega) ht (by omega)
 rw [List.getElem_take] at he
 exact this (eq_of_beq he)
theorem setOf (xs : List (Ty.T (.int .i64))) (hn : xs.Nodup) (hb : xs.length <= 1048577) : d258 xs = true /\ (JH xs).Perm xs := by
 have h := sS (s := pT) (mk := fun k : Nat × List (Ty.T (.int .i64)) => (xs,[],(k.1 : Int),k.2,())) (Inv := fun t k => k.1 = t /\ k.2.Perm (xs.take t)) (Q := fun v => ∃ l : List (Ty.T (.int .i64)),v = (xs,[],(xs.length : Int),l,()) /\ l.Perm xs) (c := 0) (N := xs.length) (fun t k ht hI => by
  obtain ⟨r,l⟩ := k
  obtain ⟨hr,hp⟩ := hI
  dsimp only at hr hp
  subst hr
  have hx : xs[r]? = some xs[r] := List.getElem?_eq_getElem ht
  have hlen : l.length = r := by rw [hp.length_eq,List.length_take]; omega
  have hh := TR l xs[r] (by omega)
  have hany : (l.any fun y => y == xs[r]) = false := by
   rw [List.any_eq_false]
   intro y hy
   have := List.any_eq_false.1 (Cy hn ht) y (hp.mem_iff.1 hy)
   exact this
  have g5 : (0 : Int) <= (r : Int) := by omega
  have g6 : (r : Int) < (xs.length : Int) := by omega
  have hw1 := az (n := r) (by omega)
  obtain ⟨p,hpl,hk,hw⟩ := OQ xs [] (r : Int) xs (xs.length : Int) true xs (r : Int) xs[r] xs[r] false (l.length : Int) r l xs[r] hx (by omega)
  have g7 : (0 : Int) <= (p : Int) := by omega
  have g8 : (p : Int) <= (l.length : Int) := by omega
  have z1 : ([] ++ ((l.drop 0).take p) : List (Ty.T (.int .i64))).length * 8 <= 140737488351232 := by simp only [List.nil_append,List.length_take,List.length_drop]; omega
  have z2 : (([] ++ ((l.drop 0).take p)) ++ [xs[r]] : List (Ty.T (.int .i64))).length * 8 <= 140737488351232 := by simp only [List.nil_append,List.length_append,List.length_cons,List.length_nil,List.length_take,List.length_drop]; omega
  have z3 : ((([] ++ ((l.drop 0).take p)) ++ [xs[r]]) ++ ((l.drop p).take (l.length - p)) : List (Ty.T (.int .i64))).length * 8 <= 140737488351232 := by simp only [List.nil_append,List.length_append,List.length_cons,List.length_nil,List.length_take,List.length_drop]; omega
  refine ⟨(r + 1,(([] ++ ((l.drop 0).take p)) ++ [xs[r]]) ++ ((l.drop p).take (l.length - p))),?_,rfl,?_⟩
  ·simp only [pT,oV,bw,decide_eq_true g6,cond_true,if_pos g5,Int.toNat_natCast,hx,ai,hh.1,hh.2,hany,cond_false,hk,hw]
   simp only [CC,CS,mi,if_pos g5,if_pos g7,if_pos g8,decide_eq_true g5,decide_eq_true g7,decide_eq_true g8,Int.toNat_natCast,hx,ai,o9,qS,if_pos z1,if_pos z2,if_pos z3,decide_eq_true z1,decide_eq_true z2,decide_eq_true z3,Bool.and_true,Option.isSome_some,Option.getD_some,cond_true,hw1]
  ·show List.Perm _ (xs.take (r + 1))
   rw [di hx]
   have e : (([] ++ ((l.drop 0).take p)) ++ [xs[r]]) ++ ((l.drop p).take (l.length - p)) = l.take p ++ xs[r] :: l.drop p := by
    rw [List.take_of_length_le (l := l.drop p) (by rw [List.length_drop]; omega)]
    simp
   rw [e]
   have h3 : (l.take p ++ xs[r] :: l.drop p).Perm (xs[r] :: (l.take p ++ l.drop p)) := List.perm_middle
   rw [List.take_append_drop] at h3
   exact h3.trans ((List.Perm.cons _ hp).trans (List.perm_append_singleton _ _).symm))
  (fun k hI => by
   obtain ⟨r,l⟩ := k
   obtain ⟨hr,hp⟩ := hI
   dsimp only at hr hp
   subst hr
   rw [List.take_length] at hp
   refine ⟨_,?_,l,rfl,hp⟩
   simp [pT,oV])
  xs.length 0 (sG (xs,[],((0 : Nat) : Int),[],())) (0,[]) (by omega) (by simp only [sG]; omega) ⟨rfl,by simp⟩
 obtain ⟨v',h1,l,rfl,hp⟩ := h
 have hk : Jb xs [] 0 [] 0 = true := ax h1 0
 have hw : KT xs [] 0 [] = _ := aI h1
 unfold d258 JH t258
 try simp only [nfs]
 rw [hk,hw]
 exact ⟨rfl,hp⟩
theorem MY (u : List (Ty.T (.int .i64))) (n : Int) (hn : u.Nodup) (hu : (u.any fun y => y == n) = false) (hb : u.length <= 1048576) : d215 u n = true /\ (sQ u n).Perm (u ++ [n]) := by
 have hd : (u ++ [n]).Nodup := by
  rw [List.nodup_append]
  refine ⟨hn,by simp,fun a ha b hb2 e => ?_⟩
  rw [List.mem_singleton] at hb2
  subst e hb2
  have := List.any_eq_false.1 hu _ ha
  simp at this
 have h := setOf (u ++ [n]) hd (by simp only [List.length_append,List.length_cons,List.length_nil]; omega)
 unfold d215 sQ
 simp only [List.nil_append]
 rw [h.1]
 refine ⟨?_,h.2⟩
 have z1 : (u : List (Ty.T (.int .i64))).length * 8 <= 140737488351232 := by omega
 have z2 : (u ++ [n] : List (Ty.T (.int .i64))).length * 8 <= 140737488351232 := by simp only [List.length_append,List.length_cons,List.length_nil]; omega
 rw [decide_eq_true z1,decide_eq_true z2]
 rfl
theorem Mc (s : Ty.T y36) (l : List (Ty.T aa)) (e : Ty.T y48) (u w : List (Ty.T (.int .i64))) (hb : s.1.length <= 1048576) (hs : s.2.1.length <= 1048576) (hn : l.length <= 1048576) (hu : u.length <= 1048576) (hv : ∀ x ∈ l,x.2.2.2.2.2.2.1.2.2.2.2.2.2.length <= 1048576) (hp : u.Perm w) : dY s l e u = dY s l e w := by
 rw [(Pv s l e u hb hs hn hu hv).2,(Pv s l e w hb hs hn (by rw [← hp.length_eq]; exact hu) hv).2]
 have : gH s e u = gH s e w := by
  funext p x
  unfold gH
  rw [hp.any_eq]
 rw [this]
theorem pick (cs : List (Ty.T (.int .i64))) (n : Nat) (h1 : 0 < n) (hn : n <= 1048576) (hc : cs.length <= 1048576) : d210 cs (n : Int) = true /\ d217 cs (n : Int) = true /\ zU cs (n : Int) = gj cs (n : Int) /\ @LE.le Int _ 0 (gj cs (n : Int)).1 /\ @LT.lt Int _ (gj cs (n : Int)).1 (n : Int) /\ (gj cs (n : Int)).2 = (if n < 2 then cs else cs.tail) /\ (cs = [] -> (gj cs (n : Int)).1 = (0 : Int)) /\ (n < 2 -> (gj cs (n : Int)).1 = (0 : Int)) := by
 have hcl := Fi cs (by omega)
 have z1 : cs.length * 8 <= 140737488351232 := by omega
 by_cases h2 : n < 2
 ·have b1 : decide ((n : Int) < 2) = true := decide_eq_true (by omega)
  simp only [d210,t210,gj,d217,t217,zU,b1,cond_true,List.nil_append,if_pos z1,hcl,eB,if_pos h2,Option.isSome_some,Option.getD_some,nfs]
  refine ⟨trivial,trivial,trivial,?_,?_,trivial,fun _ => trivial,fun _ => trivial⟩ <;> omega
 ·have b1 : decide ((n : Int) < 2) = false := decide_eq_false (by omega)
  cases cs with
  | nil =>
   have b2 : (((([] : List (Ty.T (.int .i64))).length : Nat) : Int) == (0 : Int)) = true := rfl
   simp only [d210,t210,gj,d217,t217,zU,b1,b2,cond_true,cond_false,List.nil_append,if_pos z1,hcl,eB,if_neg h2,Option.isSome_some,Option.getD_some,List.tail_nil,nfs]
   refine ⟨trivial,trivial,trivial,?_,?_,trivial,fun _ => trivial,fun _ => trivial⟩ <;> omega
  | cons x cs =>
   have b2 : ((((x :: cs : List (Ty.T (.int .i64))).length : Nat) : Int) == (0 : Int)) = false := by simp; omega
   have b3 : ¬ (n : Int) = 0 := by omega
   have b4 : (1 : Int) <= ((x :: cs : List (Ty.T (.int .i64))).length : Int) := by simp only [List.length_cons]; omega
   have e1 : ((x :: cs : List (Ty.T (.int .i64))).take (x :: cs : List (Ty.T (.int .i64))).length).drop 1 = cs := by rw [List.take_length]; rfl
   have hl : cs.length <= 1048576 := by simp only [List.length_cons] at hc; omega
   have z2 : cs.length * 8 <= 140737488351232 := by omega
   have hcl2 := Fi cs (by omega)
   have m1 : Int.tmod x (n : Int) < (n : Int) := Int.tmod_lt_of_pos x (by omega)
   have m2 : -(n : Int) < Int.tmod x (n : Int) := Int.lt_tmod_of_pos x (by omega)
   have h0 : ((x :: cs : List (Ty.T (.int .i64)))[0]?) = some x := rfl
   by_cases h3 : Int.tmod x (n : Int) < 0
   ·have hw : IntKind.wrap .i64 (Int.tmod x (n : Int) + (n : Int)) = Int.tmod x (n : Int) + (n : Int) := aR (by omega) (by omega)
    simp only [d210,t210,gj,d217,t217,zU,b1,b2,cond_true,cond_false,h0,ai,if_neg b3,decide_eq_true h3,if_pos b4,e1,List.nil_append,if_pos z2,hcl2,eB,if_neg h2,Option.isSome_some,Option.getD_some,hw,List.tail_cons,nfs]
    refine ⟨trivial,trivial,trivial,?_,?_,trivial,(fun h => by cases h),(fun h => absurd h (by omega))⟩ <;> omega
   ·simp only [d210,t210,gj,d217,t217,zU,b1,b2,cond_true,cond_false,h0,ai,if_neg b3,decide_eq_false h3,if_pos b4,e1,List.nil_append,if_pos z2,hcl2,eB,if_neg h2,Option.isSome_some,Option.getD_some,List.tail_cons,nfs]
    refine ⟨trivial,trivial,trivial,?_,?_,trivial,(fun h => by cases h),(fun h => absurd h (by omega))⟩ <;> omega
def ll (f : Ty.T y48 -> List (Ty.T aa) -> List (Ty.T (.int .i64)) -> List (Ty.T aa) × List (Ty.T y48) × List (Ty.T (.int .i64)) × List (Ty.T an)) : List (Ty.T y48) -> List (Ty.T aa) -> List (Ty.T (.int .i64)) -> List (Ty.T aa) × List (Ty.T y48) × List (Ty.T (.int .i64)) × List (Ty.T an)
 | [],T,cs => (T,[],cs,[])
 | y :: L,T,cs => ((ll f L (f y T cs).1 (f y T cs).2.2.1).1,(f y T cs).2.1 ++ (ll f L (f y T cs).1 (f y T cs).2.2.1).2.1,(ll f L (f y T cs).1 (f y T cs).2.2.1).2.2.1,(f y T cs).2.2.2 ++ (ll f L (f y T cs).1 (f y T cs).2.2.1).2.2.2)
noncomputable def Qj (r : (Int) × (Ty.T q1) × (Ty.T y98) × (List (Ty.T y48)) × (List (Ty.T y48))) : Ty.T aa := (r.2.1.1,r.2.1.2.1,r.2.1.2.2.1,r.2.1.2.2.2.1,r.2.1.2.2.2.2.1,r.2.1.2.2.2.2.2.1,(r.2.1.2.2.2.2.2.2.1,r.2.1.2.2.2.2.2.2.2.1,r.2.1.2.2.2.2.2.2.2.2.1,r.2.1.2.2.2.2.2.2.2.2.2.1,r.2.1.2.2.2.2.2.2.2.2.2.2.1,r.2.1.2.2.2.2.2.2.2.2.2.2.2,r.2.2.2.2),r.2.2.1)
noncomputable def G8 (s : Ty.T y36) (p : Ty.T aa) (x : Ty.T y48) (k : Int) (n : Nat) (u : List (Ty.T (.int .i64))) : Ty.T an := (p.1,wD s x,k,(n : Int),x,(cu p x).2.2.2.1,(cu p x).1,(u.length : Int))
noncomputable def atW (T : List (Ty.T aa)) (id : Int) : Ty.T aa := (T[(jB T id).toNat]?).getD (Ty.zero aa)
noncomputable def mwC (f : Ty.T y48 -> List (Ty.T (.int .i64)) -> List (Ty.T aa) -> List (Ty.T (.int .i64)) -> List (Ty.T aa) × List (Ty.T y48) × List (Ty.T (.int .i64)) × List (Ty.T an)) (s : Ty.T y36) (x : Ty.T y48) (u : List (Ty.T (.int .i64))) (T : List (Ty.T aa)) (cs : List (Ty.T (.int .i64))) (oo : List (Ty.T (.int .i64))) : List (Ty.T aa) × List (Ty.T y48) × List (Ty.T (.int .i64)) × List (Ty.T an) :=
 let k1 := gj cs (oo.length : Int)
 let p := atW T (oo.getD k1.1.toNat 0)
 let z := ll (fun y => f y (u ++ [p.1])) (cu p x).2.2.2.1 (A7 T (Qj (cu p x))) k1.2
 (z.1,z.2.1,z.2.2.1,G8 s p x k1.1 oo.length u :: z.2.2.2)
noncomputable def mw (s : Ty.T y36) : Nat -> Ty.T y48 -> List (Ty.T (.int .i64)) -> List (Ty.T aa) -> List (Ty.T (.int .i64)) -> List (Ty.T aa) × List (Ty.T y48) × List (Ty.T (.int .i64)) × List (Ty.T an)
 | 0,_,_,T,cs => (T,[],cs,[])
 | k + 1,x,u,T,cs =>
  match dY s T x u with
  | [] => (T,cond (tj x) [] [x],cs,[])
  | o :: os => mwC (mw s k) s x u T cs (o :: os)
structure zV (c : Nat) (ids : List (Ty.T (.int .i64))) (T : List (Ty.T aa)) (out : List (Ty.T y48)) (cs : List (Ty.T (.int .i64))) (made : List (Ty.T an)) : Prop where
 tb : T.length <= 1048576
 tv : ∀ x ∈ T,x.2.2.2.2.2.2.1.2.2.2.2.2.2.length <= 1048576
 ti : T.map (·.1) = ids
 ob : out.length + c <= 1048576
 mb : made.length + c <= 1048576
 cb : cs.length <= 1048576
 mv : ∀ t ∈ made,t.2.2.2.2.2.1.length <= 1048576
theorem zV.PI {c c' : Nat} {ids : List (Ty.T (.int .i64))} {T : List (Ty.T aa)} {out : List (Ty.T y48)} {cs : List (Ty.T (.int .i64))} {made : List (Ty.T an)} (h : zV c ids T out cs made) (hc : c' <= c) : zV c' ids T out cs made :=
 ⟨h.tb,h.tv,h.ti,by have := h.ob; omega,by have := h.mb; omega,h.cb,h.mv⟩
def EH (w : Nat) (RS : aK) (RI : aU) (M : Ty.T y48 -> List (Ty.T aa) -> List (Ty.T (.int .i64)) -> List (Ty.T aa) × List (Ty.T y48) × List (Ty.T (.int .i64)) × List (Ty.T an)) (uS uI : List (Ty.T (.int .i64))) (s : Ty.T y36) (ids : List (Ty.T (.int .i64))) : Prop :=
 ∀ x T out cs made c,zV (c + w) ids T out cs made -> RS x uS s T cs out made = (true,(s,(M x T cs).1,(M x T cs).2.2.1,out ++ (M x T cs).2.1,made ++ (M x T cs).2.2.2)) /\ RI x uI s out T cs made = (true,(true,s,out ++ (M x T cs).2.1,(M x T cs).1,(M x T cs).2.2.1,made ++ (M x T cs).2.2.2)) /\ zV c ids (M x T cs).1 (out ++ (M x T cs).2.1) (M x T cs).2.2.1 (made ++ (M x T cs).2.2.2)
theorem NC {w : Nat} {RS : aK} {RI : aU} {M : Ty.T y48 -> List (Ty.T aa) -> List (Ty.T (.int .i64)) -> List (Ty.T aa) × List (Ty.T y48) × List (Ty.T (.int .i64)) × List (Ty.T an)} {uS uI : List (Ty.T (.int .i64))} {s : Ty.T y36} {ids : List (Ty.T (.int .i64))} (hG : EH w RS RI M uS uI s ids) (L : List (Ty.T y48)) (hL : L.length <= 1048576) :
  ∀ (rem i n1 n2 c : Nat) (T : List (Ty.T aa)) (out : List (Ty.T y48)) (cs : List (Ty.T (.int .i64))) (made : List (Ty.T an)) (z : List (Ty.T aa) × List (Ty.T y48) × List (Ty.T (.int .i64)) × List (Ty.T an)),ll M (L.drop i) T cs = z -> i + rem = L.length -> rem < n1 -> rem < n2 -> zV (c + rem * w) ids T out cs made ->
   iter (eT RS) n1 (uS,(i : Int),s,L,T,cs,out,made,()) = some (0,(uS,(L.length : Int),s,L,z.1,z.2.2.1,out ++ z.2.1,made ++ z.2.2.2,())) /\
    iter (eP RI) n2 (uI,false,L,(L.length : Int),(i : Int),s,T,out,cs,made,()) = some (1,(uI,false,L,(L.length : Int),(L.length : Int),s,z.1,out ++ z.2.1,z.2.2.1,made ++ z.2.2.2,())) /\ zV c ids z.1 (out ++ z.2.1) z.2.2.1 (made ++ z.2.2.2)
 | 0,i,n1,n2,c,T,out,cs,made,z,hz,hi,hn1,hn2,hT => by
  obtain ⟨n1,rfl⟩ : ∃ n',n1 = n' + 1 := ⟨n1 - 1,by omega⟩
  obtain ⟨n2,rfl⟩ : ∃ n',n2 = n' + 1 := ⟨n2 - 1,by omega⟩
  have : i = L.length := by omega
  subst this
  rw [List.drop_length] at hz
  subst hz
  have e1 : eT RS (uS,(L.length : Int),s,L,T,cs,out,made,()) = some (1,(uS,(L.length : Int),s,L,T,cs,out,made,())) := by simp [eT,gT]
  have e2 : eP RI (uI,false,L,(L.length : Int),(L.length : Int),s,T,out,cs,made,()) = some (2,(uI,false,L,(L.length : Int),(L.length : Int),s,T,out,cs,made,())) := by simp [eP,iz]
  simp only [ll,List.append_nil]
  refine ⟨?_,?_,hT.PI (by omega)⟩
  ·rw [iter,e1]; rfl
  ·rw [iter,e2]; rfl
 | rem + 1,i,n1,n2,c,T,out,cs,made,z,hz,hi,hn1,hn2,hT => by
  obtain ⟨n1,rfl⟩ : ∃ n',n1 = n' + 1 := ⟨n1 - 1,by omega⟩
  obtain ⟨n2,rfl⟩ : ∃ n',n2 = n' + 1 := ⟨n2 - 1,by omega⟩
  have h1 : L[i]? = some (L[i]'(by omega)) := List.getElem?_eq_getElem (by omega)
  have g5 : (0 : Int) <= (i : Int) := by omega
  have g6 : (i : Int) < (L.length : Int) := by omega
  have hw := az (n := i) (by omega)
  rw [List.drop_eq_getElem_cons (by omega)] at hz
  generalize L[i]'(by omega) = y at h1 hz
  obtain ⟨hS,hI,hT1⟩ := hG y T out cs made (c + rem * w) (hT.PI (by rw [Nat.succ_mul]; omega))
  obtain ⟨⟨T1,o1,c1,t1⟩,hm⟩ : ∃ q,M y T cs = q := ⟨_,rfl⟩
  simp only [ll,hm] at hz
  rw [hm] at hS hI hT1
  dsimp only at hS hI hT1
  obtain ⟨⟨T2,o2,c2,t2⟩,hf⟩ : ∃ q,ll M (L.drop (i + 1)) T1 c1 = q := ⟨_,rfl⟩
  rw [hf] at hz
  subst hz
  have e1 : eT RS (uS,(i : Int),s,L,T,cs,out,made,()) = some (0,(uS,((i + 1 : Nat) : Int),s,L,T1,c1,out ++ o1,made ++ t1,())) := by
   simp only [eT,gT,decide_eq_true g6,cond_true,if_pos g5,if_pos g6,Int.toNat_natCast,h1,ai,hS,hw]
  have e2 : eP RI (uI,false,L,(L.length : Int),(i : Int),s,T,out,cs,made,()) = some (0,(uI,false,L,(L.length : Int),((i + 1 : Nat) : Int),s,T1,out ++ o1,c1,made ++ t1,())) := by
   simp only [eP,iz,decide_eq_true g6,cond_true,if_pos g5,Int.toNat_natCast,h1,ai,hI,Bool.not_true,cond_false,hw]
  obtain ⟨h3,h4,h5⟩ := NC hG L hL rem (i + 1) n1 n2 c T1 (out ++ o1) c1 (made ++ t1) _ hf (by omega) (by omega) (by omega) hT1
  simp only [← List.append_assoc]
  refine ⟨?_,?_,h5⟩
  ·rw [iter,e1]; exact h3
  ·rw [iter,e2]; exact h4
theorem Pd {RS : aK} {x : Ty.T y48} {u : List (Ty.T (.int .i64))} {s : Ty.T y36} {T : List (Ty.T aa)} {cs : List (Ty.T (.int .i64))} {out : List (Ty.T y48)} {made : List (Ty.T an)} {r} (h : gL RS x u s T cs out made some = some r) : (nA RS x u s T cs out made,nu RS x u s T cs out made) = (true,r) := by
 unfold nA nu
 rw [h]
 rfl
theorem NZ {RI : aU} {x : Ty.T y48} {u : List (Ty.T (.int .i64))} {s : Ty.T y36} {T : List (Ty.T aa)} {out : List (Ty.T y48)} {cs : List (Ty.T (.int .i64))} {made : List (Ty.T an)} {r} (h : gM RI x u s out T cs made some = some r) : (mO RI x u s out T cs made,nb RI x u s out T cs made) = (true,r) := by
 unfold mO nb
 rw [h]
 rfl
theorem Nu {w k : Nat} {RS : aK} {RI : aU} {uS uI : List (Ty.T (.int .i64))} {s : Ty.T y36} {ids : List (Ty.T (.int .i64))} (hb : s.1.length <= 1048576) (hs : s.2.1.length <= 1048576) (hp : uS.Perm uI) (hn : uS.Nodup) (hu : uS.length <= 1048576)
  (hG : ∀ y,y ∈ ids -> (uS.any fun z => z == y) = false -> EH w RS RI (fun x => mw s k x (uI ++ [y])) (sQ uS y) (uI ++ [y]) s ids) :
  EH (1 + 3 * w) (fun a0 a1 a2 a3 a4 a5 a6 => (nA RS a0 a1 a2 a3 a4 a5 a6,nu RS a0 a1 a2 a3 a4 a5 a6)) (fun a0 a1 a2 a3 a4 a5 a6 => (mO RI a0 a1 a2 a3 a4 a5 a6,nb RI a0 a1 a2 a3 a4 a5 a6)) (fun x => mw s (k + 1) x uI) uS uI s ids := by
 intro x T out cs made c hT
 have hul : uI.length = uS.length := hp.length_eq.symm
 have ho := options s T x uS hb hs hT.tb hu hT.tv
 have hi := options s T x uI hb hs hT.tb (by omega) hT.tv
 have he := Mc s T x uS uI hb hs hT.tb hu hT.tv hp
 obtain ⟨hd,-,-,hlen,hmem⟩ := ho
 obtain ⟨-,hdI,hvI,-,-⟩ := hi
 have hvM := he.symm
 rw [← he] at hvI
 clear he
 obtain ⟨o,hoe⟩ : ∃ o,dY s T x uS = o := ⟨_,rfl⟩
 rw [hoe] at hlen hmem hvI hvM
 have hob := hT.ob
 have hmb := hT.mb
 cases o with
 | nil =>
  have hmw : mw s (k + 1) x uI T cs = (T,cond (tj x) [] [x],cs,[]) := by
   rw [mw,hvM]
  dsimp only
  rw [hmw]
  have z1 : (out ++ [x] : List (Ty.T y48)).length * 56 <= 140737488351232 := by simp only [List.length_append,List.length_cons,List.length_nil]; omega
  have z2 : (out.length + 1) * 56 <= 140737488351232 := by omega
  cases hgn : tj x
  ·simp only [cond_false,List.append_nil]
   refine ⟨Pd ?_,NZ ?_,⟨hT.tb,hT.tv,hT.ti,by simp only [List.length_append,List.length_cons,List.length_nil]; omega,by omega,hT.cb,hT.mv⟩⟩
   ·simp [gL,hd,hoe,hgn,nn,mF,fO,nw,fE,z2]
   ·simp [gM,hdI,hvI,gone,hgn,mH,nh,fF,m9,fG,z2]
  ·simp only [cond_true,List.append_nil]
   refine ⟨Pd ?_,NZ ?_,hT.PI (by omega)⟩
   ·simp [gL,hd,hoe,hgn,nn,mF,fO,nw,fE]
   ·simp [gM,hdI,hvI,gone,hgn,mH,nh,fF,m9,fG]
 | cons y0 o =>
  have hne : ((((y0 :: o).length : Nat) : Int) == (0 : Int)) = false := by simp; omega
  have hmw : mw s (k + 1) x uI T cs = mwC (mw s k) s x uI T cs (y0 :: o) := by rw [mw,hvM]
  obtain ⟨oo,hoo⟩ : ∃ oo,oo = y0 :: o := ⟨_,rfl⟩
  rw [← hoo] at hoe hvI hne hmem hlen hmw
  have hol : oo.length <= 1048576 := Nat.le_trans hlen hT.tb
  have hpos : 0 < oo.length := by rw [hoo]; simp
  obtain ⟨pd,pdI,pvI,pk0,pkn,pcs,-,-⟩ := pick cs oo.length hpos hol hT.cb
  obtain ⟨⟨kk,cs1⟩,hpk⟩ : ∃ q,gj cs (oo.length : Int) = q := ⟨_,rfl⟩
  rw [hpk] at pvI pk0 pkn pcs
  dsimp only at pk0 pkn pcs
  have hcb1 : cs1.length <= 1048576 := by
   rw [pcs]
   have := hT.cb
   split
   ·exact this
   ·rw [List.length_tail]; omega
  obtain ⟨ch,hch⟩ : ∃ ch : Nat,@Eq Int kk (ch : Int) := ⟨Int.toNat kk,(Int.toNat_of_nonneg pk0).symm⟩
  have hcl : ch < oo.length := by have := pkn; rw [hch] at this; omega
  have hy : oo[ch]? = some (oo[ch]'hcl) := List.getElem?_eq_getElem hcl
  obtain ⟨⟨p0,hp0,hid0⟩,hun⟩ := hmem (oo[ch]'hcl) (List.getElem_mem _)
  obtain ⟨y,hyy⟩ : ∃ y,oo[ch]'hcl = y := ⟨_,rfl⟩
  rw [hyy] at hy hid0 hun
  rcases eaR T y hT.tb with ⟨_,h⟩ | ⟨j,p,hj,hjl,hpj,hpid⟩
  ·exact absurd hid0 (h p0 hp0)
  subst hpid
  have hpm : p ∈ T := List.mem_of_getElem? hpj
  have hat : atW T p.1 = p := by
   unfold atW
   rw [hj,Int.toNat_natCast,hpj]
   rfl
  obtain ⟨hda1,hda2,hda3,hda4,hda5,hda6⟩ := VC p x (hT.tv p hpm)
  have hei := ei T p.1 hT.tb
  have hea := (ea T p.1 hT.tb).1
  have hcs := Li s x hb
  have hgd : oo.getD ch 0 = p.1 := by rw [List.getD_eq_getElem?_getD,hy]; rfl
  unfold mwC at hmw
  simp only [hpk,hch,Int.toNat_natCast,hgd,hat] at hmw
  have htn' : ∃ tn : Ty.T an,G8 s p x (ch : Int) oo.length uI = tn := ⟨_,rfl⟩
  obtain ⟨tn,htn⟩ := htn'
  rw [htn] at hmw
  unfold G8 at htn
  unfold Qj at hmw
  obtain ⟨⟨rn,q,gd,L,pl⟩,hdo⟩ : ∃ z,cu p x = z := ⟨_,rfl⟩
  rw [hdo] at hda3 hda4 hda5 hda6 htn hmw
  dsimp only at hda4 hda5 hda6 htn hmw
  have b3 : (0 : Int) <= (made.length : Int) := by omega
  have g0 : (0 : Int) <= (ch : Int) := by omega
  have g1 : (ch : Int) < (oo.length : Int) := by omega
  have j0 : (0 : Int) <= (j : Int) := by omega
  have j1 : (j : Int) < (T.length : Int) := by omega
  have z4 : L.length * 56 <= 140737488351232 := by omega
  have hulS : (uS.length : Int) = (uI.length : Int) := by omega
  have hw := MY uS p.1 hn hun hu
  obtain ⟨hu1,hu2,hu3,hu4,hu5⟩ := update T ((q.1,q.2.1,q.2.2.1,q.2.2.2.1,q.2.2.2.2.1,q.2.2.2.2.2.1,(q.2.2.2.2.2.2.1,q.2.2.2.2.2.2.2.1,q.2.2.2.2.2.2.2.2.1,q.2.2.2.2.2.2.2.2.2.1,q.2.2.2.2.2.2.2.2.2.2.1,q.2.2.2.2.2.2.2.2.2.2.2,pl),gd) : Ty.T aa) hT.tb hT.tv (show pl.length <= 1048576 by rw [hda5]; exact hT.tv p hpm)
  have hG1 := hG p.1 (by rw [← hT.ti]; exact List.mem_map.2 ⟨p,hpm,rfl⟩) hun
  obtain ⟨T1,hT1⟩ : ∃ T1,A7 T ((q.1,q.2.1,q.2.2.1,q.2.2.2.1,q.2.2.2.2.1,q.2.2.2.2.2.1,(q.2.2.2.2.2.2.1,q.2.2.2.2.2.2.2.1,q.2.2.2.2.2.2.2.2.1,q.2.2.2.2.2.2.2.2.2.1,q.2.2.2.2.2.2.2.2.2.2.1,q.2.2.2.2.2.2.2.2.2.2.2,pl),gd) : Ty.T aa) = T1 := ⟨_,rfl⟩
  rw [hT1] at hu3 hu4 hu5 hmw
  have hlw : L.length * w <= 3 * w := Nat.mul_le_mul_right w hda4
  have hTab : zV (c + L.length * w) ids T1 out cs1 (made ++ [tn]) := by
   refine ⟨?_,hu5,by rw [hu4]; exact hT.ti,by omega,?_,hcb1,fun t ht => ?_⟩
   ·have := congrArg List.length hu4
    rw [List.length_map,List.length_map] at this
    have := hT.tb
    omega
   ·simp only [List.length_append,List.length_cons,List.length_nil]; omega
   ·rcases List.mem_append.1 ht with h | h
    ·exact hT.mv t h
    ·rw [List.mem_singleton] at h
     subst h
     rw [← htn]
     show L.length <= 1048576
     omega
  obtain ⟨⟨T2,o2,c2,t2⟩,hf⟩ : ∃ q,ll (fun x => mw s k x (uI ++ [p.1])) L T1 cs1 = q := ⟨_,rfl⟩
  rw [hf] at hmw
  dsimp only at hmw
  obtain ⟨hl1,hl2,hT2⟩ := NC hG1 L (by omega) L.length 0 (ku (sQ uS p.1,((0 : Nat) : Int),s,L,T1,cs1,out,made ++ [tn],())) (jM (uI ++ [p.1],false,L,(L.length : Int),((0 : Nat) : Int),s,T1,out,cs1,made ++ [tn],())) c T1 out cs1 (made ++ [tn]) (T2,o2,c2,t2) (by rw [List.drop_zero,hf]) (by omega) (by simp only [ku]; omega) (by simp only [jM]; omega) hTab
  dsimp only at hl1 hl2 hT2
  have hkS : Ah RS (sQ uS p.1) 0 s L T1 cs1 out (made ++ [tn]) 0 = true := ax hl1 0
  have hwS : AT RS (sQ uS p.1) 0 s L T1 cs1 out (made ++ [tn]) = _ := aI hl1
  have hk0 : mZ RI (uI ++ [p.1]) false L (L.length : Int) 0 s T1 out cs1 (made ++ [tn]) 0 = false := ax hl2 0
  have hk1 : mZ RI (uI ++ [p.1]) false L (L.length : Int) 0 s T1 out cs1 (made ++ [tn]) 1 = true := ax hl2 1
  have hwI : Aj RI (uI ++ [p.1]) false L (L.length : Int) 0 s T1 out cs1 (made ++ [tn]) = _ := aI hl2
  have z5 : (made ++ [tn] : List (Ty.T an)).length * 128 <= 140737488351232 := by simp only [List.length_append,List.length_cons,List.length_nil]; omega
  have z6 : (uI ++ [p.1] : List (Ty.T (.int .i64))).length * 8 <= 140737488351232 := by simp only [List.length_append,List.length_cons,List.length_nil]; omega
  have hcl2 : d184 uI = true /\ eB uI = uI := ⟨Fi uI (by omega),rfl⟩
  have hpk1 : wI (oo.length : Int) s out T cs made = true /\ aV (oo.length : Int) s out T cs made = ((ch : Int),true,s,out,T,cs1,made) := by
   simp only [wI,pB,aV,pdI,pvI,hch,cond_true,Option.isSome_some,Option.getD_some,nfs]
   exact ⟨trivial,trivial⟩
  dsimp only
  rw [hmw]
  have hap : made ++ tn :: t2 = made ++ [tn] ++ t2 := by rw [List.append_assoc]; rfl
  dsimp only
  rw [hap]
  refine ⟨Pd ?_,NZ ?_,hT2⟩
  ·simp only [gL,hd,hoe,hne,cond_false,cond_true,pd,hpk,hch,if_pos g0,if_pos g1,Int.toNat_natCast,hy,ai,hea,hj,if_pos j0,if_pos j1,hpj,hda1,hdo,hu1,tJ,fL,hcs.1,List.nil_append,if_pos z4,Option.isSome_some,hulS,htn,if_pos z5,hw.1,mQ,ib,hT1,hkS,hwS]
  ·simp only [gM,hdI,hvI,hne,cond_true,cond_false,hpk1.1,hpk1.2,Bool.not_true,if_pos g0,if_pos g1,Int.toNat_natCast,hy,ai,iy,m6,ko,cP,hei.1,hei.2,hj,if_pos j0,if_pos j1,hpj,hda2,hda3,hcs.2.1,hcs.2.2,LU,hu2,hu3,hT1,qR,hJ,htn,if_pos z5,Option.isSome_some,hcl2.1,hcl2.2,if_pos z6,hk0,hk1,hwI]
def WR : Nat -> Nat
 | 0 => 1
 | m + 1 => 1 + 3 * WR m
theorem Td {α : Type} {p q : α -> Bool} (h : ∀ x,p x = true -> q x = true) {y : α} (hq : q y = true) (hp : p y = false) : ∀ l : List α,y ∈ l -> l.countP p + 1 <= l.countP q
 | [],hy => by cases hy
 | a :: l,hy => by
  have hm : l.countP p <= l.countP q := List.countP_mono_left fun x _ => h x
  rw [List.countP_cons,List.countP_cons]
  rcases List.mem_cons.1 hy with rfl | hy
  ·simp only [hq,hp,if_true,Bool.false_eq_true,if_false]; omega
  ·have := Td h hq hp l hy
   cases hpa : p a with
   | true => simp only [h a hpa,if_true]; omega
   | false => simp only [Bool.false_eq_true,if_false]; omega
def unused (u ids : List (Ty.T (.int .i64))) : Nat := ids.countP fun y => !(u.any fun z => z == y)
theorem Pr (l : List (Ty.T aa)) (hb : l.length <= 1048576) (hv : ∀ x ∈ l,x.2.2.2.2.2.2.1.2.2.2.2.2.2.length <= 1048576) (h : xF l = true) : l.length <= 5 := by
 unfold xF at h
 rcases Jh l hb hv with ⟨j,x1,x2⟩ | ⟨x1,x2⟩
 ·have e0 : eX l false 0 0 = true := ax x1 0
  have ew : jI l false 0 = _ := aI x1
  simp only [e0,ew,cond_true] at h
  cases h
 ·have e0 : eX l false 0 0 = false := ax x1 0
  have e1 : eX l false 0 1 = true := ax x1 1
  have ew : jI l false 0 = _ := aI x1
  simp only [e0,e1,ew,cond_true,cond_false] at h
  have := of_decide_eq_true h
  omega
theorem QP {s : Ty.T y36} {ids : List (Ty.T (.int .i64))} (hb : s.1.length <= 1048576) (hs : s.2.1.length <= 1048576) :
  ∀ (m k k1 k2 : Nat) (uS uI : List (Ty.T (.int .i64))),m + 1 <= k -> m + 2 <= k1 -> m + 2 <= k2 -> uS.Perm uI -> uS.Nodup -> uS.length + m <= 1048576 -> unused uS ids <= m -> EH (WR m) (l4 k1) (jF k2) (fun x => mw s k x uI) uS uI s ids
 | 0,k,k1,k2,uS,uI,h0,h1,h2,hp,hn,hu,hc => by
  obtain ⟨k,rfl⟩ : ∃ k',k = k' + 1 := ⟨k - 1,by omega⟩
  obtain ⟨k1,rfl⟩ : ∃ k,k1 = k + 2 := ⟨k1 - 2,by omega⟩
  obtain ⟨k2,rfl⟩ : ∃ k,k2 = k + 2 := ⟨k2 - 2,by omega⟩
  refine Nu (w := 0) hb hs hp hn (by omega) fun y hy hf => ?_
  have : 0 < unused uS ids := List.countP_pos_iff.2 ⟨y,hy,by rw [hf]; rfl⟩
  omega
 | m + 1,k,k1,k2,uS,uI,h0,h1,h2,hp,hn,hu,hc => by
  obtain ⟨k,rfl⟩ : ∃ k',k = k' + 1 := ⟨k - 1,by omega⟩
  obtain ⟨k1,rfl⟩ : ∃ k,k1 = k + 2 := ⟨k1 - 2,by omega⟩
  obtain ⟨k2,rfl⟩ : ∃ k,k2 = k + 2 := ⟨k2 - 2,by omega⟩
  refine Nu (w := WR m) hb hs hp hn (by omega) fun y hy hf => ?_
  have hw := (MY uS y hn hf (by omega)).2
  have hd : (uS ++ [y]).Nodup := by
   rw [List.nodup_append]
   refine ⟨hn,by simp,fun a ha b hb => ?_⟩
   rw [List.mem_singleton] at hb
   subst hb
   intro he
   subst he
   have := List.any_eq_false.1 hf a ha
   simp at this
  refine QP hb hs m k (k1 + 1) (k2 + 1) _ _ (by omega) (by omega) (by omega) (hw.trans (hp.append_right [y])) (hw.nodup_iff.2 hd) (by rw [hw.length_eq,List.length_append]; simp only [List.length_cons,List.length_nil]; omega) ?_
  have h3 : unused (sQ uS y) ids = unused (uS ++ [y]) ids := by
   unfold unused
   congr 1
   funext x
   rw [hw.any_eq]
  have h4 : unused (uS ++ [y]) ids + 1 <= unused uS ids := Td (fun x hx => by simp only [List.any_append,Bool.not_or,Bool.and_eq_true] at hx; exact hx.1) (by rw [hf]; rfl) (by simp) ids hy
  omega
theorem YY (x : Ty.T y48) (u : List (Ty.T (.int .i64))) (s : Ty.T y36) (T : List (Ty.T aa)) (cs : List (Ty.T (.int .i64))) (out : List (Ty.T y48)) (made : List (Ty.T an)) : (wN x u s out T cs made,jE x u s out T cs made) = jF 40 x u s out T cs made := by rfl
/-- What rewriting answers. -/
noncomputable def rwM (s : Ty.T y36) (l : List (Ty.T aa)) (e : Ty.T y48) (cs : List (Ty.T (.int .i64))) : List (Ty.T y48) × List (Ty.T aa) × List (Ty.T (.int .i64)) × List (Ty.T an) :=
 cond (Gf s && xF l && dO e) ((mw s 6 e [] l cs).2.1,(mw s 6 e [] l cs).1,(mw s 6 e [] l cs).2.2.1,(mw s 6 e [] l cs).2.2.2) ([],l,cs,[])
theorem rewrite (s : Ty.T y36) (l : List (Ty.T aa)) (e : Ty.T y48) (cs : List (Ty.T (.int .i64))) (hb : s.1.length <= 1048576) (hs : s.2.1.length <= 1048576) (hl : l.length <= 1048576) (hv : ∀ x ∈ l,x.2.2.2.2.2.2.1.2.2.2.2.2.2.length <= 1048576) (hc : cs.length <= 1048576) :
  d76 s l e cs = true /\ d155 s l e cs = true /\ v76 s l e cs = rwM s l e cs /\ wj s l e cs = rwM s l e cs /\ (rwM s l e cs).1.length <= 1048576 /\ (rwM s l e cs).2.1.length = l.length /\ (∀ x ∈ (rwM s l e cs).2.1,x.2.2.2.2.2.2.1.2.2.2.2.2.2.length <= 1048576) /\ (rwM s l e cs).2.2.1.length <= 1048576 /\ (rwM s l e cs).2.2.2.length <= 1048576 /\ ∀ t ∈ (rwM s l e cs).2.2.2,t.2.2.2.2.2.1.length <= 1048576 := by
 have c1 := ctS l hl hv
 have c2 := ctI l hl hv
 have q1 := K5 s hb hs
 have q2 := Ll l hl hv
 have q3 := JS e
 have z1 : cs.length * 8 <= 140737488351232 := by omega
 have hcl := Fi cs (by omega)
 have key : ∃ (out : List (Ty.T y48)) (T : List (Ty.T aa)) (cs' : List (Ty.T (.int .i64))) (made : List (Ty.T an)),t76 s l e cs some = some (out,T,cs',made) /\ t155 s l e cs some = some (out,T,cs',made) /\ rwM s l e cs = (out,T,cs',made) /\ out.length <= 1048576 /\ T.length = l.length /\ (∀ x ∈ T,x.2.2.2.2.2.2.1.2.2.2.2.2.2.length <= 1048576) /\ cs'.length <= 1048576 /\ made.length <= 1048576 /\ ∀ t ∈ made,t.2.2.2.2.2.1.length <= 1048576 := by
  cases h1 : Gf s with
  | false =>
   refine ⟨[],l,cs,[],?_,?_,by simp [rwM,h1],by simp,rfl,hv,hc,by simp,fun t h => by cases h⟩
   ·simp [t76,ve,ld,vD,lp,nG,vT,nE,m5,c1.1,c1.2,q1.1,h1,z1]
   ·simp [t155,c2.1,c2.2,q1.2.1,q1.2.2,h1,hcl,eB]
  | true =>
  cases h2 : xF l with
  | false =>
   refine ⟨[],l,cs,[],?_,?_,by simp [rwM,h2],by simp,rfl,hv,hc,by simp,fun t h => by cases h⟩
   ·simp [t76,ve,ld,vD,lp,nG,vT,nE,m5,c1.1,c1.2,q1.1,h1,q2.1,h2,z1]
   ·cases h3 : dO e <;> simp [t155,c2.1,c2.2,q1.2.1,q1.2.2,h1,q2.2.1,q2.2.2,h2,q3,h3,hcl,eB]
  | true =>
  cases h3 : dO e with
  | false =>
   refine ⟨[],l,cs,[],?_,?_,by simp [rwM,h3],by simp,rfl,hv,hc,by simp,fun t h => by cases h⟩
   ·simp [t76,ve,ld,vD,lp,nG,vT,nE,m5,c1.1,c1.2,q1.1,h1,q2.1,h2,h3,z1]
   ·simp [t155,c2.1,c2.2,q1.2.1,q1.2.2,h1,q2.2.1,q2.2.2,h2,q3,h3,hcl,eB]
  | true =>
   have h5 := Pr l hl hv h2
   have hun : unused [] (l.map (·.1)) <= 5 := Nat.le_trans List.countP_le_length (by rw [List.length_map]; exact h5)
   obtain ⟨x1,x2,x3⟩ := QP (s := s) (ids := l.map (·.1)) hb hs 5 6 40 40 [] [] (by omega) (by omega) (by omega) (List.Perm.refl _) List.nodup_nil (by simp) hun e l [] cs [] 0
    ⟨hl,hv,rfl,by simp [WR],by simp [WR],hc,fun t h => by cases h⟩
   have hM : rwM s l e cs = ((mw s 6 e [] l cs).2.1,(mw s 6 e [] l cs).1,(mw s 6 e [] l cs).2.2.1,(mw s 6 e [] l cs).2.2.2) := by simp [rwM,h1,h2,h3]
   obtain ⟨⟨T,out,cs',made⟩,hm⟩ : ∃ z,mw s 6 e [] l cs = z := ⟨_,rfl⟩
   rw [hm] at hM
   dsimp only at x1 x2 x3
   rw [hm] at x1 x2 x3
   dsimp only at x1 x2 x3 hM
   rw [List.nil_append,List.nil_append] at x1 x2 x3
   have y1 : BN e [] s l cs [] [] = true := congrArg Prod.fst x1
   have y2 : mm e [] s l cs [] [] = (s,T,cs',out,made) := congrArg Prod.snd x1
   rw [← YY] at x2
   have y3 : wN e [] s [] l cs [] = true := congrArg Prod.fst x2
   have y4 : jE e [] s [] l cs [] = (true,s,out,T,cs',made) := congrArg Prod.snd x2
   have mb : made.length <= 1048576 := by have := x3.mb; omega
   have c3 := cuI made mb x3.mv
   have hTl : T.length = l.length := by have := congrArg List.length x3.ti; rwa [List.length_map,List.length_map] at this
   refine ⟨out,T,cs',made,?_,?_,hM,by have := x3.ob; omega,hTl,x3.tv,x3.cb,mb,x3.mv⟩
   ·simp [t76,ve,ld,vD,lp,nG,vT,nE,m5,c1.1,c1.2,q1.1,h1,q2.1,h2,h3,z1,y1,y2]
   ·simp [t155,c2.1,c2.2,q1.2.1,q1.2.2,h1,q2.2.1,q2.2.2,h2,q3,h3,hcl,eB,y3,y4,c3.1,c3.2]
 obtain ⟨out,T,cs',made,k1,k2,hM,k3⟩ := key
 have w1 : v76 s l e cs = (out,T,cs',made) := by
  show (t76 s l e cs some).getD _ = _
  rw [k1]
  rfl
 have w2 : wj s l e cs = (out,T,cs',made) := by
  show (t155 s l e cs some).getD _ = _
  rw [k2]
  rfl
 rw [w1,w2,hM]
 refine ⟨?_,?_,rfl,rfl,k3⟩
 ·show (t76 s l e cs some).isSome = true
  rw [k1]
  rfl
 ·show (t155 s l e cs some).isSome = true
  rw [k2]
  rfl
structure WfW (k : Nat) (u : List (Ty.T (.int .i64))) (T : List (Ty.T aa)) (cs : List (Ty.T (.int .i64))) : Prop where
 tb : T.length <= 1048576
 tv : ∀ x ∈ T,x.2.2.2.2.2.2.1.2.2.2.2.2.2.length <= 1048576
 tn : (T.map (·.1)).Nodup
 ub : u.length + k <= 1048576
 cb : cs.length <= 1048576
structure v9 (T : List (Ty.T aa)) (cs : List (Ty.T (.int .i64))) (T' : List (Ty.T aa)) (cs' : List (Ty.T (.int .i64))) : Prop where
 ti : T'.map (·.1) = T.map (·.1)
 tv : ∀ x ∈ T',x.2.2.2.2.2.2.1.2.2.2.2.2.2.length <= 1048576
 cs : cs'.length <= cs.length
theorem v9.trans {T T' T'' : List (Ty.T aa)} {cs cs' cs'' : List (Ty.T (.int .i64))} (h : v9 T cs T' cs') (k : v9 T' cs' T'' cs'') : v9 T cs T'' cs'' := ⟨k.ti.trans h.ti,k.tv,Nat.le_trans k.cs h.cs⟩
theorem v9.len {T T' : List (Ty.T aa)} {cs cs' : List (Ty.T (.int .i64))} (h : v9 T cs T' cs') : T'.length = T.length := by have := congrArg List.length h.ti; rwa [List.length_map,List.length_map] at this
inductive FoldP (P : Ty.T y48 -> List (Ty.T aa) -> List (Ty.T (.int .i64)) -> List (Ty.T aa) × List (Ty.T y48) × List (Ty.T (.int .i64)) × List (Ty.T an) -> Prop) : List (Ty.T y48) -> List (Ty.T aa) -> List (Ty.T (.int .i64)) -> List (Ty.T aa) × List (Ty.T y48) × List (Ty.T (.int .i64)) × List (Ty.T an) -> Prop
 | nil {T cs} : FoldP P [] T cs (T,[],cs,[])
 | cons {y L T cs a b} : P y T cs a -> FoldP P L a.1 a.2.2.1 b -> FoldP P (y :: L) T cs (b.1,a.2.1 ++ b.2.1,b.2.2.1,a.2.2.2 ++ b.2.2.2)
noncomputable def cfF (k : List Int) (x : Ty.T an) : List Int := cond (decide (x.2.2.2.1 ≥ (2 : Int))) (k ++ [x.2.2.1]) k
noncomputable def cfs (l : List (Ty.T an)) : List Int := l.foldl cfF []
theorem xj (k : List Int) (x : Ty.T an) : (cfF k x).length <= k.length + 1 := by
 unfold cfF
 cases decide (x.2.2.2.1 ≥ (2 : Int)) <;> simp
theorem qE : ∀ (l : List (Ty.T an)) (k : List Int),(l.foldl cfF k).length <= k.length + l.length
 | [],k => Nat.le_refl _
 | x :: l,k => by
  have := qE l (cfF k x)
  have := xj k x
  rw [List.foldl_cons,List.length_cons]
  omega
theorem N2 (l : List (Ty.T an)) (hl : l.length <= 1048576) (k : List Int) (i : Nat) (x : Ty.T an) (hx : l[i]? = some x) (hk : k.length <= i) : q9 (l,[],(i : Int),k,()) = some (0,(l,[],((i + 1 : Nat) : Int),(cfF k x),())) := by
 have hi := (List.getElem?_eq_some_iff.1 hx).1
 have h0 : (0 : Int) <= (i : Int) := by omega
 have hz : (k ++ [x.2.2.1] : List Int).length * 8 <= 140737488351232 := by simp only [List.length_append,List.length_cons,List.length_nil]; omega
 unfold q9 vi cfF
 dsimp only
 rw [decide_eq_true (show (i : Int) < (l.length : Int) by omega),cond_true]
 simp only [if_pos h0,Int.toNat_natCast,hx,ai,if_pos hz,az (n := i) (by omega)]
 cases decide (x.2.2.2.1 ≥ (2 : Int)) <;> rfl
theorem cfS (l : List (Ty.T an)) (hl : l.length <= 1048576) : d77 l = true /\ v77 l = cfs l /\ (cfs l).length <= 1048576 := by
 have h := fold_iter (s := q9) (mk := fun (k : List Int) i => (l,[],i,k,())) (xs := l) (f := cfF) (Inv := fun i k => k.length <= i) (fun i x k hx hI => ⟨N2 l hl k i x hx hI,Nat.le_trans (xj k x) (by omega)⟩) (fun k => by simp [q9,vi]) l.length 0 [] (zS (l,[],0,[],())) (by omega) (by simp only [zS]; omega) (Nat.le_refl _)
 have hk : D8 l [] 0 [] 0 = true := ax h 0
 have hw : KF l [] 0 [] = _ := aI h
 have hlen := qE l []
 simp only [List.length_nil] at hlen
 unfold d77 v77 cfs
 rw [hk,hw]
 exact ⟨rfl,rfl,by omega⟩
theorem OZ (l : List (Ty.T an)) (hl : l.length <= 1048576) (k : List Int) (i : Nat) (x : Ty.T an) (hx : l[i]? = some x) (hk : k.length <= i) : rl ([],l,((l).length : Int),(i : Int),k,()) = some (0,([],l,((l).length : Int),((i + 1 : Nat) : Int),(cfF k x),())) := by
 have hi := (List.getElem?_eq_some_iff.1 hx).1
 have h0 : (0 : Int) <= (i : Int) := by omega
 have hz : (k ++ [x.2.2.1] : List Int).length * 8 <= 140737488351232 := by simp only [List.length_append,List.length_cons,List.length_nil]; omega
 unfold rl vz cfF
 dsimp only
 rw [decide_eq_true (show (i : Int) < (l.length : Int) by omega),cond_true]
 simp only [if_pos h0,Int.toNat_natCast,hx,ai,if_pos hz,az (n := i) (by omega)]
 cases decide (x.2.2.2.1 ≥ (2 : Int)) <;> rfl
theorem cfI (l : List (Ty.T an)) (hl : l.length <= 1048576) : d83 l = true /\ v83 l = cfs l /\ (cfs l).length <= 1048576 := by
 have h := fold_iter (s := rl) (mk := fun (k : List Int) i => ([],l,((l).length : Int),i,k,())) (xs := l) (f := cfF) (Inv := fun i k => k.length <= i) (fun i x k hx hI => ⟨OZ l hl k i x hx hI,Nat.le_trans (xj k x) (by omega)⟩) (fun k => by simp [rl,vz]) l.length 0 [] (Ay ([],l,((l).length : Int),0,[],())) (by omega) (by simp only [Ay]; omega) (Nat.le_refl _)
 have hk : EP [] l ((l).length : Int) 0 [] 0 = true := ax h 0
 have hw : Ir [] l ((l).length : Int) 0 [] = _ := aI h
 have hlen := qE l []
 simp only [List.length_nil] at hlen
 unfold d83 v83 cfs
 rw [hk,hw]
 exact ⟨rfl,rfl,by omega⟩
theorem oO {V : Type} {s : V -> Option (Nat × V)} {mk fin : Nat -> V} {p : Nat -> Bool} {N c : Nat} (h : ∀ i,i < N -> (p i = true -> s (mk (i + 1)) = some (1,fin i)) /\ (p i = false -> s (mk (i + 1)) = some (0,mk i))) (h0 : s (mk 0) = some (c + 1,mk 0)) :
  ∀ (i n : Nat),i <= N -> i < n -> (∃ j,j < i /\ p j = true /\ (∀ k,j < k -> k < i -> p k = false) /\ iter s n (mk i) = some (0,fin j)) ∨ ((∀ k,k < i -> p k = false) /\ iter s n (mk i) = some (c,mk 0))
 | 0,n,hi,hn => by
  obtain ⟨m,rfl⟩ : ∃ m,n = m + 1 := ⟨n - 1,by omega⟩
  exact .inr ⟨fun k hk => absurd hk (Nat.not_lt_zero k),by rw [iter,h0]; rfl⟩
 | i + 1,n,hi,hn => by
  obtain ⟨m,rfl⟩ : ∃ m,n = m + 1 := ⟨n - 1,by omega⟩
  obtain ⟨h1,h2⟩ := h i (by omega)
  cases hp : p i with
  | true => exact .inl ⟨i,by omega,hp,fun k h3 h4 => by omega,by rw [iter,h1 hp]; rfl⟩
  | false =>
   rcases oO h h0 i m (by omega) (by omega) with ⟨j,g1,g2,g3,g4⟩ | ⟨g1,g2⟩
   ·exact .inl ⟨j,by omega,g2,fun k h3 h4 => if hk : k = i then hk ▸ hp else g3 k h3 (by omega),by rw [iter,h2 hp]; exact g4⟩
   ·exact .inr ⟨fun k hk => if hki : k = i then hki ▸ hp else g1 k (by omega),by rw [iter,h2 hp]; exact g2⟩
theorem lt2 (x : Int) : decide (x < 2) = !decide (x ≥ 2) := by
 by_cases h : x < 2
 ·rw [decide_eq_true h,decide_eq_false (by omega)]; rfl
 ·rw [decide_eq_false h,decide_eq_true (by omega)]; rfl
def tZ (p : Int × Int) : Bool := decide (IntKind.wrap .i64 (p.1 + 1) < p.2)
/-- The choices that come next. -/
def nz : List (Int × Int) -> Option (List Int)
 | [] => none
 | p :: r => match nz r with
  | some c => some (p.1 :: c)
  | none => cond (tZ p) (some [IntKind.wrap .i64 (p.1 + 1)]) none
theorem mX : ∀ l : List (Int × Int),(∀ p ∈ l,tZ p = false) -> nz l = none
 | [],_ => rfl
 | p :: r,h => by
  have h1 := mX r (fun q hq => h q (List.mem_cons_of_mem _ hq))
  have h2 := h p List.mem_cons_self
  simp only [nz,h1,h2,cond_false]
theorem DI (y : List (Int × Int)) (c : List Int) (hy : nz y = some c) : ∀ x : List (Int × Int),nz (x ++ y) = some (x.map (·.1) ++ c)
 | [] => by simpa using hy
 | p :: r => by
  have h1 := DI y c hy r
  simp only [List.cons_append,nz,h1,List.map_cons]
theorem L2 (l : List (Int × Int)) (j : Nat) (hj : j < l.length) (h1 : tZ l[j] = true) (h2 : ∀ k (hk : k < l.length),j < k -> tZ l[k] = false) : nz l = some ((l.take j).map (·.1) ++ [IntKind.wrap .i64 (l[j].1 + 1)]) := by
 have e : l = l.take j ++ l[j] :: l.drop (j + 1) := by rw [← List.drop_eq_getElem_cons hj,List.take_append_drop]
 have hd : nz (l.drop (j + 1)) = none := mX _ fun p hp => by
  obtain ⟨i,hi,rfl⟩ := List.getElem_of_mem hp
  rw [List.getElem_drop]
  exact h2 _ _ (by omega)
 have hc : nz (l[j] :: l.drop (j + 1)) = some [IntKind.wrap .i64 (l[j].1 + 1)] := by
  simp only [nz,hd,h1,cond_true]
 have h := DI _ _ hc (l.take j)
 rw [← e] at h
 exact h
theorem Cs : ∀ (l : List (Int × Int)) (c : List Int),nz l = some c -> c.length <= l.length /\ 1 <= c.length
 | [],c,h => by cases h
 | p :: r,c,h => by
  simp only [nz] at h
  cases hr : nz r with
  | some d =>
   rw [hr] at h
   cases h
   have := Cs r d hr
   simp only [List.length_cons]
   omega
  | none =>
   rw [hr] at h
   cases hb : tZ p with
   | true =>
    rw [hb] at h
    cases h
    simp
   | false =>
    rw [hb] at h
    cases h
noncomputable def poz (l : List (Ty.T an)) : List (Int × Int) := l.flatMap fun t => cond (decide (t.2.2.2.1 ≥ (2 : Int))) [(t.2.2.1,t.2.2.2.1)] []
theorem K8 (l : List (Ty.T an)) : ∀ k : List Int,l.foldl cfF k = k ++ cfs l := by
 induction l with
 | nil => intro k; simp [cfs]
 | cons x l ih =>
  intro k
  have h1 := ih (cfF k x)
  have h2 := ih (cfF [] x)
  simp only [cfs,List.foldl_cons] at h1 h2 ⊢
  rw [h1,h2]
  unfold cfF
  cases decide (x.2.2.2.1 ≥ (2 : Int)) <;> simp
theorem mW (l : List (Ty.T an)) : cfs l = (poz l).map (·.1) := by
 induction l with
 | nil => rfl
 | cons x l ih =>
  have h := K8 l (cfF [] x)
  simp only [cfs,List.foldl_cons] at h ⊢
  rw [h,show l.foldl cfF [] = cfs l from rfl,ih]
  simp only [poz,List.flatMap_cons,List.map_append]
  unfold cfF
  cases decide (x.2.2.2.1 ≥ (2 : Int)) <;> rfl
theorem EZ (a b : List (Ty.T an)) : poz (a ++ b) = poz a ++ poz b := by simp [poz]
theorem EC (l : List (Ty.T an)) : (poz l).length <= l.length := by
 induction l with
 | nil => exact Nat.le_refl _
 | cons x l ih =>
  simp only [poz,List.flatMap_cons,List.length_append,List.length_cons] at ih ⊢
  cases decide (x.2.2.2.1 ≥ (2 : Int)) <;> simp only [cond_true,cond_false,List.length_cons,List.length_nil] <;> omega
def B3 (t : Ty.T an) : Bool := decide (t.2.2.2.1 ≥ (2 : Int)) && decide (IntKind.wrap .i64 (t.2.2.1 + 1) < t.2.2.2.1)
theorem Ej (l : List (Ty.T an)) (h : ∀ t ∈ l,B3 t = false) : ∀ p ∈ poz l,tZ p = false := by
 intro p hp
 obtain ⟨t,ht,hq⟩ := List.mem_flatMap.1 hp
 have hb := h t ht
 unfold B3 at hb
 cases hc : decide (t.2.2.2.1 ≥ (2 : Int)) with
 | true =>
  rw [hc] at hb hq
  simp only [cond_true,List.mem_singleton] at hq
  subst hq
  simpa [tZ] using hb
 | false =>
  rw [hc] at hq
  cases hq
theorem OM (l : List (Ty.T an)) (j : Nat) (hj : j < l.length) (h1 : B3 l[j] = true) (h2 : ∀ k (hk : k < l.length),j < k -> B3 l[k] = false) : nz (poz l) = some (cfs (l.take j) ++ [IntKind.wrap .i64 (l[j].2.2.1 + 1)]) := by
 have e : l = l.take j ++ l[j] :: l.drop (j + 1) := by rw [← List.drop_eq_getElem_cons hj,List.take_append_drop]
 have hd : nz (poz (l.drop (j + 1))) = none := mX _ (Ej _ fun t ht => by
  obtain ⟨i,hi,rfl⟩ := List.getElem_of_mem ht
  rw [List.getElem_drop]
  exact h2 _ _ (by omega))
 have hc : nz (poz (l[j] :: l.drop (j + 1))) = some [IntKind.wrap .i64 (l[j].2.2.1 + 1)] := by
  unfold B3 at h1
  rw [Bool.and_eq_true] at h1
  have e2 : poz (l[j] :: l.drop (j + 1)) = (l[j].2.2.1,l[j].2.2.2.1) :: poz (l.drop (j + 1)) := by
   simp only [poz,List.flatMap_cons,h1.1,cond_true]
   rfl
  rw [e2]
  simp only [nz,hd,tZ,h1.2,cond_true]
 have h := DI _ _ hc (poz (l.take j))
 rw [← EZ,← e,← mW] at h
 exact h
theorem JK (l : List (Ty.T an)) (i : Nat) (hi : i < l.length) : cfs (l.take (i + 1)) = cond (decide (l[i].2.2.2.1 ≥ (2 : Int))) (cfs (l.take i) ++ [l[i].2.2.1]) (cfs (l.take i)) := by
 have e : l.take (i + 1) = l.take i ++ [l[i]] := by rw [List.take_succ_eq_append_getElem hi]
 rw [e]
 simp only [cfs,List.foldl_append,List.foldl_cons,List.foldl_nil]
 rfl
theorem LQ (l : List (Ty.T an)) (i : Nat) : (cfs l).take (cfs (l.take i)).length = cfs (l.take i) := by
 have e : cfs l = cfs (l.take i) ++ cfs (l.drop i) := by
  rw [mW,mW,mW,← List.map_append,← EZ,List.take_append_drop]
 rw [e]
 simp
theorem RZ (l : List (Ty.T an)) (hl : l.length <= 1048576) : d156 l = true /\ IZ l = match nz (poz l) with | some c => (true,c) | none => (false,[]) := by
 have hc := cfI l hl
 have h := oO (s := ot) (mk := fun i => (l,[],false,((cfs (l.take i)).length : Int),((i : Int) - 1),cfs l,false,[],())) (fin := fun i => (l,[],false,((cfs (l.take (i + 1))).length : Int),(((i + 1 : Nat) : Int) - 1),cfs l,true,cfs (l.take i) ++ [IntKind.wrap .i64 ((match l[i]? with | some t => t.2.2.1 | none => 0) + 1)],())) (p := fun i => match l[i]? with | some t => B3 t | none => false) (N := l.length) (c := 1) (fun i hi => by
  have h1 : l[i]? = some l[i] := List.getElem?_eq_getElem hi
  have ht := JK l i hi
  have hp := LQ l i
  have hlen : (cfs (l.take i)).length <= 1048576 := by
   have := qE (l.take i) []
   simp only [List.length_nil,List.length_take] at this
   unfold cfs
   omega
  have hle : (cfs (l.take i)).length <= (cfs l).length := by
   rw [← hp,List.length_take]
   omega
  have hcl := hc.2.2
  simp only [h1]
  generalize l[i] = t at ht h1
  have w0 : (((i + 1 : Nat) : Int) - 1) = (i : Int) := by omega
  have w1 : IntKind.wrap .i64 ((i : Int) - 1) = (i : Int) - 1 := aR (by omega) (by omega)
  simp only [ot,oX,w0,decide_eq_true (show (i : Int) ≥ 0 by omega),cond_true,if_pos (show (0 : Int) <= (i : Int) by omega),Int.toNat_natCast,h1,ai,B3,w1]
  cases h2 : decide (t.2.2.2.1 ≥ (2 : Int)) with
  | false =>
   have h3 : decide (t.2.2.2.1 < (2 : Int)) = true := (lt2 _).trans (by rw [h2]; rfl)
   rw [h2,cond_false] at ht
   rw [h3,ht]
   simp
  | true =>
   have h3 : decide (t.2.2.2.1 < (2 : Int)) = false := (lt2 _).trans (by rw [h2]; rfl)
   rw [h2,cond_true] at ht
   have w2 : IntKind.wrap .i64 (((cfs (l.take i) ++ [t.2.2.1]).length : Int) - 1) = ((cfs (l.take i)).length : Int) := by
    rw [List.length_append,aR (by simp <;> omega) (by simp <;> omega)]
    simp
   rw [h3,ht]
   simp only [w2,cond_false,Bool.true_and,if_pos (show (0 : Int) <= ((cfs (l.take i)).length : Int) by omega),if_pos (show ((cfs (l.take i)).length : Int) <= ((cfs l).length : Int) by omega),Int.toNat_natCast,List.drop_zero,hp]
   cases h4 : decide (IntKind.wrap .i64 (t.2.2.1 + 1) < t.2.2.2.1) with
   | false => simp
   | true =>
    have hz : (cfs (l.take i) ++ [IntKind.wrap .i64 (t.2.2.1 + 1)] : List Int).length * 8 <= 140737488351232 := by simp; omega
    simp only [cond_true,if_pos hz]
    simp) (by simp [ot,oX]) l.length (ru (l,[],false,((cfs l).length : Int),((l.length : Int) - 1),cfs l,false,[],())) (Nat.le_refl _) (by simp only [ru]; omega)
 have w3 : IntKind.wrap .i64 ((l.length : Int) - 1) = (l.length : Int) - 1 := aR (by omega) (by omega)
 rw [List.take_length] at h
 unfold d156 IZ t156
 try simp only [nfs]
 simp only [hc.1,hc.2.1,cond_true,w3]
 rcases h with ⟨j,hj,hp,hn,hi⟩ | ⟨hn,hi⟩
 ·have e0 : s4 l [] false ((cfs l).length : Int) ((l.length : Int) - 1) (cfs l) false [] 0 = true := ax hi 0
  have hw : D1 l [] false ((cfs l).length : Int) ((l.length : Int) - 1) (cfs l) false [] = _ := aI hi
  have h1 : l[j]? = some l[j] := List.getElem?_eq_getElem hj
  rw [h1] at hp
  have hz := OM l j hj hp (fun k hk hjk => by
   have := hn k hjk hk
   rw [List.getElem?_eq_getElem hk] at this
   exact this)
  simp [e0,hw,hz,h1]
 ·have e0 : s4 l [] false ((cfs l).length : Int) ((l.length : Int) - 1) (cfs l) false [] 0 = false := ax hi 0
  have e1 : s4 l [] false ((cfs l).length : Int) ((l.length : Int) - 1) (cfs l) false [] 1 = true := ax hi 1
  have hz : nz (poz l) = none := mX _ (Ej _ fun t ht => by
   obtain ⟨i,hi,rfl⟩ := List.getElem_of_mem ht
   have := hn i hi
   rw [List.getElem?_eq_getElem hi] at this
   exact this)
  simp [e0,e1,hz]
theorem Up (z : List (Int × Int)) (hl : z.length <= 1048576) : d78 (z.map (·.1)) (z.map (·.2)) = true /\ v78 (z.map (·.1)) (z.map (·.2)) = match nz z with | some c => c | none => [] := by
 have h := oO (s := uq) (mk := fun i => (z.map (·.1),z.map (·.2),((i : Int) - 1),[],())) (fin := fun i => (z.map (·.1),z.map (·.2),(((i + 1 : Nat) : Int) - 1),(z.map (·.1)).take i ++ [IntKind.wrap .i64 ((match z[i]? with | some t => t.1 | none => 0) + 1)],())) (p := fun i => match z[i]? with | some t => tZ t | none => false) (N := z.length) (c := 1) (fun i hi => by
  have h1 : z[i]? = some z[i] := List.getElem?_eq_getElem hi
  have h2 : (z.map (·.1))[i]? = some z[i].1 := by rw [List.getElem?_map,h1]; rfl
  have h3 : (z.map (·.2))[i]? = some z[i].2 := by rw [List.getElem?_map,h1]; rfl
  have hle : (i : Int) <= ((z.map (·.1)).length : Int) := by simp; omega
  have hz1 : ([] ++ (((z.map (·.1)).take i).drop 0) : List Int).length * 8 <= 140737488351232 := by simp; omega
  simp only [h1]
  generalize z[i] = t at h1 h2 h3
  have hz2 : (([] ++ (((z.map (·.1)).take i).drop 0)) ++ [IntKind.wrap .i64 (t.1 + 1)] : List Int).length * 8 <= 140737488351232 := by simp; omega
  have w0 : (((i + 1 : Nat) : Int) - 1) = (i : Int) := by omega
  have w1 : IntKind.wrap .i64 ((i : Int) - 1) = (i : Int) - 1 := aR (by omega) (by omega)
  simp only [uq,uz,w0,decide_eq_true (show (i : Int) ≥ 0 by omega),cond_true,if_pos (show (0 : Int) <= (i : Int) by omega),Int.toNat_natCast,h2,h3,ai,tZ,w1,if_pos hle,if_pos hz1,if_pos hz2]
  cases decide (IntKind.wrap .i64 (t.1 + 1) < t.2) <;> simp) (by simp [uq,uz]) z.length (Bp (z.map (·.1),z.map (·.2),((z.length : Int) - 1),[],())) (Nat.le_refl _) (by simp only [Bp,List.length_map]; omega)
 have w3 : IntKind.wrap .i64 (((z.map (·.1)).length : Int) - 1) = (z.length : Int) - 1 := by rw [List.length_map]; exact aR (by omega) (by omega)
 unfold d78 v78
 simp only [w3]
 rcases h with ⟨j,hj,hp,hn,hi⟩ | ⟨hn,hi⟩
 ·have e0 : nK (z.map (·.1)) (z.map (·.2)) ((z.length : Int) - 1) [] 0 = true := ax hi 0
  have hw : IJ (z.map (·.1)) (z.map (·.2)) ((z.length : Int) - 1) [] = _ := aI hi
  have h1 : z[j]? = some z[j] := List.getElem?_eq_getElem hj
  rw [h1] at hp
  have hz := L2 z j hj hp (fun k hk hjk => by
   have := hn k hjk hk
   rw [List.getElem?_eq_getElem hk] at this
   exact this)
  simp [e0,hw,hz,h1]
 ·have e0 : nK (z.map (·.1)) (z.map (·.2)) ((z.length : Int) - 1) [] 0 = false := ax hi 0
  have e1 : nK (z.map (·.1)) (z.map (·.2)) ((z.length : Int) - 1) [] 1 = true := ax hi 1
  have hz : nz z = none := mX _ (fun t ht => by
   obtain ⟨i,hi,rfl⟩ := List.getElem_of_mem ht
   have := hn i hi
   rw [List.getElem?_eq_getElem hi] at this
   exact this)
  simp [e0,e1,hz]
def HH (s : Ty.T y36) (l : List (Ty.T aa)) : Prop := s.1.length <= 1048576 /\ s.2.1.length <= 1048576 /\ l.length <= 1048576 /\ ∀ x ∈ l,x.2.2.2.2.2.2.1.2.2.2.2.2.2.length <= 1048576
noncomputable def trn (s : Ty.T y36) (l : List (Ty.T aa)) (e : Ty.T y48) (cs : List Int) : List (Ty.T an) := (rwM s l e cs).2.2.2
/-- The ways, and what is left then to be said. -/
noncomputable def lx (s : Ty.T y36) (l : List (Ty.T aa)) (e : Ty.T y48) : Nat -> List Int -> List (List Int)
 | 0,_ => []
 | n + 1,cs => cfs (trn s l e cs) :: match nz (poz (trn s l e cs)) with | some c => lx s l e n c | none => []
noncomputable def qu (s : Ty.T y36) (l : List (Ty.T aa)) (e : Ty.T y48) : Nat -> List Int -> List (List (Ty.T y48) × List (Ty.T aa) × List Int × List (Ty.T an))
 | 0,_ => []
 | n + 1,cs => rwM s l e cs :: match nz (poz (trn s l e cs)) with | some c => qu s l e n c | none => []
theorem qA (s : Ty.T y36) (l : List (Ty.T aa)) (e : Ty.T y48) : ∀ (n : Nat) (cs : List Int),(qu s l e n cs).map (fun x => cfs x.2.2.2) = lx s l e n cs
 | 0,cs => rfl
 | n + 1,cs => by
  simp only [qu,lx,List.map_cons,trn]
  cases nz (poz (rwM s l e cs).2.2.2) with
  | none => rfl
  | some c => simp only [qA s l e n c]
theorem yy (s : Ty.T y36) (l : List (Ty.T aa)) (e : Ty.T y48) : ∀ (n : Nat) (cs : List Int),(lx s l e n cs).length <= n
 | 0,cs => Nat.le_refl _
 | n + 1,cs => by
  simp only [lx,List.length_cons]
  cases nz (poz (trn s l e cs)) with
  | none => simp
  | some c => have := yy s l e n c; simp only; omega
theorem th (s : Ty.T y36) (l : List (Ty.T aa)) (e : Ty.T y48) (cs : List Int) (H : HH s l) (hc : cs.length <= 1048576) : (trn s l e cs).length <= 1048576 := (rewrite s l e cs H.1 H.2.1 H.2.2.1 H.2.2.2 hc).2.2.2.2.2.2.2.2.1
theorem Kh {t : List (Ty.T an)} {c : List Int} (ht : t.length <= 1048576) (h : nz (poz t) = some c) : c.length <= 1048576 := by
 have := (Cs _ _ h).1
 have := EC t
 omega
theorem w6 (s : Ty.T y36) (l : List (Ty.T aa)) (e : Ty.T y48) (H : HH s l) : ∀ (n : Nat) (cs : List Int),cs.length <= 1048576 -> ∀ x ∈ qu s l e n cs,x.2.2.2.length <= 1048576
 | 0,cs,hc,x,hx => by cases hx
 | n + 1,cs,hc,x,hx => by
  have ht := th s l e cs H hc
  simp only [qu] at hx
  rcases List.mem_cons.1 hx with rfl | hx
  ·exact ht
  ·cases hz : nz (poz (trn s l e cs)) with
   | none => rw [hz] at hx; cases hx
   | some c =>
    rw [hz] at hx
    exact w6 s l e H n c (Kh ht hz) x hx
theorem Ma (s : Ty.T y36) (l : List (Ty.T aa)) (e : Ty.T y48) (H : HH s l) (n : Nat) (cs : List Int) (hc : cs.length <= 1048576) : ∀ x ∈ lx s l e n cs,(List.length (α := Int) x) <= 1048576 := by
 intro x hx
 rw [← qA] at hx
 obtain ⟨y,hy,rfl⟩ := List.mem_map.1 hx
 exact (cfS _ (w6 s l e H n cs hc y hy)).2.2
theorem MO {X Y : Type} (G : X -> List Y) (l : List X) (b : List Y) : l.foldl (fun b x => b ++ G x) b = b ++ l.flatMap G := by
 induction l generalizing b with
 | nil => simp
 | cons x l ih => rw [List.foldl_cons,ih]; simp
def ofG (t : Ty.T an) : List Int := cond (decide (t.2.2.2.1 ≥ (2 : Int))) [t.2.2.2.1] []
theorem abV (x0 : List (Ty.T aa)) (x1 : List (Ty.T (.sl 3 (.int .i64)))) (x3 : Int) (x4 : Bool) (x5 : Ty.T y36) (x6 : List (Ty.T aa)) (x7 : Ty.T y48) (x8 : Ty.T y36) (x9 : Ty.T y48) (x10 : List (Ty.T (.sl 3 (.int .i64)))) (x11 : List (Ty.T (.int .i64))) (x13 : List (Ty.T y48)) (x14 : List (Ty.T (.int .i64))) (x15 : List (Ty.T aa)) (x16 : List (Ty.T (.int .i64))) (x17 : List (Ty.T an)) (pre : List Int) (hb : x17.length <= 1048576) (hp : pre.length <= 1048576) : Mv x0 x1 0 x3 x4 x5 x6 x7 x8 x9 x10 x11 pre x13 x14 x15 x16 x17 0 = true /\ MG x0 x1 0 x3 x4 x5 x6 x7 x8 x9 x10 x11 pre x13 x14 x15 x16 x17 = (x0,x1,(x17.length : Int),x3,x4,x5,x6,x7,x8,x9,x10,x11,(pre ++ x17.flatMap ofG),x13,x14,x15,x16,x17,()) := by
 have h := fold_iter (s := rq) (mk := fun (k : List Int) i => (x0,x1,i,x3,x4,x5,x6,x7,x8,x9,x10,x11,k,x13,x14,x15,x16,x17,())) (xs := x17) (f := fun k x => k ++ ofG x) (Inv := fun i k => k.length <= 1048576 + i) (fun i x k hx hI => by
  obtain ⟨hi,rfl⟩ := List.getElem?_eq_some_iff.1 hx
  have hq : (k.length + 1) * 8 <= 140737488351232 := by omega
  cases hD : decide (x17[i].2.2.2.1 ≥ (2 : Int)) with
  | true => exact ⟨by simp [rq,sE,ai,hi,Ed,El,sK,hD,hq,ofG,az (n := i) (by omega)],by simp only [ofG,hD,cond_true,List.length_append,List.length_cons,List.length_nil]; omega⟩
  | false => exact ⟨by simp [rq,sE,ai,hi,Ed,El,sK,hD,hq,ofG,az (n := i) (by omega)],by simp only [ofG,hD,cond_false,List.append_nil]; omega⟩) (fun k => by simp [rq,sE]) x17.length 0 pre (zw (x0,x1,0,x3,x4,x5,x6,x7,x8,x9,x10,x11,pre,x13,x14,x15,x16,x17,())) (by omega) (by simp only [zw]; omega) (by omega)
 rw [List.drop_zero,MO] at h
 exact ⟨ax h 0,aI h⟩
theorem LV (l : List (Ty.T an)) : l.flatMap ofG = (poz l).map (·.2) := by
 induction l with
 | nil => rfl
 | cons x l ih =>
  simp only [List.flatMap_cons,poz,List.map_append] at ih ⊢
  rw [ih]
  unfold ofG
  cases decide (x.2.2.2.1 ≥ (2 : Int)) <;> rfl
theorem OT (s : Ty.T y36) (l : List (Ty.T aa)) (e : Ty.T y48) (H : HH s l) (x1 out : List (List Int)) (cs : List Int) (hc : cs.length <= 1048576) (ho : out.length < 40) :
  qp (l,x1,s,e,out,cs,()) = match nz (poz (trn s l e cs)) with | some c => some (0,(l,x1,s,e,out ++ [cfs (trn s l e cs)],c,())) | none => some (1,(l,x1,s,e,out ++ [cfs (trn s l e cs)],[],())) := by
 have hr := rewrite s l e cs H.1 H.2.1 H.2.2.1 H.2.2.2 hc
 have ht := th s l e cs H hc
 have hT : (rwM s l e cs).2.2.2 = trn s l e cs := rfl
 have hcf := cfS (trn s l e cs) ht
 have hof := abV l x1 (out.length : Int) (decide ((out.length : Int) < (40 : Int))) s l e s e out cs (rwM s l e cs).1 (cfs (trn s l e cs)) (rwM s l e cs).2.1 (rwM s l e cs).2.2.1 (trn s l e cs) [] ht (by simp)
 rw [List.nil_append,LV] at hof
 have hn := Up (poz (trn s l e cs)) (Nat.le_trans (EC _) ht)
 rw [← mW] at hn
 have hz : (out.length + 1) * 24 <= 140737488351232 := by omega
 have hd : decide ((out.length : Int) < (40 : Int)) = true := decide_eq_true (by omega)
 rw [hd] at hof
 simp only [qp,uv,dW,Eo,hd,cond_true,hr.1,hr.2.2.1,hT,hcf.1,hcf.2.1,hof.1,hof.2,List.length_append,List.length_cons,List.length_nil,Nat.zero_add,if_pos hz,hn.1,hn.2]
 cases hnz : nz (poz (trn s l e cs)) with
 | none => rfl
 | some c =>
  have := (Cs _ _ hnz).2
  have h0 : ((c.length : Int) == (0 : Int)) = false := by simp; intro h; simp [h] at this
  simp only [h0,cond_false]
theorem Ji (s : Ty.T y36) (l : List (Ty.T aa)) (e : Ty.T y48) (H : HH s l) (x1 : List (List Int)) : ∀ (n : Nat) (out : List (List Int)) (cs : List Int) (m : Nat),out.length + n = 40 -> n < m -> cs.length <= 1048576 -> ∃ cs',iter qp m (l,x1,s,e,out,cs,()) = some (0,(l,x1,s,e,out ++ lx s l e n cs,cs',()))
 | 0,out,cs,m,hn,hm,hc => by
  obtain ⟨m,rfl⟩ : ∃ x,m = x + 1 := ⟨m - 1,by omega⟩
  have h0 : qp (l,x1,s,e,out,cs,()) = some (1,(l,x1,s,e,out,cs,())) := by
   simp only [qp,uv,decide_eq_false (show ¬ (out.length : Int) < (40 : Int) by omega),cond_false]
  exact ⟨cs,by rw [iter,h0,lx,List.append_nil]; rfl⟩
 | n + 1,out,cs,m,hn,hm,hc => by
  obtain ⟨m,rfl⟩ : ∃ x,m = x + 1 := ⟨m - 1,by omega⟩
  have h0 := OT s l e H x1 out cs hc (by omega)
  cases hz : nz (poz (trn s l e cs)) with
  | none =>
   rw [hz] at h0
   exact ⟨[],by rw [iter,h0]; simp only [lx,hz]; rfl⟩
  | some c =>
   rw [hz] at h0
   obtain ⟨cs',h1⟩ := Ji s l e H x1 n (out ++ [cfs (trn s l e cs)]) c m (by simp; omega) (by omega) (Kh (th s l e cs H hc) hz)
   refine ⟨cs',?_⟩
   rw [iter,h0]
   simp only [lx,hz,Option.bind_some]
   rw [h1,List.append_assoc]
   rfl
theorem RC (s : Ty.T y36) (l : List (Ty.T aa)) (e : Ty.T y48) (H : HH s l) : d19 s l e = true /\ v19 s l e = lx s l e 40 [] := by
 obtain ⟨cs',h⟩ := Ji s l e H [] 40 [] [] (Bi (l,[],s,e,[],[],())) (by simp) (by simp only [Bi]; omega) (by simp)
 have hk : MN l [] s e [] [] 0 = true := ax h 0
 have hw : Np l [] s e [] [] = _ := aI h
 unfold d19 v19 t19
 try simp only [nfs]
 rw [hk,hw]
 exact ⟨rfl,rfl⟩
theorem PQ (s : Ty.T y36) (l : List (Ty.T aa)) (e : Ty.T y48) (H : HH s l) (x1 out : List (List (Ty.T y48) × List (Ty.T aa) × List Int × List (Ty.T an))) (cs : List Int) (hc : cs.length <= 1048576) (ho : out.length < 40) :
  qg (l,x1,s,e,out,cs,()) = match nz (poz (trn s l e cs)) with | some c => some (0,(l,x1,s,e,out ++ [rwM s l e cs],c,())) | none => some (1,(l,x1,s,e,out ++ [rwM s l e cs],cs,())) := by
 have hr := rewrite s l e cs H.1 H.2.1 H.2.2.1 H.2.2.2 hc
 have ht := th s l e cs H hc
 have hT : (rwM s l e cs).2.2.2 = trn s l e cs := rfl
 have hn := RZ (trn s l e cs) ht
 have hz : (out.length + 1) * 96 <= 140737488351232 := by omega
 have hd : decide ((out.length : Int) < (40 : Int)) = true := decide_eq_true (by omega)
 simp only [qg,vJ,hd,cond_true,hr.2.1,hr.2.2.2.1,hT,List.length_append,List.length_cons,List.length_nil,Nat.zero_add,if_pos hz,hn.1,hn.2]
 cases hnz : nz (poz (trn s l e cs)) with
 | none => rfl
 | some c => rfl
theorem H4 (s : Ty.T y36) (l : List (Ty.T aa)) (e : Ty.T y48) (H : HH s l) (x1 : List (List (Ty.T y48) × List (Ty.T aa) × List Int × List (Ty.T an))) : ∀ (n : Nat) (out : List (List (Ty.T y48) × List (Ty.T aa) × List Int × List (Ty.T an))) (cs : List Int) (m : Nat),out.length + n = 40 -> n < m -> cs.length <= 1048576 -> ∃ cs',iter qg m (l,x1,s,e,out,cs,()) = some (0,(l,x1,s,e,out ++ qu s l e n cs,cs',()))
 | 0,out,cs,m,hn,hm,hc => by
  obtain ⟨m,rfl⟩ : ∃ x,m = x + 1 := ⟨m - 1,by omega⟩
  have h0 : qg (l,x1,s,e,out,cs,()) = some (1,(l,x1,s,e,out,cs,())) := by
   simp only [qg,vJ,decide_eq_false (show ¬ (out.length : Int) < (40 : Int) by omega),cond_false]
  exact ⟨cs,by rw [iter,h0,qu,List.append_nil]; rfl⟩
 | n + 1,out,cs,m,hn,hm,hc => by
  obtain ⟨m,rfl⟩ : ∃ x,m = x + 1 := ⟨m - 1,by omega⟩
  have h0 := PQ s l e H x1 out cs hc (by omega)
  cases hz : nz (poz (trn s l e cs)) with
  | none =>
   rw [hz] at h0
   exact ⟨cs,by rw [iter,h0]; simp only [qu,hz]; rfl⟩
  | some c =>
   rw [hz] at h0
   obtain ⟨cs',h1⟩ := H4 s l e H x1 n (out ++ [rwM s l e cs]) c m (by simp; omega) (by omega) (Kh (th s l e cs H hc) hz)
   refine ⟨cs',?_⟩
   rw [iter,h0]
   simp only [qu,hz,Option.bind_some]
   rw [h1,List.append_assoc]
   rfl
theorem Lg (s : Ty.T y36) (l : List (Ty.T aa)) (e : Ty.T y48) (n : Nat) (cs : List Int) : (qu s l e n cs).length <= n := by
 have := yy s l e n cs
 rw [← qA,List.length_map] at this
 exact this
theorem Yq (x0 : List (Ty.T (.sl 3 (.int .i64)))) (x4 : List (Ty.T y69)) (pre : List (List Int)) (hb : x4.length <= 1048576) (hp : pre.length <= 549755813888) (hv : ∀ x ∈ x4,x.2.2.2.length <= 1048576) : Fe x0 (x4.length : Int) 0 pre x4 0 = true /\ KA x0 (x4.length : Int) 0 pre x4 = (x0,(x4.length : Int),(x4.length : Int),(pre ++ x4.flatMap (fun x => [cfs x.2.2.2])),x4,()) := by
 have h := fold_iter (s := uL) (mk := fun (k : List (List Int)) i => (x0,(x4.length : Int),i,k,x4,())) (xs := x4) (f := fun k x => k ++ (fun x => [cfs x.2.2.2]) x) (Inv := fun i k => k.length <= 549755813888 + 1 * i) (fun i x k hx hI => by
  obtain ⟨hi,rfl⟩ := List.getElem?_eq_some_iff.1 hx
  have hl : k.length <= 824633720832 := by omega
  have hm := cfI x4[i].2.2.2 (hv _ (List.getElem_mem hi))
  have hG : ([cfs x4[i].2.2.2] : List (List Int)).length <= 1 := Nat.le_refl 1
  have hq : (k.length + 1) * 24 <= 140737488351232 := by omega
  refine ⟨by simp [uL,uO,ai,hi,hm.1,hm.2.1,hq,az (n := i) (by omega)],?_⟩
  have := hG
  simp only [List.length_append,Nat.mul_add]
  omega) (fun k => by simp [uL,uO]) x4.length 0 pre (AR (x0,(x4.length : Int),0,pre,x4,())) (by omega) (by simp only [AR]; omega) (by omega)
 rw [List.drop_zero,MO] at h
 exact ⟨ax h 0,aI h⟩
theorem LO {X Y : Type} (f : X -> Y) (l : List X) : l.flatMap (fun x => [f x]) = l.map f := by
 induction l with
 | nil => rfl
 | cons x l ih => rw [List.flatMap_cons,List.map_cons,ih]; rfl
theorem TP (s : Ty.T y36) (l : List (Ty.T aa)) (e : Ty.T y48) (H : HH s l) : d23 s l e = true /\ v23 s l e = lx s l e 40 [] := by
 obtain ⟨cs',h⟩ := H4 s l e H [] 40 [] [] (AH (l,[],s,e,[],[],())) (by simp) (by simp only [AH]; omega) (by simp)
 have hk : E5 l [] s e [] [] 0 = true := ax h 0
 have hw : GZ l [] s e [] [] = _ := aI h
 have hf : d82 s l e = true /\ v82 s l e = qu s l e 40 [] := by
  unfold d82 v82
  rw [hk,hw]
  exact ⟨rfl,rfl⟩
 have hlen := Lg s l e 40 []
 have h2 := Yq [] (qu s l e 40 []) [] (by omega) (by simp) (fun x hx => w6 s l e H 40 [] (by simp) x hx)
 unfold d23 v23
 rw [hf.1,hf.2,h2.1,h2.2]
 refine ⟨rfl,?_⟩
 rw [← qA]
 simp only [cond_true,List.nil_append]
 exact LO _ _
theorem T8 (k : Int) (r : List Int) (hk : 0 <= k) (hk2 : k <= 1152921504606846976) (hr : r.length <= 1099511627776) : d72 k r = true /\ v72 k r = (k + r.length,dN k r.length) := by
 have h := cI (A := Int × List Int) (c := 0) (s := u9) (mk := fun a i => (a.1,0,i,a.2,())) (N := r.length) (Inv := fun i a => a.1 = k + i /\ a.2 = dN k i ++ r.drop i) (fun i a hi hI => by
  obtain ⟨k',r'⟩ := a
  obtain ⟨e1,e2⟩ := hI
  simp only at e1 e2
  subst e1; subst e2
  have hl : (dN k i ++ r.drop i).length = r.length := by rw [List.length_append,eS,List.length_drop]; omega
  refine ⟨(k + (i : Int) + 1,dN k (i + 1) ++ r.drop (i + 1)),?_,by simp only; omega,rfl⟩
  have h1 : i < (dN k i ++ r.drop i).length := by omega
  have h2 : (dN k i ++ r.drop i)[i]? = some (dN k i ++ r.drop i)[i] := List.getElem?_eq_getElem h1
  have h3 : (i : Int) < ((dN k i ++ r.drop i).length : Int) := by omega
  simp only [u9,vd,h3,decide_true,cond_true,if_pos (show (0 : Int) <= (i : Int) by omega),if_true,Int.toNat_natCast,h2,ai,JG k r i hi]
  rw [aR (n := k + (i : Int) + 1) (by omega) (by omega),az (n := i) (by omega)]) (fun a hI => by
  obtain ⟨k',r'⟩ := a
  obtain ⟨e1,e2⟩ := hI
  simp only at e2
  have hl : r'.length = r.length := by rw [e2,List.length_append,eS,List.length_drop]; omega
  simp [u9,vd,hl]) r.length 0 (k,r) (zK (k,0,0,r,())) (by omega) (by simp only [zK]; omega) ⟨by simp,by simp [dN]⟩
 obtain ⟨⟨k',r'⟩,hi,e1,e2⟩ := h
 have ek : Fp k 0 0 r 0 = true := ax hi 0
 have ew : zQ k 0 0 r = _ := aI hi
 simp only at e1 e2
 unfold d72 v72
 rw [ek,ew]
 refine ⟨rfl,?_⟩
 show (k',r') = _
 rw [e1,e2,List.drop_length,List.append_nil]
theorem U9 (k : Int) (n : Nat) (hk : 0 <= k) (hk2 : k <= 1152921504606846976) (hn : n <= 1099511627776) : d90 (dN k n) k = true /\ v90 (dN k n) k = k + n := by
 have hl := eS k n
 have h := cI (A := Int) (c := 1) (s := u6) (mk := fun a i => (dN k n,a,0,i,())) (N := n) (Inv := fun i a => a = k + i) (fun i a hi hI => by
  subst hI
  have h1 := Il k n i hi
  refine ⟨k + (i : Int) + 1,?_,by omega⟩
  have h3 : (i : Int) < ((dN k n).length : Int) := by omega
  have h4 : (k + (i : Int) != k + (i : Int)) = false := by simp
  simp only [u6,vF,h3,decide_true,cond_true,if_pos (show (0 : Int) <= (i : Int) by omega),Int.toNat_natCast,h1,ai,h4,cond_false]
  rw [aR (n := k + (i : Int) + 1) (by omega) (by omega),az (n := i) (by omega)]) (fun a hI => by simp [u6,vF,hl]) n 0 k (Bc (dN k n,k,0,0,())) (by omega) (by simp only [Bc]; omega) (by simp)
 obtain ⟨k',hi,e1⟩ := h
 have e0 : qa (dN k n) k 0 0 0 = false := ax hi 0
 have ek : qa (dN k n) k 0 0 1 = true := ax hi 1
 have ew : zH (dN k n) k 0 0 = _ := aI hi
 unfold d90 v90
 rw [e0,ek,ew]
 refine ⟨rfl,?_⟩
 show k' = _
 rw [e1]
def dR : List (List Int) -> Nat
 | [] => 0
 | r :: l => r.length + dR l
def cB : Int -> List (List Int) -> List (List Int)
 | _,[] => []
 | k,r :: l => dN k r.length :: cB (k + (r.length : Int)) l
theorem nI (r : List Int) : ∀ l : List (List Int),dR (l ++ [r]) = dR l + r.length
 | [] => by simp [dR]
 | x :: l => by simp only [List.cons_append,dR,nI r l]; omega
theorem vy (r : List Int) : ∀ (l : List (List Int)) (k : Int),cB k (l ++ [r]) = cB k l ++ [dN (k + (dR l : Int)) r.length]
 | [],k => by simp [cB,dR]
 | x :: l,k => by
  simp only [List.cons_append,cB,vy r l,dR]
  rw [show k + (x.length : Int) + (dR l : Int) = k + ((x.length + dR l : Nat) : Int) by omega]
theorem ff : ∀ (l : List (List Int)) (k : Int),(cB k l).length = l.length
 | [],k => rfl
 | x :: l,k => by simp only [cB,List.length_cons,ff l]
theorem vI : ∀ (l : List (List Int)) (k : Int) (i : Nat) (h : i < l.length),(cB k l)[i]? = some (dN (k + (dR (l.take i) : Int)) l[i].length)
 | x :: l,k,0,h => by simp [cB,dR]
 | x :: l,k,i + 1,h => by
  simp only [List.length_cons] at h
  simp only [cB,List.getElem?_cons_succ,List.take_succ_cons,List.getElem_cons_succ,dR]
  rw [vI l _ i (by omega),show k + (x.length : Int) + (dR (l.take i) : Int) = k + ((x.length + dR (l.take i) : Nat) : Int) by omega]
theorem oS (l : List (List Int)) (hv : ∀ x ∈ l,x.length <= 1048576) : ∀ i : Nat,i <= l.length -> dR (l.take i) <= 1048576 * i
 | 0,_ => by simp [dR]
 | i + 1,h => by
  rw [List.take_succ_eq_append_getElem (by omega),nI]
  have := oS l hv i (by omega)
  have := hv l[i] (List.getElem_mem _)
  omega
theorem PG (k : Int) (r : List (List Int)) (hk : 0 <= k) (hk2 : k <= 1048576) (hr : r.length <= 1048576) (hv : ∀ x ∈ r,x.length <= 1048576) : d29 k r = true /\ v29 k r = (k + dR r,cB k r) := by
 have h := cI (A := Int × List (List Int)) (c := 0) (s := uD) (mk := fun a i => (a.1,0,i,a.2,())) (N := r.length) (Inv := fun i a => a.1 = k + dR (r.take i) /\ a.2 = cB k (r.take i) ++ r.drop i) (fun i a hi hI => by
  obtain ⟨k',r'⟩ := a
  obtain ⟨e1,e2⟩ := hI
  simp only at e1 e2
  subst e1; subst e2
  have hs := oS r hv i (by omega)
  have hx := hv r[i] (List.getElem_mem hi)
  have hlr : (cB k (r.take i)).length = i := by rw [ff,List.length_take]; omega
  have hl : (cB k (r.take i) ++ r.drop i).length = r.length := by rw [List.length_append,hlr,List.length_drop]; omega
  have hd : r.drop i = r[i] :: r.drop (i + 1) := List.drop_eq_getElem_cons hi
  have h2 : (cB k (r.take i) ++ r.drop i)[i]? = some r[i] := by rw [List.getElem?_append_right (by omega),hlr,Nat.sub_self,hd]; rfl
  have h3 : (i : Int) < ((cB k (r.take i) ++ r.drop i).length : Int) := by omega
  have hm := T8 (k + (dR (r.take i) : Int)) r[i] (by omega) (by omega) (by omega)
  have ht : r.take (i + 1) = r.take i ++ [r[i]] := List.take_succ_eq_append_getElem hi
  have hset : (cB k (r.take i) ++ r.drop i).set i (dN (k + (dR (r.take i) : Int)) r[i].length) = cB k (r.take (i + 1)) ++ r.drop (i + 1) := by
   rw [ht,vy,hd,List.set_append_right _ _ (by omega),hlr,Nat.sub_self,List.append_assoc]
   rfl
  refine ⟨(k + (dR (r.take i) : Int) + (r[i].length : Int),cB k (r.take (i + 1)) ++ r.drop (i + 1)),?_,by simp only [ht,nI]; omega,rfl⟩
  simp only [uD,vL,h3,decide_true,cond_true,if_pos (show (0 : Int) <= (i : Int) by omega),if_true,Int.toNat_natCast,h2,ai,hm.1,hm.2,hset,az (n := i) (by omega)]) (fun a hI => by
  obtain ⟨k',r'⟩ := a
  obtain ⟨e1,e2⟩ := hI
  simp only at e2
  have hl : r'.length = r.length := by rw [e2,List.length_append,ff,List.length_drop,List.length_take]; omega
  simp [uD,vL,hl]) r.length 0 (k,r) (zJ (k,0,0,r,())) (by omega) (by simp only [zJ]; omega) ⟨by simp [dR],by simp [cB]⟩
 obtain ⟨⟨k',r'⟩,hi,e1,e2⟩ := h
 have ek : Ff k 0 0 r 0 = true := ax hi 0
 have ew : A0 k 0 0 r = _ := aI hi
 simp only at e1 e2
 unfold d29 v29
 rw [ek,ew]
 refine ⟨rfl,?_⟩
 show (k',r') = _
 rw [e1,e2,List.drop_length,List.append_nil,List.take_length]
theorem Oq (k : Int) (r : List (List Int)) (hk : 0 <= k) (hk2 : k <= 1048576) (hr : r.length <= 1048576) (hv : ∀ x ∈ r,x.length <= 1048576) : d30 (cB k r) k = true /\ v30 (cB k r) k = k + dR r := by
 have hl := ff r k
 have h := cI (A := Int) (c := 1) (s := u5) (mk := fun a i => (cB k r,a,0,i,())) (N := r.length) (Inv := fun i a => a = k + dR (r.take i)) (fun i a hi hI => by
  subst hI
  have hs := oS r hv i (by omega)
  have hx := hv r[i] (List.getElem_mem hi)
  have h1 := vI r k i hi
  have ht : r.take (i + 1) = r.take i ++ [r[i]] := List.take_succ_eq_append_getElem hi
  refine ⟨k + (dR (r.take i) : Int) + (r[i].length : Int),?_,by rw [ht,nI]; omega⟩
  have h3 : (i : Int) < ((cB k r).length : Int) := by omega
  have hm := U9 (k + (dR (r.take i) : Int)) r[i].length (by omega) (by omega) (by omega)
  simp only [u5,vo,h3,decide_true,cond_true,if_pos (show (0 : Int) <= (i : Int) by omega),Int.toNat_natCast,h1,ai,hm.1,hm.2,decide_eq_false (show ¬ k + (dR (r.take i) : Int) + (r[i].length : Int) < 0 by omega),cond_false,az (n := i) (by omega)]) (fun a hI => by simp [u5,vo,hl]) r.length 0 k (zP (cB k r,k,0,0,())) (by omega) (by simp only [zP]; omega) (by simp [dR])
 obtain ⟨k',hi,e1⟩ := h
 have e0 : qm (cB k r) k 0 0 0 = false := ax hi 0
 have ek : qm (cB k r) k 0 0 1 = true := ax hi 1
 have ew : AM (cB k r) k 0 0 = _ := aI hi
 unfold d30 v30
 rw [e0,ek,ew]
 refine ⟨rfl,?_⟩
 show k' = _
 rw [e1,List.take_length]
theorem Ov (a1 : Int) (r0 : List (Ty.T ah)) (hk : 0 <= a1) (hk2 : a1 <= 1152921504606846976) (hr0 : r0.length <= 1048576) : d87 a1 r0 = true /\ a1 <= (v87 a1 r0).1 /\ (v87 a1 r0).1 <= a1 + 33554432 := by
 have h := cI (A := Int × List (Ty.T ah)) (c := 0) (s := uy) (mk := fun a i => (a.1,0,i,a.2,())) (N := r0.length) (Inv := fun i a => a.1 = a1 + 13 * i /\ a.2.length = r0.length) (fun i a hi hI => by
  obtain ⟨k,r⟩ := a
  obtain ⟨e1,e2⟩ := hI
  simp only at e1 e2
  have hi' : i < r.length := by omega
  refine ⟨(k + 1 + 1 + 1 + 1 + 1 + 1 + 1 + 1 + 1 + 1 + 1 + 1 + 1,r.set i ((k,(k + 1,(k + 1 + 1,(k + 1 + 1 + 1,(k + 1 + 1 + 1 + 1,(k + 1 + 1 + 1 + 1 + 1,(k + 1 + 1 + 1 + 1 + 1 + 1,(k + 1 + 1 + 1 + 1 + 1 + 1 + 1,(k + 1 + 1 + 1 + 1 + 1 + 1 + 1 + 1,(k + 1 + 1 + 1 + 1 + 1 + 1 + 1 + 1 + 1,(k + 1 + 1 + 1 + 1 + 1 + 1 + 1 + 1 + 1 + 1,((Int.tmod (k + 1 + 1 + 1 + 1 + 1 + 1 + 1 + 1 + 1 + 1 + 1) 3 == 0),(Int.tmod (k + 1 + 1 + 1 + 1 + 1 + 1 + 1 + 1 + 1 + 1 + 1 + 1) 3 == 0))))))))))))))),?_,by simp only; omega,by simp only [List.length_set]; exact e2⟩
  simp (disch := omega) [uy,v5,JX,Eu,KV,Fm,Jj,ET,Hy,Ft,Kd,Ea,BE,za,CF,yR,Dz,zo,BO,yf,Je,xM,Dt,xg,DG,yu,ai,hi',aR]) (fun a hI => by
  obtain ⟨k,r⟩ := a
  obtain ⟨e1,e2⟩ := hI
  simp only at e2
  simp [uy,v5,e2]) r0.length 0 (a1,r0) (Ad (a1,0,0,r0,())) (by omega) (by simp only [Ad]; omega) ⟨by simp,rfl⟩
 obtain ⟨⟨k',r'⟩,hi,e1,e2⟩ := h
 have ek : Fv a1 0 0 r0 0 = true := ax hi 0
 have ew : AE a1 0 0 r0 = _ := aI hi
 unfold d87 v87
 rw [ek,ew]
 simp only at e1
 refine ⟨rfl,?_,?_⟩
 ·show a1 <= k'
  omega
 ·show k' <= a1 + 33554432
  omega
theorem OR (a1 : Int) (r0 : List (Ty.T aD)) (hk : 0 <= a1) (hk2 : a1 <= 1152921504606846976) (hr0 : r0.length <= 1048576) : d88 a1 r0 = true /\ a1 <= (v88 a1 r0).1 /\ (v88 a1 r0).1 <= a1 + 33554432 := by
 have h := cI (A := Int × List (Ty.T aD)) (c := 0) (s := vQ) (mk := fun a i => (a.1,0,i,a.2,())) (N := r0.length) (Inv := fun i a => a.1 = a1 + 3 * i /\ a.2.length = r0.length) (fun i a hi hI => by
  obtain ⟨k,r⟩ := a
  obtain ⟨e1,e2⟩ := hI
  simp only at e1 e2
  have hi' : i < r.length := by omega
  refine ⟨(k + 1 + 1 + 1,r.set i ((k,(k + 1,(Int.tmod (k + 1 + 1) 3 == 0))))),?_,by simp only; omega,by simp only [List.length_set]; exact e2⟩
  simp (disch := omega) [vQ,uT,ai,hi',aR]) (fun a hI => by
  obtain ⟨k,r⟩ := a
  obtain ⟨e1,e2⟩ := hI
  simp only at e2
  simp [vQ,uT,e2]) r0.length 0 (a1,r0) (AF (a1,0,0,r0,())) (by omega) (by simp only [AF]; omega) ⟨by simp,rfl⟩
 obtain ⟨⟨k',r'⟩,hi,e1,e2⟩ := h
 have ek : En a1 0 0 r0 0 = true := ax hi 0
 have ew : Bl a1 0 0 r0 = _ := aI hi
 unfold d88 v88
 rw [ek,ew]
 simp only at e1
 refine ⟨rfl,?_,?_⟩
 ·show a1 <= k'
  omega
 ·show k' <= a1 + 33554432
  omega
theorem N8 (a0_2 : Int) (a0_3 : Int) (a1 : Int) (r0 : List (Ty.T ah)) (r1 : List (Ty.T aD)) (hk : 0 <= a1) (hk2 : a1 <= 1152921504573292544) (hr0 : r0.length <= 1048576) (hr1 : r1.length <= 1048576) : d27 a0_2 a0_3 a1 r0 r1 = true /\ a1 <= (v27 a0_2 a0_3 a1 r0 r1).1 /\ (v27 a0_2 a0_3 a1 r0 r1).1 <= a1 + 67108864 := by
 have m0 := Ov a1 r0 (by omega) (by omega) hr0
 have m1 := OR (v87 a1 r0).1 r1 (by have := m0.2.1; have := m0.2.2; omega) (by have := m0.2.1; have := m0.2.2; omega) hr1
 unfold d27 v27
 rw [m0.1,m1.1]
 simp only [cond_true]
 refine ⟨trivial,?_,?_⟩ <;> (have := m0.2.1; have := m0.2.2; have := m1.2.1; have := m1.2.2; omega)
theorem On (a1 : Int) (r0 : List (Ty.T y48)) (hk : 0 <= a1) (hk2 : a1 <= 1152921504606846976) (hr0 : r0.length <= 1048576) : d89 a1 r0 = true /\ a1 <= (v89 a1 r0).1 /\ (v89 a1 r0).1 <= a1 + 33554432 := by
 have h := cI (A := Int × List (Ty.T y48)) (c := 0) (s := vx) (mk := fun a i => (a.1,0,i,a.2,())) (N := r0.length) (Inv := fun i a => a.1 = a1 + 7 * i /\ a.2.length = r0.length) (fun i a hi hI => by
  obtain ⟨k,r⟩ := a
  obtain ⟨e1,e2⟩ := hI
  simp only at e1 e2
  have hi' : i < r.length := by omega
  refine ⟨(k + 1 + 1 + 1 + 1 + 1 + 1 + 1,r.set i ((k,(k + 1,(k + 1 + 1,(k + 1 + 1 + 1,(k + 1 + 1 + 1 + 1,(k + 1 + 1 + 1 + 1 + 1,(Int.tmod (k + 1 + 1 + 1 + 1 + 1 + 1) 3 == 0))))))))),?_,by simp only; omega,by simp only [List.length_set]; exact e2⟩
  simp (disch := omega) [vx,uY,JR,E3,J6,EF,G6,ED,Hi,EM,NM,Ey,Df,wL,ai,hi',aR]) (fun a hI => by
  obtain ⟨k,r⟩ := a
  obtain ⟨e1,e2⟩ := hI
  simp only at e2
  simp [vx,uY,e2]) r0.length 0 (a1,r0) (z8 (a1,0,0,r0,())) (by omega) (by simp only [z8]; omega) ⟨by simp,rfl⟩
 obtain ⟨⟨k',r'⟩,hi,e1,e2⟩ := h
 have ek : D9 a1 0 0 r0 0 = true := ax hi 0
 have ew : AW a1 0 0 r0 = _ := aI hi
 unfold d89 v89
 rw [ek,ew]
 simp only at e1
 refine ⟨rfl,?_,?_⟩
 ·show a1 <= k'
  omega
 ·show k' <= a1 + 33554432
  omega
theorem Oo (a1 : Int) (r0 : List (Ty.T aa)) (hk : 0 <= a1) (hk2 : a1 <= 1152886320212738048) (hr0 : Ty.short (.sl 103 aa) r0) : d28 a1 r0 = true /\ a1 <= (v28 a1 r0).1 /\ (v28 a1 r0).1 <= a1 + 35184394108928 := by
 have hlen := hr0.1
 have h := cI (A := Int × List (Ty.T aa)) (c := 0) (s := vN) (mk := fun a i => (a.1,0,i,a.2,())) (N := r0.length) (Inv := fun i a => a1 <= a.1 /\ a.1 <= a1 + 33554453 * i /\ a.2.length = r0.length /\ a.2.drop i = r0.drop i) (fun i a hi hI => by
  obtain ⟨k,r⟩ := a
  obtain ⟨e0,e1,e2,e3⟩ := hI
  simp only at e0 e1 e2 e3
  have hi' : i < r.length := by omega
  have hb1 : 33554453 * (i : Int) <= 35184394108928 - 33554453 := by omega
  have hx : Ty.short aa (r[i]'hi') := by
   have h1 : r.drop i = (r[i]'hi') :: r.drop (i + 1) := List.drop_eq_getElem_cons hi'
   rw [h1] at e3
   exact hr0.2 _ (List.mem_of_mem_drop (e3 ▸ List.mem_cons_self))
  have m0 := On (k + 1 + 1 + 1 + 1 + 1 + 1 + 1 + 1 + 1 + 1 + 1 + 1 + 1 + 1 + 1 + 1 + 1 + 1 + 1) (r[i]'hi').2.2.2.2.2.2.1.2.2.2.2.2.2 (by omega) (by omega) (hx.2.2.2.2.2.2.1.2.2.2.2.2.2.1)
  refine ⟨((v89 (k + 1 + 1 + 1 + 1 + 1 + 1 + 1 + 1 + 1 + 1 + 1 + 1 + 1 + 1 + 1 + 1 + 1 + 1 + 1) (r[i]'hi').2.2.2.2.2.2.1.2.2.2.2.2.2).1 + 1 + 1,r.set i ((k,(k + 1,(k + 1 + 1,(k + 1 + 1 + 1,((k + 1 + 1 + 1 + 1,(k + 1 + 1 + 1 + 1 + 1,(k + 1 + 1 + 1 + 1 + 1 + 1,(k + 1 + 1 + 1 + 1 + 1 + 1 + 1,(k + 1 + 1 + 1 + 1 + 1 + 1 + 1 + 1,(k + 1 + 1 + 1 + 1 + 1 + 1 + 1 + 1 + 1,k + 1 + 1 + 1 + 1 + 1 + 1 + 1 + 1 + 1 + 1)))))),((k + 1 + 1 + 1 + 1 + 1 + 1 + 1 + 1 + 1 + 1 + 1,k + 1 + 1 + 1 + 1 + 1 + 1 + 1 + 1 + 1 + 1 + 1 + 1),((k + 1 + 1 + 1 + 1 + 1 + 1 + 1 + 1 + 1 + 1 + 1 + 1 + 1,(k + 1 + 1 + 1 + 1 + 1 + 1 + 1 + 1 + 1 + 1 + 1 + 1 + 1 + 1,(k + 1 + 1 + 1 + 1 + 1 + 1 + 1 + 1 + 1 + 1 + 1 + 1 + 1 + 1 + 1,(k + 1 + 1 + 1 + 1 + 1 + 1 + 1 + 1 + 1 + 1 + 1 + 1 + 1 + 1 + 1 + 1,(k + 1 + 1 + 1 + 1 + 1 + 1 + 1 + 1 + 1 + 1 + 1 + 1 + 1 + 1 + 1 + 1 + 1,((Int.tmod (k + 1 + 1 + 1 + 1 + 1 + 1 + 1 + 1 + 1 + 1 + 1 + 1 + 1 + 1 + 1 + 1 + 1 + 1) 3 == 0),(v89 (k + 1 + 1 + 1 + 1 + 1 + 1 + 1 + 1 + 1 + 1 + 1 + 1 + 1 + 1 + 1 + 1 + 1 + 1 + 1) (r[i]'hi').2.2.2.2.2.2.1.2.2.2.2.2.2).2)))))),((v89 (k + 1 + 1 + 1 + 1 + 1 + 1 + 1 + 1 + 1 + 1 + 1 + 1 + 1 + 1 + 1 + 1 + 1 + 1 + 1) (r[i]'hi').2.2.2.2.2.2.1.2.2.2.2.2.2).1,(v89 (k + 1 + 1 + 1 + 1 + 1 + 1 + 1 + 1 + 1 + 1 + 1 + 1 + 1 + 1 + 1 + 1 + 1 + 1 + 1) (r[i]'hi').2.2.2.2.2.2.1.2.2.2.2.2.2).1 + 1)))))))))),?_,by simp only; have := m0.2.1; have := m0.2.2; omega,by simp only [Int.natCast_add,Int.mul_add]; have := m0.2.1; have := m0.2.2; omega,by simp only [List.length_set]; exact e2,?_⟩
  ·simp [vN,uR,IU,FC,Jx,FA,Is,EN,Hb,NK,Fs,J7,xu,Bx,yn,BI,yg,Dy,yT,B5,yv,Cd,xr,Du,G1,xk,Bz,yj,DR,Jf,zm,C7,wh,Dk,zb,C4,xL,JM,wk,DB,xq,CW,qW,rT,yw,yi,ai,hi',m0.1,aR (n := k + 1) (by omega) (by omega),aR (n := k + 1 + 1) (by omega) (by omega),aR (n := k + 1 + 1 + 1) (by omega) (by omega),aR (n := k + 1 + 1 + 1 + 1) (by omega) (by omega),aR (n := k + 1 + 1 + 1 + 1 + 1) (by omega) (by omega),aR (n := k + 1 + 1 + 1 + 1 + 1 + 1) (by omega) (by omega),aR (n := k + 1 + 1 + 1 + 1 + 1 + 1 + 1) (by omega) (by omega),aR (n := k + 1 + 1 + 1 + 1 + 1 + 1 + 1 + 1) (by omega) (by omega),aR (n := k + 1 + 1 + 1 + 1 + 1 + 1 + 1 + 1 + 1) (by omega) (by omega),aR (n := k + 1 + 1 + 1 + 1 + 1 + 1 + 1 + 1 + 1 + 1) (by omega) (by omega),aR (n := k + 1 + 1 + 1 + 1 + 1 + 1 + 1 + 1 + 1 + 1 + 1) (by omega) (by omega),aR (n := k + 1 + 1 + 1 + 1 + 1 + 1 + 1 + 1 + 1 + 1 + 1 + 1) (by omega) (by omega),aR (n := k + 1 + 1 + 1 + 1 + 1 + 1 + 1 + 1 + 1 + 1 + 1 + 1 + 1) (by omega) (by omega),aR (n := k + 1 + 1 + 1 + 1 + 1 + 1 + 1 + 1 + 1 + 1 + 1 + 1 + 1 + 1) (by omega) (by omega),aR (n := k + 1 + 1 + 1 + 1 + 1 + 1 + 1 + 1 + 1 + 1 + 1 + 1 + 1 + 1 + 1) (by omega) (by omega),aR (n := k + 1 + 1 + 1 + 1 + 1 + 1 + 1 + 1 + 1 + 1 + 1 + 1 + 1 + 1 + 1 + 1) (by omega) (by omega),aR (n := k + 1 + 1 + 1 + 1 + 1 + 1 + 1 + 1 + 1 + 1 + 1 + 1 + 1 + 1 + 1 + 1 + 1) (by omega) (by omega),aR (n := k + 1 + 1 + 1 + 1 + 1 + 1 + 1 + 1 + 1 + 1 + 1 + 1 + 1 + 1 + 1 + 1 + 1 + 1) (by omega) (by omega),aR (n := k + 1 + 1 + 1 + 1 + 1 + 1 + 1 + 1 + 1 + 1 + 1 + 1 + 1 + 1 + 1 + 1 + 1 + 1 + 1) (by omega) (by omega),aR (n := (v89 (k + 1 + 1 + 1 + 1 + 1 + 1 + 1 + 1 + 1 + 1 + 1 + 1 + 1 + 1 + 1 + 1 + 1 + 1 + 1) (r[i]'hi').2.2.2.2.2.2.1.2.2.2.2.2.2).1 + 1) (by have := m0.2.1; have := m0.2.2; omega) (by have := m0.2.1; have := m0.2.2; omega),aR (n := (v89 (k + 1 + 1 + 1 + 1 + 1 + 1 + 1 + 1 + 1 + 1 + 1 + 1 + 1 + 1 + 1 + 1 + 1 + 1 + 1) (r[i]'hi').2.2.2.2.2.2.1.2.2.2.2.2.2).1 + 1 + 1) (by have := m0.2.1; have := m0.2.2; omega) (by have := m0.2.1; have := m0.2.2; omega),az (n := i) (by omega)]
  ·simp only [List.drop_set_of_lt (Nat.lt_succ_self i)]
   have h2 := congrArg (List.drop 1) e3
   rwa [List.drop_drop,List.drop_drop] at h2) (fun a hI => by
  obtain ⟨k,r⟩ := a
  obtain ⟨e0,e1,e2,e3⟩ := hI
  simp only at e2
  simp [vN,uR,e2]) r0.length 0 (a1,r0) (AJ (a1,0,0,r0,())) (by omega) (by simp only [AJ]; omega) ⟨by simp,by simp,rfl,rfl⟩
 obtain ⟨⟨k',r'⟩,hi,e0,e1,e2,e3⟩ := h
 have ek : EA a1 0 0 r0 0 = true := ax hi 0
 have ew : AP a1 0 0 r0 = _ := aI hi
 unfold d28 v28
 rw [ek,ew]
 simp only at e0 e1
 refine ⟨rfl,?_,?_⟩
 ·show a1 <= k'
  omega
 ·show k' <= a1 + 35184394108928
  omega
theorem law (a0 : Ty.T y24) (a1 : List (Ty.T bF)) (a2 : Ty.T y48) (w0 : Ty.ok y24 a0) (w1 : Ty.ok (.sl 122 bF) a1) (w2 : Ty.ok y48 a2) : d4 a0 a1 a2 = true /\ v4 a0 a1 a2 = true := by
 unfold d4 v4
 have y0 := acb a0 w0 1048576 (by omega) (by omega)
 have z0 := y0
 by_cases g0 : v17 a0 1048576 < 0
 ·rw [decide_eq_true g0]; exact ⟨rfl,rfl⟩
 ·rw [decide_eq_false g0]
  have s0 := z0.2 (by omega)
  have y1 := WI a1 w1 (v17 a0 1048576) (by omega) (by have := z0.1; omega)
  rw [y1.1]
  have z1 := y1.2
  by_cases g1 : v18 a1 (v17 a0 1048576) < 0
  ·rw [decide_eq_true g1]; exact ⟨rfl,rfl⟩
  ·rw [decide_eq_false g1]
   have s1 := z1.2 (by omega)
   have s2 : Ty.short y48 a2 := by simp [Ty.short]
   have t0_20 := VT a0 s0
   have q0_25 := ZO a0 s0
   have t1_21 := abz a1 s1
   have e1_21 : v21 a1 = a1 := t1_21.2
   have q1_26 := Yn a1 s1
   have e2_22 : v22 a2 = a2 := R6 a2
   have ws := RC a0 a1 a2 ⟨s0.1.1,s0.2.1.1,s1.1,fun x hx => (s1.2 x hx).2.2.2.2.2.2.1.2.2.2.2.2.2.1⟩
   have wi := TP a0 a1 a2 ⟨s0.1.1,s0.2.1.1,s1.1,fun x hx => (s1.2 x hx).2.2.2.2.2.2.1.2.2.2.2.2.2.1⟩
   have wl := yy a0 a1 a2 40 []
   have wa := Ma a0 a1 a2 ⟨s0.1.1,s0.2.1.1,s1.1,fun x hx => (s1.2 x hx).2.2.2.2.2.2.1.2.2.2.2.2.2.1⟩ 40 [] (by simp)
   have q := V6 (lx a0 a1 a2 40 []) ⟨by omega,fun x hx => ⟨wa x hx,fun _ _ => by simp [Ty.short]⟩⟩
   have m0 := N8 a0.2.2.1 a0.2.2.2 1 a0.1 a0.2.1 (by omega) (by omega) s0.1.1 s0.2.1.1
   have m1 := Oo (v27 a0.2.2.1 a0.2.2.2 1 a0.1 a0.2.1).1 a1 (by have := m0.2; omega) (by have := m0.2; omega) s1
   have k1 : decide ((v28 (v27 a0.2.2.1 a0.2.2.2 1 a0.1 a0.2.1).1 a1).1 < (0 : Int)) = false := decide_eq_false (by have := m0.2; have := m1.2; omega)
   have m2 := PG 1 (lx a0 a1 a2 40 []) (by omega) (by omega) (by omega) wa
   have m3 := Oq 1 (lx a0 a1 a2 40 []) (by omega) (by omega) (by omega) wa
   simp only [t0_20.1,t0_20.2,It,q0_25.1,q0_25.2,t1_21.1,e1_21,q1_26.1,q1_26.2,e2_22,ws.1,ws.2,Mr,Gj,Ms,BQ,cC,mA,L6,Mt,LW,LN,OH,Pw,FO,wi.1,wi.2,q.1,q.2,m0.1,m1.1,k1,m2.1,m2.2,m3.1,m3.2]
   simp <;> omega
end Go.Proofs.YtcddhifkfakcjaaGreat.Vm
namespace Go.Proofs.YtcddhifkfakcjaaGreat.Pure
open Go Go.Proofs.YtcddhifkfakcjaaGreat.Lib Go.Proofs.YtcddhifkfakcjaaGreat.Vm
theorem fnExactWays : Go.Proofs.YtcddhifkfakcjaaGreat.fnExactWays.Pure := fun a0 a1 a2 w0 w1 w2 => by
  have h := law a0 a1 a2 w0 w1 w2
  show cond (d4 a0 a1 a2) (some (f4 (v4 a0 a1 a2))) none = _
  rw [h.1,h.2]
  rfl
end Go.Proofs.YtcddhifkfakcjaaGreat.Pure
