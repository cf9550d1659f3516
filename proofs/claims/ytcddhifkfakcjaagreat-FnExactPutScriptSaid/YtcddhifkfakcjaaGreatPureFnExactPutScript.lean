/- FnExactPutScript: the program and the reference answer alike. No condition. -/
import Derived.Test.YtcddhifkfakcjaaGreatVmRowFnExactPutScript
import Derived.Test.YtcddhifkfakcjaaGreatVmLibThree
namespace Go.Proofs.YtcddhifkfakcjaaGreat.Vm
open Go Go.Proofs.YtcddhifkfakcjaaGreat.Lib
set_option linter.unusedSimpArgs false
set_option linter.unusedVariables false
def SZ (r n : Int) (S : Prop) : Prop := r <= n /\ (0 <= r -> S)
theorem SZ.neg {n : Int} {S : Prop} (h0 : 0 <= n) : SZ (-1) n S := ⟨by omega, fun h => absurd h (by omega)⟩
theorem sz73 (x : List (Ty.T y179)) (ho : Ty.ok (.sl 200 y179) x) (n : Int) (h0 : 0 <= n) (h1 : n <= 1048576) : SZ (v73 x n) n (Ty.short (.sl 200 y179) x) := by
  have hl := ho.2
  unfold v73
  rw [wrap_in (by omega) (by omega)]
  by_cases h : n - (x.length : Int) < 0
  · rw [decide_eq_true h]; exact .neg h0
  · rw [decide_eq_false h]; exact ⟨show n - (x.length : Int) <= n by omega, fun _ => ⟨by omega, fun x _ => by simp [Ty.short]⟩⟩
theorem sz74 (x : List (Ty.T y181)) (ho : Ty.ok (.sl 202 y181) x) (n : Int) (h0 : 0 <= n) (h1 : n <= 1048576) : SZ (v74 x n) n (Ty.short (.sl 202 y181) x) := by
  have hl := ho.2
  unfold v74
  rw [wrap_in (by omega) (by omega)]
  by_cases h : n - (x.length : Int) < 0
  · rw [decide_eq_true h]; exact .neg h0
  · rw [decide_eq_false h]; exact ⟨show n - (x.length : Int) <= n by omega, fun _ => ⟨by omega, fun x _ => by simp [Ty.short]⟩⟩
theorem sz17 (x : Ty.T y24) (ho : Ty.ok y24 x) (n : Int) (h0 : 0 <= n) (h1 : n <= 1048576) : SZ (v17 x n) n (Ty.short y24 x) := by
  unfold v17
  have y0 := sz73 x.1 ho.1 n h0 h1
  have z0 := y0
  by_cases g0 : v73 x.1 n < 0
  · rw [decide_eq_true g0]; exact .neg h0
  · rw [decide_eq_false g0]
    have y1 := sz74 x.2.1 ho.2.1 (v73 x.1 n) (by omega) (by have := z0.1; omega)
    have z1 := y1
    by_cases g1 : v74 x.2.1 (v73 x.1 n) < 0
    · rw [decide_eq_true g1]; exact .neg h0
    · rw [decide_eq_false g1]
      exact ⟨show v74 x.2.1 (v73 x.1 n) <= n by have := z0.1; have := z1.1; omega, fun _ => ⟨(z0.2 (by omega)), ⟨(z1.2 (by omega)), (by simp [Ty.short])⟩⟩⟩
theorem sz162 (x : List (Ty.T y48)) (ho : Ty.ok (.sl 49 y48) x) (n : Int) (h0 : 0 <= n) (h1 : n <= 1048576) : SZ (v162 x n) n (Ty.short (.sl 49 y48) x) := by
  have hl := ho.2
  unfold v162
  rw [wrap_in (by omega) (by omega)]
  by_cases h : n - (x.length : Int) < 0
  · rw [decide_eq_true h]; exact .neg h0
  · rw [decide_eq_false h]; exact ⟨show n - (x.length : Int) <= n by omega, fun _ => ⟨by omega, fun x _ => by simp [Ty.short]⟩⟩
theorem sz146 (x : Ty.T y119) (ho : Ty.ok y119 x) (n : Int) (h0 : 0 <= n) (h1 : n <= 1048576) : SZ (v146 x n) n (Ty.short y119 x) := by
  unfold v146
  have y0 := sz162 x.2.2.2.2.2.2 ho.2.2.2.2.2.2 n h0 h1
  have z0 := y0
  by_cases g0 : v162 x.2.2.2.2.2.2 n < 0
  · rw [decide_eq_true g0]; exact .neg h0
  · rw [decide_eq_false g0]
    exact ⟨show v162 x.2.2.2.2.2.2 n <= n by have := z0.1; omega, fun _ => ⟨(by simp [Ty.short]), ⟨(by simp [Ty.short]), ⟨(by simp [Ty.short]), ⟨(by simp [Ty.short]), ⟨(by simp [Ty.short]), ⟨(by simp [Ty.short]), (z0.2 (by omega))⟩⟩⟩⟩⟩⟩⟩
theorem sz75 (x : Ty.T y121) (ho : Ty.ok y121 x) (n : Int) (h0 : 0 <= n) (h1 : n <= 1048576) : SZ (v75 x n) n (Ty.short y121 x) := by
  unfold v75
  have y0 := sz146 x.2.2.2.2.2.2.1 ho.2.2.2.2.2.2.1 n h0 h1
  have z0 := y0
  by_cases g0 : v146 x.2.2.2.2.2.2.1 n < 0
  · rw [decide_eq_true g0]; exact .neg h0
  · rw [decide_eq_false g0]
    exact ⟨show v146 x.2.2.2.2.2.2.1 n <= n by have := z0.1; omega, fun _ => ⟨(by simp [Ty.short]), ⟨(by simp [Ty.short]), ⟨(by simp [Ty.short]), ⟨(by simp [Ty.short]), ⟨(by simp [Ty.short]), ⟨(by simp [Ty.short]), ⟨(z0.2 (by omega)), (by simp [Ty.short])⟩⟩⟩⟩⟩⟩⟩⟩
theorem sz18 (xs : List (Ty.T y121)) (ho : Ty.ok (.sl 122 y121) xs) (n : Int) (h0 : 0 <= n) (h1 : n <= 1048576) : d18 xs n = true /\ SZ (v18 xs n) n (Ty.short (.sl 122 y121) xs) := by
  have hl := ho.2
  unfold d18 v18
  rw [wrap_in (n := n - (xs.length : Int)) (by omega) (by omega)]
  by_cases h : n - (xs.length : Int) < 0
  · rw [decide_eq_true h]; exact ⟨rfl, .neg h0⟩
  · rw [decide_eq_false h]
    have key := sz_iter (s := s18_0) (mk := fun n r i => (xs, n, r, i, ())) (xs := xs) (g := v75) (S := Ty.short y121) (B := 1048576) (fun x hx n h0 h1 => sz75 x (ho.1 x hx) n h0 h1) (fun i x n r hn0 hn1 hx => by
      have hxm : x ∈ xs := List.mem_of_getElem? hx
      obtain ⟨hi, rfl⟩ := List.getElem?_eq_some_iff.1 hx
      skip
      simp [s18_0, t18_0, optC_some, hi,  wrap_nat (n := i) (by omega), Bool.cond_decide]) (fun n r => by simp [s18_0, t18_0]) xs.length 0 (n - (xs.length : Int)) 0 (n18_0 (xs, n - (xs.length : Int), 0, 0, ())) (by omega) (by simp [n18_0]; omega) (by omega) (by omega)
    rcases key with ⟨n', i', hk⟩ | ⟨n', hk, g0, g1, g2⟩
    · have e0 : k18_0 xs (n - (xs.length : Int)) 0 0 0 = true := at_of hk 0
      have ew : w18_0 xs (n - (xs.length : Int)) 0 0 = (xs, n', -1, i', ()) := val_of hk
      rw [e0, ew]
      exact ⟨rfl, .neg h0⟩
    · have e0 : k18_0 xs (n - (xs.length : Int)) 0 0 0 = false := at_of hk 0
      have e1 : k18_0 xs (n - (xs.length : Int)) 0 0 1 = true := at_of hk 1
      have ew : w18_0 xs (n - (xs.length : Int)) 0 0 = (xs, n', 0, (xs.length : Int), ()) := val_of hk
      rw [e0, e1, ew]
      refine ⟨rfl, ?_, fun _ => ⟨by omega, fun x hx => ?_⟩⟩
      · show n' <= n
        omega
      · obtain ⟨j, hj⟩ := List.getElem?_of_mem hx
        exact g2 j x (Nat.zero_le _) hj
theorem sz124 (x : Ty.T y176) (ho : Ty.ok y176 x) (n : Int) (h0 : 0 <= n) (h1 : n <= 1048576) : SZ (v124 x n) n (Ty.short y176 x) := by
  unfold v124
  have y0 := sz75 x.2.1 ho.2.1 n h0 h1
  have z0 := y0
  by_cases g0 : v75 x.2.1 n < 0
  · rw [decide_eq_true g0]; exact .neg h0
  · rw [decide_eq_false g0]
    have y1 := sz162 x.2.2.2 ho.2.2.2 (v75 x.2.1 n) (by omega) (by have := z0.1; omega)
    have z1 := y1
    by_cases g1 : v162 x.2.2.2 (v75 x.2.1 n) < 0
    · rw [decide_eq_true g1]; exact .neg h0
    · rw [decide_eq_false g1]
      exact ⟨show v162 x.2.2.2 (v75 x.2.1 n) <= n by have := z0.1; have := z1.1; omega, fun _ => ⟨(by simp [Ty.short]), ⟨(z0.2 (by omega)), ⟨(by simp [Ty.short]), (z1.2 (by omega))⟩⟩⟩⟩
theorem sz49 (xs : List (Ty.T y176)) (ho : Ty.ok (.sl 177 y176) xs) (n : Int) (h0 : 0 <= n) (h1 : n <= 1048576) : d49 xs n = true /\ SZ (v49 xs n) n (Ty.short (.sl 177 y176) xs) := by
  have hl := ho.2
  unfold d49 v49
  rw [wrap_in (n := n - (xs.length : Int)) (by omega) (by omega)]
  by_cases h : n - (xs.length : Int) < 0
  · rw [decide_eq_true h]; exact ⟨rfl, .neg h0⟩
  · rw [decide_eq_false h]
    have key := sz_iter (s := s49_0) (mk := fun n r i => (xs, n, r, i, ())) (xs := xs) (g := v124) (S := Ty.short y176) (B := 1048576) (fun x hx n h0 h1 => sz124 x (ho.1 x hx) n h0 h1) (fun i x n r hn0 hn1 hx => by
      have hxm : x ∈ xs := List.mem_of_getElem? hx
      obtain ⟨hi, rfl⟩ := List.getElem?_eq_some_iff.1 hx
      skip
      simp [s49_0, t49_0, optC_some, hi,  wrap_nat (n := i) (by omega), Bool.cond_decide]) (fun n r => by simp [s49_0, t49_0]) xs.length 0 (n - (xs.length : Int)) 0 (n49_0 (xs, n - (xs.length : Int), 0, 0, ())) (by omega) (by simp [n49_0]; omega) (by omega) (by omega)
    rcases key with ⟨n', i', hk⟩ | ⟨n', hk, g0, g1, g2⟩
    · have e0 : k49_0 xs (n - (xs.length : Int)) 0 0 0 = true := at_of hk 0
      have ew : w49_0 xs (n - (xs.length : Int)) 0 0 = (xs, n', -1, i', ()) := val_of hk
      rw [e0, ew]
      exact ⟨rfl, .neg h0⟩
    · have e0 : k49_0 xs (n - (xs.length : Int)) 0 0 0 = false := at_of hk 0
      have e1 : k49_0 xs (n - (xs.length : Int)) 0 0 1 = true := at_of hk 1
      have ew : w49_0 xs (n - (xs.length : Int)) 0 0 = (xs, n', 0, (xs.length : Int), ()) := val_of hk
      rw [e0, e1, ew]
      refine ⟨rfl, ?_, fun _ => ⟨by omega, fun x hx => ?_⟩⟩
      · show n' <= n
        omega
      · obtain ⟨j, hj⟩ := List.getElem?_of_mem hx
        exact g2 j x (Nat.zero_le _) hj
theorem sz50 (x : List (Ty.T (.int .i64))) (ho : Ty.ok (.sl 3 (.int .i64)) x) (n : Int) (h0 : 0 <= n) (h1 : n <= 1048576) : SZ (v50 x n) n (Ty.short (.sl 3 (.int .i64)) x) := by
  have hl := ho.2
  unfold v50
  rw [wrap_in (by omega) (by omega)]
  by_cases h : n - (x.length : Int) < 0
  · rw [decide_eq_true h]; exact .neg h0
  · rw [decide_eq_false h]; exact ⟨show n - (x.length : Int) <= n by omega, fun _ => ⟨by omega, fun x _ => by simp [Ty.short]⟩⟩
theorem sz8 (x : Ty.T y29) (ho : Ty.ok y29 x) (n : Int) (h0 : 0 <= n) (h1 : n <= 1048576) : d8 x n = true /\ SZ (v8 x n) n (Ty.short y29 x) := by
  unfold d8 v8
  have y0 := sz17 x.1 ho.1 n h0 h1
  have z0 := y0
  by_cases g0 : v17 x.1 n < 0
  · rw [decide_eq_true g0]; exact ⟨rfl, .neg h0⟩
  · rw [decide_eq_false g0]
    have y1 := sz18 x.2.1 ho.2.1 (v17 x.1 n) (by omega) (by have := z0.1; omega)
    rw [y1.1]
    have z1 := y1.2
    by_cases g1 : v18 x.2.1 (v17 x.1 n) < 0
    · rw [decide_eq_true g1]; exact ⟨rfl, .neg h0⟩
    · rw [decide_eq_false g1]
      have y2 := sz49 x.2.2.1 ho.2.2.1 (v18 x.2.1 (v17 x.1 n)) (by omega) (by have := z0.1; have := z1.1; omega)
      rw [y2.1]
      have z2 := y2.2
      by_cases g2 : v49 x.2.2.1 (v18 x.2.1 (v17 x.1 n)) < 0
      · rw [decide_eq_true g2]; exact ⟨rfl, .neg h0⟩
      · rw [decide_eq_false g2]
        have y3 := sz50 x.2.2.2 ho.2.2.2 (v49 x.2.2.1 (v18 x.2.1 (v17 x.1 n))) (by omega) (by have := z0.1; have := z1.1; have := z2.1; omega)
        have z3 := y3
        by_cases g3 : v50 x.2.2.2 (v49 x.2.2.1 (v18 x.2.1 (v17 x.1 n))) < 0
        · rw [decide_eq_true g3]; exact ⟨rfl, .neg h0⟩
        · rw [decide_eq_false g3]
          exact ⟨rfl, ⟨show v50 x.2.2.2 (v49 x.2.2.1 (v18 x.2.1 (v17 x.1 n))) <= n by have := z0.1; have := z1.1; have := z2.1; have := z3.1; omega, fun _ => ⟨(z0.2 (by omega)), ⟨(z1.2 (by omega)), ⟨(z2.2 (by omega)), (z3.2 (by omega))⟩⟩⟩⟩⟩
theorem to150 (x : Ty.T y179) : v150 x = x := rfl
theorem to79 (xs : List (Ty.T y179)) (hs : Ty.short (.sl 200 y179) xs) : d79 xs = true /\ v79 xs = xs := by
  have hb := hs.1
  have h : ∀ (n : Nat) (hn : xs.length < n) (out : List (Ty.T y179)) (ho : out.length = xs.length), iter s79_0 n (xs, [], 0, out, ()) = some (0, (xs, [], (xs.length : Int), xs, ())) := fun n hn out ho => by
    have := map_iter (s := s79_0) (mk := fun i o => (xs, [], i, o, ())) (xs := xs) (conv := fun x => x) (fun i out x hx hl => by
      obtain ⟨hi, rfl⟩ := List.getElem?_eq_some_iff.1 hx
      skip
      simp [s79_0, t79_0, optC_some, hi, hl, to150, wrap_nat (n := i) (by omega)]) (fun out hl => by simp [s79_0, t79_0]) xs.length 0 out n (by omega) ho hn
    simpa using this
  have h := h (n79_0 (xs, [], 0, (List.replicate ((xs.length : Int)).toNat (Ty.zero y179)), ())) (by simp [n79_0]; omega) (List.replicate ((xs.length : Int)).toNat (Ty.zero y179)) (by simp)
  have hk : k79_0 xs [] 0 (List.replicate ((xs.length : Int)).toNat (Ty.zero y179)) 0 = true := at_of h 0
  have hw : w79_0 xs [] 0 (List.replicate ((xs.length : Int)).toNat (Ty.zero y179)) = (xs, [], (xs.length : Int), xs, ()) := val_of h
  constructor
  · show (_ && (_ && (cond (k79_0 xs [] 0 (List.replicate ((xs.length : Int)).toNat (Ty.zero y179)) 0) true false))) = true
    rw [hk]
    simp
    omega
  · show cond (k79_0 xs [] 0 (List.replicate ((xs.length : Int)).toNat (Ty.zero y179)) 0) (w79_0 xs [] 0 (List.replicate ((xs.length : Int)).toNat (Ty.zero y179))).2.2.2.1 [] = xs
    rw [hk, hw]
    rfl
theorem to151 (x : Ty.T y181) : v151 x = x := rfl
theorem to80 (xs : List (Ty.T y181)) (hs : Ty.short (.sl 202 y181) xs) : d80 xs = true /\ v80 xs = xs := by
  have hb := hs.1
  have h : ∀ (n : Nat) (hn : xs.length < n) (out : List (Ty.T y181)) (ho : out.length = xs.length), iter s80_0 n (xs, [], 0, out, ()) = some (0, (xs, [], (xs.length : Int), xs, ())) := fun n hn out ho => by
    have := map_iter (s := s80_0) (mk := fun i o => (xs, [], i, o, ())) (xs := xs) (conv := fun x => x) (fun i out x hx hl => by
      obtain ⟨hi, rfl⟩ := List.getElem?_eq_some_iff.1 hx
      skip
      simp [s80_0, t80_0, optC_some, hi, hl, to151, wrap_nat (n := i) (by omega)]) (fun out hl => by simp [s80_0, t80_0]) xs.length 0 out n (by omega) ho hn
    simpa using this
  have h := h (n80_0 (xs, [], 0, (List.replicate ((xs.length : Int)).toNat (Ty.zero y181)), ())) (by simp [n80_0]; omega) (List.replicate ((xs.length : Int)).toNat (Ty.zero y181)) (by simp)
  have hk : k80_0 xs [] 0 (List.replicate ((xs.length : Int)).toNat (Ty.zero y181)) 0 = true := at_of h 0
  have hw : w80_0 xs [] 0 (List.replicate ((xs.length : Int)).toNat (Ty.zero y181)) = (xs, [], (xs.length : Int), xs, ()) := val_of h
  constructor
  · show (_ && (_ && (cond (k80_0 xs [] 0 (List.replicate ((xs.length : Int)).toNat (Ty.zero y181)) 0) true false))) = true
    rw [hk]
    simp
    omega
  · show cond (k80_0 xs [] 0 (List.replicate ((xs.length : Int)).toNat (Ty.zero y181)) 0) (w80_0 xs [] 0 (List.replicate ((xs.length : Int)).toNat (Ty.zero y181))).2.2.2.1 [] = xs
    rw [hk, hw]
    rfl
theorem to20 (x : Ty.T y24) (hs : Ty.short y24 x) : d20 x = true /\ v20 x = (x.2.2.1, x.2.2.2, x.1, x.2.1) := by
  have h0 := to79 x.1 hs.1
  have h1 := to80 x.2.1 hs.2.1
  unfold d20 v20
  rw [h0.1, h0.2, h1.1, h1.2]
  exact ⟨rfl, rfl⟩
theorem to152 (x : Ty.T y96) : v152 x = x := rfl
theorem to153 (x : Ty.T y98) : v153 x = x := rfl
theorem to22 (x : Ty.T y48) : v22 x = x := rfl
theorem to164 (xs : List (Ty.T y48)) (hs : Ty.short (.sl 49 y48) xs) : d164 xs = true /\ v164 xs = xs := by
  have hb := hs.1
  have h : ∀ (n : Nat) (hn : xs.length < n) (out : List (Ty.T y48)) (ho : out.length = xs.length), iter s164_0 n (xs, [], 0, out, ()) = some (0, (xs, [], (xs.length : Int), xs, ())) := fun n hn out ho => by
    have := map_iter (s := s164_0) (mk := fun i o => (xs, [], i, o, ())) (xs := xs) (conv := fun x => x) (fun i out x hx hl => by
      obtain ⟨hi, rfl⟩ := List.getElem?_eq_some_iff.1 hx
      skip
      simp [s164_0, t164_0, optC_some, hi, hl, to22, wrap_nat (n := i) (by omega)]) (fun out hl => by simp [s164_0, t164_0]) xs.length 0 out n (by omega) ho hn
    simpa using this
  have h := h (n164_0 (xs, [], 0, (List.replicate ((xs.length : Int)).toNat (Ty.zero y48)), ())) (by simp [n164_0]; omega) (List.replicate ((xs.length : Int)).toNat (Ty.zero y48)) (by simp)
  have hk : k164_0 xs [] 0 (List.replicate ((xs.length : Int)).toNat (Ty.zero y48)) 0 = true := at_of h 0
  have hw : w164_0 xs [] 0 (List.replicate ((xs.length : Int)).toNat (Ty.zero y48)) = (xs, [], (xs.length : Int), xs, ()) := val_of h
  constructor
  · show (_ && (_ && (cond (k164_0 xs [] 0 (List.replicate ((xs.length : Int)).toNat (Ty.zero y48)) 0) true false))) = true
    rw [hk]
    simp
    omega
  · show cond (k164_0 xs [] 0 (List.replicate ((xs.length : Int)).toNat (Ty.zero y48)) 0) (w164_0 xs [] 0 (List.replicate ((xs.length : Int)).toNat (Ty.zero y48))).2.2.2.1 [] = xs
    rw [hk, hw]
    rfl
theorem to154 (x : Ty.T y119) (hs : Ty.short y119 x) : d154 x = true /\ v154 x = (x.1, x.2.1, x.2.2.1, x.2.2.2.1, x.2.2.2.2.1, x.2.2.2.2.2.1, x.2.2.2.2.2.2) := by
  have h0 := to164 x.2.2.2.2.2.2 hs.2.2.2.2.2.2
  unfold d154 v154
  rw [h0.1, h0.2]
  exact ⟨rfl, rfl⟩
theorem to81 (x : Ty.T y121) (hs : Ty.short y121 x) : d81 x = true /\ v81 x = (x.1, x.2.1, x.2.2.1, x.2.2.2.1, x.2.2.2.2.1, x.2.2.2.2.2.1, x.2.2.2.2.2.2.1.1, x.2.2.2.2.2.2.1.2.1, x.2.2.2.2.2.2.1.2.2.1, x.2.2.2.2.2.2.1.2.2.2.1, x.2.2.2.2.2.2.1.2.2.2.2.1, x.2.2.2.2.2.2.1.2.2.2.2.2.1, x.2.2.2.2.2.2.2.1, x.2.2.2.2.2.2.2.2, x.2.2.2.2.2.2.1.2.2.2.2.2.2) := by
  have h0 : True /\ v152 x.2.2.2.2.1 = _ := ⟨trivial, to152 x.2.2.2.2.1⟩
  have h1 : True /\ v153 x.2.2.2.2.2.1 = _ := ⟨trivial, to153 x.2.2.2.2.2.1⟩
  have h2 := to154 x.2.2.2.2.2.2.1 hs.2.2.2.2.2.2.1
  unfold d81 v81
  rw [h0.2, h1.2, h2.1, h2.2]
  exact ⟨rfl, rfl⟩
theorem to21 (xs : List (Ty.T y121)) (hs : Ty.short (.sl 122 y121) xs) : d21 xs = true /\ v21 xs = xs := by
  have hb := hs.1
  have h : ∀ (n : Nat) (hn : xs.length < n) (out : List (Ty.T y102)) (ho : out.length = xs.length), iter s21_0 n (xs, [], 0, out, ()) = some (0, (xs, [], (xs.length : Int), xs, ())) := fun n hn out ho => by
    have := map_iter (s := s21_0) (mk := fun i o => (xs, [], i, o, ())) (xs := xs) (conv := fun x => x) (fun i out x hx hl => by
      obtain ⟨hi, rfl⟩ := List.getElem?_eq_some_iff.1 hx
      have h0 := to81 xs[i] (hs.2 _ (List.getElem_mem hi))
      simp [s21_0, t21_0, optC_some, hi, hl, h0.1, h0.2, wrap_nat (n := i) (by omega)]) (fun out hl => by simp [s21_0, t21_0]) xs.length 0 out n (by omega) ho hn
    simpa using this
  have h := h (n21_0 (xs, [], 0, (List.replicate ((xs.length : Int)).toNat (Ty.zero y102)), ())) (by simp [n21_0]; omega) (List.replicate ((xs.length : Int)).toNat (Ty.zero y102)) (by simp)
  have hk : k21_0 xs [] 0 (List.replicate ((xs.length : Int)).toNat (Ty.zero y102)) 0 = true := at_of h 0
  have hw : w21_0 xs [] 0 (List.replicate ((xs.length : Int)).toNat (Ty.zero y102)) = (xs, [], (xs.length : Int), xs, ()) := val_of h
  constructor
  · show (_ && (_ && (cond (k21_0 xs [] 0 (List.replicate ((xs.length : Int)).toNat (Ty.zero y102)) 0) true false))) = true
    rw [hk]
    simp
    omega
  · show cond (k21_0 xs [] 0 (List.replicate ((xs.length : Int)).toNat (Ty.zero y102)) 0) (w21_0 xs [] 0 (List.replicate ((xs.length : Int)).toNat (Ty.zero y102))).2.2.2.1 [] = xs
    rw [hk, hw]
    rfl
theorem to133 (x : Ty.T y176) (hs : Ty.short y176 x) : d133 x = true /\ v133 x = (x.1, x.2.1.1, x.2.1.2.1, x.2.1.2.2.1, x.2.1.2.2.2.1, x.2.1.2.2.2.2.1, x.2.1.2.2.2.2.2.1, x.2.1.2.2.2.2.2.2.1.1, x.2.1.2.2.2.2.2.2.1.2.1, x.2.1.2.2.2.2.2.2.1.2.2.1, x.2.1.2.2.2.2.2.2.1.2.2.2.1, x.2.1.2.2.2.2.2.2.1.2.2.2.2.1, x.2.1.2.2.2.2.2.2.1.2.2.2.2.2.1, x.2.1.2.2.2.2.2.2.2.1, x.2.1.2.2.2.2.2.2.2.2, x.2.2.1, x.2.1.2.2.2.2.2.2.1.2.2.2.2.2.2, x.2.2.2) := by
  have h0 := to81 x.2.1 hs.2.1
  have h1 := to164 x.2.2.2 hs.2.2.2
  unfold d133 v133
  rw [h0.1, h0.2, h1.1, h1.2]
  exact ⟨rfl, rfl⟩
theorem to59 (xs : List (Ty.T y176)) (hs : Ty.short (.sl 177 y176) xs) : d59 xs = true /\ v59 xs = xs := by
  have hb := hs.1
  have h : ∀ (n : Nat) (hn : xs.length < n) (out : List (Ty.T y105)) (ho : out.length = xs.length), iter s59_0 n (xs, [], 0, out, ()) = some (0, (xs, [], (xs.length : Int), xs, ())) := fun n hn out ho => by
    have := map_iter (s := s59_0) (mk := fun i o => (xs, [], i, o, ())) (xs := xs) (conv := fun x => x) (fun i out x hx hl => by
      obtain ⟨hi, rfl⟩ := List.getElem?_eq_some_iff.1 hx
      have h0 := to133 xs[i] (hs.2 _ (List.getElem_mem hi))
      simp [s59_0, t59_0, optC_some, hi, hl, h0.1, h0.2, wrap_nat (n := i) (by omega)]) (fun out hl => by simp [s59_0, t59_0]) xs.length 0 out n (by omega) ho hn
    simpa using this
  have h := h (n59_0 (xs, [], 0, (List.replicate ((xs.length : Int)).toNat (Ty.zero y105)), ())) (by simp [n59_0]; omega) (List.replicate ((xs.length : Int)).toNat (Ty.zero y105)) (by simp)
  have hk : k59_0 xs [] 0 (List.replicate ((xs.length : Int)).toNat (Ty.zero y105)) 0 = true := at_of h 0
  have hw : w59_0 xs [] 0 (List.replicate ((xs.length : Int)).toNat (Ty.zero y105)) = (xs, [], (xs.length : Int), xs, ()) := val_of h
  constructor
  · show (_ && (_ && (cond (k59_0 xs [] 0 (List.replicate ((xs.length : Int)).toNat (Ty.zero y105)) 0) true false))) = true
    rw [hk]
    simp
    omega
  · show cond (k59_0 xs [] 0 (List.replicate ((xs.length : Int)).toNat (Ty.zero y105)) 0) (w59_0 xs [] 0 (List.replicate ((xs.length : Int)).toNat (Ty.zero y105))).2.2.2.1 [] = xs
    rw [hk, hw]
    rfl
theorem to60 (xs : List (Int)) (hs : Ty.short (.sl 3 (.int .i64)) xs) : d60 xs = true /\ v60 xs = xs := by
  have hb := hs.1
  have h : ∀ (n : Nat) (hn : xs.length < n) (out : List (Int)) (ho : out.length = xs.length), iter s60_0 n (xs, [], 0, out, ()) = some (0, (xs, [], (xs.length : Int), xs, ())) := fun n hn out ho => by
    have := map_iter (s := s60_0) (mk := fun i o => (xs, [], i, o, ())) (xs := xs) (conv := fun x => x) (fun i out x hx hl => by
      obtain ⟨hi, rfl⟩ := List.getElem?_eq_some_iff.1 hx
      skip
      simp [s60_0, t60_0, optC_some, hi, hl,  wrap_nat (n := i) (by omega)]) (fun out hl => by simp [s60_0, t60_0]) xs.length 0 out n (by omega) ho hn
    simpa using this
  have h := h (n60_0 (xs, [], 0, (List.replicate ((xs.length : Int)).toNat (Ty.zero (.int .i64))), ())) (by simp [n60_0]; omega) (List.replicate ((xs.length : Int)).toNat (Ty.zero (.int .i64))) (by simp)
  have hk : k60_0 xs [] 0 (List.replicate ((xs.length : Int)).toNat (Ty.zero (.int .i64))) 0 = true := at_of h 0
  have hw : w60_0 xs [] 0 (List.replicate ((xs.length : Int)).toNat (Ty.zero (.int .i64))) = (xs, [], (xs.length : Int), xs, ()) := val_of h
  constructor
  · show (_ && (_ && (cond (k60_0 xs [] 0 (List.replicate ((xs.length : Int)).toNat (Ty.zero (.int .i64))) 0) true false))) = true
    rw [hk]
    simp
    omega
  · show cond (k60_0 xs [] 0 (List.replicate ((xs.length : Int)).toNat (Ty.zero (.int .i64))) 0) (w60_0 xs [] 0 (List.replicate ((xs.length : Int)).toNat (Ty.zero (.int .i64)))).2.2.2.1 [] = xs
    rw [hk, hw]
    rfl
theorem to10 (x : Ty.T y29) (hs : Ty.short y29 x) : d10 x = true /\ v10 x = (x.1.2.2.1, x.1.2.2.2, x.1.1, x.1.2.1, x.2.1, x.2.2.1, x.2.2.2) := by
  have h0 := to20 x.1 hs.1
  have h1 := to21 x.2.1 hs.2.1
  have h2 := to59 x.2.2.1 hs.2.2.1
  have h3 := to60 x.2.2.2 hs.2.2.2
  unfold d10 v10
  rw [h0.1, h0.2, h1.1, h1.2, h2.1, h2.2, h3.1, h3.2]
  exact ⟨rfl, rfl⟩
theorem eq12 (xs : List (Int)) (hs : Ty.short (.sl 5 (.int .u8)) xs) : d12 xs xs = true /\ v12 xs xs = true := by
  have hb := hs.1
  have h := all_iter (s := s12_0) (mk := fun i => (xs, xs, false, i, ())) (c := 1) (N := xs.length) (fun i hi => by
    skip
    simp [s12_0, t12_0, optC_some, hi,  wrap_nat (n := i) (by omega)]) (by simp [s12_0, t12_0]) xs.length 0 (n12_0 (xs, xs, false, 0, ())) (by omega) (by simp [n12_0]; omega)
  have h0 : k12_0 xs xs false 0 0 = false := at_of h 0
  have h1 : k12_0 xs xs false 0 1 = true := at_of h 1
  unfold d12 v12
  rw [h0, h1]
  simp
theorem eq157 (x : Ty.T y179) : v157 x x = true := by simp [v157]
theorem eq84 (xs : List (Ty.T y179)) (hs : Ty.short (.sl 180 y179) xs) : d84 xs xs = true /\ v84 xs xs = true := by
  have hb := hs.1
  have h := all_iter (s := s84_0) (mk := fun i => (xs, xs, false, i, ())) (c := 1) (N := xs.length) (fun i hi => by
    skip
    simp [s84_0, t84_0, optC_some, hi, eq157, wrap_nat (n := i) (by omega)]) (by simp [s84_0, t84_0]) xs.length 0 (n84_0 (xs, xs, false, 0, ())) (by omega) (by simp [n84_0]; omega)
  have h0 : k84_0 xs xs false 0 0 = false := at_of h 0
  have h1 : k84_0 xs xs false 0 1 = true := at_of h 1
  unfold d84 v84
  rw [h0, h1]
  simp
theorem eq158 (x : Ty.T y181) : v158 x x = true := by simp [v158]
theorem eq85 (xs : List (Ty.T y181)) (hs : Ty.short (.sl 182 y181) xs) : d85 xs xs = true /\ v85 xs xs = true := by
  have hb := hs.1
  have h := all_iter (s := s85_0) (mk := fun i => (xs, xs, false, i, ())) (c := 1) (N := xs.length) (fun i hi => by
    skip
    simp [s85_0, t85_0, optC_some, hi, eq158, wrap_nat (n := i) (by omega)]) (by simp [s85_0, t85_0]) xs.length 0 (n85_0 (xs, xs, false, 0, ())) (by omega) (by simp [n85_0]; omega)
  have h0 : k85_0 xs xs false 0 0 = false := at_of h 0
  have h1 : k85_0 xs xs false 0 1 = true := at_of h 1
  unfold d85 v85
  rw [h0, h1]
  simp
theorem eq25 (x : Ty.T y36) (hs : Ty.short y36 x) : d25 x x = true /\ v25 x x = true := by
  have h0 := eq84 x.1 hs.1
  have h1 := eq85 x.2.1 hs.2.1
  unfold d25 v25
  rw [h0.1, h0.2, h1.1, h1.2]
  simp
theorem eq159 (x : Ty.T y96) : v159 x x = true := by simp [v159]
theorem eq160 (x : Ty.T y98) : v160 x x = true := by simp [v160]
theorem eq186 (x : Ty.T y48) : v186 x x = true := by simp [v186]
theorem eq104 (xs : List (Ty.T y48)) (hs : Ty.short (.sl 56 y48) xs) : d104 xs xs = true /\ v104 xs xs = true := by
  have hb := hs.1
  have h := all_iter (s := s104_0) (mk := fun i => (xs, xs, false, i, ())) (c := 1) (N := xs.length) (fun i hi => by
    skip
    simp [s104_0, t104_0, optC_some, hi, eq186, wrap_nat (n := i) (by omega)]) (by simp [s104_0, t104_0]) xs.length 0 (n104_0 (xs, xs, false, 0, ())) (by omega) (by simp [n104_0]; omega)
  have h0 : k104_0 xs xs false 0 0 = false := at_of h 0
  have h1 : k104_0 xs xs false 0 1 = true := at_of h 1
  unfold d104 v104
  rw [h0, h1]
  simp
theorem eq161 (x : Ty.T y100) (hs : Ty.short y100 x) : d161 x x = true /\ v161 x x = true := by
  have h0 := eq104 x.2.2.2.2.2.2 hs.2.2.2.2.2.2
  unfold d161 v161
  rw [h0.1, h0.2]
  simp
theorem eq86 (x : Ty.T y102) (hs : Ty.short y102 x) : d86 x x = true /\ v86 x x = true := by
  have h2 := eq161 x.2.2.2.2.2.2.1 hs.2.2.2.2.2.2.1
  unfold d86 v86
  rw [h2.1, h2.2, eq159, eq160]
  simp
theorem eq26 (xs : List (Ty.T y102)) (hs : Ty.short (.sl 103 y102) xs) : d26 xs xs = true /\ v26 xs xs = true := by
  have hb := hs.1
  have h := all_iter (s := s26_0) (mk := fun i => (xs, xs, false, i, ())) (c := 1) (N := xs.length) (fun i hi => by
    have h0 := eq86 xs[i] (hs.2 _ (List.getElem_mem hi))
    simp [s26_0, t26_0, optC_some, hi, h0.1, h0.2, wrap_nat (n := i) (by omega)]) (by simp [s26_0, t26_0]) xs.length 0 (n26_0 (xs, xs, false, 0, ())) (by omega) (by simp [n26_0]; omega)
  have h0 : k26_0 xs xs false 0 0 = false := at_of h 0
  have h1 : k26_0 xs xs false 0 1 = true := at_of h 1
  unfold d26 v26
  rw [h0, h1]
  simp
theorem eq145 (x : Ty.T y105) (hs : Ty.short y105 x) : d145 x x = true /\ v145 x x = true := by
  have h0 := eq86 x.2.1 hs.2.1
  have h1 := eq104 x.2.2.2 hs.2.2.2
  unfold d145 v145
  rw [h0.1, h0.2, h1.1, h1.2]
  simp
theorem eq69 (xs : List (Ty.T y105)) (hs : Ty.short (.sl 106 y105) xs) : d69 xs xs = true /\ v69 xs xs = true := by
  have hb := hs.1
  have h := all_iter (s := s69_0) (mk := fun i => (xs, xs, false, i, ())) (c := 1) (N := xs.length) (fun i hi => by
    have h0 := eq145 xs[i] (hs.2 _ (List.getElem_mem hi))
    simp [s69_0, t69_0, optC_some, hi, h0.1, h0.2, wrap_nat (n := i) (by omega)]) (by simp [s69_0, t69_0]) xs.length 0 (n69_0 (xs, xs, false, 0, ())) (by omega) (by simp [n69_0]; omega)
  have h0 : k69_0 xs xs false 0 0 = false := at_of h 0
  have h1 : k69_0 xs xs false 0 1 = true := at_of h 1
  unfold d69 v69
  rw [h0, h1]
  simp
theorem eq70 (xs : List (Int)) (hs : Ty.short (.sl 3 (.int .i64)) xs) : d70 xs xs = true /\ v70 xs xs = true := by
  have hb := hs.1
  have h := all_iter (s := s70_0) (mk := fun i => (xs, xs, false, i, ())) (c := 1) (N := xs.length) (fun i hi => by
    skip
    simp [s70_0, t70_0, optC_some, hi,  wrap_nat (n := i) (by omega)]) (by simp [s70_0, t70_0]) xs.length 0 (n70_0 (xs, xs, false, 0, ())) (by omega) (by simp [n70_0]; omega)
  have h0 : k70_0 xs xs false 0 0 = false := at_of h 0
  have h1 : k70_0 xs xs false 0 1 = true := at_of h 1
  unfold d70 v70
  rw [h0, h1]
  simp
theorem eq13 (x : Ty.T y40) (hs : Ty.short y40 x) : d13 x x = true /\ v13 x x = true := by
  have h0 := eq25 x.1 hs.1
  have h1 := eq26 x.2.1 hs.2.1
  have h2 := eq69 x.2.2.1 hs.2.2.1
  have h3 := eq70 x.2.2.2 hs.2.2.2
  unfold d13 v13
  rw [h0.1, h0.2, h1.1, h1.2, h2.1, h2.2, h3.1, h3.2]
  simp
theorem evOk' (a : Int) (b : Int) (c : Int) (d : Int) (n : Int) (z : Int) (t : Bool) : v96 ((a, b, c, d, n, z, t) : Ty.T y48) = v148 ((a, b, c, d, n, z, t) : Ty.T y48) := by
  simp only [v96, t96, v148, t148, v129, v99, v171, v172, v173, v220, v174, v175]
  dsimp only [Ty.T]
  have cc : ∀ (p q r : Bool), cond p q r = true ↔ (p = true /\ q = true) ∨ (p = false /\ r = true) := by decide
  have cf : ∀ (p q r : Bool), cond p q r = false ↔ (p = true /\ q = false) ∨ (p = false /\ r = false) := by decide
  by_cases h1 : a = 1
  · subst h1; rw [Bool.eq_iff_iff]; cases t <;> simp [cc, cf, *] <;> omega
  by_cases h2 : a = 2
  · subst h2; rw [Bool.eq_iff_iff]; cases t <;> simp [cc, cf, *] <;> omega
  by_cases h3 : a = 3
  · subst h3; rw [Bool.eq_iff_iff]; cases t <;> simp [cc, cf, *] <;> omega
  by_cases h4 : a = 4
  · subst h4; rw [Bool.eq_iff_iff]; cases t <;> simp [cc, cf, *] <;> omega
  by_cases h5 : a = 5
  · subst h5; rw [Bool.eq_iff_iff]; cases t <;> simp [cc, cf, *] <;> omega
  by_cases h6 : a = 6
  · subst h6; rw [Bool.eq_iff_iff]; cases t <;> simp [cc, cf, *] <;> omega
  rw [Bool.eq_iff_iff]; cases t <;> simp [cc, cf, *] <;> omega
theorem evOk (e : Ty.T y48) : v96 e = v148 e := by
  obtain ⟨a, b, c, d, n, z, t⟩ := e
  exact evOk' a b c d n z t
theorem evNo' (a b c d z : Int) (t : Bool) : v148 ((a, b, c, d, -1, z, t) : Ty.T y48) = false := by
  simp only [v148, t148, v129]
  dsimp only [Ty.T]
  have cc : ∀ (p q r : Bool), cond p q r = true ↔ (p = true /\ q = true) ∨ (p = false /\ r = true) := by decide
  have cf : ∀ (p q r : Bool), cond p q r = false ↔ (p = true /\ q = false) ∨ (p = false /\ r = false) := by decide
  cases t <;> simp [cc, cf]
theorem partOk (e : Ty.T y48) : v261 e = v278 e := by
  obtain ⟨a, b, c, d, n, z, t⟩ := e
  have h := evNo' a b c d z t
  simp only [v261, v278, evOk]
  by_cases hn : n = (-1 : Int)
  · subst hn
    rw [h]
    cases (a == (2 : Int)) <;> simp [bne, *]
  · have h1 : (n == (-1 : Int)) = false := by simpa using hn
    simp only [h1]
    cases (v148 (a, b, c, d, n, z, t)) <;> cases (a == (2 : Int)) <;> simp [bne, *]
theorem patOk' (k : Int) (w : Int) (s : Int) (p : Int) (l : Int) (t : Int) (z : Int) : v223 ((k, w, s, p, l, t, z) : Ty.T y96) = v241 ((k, w, s, p, l, t, z) : Ty.T y96) := by
  simp only [v223, t223, v241, t241, v129, v99, v171, v259, v221]
  dsimp only [Ty.T]
  have cc : ∀ (p q r : Bool), cond p q r = true ↔ (p = true /\ q = true) ∨ (p = false /\ r = true) := by decide
  have cf : ∀ (p q r : Bool), cond p q r = false ↔ (p = true /\ q = false) ∨ (p = false /\ r = false) := by decide
  by_cases h1 : k = 1
  · subst h1; rw [Bool.eq_iff_iff]; simp [cc, cf, *] <;> omega
  by_cases h2 : k = 2
  · subst h2; rw [Bool.eq_iff_iff]; simp [cc, cf, *] <;> omega
  by_cases h3 : k = 3
  · subst h3; rw [Bool.eq_iff_iff]; simp [cc, cf, *] <;> omega
  by_cases h4 : k = 4
  · subst h4; rw [Bool.eq_iff_iff]; simp [cc, cf, *] <;> omega
  by_cases h5 : k = 5
  · subst h5; rw [Bool.eq_iff_iff]; simp [cc, cf, *] <;> omega
  by_cases h6 : k = 6
  · subst h6; rw [Bool.eq_iff_iff]; simp [cc, cf, *] <;> omega
  rw [Bool.eq_iff_iff]; simp [cc, cf, *] <;> omega
theorem patOk (e : Ty.T y96) : v223 e = v241 e := by
  obtain ⟨k, w, s, p, l, t, z⟩ := e
  exact patOk' k w s p l t z
theorem guardOk' (k : Int) (n : Int) : v224 ((k, n) : Ty.T y98) = v242 ((k, n) : Ty.T y98) := by
  simp only [v224, t224, v242, t242, v129, v99, v139]
  dsimp only [Ty.T]
  have cc : ∀ (p q r : Bool), cond p q r = true ↔ (p = true /\ q = true) ∨ (p = false /\ r = true) := by decide
  have cf : ∀ (p q r : Bool), cond p q r = false ↔ (p = true /\ q = false) ∨ (p = false /\ r = false) := by decide
  by_cases h0 : k = 0
  · subst h0; rw [Bool.eq_iff_iff]; simp [cc, cf, *] <;> omega
  by_cases h1 : k = 1
  · subst h1; rw [Bool.eq_iff_iff]; simp [cc, cf, *] <;> omega
  by_cases h2 : k = 2
  · subst h2; rw [Bool.eq_iff_iff]; simp [cc, cf, *] <;> omega
  by_cases h3 : k = 3
  · subst h3; rw [Bool.eq_iff_iff]; simp [cc, cf, *] <;> omega
  by_cases h4 : k = 4
  · subst h4; rw [Bool.eq_iff_iff]; simp [cc, cf, *] <;> omega
  by_cases h5 : k = 5
  · subst h5; rw [Bool.eq_iff_iff]; simp [cc, cf, *] <;> omega
  rw [Bool.eq_iff_iff]; simp [cc, cf, *] <;> omega
theorem guardOk (e : Ty.T y98) : v224 e = v242 e := by
  obtain ⟨k, n⟩ := e
  exact guardOk' k n
theorem specAct (a : Ty.T y100) (hb : a.2.2.2.2.2.2.length <= 1048576) : (a.2.2.2.2.2.2.any (fun x => !v278 x) = true /\ k243_6 false 0 a 0 = true /\ ∃ j : Nat, w243_6 false 0 a = (false, (j : Int), a, ())) ∨ (a.2.2.2.2.2.2.any (fun x => !v278 x) = false /\ k243_6 false 0 a 0 = false /\ k243_6 false 0 a 1 = true /\ w243_6 false 0 a = (false, (a.2.2.2.2.2.2.length : Int), a, ())) := by
  have h := find_iter (s := s243_6) (mk := fun i => (false, i, a, ())) (fin := fun i => (false, (i : Int), a, ())) (p := fun i => match a.2.2.2.2.2.2[i]? with | some x => !v278 x | none => false) (N := a.2.2.2.2.2.2.length) (fun i hi => by
    have h1 := List.getElem?_eq_getElem hi
    simp only [h1]
    skip
    cases ht : (v278 a.2.2.2.2.2.2[i] : Bool) <;> simp [s243_6, t243_6, optC_some, hi, h1, ht,  wrap_nat (n := i) (by omega)]) (by simp [s243_6, t243_6]) a.2.2.2.2.2.2.length 0 (n243_6 (false, 0, a, ())) (by omega) (by simp only [n243_6]; omega)
  have hf := first_any (p := fun x => !v278 x) (xs := a.2.2.2.2.2.2) (q := fun i => match a.2.2.2.2.2.2[i]? with | some x => !v278 x | none => false) (fun i x h1 => by simp only [h1])
  revert h hf
  generalize first _ 0 a.2.2.2.2.2.2.length = o
  intro h hf
  cases o with
  | none => exact .inr ⟨hf.symm, at_of h 0, at_of h 1, val_of h⟩
  | some j => exact .inl ⟨hf.symm, at_of h 0, j, val_of h⟩
theorem specBatch (l : List (Ty.T y48)) (hb : l.length <= 1048576) : (l.any (fun x => !v148 x) = true /\ k202_0 l false 0 0 = true /\ ∃ j : Nat, w202_0 l false 0 = (l, false, (j : Int), ())) ∨ (l.any (fun x => !v148 x) = false /\ k202_0 l false 0 0 = false /\ k202_0 l false 0 1 = true /\ w202_0 l false 0 = (l, false, (l.length : Int), ())) := by
  have h := find_iter (s := s202_0) (mk := fun i => (l, false, i, ())) (fin := fun i => (l, false, (i : Int), ())) (p := fun i => match l[i]? with | some x => !v148 x | none => false) (N := l.length) (fun i hi => by
    have h1 := List.getElem?_eq_getElem hi
    simp only [h1]
    skip
    cases ht : (v148 l[i] : Bool) <;> simp [s202_0, t202_0, optC_some, hi, h1, ht,  wrap_nat (n := i) (by omega)]) (by simp [s202_0, t202_0]) l.length 0 (n202_0 (l, false, 0, ())) (by omega) (by simp only [n202_0]; omega)
  have hf := first_any (p := fun x => !v148 x) (xs := l) (q := fun i => match l[i]? with | some x => !v148 x | none => false) (fun i x h1 => by simp only [h1])
  revert h hf
  generalize first _ 0 l.length = o
  intro h hf
  cases o with
  | none => exact .inr ⟨hf.symm, at_of h 0, at_of h 1, val_of h⟩
  | some j => exact .inl ⟨hf.symm, at_of h 0, j, val_of h⟩
theorem implAct' (l : List (Ty.T y48)) (hb : l.length <= 1048576) : (l.any (fun x => !v278 x) = true /\ k271c1_0 l 0 ((l).length : Int) 0 0 = true /\ ∃ j : Nat, w271c1_0 l 0 ((l).length : Int) 0 = (l, (j : Int), ((l).length : Int), (j : Int), ())) ∨ (l.any (fun x => !v278 x) = false /\ k271c1_0 l 0 ((l).length : Int) 0 0 = false /\ k271c1_0 l 0 ((l).length : Int) 0 1 = true /\ w271c1_0 l 0 ((l).length : Int) 0 = (l, 0, ((l).length : Int), (l.length : Int), ())) := by
  have h := find_iter (s := s271c1_0) (mk := fun i => (l, 0, ((l).length : Int), i, ())) (fin := fun i => (l, (i : Int), ((l).length : Int), (i : Int), ())) (p := fun i => match l[i]? with | some x => !v278 x | none => false) (N := l.length) (fun i hi => by
    have h1 := List.getElem?_eq_getElem hi
    simp only [h1]
    skip
    cases ht : (v278 l[i] : Bool) <;> simp [s271c1_0, t271c1_0, optC_some, hi, h1, ht, v260, partOk, wrap_nat (n := i) (by omega)]) (by simp [s271c1_0, t271c1_0]) l.length 0 (n271c1_0 (l, 0, ((l).length : Int), 0, ())) (by omega) (by simp only [n271c1_0]; omega)
  have hf := first_any (p := fun x => !v278 x) (xs := l) (q := fun i => match l[i]? with | some x => !v278 x | none => false) (fun i x h1 => by simp only [h1])
  revert h hf
  generalize first _ 0 l.length = o
  intro h hf
  cases o with
  | none => exact .inr ⟨hf.symm, at_of h 0, at_of h 1, val_of h⟩
  | some j => exact .inl ⟨hf.symm, at_of h 0, j, val_of h⟩
theorem implAct (l : List (Ty.T y48)) (hb : l.length <= 1048576) : d247c1 l = true /\ v247c1 l = l.any (fun x => !v278 x) := by
  unfold d247c1 v247c1 d271c1 v271c1
  rcases implAct' l hb with ⟨hB, e0, j, hw⟩ | ⟨hB, e0, e1, hw⟩
  · rw [e0, hw, hB]
    exact ⟨rfl, decide_eq_true (show ((j : Int)) ≥ 0 by omega)⟩
  · rw [e0, e1, hB]
    exact ⟨rfl, rfl⟩
theorem implBatch' (l : List (Ty.T y48)) (hb : l.length <= 1048576) : (l.any (fun x => !v148 x) = true /\ k271c2_0 l 0 ((l).length : Int) 0 0 = true /\ ∃ j : Nat, w271c2_0 l 0 ((l).length : Int) 0 = (l, (j : Int), ((l).length : Int), (j : Int), ())) ∨ (l.any (fun x => !v148 x) = false /\ k271c2_0 l 0 ((l).length : Int) 0 0 = false /\ k271c2_0 l 0 ((l).length : Int) 0 1 = true /\ w271c2_0 l 0 ((l).length : Int) 0 = (l, 0, ((l).length : Int), (l.length : Int), ())) := by
  have h := find_iter (s := s271c2_0) (mk := fun i => (l, 0, ((l).length : Int), i, ())) (fin := fun i => (l, (i : Int), ((l).length : Int), (i : Int), ())) (p := fun i => match l[i]? with | some x => !v148 x | none => false) (N := l.length) (fun i hi => by
    have h1 := List.getElem?_eq_getElem hi
    simp only [h1]
    skip
    cases ht : (v148 l[i] : Bool) <;> simp [s271c2_0, t271c2_0, optC_some, hi, h1, ht, v248, evOk, wrap_nat (n := i) (by omega)]) (by simp [s271c2_0, t271c2_0]) l.length 0 (n271c2_0 (l, 0, ((l).length : Int), 0, ())) (by omega) (by simp only [n271c2_0]; omega)
  have hf := first_any (p := fun x => !v148 x) (xs := l) (q := fun i => match l[i]? with | some x => !v148 x | none => false) (fun i x h1 => by simp only [h1])
  revert h hf
  generalize first _ 0 l.length = o
  intro h hf
  cases o with
  | none => exact .inr ⟨hf.symm, at_of h 0, at_of h 1, val_of h⟩
  | some j => exact .inl ⟨hf.symm, at_of h 0, j, val_of h⟩
theorem implBatch (l : List (Ty.T y48)) (hb : l.length <= 1048576) : d247c2 l = true /\ v247c2 l = l.any (fun x => !v148 x) := by
  unfold d247c2 v247c2 d271c2 v271c2
  rcases implBatch' l hb with ⟨hB, e0, j, hw⟩ | ⟨hB, e0, e1, hw⟩
  · rw [e0, hw, hB]
    exact ⟨rfl, decide_eq_true (show ((j : Int)) ≥ 0 by omega)⟩
  · rw [e0, e1, hB]
    exact ⟨rfl, rfl⟩
theorem batchOk (l : List (Ty.T y48)) (hb : l.length <= 1048576) : d202 l = true /\ d205 l = true /\ v205 l = v202 l := by
  have h := implBatch l hb
  unfold d202 d205 v202 v205
  rw [h.1, h.2]
  rcases specBatch l hb with ⟨hB, e0, j, hw⟩ | ⟨hB, e0, e1, hw⟩
  · rw [e0, hw, hB]
    cases decide ((l.length : Int) <= (4 : Int)) <;> exact ⟨rfl, rfl, rfl⟩
  · rw [e0, e1, hw, hB]
    simp only [cond_true, cond_false]
    cases decide ((l.length : Int) <= (4 : Int)) <;> simp
theorem actFits' (k n p s z kind : Int) (b : Bool) (l : List (Ty.T y48)) : v226 ((k, n, p, s, z, b, l) : Ty.T y100) kind = v244 ((k, n, p, s, z, b, l) : Ty.T y100) kind := by
  simp only [v226, t226, v244, t244, v129, v99, v259]
  dsimp only [Ty.T]
  have cc : ∀ (p q r : Bool), cond p q r = true ↔ (p = true /\ q = true) ∨ (p = false /\ r = true) := by decide
  have cf : ∀ (p q r : Bool), cond p q r = false ↔ (p = true /\ q = false) ∨ (p = false /\ r = false) := by decide
  by_cases h1 : k = 1
  · subst h1; rw [Bool.eq_iff_iff]; simp [cc, cf] <;> omega
  by_cases h2 : k = 2
  · subst h2; rw [Bool.eq_iff_iff]; simp [cc, cf] <;> omega
  by_cases h3 : k = 3
  · subst h3; rw [Bool.eq_iff_iff]; simp [cc, cf] <;> omega
  by_cases h4 : k = 4
  · subst h4; rw [Bool.eq_iff_iff]; simp [cc, cf] <;> omega
  by_cases h5 : k = 5
  · subst h5; rw [Bool.eq_iff_iff]; simp [cc, cf] <;> omega
  by_cases h6 : k = 6
  · subst h6; rw [Bool.eq_iff_iff]; simp [cc, cf] <;> omega
  by_cases h7 : k = 7
  · subst h7; rw [Bool.eq_iff_iff]; simp [cc, cf] <;> omega
  by_cases h8 : k = 8
  · subst h8; rw [Bool.eq_iff_iff]; simp [cc, cf] <;> omega
  by_cases h9 : k = 9
  · subst h9; rw [Bool.eq_iff_iff]; simp [cc, cf] <;> omega
  rw [Bool.eq_iff_iff]; simp [cc, cf, *] <;> omega
theorem actFits (a : Ty.T y100) (kind : Int) : v226 a kind = v244 a kind := by
  obtain ⟨k, n, p, s, z, b, l⟩ := a
  exact actFits' k n p s z kind b l
theorem actOk' (k n p s z : Int) (b : Bool) (l : List (Ty.T y48)) (hb : l.length <= 1048576) : d243 ((k, n, p, s, z, b, l) : Ty.T y100) = true /\ d225 ((k, n, p, s, z, b, l) : Ty.T y100) = true /\ v225 ((k, n, p, s, z, b, l) : Ty.T y100) = v243 ((k, n, p, s, z, b, l) : Ty.T y100) := by
  have hi := implAct l hb
  have hs := specAct ((k, n, p, s, z, b, l) : Ty.T y100) hb
  dsimp only at hs
  have cc : ∀ (p q r : Bool), cond p q r = true ↔ (p = true /\ q = true) ∨ (p = false /\ r = true) := by decide
  have cf : ∀ (p q r : Bool), cond p q r = false ↔ (p = true /\ q = false) ∨ (p = false /\ r = false) := by decide
  rcases hs with ⟨hB, e0, j, hw⟩ | ⟨hB, e0, e1, hw⟩
  · simp only [d243, t243, d225, t225, v243, v225, c243_0, t243_0, c243_1, t243_1, c243_2, t243_2, c243_3, t243_3, c243_4, t243_4, c243_5, t243_5, c243_7, t243_7, c225_0, t225_0, c225_1, t225_1, c225_2, t225_2, c225_3, t225_3, g225_3, id, nfs, v277, v129, v99, v172, v220, v175, hi.1, hi.2, hB, e0, hw]
    dsimp only [Ty.T]
    have hl : 0 <= (List.length (α := Ty.T y48) l : Int) := by omega
    generalize (List.length (α := Ty.T y48) l : Int) = m at hl
    by_cases h1 : k = 1
    · subst h1; refine ⟨by simp, by simp, ?_⟩; rw [Bool.eq_iff_iff]; cases b <;> simp [cc, cf, *] <;> omega
    by_cases h2 : k = 2
    · subst h2; refine ⟨by simp, by simp, ?_⟩; rw [Bool.eq_iff_iff]; cases b <;> simp [cc, cf, *] <;> omega
    by_cases h3 : k = 3
    · subst h3; refine ⟨by simp, by simp, ?_⟩; rw [Bool.eq_iff_iff]; cases b <;> simp [cc, cf, *] <;> omega
    by_cases h4 : k = 4
    · subst h4; refine ⟨by simp, by simp, ?_⟩; rw [Bool.eq_iff_iff]; cases b <;> simp [cc, cf, *] <;> omega
    by_cases h5 : k = 5
    · subst h5; refine ⟨by simp, by simp, ?_⟩; rw [Bool.eq_iff_iff]; cases b <;> simp [cc, cf, *] <;> omega
    by_cases h6 : k = 6
    · subst h6; refine ⟨by simp, by simp, ?_⟩; rw [Bool.eq_iff_iff]; cases b <;> simp [cc, cf, *] <;> omega
    by_cases h7 : k = 7
    · subst h7; refine ⟨by simp, by simp, ?_⟩; rw [Bool.eq_iff_iff]; cases b <;> simp [cc, cf, *] <;> omega
    by_cases h8 : k = 8
    · subst h8; refine ⟨by simp, by simp, ?_⟩; rw [Bool.eq_iff_iff]; cases b <;> simp [cc, cf, *] <;> omega
    by_cases h9 : k = 9
    · subst h9; refine ⟨by simp, by simp, ?_⟩; rw [Bool.eq_iff_iff]; cases b <;> simp [cc, cf, *] <;> omega
    refine ⟨by simp [*], by simp [*], ?_⟩; rw [Bool.eq_iff_iff]; cases b <;> simp [cc, cf, *] <;> omega
  · simp only [d243, t243, d225, t225, v243, v225, c243_0, t243_0, c243_1, t243_1, c243_2, t243_2, c243_3, t243_3, c243_4, t243_4, c243_5, t243_5, c243_7, t243_7, c225_0, t225_0, c225_1, t225_1, c225_2, t225_2, c225_3, t225_3, g225_3, id, nfs, v277, v129, v99, v172, v220, v175, hi.1, hi.2, hB, e0, e1, hw]
    dsimp only [Ty.T]
    have hl : 0 <= (List.length (α := Ty.T y48) l : Int) := by omega
    generalize (List.length (α := Ty.T y48) l : Int) = m at hl
    by_cases h1 : k = 1
    · subst h1; refine ⟨by simp, by simp, ?_⟩; rw [Bool.eq_iff_iff]; cases b <;> simp [cc, cf, *] <;> omega
    by_cases h2 : k = 2
    · subst h2; refine ⟨by simp, by simp, ?_⟩; rw [Bool.eq_iff_iff]; cases b <;> simp [cc, cf, *] <;> omega
    by_cases h3 : k = 3
    · subst h3; refine ⟨by simp, by simp, ?_⟩; rw [Bool.eq_iff_iff]; cases b <;> simp [cc, cf, *] <;> omega
    by_cases h4 : k = 4
    · subst h4; refine ⟨by simp, by simp, ?_⟩; rw [Bool.eq_iff_iff]; cases b <;> simp [cc, cf, *] <;> omega
    by_cases h5 : k = 5
    · subst h5; refine ⟨by simp, by simp, ?_⟩; rw [Bool.eq_iff_iff]; cases b <;> simp [cc, cf, *] <;> omega
    by_cases h6 : k = 6
    · subst h6; refine ⟨by simp, by simp, ?_⟩; rw [Bool.eq_iff_iff]; cases b <;> simp [cc, cf, *] <;> omega
    by_cases h7 : k = 7
    · subst h7; refine ⟨by simp, by simp, ?_⟩; rw [Bool.eq_iff_iff]; cases b <;> simp [cc, cf, *] <;> omega
    by_cases h8 : k = 8
    · subst h8; refine ⟨by simp, by simp, ?_⟩; rw [Bool.eq_iff_iff]; cases b <;> simp [cc, cf, *] <;> omega
    by_cases h9 : k = 9
    · subst h9; refine ⟨by simp, by simp, ?_⟩; rw [Bool.eq_iff_iff]; cases b <;> simp [cc, cf, *] <;> omega
    refine ⟨by simp [*], by simp [*], ?_⟩; rw [Bool.eq_iff_iff]; cases b <;> simp [cc, cf, *] <;> omega
theorem actOk (a : Ty.T y100) (hb : a.2.2.2.2.2.2.length <= 1048576) : d243 a = true /\ d225 a = true /\ v225 a = v243 a := by
  obtain ⟨k, n, p, s, z, b, l⟩ := a
  exact actOk' k n p s z b l hb
theorem effectOk' (i1 i2 i3 i4 : Int) (p : Ty.T y96) (g : Ty.T y98) (a : Ty.T y100) (u l : Int) (hb : a.2.2.2.2.2.2.length <= 1048576) : d200 ((i1, i2, i3, i4, p, g, a, u, l) : Ty.T y102) = true /\ d176 ((i1, i2, i3, i4, p, g, a, u, l) : Ty.T y102) = true /\ v176 ((i1, i2, i3, i4, p, g, a, u, l) : Ty.T y102) = v200 ((i1, i2, i3, i4, p, g, a, u, l) : Ty.T y102) := by
  have ha := actOk a hb
  simp only [d200, t200, d176, t176, v200, v176, v129, v99, v172, v220, patOk, guardOk, actFits, ha.1, ha.2.1, ha.2.2, nfs]
  generalize v241 p = b1
  generalize v242 g = b2
  generalize v244 a p.1 = b3
  generalize v243 a = b4
  generalize (a.1 == (2 : Int)) = b5
  dsimp only [Ty.T]
  have cc : ∀ (p q r : Bool), cond p q r = true ↔ (p = true /\ q = true) ∨ (p = false /\ r = true) := by decide
  have cf : ∀ (p q r : Bool), cond p q r = false ↔ (p = true /\ q = false) ∨ (p = false /\ r = false) := by decide
  cases b5
  · cases b1 <;> cases b2 <;> cases b3 <;> cases b4 <;> (refine ⟨by simp, by simp, ?_⟩; rw [Bool.eq_iff_iff]; simp [cc, cf] <;> omega)
  · cases b1 <;> cases b2 <;> cases b3 <;> cases b4 <;> (refine ⟨by simp, by simp, ?_⟩; rw [Bool.eq_iff_iff]; simp [cc, cf] <;> omega)
theorem effectOk (e : Ty.T y102) (hb : e.2.2.2.2.2.2.1.2.2.2.2.2.2.length <= 1048576) : d200 e = true /\ d176 e = true /\ v176 e = v200 e := by
  obtain ⟨i1, i2, i3, i4, p, g, a, u, l⟩ := e
  exact effectOk' i1 i2 i3 i4 p g a u l hb
theorem emptyS (a b : Ty.T y100) (ha : a.2.2.2.2.2.2 = []) : k245_0 false 0 a b 0 = false /\ k245_0 false 0 a b 1 = true := by
  have h : iter s245_0 (n245_0 (false, 0, a, b, ())) (false, 0, a, b, ()) = some (1, (false, 0, a, b, ())) := by
    obtain ⟨m, hm⟩ : ∃ m, n245_0 (false, 0, a, b, ()) = m + 1 := ⟨n245_0 (false, 0, a, b, ()) - 1, by simp only [n245_0]; omega⟩
    rw [hm, iter]
    simp [s245_0, t245_0, ha]
  exact ⟨at_of h 0, at_of h 1⟩
theorem emptyE (b : Bool) : d177 ([] : List (Ty.T y48)) [] = true /\ v177 ([] : List (Ty.T y48)) [] = true := by
  have h : iter s177_0 (n177_0 (([] : List (Ty.T y48)), ([] : List (Ty.T y48)), false, ((([] : List (Ty.T y48))).length : Int), 0, ())) (([] : List (Ty.T y48)), ([] : List (Ty.T y48)), false, ((([] : List (Ty.T y48))).length : Int), 0, ()) = some (1, (([] : List (Ty.T y48)), ([] : List (Ty.T y48)), false, ((([] : List (Ty.T y48))).length : Int), 0, ())) := by
    obtain ⟨m, hm⟩ : ∃ m, n177_0 (([] : List (Ty.T y48)), ([] : List (Ty.T y48)), false, ((([] : List (Ty.T y48))).length : Int), 0, ()) = m + 1 := ⟨n177_0 (([] : List (Ty.T y48)), ([] : List (Ty.T y48)), false, ((([] : List (Ty.T y48))).length : Int), 0, ()) - 1, by simp only [n177_0]; omega⟩
    rw [hm, iter]
    simp [s177_0, t177_0]
  have e0 : k177_0 ([] : List (Ty.T y48)) ([] : List (Ty.T y48)) false ((([] : List (Ty.T y48))).length : Int) 0 0 = false := at_of h 0
  have e1 : k177_0 ([] : List (Ty.T y48)) ([] : List (Ty.T y48)) false ((([] : List (Ty.T y48))).length : Int) 0 1 = true := at_of h 1
  unfold d177 v177
  rw [e0, e1]
  exact ⟨rfl, rfl⟩
theorem nonE (x : Ty.T y48) (l : List (Ty.T y48)) : d177 (x :: l) [] = true /\ v177 (x :: l) [] = false := by
  have h : (((x :: l).length : Int) != (([] : List (Ty.T y48)).length : Int)) = true := by simp only [List.length_cons, List.length_nil, bne_iff_ne, ne_eq]; omega
  unfold d177 v177
  rw [h]
  exact ⟨rfl, rfl⟩
theorem sameZ (e : Ty.T y102) : d245 e (0, 0, 0, 0, (0, 0, 0, 0, 0, 0, 0), (0, 0), (0, 0, 0, 0, 0, false, []), 0, 0) = true /\ d204 e (0, 0, 0, 0, (0, 0, 0, 0, 0, 0, 0), (0, 0), (0, 0, 0, 0, 0, false, []), 0, 0) = true /\ v204 e (0, 0, 0, 0, (0, 0, 0, 0, 0, 0, 0), (0, 0), (0, 0, 0, 0, 0, false, []), 0, 0) = v245 e (0, 0, 0, 0, (0, 0, 0, 0, 0, 0, 0), (0, 0), (0, 0, 0, 0, 0, false, []), 0, 0) := by
  obtain ⟨i1, i2, i3, i4, p, g, ⟨k, n, q, s, z, b, l⟩, u, m⟩ := e
  cases l with
  | nil =>
    have h1 := emptyS (k, n, q, s, z, b, []) (0, (0, (0, (0, (0, (false, [])))))) rfl
    have h2 := emptyE true
    simp only [d245, t245, d204, t204, v245, v204, d246, v246, h1.1, h1.2, h2.1, h2.2, bne, nfs]
    generalize ((p.1 == (0 : Int)) && ((p.2.1 == (0 : Int)) && ((p.2.2.1 == (0 : Int)) && ((p.2.2.2.1 == (0 : Int)) && ((p.2.2.2.2.1 == (0 : Int)) && ((p.2.2.2.2.2.1 == (0 : Int)) && ((p.2.2.2.2.2.2 == (0 : Int)) && true))))))) = P
    generalize ((g.1 == (0 : Int)) && ((g.2 == (0 : Int)) && true)) = G
    generalize (b == false) = B
    cases P
    · simp
    cases G
    · simp
    cases (i1 == (0 : Int))
    · simp
    cases (i2 == (0 : Int))
    · simp
    cases (i3 == (0 : Int))
    · simp
    cases (i4 == (0 : Int))
    · simp
    cases (u == (0 : Int))
    · simp
    cases (m == (0 : Int))
    · simp
    cases (k == (0 : Int))
    · simp
    cases (n == (0 : Int))
    · simp
    cases (q == (0 : Int))
    · simp
    cases (s == (0 : Int))
    · simp
    cases (z == (0 : Int))
    · simp
    cases B
    · simp
    first | (simp; done) | (simp; exact ⟨.inl (by omega), fun h => absurd h (by omega)⟩)
  | cons x l =>
    have h2 := nonE x l
    have hl : (((x :: l).length : Int) != (([] : List (Ty.T y48)).length : Int)) = true := by simp only [List.length_cons, List.length_nil, bne_iff_ne, ne_eq]; omega
    simp only [d245, t245, d204, t204, v245, v204, d246, v246, hl, h2.1, h2.2, bne, nfs]
    generalize ((p.1 == (0 : Int)) && ((p.2.1 == (0 : Int)) && ((p.2.2.1 == (0 : Int)) && ((p.2.2.2.1 == (0 : Int)) && ((p.2.2.2.2.1 == (0 : Int)) && ((p.2.2.2.2.2.1 == (0 : Int)) && ((p.2.2.2.2.2.2 == (0 : Int)) && true))))))) = P
    generalize ((g.1 == (0 : Int)) && ((g.2 == (0 : Int)) && true)) = G
    generalize (b == false) = B
    cases P
    · simp
    cases G
    · simp
    cases (i1 == (0 : Int))
    · simp
    cases (i2 == (0 : Int))
    · simp
    cases (i3 == (0 : Int))
    · simp
    cases (i4 == (0 : Int))
    · simp
    cases (u == (0 : Int))
    · simp
    cases (m == (0 : Int))
    · simp
    cases (k == (0 : Int))
    · simp
    cases (n == (0 : Int))
    · simp
    cases (q == (0 : Int))
    · simp
    cases (s == (0 : Int))
    · simp
    cases (z == (0 : Int))
    · simp
    cases B
    · simp
    first | (simp; done) | (simp; exact ⟨.inl (by omega), fun h => absurd h (by omega)⟩)
theorem orderOk' (k i : Int) (e : Ty.T y102) (l : List (Ty.T y48)) (h1 : e.2.2.2.2.2.2.1.2.2.2.2.2.2.length <= 1048576) (h2 : l.length <= 1048576) : d128 ((k, e, i, l) : Ty.T y105) = true /\ d136 ((k, e, i, l) : Ty.T y105) = true /\ v136 ((k, e, i, l) : Ty.T y105) = v128 ((k, e, i, l) : Ty.T y105) := by
  have ha := effectOk e h1
  have hz := sameZ e
  have hb := batchOk l h2
  simp only [d128, t128, d136, t136, v128, v136, d201, v201, ha.1, ha.2.1, ha.2.2, hz.1, hz.2.1, hz.2.2, hb.1, hb.2.1, hb.2.2, v129, v99, v172, nfs]
  generalize v200 e = b1
  generalize v245 e (0, 0, 0, 0, (0, 0, 0, 0, 0, 0, 0), (0, 0), (0, 0, 0, 0, 0, false, []), 0, 0) = b2
  generalize v202 l = b3
  have hl : 0 <= (List.length (α := Ty.T y48) l : Int) := by omega
  generalize (List.length (α := Ty.T y48) l : Int) = m at hl
  dsimp only [Ty.T]
  have cc : ∀ (p q r : Bool), cond p q r = true ↔ (p = true /\ q = true) ∨ (p = false /\ r = true) := by decide
  have cf : ∀ (p q r : Bool), cond p q r = false ↔ (p = true /\ q = false) ∨ (p = false /\ r = false) := by decide
  cases b1 <;> cases b2 <;> cases b3 <;> (refine ⟨by simp, by simp, ?_⟩; rw [Bool.eq_iff_iff]; simp [cc, cf] <;> omega)
theorem orderOk (a : Ty.T y105) (h1 : a.2.1.2.2.2.2.2.2.1.2.2.2.2.2.2.length <= 1048576) (h2 : a.2.2.2.length <= 1048576) : d128 a = true /\ d136 a = true /\ v136 a = v128 a := by
  obtain ⟨k, e, i, l⟩ := a
  exact orderOk' k i e l h1 h2
theorem sim_iter {V W : Type} {s1 : V -> Option (Nat × V)} {s2 : W -> Option (Nat × W)} {mk1 : Int -> V} {mk2 : Int -> W} {fin1 : Nat -> V} {fin2 : Nat -> W} {N : Nat}
    (h : ∀ i : Nat, i < N -> (s1 (mk1 (i : Int)) = some (0, mk1 ((i + 1 : Nat) : Int)) /\ s2 (mk2 (i : Int)) = some (0, mk2 ((i + 1 : Nat) : Int))) ∨ (s1 (mk1 (i : Int)) = some (1, fin1 i) /\ s2 (mk2 (i : Int)) = some (1, fin2 i)))
    (e1 : s1 (mk1 (N : Int)) = some (2, mk1 (N : Int))) (e2 : s2 (mk2 (N : Int)) = some (2, mk2 (N : Int))) : ∀ (k i n m : Nat), i + k = N -> k < n -> k < m ->
    (∃ j, iter s1 n (mk1 (i : Int)) = some (0, fin1 j) /\ iter s2 m (mk2 (i : Int)) = some (0, fin2 j)) ∨ (iter s1 n (mk1 (i : Int)) = some (1, mk1 (N : Int)) /\ iter s2 m (mk2 (i : Int)) = some (1, mk2 (N : Int)))
  | 0, i, n, m, hk, hn, hm => by
    obtain ⟨n, rfl⟩ : ∃ x, n = x + 1 := ⟨n - 1, by omega⟩
    obtain ⟨m, rfl⟩ : ∃ x, m = x + 1 := ⟨m - 1, by omega⟩
    have : i = N := by omega
    subst this
    exact .inr ⟨by rw [iter, e1]; rfl, by rw [iter, e2]; rfl⟩
  | k + 1, i, n, m, hk, hn, hm => by
    obtain ⟨n, rfl⟩ : ∃ x, n = x + 1 := ⟨n - 1, by omega⟩
    obtain ⟨m, rfl⟩ : ∃ x, m = x + 1 := ⟨m - 1, by omega⟩
    rcases h i (by omega) with ⟨a, b⟩ | ⟨a, b⟩
    · rw [iter, a, iter, b]
      exact sim_iter h e1 e2 k (i + 1) n m (by omega) (by omega) (by omega)
    · exact .inl ⟨i, by rw [iter, a]; rfl, by rw [iter, b]; rfl⟩
theorem wrap_pred (j : Nat) (h : (j : Int) <= 9223372036854775806) : IntKind.wrap .i64 (((j + 1 : Nat) : Int) - 1) = (j : Int) := by rw [wrap_in (by omega) (by omega)]; omega
theorem pieceOk' (a : Int) (b : Int) (c : Int) (d : Int) (e : Int) (f : Int) (g : Int) (h : Int) (p : Int) (q : Int) (r : Int) (s : Bool) (t : Bool) : v168 ((a, b, c, d, e, f, g, h, p, q, r, s, t) : Ty.T y179) = v198 ((a, b, c, d, e, f, g, h, p, q, r, s, t) : Ty.T y179) := by
  simp only [v168, t168, v198, t198, v129, v99, v172, v220, v175, v167, v221, v171]
  dsimp only [Ty.T]
  have cc : ∀ (p q r : Bool), cond p q r = true ↔ (p = true /\ q = true) ∨ (p = false /\ r = true) := by decide
  have cf : ∀ (p q r : Bool), cond p q r = false ↔ (p = true /\ q = false) ∨ (p = false /\ r = false) := by decide
  rw [Bool.eq_iff_iff]; cases s <;> cases t <;> simp [cc, cf, *] <;> omega
theorem pieceOk (e : Ty.T y179) : v168 e = v198 e := by
  obtain ⟨a, b, c, d, e, f, g, h, p, q, r, s, t⟩ := e
  exact pieceOk' a b c d e f g h p q r s t
theorem pieceLow (p : Ty.T y179) (h : v198 p = true) : (0 : Int) <= p.2.1 /\ (0 : Int) <= p.2.2.1 := by
  simp only [v198, t198, v129] at h
  have cc : ∀ (p q r : Bool), cond p q r = true ↔ (p = true /\ q = true) ∨ (p = false /\ r = true) := by decide
  have cf : ∀ (p q r : Bool), cond p q r = false ↔ (p = true /\ q = false) ∨ (p = false /\ r = false) := by decide
  simp [cc, cf] at h
  dsimp only [Ty.T] at h ⊢
  omega
theorem side' (x m : Int) (hx : 0 <= x) (hm : 0 <= m) (hm2 : m <= 1048576) : v99 x 0 (IntKind.wrap .i64 (m - 1)) = !decide (x ≥ m) := by
  rw [wrap_in (by omega) (by omega)]
  simp only [v99]
  rw [Bool.eq_iff_iff]
  have cc : ∀ (p q r : Bool), cond p q r = true ↔ (p = true /\ q = true) ∨ (p = false /\ r = true) := by decide
  have cf : ∀ (p q r : Bool), cond p q r = false ↔ (p = true /\ q = false) ∨ (p = false /\ r = false) := by decide
  simp [cc, cf]
  omega
theorem statePs (a : Ty.T y36) (hb : a.1.length <= 1048576) (hl : a.2.1.length <= 1048576) : (∃ j : Nat, iter s125_0 (n125_0 (false, 0, a, ())) (false, 0, a, ()) = some (0, (false, (j : Int), a, ())) /\ iter s95_0 (n95_0 (false, a.1, ((a.1).length : Int), 0, a, ())) (false, a.1, ((a.1).length : Int), 0, a, ()) = some (0, (false, a.1, ((a.1).length : Int), (j : Int), a, ()))) ∨ (iter s125_0 (n125_0 (false, 0, a, ())) (false, 0, a, ()) = some (1, (false, (a.1.length : Int), a, ())) /\ iter s95_0 (n95_0 (false, a.1, ((a.1).length : Int), 0, a, ())) (false, a.1, ((a.1).length : Int), 0, a, ()) = some (1, (false, a.1, ((a.1).length : Int), (a.1.length : Int), a, ()))) := by
  refine sim_iter (s1 := s125_0) (s2 := s95_0) (mk1 := fun i => (false, i, a, ())) (mk2 := fun i => (false, a.1, ((a.1).length : Int), i, a, ())) (fin1 := fun i => (false, (i : Int), a, ())) (fin2 := fun i => (false, a.1, ((a.1).length : Int), (i : Int), a, ())) (N := a.1.length) (fun i hi => ?_) (by simp [s125_0, t125_0]) (by simp [s95_0, t95_0]) a.1.length 0 _ _ (by omega) (by simp only [n125_0]; omega) (by simp only [n95_0]; omega)
  have h1 : a.1[i]? = some a.1[i] := List.getElem?_eq_getElem hi
  have h3 : (i : Int) < (a.1.length : Int) := by omega
  generalize a.1[i] = p at h1
  cases hp : v198 p with
  | false =>
    refine .inr ⟨?_, ?_⟩
    · simp only [s125_0, t125_0, decide_eq_true h3, cond_true, if_pos (show (0 : Int) <= (i : Int) by omega), Int.toNat_natCast, h1, optC_some, hp, Bool.not_false]
    · simp only [s95_0, t95_0, decide_eq_true h3, cond_true, if_pos (show (0 : Int) <= (i : Int) by omega), Int.toNat_natCast, h1, optC_some, pieceOk, hp, Bool.not_false]
  | true =>
    have hlow := pieceLow p hp
    have hs1 := side' p.2.1 (a.2.1.length : Int) hlow.1 (by omega) (by omega)
    have hs2 := side' p.2.2.1 (a.2.1.length : Int) hlow.2 (by omega) (by omega)
    have hw := wrap_nat (n := i) (by omega)
    match i, hi, h1, h3, hw with
    | 0, hi, h1, h3, hw =>
      simp only [s125_0, t125_0, s95_0, t95_0, v166, decide_eq_true h3, cond_true, if_pos (show (0 : Int) <= ((0 : Nat) : Int) by omega), Int.toNat_natCast, h1, optC_some, pieceOk, hp, Bool.not_true, cond_false, hs1, hs2, Bool.not_not, decide_eq_false (show ¬ ((0 : Nat) : Int) > 0 by omega), hw]
      cases decide (p.2.1 ≥ (a.2.1.length : Int)) <;> cases decide (p.2.2.1 ≥ (a.2.1.length : Int)) <;> cases decide (p.2.2.2.2.1 > a.2.2.2) <;> first | exact .inl ⟨rfl, rfl⟩ | exact .inr ⟨rfl, rfl⟩
    | j + 1, hi, h1, h3, hw =>
      have h2 : a.1[j]? = some a.1[j] := List.getElem?_eq_getElem (by omega)
      generalize a.1[j] = q at h2
      simp only [s125_0, t125_0, s95_0, t95_0, v166, decide_eq_true h3, cond_true, if_pos (show (0 : Int) <= ((j + 1 : Nat) : Int) by omega), Int.toNat_natCast, h1, h2, optC_some, pieceOk, hp, Bool.not_true, cond_false, hs1, hs2, Bool.not_not, decide_eq_true (show ((j + 1 : Nat) : Int) > 0 by omega), wrap_pred j (by omega), if_pos (show (0 : Int) <= (j : Int) by omega), hw]
      cases decide (q.1 ≥ p.1) <;> cases decide (p.2.1 ≥ (a.2.1.length : Int)) <;> cases decide (p.2.2.1 ≥ (a.2.1.length : Int)) <;> cases decide (p.2.2.2.2.1 > a.2.2.2) <;> first | exact .inl ⟨rfl, rfl⟩ | exact .inr ⟨rfl, rfl⟩
theorem sideOk' (x y : Int) (t : Bool) : v170 ((x, y, t) : Ty.T y181) = !v199 ((x, y, t) : Ty.T y181) := by
  simp only [v170, v199, v129, v99, v139, v171]
  try dsimp only [Ty.T]
  have cc : ∀ (p q r : Bool), cond p q r = true ↔ (p = true /\ q = true) ∨ (p = false /\ r = true) := by decide
  have cf : ∀ (p q r : Bool), cond p q r = false ↔ (p = true /\ q = false) ∨ (p = false /\ r = false) := by decide
  rw [Bool.eq_iff_iff]
  simp [cc, cf]
  omega
theorem sideOk (s : Ty.T y181) : v170 s = !v199 s := sideOk' s.1 s.2.1 s.2.2
theorem specSides (a : Ty.T y36) (hb : a.2.1.length <= 1048576) : (a.2.1.any (fun x => !v199 x) = true /\ k125_1 false 0 a 0 = true /\ ∃ j : Nat, w125_1 false 0 a = (false, (j : Int), a, ())) ∨ (a.2.1.any (fun x => !v199 x) = false /\ k125_1 false 0 a 0 = false /\ k125_1 false 0 a 1 = true /\ w125_1 false 0 a = (false, (a.2.1.length : Int), a, ())) := by
  have h := find_iter (s := s125_1) (mk := fun i => (false, i, a, ())) (fin := fun i => (false, (i : Int), a, ())) (p := fun i => match a.2.1[i]? with | some x => !v199 x | none => false) (N := a.2.1.length) (fun i hi => by
    have h1 := List.getElem?_eq_getElem hi
    simp only [h1]
    skip
    cases ht : (v199 a.2.1[i] : Bool) <;> simp [s125_1, t125_1, optC_some, hi, h1, ht,  wrap_nat (n := i) (by omega)]) (by simp [s125_1, t125_1]) a.2.1.length 0 (n125_1 (false, 0, a, ())) (by omega) (by simp only [n125_1]; omega)
  have hf := first_any (p := fun x => !v199 x) (xs := a.2.1) (q := fun i => match a.2.1[i]? with | some x => !v199 x | none => false) (fun i x h1 => by simp only [h1])
  revert h hf
  generalize first _ 0 a.2.1.length = o
  intro h hf
  cases o with
  | none => exact .inr ⟨hf.symm, at_of h 0, at_of h 1, val_of h⟩
  | some j => exact .inl ⟨hf.symm, at_of h 0, j, val_of h⟩
theorem implSides' (l : List (Ty.T y181)) (hb : l.length <= 1048576) : (l.any (fun x => !v199 x) = true /\ k222c1_0 l 0 ((l).length : Int) 0 0 = true /\ ∃ j : Nat, w222c1_0 l 0 ((l).length : Int) 0 = (l, (j : Int), ((l).length : Int), (j : Int), ())) ∨ (l.any (fun x => !v199 x) = false /\ k222c1_0 l 0 ((l).length : Int) 0 0 = false /\ k222c1_0 l 0 ((l).length : Int) 0 1 = true /\ w222c1_0 l 0 ((l).length : Int) 0 = (l, 0, ((l).length : Int), (l.length : Int), ())) := by
  have h := find_iter (s := s222c1_0) (mk := fun i => (l, 0, ((l).length : Int), i, ())) (fin := fun i => (l, (i : Int), ((l).length : Int), (i : Int), ())) (p := fun i => match l[i]? with | some x => !v199 x | none => false) (N := l.length) (fun i hi => by
    have h1 := List.getElem?_eq_getElem hi
    simp only [h1]
    skip
    cases ht : (v199 l[i] : Bool) <;> simp [s222c1_0, t222c1_0, optC_some, hi, h1, ht, sideOk, wrap_nat (n := i) (by omega)]) (by simp [s222c1_0, t222c1_0]) l.length 0 (n222c1_0 (l, 0, ((l).length : Int), 0, ())) (by omega) (by simp only [n222c1_0]; omega)
  have hf := first_any (p := fun x => !v199 x) (xs := l) (q := fun i => match l[i]? with | some x => !v199 x | none => false) (fun i x h1 => by simp only [h1])
  revert h hf
  generalize first _ 0 l.length = o
  intro h hf
  cases o with
  | none => exact .inr ⟨hf.symm, at_of h 0, at_of h 1, val_of h⟩
  | some j => exact .inl ⟨hf.symm, at_of h 0, j, val_of h⟩
theorem implSides (l : List (Ty.T y181)) (hb : l.length <= 1048576) : d169c1 l = true /\ v169c1 l = l.any (fun x => !v199 x) := by
  unfold d169c1 v169c1 d222c1 v222c1
  rcases implSides' l hb with ⟨hB, e0, j, hw⟩ | ⟨hB, e0, e1, hw⟩
  · rw [e0, hw, hB]
    exact ⟨rfl, decide_eq_true (show ((j : Int)) ≥ 0 by omega)⟩
  · rw [e0, e1, hB]
    exact ⟨rfl, rfl⟩
theorem stateOk (a : Ty.T y36) (hb : a.1.length <= 1048576) (hl : a.2.1.length <= 1048576) : d125 a = true /\ d95 a = true /\ v95 a = v125 a := by
  have hi := implSides a.2.1 hl
  unfold d125 d95 v125 v95 t125 t95
  try simp only [nfs]
  simp only [v166, v167, v99, v129]
  rcases statePs a hb hl with ⟨j, x1, x2⟩ | ⟨x1, x2⟩
  · have e0 : k125_0 false 0 a 0 = true := at_of x1 0
    have f0 : k95_0 false a.1 ((a.1).length : Int) 0 a 0 = true := at_of x2 0
    have ew : w125_0 false 0 a = _ := val_of x1
    have fw : w95_0 false a.1 ((a.1).length : Int) 0 a = _ := val_of x2
    simp only [e0, f0, ew, fw]
    generalize decide ((a.1.length : Int) > (8 : Int)) = b1
    cases b1
    · refine ⟨?_, ?_, ?_⟩ <;> simp
    · exact ⟨rfl, rfl, rfl⟩
  · have e0 : k125_0 false 0 a 0 = false := at_of x1 0
    have e1 : k125_0 false 0 a 1 = true := at_of x1 1
    have f0 : k95_0 false a.1 ((a.1).length : Int) 0 a 0 = false := at_of x2 0
    have f1 : k95_0 false a.1 ((a.1).length : Int) 0 a 1 = true := at_of x2 1
    have ew : w125_0 false 0 a = _ := val_of x1
    have fw : w95_0 false a.1 ((a.1).length : Int) 0 a = _ := val_of x2
    simp only [e0, e1, f0, f1, ew, fw, hi.1, hi.2]
    rcases specSides a hl with ⟨hB, y0, k, hw⟩ | ⟨hB, y0, y1, hw⟩
    · simp only [y0, hw, hB]
      generalize decide ((a.1.length : Int) > (8 : Int)) = b1
      cases b1
      · refine ⟨?_, ?_, ?_⟩ <;> simp
      · exact ⟨rfl, rfl, rfl⟩
    · simp only [y0, y1, hw, hB]
      generalize decide ((a.1.length : Int) > (8 : Int)) = b1
      cases b1
      · refine ⟨?_, ?_, ?_⟩ <;> simp
      · exact ⟨rfl, rfl, rfl⟩
theorem tableL (l : List (Ty.T y102)) (hb : l.length <= 1048576) (hv : ∀ x ∈ l, x.2.2.2.2.2.2.1.2.2.2.2.2.2.length <= 1048576) : (∃ j : Nat, iter s130_0 (n130_0 (l, false, 0, ())) (l, false, 0, ()) = some (0, (l, false, (j : Int), ())) /\ iter s97_0 (n97_0 (l, false, l, ((l).length : Int), 0, ())) (l, false, l, ((l).length : Int), 0, ()) = some (0, (l, false, l, ((l).length : Int), (j : Int), ()))) ∨ (iter s130_0 (n130_0 (l, false, 0, ())) (l, false, 0, ()) = some (1, (l, false, (l.length : Int), ())) /\ iter s97_0 (n97_0 (l, false, l, ((l).length : Int), 0, ())) (l, false, l, ((l).length : Int), 0, ()) = some (1, (l, false, l, ((l).length : Int), (l.length : Int), ()))) := by
  refine sim_iter (s1 := s130_0) (s2 := s97_0) (mk1 := fun i => (l, false, i, ())) (mk2 := fun i => (l, false, l, ((l).length : Int), i, ())) (fin1 := fun i => (l, false, (i : Int), ())) (fin2 := fun i => (l, false, l, ((l).length : Int), (i : Int), ())) (N := l.length) (fun i hi => ?_) (by simp [s130_0, t130_0]) (by simp [s97_0, t97_0]) l.length 0 _ _ (by omega) (by simp only [n130_0]; omega) (by simp only [n97_0]; omega)
  have h1 : l[i]? = some l[i] := List.getElem?_eq_getElem hi
  have h3 : (i : Int) < (l.length : Int) := by omega
  have hq := effectOk l[i] (hv _ (List.getElem_mem hi))
  generalize l[i] = p at h1 hq
  have hw := wrap_nat (n := i) (by omega)
  match i, hi, h1, h3, hw with
  | 0, hi, h1, h3, hw =>
    simp only [s130_0, t130_0, s97_0, t97_0, decide_eq_true h3, cond_true, if_pos (show (0 : Int) <= ((0 : Nat) : Int) by omega), Int.toNat_natCast, h1, optC_some, hq.1, hq.2.1, hq.2.2, decide_eq_false (show ¬ ((0 : Nat) : Int) > 0 by omega), cond_false, hw]
    cases v200 p <;> first | exact .inl ⟨rfl, rfl⟩ | exact .inr ⟨rfl, rfl⟩
  | j + 1, hi, h1, h3, hw =>
    have h2 : l[j]? = some l[j] := List.getElem?_eq_getElem (by omega)
    generalize l[j] = q at h2
    simp only [s130_0, t130_0, s97_0, t97_0, decide_eq_true h3, cond_true, if_pos (show (0 : Int) <= ((j + 1 : Nat) : Int) by omega), Int.toNat_natCast, h1, h2, optC_some, hq.1, hq.2.1, hq.2.2, decide_eq_true (show ((j + 1 : Nat) : Int) > 0 by omega), wrap_pred j (by omega), if_pos (show (0 : Int) <= (j : Int) by omega), hw]
    cases v200 p <;> cases decide (q.1 ≥ p.1) <;> first | exact .inl ⟨rfl, rfl⟩ | exact .inr ⟨rfl, rfl⟩
theorem tableOk (l : List (Ty.T y102)) (hb : l.length <= 1048576) (hv : ∀ x ∈ l, x.2.2.2.2.2.2.1.2.2.2.2.2.2.length <= 1048576) : d130 l = true /\ d97 l = true /\ v97 l = v130 l := by
  unfold d130 d97 v130 v97
  rcases tableL l hb hv with ⟨j, x1, x2⟩ | ⟨x1, x2⟩
  · have e0 : k130_0 l false 0 0 = true := at_of x1 0
    have f0 : k97_0 l false l ((l).length : Int) 0 0 = true := at_of x2 0
    have ew : w130_0 l false 0 = _ := val_of x1
    have fw : w97_0 l false l ((l).length : Int) 0 = _ := val_of x2
    simp only [e0, f0, ew, fw]
    first | exact ⟨rfl, rfl, rfl⟩ | simp
  · have e0 : k130_0 l false 0 0 = false := at_of x1 0
    have e1 : k130_0 l false 0 1 = true := at_of x1 1
    have f0 : k97_0 l false l ((l).length : Int) 0 0 = false := at_of x2 0
    have f1 : k97_0 l false l ((l).length : Int) 0 1 = true := at_of x2 1
    have ew : w130_0 l false 0 = _ := val_of x1
    have fw : w97_0 l false l ((l).length : Int) 0 = _ := val_of x2
    simp only [e0, e1, f0, f1, ew, fw]
    first | exact ⟨rfl, rfl, rfl⟩ | simp
theorem specOrders (a : Ty.T y40) (hb : a.2.2.1.length <= 1048576) (hv : ∀ x ∈ a.2.2.1, (x.2.1.2.2.2.2.2.2.1.2.2.2.2.2.2.length <= 1048576 /\ x.2.2.2.length <= 1048576)) : (a.2.2.1.any (fun x => !v128 x) = true /\ k53_0 false 0 a 0 = true /\ ∃ j : Nat, w53_0 false 0 a = (false, (j : Int), a, ())) ∨ (a.2.2.1.any (fun x => !v128 x) = false /\ k53_0 false 0 a 0 = false /\ k53_0 false 0 a 1 = true /\ w53_0 false 0 a = (false, (a.2.2.1.length : Int), a, ())) := by
  have h := find_iter (s := s53_0) (mk := fun i => (false, i, a, ())) (fin := fun i => (false, (i : Int), a, ())) (p := fun i => match a.2.2.1[i]? with | some x => !v128 x | none => false) (N := a.2.2.1.length) (fun i hi => by
    have h1 := List.getElem?_eq_getElem hi
    simp only [h1]
    have hq := orderOk a.2.2.1[i] (hv _ (List.getElem_mem hi)).1 (hv _ (List.getElem_mem hi)).2
    cases ht : (v128 a.2.2.1[i] : Bool) <;> simp [s53_0, t53_0, optC_some, hi, h1, ht, hq.1, hq.2.1, hq.2.2, wrap_nat (n := i) (by omega)]) (by simp [s53_0, t53_0]) a.2.2.1.length 0 (n53_0 (false, 0, a, ())) (by omega) (by simp only [n53_0]; omega)
  have hf := first_any (p := fun x => !v128 x) (xs := a.2.2.1) (q := fun i => match a.2.2.1[i]? with | some x => !v128 x | none => false) (fun i x h1 => by simp only [h1])
  revert h hf
  generalize first _ 0 a.2.2.1.length = o
  intro h hf
  cases o with
  | none => exact .inr ⟨hf.symm, at_of h 0, at_of h 1, val_of h⟩
  | some j => exact .inl ⟨hf.symm, at_of h 0, j, val_of h⟩
theorem specChoices (a : Ty.T y40) (hb : a.2.2.2.length <= 1048576) : (a.2.2.2.any (fun x => !v129 x (-2147483647) 2147483647) = true /\ k53_1 false 0 a 0 = true /\ ∃ j : Nat, w53_1 false 0 a = (false, (j : Int), a, ())) ∨ (a.2.2.2.any (fun x => !v129 x (-2147483647) 2147483647) = false /\ k53_1 false 0 a 0 = false /\ k53_1 false 0 a 1 = true /\ w53_1 false 0 a = (false, (a.2.2.2.length : Int), a, ())) := by
  have h := find_iter (s := s53_1) (mk := fun i => (false, i, a, ())) (fin := fun i => (false, (i : Int), a, ())) (p := fun i => match a.2.2.2[i]? with | some x => !v129 x (-2147483647) 2147483647 | none => false) (N := a.2.2.2.length) (fun i hi => by
    have h1 := List.getElem?_eq_getElem hi
    simp only [h1]
    skip
    cases ht : (v129 a.2.2.2[i] (-2147483647) 2147483647 : Bool) <;> simp [s53_1, t53_1, optC_some, hi, h1, ht,  wrap_nat (n := i) (by omega)]) (by simp [s53_1, t53_1]) a.2.2.2.length 0 (n53_1 (false, 0, a, ())) (by omega) (by simp only [n53_1]; omega)
  have hf := first_any (p := fun x => !v129 x (-2147483647) 2147483647) (xs := a.2.2.2) (q := fun i => match a.2.2.2[i]? with | some x => !v129 x (-2147483647) 2147483647 | none => false) (fun i x h1 => by simp only [h1])
  revert h hf
  generalize first _ 0 a.2.2.2.length = o
  intro h hf
  cases o with
  | none => exact .inr ⟨hf.symm, at_of h 0, at_of h 1, val_of h⟩
  | some j => exact .inl ⟨hf.symm, at_of h 0, j, val_of h⟩
theorem implOrders' (l : List (Ty.T y105)) (hb : l.length <= 1048576) (hv : ∀ x ∈ l, (x.2.1.2.2.2.2.2.2.1.2.2.2.2.2.2.length <= 1048576 /\ x.2.2.2.length <= 1048576)) : (l.any (fun x => !v128 x) = true /\ k203c1_0 l 0 ((l).length : Int) 0 0 = true /\ ∃ j : Nat, w203c1_0 l 0 ((l).length : Int) 0 = (l, (j : Int), ((l).length : Int), (j : Int), ())) ∨ (l.any (fun x => !v128 x) = false /\ k203c1_0 l 0 ((l).length : Int) 0 0 = false /\ k203c1_0 l 0 ((l).length : Int) 0 1 = true /\ w203c1_0 l 0 ((l).length : Int) 0 = (l, 0, ((l).length : Int), (l.length : Int), ())) := by
  have h := find_iter (s := s203c1_0) (mk := fun i => (l, 0, ((l).length : Int), i, ())) (fin := fun i => (l, (i : Int), ((l).length : Int), (i : Int), ())) (p := fun i => match l[i]? with | some x => !v128 x | none => false) (N := l.length) (fun i hi => by
    have h1 := List.getElem?_eq_getElem hi
    simp only [h1]
    have hq := orderOk l[i] (hv _ (List.getElem_mem hi)).1 (hv _ (List.getElem_mem hi)).2
    cases ht : (v128 l[i] : Bool) <;> simp [s203c1_0, t203c1_0, optC_some, hi, h1, ht, hq.1, hq.2.1, hq.2.2, v135, d135, wrap_nat (n := i) (by omega)]) (by simp [s203c1_0, t203c1_0]) l.length 0 (n203c1_0 (l, 0, ((l).length : Int), 0, ())) (by omega) (by simp only [n203c1_0]; omega)
  have hf := first_any (p := fun x => !v128 x) (xs := l) (q := fun i => match l[i]? with | some x => !v128 x | none => false) (fun i x h1 => by simp only [h1])
  revert h hf
  generalize first _ 0 l.length = o
  intro h hf
  cases o with
  | none => exact .inr ⟨hf.symm, at_of h 0, at_of h 1, val_of h⟩
  | some j => exact .inl ⟨hf.symm, at_of h 0, j, val_of h⟩
theorem implOrders (l : List (Ty.T y105)) (hb : l.length <= 1048576) (hv : ∀ x ∈ l, (x.2.1.2.2.2.2.2.2.1.2.2.2.2.2.2.length <= 1048576 /\ x.2.2.2.length <= 1048576)) : d134c1 l = true /\ v134c1 l = l.any (fun x => !v128 x) := by
  unfold d134c1 v134c1 d203c1 v203c1
  rcases implOrders' l hb hv with ⟨hB, e0, j, hw⟩ | ⟨hB, e0, e1, hw⟩
  · rw [e0, hw, hB]
    exact ⟨rfl, decide_eq_true (show ((j : Int)) ≥ 0 by omega)⟩
  · rw [e0, e1, hB]
    exact ⟨rfl, rfl⟩
theorem choice (n : Int) : v138 n = !v129 n (-2147483647) 2147483647 := by
  simp only [v138, v129, v139]
  have cc : ∀ (p q r : Bool), cond p q r = true ↔ (p = true /\ q = true) ∨ (p = false /\ r = true) := by decide
  have cf : ∀ (p q r : Bool), cond p q r = false ↔ (p = true /\ q = false) ∨ (p = false /\ r = false) := by decide
  rw [Bool.eq_iff_iff]
  simp [cc, cf]
  omega
theorem implChoices' (l : List (Ty.T (.int .i64))) (hb : l.length <= 1048576) : (l.any (fun x => !v129 x (-2147483647) 2147483647) = true /\ k206c1_0 l 0 ((l).length : Int) 0 0 = true /\ ∃ j : Nat, w206c1_0 l 0 ((l).length : Int) 0 = (l, (j : Int), ((l).length : Int), (j : Int), ())) ∨ (l.any (fun x => !v129 x (-2147483647) 2147483647) = false /\ k206c1_0 l 0 ((l).length : Int) 0 0 = false /\ k206c1_0 l 0 ((l).length : Int) 0 1 = true /\ w206c1_0 l 0 ((l).length : Int) 0 = (l, 0, ((l).length : Int), (l.length : Int), ())) := by
  have h := find_iter (s := s206c1_0) (mk := fun i => (l, 0, ((l).length : Int), i, ())) (fin := fun i => (l, (i : Int), ((l).length : Int), (i : Int), ())) (p := fun i => match l[i]? with | some x => !v129 x (-2147483647) 2147483647 | none => false) (N := l.length) (fun i hi => by
    have h1 := List.getElem?_eq_getElem hi
    simp only [h1]
    skip
    cases ht : (v129 l[i] (-2147483647) 2147483647 : Bool) <;> simp [s206c1_0, t206c1_0, optC_some, hi, h1, ht, choice, wrap_nat (n := i) (by omega)]) (by simp [s206c1_0, t206c1_0]) l.length 0 (n206c1_0 (l, 0, ((l).length : Int), 0, ())) (by omega) (by simp only [n206c1_0]; omega)
  have hf := first_any (p := fun x => !v129 x (-2147483647) 2147483647) (xs := l) (q := fun i => match l[i]? with | some x => !v129 x (-2147483647) 2147483647 | none => false) (fun i x h1 => by simp only [h1])
  revert h hf
  generalize first _ 0 l.length = o
  intro h hf
  cases o with
  | none => exact .inr ⟨hf.symm, at_of h 0, at_of h 1, val_of h⟩
  | some j => exact .inl ⟨hf.symm, at_of h 0, j, val_of h⟩
theorem implChoices (l : List (Ty.T (.int .i64))) (hb : l.length <= 1048576) : d137c1 l = true /\ v137c1 l = l.any (fun x => !v129 x (-2147483647) 2147483647) := by
  unfold d137c1 v137c1 d206c1 v206c1
  rcases implChoices' l hb with ⟨hB, e0, j, hw⟩ | ⟨hB, e0, e1, hw⟩
  · rw [e0, hw, hB]
    exact ⟨rfl, decide_eq_true (show ((j : Int)) ≥ 0 by omega)⟩
  · rw [e0, e1, hB]
    exact ⟨rfl, rfl⟩
theorem scriptOk (a : Ty.T y40) (h1 : a.1.1.length <= 1048576) (h2 : a.1.2.1.length <= 1048576) (h3 : a.2.1.length <= 1048576) (h4 : ∀ x ∈ a.2.1, x.2.2.2.2.2.2.1.2.2.2.2.2.2.length <= 1048576) (h5 : a.2.2.1.length <= 1048576) (hv : ∀ x ∈ a.2.2.1, (x.2.1.2.2.2.2.2.2.1.2.2.2.2.2.2.length <= 1048576 /\ x.2.2.2.length <= 1048576)) (h6 : a.2.2.2.length <= 1048576) : d53 a = true /\ d61 a = true /\ v61 a = v53 a := by
  have s := stateOk a.1 h1 h2
  have t := tableOk a.2.1 h3 h4
  have o := implOrders a.2.2.1 h5 hv
  have c := implChoices a.2.2.2 h6
  unfold d53 d61 v53 v61 t53
  try simp only [nfs]
  simp only [s.2.1, s.2.2, t.2.1, t.2.2, o.1, o.2, c.1, c.2]
  rcases specOrders a h5 hv with ⟨hB, e0, j, hw⟩ | ⟨hB, e0, e1, hw⟩
  · simp only [e0, hw, hB]
    refine ⟨?_, ?_, ?_⟩ <;> simp
  · simp only [e0, e1, hw, hB]
    rcases specChoices a h6 with ⟨hC, y0, k, hx⟩ | ⟨hC, y0, y1, hx⟩
    · simp only [y0, hx, hC]
      refine ⟨?_, ?_, ?_⟩ <;> simp
    · simp only [y0, y1, hx, hC, s.1, t.1]
      refine ⟨?_, ?_, ?_⟩ <;> simp
theorem and255 (m : Nat) (hm : m < 4294967296) : IntKind.wrap .u8 (IntKind.wrap .i64 ((BitVec.ofInt (IntKind.bits .i64) (m : Int) &&& BitVec.ofInt (IntKind.bits .i64) (255 : Int)).toNat : Int)) = IntKind.wrap .u8 (m : Int) := by
  have h1 : (BitVec.ofInt (IntKind.bits .i64) (m : Int) &&& BitVec.ofInt (IntKind.bits .i64) (255 : Int)).toNat = m % 256 := by
    rw [BitVec.toNat_and]
    have e1 : (BitVec.ofInt (IntKind.bits .i64) (m : Int)).toNat = m := by
      simp only [BitVec.toNat_ofInt, IntKind.bits]
      omega
    have e2 : (BitVec.ofInt (IntKind.bits .i64) (255 : Int)).toNat = 255 := by decide
    rw [e1, e2, show (255 : Nat) = 2 ^ 8 - 1 from rfl, Nat.and_two_pow_sub_one_eq_mod]
  rw [h1, wrap_in (by omega) (by omega)]
  simp only [IntKind.wrap, IntKind.bits, IntKind.signed, Bool.false_and]
  simp
theorem and255' {y : Int} (h0 : 0 <= y) (h1 : y < 4294967296) : IntKind.wrap .u8 (IntKind.wrap .i64 ((BitVec.ofInt (IntKind.bits .i64) y &&& BitVec.ofInt (IntKind.bits .i64) (255 : Int)).toNat : Int)) = IntKind.wrap .u8 y := by
  obtain ⟨m, rfl⟩ : ∃ m : Nat, y = (m : Int) := ⟨y.toNat, by omega⟩
  exact and255 m (by omega)
theorem bnds (n : Int) : v139 n = v131 n /\ -2147483647 <= v131 n /\ v131 n <= 2147483647 := by
  simp only [v139, v131]
  by_cases h1 : n > 2147483647
  · rw [decide_eq_true h1, if_pos (show (2147483647 : Int) < n by omega)]
    simp
  · rw [decide_eq_false h1, if_neg (show ¬ (2147483647 : Int) < n by omega)]
    by_cases h2 : n < -2147483647
    · rw [decide_eq_true h2, if_neg (show ¬ n > -2147483647 by omega)]
      simp
    · rw [decide_eq_false h2]
      by_cases h3 : n > -2147483647
      · rw [if_pos h3]; simp; omega
      · rw [if_neg h3]; simp; omega
noncomputable def B4 (n : Int) : List Int := v67 [] n
theorem putI (b : List Int) (n : Int) (hb : b.length <= 1099511627776) : d67 b n = true /\ v67 b n = b ++ B4 n := by
  have h1 : b.length * 1 <= 140737488351232 := by omega
  have h2 : (b.length + 4) * 1 <= 140737488351232 := by omega
  constructor <;> simp [d67, v67, B4, t67, d144, v144, show b.length <= 140737488351232 by omega, show b.length <= 140737488351228 by omega, nfs]
theorem b4len (n : Int) : (B4 n).length = 4 := by simp [B4, v67, t67, d144, v144, nfs]
theorem putS (b : List Int) (n : Int) (hb : b.length <= 1099511627776) : d55 b n = true /\ v55 b n = b ++ B4 n := by
  rw [← (putI b n hb).2]
  have h1 : b.length * 1 <= 140737488351232 := by omega
  have h2 : (b.length + 4) * 1 <= 140737488351232 := by omega
  have hy := bnds n
  rw [show v67 b n = (t67 b n some).getD [] from rfl]
  simp only [d55, v55, t55, t67, d144, v144, hy.1, nfs]
  generalize v131 n = y at hy
  rw [wrap_in (n := y + 2147483648) (by omega) (by omega)]
  obtain ⟨m, hm⟩ : ∃ m : Nat, y + 2147483648 = (m : Int) := ⟨(y + 2147483648).toNat, by omega⟩
  rw [hm]
  have hm2 : m < 4294967296 := by omega
  have e : ∀ k : Nat, Int.fdiv (m : Int) (k : Int) = ((m / k : Nat) : Int) := fun k => by rw [Int.fdiv_eq_ediv_of_nonneg _ (by omega)]; rfl
  have e3 := e 16777216; have e2 := e 65536; have e1 := e 256
  simp only [show (2 : Int) ^ 24 = ((16777216 : Nat) : Int) from rfl, show (2 : Int) ^ 16 = ((65536 : Nat) : Int) from rfl, show (2 : Int) ^ 8 = ((256 : Nat) : Int) from rfl, e3, e2, e1]
  rw [and255 (m / 16777216) (by omega), and255 (m / 65536) (by omega), and255 (m / 256) (by omega), and255 m hm2]
  simp [show b.length <= 140737488351232 by omega, show b.length <= 140737488351228 by omega]
theorem foldLen (l : List Int) (b : List Int) : (l.foldl (fun b n => b ++ B4 n) b).length = b.length + 4 * l.length := by
  induction l generalizing b with
  | nil => simp
  | cons x l ih => rw [List.foldl_cons, ih]; simp [b4len]; omega
theorem foldG {X Y : Type} (G : X -> List Y) (l : List X) (b : List Y) : l.foldl (fun b x => b ++ G x) b = b ++ l.flatMap G := by
  induction l generalizing b with
  | nil => simp
  | cons x l ih => rw [List.foldl_cons, ih]; simp
theorem flatLen {X Y : Type} (G : X -> List Y) (c : Nat) (l : List X) (h : ∀ x ∈ l, (G x).length <= c) : (l.flatMap G).length <= c * l.length := by
  induction l with
  | nil => simp
  | cons x l ih =>
    have h1 := h x (by simp)
    have h2 := ih (fun y hy => h y (by simp [hy]))
    simp only [List.flatMap_cons, List.length_append, List.length_cons, Nat.mul_add]
    omega
theorem foldLe {X : Type} (G : X -> List Int) (c : Nat) (l : List X) (b : List Int) (i : Nat) (h : ∀ x, (G x).length <= c) (m : Nat) (hb : b.length <= m + c * i) (x : X) : (b ++ G x).length <= m + c * (i + 1) := by
  have := h x
  simp only [List.length_append, Nat.mul_add]
  omega
theorem stop_iter {V X A : Type} {s : V -> Option (Nat × V)} {mk : A -> Int -> V} {fin : A -> Int -> V} {xs : List X} {f : A -> X -> A} {bad : X -> Bool} {Inv : Nat -> A -> Prop}
    (h1 : ∀ (i : Nat) (x : X) (a : A), xs[i]? = some x -> Inv i a -> (bad x = true -> s (mk a (i : Int)) = some (1, fin a (i : Int))) /\ (bad x = false -> s (mk a (i : Int)) = some (0, mk (f a x) ((i + 1 : Nat) : Int)) /\ Inv (i + 1) (f a x)))
    (h2 : ∀ a, s (mk a (xs.length : Int)) = some (2, mk a (xs.length : Int))) :
    ∀ (k i : Nat) (a : A) (n : Nat), i + k = xs.length -> k < n -> Inv i a -> (∃ a' j, (xs.drop i).any bad = true /\ iter s n (mk a (i : Int)) = some (0, fin a' j)) ∨ ((xs.drop i).any bad = false /\ iter s n (mk a (i : Int)) = some (1, mk ((xs.drop i).foldl f a) (xs.length : Int)))
  | 0, i, a, n, hk, hn, hI => by
    obtain ⟨m, rfl⟩ : ∃ m, n = m + 1 := ⟨n - 1, by omega⟩
    have hi : i = xs.length := by omega
    subst hi
    refine .inr ⟨by simp, ?_⟩
    rw [iter, h2 a, List.drop_eq_nil_of_le (Nat.le_refl _)]
    rfl
  | k + 1, i, a, n, hk, hn, hI => by
    obtain ⟨m, rfl⟩ : ∃ m, n = m + 1 := ⟨n - 1, by omega⟩
    have hi : i < xs.length := by omega
    have hx := List.getElem?_eq_getElem hi
    obtain ⟨q1, q2⟩ := h1 i _ a hx hI
    rw [List.drop_eq_getElem_cons hi]
    cases hb : bad xs[i] with
    | true => exact .inl ⟨a, i, by rw [List.any_cons, hb, Bool.true_or], by rw [iter, q1 hb]; rfl⟩
    | false =>
      obtain ⟨q3, q4⟩ := q2 hb
      rcases stop_iter h1 h2 k (i + 1) (f a xs[i]) m (by omega) (by omega) q4 with ⟨a', j, e1, e2⟩ | ⟨e1, e2⟩
      · exact .inl ⟨a', j, by simp only [List.any_cons, hb, Bool.false_or]; exact e1, by rw [iter, q3]; exact e2⟩
      · exact .inr ⟨by simp only [List.any_cons, hb, Bool.false_or]; exact e1, by rw [iter, q3]; exact e2⟩
theorem putLS (x0 : List (Ty.T (.int .i64))) (x1 : List (Ty.T (.int .u8))) (pre : List Int) (hb : x0.length <= 1048576) (hp : pre.length <= 549755813888) : k56_0 x0 x1 0 pre 0 = true /\ w56_0 x0 x1 0 pre = (x0, x1, (x0.length : Int), (pre ++ x0.flatMap B4), ()) := by
  have h := fold_iter (s := s56_0) (mk := fun (k : List Int) i => (x0, x1, i, k, ())) (xs := x0) (f := fun k x => k ++ B4 x) (Inv := fun i k => k.length <= 549755813888 + 4 * i) (fun i x k hx hI => by
    obtain ⟨hi, rfl⟩ := List.getElem?_eq_some_iff.1 hx
    have hl : k.length <= 824633720832 := by omega
    have hq := putS k x0[i] (by omega); have hG := b4len x0[i]
    refine ⟨by simp [s56_0, t56_0, optC_some, hi, hq.1, hq.2, wrap_nat (n := i) (by omega)], ?_⟩
    have := hG
    simp only [List.length_append, Nat.mul_add]
    omega) (fun k => by simp [s56_0, t56_0]) x0.length 0 pre (n56_0 (x0, x1, 0, pre, ())) (by omega) (by simp only [n56_0]; omega) (by omega)
  rw [List.drop_zero, foldG] at h
  exact ⟨at_of h 0, val_of h⟩
theorem putLI (x0 : List (Ty.T (.int .u8))) (x1 : List (Ty.T (.int .i64))) (pre : List Int) (hb : x1.length <= 1048576) (hp : pre.length <= 549755813888) : k68_0 x0 x1 (x1.length : Int) 0 pre 0 = true /\ w68_0 x0 x1 (x1.length : Int) 0 pre = (x0, x1, (x1.length : Int), (x1.length : Int), (pre ++ x1.flatMap B4), ()) := by
  have h := fold_iter (s := s68_0) (mk := fun (k : List Int) i => (x0, x1, (x1.length : Int), i, k, ())) (xs := x1) (f := fun k x => k ++ B4 x) (Inv := fun i k => k.length <= 549755813888 + 4 * i) (fun i x k hx hI => by
    obtain ⟨hi, rfl⟩ := List.getElem?_eq_some_iff.1 hx
    have hl : k.length <= 824633720832 := by omega
    have hq := putI k x1[i] (by omega); have hG := b4len x1[i]
    refine ⟨by simp [s68_0, t68_0, optC_some, hi, hq.1, hq.2, wrap_nat (n := i) (by omega)], ?_⟩
    have := hG
    simp only [List.length_append, Nat.mul_add]
    omega) (fun k => by simp [s68_0, t68_0]) x1.length 0 pre (n68_0 (x0, x1, (x1.length : Int), 0, pre, ())) (by omega) (by simp only [n68_0]; omega) (by omega)
  rw [List.drop_zero, foldG] at h
  exact ⟨at_of h 0, val_of h⟩
noncomputable def LB (l : List Int) : List Int := IntKind.wrap .u8 (l.length : Int) :: l.flatMap B4
noncomputable def PL (b l : List Int) : List Int := cond (decide ((l.length : Int) > 255)) b (b ++ LB l)
theorem lbLen (l : List Int) : (LB l).length = 1 + 4 * l.length := by
  simp only [LB, List.length_cons]
  have : (l.flatMap B4).length = 4 * l.length := by
    induction l with
    | nil => simp
    | cons x l ih => simp only [List.flatMap_cons, List.length_append, List.length_cons, ih, b4len]; omega
  omega
theorem putListS (b l : List Int) (hb : b.length <= 274877906944) (hl : l.length <= 1048576) : d56 b l = true /\ v56 b l = PL b l := by
  have h := fun x1 => putLS l x1 (([] ++ b) ++ [IntKind.wrap .u8 (l.length : Int)]) hl (by simp; omega)
  have h1 : ([] ++ b : List Int).length * 1 <= 140737488351232 := by simp; omega
  have h2 : (([] ++ b) ++ [IntKind.wrap .u8 (l.length : Int)] : List Int).length * 1 <= 140737488351232 := by simp; omega
  unfold d56 v56 PL LB
  rw [(h []).1, (h []).2, decide_eq_true h1, decide_eq_true h2]
  cases decide ((l.length : Int) > (255 : Int)) <;> simp
theorem putListI (b l : List Int) (hb : b.length <= 274877906944) (hl : l.length <= 1048576) : d68 b l = true /\ v68 b l = PL b l := by
  have h := fun x0 => putLI x0 l (v144 b ++ [IntKind.wrap .u8 (l.length : Int)]) hl (by simp [v144]; omega)
  have h1 : d144 b = true := decide_eq_true (by omega)
  have h2 : (v144 b ++ [IntKind.wrap .u8 (l.length : Int)] : List Int).length * 1 <= 140737488351232 := by simp [v144]; omega
  unfold d68 v68 PL LB
  rw [(h []).1, (h []).2, h1, decide_eq_true h2]
  cases decide ((l.length : Int) > (255 : Int)) <;> simp [v144]
theorem plLen (b l : List Int) (h : l.length <= 1048576) : (PL b l).length <= b.length + 1 + 4 * l.length := by
  simp only [PL]
  cases decide ((l.length : Int) > (255 : Int)) <;> simp only [cond_true, cond_false, List.length_append, lbLen] <;> omega
theorem pieceLS (x0 : List (Ty.T (.int .u8))) (x3 : List (Ty.T (.int .i64))) (pre : List Int) (hb : x3.length <= 1048576) (hp : pre.length <= 549755813888) : k126_0 x0 0 pre x3 0 = true /\ w126_0 x0 0 pre x3 = (x0, (x3.length : Int), (pre ++ x3.flatMap B4), x3, ()) := by
  have h := fold_iter (s := s126_0) (mk := fun (k : List Int) i => (x0, i, k, x3, ())) (xs := x3) (f := fun k x => k ++ B4 x) (Inv := fun i k => k.length <= 549755813888 + 4 * i) (fun i x k hx hI => by
    obtain ⟨hi, rfl⟩ := List.getElem?_eq_some_iff.1 hx
    have hl : k.length <= 824633720832 := by omega
    have hq := putS k x3[i] (by omega); have hG := b4len x3[i]
    refine ⟨by simp [s126_0, t126_0, optC_some, hi, hq.1, hq.2, wrap_nat (n := i) (by omega)], ?_⟩
    have := hG
    simp only [List.length_append, Nat.mul_add]
    omega) (fun k => by simp [s126_0, t126_0]) x3.length 0 pre (n126_0 (x0, 0, pre, x3, ())) (by omega) (by simp only [n126_0]; omega) (by omega)
  rw [List.drop_zero, foldG] at h
  exact ⟨at_of h 0, val_of h⟩
theorem pieceLI (x0 : List (Ty.T (.int .u8))) (x3 : List (Ty.T (.int .i64))) (pre : List Int) (hb : x3.length <= 1048576) (hp : pre.length <= 549755813888) : k140_1 x0 (x3.length : Int) 0 x3 pre 0 = true /\ w140_1 x0 (x3.length : Int) 0 x3 pre = (x0, (x3.length : Int), (x3.length : Int), x3, (pre ++ x3.flatMap B4), ()) := by
  have h := fold_iter (s := s140_1) (mk := fun (k : List Int) i => (x0, (x3.length : Int), i, x3, k, ())) (xs := x3) (f := fun k x => k ++ B4 x) (Inv := fun i k => k.length <= 549755813888 + 4 * i) (fun i x k hx hI => by
    obtain ⟨hi, rfl⟩ := List.getElem?_eq_some_iff.1 hx
    have hl : k.length <= 824633720832 := by omega
    have hq := putI k x3[i] (by omega); have hG := b4len x3[i]
    refine ⟨by simp [s140_1, t140_1, optC_some, hi, hq.1, hq.2, wrap_nat (n := i) (by omega)], ?_⟩
    have := hG
    simp only [List.length_append, Nat.mul_add]
    omega) (fun k => by simp [s140_1, t140_1]) x3.length 0 pre (n140_1 (x0, (x3.length : Int), 0, x3, pre, ())) (by omega) (by simp only [n140_1]; omega) (by omega)
  rw [List.drop_zero, foldG] at h
  exact ⟨at_of h 0, val_of h⟩
noncomputable def PCL (p : Ty.T y179) : List Int := [p.1, p.2.1, p.2.2.1, p.2.2.2.1, p.2.2.2.2.1, p.2.2.2.2.2.1, p.2.2.2.2.2.2.1, p.2.2.2.2.2.2.2.1, p.2.2.2.2.2.2.2.2.1, p.2.2.2.2.2.2.2.2.2.1, p.2.2.2.2.2.2.2.2.2.2.1, v127 p.2.2.2.2.2.2.2.2.2.2.2.1, v127 p.2.2.2.2.2.2.2.2.2.2.2.2]
noncomputable def PC (p : Ty.T y179) : List Int := cond (v198 p) ((PCL p).flatMap B4) []
theorem pcLen (p : Ty.T y179) : (PC p).length <= 52 := by
  have h := flatLen B4 4 (PCL p) (fun x _ => by rw [b4len]; exact Nat.le_refl _)
  have h2 : (PCL p).length = 13 := rfl
  simp only [PC]
  cases v198 p
  · simp
  · simp only [cond_true]; omega
theorem pieceS (b : List Int) (p : Ty.T y179) (hb : b.length <= 274877906944) : d126 b p = true /\ v126 b p = b ++ PC p := by
  have h1 : ([] ++ b : List Int).length * 1 <= 140737488351232 := by simp; omega
  have h := pieceLS [] (PCL p) ([] ++ b) (by have : (PCL p).length = 13 := rfl; omega) (by simp; omega)
  simp only [PCL] at h
  unfold d126 v126 t126
  try simp only [nfs]
  simp only [if_pos h1]
  rw [h.1, h.2]
  simp only [PC, PCL]
  cases v198 p <;> simp <;> omega
theorem pieceI (b : List Int) (p : Ty.T y179) (hb : b.length <= 274877906944) : d140 b p = true /\ v140 b p = b ++ PC p := by
  have h1 : d144 b = true := decide_eq_true (by omega)
  have h := pieceLI [] (PCL p) (v144 b) (by have : (PCL p).length = 13 := rfl; omega) (by simp [v144]; omega)
  simp only [PCL] at h
  unfold d140 v140 t140
  try simp only [nfs]
  simp only [h1, cond_true, pieceOk]
  rw [show v141 = v127 from rfl, h.1, h.2]
  simp only [PC, PCL]
  cases v198 p <;> simp [v144]
noncomputable def SD (x : Ty.T y181) : List Int := (B4 x.1 ++ B4 x.2.1) ++ B4 (v127 x.2.2)
theorem sdLen (x : Ty.T y181) : (SD x).length = 12 := by simp [SD, b4len]
theorem sideS (b : List Int) (x : Ty.T y181) (hb : b.length <= 824633720832) : (let p := v55 b x.1; let q := v55 p x.2.1; d55 b x.1 = true /\ d55 p x.2.1 = true /\ d55 q (v127 x.2.2) = true /\ v55 q (v127 x.2.2) = b ++ SD x) := by
  have h1 := putS b x.1 (by omega)
  have h2 := putS (b ++ B4 x.1) x.2.1 (by simp [b4len]; omega)
  have h3 := putS ((b ++ B4 x.1) ++ B4 x.2.1) (v127 x.2.2) (by simp [b4len]; omega)
  simp only [h1.1, h1.2, h2.1, h2.2, h3.1, h3.2, SD]
  simp
theorem sideI (b : List Int) (x : Ty.T y181) (hb : b.length <= 824633720832) : (let p := v67 b x.1; let q := v67 p x.2.1; d67 b x.1 = true /\ d67 p x.2.1 = true /\ d67 q (v141 x.2.2) = true /\ v67 q (v141 x.2.2) = b ++ SD x) := by
  have h1 := putI b x.1 (by omega)
  have h2 := putI (b ++ B4 x.1) x.2.1 (by simp [b4len]; omega)
  have h3 := putI ((b ++ B4 x.1) ++ B4 x.2.1) (v141 x.2.2) (by simp [b4len]; omega)
  simp only [show v141 = v127 from rfl] at h3 ⊢
  simp only [h1.1, h1.2, h2.1, h2.2, h3.1, h3.2, SD]
  simp
theorem stPS (x0 : List (Ty.T (.int .u8))) (x2 : Ty.T y36) (pre : List Int) (hb : x2.1.length <= 1048576) (hp : pre.length <= 137438953472) : k52_0 x0 0 x2 pre 0 = true /\ w52_0 x0 0 x2 pre = (x0, (x2.1.length : Int), x2, (pre ++ x2.1.flatMap PC), ()) := by
  have h := fold_iter (s := s52_0) (mk := fun (k : List Int) i => (x0, i, x2, k, ())) (xs := x2.1) (f := fun k x => k ++ PC x) (Inv := fun i k => k.length <= 137438953472 + 52 * i) (fun i x k hx hI => by
    obtain ⟨hi, rfl⟩ := List.getElem?_eq_some_iff.1 hx
    have hl : k.length <= 824633720832 := by omega
    have hq := pieceS k x2.1[i] (by omega); have hG := pcLen x2.1[i]
    refine ⟨by simp [s52_0, t52_0, optC_some, hi, hq.1, hq.2, wrap_nat (n := i) (by omega)], ?_⟩
    have := hG
    simp only [List.length_append, Nat.mul_add]
    omega) (fun k => by simp [s52_0, t52_0]) x2.1.length 0 pre (n52_0 (x0, 0, x2, pre, ())) (by omega) (by simp only [n52_0]; omega) (by omega)
  rw [List.drop_zero, foldG] at h
  exact ⟨at_of h 0, val_of h⟩
theorem stDS (x0 : List (Ty.T (.int .u8))) (x2 : Ty.T y36) (pre : List Int) (hb : x2.2.1.length <= 1048576) (hp : pre.length <= 274877906944) : k52_1 x0 0 x2 pre 0 = true /\ w52_1 x0 0 x2 pre = (x0, (x2.2.1.length : Int), x2, (pre ++ x2.2.1.flatMap SD), ()) := by
  have h := fold_iter (s := s52_1) (mk := fun (k : List Int) i => (x0, i, x2, k, ())) (xs := x2.2.1) (f := fun k x => k ++ SD x) (Inv := fun i k => k.length <= 274877906944 + 12 * i) (fun i x k hx hI => by
    obtain ⟨hi, rfl⟩ := List.getElem?_eq_some_iff.1 hx
    have hl : k.length <= 824633720832 := by omega
    have hq := sideS k x2.2.1[i] (by omega); have hG := sdLen x2.2.1[i]
    refine ⟨by simp [s52_1, t52_1, optC_some, hi, hq.1, hq.2.1, hq.2.2.1, hq.2.2.2, wrap_nat (n := i) (by omega)], ?_⟩
    have := hG
    simp only [List.length_append, Nat.mul_add]
    omega) (fun k => by simp [s52_1, t52_1]) x2.2.1.length 0 pre (n52_1 (x0, 0, x2, pre, ())) (by omega) (by simp only [n52_1]; omega) (by omega)
  rw [List.drop_zero, foldG] at h
  exact ⟨at_of h 0, val_of h⟩
theorem stPI (x0 : List (Ty.T (.int .u8))) (x1 : List (Ty.T y179)) (x4 : Ty.T y36) (pre : List Int) (hb : x1.length <= 1048576) (hp : pre.length <= 137438953472) : k62_0 x0 x1 (x1.length : Int) 0 x4 pre 0 = true /\ w62_0 x0 x1 (x1.length : Int) 0 x4 pre = (x0, x1, (x1.length : Int), (x1.length : Int), x4, (pre ++ x1.flatMap PC), ()) := by
  have h := fold_iter (s := s62_0) (mk := fun (k : List Int) i => (x0, x1, (x1.length : Int), i, x4, k, ())) (xs := x1) (f := fun k x => k ++ PC x) (Inv := fun i k => k.length <= 137438953472 + 52 * i) (fun i x k hx hI => by
    obtain ⟨hi, rfl⟩ := List.getElem?_eq_some_iff.1 hx
    have hl : k.length <= 824633720832 := by omega
    have hq := pieceI k x1[i] (by omega); have hG := pcLen x1[i]
    refine ⟨by simp [s62_0, t62_0, optC_some, hi, hq.1, hq.2, wrap_nat (n := i) (by omega)], ?_⟩
    have := hG
    simp only [List.length_append, Nat.mul_add]
    omega) (fun k => by simp [s62_0, t62_0]) x1.length 0 pre (n62_0 (x0, x1, (x1.length : Int), 0, x4, pre, ())) (by omega) (by simp only [n62_0]; omega) (by omega)
  rw [List.drop_zero, foldG] at h
  exact ⟨at_of h 0, val_of h⟩
theorem stDI (x0 : List (Ty.T (.int .u8))) (x1 : List (Ty.T y181)) (x4 : Ty.T y36) (pre : List Int) (hb : x1.length <= 1048576) (hp : pre.length <= 274877906944) : k62_1 x0 x1 (x1.length : Int) 0 x4 pre 0 = true /\ w62_1 x0 x1 (x1.length : Int) 0 x4 pre = (x0, x1, (x1.length : Int), (x1.length : Int), x4, (pre ++ x1.flatMap SD), ()) := by
  have h := fold_iter (s := s62_1) (mk := fun (k : List Int) i => (x0, x1, (x1.length : Int), i, x4, k, ())) (xs := x1) (f := fun k x => k ++ SD x) (Inv := fun i k => k.length <= 274877906944 + 12 * i) (fun i x k hx hI => by
    obtain ⟨hi, rfl⟩ := List.getElem?_eq_some_iff.1 hx
    have hl : k.length <= 824633720832 := by omega
    have hq := sideI k x1[i] (by omega); have hG := sdLen x1[i]
    refine ⟨by simp [s62_1, t62_1, optC_some, hi, hq.1, hq.2.1, hq.2.2.1, hq.2.2.2, wrap_nat (n := i) (by omega)], ?_⟩
    have := hG
    simp only [List.length_append, Nat.mul_add]
    omega) (fun k => by simp [s62_1, t62_1]) x1.length 0 pre (n62_1 (x0, x1, (x1.length : Int), 0, x4, pre, ())) (by omega) (by simp only [n62_1]; omega) (by omega)
  rw [List.drop_zero, foldG] at h
  exact ⟨at_of h 0, val_of h⟩
noncomputable def STB (a : Ty.T y36) : List Int := cond (v125 a) (((((B4 (a.1.length : Int) ++ a.1.flatMap PC) ++ B4 (a.2.1.length : Int)) ++ a.2.1.flatMap SD) ++ B4 a.2.2.1) ++ B4 a.2.2.2) []
theorem stbLen (a : Ty.T y36) (h1 : a.1.length <= 1048576) (h2 : a.2.1.length <= 1048576) : (STB a).length <= 68719476736 := by
  have e1 := flatLen PC 52 a.1 (fun x _ => pcLen x)
  have e2 := flatLen SD 12 a.2.1 (fun x _ => by rw [sdLen]; exact Nat.le_refl _)
  simp only [STB]
  cases v125 a
  · simp
  · simp only [cond_true, List.length_append, b4len]; omega
theorem putStateS (a : Ty.T y36) (h1 : a.1.length <= 1048576) (h2 : a.2.1.length <= 1048576) : d52 a = true /\ v52 a = STB a := by
  have s := stateOk a h1 h2
  have e1 := flatLen PC 52 a.1 (fun x _ => pcLen x)
  have e2 := flatLen SD 12 a.2.1 (fun x _ => by rw [sdLen]; exact Nat.le_refl _)
  have q1 := putS [] (a.1.length : Int) (by simp)
  have q2 := stPS [] a ([] ++ B4 (a.1.length : Int)) h1 (by simp [b4len])
  have q3 := putS (([] ++ B4 (a.1.length : Int)) ++ a.1.flatMap PC) (a.2.1.length : Int) (by simp only [List.length_append, b4len, List.length_nil]; omega)
  have q4 := stDS [] a ((([] ++ B4 (a.1.length : Int)) ++ a.1.flatMap PC) ++ B4 (a.2.1.length : Int)) h2 (by simp only [List.length_append, b4len, List.length_nil]; omega)
  have q5 := putS (((([] ++ B4 (a.1.length : Int)) ++ a.1.flatMap PC) ++ B4 (a.2.1.length : Int)) ++ a.2.1.flatMap SD) a.2.2.1 (by simp only [List.length_append, b4len, List.length_nil]; omega)
  have q6 := putS ((((([] ++ B4 (a.1.length : Int)) ++ a.1.flatMap PC) ++ B4 (a.2.1.length : Int)) ++ a.2.1.flatMap SD) ++ B4 a.2.2.1) a.2.2.2 (by simp only [List.length_append, b4len, List.length_nil]; omega)
  unfold d52 v52 t52
  try simp only [nfs]
  simp only [e52_0, e52_1, s.1, q1.1, q1.2, q2.1, q2.2, q3.1, q3.2, q4.1, q4.2, q5.1, q5.2, q6.1, q6.2, STB]
  cases v125 a <;> simp
theorem putStateI (a : Ty.T y36) (h1 : a.1.length <= 1048576) (h2 : a.2.1.length <= 1048576) : d62 a = true /\ v62 a = STB a := by
  have s := stateOk a h1 h2
  have e1 := flatLen PC 52 a.1 (fun x _ => pcLen x)
  have e2 := flatLen SD 12 a.2.1 (fun x _ => by rw [sdLen]; exact Nat.le_refl _)
  have q1 := putI [] (a.1.length : Int) (by simp)
  have q2 := stPI [] a.1 a ([] ++ B4 (a.1.length : Int)) h1 (by simp [b4len])
  have q3 := putI (([] ++ B4 (a.1.length : Int)) ++ a.1.flatMap PC) (a.2.1.length : Int) (by simp only [List.length_append, b4len, List.length_nil]; omega)
  have q4 := stDI [] a.2.1 a ((([] ++ B4 (a.1.length : Int)) ++ a.1.flatMap PC) ++ B4 (a.2.1.length : Int)) h2 (by simp only [List.length_append, b4len, List.length_nil]; omega)
  have q5 := putI (((([] ++ B4 (a.1.length : Int)) ++ a.1.flatMap PC) ++ B4 (a.2.1.length : Int)) ++ a.2.1.flatMap SD) a.2.2.1 (by simp only [List.length_append, b4len, List.length_nil]; omega)
  have q6 := putI ((((([] ++ B4 (a.1.length : Int)) ++ a.1.flatMap PC) ++ B4 (a.2.1.length : Int)) ++ a.2.1.flatMap SD) ++ B4 a.2.2.1) a.2.2.2 (by simp only [List.length_append, b4len, List.length_nil]; omega)
  unfold d62 v62 t62
  try simp only [nfs]
  simp only [e62_0, e62_1, e62_2, s.2.1, s.2.2, q1.1, q1.2, q2.1, q2.2, q3.1, q3.2, q4.1, q4.2, q5.1, q5.2, q6.1, q6.2, STB]
  cases v125 a <;> simp
noncomputable def evF (l : List Int) (x : Ty.T y48) : List Int := l ++ v132 x
theorem evs (x : Ty.T y48) : v142 x = v132 x := rfl
theorem evl (x : Ty.T y48) : List.length (α := Int) (v132 x) = 7 := rfl
theorem loopS (a : Ty.T y102) (hb : a.2.2.2.2.2.2.1.2.2.2.2.2.2.length <= 1048576) (pre : List Int) (hp : pre.length <= 100) : iter s57_0 (n57_0 ([], 0, a, a.2.2.2.2.2.2.1, pre, ())) ([], 0, a, a.2.2.2.2.2.2.1, pre, ()) = some (0, ([], (a.2.2.2.2.2.2.1.2.2.2.2.2.2.length : Int), a, a.2.2.2.2.2.2.1, (a.2.2.2.2.2.2.1.2.2.2.2.2.2.foldl evF pre), ())) /\ (a.2.2.2.2.2.2.1.2.2.2.2.2.2.foldl evF pre).length <= 7340132 := by
  have hlen : ∀ (l : List (Ty.T y48)) (k : List Int), (l.foldl evF k).length = k.length + 7 * l.length := by
    intro l
    induction l with
    | nil => intro k; simp
    | cons x l ih =>
      intro k
      rw [List.foldl_cons, ih]
      simp only [evF, List.length_append, evl, List.length_cons]
      omega
  refine ⟨fold_iter (s := s57_0) (mk := fun (k : List Int) i => ([], i, a, a.2.2.2.2.2.2.1, k, ())) (xs := a.2.2.2.2.2.2.1.2.2.2.2.2.2) (f := evF) (Inv := fun i k => k.length <= 100 + 7 * i) (fun i x k hx hI => by
    obtain ⟨hi, rfl⟩ := List.getElem?_eq_some_iff.1 hx
    have hc : (k.length + 7) * 8 <= 140737488351232 := by omega
    refine ⟨by simp [s57_0, t57_0, optC_some, hi, evF, evs, evl, hc, wrap_nat (n := i) (by omega)], by simp only [evF, List.length_append, evl]; omega⟩) (fun k => by simp [s57_0, t57_0]) a.2.2.2.2.2.2.1.2.2.2.2.2.2.length 0 pre (n57_0 ([], 0, a, a.2.2.2.2.2.2.1, pre, ())) (by omega) (by simp only [n57_0]; omega) (by omega), by rw [hlen]; omega⟩
theorem loopI (a : Ty.T y102) (hb : a.2.2.2.2.2.2.1.2.2.2.2.2.2.length <= 1048576) (pre : List Int) (hp : pre.length <= 100) : iter s63_0 (n63_0 ([], a.2.2.2.2.2.2.1.2.2.2.2.2.2, ((a.2.2.2.2.2.2.1.2.2.2.2.2.2).length : Int), 0, a, pre, ())) ([], a.2.2.2.2.2.2.1.2.2.2.2.2.2, ((a.2.2.2.2.2.2.1.2.2.2.2.2.2).length : Int), 0, a, pre, ()) = some (0, ([], a.2.2.2.2.2.2.1.2.2.2.2.2.2, ((a.2.2.2.2.2.2.1.2.2.2.2.2.2).length : Int), (a.2.2.2.2.2.2.1.2.2.2.2.2.2.length : Int), a, (a.2.2.2.2.2.2.1.2.2.2.2.2.2.foldl evF pre), ())) /\ (a.2.2.2.2.2.2.1.2.2.2.2.2.2.foldl evF pre).length <= 7340132 := by
  have hlen : ∀ (l : List (Ty.T y48)) (k : List Int), (l.foldl evF k).length = k.length + 7 * l.length := by
    intro l
    induction l with
    | nil => intro k; simp
    | cons x l ih =>
      intro k
      rw [List.foldl_cons, ih]
      simp only [evF, List.length_append, evl, List.length_cons]
      omega
  refine ⟨fold_iter (s := s63_0) (mk := fun (k : List Int) i => ([], a.2.2.2.2.2.2.1.2.2.2.2.2.2, ((a.2.2.2.2.2.2.1.2.2.2.2.2.2).length : Int), i, a, k, ())) (xs := a.2.2.2.2.2.2.1.2.2.2.2.2.2) (f := evF) (Inv := fun i k => k.length <= 100 + 7 * i) (fun i x k hx hI => by
    obtain ⟨hi, rfl⟩ := List.getElem?_eq_some_iff.1 hx
    have hc : (k.length + 7) * 8 <= 140737488351232 := by omega
    refine ⟨by simp [s63_0, t63_0, optC_some, hi, evF, evs, evl, hc, wrap_nat (n := i) (by omega)], by simp only [evF, List.length_append, evl]; omega⟩) (fun k => by simp [s63_0, t63_0]) a.2.2.2.2.2.2.1.2.2.2.2.2.2.length 0 pre (n63_0 ([], a.2.2.2.2.2.2.1.2.2.2.2.2.2, ((a.2.2.2.2.2.2.1.2.2.2.2.2.2).length : Int), 0, a, pre, ())) (by omega) (by simp only [n63_0]; omega) (by omega), by rw [hlen]; omega⟩
theorem nums (a : Ty.T y102) (hb : a.2.2.2.2.2.2.1.2.2.2.2.2.2.length <= 1048576) : d57 a = true /\ d63 a = true /\ v63 a = v57 a /\ (v57 a).length <= 7340134 := by
  have k1 : ∀ pre : List Int, pre.length <= 100 -> k57_0 [] 0 a a.2.2.2.2.2.2.1 pre 0 = true := fun pre hp => at_of (loopS a hb pre hp).1 0
  have w1 : ∀ pre : List Int, pre.length <= 100 -> w57_0 [] 0 a a.2.2.2.2.2.2.1 pre = ([], (a.2.2.2.2.2.2.1.2.2.2.2.2.2.length : Int), a, a.2.2.2.2.2.2.1, (a.2.2.2.2.2.2.1.2.2.2.2.2.2.foldl evF pre), ()) := fun pre hp => val_of (loopS a hb pre hp).1
  have k2 : ∀ pre : List Int, pre.length <= 100 -> k63_0 [] a.2.2.2.2.2.2.1.2.2.2.2.2.2 ((a.2.2.2.2.2.2.1.2.2.2.2.2.2).length : Int) 0 a pre 0 = true := fun pre hp => at_of (loopI a hb pre hp).1 0
  have w2 : ∀ pre : List Int, pre.length <= 100 -> w63_0 [] a.2.2.2.2.2.2.1.2.2.2.2.2.2 ((a.2.2.2.2.2.2.1.2.2.2.2.2.2).length : Int) 0 a pre = ([], a.2.2.2.2.2.2.1.2.2.2.2.2.2, ((a.2.2.2.2.2.2.1.2.2.2.2.2.2).length : Int), (a.2.2.2.2.2.2.1.2.2.2.2.2.2.length : Int), a, (a.2.2.2.2.2.2.1.2.2.2.2.2.2.foldl evF pre), ()) := fun pre hp => val_of (loopI a hb pre hp).1
  have len : ∀ pre : List Int, pre.length <= 100 -> ((a.2.2.2.2.2.2.1.2.2.2.2.2.2.foldl evF pre).length) <= 7340132 := fun pre hp => (loopS a hb pre hp).2
  unfold d57 d63 v57 v63 t57 t63
  try simp only [nfs]
  unfold e57_0 e63_0
  rw [k1, w1, k2, w2]
  · simp only [cond_true, Bool.and_true, List.length_append, List.length_cons, List.length_nil]
    have key : ∀ (pre : List Int) (c : Nat), pre.length <= 100 -> c <= 2 -> ((a.2.2.2.2.2.2.1.2.2.2.2.2.2.foldl evF pre).length + c) * 8 <= 140737488351232 := fun pre c hp hc => by have := len pre hp; omega
    have key2 : ∀ (pre : List Int) (c : Nat), pre.length <= 100 -> c <= 2 -> (a.2.2.2.2.2.2.1.2.2.2.2.2.2.foldl evF pre).length + c <= 7340134 := fun pre c hp hc => by have := len pre hp; omega
    have kk := key [a.1, a.2.1, a.2.2.1, a.2.2.2.1, a.2.2.2.2.1.1, a.2.2.2.2.1.2.1, a.2.2.2.2.1.2.2.1, a.2.2.2.2.1.2.2.2.1, a.2.2.2.2.1.2.2.2.2.1, a.2.2.2.2.1.2.2.2.2.2.1, a.2.2.2.2.1.2.2.2.2.2.2, a.2.2.2.2.2.1.1, a.2.2.2.2.2.1.2, a.2.2.2.2.2.2.1.1, a.2.2.2.2.2.2.1.2.1, a.2.2.2.2.2.2.1.2.2.1, a.2.2.2.2.2.2.1.2.2.2.1, a.2.2.2.2.2.2.1.2.2.2.2.1, (v127 a.2.2.2.2.2.2.1.2.2.2.2.2.1), ((a.2.2.2.2.2.2.1.2.2.2.2.2.2).length : Int)] 2 (by simp) (by omega)
    have k3 := key2 [a.1, a.2.1, a.2.2.1, a.2.2.2.1, a.2.2.2.2.1.1, a.2.2.2.2.1.2.1, a.2.2.2.2.1.2.2.1, a.2.2.2.2.1.2.2.2.1, a.2.2.2.2.1.2.2.2.2.1, a.2.2.2.2.1.2.2.2.2.2.1, a.2.2.2.2.1.2.2.2.2.2.2, a.2.2.2.2.2.1.1, a.2.2.2.2.2.1.2, a.2.2.2.2.2.2.1.1, a.2.2.2.2.2.2.1.2.1, a.2.2.2.2.2.2.1.2.2.1, a.2.2.2.2.2.2.1.2.2.2.1, a.2.2.2.2.2.2.1.2.2.2.2.1, (v127 a.2.2.2.2.2.2.1.2.2.2.2.2.1), ((a.2.2.2.2.2.2.1.2.2.2.2.2.2).length : Int)] 2 (by simp) (by omega)
    refine ⟨?_, ?_, ?_, ?_⟩ <;> first | exact decide_eq_true kk | rfl | exact k3 | (split <;> first | rfl | (rename_i hn; exact absurd kk hn) | (simp only [Option.getD_some, List.length_append, List.length_cons, List.length_nil]; exact k3)) | (rw [if_pos kk, if_pos kk])
  all_goals simp
theorem evF_len (l : List (Ty.T y48)) : ∀ k : List Int, (l.foldl evF k).length = k.length + 7 * l.length := by
  induction l with
  | nil => intro k; simp
  | cons x l ih =>
    intro k
    rw [List.foldl_cons, ih]
    simp only [evF, List.length_append, evl, List.length_cons]
    omega
theorem numsLen (a : Ty.T y102) (hb : a.2.2.2.2.2.2.1.2.2.2.2.2.2.length <= 1048576) : (v57 a).length <= 134 + 7 * a.2.2.2.2.2.2.1.2.2.2.2.2.2.length := by
  have k1 : ∀ pre : List Int, pre.length <= 100 -> k57_0 [] 0 a a.2.2.2.2.2.2.1 pre 0 = true := fun pre hp => at_of (loopS a hb pre hp).1 0
  have w1 : ∀ pre : List Int, pre.length <= 100 -> w57_0 [] 0 a a.2.2.2.2.2.2.1 pre = ([], (a.2.2.2.2.2.2.1.2.2.2.2.2.2.length : Int), a, a.2.2.2.2.2.2.1, (a.2.2.2.2.2.2.1.2.2.2.2.2.2.foldl evF pre), ()) := fun pre hp => val_of (loopS a hb pre hp).1
  have key : ∀ (pre : List Int) (c : Nat), pre.length <= 100 -> c <= 2 -> (a.2.2.2.2.2.2.1.2.2.2.2.2.2.foldl evF pre).length + c <= 134 + 7 * a.2.2.2.2.2.2.1.2.2.2.2.2.2.length := fun pre c hp hc => by rw [evF_len]; omega
  unfold v57 t57
  try simp only [nfs]
  unfold e57_0
  rw [k1, w1]
  · simp only [cond_true, List.length_append, List.length_cons, List.length_nil]
    have k3 := key [a.1, a.2.1, a.2.2.1, a.2.2.2.1, a.2.2.2.2.1.1, a.2.2.2.2.1.2.1, a.2.2.2.2.1.2.2.1, a.2.2.2.2.1.2.2.2.1, a.2.2.2.2.1.2.2.2.2.1, a.2.2.2.2.1.2.2.2.2.2.1, a.2.2.2.2.1.2.2.2.2.2.2, a.2.2.2.2.2.1.1, a.2.2.2.2.2.1.2, a.2.2.2.2.2.2.1.1, a.2.2.2.2.2.2.1.2.1, a.2.2.2.2.2.2.1.2.2.1, a.2.2.2.2.2.2.1.2.2.2.1, a.2.2.2.2.2.2.1.2.2.2.2.1, (v127 a.2.2.2.2.2.2.1.2.2.2.2.2.1), ((a.2.2.2.2.2.2.1.2.2.2.2.2.2).length : Int)] 2 (by simp) (by omega)
    first | exact k3 | (split <;> first | (simp only [Option.getD_some, List.length_append, List.length_cons, List.length_nil]; exact k3) | (simp only [Option.getD_none, List.length_nil]; omega))
  all_goals simp
theorem loopOS (a : Ty.T y105) (hb : a.2.2.2.length <= 1048576) (pre : List Int) (hp : pre.length <= 100) : iter s58_0 (n58_0 ([], 0, a, pre, ())) ([], 0, a, pre, ()) = some (0, ([], (a.2.2.2.length : Int), a, (a.2.2.2.foldl evF pre), ())) /\ (a.2.2.2.foldl evF pre).length <= 7340132 := by
  have hlen : ∀ (l : List (Ty.T y48)) (k : List Int), (l.foldl evF k).length = k.length + 7 * l.length := by
    intro l
    induction l with
    | nil => intro k; simp
    | cons x l ih =>
      intro k
      rw [List.foldl_cons, ih]
      simp only [evF, List.length_append, evl, List.length_cons]
      omega
  refine ⟨fold_iter (s := s58_0) (mk := fun (k : List Int) i => ([], i, a, k, ())) (xs := a.2.2.2) (f := evF) (Inv := fun i k => k.length <= 100 + 7 * i) (fun i x k hx hI => by
    obtain ⟨hi, rfl⟩ := List.getElem?_eq_some_iff.1 hx
    have hc : (k.length + 7) * 8 <= 140737488351232 := by omega
    refine ⟨by simp [s58_0, t58_0, optC_some, hi, evF, evs, evl, hc, wrap_nat (n := i) (by omega)], by simp only [evF, List.length_append, evl]; omega⟩) (fun k => by simp [s58_0, t58_0]) a.2.2.2.length 0 pre (n58_0 ([], 0, a, pre, ())) (by omega) (by simp only [n58_0]; omega) (by omega), by rw [hlen]; omega⟩
theorem loopOI (a : Ty.T y105) (hb : a.2.2.2.length <= 1048576) (pre : List Int) (hp : pre.length <= 100) : iter s64_0 (n64_0 ([], a.2.2.2, ((a.2.2.2).length : Int), 0, pre, ())) ([], a.2.2.2, ((a.2.2.2).length : Int), 0, pre, ()) = some (0, ([], a.2.2.2, ((a.2.2.2).length : Int), (a.2.2.2.length : Int), (a.2.2.2.foldl evF pre), ())) /\ (a.2.2.2.foldl evF pre).length <= 7340132 := by
  have hlen : ∀ (l : List (Ty.T y48)) (k : List Int), (l.foldl evF k).length = k.length + 7 * l.length := by
    intro l
    induction l with
    | nil => intro k; simp
    | cons x l ih =>
      intro k
      rw [List.foldl_cons, ih]
      simp only [evF, List.length_append, evl, List.length_cons]
      omega
  refine ⟨fold_iter (s := s64_0) (mk := fun (k : List Int) i => ([], a.2.2.2, ((a.2.2.2).length : Int), i, k, ())) (xs := a.2.2.2) (f := evF) (Inv := fun i k => k.length <= 100 + 7 * i) (fun i x k hx hI => by
    obtain ⟨hi, rfl⟩ := List.getElem?_eq_some_iff.1 hx
    have hc : (k.length + 7) * 8 <= 140737488351232 := by omega
    refine ⟨by simp [s64_0, t64_0, optC_some, hi, evF, evs, evl, hc, wrap_nat (n := i) (by omega)], by simp only [evF, List.length_append, evl]; omega⟩) (fun k => by simp [s64_0, t64_0]) a.2.2.2.length 0 pre (n64_0 ([], a.2.2.2, ((a.2.2.2).length : Int), 0, pre, ())) (by omega) (by simp only [n64_0]; omega) (by omega), by rw [hlen]; omega⟩
theorem onums (a : Ty.T y105) (h1 : a.2.1.2.2.2.2.2.2.1.2.2.2.2.2.2.length <= 1048576) (hb : a.2.2.2.length <= 1048576) : d58 a = true /\ d64 a = true /\ v64 a = v58 a /\ (v58 a).length <= 7340200 := by
  have m := nums a.2.1 h1
  have hp : (([a.1] ++ [((a.2.2.2).length : Int)]) : List Int).length <= 100 := by simp
  have l1 := loopOS a hb ([a.1] ++ [((a.2.2.2).length : Int)]) hp
  have l2 := loopOI a hb ([a.1] ++ [((a.2.2.2).length : Int)]) hp
  have k1 : k58_0 [] 0 a ([a.1] ++ [((a.2.2.2).length : Int)]) 0 = true := at_of l1.1 0
  have w1 : w58_0 [] 0 a ([a.1] ++ [((a.2.2.2).length : Int)]) = ([], (a.2.2.2.length : Int), a, (a.2.2.2.foldl evF ([a.1] ++ [((a.2.2.2).length : Int)])), ()) := val_of l1.1
  have k2 : k64_0 [] a.2.2.2 ((a.2.2.2).length : Int) 0 ([a.1] ++ [((a.2.2.2).length : Int)]) 0 = true := at_of l2.1 0
  have w2 : w64_0 [] a.2.2.2 ((a.2.2.2).length : Int) 0 ([a.1] ++ [((a.2.2.2).length : Int)]) = ([], a.2.2.2, ((a.2.2.2).length : Int), (a.2.2.2.length : Int), (a.2.2.2.foldl evF ([a.1] ++ [((a.2.2.2).length : Int)])), ()) := val_of l2.1
  have hl := l1.2
  unfold d58 d64 v58 v64 t58 t64
  try simp only [nfs]
  rw [k1, w1, k2, w2, m.1, m.2.1, m.2.2.1]
  have hm := m.2.2.2
  revert hl hm
  generalize a.2.2.2.foldl evF ([a.1] ++ [((a.2.2.2).length : Int)]) = z
  generalize v57 a.2.1 = y
  intro hl hm
  have hl : (List.length (α := Int) z) <= 7340132 := hl
  have hm : (List.length (α := Int) y) <= 7340134 := hm
  cases (a.1 == (1 : Int)) <;> cases (a.1 == (2 : Int)) <;> cases (a.1 == (3 : Int)) <;> simp only [cond_true, cond_false, Bool.and_true, Bool.true_and, List.length_append, List.length_cons, List.length_nil, decide_eq_true_eq] <;> refine ⟨?_, ?_, ?_, ?_⟩ <;> first | rfl | trivial | omega | (simp <;> omega) | (rw [if_pos (by first | omega | (simp; omega))]; simp <;> omega)
theorem onumsLen (a : Ty.T y105) (h1 : a.2.1.2.2.2.2.2.2.1.2.2.2.2.2.2.length <= 1048576) (hb : a.2.2.2.length <= 1048576) : (v58 a).length <= cond (a.1 == 1) (135 + 7 * a.2.1.2.2.2.2.2.2.1.2.2.2.2.2.2.length) (cond (a.1 == 3) (2 + 7 * a.2.2.2.length) 2) := by
  have m := nums a.2.1 h1
  have ml := numsLen a.2.1 h1
  have hp : (([a.1] ++ [((a.2.2.2).length : Int)]) : List Int).length <= 100 := by simp
  have l1 := loopOS a hb ([a.1] ++ [((a.2.2.2).length : Int)]) hp
  have k1 : k58_0 [] 0 a ([a.1] ++ [((a.2.2.2).length : Int)]) 0 = true := at_of l1.1 0
  have w1 : w58_0 [] 0 a ([a.1] ++ [((a.2.2.2).length : Int)]) = ([], (a.2.2.2.length : Int), a, (a.2.2.2.foldl evF ([a.1] ++ [((a.2.2.2).length : Int)])), ()) := val_of l1.1
  have hl := l1.2
  have hl2 := evF_len a.2.2.2 ([a.1] ++ [((a.2.2.2).length : Int)])
  have hm := m.2.2.2
  unfold v58 t58
  try simp only [nfs]
  rw [k1, w1, m.1]
  revert hl hl2 hm ml
  generalize a.2.2.2.foldl evF ([a.1] ++ [((a.2.2.2).length : Int)]) = z
  generalize v57 a.2.1 = y
  intro ml hl hl2 hm
  have hl : (List.length (α := Int) z) <= 7340132 := hl
  have hl2 : (List.length (α := Int) z) = 2 + 7 * a.2.2.2.length := by simpa using hl2
  have hm : (List.length (α := Int) y) <= 7340134 := hm
  have ml : (List.length (α := Int) y) <= 134 + 7 * a.2.1.2.2.2.2.2.2.1.2.2.2.2.2.2.length := ml
  cases (a.1 == (1 : Int)) <;> cases (a.1 == (2 : Int)) <;> cases (a.1 == (3 : Int)) <;> simp <;> first | omega | (rw [if_pos (by omega)]; simp <;> omega)
theorem actLow (a : Ty.T y100) (hb : a.2.2.2.2.2.2.length <= 1048576) (h : v243 a = true) : a.2.2.2.2.2.2.length <= 3 := by
  rcases Nat.lt_or_ge 3 a.2.2.2.2.2.2.length with hl | hl
  · exfalso
    have hf : v129 (a.2.2.2.2.2.2.length : Int) 1 3 = false := by
      simp only [v129]
      have cc : ∀ (p q r : Bool), cond p q r = true ↔ (p = true /\ q = true) ∨ (p = false /\ r = true) := by decide
      have cf : ∀ (p q r : Bool), cond p q r = false ↔ (p = true /\ q = false) ∨ (p = false /\ r = false) := by decide
      simp [cc, cf]
      try omega
    have hz : ((a.2.2.2.2.2.2.length : Int) == 0) = false := by simp; intro h; simp [h] at hl
    have hp : v277 a = false := by simp [v277, hz]
    rcases specAct a hb with ⟨_, e0, j, hw⟩ | ⟨_, e0, e1, hw⟩
    · simp [v243, t243, c243_0, t243_0, c243_1, t243_1, c243_2, t243_2, c243_3, t243_3, c243_4, t243_4, c243_5, t243_5, c243_7, t243_7, hf, hz, hp, e0, hw, nfs] at h
    · simp [v243, t243, c243_0, t243_0, c243_1, t243_1, c243_2, t243_2, c243_3, t243_3, c243_4, t243_4, c243_5, t243_5, c243_7, t243_7, hf, hz, hp, e0, e1, hw, nfs] at h
  · exact hl
theorem effLow (e : Ty.T y102) (hb : e.2.2.2.2.2.2.1.2.2.2.2.2.2.length <= 1048576) (h : v200 e = true) : e.2.2.2.2.2.2.1.2.2.2.2.2.2.length <= 3 := by
  cases hc : v243 e.2.2.2.2.2.2.1 with
  | true => exact actLow _ hb hc
  | false =>
    exfalso
    have hd := (actOk e.2.2.2.2.2.2.1 hb).1
    simp [v200, t200, hc, hd, nfs] at h
theorem orderLow (o : Ty.T y105) (h1 : o.2.1.2.2.2.2.2.2.1.2.2.2.2.2.2.length <= 1048576) (h2 : o.2.2.2.length <= 1048576) (h : v128 o = true) : (v58 o).length <= 255 := by
  refine Nat.le_trans (onumsLen o h1 h2) ?_
  cases hk : (o.1 == (1 : Int)) with
  | true =>
    have hq : o.2.1.2.2.2.2.2.2.1.2.2.2.2.2.2.length <= 3 := by
      refine effLow o.2.1 h1 ?_
      cases hc : v200 o.2.1 with
      | true => rfl
      | false =>
        have hd := (effectOk o.2.1 h1).1
        simp [v128, t128, hk, hc, hd, nfs] at h
    simp only [cond_true]
    omega
  | false =>
    cases hk3 : (o.1 == (3 : Int)) with
    | true =>
      have hk2 : (o.1 == (2 : Int)) = false := by
        have : o.1 = 3 := by simpa using hk3
        rw [this]
        rfl
      have hq : o.2.2.2.length <= 4 := by
        have hd := (batchOk o.2.2.2 h2).1
        have hv : v202 o.2.2.2 = true := by
          cases hc : v202 o.2.2.2 with
          | true => rfl
          | false => simp [v128, t128, hk, hk2, hk3, hc, hd, nfs] at h
        rcases specBatch o.2.2.2 h2 with ⟨_, e0, j, hw⟩ | ⟨_, e0, e1, hw⟩
        · simp [v202, e0, hw] at hv
        · simp [v202, e0, e1, hw] at hv
          omega
      simp only [cond_true, cond_false]
      omega
    | false => simp
noncomputable def TE (x : Ty.T y102) : List Int := v57 x
noncomputable def TO (x : Ty.T y105) : List Int := v58 x
noncomputable def LE (x : Ty.T y102) : List Int := LB (TE x)
noncomputable def LO (x : Ty.T y105) : List Int := LB (TO x)
noncomputable def LG (l : List Int) : Bool := decide ((l.length : Int) > 255)
def IW (x : Int) : List Int := [IntKind.wrap .i64 x]
theorem plS (b l : List Int) (h : LG l = false) : PL b l = b ++ LB l := by simp only [LG] at h; simp only [PL, h, cond_false]
theorem lgN (l : List Int) (h : LG l = false) : l.length <= 255 := by simp [LG] at h; omega
theorem lgI (l : List Int) (h : l.length <= 255) : LG l = false := by simp [LG]; omega
theorem lbLow (l : List Int) (h : l.length <= 255) : (LB l).length <= 1021 := by rw [lbLen]; omega
theorem bytesS (x0 : List (Ty.T (.int .u8))) (x1 : List (Ty.T (.int .i64))) (pre : List Int) (hb : x0.length <= 68719476736) (hp : pre.length <= 549755813888) : k51_0 x0 x1 0 pre 0 = true /\ w51_0 x0 x1 0 pre = (x0, x1, (x0.length : Int), (pre ++ x0.flatMap IW), ()) := by
  have h := fold_iter (s := s51_0) (mk := fun (k : List Int) i => (x0, x1, i, k, ())) (xs := x0) (f := fun k x => k ++ IW x) (Inv := fun i k => k.length <= 549755813888 + 1 * i) (fun i x k hx hI => by
    obtain ⟨hi, rfl⟩ := List.getElem?_eq_some_iff.1 hx
    have hl : k.length <= 824633720832 := by omega
    have hG : (IW x0[i]).length <= 1 := Nat.le_refl 1
    have hq : (k.length + 1) * 8 <= 140737488351232 := by omega
    refine ⟨by simp [s51_0, t51_0, optC_some, hi, IW, hq, wrap_nat (n := i) (by omega)], ?_⟩
    have := hG
    simp only [List.length_append, Nat.mul_add]
    omega) (fun k => by simp [s51_0, t51_0]) x0.length 0 pre (n51_0 (x0, x1, 0, pre, ())) (by omega) (by simp only [n51_0]; omega) (by omega)
  rw [List.drop_zero, foldG] at h
  exact ⟨at_of h 0, val_of h⟩
theorem bytesI (x0 : List (Ty.T (.int .u8))) (x3 : Ty.T y40) (x5 : List (Ty.T (.int .u8))) (pre : List Int) (hb : x5.length <= 68719476736) (hp : pre.length <= 549755813888) : k11_0 x0 (x5.length : Int) 0 x3 pre x5 0 = true /\ w11_0 x0 (x5.length : Int) 0 x3 pre x5 = (x0, (x5.length : Int), (x5.length : Int), x3, (pre ++ x5.flatMap IW), x5, ()) := by
  have h := fold_iter (s := s11_0) (mk := fun (k : List Int) i => (x0, (x5.length : Int), i, x3, k, x5, ())) (xs := x5) (f := fun k x => k ++ IW x) (Inv := fun i k => k.length <= 549755813888 + 1 * i) (fun i x k hx hI => by
    obtain ⟨hi, rfl⟩ := List.getElem?_eq_some_iff.1 hx
    have hl : k.length <= 824633720832 := by omega
    have hG : (IW x5[i]).length <= 1 := Nat.le_refl 1
    have hq : (k.length + 1) * 8 <= 140737488351232 := by omega
    refine ⟨by simp [s11_0, t11_0, optC_some, hi, IW, hq, wrap_nat (n := i) (by omega)], ?_⟩
    have := hG
    simp only [List.length_append, Nat.mul_add]
    omega) (fun k => by simp [s11_0, t11_0]) x5.length 0 pre (n11_0 (x0, (x5.length : Int), 0, x3, pre, x5, ())) (by omega) (by simp only [n11_0]; omega) (by omega)
  rw [List.drop_zero, foldG] at h
  exact ⟨at_of h 0, val_of h⟩
theorem listE (x0 : List (Ty.T (.int .u8))) (x1 : List (Ty.T (.int .i64))) (x2 : List (Ty.T y102)) (x5 : Ty.T y40) (pre : List (List Int)) (hb : x2.length <= 1048576) (hp : pre.length <= 549755813888) (hv : ∀ x ∈ x2, d63 x = true /\ v63 x = v57 x) : k11_1 x0 x1 x2 (x2.length : Int) 0 x5 pre 0 = true /\ w11_1 x0 x1 x2 (x2.length : Int) 0 x5 pre = (x0, x1, x2, (x2.length : Int), (x2.length : Int), x5, (pre ++ x2.flatMap (fun x => [TE x])), ()) := by
  have h := fold_iter (s := s11_1) (mk := fun (k : List (List Int)) i => (x0, x1, x2, (x2.length : Int), i, x5, k, ())) (xs := x2) (f := fun k x => k ++ (fun x => [TE x]) x) (Inv := fun i k => k.length <= 549755813888 + 1 * i) (fun i x k hx hI => by
    obtain ⟨hi, rfl⟩ := List.getElem?_eq_some_iff.1 hx
    have hl : k.length <= 824633720832 := by omega
    have hG : ([(TE x2[i])] : List (List Int)).length <= 1 := Nat.le_refl 1
    have hm := hv _ (List.getElem_mem hi)
    have hq : (k.length + 1) * 24 <= 140737488351232 := by omega
    refine ⟨by simp [s11_1, t11_1, optC_some, hi, TE, hm.1, hm.2, hq, wrap_nat (n := i) (by omega)], ?_⟩
    have := hG
    simp only [List.length_append, Nat.mul_add]
    omega) (fun k => by simp [s11_1, t11_1]) x2.length 0 pre (n11_1 (x0, x1, x2, (x2.length : Int), 0, x5, pre, ())) (by omega) (by simp only [n11_1]; omega) (by omega)
  rw [List.drop_zero, foldG] at h
  exact ⟨at_of h 0, val_of h⟩
theorem listO (x0 : List (Ty.T (.int .u8))) (x1 : List (Ty.T (.int .i64))) (x2 : List (Ty.T y105)) (x5 : Ty.T y40) (pre : List (List Int)) (hb : x2.length <= 1048576) (hp : pre.length <= 549755813888) (hv : ∀ x ∈ x2, d64 x = true /\ v64 x = v58 x) : k11_2 x0 x1 x2 (x2.length : Int) 0 x5 pre 0 = true /\ w11_2 x0 x1 x2 (x2.length : Int) 0 x5 pre = (x0, x1, x2, (x2.length : Int), (x2.length : Int), x5, (pre ++ x2.flatMap (fun x => [TO x])), ()) := by
  have h := fold_iter (s := s11_2) (mk := fun (k : List (List Int)) i => (x0, x1, x2, (x2.length : Int), i, x5, k, ())) (xs := x2) (f := fun k x => k ++ (fun x => [TO x]) x) (Inv := fun i k => k.length <= 549755813888 + 1 * i) (fun i x k hx hI => by
    obtain ⟨hi, rfl⟩ := List.getElem?_eq_some_iff.1 hx
    have hl : k.length <= 824633720832 := by omega
    have hG : ([(TO x2[i])] : List (List Int)).length <= 1 := Nat.le_refl 1
    have hm := hv _ (List.getElem_mem hi)
    have hq : (k.length + 1) * 24 <= 140737488351232 := by omega
    refine ⟨by simp [s11_2, t11_2, optC_some, hi, TO, hm.1, hm.2, hq, wrap_nat (n := i) (by omega)], ?_⟩
    have := hG
    simp only [List.length_append, Nat.mul_add]
    omega) (fun k => by simp [s11_2, t11_2]) x2.length 0 pre (n11_2 (x0, x1, x2, (x2.length : Int), 0, x5, pre, ())) (by omega) (by simp only [n11_2]; omega) (by omega)
  rw [List.drop_zero, foldG] at h
  exact ⟨at_of h 0, val_of h⟩
theorem ordersS (x1 : Ty.T y40) (x3 : List (Ty.T (.int .u8))) (pre : List Int) (hb : x1.2.2.1.length <= 1048576) (hp : pre.length <= 137438953472) (hv : ∀ x ∈ x1.2.2.1, d58 x = true /\ (v58 x).length <= 255) : k9_1 0 x1 pre x3 0 = true /\ w9_1 0 x1 pre x3 = ((x1.2.2.1.length : Int), x1, (pre ++ x1.2.2.1.flatMap LO), x3, ()) := by
  have h := fold_iter (s := s9_1) (mk := fun (k : List Int) i => (i, x1, k, x3, ())) (xs := x1.2.2.1) (f := fun k x => k ++ LO x) (Inv := fun i k => k.length <= 137438953472 + 1021 * i) (fun i x k hx hI => by
    obtain ⟨hi, rfl⟩ := List.getElem?_eq_some_iff.1 hx
    have hl : k.length <= 824633720832 := by omega
    have hm := hv _ (List.getElem_mem hi)
    have hq := putListS k (TO x1.2.2.1[i]) (by omega) (by have : (TO x1.2.2.1[i]).length <= 255 := hm.2; omega)
    rw [plS _ (TO x1.2.2.1[i]) (lgI _ hm.2)] at hq
    have hG : (LO x1.2.2.1[i]).length <= 1021 := lbLow _ hm.2
    simp only [TO] at hq
    refine ⟨by simp [s9_1, t9_1, optC_some, hi, LO, TO, hm.1, hq.1, hq.2, wrap_nat (n := i) (by omega)], ?_⟩
    have := hG
    simp only [List.length_append, Nat.mul_add]
    omega) (fun k => by simp [s9_1, t9_1]) x1.2.2.1.length 0 pre (n9_1 (0, x1, pre, x3, ())) (by omega) (by simp only [n9_1]; omega) (by omega)
  rw [List.drop_zero, foldG] at h
  exact ⟨at_of h 0, val_of h⟩
theorem tableS (x1 : Ty.T y40) (x3 : List (Ty.T (.int .u8))) (pre : List Int) (hb : x1.2.1.length <= 1048576) (hv : ∀ x ∈ x1.2.1, d57 x = true /\ (v57 x).length <= 7340134) (hp : pre.length <= 68719476736) : (∃ (c : List Int) (j : Int), x1.2.1.any (fun x => LG (TE x)) = true /\ iter s9_0 (n9_0 (0, x1, pre, x3, ())) (0, x1, pre, x3, ()) = some (0, (j, x1, c, [], ()))) ∨ (x1.2.1.any (fun x => LG (TE x)) = false /\ iter s9_0 (n9_0 (0, x1, pre, x3, ())) (0, x1, pre, x3, ()) = some (1, ((x1.2.1.length : Int), x1, (pre ++ x1.2.1.flatMap LE), x3, ()))) := by
  have h := stop_iter (s := s9_0) (mk := fun (k : List Int) i => (i, x1, k, x3, ())) (fin := fun (k : List Int) i => (i, x1, k, [], ())) (xs := x1.2.1) (f := fun k x => k ++ LE x) (bad := fun x => LG (TE x)) (Inv := fun i k => k.length <= 68719476736 + 1021 * i) (fun i x k hx hI => by
    obtain ⟨hi, rfl⟩ := List.getElem?_eq_some_iff.1 hx
    have hm := hv _ (List.getElem_mem hi)
    refine ⟨fun hB => ?_, fun hB => ?_⟩
    · have hB' : v54 (v57 x1.2.1[i]) = true := hB
      simp [s9_0, t9_0, optC_some, hi, hm.1, hB']
    · have hB' : v54 (v57 x1.2.1[i]) = false := hB
      have hq := putListS k (TE x1.2.1[i]) (by omega) (by have : (TE x1.2.1[i]).length <= 255 := lgN _ hB; omega)
      rw [plS _ _ hB] at hq
      have hG : (LE x1.2.1[i]).length <= 1021 := lbLow _ (lgN _ hB)
      simp only [TE] at hq
      refine ⟨by simp [s9_0, t9_0, optC_some, hi, hm.1, hB', hq.1, hq.2, LE, TE, wrap_nat (n := i) (by omega)], ?_⟩
      simp only [List.length_append, Nat.mul_add]
      omega) (fun k => by simp [s9_0, t9_0]) x1.2.1.length 0 pre (n9_0 (0, x1, pre, x3, ())) (by omega) (by simp only [n9_0]; omega) (by omega)
  rw [List.drop_zero, foldG] at h
  rcases h with ⟨c, j, h1, h2⟩ | h
  · exact .inl ⟨c, j, h1, h2⟩
  · exact .inr h
noncomputable def fT (T O : Int) (p : Nat × List Int) (x : List Int) : Nat × List Int := (p.1 + 1, cond ((p.1 : Int) == T) (p.2 ++ B4 O) p.2 ++ LB x)
theorem listsI (x0 : List (Ty.T (.int .u8))) (x1 : List (Ty.T (.sl 3 (.int .i64)))) (x4 : Ty.T y40) (pre : List Int) (hb : x1.length <= 4194304) (hv : ∀ x ∈ x1, (List.length (α := Int) x) <= 255) (hp : pre.length <= 137438953472) : k11_3 x0 x1 (x1.length : Int) 0 x4 pre 0 = true /\ w11_3 x0 x1 (x1.length : Int) 0 x4 pre = (x0, x1, (x1.length : Int), (x1.length : Int), x4, (x1.foldl (fT (x4.2.1.length : Int) (x4.2.2.1.length : Int)) (0, pre)).2, ()) := by
  have h := fold_iter (s := s11_3) (mk := fun (p : Nat × List Int) i => (x0, x1, (x1.length : Int), i, x4, p.2, ())) (xs := x1) (f := fT (x4.2.1.length : Int) (x4.2.2.1.length : Int)) (Inv := fun i p => p.1 = i /\ p.2.length <= 137438953472 + 1025 * i) (fun i x p hx hI => by
    obtain ⟨hi, rfl⟩ := List.getElem?_eq_some_iff.1 hx
    obtain ⟨n, k⟩ := p
    obtain ⟨e1, hI⟩ := hI
    simp only at e1 hI
    subst e1
    have hm := hv _ (List.getElem_mem hi)
    have h0 := putI k (x4.2.2.1.length : Int) (by omega)
    have hG : (LB x1[n]).length <= 1021 := lbLow _ hm
    cases ht : ((n : Int) == (x4.2.1.length : Int)) with
    | true =>
      have hq := putListI (k ++ B4 (x4.2.2.1.length : Int)) x1[n] (by simp only [List.length_append, b4len]; omega) (by omega)
      rw [plS _ _ (lgI _ hm)] at hq
      refine ⟨by simp [s11_3, t11_3, optC_some, hi, g11_4, c11_4, t11_4, g11_5, c11_5, t11_5, ht, h0.1, h0.2, fT, hq.1, hq.2, wrap_nat (n := n) (by omega)], by simp [fT], ?_⟩
      simp only [fT, ht, cond_true, List.length_append, b4len, Nat.mul_add]
      omega
    | false =>
      have hq := putListI k x1[n] (by omega) (by omega)
      rw [plS _ _ (lgI _ hm)] at hq
      refine ⟨by simp [s11_3, t11_3, optC_some, hi, g11_4, c11_4, t11_4, g11_5, c11_5, t11_5, ht, fT, hq.1, hq.2, wrap_nat (n := n) (by omega)], by simp [fT], ?_⟩
      simp only [fT, ht, cond_false, List.length_append, Nat.mul_add]
      omega) (fun k => by simp [s11_3, t11_3]) x1.length 0 (0, pre) (n11_3 (x0, x1, (x1.length : Int), 0, x4, pre, ())) (by omega) (by simp only [n11_3]; omega) ⟨rfl, by omega⟩
  rw [List.drop_zero] at h
  exact ⟨at_of h 0, val_of h⟩
theorem fT_low (T O : Int) (l : List (List Int)) : ∀ (n : Nat) (b : List Int), (n : Int) + l.length <= T -> l.foldl (fT T O) (n, b) = (n + l.length, b ++ l.flatMap LB) := by
  induction l with
  | nil => intro n b h; simp
  | cons x l ih =>
    intro n b h
    simp only [List.length_cons] at h
    have hn : ((n : Int) == T) = false := by simp; omega
    rw [List.foldl_cons]
    simp only [fT, hn, cond_false]
    rw [ih _ _ (by omega)]
    simp only [List.length_cons, List.flatMap_cons, List.append_assoc]
    congr 1
    omega
theorem fT_high (T O : Int) (l : List (List Int)) : ∀ (n : Nat) (b : List Int), (n : Int) > T -> l.foldl (fT T O) (n, b) = (n + l.length, b ++ l.flatMap LB) := by
  induction l with
  | nil => intro n b h; simp
  | cons x l ih =>
    intro n b h
    have hn : ((n : Int) == T) = false := by simp; omega
    rw [List.foldl_cons]
    simp only [fT, hn, cond_false]
    rw [ih _ _ (by omega)]
    simp only [List.length_cons, List.flatMap_cons, List.append_assoc]
    congr 1
    omega
theorem fT_all (tabs ords : List (List Int)) (O : Int) (b : List Int) : ((tabs ++ ords).foldl (fT (tabs.length : Int) O) (0, b)).2 = (b ++ tabs.flatMap LB) ++ cond (decide (ords.length = 0)) [] (B4 O ++ ords.flatMap LB) := by
  have e := fT_low (tabs.length : Int) O tabs 0 b (by simp)
  rw [List.foldl_append, e]
  cases ords with
  | nil => simp
  | cons x l =>
    rw [List.foldl_cons]
    have hn : (((0 + tabs.length : Nat) : Int) == (tabs.length : Int)) = true := by simp
    simp only [fT, hn, cond_true]
    rw [fT_high _ _ _ _ _ (by omega)]
    simp
theorem longIs (l : List (Ty.T (.int .i64))) : v66 l = LG l := rfl
theorem implLong' (l : List (Ty.T (.sl 3 (.int .i64)))) (hb : l.length <= 4194304) : (l.any (fun x => LG x) = true /\ k143c1_0 l 0 ((l).length : Int) 0 0 = true /\ ∃ j : Nat, w143c1_0 l 0 ((l).length : Int) 0 = (l, (j : Int), ((l).length : Int), (j : Int), ())) ∨ (l.any (fun x => LG x) = false /\ k143c1_0 l 0 ((l).length : Int) 0 0 = false /\ k143c1_0 l 0 ((l).length : Int) 0 1 = true /\ w143c1_0 l 0 ((l).length : Int) 0 = (l, 0, ((l).length : Int), (l.length : Int), ())) := by
  have h := find_iter (s := s143c1_0) (mk := fun i => (l, 0, ((l).length : Int), i, ())) (fin := fun i => (l, (i : Int), ((l).length : Int), (i : Int), ())) (p := fun i => match l[i]? with | some x => LG x | none => false) (N := l.length) (fun i hi => by
    have h1 := List.getElem?_eq_getElem hi
    simp only [h1]
    skip
    cases ht : (LG l[i] : Bool) <;> simp [s143c1_0, t143c1_0, optC_some, hi, h1, ht, longIs, wrap_nat (n := i) (by omega)]) (by simp [s143c1_0, t143c1_0]) l.length 0 (n143c1_0 (l, 0, ((l).length : Int), 0, ())) (by omega) (by simp only [n143c1_0]; omega)
  have hf := first_any (p := fun x => LG x) (xs := l) (q := fun i => match l[i]? with | some x => LG x | none => false) (fun i x h1 => by simp only [h1])
  revert h hf
  generalize first _ 0 l.length = o
  intro h hf
  cases o with
  | none => exact .inr ⟨hf.symm, at_of h 0, at_of h 1, val_of h⟩
  | some j => exact .inl ⟨hf.symm, at_of h 0, j, val_of h⟩
theorem implLong (l : List (Ty.T (.sl 3 (.int .i64)))) (hb : l.length <= 4194304) : d65c1 l = true /\ v65c1 l = l.any (fun x => LG x) := by
  unfold d65c1 v65c1 d143c1 v143c1
  rcases implLong' l hb with ⟨hB, e0, j, hw⟩ | ⟨hB, e0, e1, hw⟩
  · rw [e0, hw, hB]
    exact ⟨rfl, decide_eq_true (show ((j : Int)) ≥ 0 by omega)⟩
  · rw [e0, e1, hB]
    exact ⟨rfl, rfl⟩
noncomputable def STI (a : Ty.T y40) : List Int := (STB a.1).flatMap IW
noncomputable def PSB (a : Ty.T y40) : List Int := ((((LB (STI a) ++ B4 (a.2.1.length : Int)) ++ a.2.1.flatMap LE) ++ B4 (a.2.2.1.length : Int)) ++ a.2.2.1.flatMap LO)
noncomputable def PS (a : Ty.T y40) : List Int := cond (v53 a) (cond (LG (STI a)) [] (cond (a.2.1.any (fun x => LG (TE x))) [] (PL (PSB a) a.2.2.2))) []
theorem ordsOk (a : Ty.T y40) (h1 : a.1.1.length <= 1048576) (h2 : a.1.2.1.length <= 1048576) (h3 : a.2.1.length <= 1048576) (h4 : ∀ x ∈ a.2.1, x.2.2.2.2.2.2.1.2.2.2.2.2.2.length <= 1048576) (h5 : a.2.2.1.length <= 1048576) (h6 : ∀ x ∈ a.2.2.1, (x.2.1.2.2.2.2.2.2.1.2.2.2.2.2.2.length <= 1048576 /\ x.2.2.2.length <= 1048576)) (h7 : a.2.2.2.length <= 1048576) (h : v53 a = true) : ∀ x ∈ a.2.2.1, d58 x = true /\ (v58 x).length <= 255 := by
  intro x hx
  have hh := h6 x hx
  refine ⟨(onums x hh.1 hh.2).1, orderLow x hh.1 hh.2 ?_⟩
  cases hc : v128 x with
  | true => rfl
  | false =>
    exfalso
    have hany : a.2.2.1.any (fun x => !v128 x) = true := List.any_eq_true.2 ⟨x, hx, by rw [hc]; rfl⟩
    rcases specOrders a h5 h6 with ⟨hB, e0, j, hw⟩ | ⟨hB, e0, e1, hw⟩
    · simp [v53, t53, e0, hw, nfs] at h
    · rw [hB] at hany
      cases hany
theorem psbLen (a : Ty.T y40) (h1 : a.1.1.length <= 1048576) (h2 : a.1.2.1.length <= 1048576) (h3 : a.2.1.length <= 1048576) (h4 : ∀ x ∈ a.2.1, x.2.2.2.2.2.2.1.2.2.2.2.2.2.length <= 1048576) (h5 : a.2.2.1.length <= 1048576) (h6 : ∀ x ∈ a.2.2.1, (x.2.1.2.2.2.2.2.2.1.2.2.2.2.2.2.length <= 1048576 /\ x.2.2.2.length <= 1048576)) (h7 : a.2.2.2.length <= 1048576) (hs : LG (STI a) = false) (ht : a.2.1.any (fun x => LG (TE x)) = false) (h : v53 a = true) : (PSB a).length <= 8589934592 := by
  have ho := ordsOk a h1 h2 h3 h4 h5 h6 h7 h
  have e1 := flatLen LE 1021 a.2.1 (fun x hx => lbLow _ (lgN _ (by
    have := List.any_eq_false.1 ht x hx
    simpa using this)))
  have e2 := flatLen LO 1021 a.2.2.1 (fun x hx => lbLow _ (ho x hx).2)
  have e3 := lbLow _ (lgN _ hs)
  simp only [PSB, List.length_append, b4len]
  omega
theorem flatOne {X Y : Type} (f : X -> Y) (l : List X) : l.flatMap (fun x => [f x]) = l.map f := by
  induction l with
  | nil => rfl
  | cons x l ih => rw [List.flatMap_cons, List.map_cons, ih]; rfl
theorem flatMapLB {X : Type} (f : X -> List Int) (l : List X) : (l.map f).flatMap LB = l.flatMap (fun x => LB (f x)) := by
  induction l with
  | nil => rfl
  | cons x l ih => rw [List.map_cons, List.flatMap_cons, List.flatMap_cons, ih]
theorem stiLen (a : Ty.T y40) (h1 : a.1.1.length <= 1048576) (h2 : a.1.2.1.length <= 1048576) : (STI a).length <= 68719476736 := by
  have e := flatLen IW 1 (STB a.1) (fun x _ => Nat.le_refl 1)
  have := stbLen a.1 h1 h2
  simp only [STI]
  omega
theorem psS (a : Ty.T y40) (h1 : a.1.1.length <= 1048576) (h2 : a.1.2.1.length <= 1048576) (h3 : a.2.1.length <= 1048576) (h4 : ∀ x ∈ a.2.1, x.2.2.2.2.2.2.1.2.2.2.2.2.2.length <= 1048576) (h5 : a.2.2.1.length <= 1048576) (h6 : ∀ x ∈ a.2.2.1, (x.2.1.2.2.2.2.2.2.1.2.2.2.2.2.2.length <= 1048576 /\ x.2.2.2.length <= 1048576)) (h7 : a.2.2.2.length <= 1048576) : d9 a = true /\ v9 a = PS a := by
  have hk := scriptOk a h1 h2 h3 h4 h5 h6 h7
  have q1 := putStateS a.1 h1 h2
  have hst := stbLen a.1 h1 h2
  have q2 := fun x1 => bytesS (STB a.1) x1 [] hst (by simp)
  have hI : (STB a.1).flatMap IW = STI a := rfl
  have hlg : v54 (STI a) = LG (STI a) := rfl
  unfold d9 v9 t9
  try simp only [nfs]
  simp only [e9_0, e9_1, q1.1, q1.2, v51, d51, (q2 []).1, (q2 []).2, hk.1, cond_true, List.nil_append, hI, hlg]
  cases hv : v53 a with
  | false => simp [PS, hv]
  | true =>
    cases hs : LG (STI a) with
    | true => simp [PS, hv, hs]
    | false =>
      have q3 := putListS [] (STI a) (by simp) (by have := lgN _ hs; omega)
      rw [plS _ _ hs, List.nil_append] at q3
      have e3 := lbLow _ (lgN _ hs)
      have q4 := putS (LB (STI a)) (a.2.1.length : Int) (by omega)
      have q5 := tableS a [] (LB (STI a) ++ B4 (a.2.1.length : Int)) h3 (fun x hx => ⟨(nums x (h4 x hx)).1, (nums x (h4 x hx)).2.2.2⟩) (by simp only [List.length_append, b4len]; omega)
      simp only [q3.1, q3.2, q4.1, q4.2, cond_true, cond_false, Bool.not_true]
      rcases q5 with ⟨c, j, hT, h⟩ | ⟨hT, h⟩
      · have k0 := at_of h 0
        have w0 := val_of h
        have k0 : k9_0 0 a (LB (STI a) ++ B4 (a.2.1.length : Int)) [] 0 = true := k0
        have w0 : w9_0 0 a (LB (STI a) ++ B4 (a.2.1.length : Int)) [] = _ := w0
        simp [k0, w0, PS, hv, hs, hT]
      · have k0 := at_of h 0
        have k1 := at_of h 1
        have w0 := val_of h
        have k0 : k9_0 0 a (LB (STI a) ++ B4 (a.2.1.length : Int)) [] 0 = false := k0
        have k1 : k9_0 0 a (LB (STI a) ++ B4 (a.2.1.length : Int)) [] 1 = true := k1
        have w0 : w9_0 0 a (LB (STI a) ++ B4 (a.2.1.length : Int)) [] = _ := w0
        have ho := ordsOk a h1 h2 h3 h4 h5 h6 h7 hv
        have e1 := flatLen LE 1021 a.2.1 (fun x hx => lbLow _ (lgN _ (by
          have := List.any_eq_false.1 hT x hx
          simpa using this)))
        have q6 := putS ((LB (STI a) ++ B4 (a.2.1.length : Int)) ++ a.2.1.flatMap LE) (a.2.2.1.length : Int) (by simp only [List.length_append, b4len]; omega)
        have q7 := ordersS a [] (((LB (STI a) ++ B4 (a.2.1.length : Int)) ++ a.2.1.flatMap LE) ++ B4 (a.2.2.1.length : Int)) h5 (by simp only [List.length_append, b4len]; omega) ho
        have q8 := putListS (PSB a) a.2.2.2 (by have := psbLen a h1 h2 h3 h4 h5 h6 h7 hs hT hv; omega) h7
        simp only [PSB] at q8
        simp only [k0, k1, w0, q6.1, q6.2, q7.1, q7.2, q8.1, q8.2, cond_true, cond_false]
        simp [PS, PSB, hv, hs, hT]
theorem psI (a : Ty.T y40) (h1 : a.1.1.length <= 1048576) (h2 : a.1.2.1.length <= 1048576) (h3 : a.2.1.length <= 1048576) (h4 : ∀ x ∈ a.2.1, x.2.2.2.2.2.2.1.2.2.2.2.2.2.length <= 1048576) (h5 : a.2.2.1.length <= 1048576) (h6 : ∀ x ∈ a.2.2.1, (x.2.1.2.2.2.2.2.2.1.2.2.2.2.2.2.length <= 1048576 /\ x.2.2.2.length <= 1048576)) (h7 : a.2.2.2.length <= 1048576) : d11 a = true /\ v11 a = PS a := by
  have hk := scriptOk a h1 h2 h3 h4 h5 h6 h7
  have q1 := putStateI a.1 h1 h2
  have hst := stbLen a.1 h1 h2
  have hsi := stiLen a h1 h2
  have hI : (STB a.1).flatMap IW = STI a := rfl
  have hn : ∀ x ∈ a.2.1, d63 x = true /\ v63 x = v57 x := fun x hx => ⟨(nums x (h4 x hx)).2.1, (nums x (h4 x hx)).2.2.1⟩
  have ho : ∀ x ∈ a.2.2.1, d64 x = true /\ v64 x = v58 x := fun x hx => ⟨(onums x (h6 x hx).1 (h6 x hx).2).2.1, (onums x (h6 x hx).1 (h6 x hx).2).2.2.1⟩
  have q2 := bytesI [] a (STB a.1) [] hst (by simp)
  have q3 := listE [] (STI a) a.2.1 a [STI a] h3 (by simp) hn
  have q4 := listO [] (STI a) a.2.2.1 a ([STI a] ++ a.2.1.flatMap fun x => [TE x]) h5 (by rw [flatOne]; simp; omega) ho
  rw [hI, List.nil_append] at q2
  have hL : ([STI a] ++ a.2.1.flatMap fun x => [TE x]) ++ (a.2.2.1.flatMap fun x => [TO x]) = STI a :: (a.2.1.map TE ++ a.2.2.1.map TO) := by rw [flatOne, flatOne]; simp
  rw [hL] at q4
  have q5 := implLong (STI a :: (a.2.1.map TE ++ a.2.2.1.map TO)) (by simp; omega)
  have hdt : ((STI a :: (a.2.1.map TE ++ a.2.2.1.map TO)).drop 1).take ((STI a :: (a.2.1.map TE ++ a.2.2.1.map TO)).length - 1) = a.2.1.map TE ++ a.2.2.1.map TO := by simp only [List.drop_succ_cons, List.drop_zero, List.length_cons, Nat.add_sub_cancel, List.take_length]
  have hle : (((STI a :: (a.2.1.map TE ++ a.2.2.1.map TO)).length - 1 : Nat) : Int) = ((a.2.1.map TE ++ a.2.2.1.map TO).length : Int) := by simp
  have h1L : (1 : Int) <= ((STI a :: (a.2.1.map TE ++ a.2.2.1.map TO)).length : Int) := by simp; omega
  unfold d11 v11 t11
  try simp only [nfs]
  simp only [e11_0, e11_1, e11_2, e11_3, e11_4, hk.2.1, hk.2.2, q1.1, q1.2, q2.1, q2.2, q3.1, q3.2, q4.1, q4.2, q5.1, q5.2, cond_true, hdt, hle, if_pos h1L]
  cases hv : v53 a with
  | false => simp [PS, hv]
  | true =>
    have ho2 := ordsOk a h1 h2 h3 h4 h5 h6 h7 hv
    have hany : (STI a :: (a.2.1.map TE ++ a.2.2.1.map TO)).any (fun x => LG x) = (LG (STI a) || a.2.1.any (fun x => LG (TE x))) := by
      have hz : (a.2.2.1.map TO).any (fun x => LG x) = false := by
        rw [List.any_map, List.any_eq_false]
        intro x hx
        simp only [Function.comp_apply]
        rw [show LG (TO x) = false from lgI _ (ho2 x hx).2]
        exact Bool.false_ne_true
      rw [List.any_cons, List.any_append, hz, List.any_map, Bool.or_false]
      rfl
    rw [hany]
    cases hs : LG (STI a) with
    | true => simp [PS, hv, hs]
    | false =>
      cases hT : a.2.1.any (fun x => LG (TE x)) with
      | true => simp [PS, hv, hs, hT]
      | false =>
        have q6 := putListI [] (STI a) (by simp) (by have := lgN _ hs; omega)
        rw [plS _ _ hs, List.nil_append] at q6
        have e3 := lbLow _ (lgN _ hs)
        have q7 := putI (LB (STI a)) (a.2.1.length : Int) (by omega)
        have hall : ∀ x ∈ a.2.1.map TE ++ a.2.2.1.map TO, (List.length (α := Int) x) <= 255 := by
          intro x hx
          rcases List.mem_append.1 hx with hx | hx
          · obtain ⟨y, hy, rfl⟩ := List.mem_map.1 hx
            exact lgN _ (by have := List.any_eq_false.1 hT y hy; simpa using this)
          · obtain ⟨y, hy, rfl⟩ := List.mem_map.1 hx
            exact (ho2 y hy).2
        have q8 := listsI [] (a.2.1.map TE ++ a.2.2.1.map TO) a (LB (STI a) ++ B4 (a.2.1.length : Int)) (by simp; omega) hall (by simp only [List.length_append, b4len]; omega)
        have hf := fT_all (a.2.1.map TE) (a.2.2.1.map TO) (a.2.2.1.length : Int) (LB (STI a) ++ B4 (a.2.1.length : Int))
        rw [flatMapLB, flatMapLB, List.length_map, List.length_map, show (fun x => LB (TE x)) = LE from rfl, show (fun x => LB (TO x)) = LO from rfl] at hf
        have hps := psbLen a h1 h2 h3 h4 h5 h6 h7 hs hT hv
        have q9 := putListI (PSB a) a.2.2.2 (by omega) h7
        rw [hf] at q8
        cases hz : ((a.2.2.1.length : Int) == 0) with
        | true =>
          have hd : decide (a.2.2.1.length = 0) = true := decide_eq_true (by have := eq_of_beq hz; omega)
          have hnil : a.2.2.1 = [] := List.eq_nil_of_length_eq_zero (of_decide_eq_true hd)
          rw [hd, cond_true] at q8
          have hP : PSB a = (((LB (STI a) ++ B4 (a.2.1.length : Int)) ++ a.2.1.flatMap LE) ++ []) ++ B4 0 := by simp [PSB, hnil]
          have q10 := putI (((LB (STI a) ++ B4 (a.2.1.length : Int)) ++ a.2.1.flatMap LE) ++ []) 0 (by
            rw [hP, List.length_append] at hps
            omega)
          rw [← hP] at q10
          simp only [g11_4, c11_4, t11_4, g11_5, c11_5, t11_5, hz, q6.1, q6.2, q7.1, q7.2, q8.1, q8.2, q9.1, q9.2, q10.1, q10.2, cond_true, cond_false, Bool.not_true, Bool.or_false, Option.isSome_some, Option.getD_some]
          simp [PS, hv, hs, hT] <;> omega
        | false =>
          have hd : decide (a.2.2.1.length = 0) = false := decide_eq_false (fun h => by rw [h] at hz; cases hz)
          have hP : PSB a = ((LB (STI a) ++ B4 (a.2.1.length : Int)) ++ a.2.1.flatMap LE) ++ (B4 (a.2.2.1.length : Int) ++ a.2.2.1.flatMap LO) := by simp [PSB]
          rw [hd, cond_false, ← hP] at q8
          simp only [g11_4, c11_4, t11_4, g11_5, c11_5, t11_5, hz, q6.1, q6.2, q7.1, q7.2, q8.1, q8.2, q9.1, q9.2, cond_true, cond_false, Bool.not_true, Bool.or_false, Option.isSome_some, Option.getD_some]
          simp [PS, hv, hs, hT] <;> omega
theorem psLen (a : Ty.T y40) (h1 : a.1.1.length <= 1048576) (h2 : a.1.2.1.length <= 1048576) (h3 : a.2.1.length <= 1048576) (h4 : ∀ x ∈ a.2.1, x.2.2.2.2.2.2.1.2.2.2.2.2.2.length <= 1048576) (h5 : a.2.2.1.length <= 1048576) (h6 : ∀ x ∈ a.2.2.1, (x.2.1.2.2.2.2.2.2.1.2.2.2.2.2.2.length <= 1048576 /\ x.2.2.2.length <= 1048576)) (h7 : a.2.2.2.length <= 1048576) : (PS a).length <= 17179869184 := by
  simp only [PS]
  cases hv : v53 a with
  | false => simp
  | true =>
    cases hs : LG (STI a) with
    | true => simp
    | false =>
      cases hT : a.2.1.any (fun x => LG (TE x)) with
      | true => simp
      | false =>
        have e := plLen (PSB a) a.2.2.2 h7
        have e2 := psbLen a h1 h2 h3 h4 h5 h6 h7 hs hT hv
        simp only [cond_true, cond_false]
        omega
theorem same12 (xs ys : List (Ty.T (.int .u8))) (hx : xs.length <= 1099511627776) : d12 xs ys = true /\ v12 xs ys = decide (xs = ys) := by
  unfold d12 v12
  by_cases hl : (xs.length : Int) = (ys.length : Int)
  · have hl' : xs.length = ys.length := by omega
    have h := find_iter (s := s12_0) (mk := fun i => (xs, ys, false, i, ())) (fin := fun i => (xs, ys, false, (i : Int), ())) (p := fun i => match xs[i]?, ys[i]? with | some x, some y => !decide (x = y) | _, _ => false) (N := xs.length) (fun i hi => by
      have h1 := List.getElem?_eq_getElem hi
      have h2 := List.getElem?_eq_getElem (l := ys) (i := i) (by omega)
      simp only [h1, h2]
      skip
      by_cases he : xs[i] = ys[i]
      · simp [s12_0, t12_0, optC_some, hi, h1, h2, he,  wrap_nat (n := i) (by omega)]
      · have hb : ((xs[i] : Int) != (ys[i] : Int)) = true := by simpa using he
        simp [s12_0, t12_0, optC_some, hi, h1, h2, he, hb,  wrap_nat (n := i) (by omega)]) (by simp [s12_0, t12_0]) xs.length 0 (n12_0 (xs, ys, false, 0, ())) (by omega) (by simp [n12_0]; omega)
    have hf := first_lists (q := fun x y => !decide (x = y)) (xs := xs) (ys := ys) (fun _ _ => rfl) hl' (p := fun i => match xs[i]?, ys[i]? with | some x, some y => !decide (x = y) | _, _ => false) (fun i x y h1 h2 => by simp only [h1, h2])
    rw [show ((xs.length : Int) != (ys.length : Int)) = false by simp [hl]]
    revert h hf
    generalize first _ 0 xs.length = o
    intro h hf
    cases o with
    | none =>
      have e0 : k12_0 xs ys false 0 0 = false := at_of h 0
      have e1 : k12_0 xs ys false 0 1 = true := at_of h 1
      rw [e0, e1, ← hf]
      exact ⟨rfl, rfl⟩
    | some j =>
      have e0 : k12_0 xs ys false 0 0 = true := at_of h 0
      have hw : w12_0 xs ys false 0 = _ := val_of h
      rw [e0, hw, ← hf]
      exact ⟨rfl, rfl⟩
  · rw [show ((xs.length : Int) != (ys.length : Int)) = true by simp [hl]]
    have : xs ≠ ys := fun e => hl (by rw [e])
    simp [this]
def rampB (k : Int) (n : Nat) : List Int := (List.range n).map fun (j : Nat) => IntKind.wrap .u8 (k + (j : Int))
theorem rampB_length (k : Int) (n : Nat) : (rampB k n).length = n := by simp [rampB]
theorem rampB_get (k : Int) (n i : Nat) (h : i < n) : (rampB k n)[i]? = some (IntKind.wrap .u8 (k + (i : Int))) := by simp [rampB, h]
theorem rampB_set (k : Int) (l : List Int) (i : Nat) (h : i < l.length) : (rampB k i ++ l.drop i).set i (IntKind.wrap .u8 (k + (i : Int))) = rampB k (i + 1) ++ l.drop (i + 1) := by
  have e : rampB k (i + 1) = rampB k i ++ [IntKind.wrap .u8 (k + (i : Int))] := by simp [rampB, List.range_succ]
  rw [e, List.drop_eq_getElem_cons h, List.set_append_right _ _ (by rw [rampB_length]; exact Nat.le_refl _), rampB_length, Nat.sub_self, List.append_assoc]
  rfl
theorem markB (k : Int) (r : List Int) (hk : 0 <= k) (hk2 : k <= 1152921504606846976) (hr : r.length <= 1099511627776) : d15 k r = true /\ v15 k r = (k + r.length, rampB k r.length) := by
  have h := march_iter (A := Int × List Int) (c := 0) (s := s15_0) (mk := fun a i => (a.1, 0, i, a.2, ())) (N := r.length) (Inv := fun i a => a.1 = k + i /\ a.2 = rampB k i ++ r.drop i) (fun i a hi hI => by
    obtain ⟨k', r'⟩ := a
    obtain ⟨e1, e2⟩ := hI
    simp only at e1 e2
    subst e1; subst e2
    have hl : (rampB k i ++ r.drop i).length = r.length := by rw [List.length_append, rampB_length, List.length_drop]; omega
    refine ⟨(k + (i : Int) + 1, rampB k (i + 1) ++ r.drop (i + 1)), ?_, by simp only; omega, rfl⟩
    have h1 : i < (rampB k i ++ r.drop i).length := by omega
    have h2 : (rampB k i ++ r.drop i)[i]? = some (rampB k i ++ r.drop i)[i] := List.getElem?_eq_getElem h1
    have h3 : (i : Int) < ((rampB k i ++ r.drop i).length : Int) := by omega
    simp only [s15_0, t15_0, h3, decide_true, cond_true, if_pos (show (0 : Int) <= (i : Int) by omega), if_true, Int.toNat_natCast, h2, optC_some, rampB_set k r i hi]
    rw [wrap_in (n := k + (i : Int) + 1) (by omega) (by omega), wrap_nat (n := i) (by omega)]) (fun a hI => by
    obtain ⟨k', r'⟩ := a
    obtain ⟨e1, e2⟩ := hI
    simp only at e2
    have hl : r'.length = r.length := by rw [e2, List.length_append, rampB_length, List.length_drop]; omega
    simp [s15_0, t15_0, hl]) r.length 0 (k, r) (n15_0 (k, 0, 0, r, ())) (by omega) (by simp only [n15_0]; omega) ⟨by simp, by simp [rampB]⟩
  obtain ⟨⟨k', r'⟩, hi, e1, e2⟩ := h
  have ek : k15_0 k 0 0 r 0 = true := at_of hi 0
  have ew : w15_0 k 0 0 r = _ := val_of hi
  simp only at e1 e2
  unfold d15 v15
  rw [ek, ew]
  refine ⟨rfl, ?_⟩
  show (k', r') = _
  rw [e1, e2, List.drop_length, List.append_nil]
theorem heldB (k : Int) (n : Nat) (hk : 0 <= k) (hk2 : k <= 1152921504606846976) (hn : n <= 1099511627776) : d16 (rampB k n) k = true /\ v16 (rampB k n) k = k + n := by
  have hl := rampB_length k n
  have h := march_iter (A := Int) (c := 1) (s := s16_0) (mk := fun a i => (rampB k n, a, 0, i, ())) (N := n) (Inv := fun i a => a = k + i) (fun i a hi hI => by
    subst hI
    have h1 := rampB_get k n i hi
    refine ⟨k + (i : Int) + 1, ?_, by omega⟩
    have h3 : (i : Int) < ((rampB k n).length : Int) := by omega
    have h4 : (IntKind.wrap .u8 (k + (i : Int)) != IntKind.wrap .u8 (k + (i : Int))) = false := by simp
    simp only [s16_0, t16_0, h3, decide_true, cond_true, if_pos (show (0 : Int) <= (i : Int) by omega), Int.toNat_natCast, h1, optC_some, h4, cond_false]
    rw [wrap_in (n := k + (i : Int) + 1) (by omega) (by omega), wrap_nat (n := i) (by omega)]) (fun a hI => by simp [s16_0, t16_0, hl]) n 0 k (n16_0 (rampB k n, k, 0, 0, ())) (by omega) (by simp only [n16_0]; omega) (by simp)
  obtain ⟨k', hi, e1⟩ := h
  have e0 : k16_0 (rampB k n) k 0 0 0 = false := at_of hi 0
  have ek : k16_0 (rampB k n) k 0 0 1 = true := at_of hi 1
  have ew : w16_0 (rampB k n) k 0 0 = _ := val_of hi
  unfold d16 v16
  rw [e0, ek, ew]
  refine ⟨rfl, ?_⟩
  show k' = _
  rw [e1]
theorem mark87 (a1 : Int) (r0 : List (Ty.T y179)) (hk : 0 <= a1) (hk2 : a1 <= 1152921504606846976) (hr0 : r0.length <= 1048576) : d87 a1 r0 = true /\ a1 <= (v87 a1 r0).1 /\ (v87 a1 r0).1 <= a1 + 33554432 := by
  have h := march_iter (A := Int × List (Ty.T y179)) (c := 0) (s := s87_0) (mk := fun a i => (a.1, 0, i, a.2, ())) (N := r0.length) (Inv := fun i a => a.1 = a1 + 13 * i /\ a.2.length = r0.length) (fun i a hi hI => by
    obtain ⟨k, r⟩ := a
    obtain ⟨e1, e2⟩ := hI
    simp only at e1 e2
    have hi' : i < r.length := by omega
    refine ⟨(k + 1 + 1 + 1 + 1 + 1 + 1 + 1 + 1 + 1 + 1 + 1 + 1 + 1, r.set i ((k, (k + 1, (k + 1 + 1, (k + 1 + 1 + 1, (k + 1 + 1 + 1 + 1, (k + 1 + 1 + 1 + 1 + 1, (k + 1 + 1 + 1 + 1 + 1 + 1, (k + 1 + 1 + 1 + 1 + 1 + 1 + 1, (k + 1 + 1 + 1 + 1 + 1 + 1 + 1 + 1, (k + 1 + 1 + 1 + 1 + 1 + 1 + 1 + 1 + 1, (k + 1 + 1 + 1 + 1 + 1 + 1 + 1 + 1 + 1 + 1, ((Int.tmod (k + 1 + 1 + 1 + 1 + 1 + 1 + 1 + 1 + 1 + 1 + 1) 3 == 0), (Int.tmod (k + 1 + 1 + 1 + 1 + 1 + 1 + 1 + 1 + 1 + 1 + 1 + 1) 3 == 0))))))))))))))), ?_, by simp only; omega, by simp only [List.length_set]; exact e2⟩
    simp [s87_0, t87_0, e87_0, e87_1, e87_2, e87_3, e87_4, e87_5, e87_6, e87_7, e87_8, e87_9, e87_10, e87_11, e87_12, e87_13, e87_14, e87_15, e87_16, e87_17, e87_18, e87_19, e87_20, e87_21, e87_22, e87_23, optC_some, hi', wrap_in (n := k + 1) (by omega) (by omega), wrap_in (n := k + 1 + 1) (by omega) (by omega), wrap_in (n := k + 1 + 1 + 1) (by omega) (by omega), wrap_in (n := k + 1 + 1 + 1 + 1) (by omega) (by omega), wrap_in (n := k + 1 + 1 + 1 + 1 + 1) (by omega) (by omega), wrap_in (n := k + 1 + 1 + 1 + 1 + 1 + 1) (by omega) (by omega), wrap_in (n := k + 1 + 1 + 1 + 1 + 1 + 1 + 1) (by omega) (by omega), wrap_in (n := k + 1 + 1 + 1 + 1 + 1 + 1 + 1 + 1) (by omega) (by omega), wrap_in (n := k + 1 + 1 + 1 + 1 + 1 + 1 + 1 + 1 + 1) (by omega) (by omega), wrap_in (n := k + 1 + 1 + 1 + 1 + 1 + 1 + 1 + 1 + 1 + 1) (by omega) (by omega), wrap_in (n := k + 1 + 1 + 1 + 1 + 1 + 1 + 1 + 1 + 1 + 1 + 1) (by omega) (by omega), wrap_in (n := k + 1 + 1 + 1 + 1 + 1 + 1 + 1 + 1 + 1 + 1 + 1 + 1) (by omega) (by omega), wrap_in (n := k + 1 + 1 + 1 + 1 + 1 + 1 + 1 + 1 + 1 + 1 + 1 + 1 + 1) (by omega) (by omega), wrap_nat (n := i) (by omega)]) (fun a hI => by
    obtain ⟨k, r⟩ := a
    obtain ⟨e1, e2⟩ := hI
    simp only at e2
    simp [s87_0, t87_0, e2]) r0.length 0 (a1, r0) (n87_0 (a1, 0, 0, r0, ())) (by omega) (by simp only [n87_0]; omega) ⟨by simp, rfl⟩
  obtain ⟨⟨k', r'⟩, hi, e1, e2⟩ := h
  have ek : k87_0 a1 0 0 r0 0 = true := at_of hi 0
  have ew : w87_0 a1 0 0 r0 = _ := val_of hi
  unfold d87 v87
  rw [ek, ew]
  simp only at e1
  refine ⟨rfl, ?_, ?_⟩
  · show a1 <= k'
    omega
  · show k' <= a1 + 33554432
    omega
theorem mark88 (a1 : Int) (r0 : List (Ty.T y181)) (hk : 0 <= a1) (hk2 : a1 <= 1152921504606846976) (hr0 : r0.length <= 1048576) : d88 a1 r0 = true /\ a1 <= (v88 a1 r0).1 /\ (v88 a1 r0).1 <= a1 + 33554432 := by
  have h := march_iter (A := Int × List (Ty.T y181)) (c := 0) (s := s88_0) (mk := fun a i => (a.1, 0, i, a.2, ())) (N := r0.length) (Inv := fun i a => a.1 = a1 + 3 * i /\ a.2.length = r0.length) (fun i a hi hI => by
    obtain ⟨k, r⟩ := a
    obtain ⟨e1, e2⟩ := hI
    simp only at e1 e2
    have hi' : i < r.length := by omega
    refine ⟨(k + 1 + 1 + 1, r.set i ((k, (k + 1, (Int.tmod (k + 1 + 1) 3 == 0))))), ?_, by simp only; omega, by simp only [List.length_set]; exact e2⟩
    simp [s88_0, t88_0, optC_some, hi', wrap_in (n := k + 1) (by omega) (by omega), wrap_in (n := k + 1 + 1) (by omega) (by omega), wrap_in (n := k + 1 + 1 + 1) (by omega) (by omega), wrap_nat (n := i) (by omega)]) (fun a hI => by
    obtain ⟨k, r⟩ := a
    obtain ⟨e1, e2⟩ := hI
    simp only at e2
    simp [s88_0, t88_0, e2]) r0.length 0 (a1, r0) (n88_0 (a1, 0, 0, r0, ())) (by omega) (by simp only [n88_0]; omega) ⟨by simp, rfl⟩
  obtain ⟨⟨k', r'⟩, hi, e1, e2⟩ := h
  have ek : k88_0 a1 0 0 r0 0 = true := at_of hi 0
  have ew : w88_0 a1 0 0 r0 = _ := val_of hi
  unfold d88 v88
  rw [ek, ew]
  simp only at e1
  refine ⟨rfl, ?_, ?_⟩
  · show a1 <= k'
    omega
  · show k' <= a1 + 33554432
    omega
theorem mark27 (a0_2 : Int) (a0_3 : Int) (a1 : Int) (r0 : List (Ty.T y179)) (r1 : List (Ty.T y181)) (hk : 0 <= a1) (hk2 : a1 <= 1152921504573292544) (hr0 : r0.length <= 1048576) (hr1 : r1.length <= 1048576) : d27 a0_2 a0_3 a1 r0 r1 = true /\ a1 <= (v27 a0_2 a0_3 a1 r0 r1).1 /\ (v27 a0_2 a0_3 a1 r0 r1).1 <= a1 + 67108864 := by
  have m0 := mark87 a1 r0 (by omega) (by omega) hr0
  have m1 := mark88 (v87 a1 r0).1 r1 (by have := m0.2.1; have := m0.2.2; omega) (by have := m0.2.1; have := m0.2.2; omega) hr1
  unfold d27 v27
  rw [m0.1, m1.1]
  simp only [cond_true]
  refine ⟨trivial, ?_, ?_⟩ <;> (have := m0.2.1; have := m0.2.2; have := m1.2.1; have := m1.2.2; omega)
theorem mark89 (a1 : Int) (r0 : List (Ty.T y48)) (hk : 0 <= a1) (hk2 : a1 <= 1152921504606846976) (hr0 : r0.length <= 1048576) : d89 a1 r0 = true /\ a1 <= (v89 a1 r0).1 /\ (v89 a1 r0).1 <= a1 + 33554432 := by
  have h := march_iter (A := Int × List (Ty.T y48)) (c := 0) (s := s89_0) (mk := fun a i => (a.1, 0, i, a.2, ())) (N := r0.length) (Inv := fun i a => a.1 = a1 + 7 * i /\ a.2.length = r0.length) (fun i a hi hI => by
    obtain ⟨k, r⟩ := a
    obtain ⟨e1, e2⟩ := hI
    simp only at e1 e2
    have hi' : i < r.length := by omega
    refine ⟨(k + 1 + 1 + 1 + 1 + 1 + 1 + 1, r.set i ((k, (k + 1, (k + 1 + 1, (k + 1 + 1 + 1, (k + 1 + 1 + 1 + 1, (k + 1 + 1 + 1 + 1 + 1, (Int.tmod (k + 1 + 1 + 1 + 1 + 1 + 1) 3 == 0))))))))), ?_, by simp only; omega, by simp only [List.length_set]; exact e2⟩
    simp [s89_0, t89_0, optC_some, hi', wrap_in (n := k + 1) (by omega) (by omega), wrap_in (n := k + 1 + 1) (by omega) (by omega), wrap_in (n := k + 1 + 1 + 1) (by omega) (by omega), wrap_in (n := k + 1 + 1 + 1 + 1) (by omega) (by omega), wrap_in (n := k + 1 + 1 + 1 + 1 + 1) (by omega) (by omega), wrap_in (n := k + 1 + 1 + 1 + 1 + 1 + 1) (by omega) (by omega), wrap_in (n := k + 1 + 1 + 1 + 1 + 1 + 1 + 1) (by omega) (by omega), wrap_nat (n := i) (by omega)]) (fun a hI => by
    obtain ⟨k, r⟩ := a
    obtain ⟨e1, e2⟩ := hI
    simp only at e2
    simp [s89_0, t89_0, e2]) r0.length 0 (a1, r0) (n89_0 (a1, 0, 0, r0, ())) (by omega) (by simp only [n89_0]; omega) ⟨by simp, rfl⟩
  obtain ⟨⟨k', r'⟩, hi, e1, e2⟩ := h
  have ek : k89_0 a1 0 0 r0 0 = true := at_of hi 0
  have ew : w89_0 a1 0 0 r0 = _ := val_of hi
  unfold d89 v89
  rw [ek, ew]
  simp only at e1
  refine ⟨rfl, ?_, ?_⟩
  · show a1 <= k'
    omega
  · show k' <= a1 + 33554432
    omega
theorem mark28 (a1 : Int) (r0 : List (Ty.T y102)) (hk : 0 <= a1) (hk2 : a1 <= 1152886320212738048) (hr0 : Ty.short (.sl 103 y102) r0) : d28 a1 r0 = true /\ a1 <= (v28 a1 r0).1 /\ (v28 a1 r0).1 <= a1 + 35184394108928 := by
  have hlen := hr0.1
  have h := march_iter (A := Int × List (Ty.T y102)) (c := 0) (s := s28_0) (mk := fun a i => (a.1, 0, i, a.2, ())) (N := r0.length) (Inv := fun i a => a1 <= a.1 /\ a.1 <= a1 + 33554453 * i /\ a.2.length = r0.length /\ a.2.drop i = r0.drop i) (fun i a hi hI => by
    obtain ⟨k, r⟩ := a
    obtain ⟨e0, e1, e2, e3⟩ := hI
    simp only at e0 e1 e2 e3
    have hi' : i < r.length := by omega
    have hb1 : 33554453 * (i : Int) <= 35184394108928 - 33554453 := by omega
    have hx : Ty.short y102 (r[i]'hi') := by
      have h1 : r.drop i = (r[i]'hi') :: r.drop (i + 1) := List.drop_eq_getElem_cons hi'
      rw [h1] at e3
      exact hr0.2 _ (List.mem_of_mem_drop (e3 ▸ List.mem_cons_self))
    have m0 := mark89 (k + 1 + 1 + 1 + 1 + 1 + 1 + 1 + 1 + 1 + 1 + 1 + 1 + 1 + 1 + 1 + 1 + 1 + 1 + 1) (r[i]'hi').2.2.2.2.2.2.1.2.2.2.2.2.2 (by omega) (by omega) (hx.2.2.2.2.2.2.1.2.2.2.2.2.2.1)
    refine ⟨((v89 (k + 1 + 1 + 1 + 1 + 1 + 1 + 1 + 1 + 1 + 1 + 1 + 1 + 1 + 1 + 1 + 1 + 1 + 1 + 1) (r[i]'hi').2.2.2.2.2.2.1.2.2.2.2.2.2).1 + 1 + 1, r.set i ((k, (k + 1, (k + 1 + 1, (k + 1 + 1 + 1, ((k + 1 + 1 + 1 + 1, (k + 1 + 1 + 1 + 1 + 1, (k + 1 + 1 + 1 + 1 + 1 + 1, (k + 1 + 1 + 1 + 1 + 1 + 1 + 1, (k + 1 + 1 + 1 + 1 + 1 + 1 + 1 + 1, (k + 1 + 1 + 1 + 1 + 1 + 1 + 1 + 1 + 1, k + 1 + 1 + 1 + 1 + 1 + 1 + 1 + 1 + 1 + 1)))))), ((k + 1 + 1 + 1 + 1 + 1 + 1 + 1 + 1 + 1 + 1 + 1, k + 1 + 1 + 1 + 1 + 1 + 1 + 1 + 1 + 1 + 1 + 1 + 1), ((k + 1 + 1 + 1 + 1 + 1 + 1 + 1 + 1 + 1 + 1 + 1 + 1 + 1, (k + 1 + 1 + 1 + 1 + 1 + 1 + 1 + 1 + 1 + 1 + 1 + 1 + 1 + 1, (k + 1 + 1 + 1 + 1 + 1 + 1 + 1 + 1 + 1 + 1 + 1 + 1 + 1 + 1 + 1, (k + 1 + 1 + 1 + 1 + 1 + 1 + 1 + 1 + 1 + 1 + 1 + 1 + 1 + 1 + 1 + 1, (k + 1 + 1 + 1 + 1 + 1 + 1 + 1 + 1 + 1 + 1 + 1 + 1 + 1 + 1 + 1 + 1 + 1, ((Int.tmod (k + 1 + 1 + 1 + 1 + 1 + 1 + 1 + 1 + 1 + 1 + 1 + 1 + 1 + 1 + 1 + 1 + 1 + 1) 3 == 0), (v89 (k + 1 + 1 + 1 + 1 + 1 + 1 + 1 + 1 + 1 + 1 + 1 + 1 + 1 + 1 + 1 + 1 + 1 + 1 + 1) (r[i]'hi').2.2.2.2.2.2.1.2.2.2.2.2.2).2)))))), ((v89 (k + 1 + 1 + 1 + 1 + 1 + 1 + 1 + 1 + 1 + 1 + 1 + 1 + 1 + 1 + 1 + 1 + 1 + 1 + 1) (r[i]'hi').2.2.2.2.2.2.1.2.2.2.2.2.2).1, (v89 (k + 1 + 1 + 1 + 1 + 1 + 1 + 1 + 1 + 1 + 1 + 1 + 1 + 1 + 1 + 1 + 1 + 1 + 1 + 1) (r[i]'hi').2.2.2.2.2.2.1.2.2.2.2.2.2).1 + 1)))))))))), ?_, by simp only; have := m0.2.1; have := m0.2.2; omega, by simp only [Int.natCast_add, Int.mul_add]; have := m0.2.1; have := m0.2.2; omega, by simp only [List.length_set]; exact e2, ?_⟩
    · simp [s28_0, t28_0, e28_0, e28_1, e28_2, e28_3, e28_4, e28_5, e28_6, e28_7, e28_8, e28_9, e28_10, e28_11, e28_12, e28_13, e28_14, e28_15, e28_16, e28_17, e28_18, e28_19, e28_20, e28_21, e28_22, e28_23, e28_24, e28_25, e28_26, e28_27, e28_28, e28_29, e28_30, e28_31, e28_32, e28_33, e28_34, e28_35, e28_36, e28_37, e28_38, e28_39, e28_40, e28_41, e28_42, e28_43, optC_some, hi', m0.1, wrap_in (n := k + 1) (by omega) (by omega), wrap_in (n := k + 1 + 1) (by omega) (by omega), wrap_in (n := k + 1 + 1 + 1) (by omega) (by omega), wrap_in (n := k + 1 + 1 + 1 + 1) (by omega) (by omega), wrap_in (n := k + 1 + 1 + 1 + 1 + 1) (by omega) (by omega), wrap_in (n := k + 1 + 1 + 1 + 1 + 1 + 1) (by omega) (by omega), wrap_in (n := k + 1 + 1 + 1 + 1 + 1 + 1 + 1) (by omega) (by omega), wrap_in (n := k + 1 + 1 + 1 + 1 + 1 + 1 + 1 + 1) (by omega) (by omega), wrap_in (n := k + 1 + 1 + 1 + 1 + 1 + 1 + 1 + 1 + 1) (by omega) (by omega), wrap_in (n := k + 1 + 1 + 1 + 1 + 1 + 1 + 1 + 1 + 1 + 1) (by omega) (by omega), wrap_in (n := k + 1 + 1 + 1 + 1 + 1 + 1 + 1 + 1 + 1 + 1 + 1) (by omega) (by omega), wrap_in (n := k + 1 + 1 + 1 + 1 + 1 + 1 + 1 + 1 + 1 + 1 + 1 + 1) (by omega) (by omega), wrap_in (n := k + 1 + 1 + 1 + 1 + 1 + 1 + 1 + 1 + 1 + 1 + 1 + 1 + 1) (by omega) (by omega), wrap_in (n := k + 1 + 1 + 1 + 1 + 1 + 1 + 1 + 1 + 1 + 1 + 1 + 1 + 1 + 1) (by omega) (by omega), wrap_in (n := k + 1 + 1 + 1 + 1 + 1 + 1 + 1 + 1 + 1 + 1 + 1 + 1 + 1 + 1 + 1) (by omega) (by omega), wrap_in (n := k + 1 + 1 + 1 + 1 + 1 + 1 + 1 + 1 + 1 + 1 + 1 + 1 + 1 + 1 + 1 + 1) (by omega) (by omega), wrap_in (n := k + 1 + 1 + 1 + 1 + 1 + 1 + 1 + 1 + 1 + 1 + 1 + 1 + 1 + 1 + 1 + 1 + 1) (by omega) (by omega), wrap_in (n := k + 1 + 1 + 1 + 1 + 1 + 1 + 1 + 1 + 1 + 1 + 1 + 1 + 1 + 1 + 1 + 1 + 1 + 1) (by omega) (by omega), wrap_in (n := k + 1 + 1 + 1 + 1 + 1 + 1 + 1 + 1 + 1 + 1 + 1 + 1 + 1 + 1 + 1 + 1 + 1 + 1 + 1) (by omega) (by omega), wrap_in (n := (v89 (k + 1 + 1 + 1 + 1 + 1 + 1 + 1 + 1 + 1 + 1 + 1 + 1 + 1 + 1 + 1 + 1 + 1 + 1 + 1) (r[i]'hi').2.2.2.2.2.2.1.2.2.2.2.2.2).1 + 1) (by have := m0.2.1; have := m0.2.2; omega) (by have := m0.2.1; have := m0.2.2; omega), wrap_in (n := (v89 (k + 1 + 1 + 1 + 1 + 1 + 1 + 1 + 1 + 1 + 1 + 1 + 1 + 1 + 1 + 1 + 1 + 1 + 1 + 1) (r[i]'hi').2.2.2.2.2.2.1.2.2.2.2.2.2).1 + 1 + 1) (by have := m0.2.1; have := m0.2.2; omega) (by have := m0.2.1; have := m0.2.2; omega), wrap_nat (n := i) (by omega)]
    · simp only [List.drop_set_of_lt (Nat.lt_succ_self i)]
      have h2 := congrArg (List.drop 1) e3
      rwa [List.drop_drop, List.drop_drop] at h2) (fun a hI => by
    obtain ⟨k, r⟩ := a
    obtain ⟨e0, e1, e2, e3⟩ := hI
    simp only at e2
    simp [s28_0, t28_0, e2]) r0.length 0 (a1, r0) (n28_0 (a1, 0, 0, r0, ())) (by omega) (by simp only [n28_0]; omega) ⟨by simp, by simp, rfl, rfl⟩
  obtain ⟨⟨k', r'⟩, hi, e0, e1, e2, e3⟩ := h
  have ek : k28_0 a1 0 0 r0 0 = true := at_of hi 0
  have ew : w28_0 a1 0 0 r0 = _ := val_of hi
  unfold d28 v28
  rw [ek, ew]
  simp only at e0 e1
  refine ⟨rfl, ?_, ?_⟩
  · show a1 <= k'
    omega
  · show k' <= a1 + 35184394108928
    omega
theorem mark71 (a1 : Int) (r0 : List (Ty.T y105)) (hk : 0 <= a1) (hk2 : a1 <= 1152851135838552064) (hr0 : Ty.short (.sl 106 y105) r0) : d71 a1 r0 = true /\ a1 <= (v71 a1 r0).1 /\ (v71 a1 r0).1 <= a1 + 70368768294912 := by
  have hlen := hr0.1
  have h := march_iter (A := Int × List (Ty.T y105)) (c := 0) (s := s71_0) (mk := fun a i => (a.1, 0, i, a.2, ())) (N := r0.length) (Inv := fun i a => a1 <= a.1 /\ a.1 <= a1 + 67108887 * i /\ a.2.length = r0.length /\ a.2.drop i = r0.drop i) (fun i a hi hI => by
    obtain ⟨k, r⟩ := a
    obtain ⟨e0, e1, e2, e3⟩ := hI
    simp only at e0 e1 e2 e3
    have hi' : i < r.length := by omega
    have hb1 : 67108887 * (i : Int) <= 70368768294912 - 67108887 := by omega
    have hx : Ty.short y105 (r[i]'hi') := by
      have h1 : r.drop i = (r[i]'hi') :: r.drop (i + 1) := List.drop_eq_getElem_cons hi'
      rw [h1] at e3
      exact hr0.2 _ (List.mem_of_mem_drop (e3 ▸ List.mem_cons_self))
    have m0 := mark89 (k + 1 + 1 + 1 + 1 + 1 + 1 + 1 + 1 + 1 + 1 + 1 + 1 + 1 + 1 + 1 + 1 + 1 + 1 + 1 + 1) (r[i]'hi').2.1.2.2.2.2.2.2.1.2.2.2.2.2.2 (by omega) (by omega) (hx.2.1.2.2.2.2.2.2.1.2.2.2.2.2.2.1)
    have m1 := mark89 ((v89 (k + 1 + 1 + 1 + 1 + 1 + 1 + 1 + 1 + 1 + 1 + 1 + 1 + 1 + 1 + 1 + 1 + 1 + 1 + 1 + 1) (r[i]'hi').2.1.2.2.2.2.2.2.1.2.2.2.2.2.2).1 + 1 + 1 + 1) (r[i]'hi').2.2.2 (by have := m0.2.1; have := m0.2.2; omega) (by have := m0.2.1; have := m0.2.2; omega) (hx.2.2.2.1)
    refine ⟨((v89 ((v89 (k + 1 + 1 + 1 + 1 + 1 + 1 + 1 + 1 + 1 + 1 + 1 + 1 + 1 + 1 + 1 + 1 + 1 + 1 + 1 + 1) (r[i]'hi').2.1.2.2.2.2.2.2.1.2.2.2.2.2.2).1 + 1 + 1 + 1) (r[i]'hi').2.2.2).1, r.set i ((k, ((k + 1, (k + 1 + 1, (k + 1 + 1 + 1, (k + 1 + 1 + 1 + 1, ((k + 1 + 1 + 1 + 1 + 1, (k + 1 + 1 + 1 + 1 + 1 + 1, (k + 1 + 1 + 1 + 1 + 1 + 1 + 1, (k + 1 + 1 + 1 + 1 + 1 + 1 + 1 + 1, (k + 1 + 1 + 1 + 1 + 1 + 1 + 1 + 1 + 1, (k + 1 + 1 + 1 + 1 + 1 + 1 + 1 + 1 + 1 + 1, k + 1 + 1 + 1 + 1 + 1 + 1 + 1 + 1 + 1 + 1 + 1)))))), ((k + 1 + 1 + 1 + 1 + 1 + 1 + 1 + 1 + 1 + 1 + 1 + 1, k + 1 + 1 + 1 + 1 + 1 + 1 + 1 + 1 + 1 + 1 + 1 + 1 + 1), ((k + 1 + 1 + 1 + 1 + 1 + 1 + 1 + 1 + 1 + 1 + 1 + 1 + 1 + 1, (k + 1 + 1 + 1 + 1 + 1 + 1 + 1 + 1 + 1 + 1 + 1 + 1 + 1 + 1 + 1, (k + 1 + 1 + 1 + 1 + 1 + 1 + 1 + 1 + 1 + 1 + 1 + 1 + 1 + 1 + 1 + 1, (k + 1 + 1 + 1 + 1 + 1 + 1 + 1 + 1 + 1 + 1 + 1 + 1 + 1 + 1 + 1 + 1 + 1, (k + 1 + 1 + 1 + 1 + 1 + 1 + 1 + 1 + 1 + 1 + 1 + 1 + 1 + 1 + 1 + 1 + 1 + 1, ((Int.tmod (k + 1 + 1 + 1 + 1 + 1 + 1 + 1 + 1 + 1 + 1 + 1 + 1 + 1 + 1 + 1 + 1 + 1 + 1 + 1) 3 == 0), (v89 (k + 1 + 1 + 1 + 1 + 1 + 1 + 1 + 1 + 1 + 1 + 1 + 1 + 1 + 1 + 1 + 1 + 1 + 1 + 1 + 1) (r[i]'hi').2.1.2.2.2.2.2.2.1.2.2.2.2.2.2).2)))))), ((v89 (k + 1 + 1 + 1 + 1 + 1 + 1 + 1 + 1 + 1 + 1 + 1 + 1 + 1 + 1 + 1 + 1 + 1 + 1 + 1 + 1) (r[i]'hi').2.1.2.2.2.2.2.2.1.2.2.2.2.2.2).1, (v89 (k + 1 + 1 + 1 + 1 + 1 + 1 + 1 + 1 + 1 + 1 + 1 + 1 + 1 + 1 + 1 + 1 + 1 + 1 + 1 + 1) (r[i]'hi').2.1.2.2.2.2.2.2.1.2.2.2.2.2.2).1 + 1)))))))), ((v89 (k + 1 + 1 + 1 + 1 + 1 + 1 + 1 + 1 + 1 + 1 + 1 + 1 + 1 + 1 + 1 + 1 + 1 + 1 + 1 + 1) (r[i]'hi').2.1.2.2.2.2.2.2.1.2.2.2.2.2.2).1 + 1 + 1, (v89 ((v89 (k + 1 + 1 + 1 + 1 + 1 + 1 + 1 + 1 + 1 + 1 + 1 + 1 + 1 + 1 + 1 + 1 + 1 + 1 + 1 + 1) (r[i]'hi').2.1.2.2.2.2.2.2.1.2.2.2.2.2.2).1 + 1 + 1 + 1) (r[i]'hi').2.2.2).2))))), ?_, by simp only; have := m0.2.1; have := m0.2.2; have := m1.2.1; have := m1.2.2; omega, by simp only [Int.natCast_add, Int.mul_add]; have := m0.2.1; have := m0.2.2; have := m1.2.1; have := m1.2.2; omega, by simp only [List.length_set]; exact e2, ?_⟩
    · simp [s71_0, t71_0, e71_0, e71_1, e71_2, e71_3, e71_4, e71_5, e71_6, e71_7, e71_8, e71_9, e71_10, e71_11, e71_12, e71_13, e71_14, e71_15, e71_16, e71_17, e71_18, e71_19, e71_20, e71_21, e71_22, e71_23, e71_24, e71_25, e71_26, e71_27, e71_28, e71_29, e71_30, e71_31, e71_32, e71_33, e71_34, e71_35, e71_36, e71_37, e71_38, e71_39, e71_40, e71_41, e71_42, e71_43, e71_44, e71_45, e71_46, e71_47, e71_48, e71_49, e71_50, e71_51, optC_some, hi', m0.1, m1.1, wrap_in (n := k + 1) (by omega) (by omega), wrap_in (n := k + 1 + 1) (by omega) (by omega), wrap_in (n := k + 1 + 1 + 1) (by omega) (by omega), wrap_in (n := k + 1 + 1 + 1 + 1) (by omega) (by omega), wrap_in (n := k + 1 + 1 + 1 + 1 + 1) (by omega) (by omega), wrap_in (n := k + 1 + 1 + 1 + 1 + 1 + 1) (by omega) (by omega), wrap_in (n := k + 1 + 1 + 1 + 1 + 1 + 1 + 1) (by omega) (by omega), wrap_in (n := k + 1 + 1 + 1 + 1 + 1 + 1 + 1 + 1) (by omega) (by omega), wrap_in (n := k + 1 + 1 + 1 + 1 + 1 + 1 + 1 + 1 + 1) (by omega) (by omega), wrap_in (n := k + 1 + 1 + 1 + 1 + 1 + 1 + 1 + 1 + 1 + 1) (by omega) (by omega), wrap_in (n := k + 1 + 1 + 1 + 1 + 1 + 1 + 1 + 1 + 1 + 1 + 1) (by omega) (by omega), wrap_in (n := k + 1 + 1 + 1 + 1 + 1 + 1 + 1 + 1 + 1 + 1 + 1 + 1) (by omega) (by omega), wrap_in (n := k + 1 + 1 + 1 + 1 + 1 + 1 + 1 + 1 + 1 + 1 + 1 + 1 + 1) (by omega) (by omega), wrap_in (n := k + 1 + 1 + 1 + 1 + 1 + 1 + 1 + 1 + 1 + 1 + 1 + 1 + 1 + 1) (by omega) (by omega), wrap_in (n := k + 1 + 1 + 1 + 1 + 1 + 1 + 1 + 1 + 1 + 1 + 1 + 1 + 1 + 1 + 1) (by omega) (by omega), wrap_in (n := k + 1 + 1 + 1 + 1 + 1 + 1 + 1 + 1 + 1 + 1 + 1 + 1 + 1 + 1 + 1 + 1) (by omega) (by omega), wrap_in (n := k + 1 + 1 + 1 + 1 + 1 + 1 + 1 + 1 + 1 + 1 + 1 + 1 + 1 + 1 + 1 + 1 + 1) (by omega) (by omega), wrap_in (n := k + 1 + 1 + 1 + 1 + 1 + 1 + 1 + 1 + 1 + 1 + 1 + 1 + 1 + 1 + 1 + 1 + 1 + 1) (by omega) (by omega), wrap_in (n := k + 1 + 1 + 1 + 1 + 1 + 1 + 1 + 1 + 1 + 1 + 1 + 1 + 1 + 1 + 1 + 1 + 1 + 1 + 1) (by omega) (by omega), wrap_in (n := k + 1 + 1 + 1 + 1 + 1 + 1 + 1 + 1 + 1 + 1 + 1 + 1 + 1 + 1 + 1 + 1 + 1 + 1 + 1 + 1) (by omega) (by omega), wrap_in (n := (v89 (k + 1 + 1 + 1 + 1 + 1 + 1 + 1 + 1 + 1 + 1 + 1 + 1 + 1 + 1 + 1 + 1 + 1 + 1 + 1 + 1) (r[i]'hi').2.1.2.2.2.2.2.2.1.2.2.2.2.2.2).1 + 1) (by have := m0.2.1; have := m0.2.2; omega) (by have := m0.2.1; have := m0.2.2; omega), wrap_in (n := (v89 (k + 1 + 1 + 1 + 1 + 1 + 1 + 1 + 1 + 1 + 1 + 1 + 1 + 1 + 1 + 1 + 1 + 1 + 1 + 1 + 1) (r[i]'hi').2.1.2.2.2.2.2.2.1.2.2.2.2.2.2).1 + 1 + 1) (by have := m0.2.1; have := m0.2.2; omega) (by have := m0.2.1; have := m0.2.2; omega), wrap_in (n := (v89 (k + 1 + 1 + 1 + 1 + 1 + 1 + 1 + 1 + 1 + 1 + 1 + 1 + 1 + 1 + 1 + 1 + 1 + 1 + 1 + 1) (r[i]'hi').2.1.2.2.2.2.2.2.1.2.2.2.2.2.2).1 + 1 + 1 + 1) (by have := m0.2.1; have := m0.2.2; omega) (by have := m0.2.1; have := m0.2.2; omega), wrap_nat (n := i) (by omega)]
    · simp only [List.drop_set_of_lt (Nat.lt_succ_self i)]
      have h2 := congrArg (List.drop 1) e3
      rwa [List.drop_drop, List.drop_drop] at h2) (fun a hI => by
    obtain ⟨k, r⟩ := a
    obtain ⟨e0, e1, e2, e3⟩ := hI
    simp only at e2
    simp [s71_0, t71_0, e2]) r0.length 0 (a1, r0) (n71_0 (a1, 0, 0, r0, ())) (by omega) (by simp only [n71_0]; omega) ⟨by simp, by simp, rfl, rfl⟩
  obtain ⟨⟨k', r'⟩, hi, e0, e1, e2, e3⟩ := h
  have ek : k71_0 a1 0 0 r0 0 = true := at_of hi 0
  have ew : w71_0 a1 0 0 r0 = _ := val_of hi
  unfold d71 v71
  rw [ek, ew]
  simp only at e0 e1
  refine ⟨rfl, ?_, ?_⟩
  · show a1 <= k'
    omega
  · show k' <= a1 + 70368768294912
    omega
theorem mark72 (a1 : Int) (r0 : List (Ty.T (.int .i64))) (hk : 0 <= a1) (hk2 : a1 <= 1152921504606846976) (hr0 : r0.length <= 1048576) : d72 a1 r0 = true /\ a1 <= (v72 a1 r0).1 /\ (v72 a1 r0).1 <= a1 + 33554432 := by
  have h := march_iter (A := Int × List (Ty.T (.int .i64))) (c := 0) (s := s72_0) (mk := fun a i => (a.1, 0, i, a.2, ())) (N := r0.length) (Inv := fun i a => a.1 = a1 + 1 * i /\ a.2.length = r0.length) (fun i a hi hI => by
    obtain ⟨k, r⟩ := a
    obtain ⟨e1, e2⟩ := hI
    simp only at e1 e2
    have hi' : i < r.length := by omega
    refine ⟨(k + 1, r.set i (k)), ?_, by simp only; omega, by simp only [List.length_set]; exact e2⟩
    simp [s72_0, t72_0, optC_some, hi', wrap_in (n := k + 1) (by omega) (by omega), wrap_nat (n := i) (by omega)]) (fun a hI => by
    obtain ⟨k, r⟩ := a
    obtain ⟨e1, e2⟩ := hI
    simp only at e2
    simp [s72_0, t72_0, e2]) r0.length 0 (a1, r0) (n72_0 (a1, 0, 0, r0, ())) (by omega) (by simp only [n72_0]; omega) ⟨by simp, rfl⟩
  obtain ⟨⟨k', r'⟩, hi, e1, e2⟩ := h
  have ek : k72_0 a1 0 0 r0 0 = true := at_of hi 0
  have ew : w72_0 a1 0 0 r0 = _ := val_of hi
  unfold d72 v72
  rw [ek, ew]
  simp only at e1
  refine ⟨rfl, ?_, ?_⟩
  · show a1 <= k'
    omega
  · show k' <= a1 + 33554432
    omega
theorem mark14 (a0_2 : Int) (a0_3 : Int) (a1 : Int) (r0 : List (Ty.T y179)) (r1 : List (Ty.T y181)) (r4 : List (Ty.T y102)) (r5 : List (Ty.T y105)) (r6 : List (Ty.T (.int .i64))) (hk : 0 <= a1) (hk2 : a1 <= 1152815951377334272) (hr0 : r0.length <= 1048576) (hr1 : r1.length <= 1048576) (hr4 : Ty.short (.sl 103 y102) r4) (hr5 : Ty.short (.sl 106 y105) r5) (hr6 : r6.length <= 1048576) : d14 a0_2 a0_3 a1 r0 r1 r4 r5 r6 = true /\ a1 <= (v14 a0_2 a0_3 a1 r0 r1 r4 r5 r6).1 /\ (v14 a0_2 a0_3 a1 r0 r1 r4 r5 r6).1 <= a1 + 105553263067136 := by
  have m0 := mark27 a0_2 a0_3 a1 r0 r1 (by omega) (by omega) hr0 hr1
  have m1 := mark28 (v27 a0_2 a0_3 a1 r0 r1).1 r4 (by have := m0.2.1; have := m0.2.2; omega) (by have := m0.2.1; have := m0.2.2; omega) hr4
  have m2 := mark71 (v28 (v27 a0_2 a0_3 a1 r0 r1).1 r4).1 r5 (by have := m0.2.1; have := m0.2.2; have := m1.2.1; have := m1.2.2; omega) (by have := m0.2.1; have := m0.2.2; have := m1.2.1; have := m1.2.2; omega) hr5
  have m3 := mark72 (v71 (v28 (v27 a0_2 a0_3 a1 r0 r1).1 r4).1 r5).1 r6 (by have := m0.2.1; have := m0.2.2; have := m1.2.1; have := m1.2.2; have := m2.2.1; have := m2.2.2; omega) (by have := m0.2.1; have := m0.2.2; have := m1.2.1; have := m1.2.2; have := m2.2.1; have := m2.2.2; omega) hr6
  unfold d14 v14
  rw [m0.1, m1.1, m2.1, m3.1]
  simp only [cond_true]
  refine ⟨trivial, ?_, ?_⟩ <;> (have := m0.2.1; have := m0.2.2; have := m1.2.1; have := m1.2.2; have := m2.2.1; have := m2.2.2; have := m3.2.1; have := m3.2.2; omega)
theorem law (a0 : Ty.T y29) (w0 : Ty.ok y29 a0) : d3 a0 = true /\ v3 a0 = true := by
  unfold d3 v3
  have y0 := sz8 a0 w0 1048576 (by omega) (by omega)
  rw [y0.1]
  have z0 := y0.2
  by_cases g0 : v8 a0 1048576 < 0
  · rw [decide_eq_true g0]; exact ⟨rfl, rfl⟩
  · rw [decide_eq_false g0]
    have s0 := z0.2 (by omega)
    have t0_10 := to10 a0 s0
    have q0_13 := eq13 a0 s0
    have ms := psS a0 s0.1.1.1 s0.1.2.1.1 s0.2.1.1 (fun x hx => (s0.2.1.2 x hx).2.2.2.2.2.2.1.2.2.2.2.2.2.1) s0.2.2.1.1 (fun x hx => ⟨(s0.2.2.1.2 x hx).2.1.2.2.2.2.2.2.1.2.2.2.2.2.2.1, (s0.2.2.1.2 x hx).2.2.2.1⟩) s0.2.2.2.1
    have mi := psI a0 s0.1.1.1 s0.1.2.1.1 s0.2.1.1 (fun x hx => (s0.2.1.2 x hx).2.2.2.2.2.2.1.2.2.2.2.2.2.1) s0.2.2.1.1 (fun x hx => ⟨(s0.2.2.1.2 x hx).2.1.2.2.2.2.2.2.1.2.2.2.2.2.2.1, (s0.2.2.1.2 x hx).2.2.2.1⟩) s0.2.2.2.1
    have pl := psLen a0 s0.1.1.1 s0.1.2.1.1 s0.2.1.1 (fun x hx => (s0.2.1.2 x hx).2.2.2.2.2.2.1.2.2.2.2.2.2.1) s0.2.2.1.1 (fun x hx => ⟨(s0.2.2.1.2 x hx).2.1.2.2.2.2.2.2.1.2.2.2.2.2.2.1, (s0.2.2.1.2 x hx).2.2.2.1⟩) s0.2.2.2.1
    have mt := mark14 a0.1.2.2.1 a0.1.2.2.2 1 a0.1.1 a0.1.2.1 a0.2.1 a0.2.2.1 a0.2.2.2 (by omega) (by omega) s0.1.1.1 s0.1.2.1.1 s0.2.1 s0.2.2.1 s0.2.2.2.1
    have k1 : decide ((v14 a0.1.2.2.1 a0.1.2.2.2 1 a0.1.1 a0.1.2.1 a0.2.1 a0.2.2.1 a0.2.2.2).1 < (0 : Int)) = false := decide_eq_false (by have := mt.2; omega)
    have q := same12 (PS a0) (PS a0) (by omega)
    have m1 := markB 1 (PS a0) (by omega) (by omega) (by omega)
    have m2 := heldB 1 (PS a0).length (by omega) (by omega) (by omega)
    simp only [t0_10.1, t0_10.2, pair_eta, q0_13.1, q0_13.2, ms.1, ms.2, e3_0, e3_1, e3_2, e3_3, e3_4, e3_5, e3_6, e3_7, g3_0, c3_0, t3_0, mi.1, mi.2, mt.1, k1, q.1, q.2, m1.1, m1.2, m2.1, m2.2]
    simp <;> omega
end Go.Proofs.YtcddhifkfakcjaaGreat.Vm
namespace Go.Proofs.YtcddhifkfakcjaaGreat.Pure
open Go Go.Proofs.YtcddhifkfakcjaaGreat.Lib Go.Proofs.YtcddhifkfakcjaaGreat.Vm
theorem fnExactPutScript : Go.Proofs.YtcddhifkfakcjaaGreat.fnExactPutScript.Pure := fun a0 w0 => by
  have h := law a0 w0
  show cond (d3 a0) (some (f3 (v3 a0))) none = _
  rw [h.1, h.2]
  rfl
end Go.Proofs.YtcddhifkfakcjaaGreat.Pure
