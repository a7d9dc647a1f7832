import Derived.Test.YthaiejfjnllglaaGreatDoorRDF
import Derived.Test.YthaiejfjnllglaaGreatDoorRDD
import Derived.Test.YthaiejfjnllglaaGreatDoorRDG
import Derived.Test.YthaiejfjnllglaaGreatDoorRDE
import Derived.Test.YthaiejfjnllglaaGreatDoorRDB
import Derived.Test.YthaiejfjnllglaaGreatDoorRDC
import Derived.Shelf.SlLaysF0
set_option maxRecDepth 100000
set_option maxHeartbeats 16000000
namespace Go.Proofs.YthaiejfjnllglaaGreatDoor
section
open Go Go.AM
theorem eE (z : Int) (jz : bC z) :
  aF Tryz.prog 70 [Z z] (I z) := by
 refine aK Tryz.func70 rfl rfl rfl rfl ?_
 refine ae hP<|an ai (ay hT rfl rfl)<|ag<|ae hP<|aj rfl<|ab (ah (ei z jz)) ?_
 refine aD hT rfl rfl rfl rfl rfl rfl rfl<|ag<|am<|E2 hT rfl rfl rfl rfl rfl rfl rfl ?_
 exact .refl _
theorem kI (D : Int) (m : Nat) (hD : -4194304 ≤ D ∧ D < 0) (hm : 1 ≤ m ∧ m ≤ 65536) :
  Iter2 Tryz.prog 179 [[.v (.int .i64 (m : Int))], [zn D, zm D]] ((rbL D m).map fun b => [PI b, PF (frq D m b)]) := by
 have hDL : L 40 D := (show L 6 D by unfold L; omega).mono (by decide)
 have iD : LB D 6 := ⟨by unfold L; omega⟩
 have i4 : LB (4 * (m : Int)) 6 := ⟨by unfold L; omega⟩
 have im : LB (m : Int) 6 := ⟨by unfold L; omega⟩
 have r1 := Int.emod_nonneg D (show 4 * (m : Int) ≠ 0 by omega)
 have r2 := Int.emod_lt_of_pos D (show (0 : Int) < 4 * (m : Int) by omega)
 have cMd := Jf D (4 * (m : Int)) hDL ((show L 6 (4 * (m : Int)) by unfold L; omega).mono (by decide)) (by omega)
 have cLw := jo (D % (4 * (m : Int))) (by omega) (by omega)
 have c4 := ei (4 * (m : Int)) (by unfold bC; omega)
 have cm := eE (m : Int) (by unfold bC; omega)
 generalize hxs : ((rbL D m).map fun b => [PI b, PF (frq D m b)]) = xs
 refine mW Tryz.func179 (by kernel_rfl) rfl rfl (Nat.le_of_ble_eq_true rfl) rfl ?_
 intro l n0 J hK
 refine wB hK.toKeepsB ?_
 refine bM ?_
 refine bA hP ?_
 refine ab (aS hT rfl rfl rfl (by first | rfl | exact ce (by omega))) ?_
 refine ab (bX rfl rfl (by first | exact IntWalk.i64_in _ (by omega) | rfl)) ?_
 refine ak rfl<|ag<|bM ?_
 refine bA hP ?_
 refine ab (a6 hT rfl rfl rfl (cs := [_, _]) rfl rfl)<|aj rfl<|ab (ah c4) ?_
 refine ab (ah cMd) ?_
 refine ab (az (rfl : _ = AV.t _))<|ab (aC rfl (v := .a _) rfl)<|ab (aC rfl (v := .c _) rfl)<|an ai (ay hT rfl rfl)<|aD hT rfl rfl rfl rfl rfl rfl rfl<|ak rfl<|ag<|bM ?_
 refine bA hP ?_
 refine au hT rfl rfl rfl rfl rfl rfl<|ab (ah cLw) ?_
 refine ab (az (rfl : _ = AV.t _))<|ab (aC rfl (v := .c _) rfl)<|ab (aC rfl (v := .c _) rfl)<|ak rfl<|ak rfl<|ag<|bM ?_
 refine bA hP ?_
 refine ab (aS hT rfl rfl rfl (by first | rfl | exact ce (by omega))) ?_
 refine ab (bX rfl rfl (by first | exact IntWalk.i64_in _ (by omega) | rfl)) ?_
 refine aj rfl<|ag<|ej ?_
 refine kx (ι := Nat) (fun i => stL [(0, .p (.c (.v (.func (.yield l) #[] #[])))), (1, .ip [.v (.int .i64 (m : Int))]), (2, .ip [zn D, zm D]), (4, Z (4 * (m : Int))), (7, Z (D % (4 * (m : Int)))), (29, Z (2 * (m : Int))), (30, Z (i : Int))] []) (fun i => (rbT D m i).length) (fun i => (i : Int) ≤ 2 * (m : Int)) (fun i => (2 * m) - i) 0 (by omega) rfl (aE ⟨.refl _, .refl _, .refl _, .refl _, .refl _, .refl _, .refl _, trivial⟩ trivial) ?_
 intro i hi
 refine bM ?_
 refine bA hP ?_
 refine ab (bi rfl rfl)<|ag<|bM ?_
 refine dY rfl (fun hb1 => ?_) (fun hb1 => ?_)
 ·have hb1_ := of_decide_eq_true hb1
  have hsq := lx (x := (i : Int)) (m := 131073) (by omega)
  have isq : LB ((i : Int) * (i : Int)) 6 := ⟨by unfold L; omega⟩
  have ii : LB (i : Int) 6 := ⟨by unfold L; omega⟩
  refine dJ ?_
  refine bM ?_
  refine ej ?_
  refine bM ?_
  refine bA hP ?_
  refine aj rfl<|ak rfl<|ag<|bM ?_
  refine bM ?_
  refine bA hP ?_
  refine aj rfl<|aj rfl<|ab (bX rfl rfl (by first | exact IntWalk.i64_in _ (by omega) | rfl)) ?_
  refine aj rfl<|ab (b7 rfl rfl (by omega) (c := (i : Int) * (i : Int) % (4 * (m : Int))) (Int.tmod_eq_emod_of_nonneg (by omega))) ?_
  refine aj rfl<|ab (bB rfl rfl)<|ag ?_
  refine dY rfl (fun hb2 => ?_) (fun hb2 => ?_)
  ·have hb2_ := cy hb2
   refine iE ?_
   refine bA hP ?_
   refine bI rfl rfl ?_
   refine aj rfl<|ag ?_
   refine ⟨i + 1, by omega, by omega, wX (D9 hb2_), aE ⟨.refl _, .refl _, .refl _, .refl _, .refl _, .refl _, aJ (by omega), trivial⟩ trivial⟩
  have hb2_ := cf hb2
  refine dJ ?_
  refine bM ?_
  refine bA hP ?_
  refine aj rfl<|aj rfl<|ab (bX rfl rfl (by first | exact IntWalk.i64_in _ (by omega) | rfl)) ?_
  refine ab (ah (ei ((i : Int) * (i : Int)) (by unfold bC; omega))) ?_
  refine ab (a6 hT rfl rfl rfl (cs := [_, _]) rfl rfl)<|ab (ah (jj ((i : Int) * (i : Int)) D lz lz)) ?_
  refine aj rfl<|ab (ah c4) ?_
  refine ab (ah (dK ((i : Int) * (i : Int) - D) (4 * (m : Int)) lz lz (by omega))) ?_
  refine ab (az (rfl : _ = AV.t _))<|ab (aC rfl (v := .a _) rfl)<|ab (aC rfl (v := .a _) rfl)<|ab (aC rfl (v := .c _) rfl)<|an ai (ay hT rfl rfl)<|an ai (ay hT rfl rfl)<|aD hT rfl rfl rfl rfl rfl rfl rfl<|aD hT rfl rfl rfl rfl rfl rfl rfl<|ak rfl<|ag<|bM ?_
  refine bA hP ?_
  refine ab (aS hT rfl rfl rfl (by first | rfl | exact ce (by omega))) ?_
  refine ab (ah cm) ?_
  refine aj rfl<|ab (ah (ei (i : Int) (by unfold bC; omega))) ?_
  refine au hT rfl rfl rfl rfl rfl rfl<|ab (aV hT rfl rfl rfl (es := [_, _, _, _, _, _]) rfl)<|an ai (ay hT rfl rfl)<|aD hT rfl rfl rfl rfl rfl rfl rfl<|ag<|bM ?_
  refine lc ?_
  refine RY.val ai (aL hT rfl rfl rfl rfl (cs := [_, _, _, _, _, _]) rfl rfl) ?_
  refine RY.val ai (ah (jW (m : Int) (i : Int) (((i : Int) * (i : Int) - D) / (4 * (m : Int))) lz lz lz)) ?_
  refine RY.val ai (az (rfl : _ = AV.p (.c _))) ?_
  refine RY.split (t := 61) rfl (fun hg3 => ?_) (fun hg3 => ?_)
  ·have hyes := D7 hb2_ hg3
   have hgt : xs[(rbT D m i).length]? = some [PI (i : Int), PF (frq D m (i : Int))] := by rw [← hxs, List.getElem?_map, C7 hyes (by omega)]; rfl
   refine RY.val (aW rfl rfl hg3) (az (rfl : _ = AV.p (.c _))) ?_
   refine RY.val (aW rfl rfl hg3) (aR hT rfl rfl rfl rfl rfl rfl) ?_
   refine RY.val (aW rfl rfl hg3) (aL hT rfl rfl rfl rfl (cs := [_, _]) rfl rfl) ?_
   refine RY.val (aW rfl rfl hg3) (aL hT rfl rfl rfl rfl (cs := [_, _, _, _, _, _]) rfl rfl) ?_
   refine RY.yield hK (aW rfl rfl hg3) rfl rfl hgt ?_
   intro b
   refine RY.val (aW rfl rfl hg3) (bE rfl) ?_
   refine RY.val ai (aO rfl hg3 (rfl : _ = AV.p (.c _))) ?_
   refine RY.done ?_
   refine dY rfl (fun hb4 => ?_) (fun hb4 => ?_)
   ·have hb4_ := (cB hb4)
    refine l4 ?_
    refine ⟨.inr rfl, ?_⟩
    exact vG (cB hb4)
   have hb4_ := (cq hb4)
   refine dJ ?_
   refine bA hP ?_
   refine bI rfl rfl ?_
   refine aj rfl<|ag ?_
   refine ⟨i + 1, by omega, by omega, (C5 hyes).trans (vF (cq hb4)).symm, aE ⟨.refl _, .refl _, .refl _, .refl _, .refl _, .refl _, aJ (by omega), trivial⟩ trivial⟩
  iterate 6 refine RY.skip (jG rfl rfl hg3) ?_
  refine RY.val ai (aN rfl hg3 (rfl : _ = AV.p (.c _))) ?_
  refine RY.done ?_
  refine iV rfl rfl ?_
  refine dJ ?_
  refine bA hP ?_
  refine bI rfl rfl ?_
  refine aj rfl<|ag ?_
  refine ⟨i + 1, by omega, by omega, wX (D8 hg3), aE ⟨.refl _, .refl _, .refl _, .refl _, .refl _, .refl _, aJ (by omega), trivial⟩ trivial⟩
 have hb1_ := of_decide_eq_false hb1
 refine iE ?_
 refine ⟨.inl rfl, ?_⟩
 have e : i = 2 * m := by omega
 subst e
 rw [← hxs, List.length_map, ← tY, show (2 * (m : Int)).toNat = 2 * m by omega]
 exact Nat.le_refl _
theorem mg (D : Int) (m : Nat) :
  aF Tryz.prog 127 [I D, Z (m : Int)] (.fn 179 [[.v (.int .i64 (m : Int))], [zn D, zm D]]) := by
 refine kX Tryz.func127 (by kernel_rfl) rfl rfl (Nat.le_of_ble_eq_true rfl) rfl ?_
 refine ae hP<|an ai (aI rfl rfl)<|an ai (aI rfl rfl)<|ak rfl<|ag<|cL (t := 2) rfl rfl ?_
 refine cL (t := 3) rfl rfl ?_
 refine ae hP<|ab (jB rfl rfl)<|ab (bn (rfl : _ = AV.fn _ _))<|ag<|am ?_
 exact ⟨.inr rfl, 4, rfl, rfl⟩
theorem pz (D : Int) (m : Nat) (hD : -4194304 ≤ D ∧ D < 0) (hm : 1 ≤ m ∧ m ≤ 65536) :
  aF Tryz.prog 69 [I D, Z (m : Int)] (B (decide (rbL D (m : Int) = []))) := by
 refine aK Tryz.func69 rfl rfl rfl rfl ?_
 refine ae hP<|an ai (aI rfl rfl)<|an ai (ay hT rfl rfl)<|ag<|ao<|ae hP<|au hT rfl rfl rfl rfl rfl rfl<|aj rfl<|ab (ah (mg D m)) ?_
 refine ag<|aA<|dE (t := stL [(4, .loc 4 0), (7, .fn 179 [[.v (.int .i64 (m : Int))], [zn D, zm D]])] [(4, ⟨false, 1, 4, [.v (.bool false)]⟩)]) (aE ⟨.refl _, .refl _, trivial⟩ ⟨rfl, trivial⟩) ?_
 refine fg 5 (fun _ => cO [(4, ⟨false, 1, 4, [.v (.bool false)]⟩)]) (fun k => k = 0) rfl (kI D m hD hm) nE rfl rfl rfl rfl (fun k x hx hk => ?_) (fun hk => ?_)
 ·have hne := IW hx
  obtain ⟨b, hb, rfl⟩ := nG hx
  refine aq<|aA<|ae hP<|aD hT rfl rfl rfl rfl rfl rfl rfl<|ag<|am ?_
  refine ⟨_, GW.forget fun _ => .inl rfl, ?_⟩
  refine bV rfl (.inr rfl) (ci hT rfl rfl rfl rfl rfl) ?_ bw
  exact aX hne.symm
 refine ae hP<|aD hT rfl rfl rfl rfl rfl rfl rfl<|ag<|am ?_
 refine bV rfl (.inr rfl) (ci hT rfl rfl rfl rfl rfl) ?_ bw
 exact aX (Gg hk).symm
theorem rn (m : Int) :
  aF Tryz.prog 55 [Z m] (Z (rgE m)) := by
 refine aK Tryz.func55 rfl rfl rfl rfl ?_
 refine ae hP<|ak rfl<|ag<|ao<|aA<|ae hP<|aj rfl<|ab (bi rfl rfl)<|ak rfl<|ag ?_
 refine aw rfl (fun hb1 => ?_) (fun hb1 => ?_)
 ·have hb1_ := of_decide_eq_true hb1
  refine ae hP<|ak rfl<|ag<|am<|E1 rfl rfl ?_
  exact aJ (ID hb1_).symm
 have hb1_ := of_decide_eq_false hb1
 refine ae hP<|aj rfl<|ab (bU rfl rfl)<|ak rfl<|ag ?_
 refine aw rfl (fun hb2 => ?_) (fun hb2 => ?_)
 ·have hb2_ := of_decide_eq_true hb2
  refine ae hP<|ak rfl<|ag<|am<|E1 rfl rfl ?_
  exact aJ (IA hb2_).symm
 have hb2_ := of_decide_eq_false hb2
 refine aq<|ae hP<|ak rfl<|ag<|am<|E1 rfl rfl ?_
 exact aJ (vh hb1_ hb2_).symm
theorem rr (D : Int) (m : Nat) (hD : -4194304 ≤ D ∧ D < 0) (hm : 1 ≤ m ∧ m ≤ 65536) :
  aF Tryz.prog 56 [I D, Z (m : Int)] (.p (.c (SL enI (rbL D (m : Int))))) := by
 refine aK Tryz.func56 rfl rfl rfl rfl ?_
 refine ae hP<|an ai (aI rfl rfl)<|ak rfl<|ag<|ae hP<|an ai (lI hT rfl rfl)<|ag<|ao<|ae hP<|au hT rfl rfl rfl rfl rfl rfl<|aj rfl<|ab (ah (mg D m)) ?_
 refine ag<|aA<|k9 5 1000 2 29 rfl rfl rfl rfl ?_
 refine dE (t := stL [(5, .loc 5 0), (9, .fn 179 [[.v (.int .i64 (m : Int))], [zn D, zm D]])] [(5, ⟨false, 1002, 36, [.sl (((rbL D (m : Int)).take 0)).length []]⟩), (1000, VB 2 29 enI (((rbL D (m : Int)).take 0)))]) (aE ⟨.refl _, .refl _, trivial⟩ ⟨rfl, rfl, trivial⟩) ?_
 refine fg 6 (fun k => cO [(5, ⟨false, 1002, 36, [.sl (((rbL D (m : Int)).take k)).length []]⟩), (1000, VB 2 29 enI (((rbL D (m : Int)).take k)))]) (fun _ => True) rfl (kI D m hD hm) nE rfl rfl rfl trivial (fun k x hx _ => ?_) (fun _ => ?_)
 ·obtain ⟨b, hb, rfl⟩ := nG hx
  refine av hP<|an ai (ay hT rfl rfl)<|aD hT rfl rfl rfl rfl rfl rfl rfl<|ag<|aA<|av hP<|ab (gr hT rfl rfl rfl rfl rfl)<|au hT rfl rfl rfl rfl rfl rfl<|ab (bl hT rfl rfl rfl (es := [_, _]) rfl rfl rfl)<|RK.app ai (nS (encD := enI) hT eS (by decide) rfl rfl rfl rfl rfl rfl rfl (b := b) rfl (by have := nF D m hm.2; rw [List.length_take]; omega) (by decide) (by decide)) ?_
  refine dh ai (kJ hT rfl rfl rfl rfl rfl rfl rfl (dH eS _).symm (Nat.zero_lt_succ 1)) ?_
  refine ag ?_
  refine ⟨GW.rnL 5 15 1000 (((rbL D (m : Int)).take k) ++ [b]).length rfl rfl rfl (dH eS _).symm (Nat.zero_lt_succ 1) rfl rfl rfl rfl ?_, trivial⟩
  show ∀ m, cO _ m = _ ∨ cO _ m = none
  rw [Bw hb]
  exact SubO.own ⟨rfl, rfl, trivial⟩
 refine ae hP<|ab (gr hT rfl rfl rfl rfl rfl)<|ab (bn (rfl : _ = AV.vec _))<|ag<|j8 (encD := enI) eS rfl (t := 4) rfl rfl ?_
 refine am<|E1 rfl rfl ?_
 exact aG (by rw [Gh])
theorem fp (a b : Int) :
  aF Tryz.prog 138 [I a, I b] (B (decide (a = b))) := by
 refine aK Tryz.func138 rfl rfl rfl rfl ?_
 refine ae hP<|an ai (aI rfl rfl)<|an ai (aI rfl rfl)<|ak rfl<|ag<|ae hP<|au hT rfl rfl rfl rfl rfl rfl<|au hT rfl rfl rfl rfl rfl rfl<|ab (ah (da _ _)) ?_
 refine ab (br rfl rfl)<|ak rfl<|ag<|am<|E1 rfl rfl ?_
 exact aX (EA a b)
theorem zM (a : Int) :
  aF Tryz.prog 67 [I a] (B (decide (a = 0))) := by
 refine aK Tryz.func67 rfl rfl rfl rfl ?_
 refine ae hP<|an ai (aI rfl rfl)<|ak rfl<|ag<|ae hP<|au hT rfl rfl rfl rfl rfl rfl<|ab (ah (de _)) ?_
 refine ab (br rfl rfl)<|ak rfl<|ag<|am<|E1 rfl rfl ?_
 exact aX (CT a)
theorem py (D : Int) (m : Nat) (hD : -4194304 ≤ D ∧ D < 0) (hm : 1 ≤ m ∧ m ≤ 65536) :
  aF Tryz.prog 72 [I D, Z (m : Int)] (.p (.c (FS (fmL D (m : Int))))) := by
 have iD : LB D 6 := ⟨by unfold L; omega⟩
 have i4 : LB (4 * (m : Int)) 6 := ⟨by unfold L; omega⟩
 have im : LB (m : Int) 6 := ⟨by unfold L; omega⟩
 refine aK Tryz.func72 rfl rfl rfl rfl ?_
 refine ae hP<|an ai (aI rfl rfl)<|ak rfl<|ag<|ae hP<|an ai (lI hT rfl rfl)<|ag<|ao<|ae hP<|au hT rfl rfl rfl rfl rfl rfl<|aj rfl<|ab (ah (mg D m)) ?_
 refine ag<|aA<|k9 5 1000 6 46 rfl rfl rfl rfl ?_
 refine dE (t := stL [(5, .loc 5 0), (13, .fn 179 [[.v (.int .i64 (m : Int))], [zn D, zm D]])] [(5, ⟨false, 1002, 32, [.sl (((fmL D (m : Int)).take 0)).length []]⟩), (1000, FB 46 (((fmL D (m : Int)).take 0)))]) (aE ⟨.refl _, .refl _, trivial⟩ ⟨rfl, rfl, trivial⟩) ?_
 refine fg 6 (fun k => cO [(5, ⟨false, 1002, 32, [.sl (((fmL D (m : Int)).take k)).length []]⟩), (1000, FB 46 (((fmL D (m : Int)).take k)))]) (fun _ => True) rfl (kI D m hD hm) nE rfl rfl rfl trivial (fun k x hx _ => ?_) (fun _ => ?_)
 ·obtain ⟨b, hb, rfl⟩ := nG hx
  have hb2 := (rbL_mem.1 (List.mem_of_getElem? hb)).1
  have hsq := lx (x := b) (m := 131073) (by omega)
  have ib : LB b 6 := ⟨by unfold L; omega⟩
  have isq : LB (b * b) 6 := ⟨by unfold L; omega⟩
  have cRd : aF Tryz.prog 41 [FA (m : Int) b ((b * b - D) / (4 * (m : Int)))] (.t [PF (frq D m b).rd, PM (rdM (m : Int) b ((b * b - D) / (4 * (m : Int)))), PE (rdE (m : Int) b ((b * b - D) / (4 * (m : Int))))]) := fC (m : Int) b ((b * b - D) / (4 * (m : Int))) lz lz lz
  have htk := Jv hb
  generalize (frq D m b).rd = g at cRd htk
  generalize rdM (m : Int) b ((b * b - D) / (4 * (m : Int))) = M0 at cRd
  generalize rdE (m : Int) b ((b * b - D) / (4 * (m : Int))) = e0 at cRd
  refine av hP<|an ai (ay hT rfl rfl)<|aD hT rfl rfl rfl rfl rfl rfl rfl<|ag<|aA<|ae hP<|bH hT rfl rfl rfl rfl rfl rfl<|ab (ah cRd) ?_
  refine ab (az (rfl : _ = AV.t _))<|ab (aC rfl (v := .a _) rfl)<|ab (aC rfl (v := .a _) rfl)<|ab (aC rfl (v := .c _) rfl)<|an ai (ay hT rfl rfl)<|an ai (ay hT rfl rfl)<|aD hT rfl rfl rfl rfl rfl rfl rfl<|aD hT rfl rfl rfl rfl rfl rfl rfl<|ak rfl<|ag<|av hP<|ab (gr hT rfl rfl rfl rfl rfl)<|bH hT rfl rfl rfl rfl rfl rfl<|ab (bl hT rfl rfl rfl (es := [_, _, _, _, _, _]) rfl rfl rfl)<|RK.app ai (nT hT rfl rfl rfl rfl rfl rfl rfl (f := g) rfl (by have := xM D m hm.2; rw [List.length_take]; omega) (by decide)) ?_
  refine dh ai (kJ hT rfl rfl rfl rfl rfl rfl rfl (lZ _).symm (Nat.zero_lt_succ 5)) ?_
  refine ag ?_
  refine ⟨GW.rnL 5 25 1000 (((fmL D (m : Int)).take k) ++ [g]).length rfl rfl rfl (lZ _).symm (Nat.zero_lt_succ 5) rfl rfl rfl rfl ?_, trivial⟩
  show ∀ m, cO _ m = _ ∨ cO _ m = none
  rw [htk]
  exact SubO.own ⟨rfl, rfl, trivial⟩
 refine ae hP<|ab (gr hT rfl rfl rfl rfl rfl)<|ab (bn (rfl : _ = AV.vec _))<|ag<|mO (t := 4) rfl rfl ?_
 refine am<|E1 rfl rfl ?_
 exact aG (by rw [HA])
theorem xi (p q : Pr2) :
  aF Tryz.prog 90 [.p (.a [zn p.1, zm p.1, zn p.2, zm p.2]), .p (.a [zn q.1, zm q.1, zn q.2, zm q.2])] (Z (cmP p q)) := by
 refine aK Tryz.func90 rfl rfl rfl rfl ?_
 refine ae hP<|an ai (aI rfl rfl)<|an ai (aI rfl rfl)<|ak rfl<|ag<|ao<|ae hP<|ab (aT hT rfl rfl rfl rfl rfl (by first | decide | omega)) ?_
 refine au hT rfl rfl rfl rfl rfl rfl<|ab (aT hT rfl rfl rfl rfl rfl (by first | decide | omega)) ?_
 refine au hT rfl rfl rfl rfl rfl rfl<|ab (ah (da _ _)) ?_
 refine ak rfl<|ag<|ae hP<|aj rfl<|ab (bB rfl rfl)<|ag ?_
 refine aw rfl (fun hb1 => ?_) (fun hb1 => ?_)
 ·have hb1_ := cy hb1
  refine ae hP<|aj rfl<|ak rfl<|ag<|am<|E1 rfl rfl ?_
  exact aJ (by unfold cmP; rw [if_pos hb1_])
 have hb1_ := cf hb1
 refine aq<|ae hP<|ab (aT hT rfl rfl rfl rfl rfl (by first | decide | omega)) ?_
 refine au hT rfl rfl rfl rfl rfl rfl<|ab (aT hT rfl rfl rfl rfl rfl (by first | decide | omega)) ?_
 refine au hT rfl rfl rfl rfl rfl rfl<|ab (ah (da _ _)) ?_
 refine ak rfl<|ag<|am<|E1 rfl rfl ?_
 exact aJ (by unfold cmP; rw [if_neg (fun x => x hb1_)])
end
section
open Go Go.AM
theorem nO (a b c p q r : Int) :
  aF Tryz.prog 165 [FA a b c, FA p q r] (B (decide (a = p ∧ b = q ∧ c = r))) := by
 refine aK Tryz.func165 rfl rfl rfl rfl ?_
 refine ae hP<|an ai (aI rfl rfl)<|an ai (aI rfl rfl)<|ak rfl<|ag<|ae hP<|aH hT rfl rfl rfl rfl rfl rfl<|au hT rfl rfl rfl rfl rfl rfl<|aH hT rfl rfl rfl rfl rfl rfl<|au hT rfl rfl rfl rfl rfl rfl<|ab (ah (fp _ _)) ?_
 refine aj rfl ?_
 refine bf (t := 10) rfl (fun hg1 => ?_) (fun hg1 => ?_)
 ·refine aB hg1 (aR hT rfl rfl rfl rfl rfl rfl) ?_
  refine aB hg1 (aL hT rfl rfl rfl rfl (cs := [_, _]) rfl rfl) ?_
  refine aB hg1 (aR hT rfl rfl rfl rfl rfl rfl) ?_
  refine aB hg1 (aL hT rfl rfl rfl rfl (cs := [_, _]) rfl rfl) ?_
  refine aB hg1 (ah (fp _ _)) ?_
  refine ab (aO rfl hg1 (rfl : _ = AV.p (.c _)))<|aj rfl ?_
  refine bf (t := 17) rfl (fun hg2 => ?_) (fun hg2 => ?_)
  ·refine aB hg2 (aR hT rfl rfl rfl rfl rfl rfl) ?_
   refine aB hg2 (aL hT rfl rfl rfl rfl (cs := [_, _]) rfl rfl) ?_
   refine aB hg2 (aR hT rfl rfl rfl rfl rfl rfl) ?_
   refine aB hg2 (aL hT rfl rfl rfl rfl (cs := [_, _]) rfl rfl) ?_
   refine aB hg2 (ah (fp _ _)) ?_
   refine ab (aO rfl hg2 (rfl : _ = AV.p (.c _)))<|ak rfl<|ag<|am<|E1 rfl rfl ?_
   exact aX (J0 hg1 hg2)
  iterate 5 refine bd hg2 ?_
  refine ab (aN rfl hg2 (rfl : _ = AV.p (.c _)))<|ak rfl<|ag<|am<|E1 rfl rfl ?_
  exact aX (J1 hg1 hg2)
 iterate 5 refine bd hg1 ?_
 refine ab (aN rfl hg1 (rfl : _ = AV.p (.c _)))<|aj rfl<|bd rfl ?_
 iterate 4 refine bd rfl ?_
 refine ab (aN rfl rfl (rfl : _ = AV.p (.c _)))<|ak rfl<|ag<|am<|E1 rfl rfl ?_
 exact aX (J2 hg1)
theorem DA (D : Int) :
  aF Tryz.prog 134 [I D] (.p (.c (SL enU (unL D)))) := by
 refine aK Tryz.func134 rfl rfl rfl rfl ?_
 refine ae hP<|an ai (aI rfl rfl)<|ak rfl<|ag<|ao<|aA<|ae hP<|au hT rfl rfl rfl rfl rfl rfl<|ab (ah (eE _ (by decide))) ?_
 refine ab (ah (fp _ _)) ?_
 refine ak rfl<|ag ?_
 refine aw rfl (fun hb1 => ?_) (fun hb1 => ?_)
 ·refine ae hP<|ab (dp hT rfl rfl rfl (es := [_, _]) rfl) ?_
  iterate 5 refine ab (dp hT rfl rfl rfl (es := [_, _]) rfl) ?_
  refine ab (bl hT rfl rfl rfl (es := [_, _, _, _, _, _, _, _, _, _, _, _]) rfl rfl rfl)<|ak rfl<|ag<|am<|E1 rfl rfl ?_
  exact aG (by rw [← JX (of_decide_eq_true hb1)]; rfl)
 refine ae hP<|au hT rfl rfl rfl rfl rfl rfl<|ab (ah (eE _ (by unfold bC; omega))) ?_
 refine ab (ah (fp _ _)) ?_
 refine ak rfl<|ag ?_
 refine aw rfl (fun hb2 => ?_) (fun hb2 => ?_)
 ·refine ae hP<|ab (dp hT rfl rfl rfl (es := [_, _]) rfl) ?_
  iterate 3 refine ab (dp hT rfl rfl rfl (es := [_, _]) rfl) ?_
  refine ab (bl hT rfl rfl rfl (es := [_, _, _, _, _, _, _, _]) rfl rfl rfl)<|ak rfl<|ag<|am<|E1 rfl rfl ?_
  exact aG (by rw [← JW (of_decide_eq_false hb1) (of_decide_eq_true hb2)]; rfl)
 refine aq<|ae hP<|ab (dp hT rfl rfl rfl (es := [_, _]) rfl)<|ab (dp hT rfl rfl rfl (es := [_, _]) rfl)<|ab (bl hT rfl rfl rfl (es := [_, _, _, _]) rfl rfl rfl)<|ak rfl<|ag<|am<|E1 rfl rfl ?_
 exact aG (by rw [← JY (of_decide_eq_false hb1) (of_decide_eq_false hb2)]; rfl)
theorem rq (f : Fm) (D : Int) (m : Nat) (hfa : L 6 f.a) (hfb : L 6 f.b) (hfc : L 6 f.c) (hf : dsc f.a f.b f.c = D) (hD : -4194304 ≤ D ∧ D < 0) (hm : 1 ≤ m ∧ m ≤ 65536) :
  Iter2 Tryz.prog 132 [[zn f.a, zm f.a, zn f.b, zm f.b, zn f.c, zm f.c], [.v (.int .i64 (m : Int))]] ((prL D m f).map fun p => [PA p]) := by
 have iD : LB D 6 := ⟨by unfold L; omega⟩
 have i4 : LB (4 * (m : Int)) 6 := ⟨by unfold L; omega⟩
 have im : LB (m : Int) 6 := ⟨by unfold L; omega⟩
 have fa : LB f.a 6 := ⟨hfa⟩
 have fb : LB f.b 6 := ⟨hfb⟩
 have fc : LB f.c 6 := ⟨hfc⟩
 have cDs : aF Tryz.prog 40 [FA f.a f.b f.c] (I D) := by rw [← hf]; exact fD f.a f.b f.c lz lz lz
 have cUn := DA D
 have hus : ∀ p ∈ unL D, (-2 ≤ p.1 ∧ p.1 ≤ 2) ∧ (-1 ≤ p.2 ∧ p.2 ≤ 1) := fun p hp => Ie hp
 have hul := qz D
 have hget := fun (i j : Nat) (b : Int) (hb : (rbL D m)[i]? = some b) (hs : smf f (frq D m b) = true) (hj : j < (unL D).length) => GB (f := f) (j := j) hb hs hj
 have hkY := fun (i : Nat) (b : Int) (hb : (rbL D m)[i]? = some b) (hs : smf f (frq D m b) = true) => Ke (f := f) hb hs
 have hkN := fun (i : Nat) (b : Int) (hb : (rbL D m)[i]? = some b) (hs : smf f (frq D m b) = false) => Kf (f := f) hb hs
 have hall := GD (D := D) (m := m) (f := f)
 have hk0 : 0 = (fmN (prQ D m f) (rbL D m)) 0 := fmN_0.symm
 generalize unL D = us at *
 generalize hxs : ((prL D m f).map fun p => ([PA p] : List PV)) = xs at *
 generalize fmN (prQ D m f) (rbL D m) = κ at *
 refine mW Tryz.func132 (by kernel_rfl) rfl rfl (Nat.le_of_ble_eq_true rfl) rfl ?_
 intro l n0 J hK
 refine tf hK.toKeepsB ?_
 refine bA hP ?_
 refine an ai (aI rfl rfl)<|ag<|tf hK.toKeepsB ?_
 refine bA hP ?_
 refine ab (a6 hT rfl rfl rfl (cs := [_, _, _, _, _, _]) rfl rfl)<|ab (ah cDs) ?_
 refine an ai (ay hT rfl rfl)<|aD hT rfl rfl rfl rfl rfl rfl rfl<|ag<|tf hK.toKeepsB ?_
 refine bA hP ?_
 refine au hT rfl rfl rfl rfl rfl rfl<|ab (aS hT rfl rfl rfl (by first | rfl | exact ce (by omega))) ?_
 refine ab (ah (mg D m)) ?_
 refine ag<|AT ?_
 refine JV (t := stL [(1, .ip [zn f.a, zm f.a, zn f.b, zm f.b, zn f.c, zm f.c]), (2, .ip [.v (.int .i64 (m : Int))]), (3, .loc 3 0), (4, .loc 4 0), (21, .fn 179 [[.v (.int .i64 (m : Int))], [zn D, zm D]])] [(3, ⟨false, 1, 187, [.v (.func (.yield l) #[] #[])]⟩), (4, ⟨false, 1, 29, [zn D, zm D]⟩)]) (aE ⟨.refl _, .refl _, .refl _, .refl _, .refl _, trivial⟩ ⟨rfl, rfl, trivial⟩) ?_
 refine AS 5 κ (cO [(3, ⟨false, 1, 187, [.v (.func (.yield l) #[] #[])]⟩), (4, ⟨false, 1, 29, [zn D, zm D]⟩)]) hK rfl (kI D m hD hm) nE rfl rfl (fun i y hy => ?_) hall hk0
 obtain ⟨b, hb, rfl⟩ := nG hy
 have hb2 := (rbL_mem.1 (List.mem_of_getElem? hb)).1
 have hsq := lx (x := b) (m := 131073) (by omega)
 have ib : LB b 6 := ⟨by unfold L; omega⟩
 have isq : LB (b * b) 6 := ⟨by unfold L; omega⟩
 have cSm : aF Tryz.prog 133 [FA f.a f.b f.c, FA (m : Int) b ((b * b - D) / (4 * (m : Int)))] (.t [PM (smm f (frq D m b)), PB (smf f (frq D m b))]) := Gv f.a f.b f.c (m : Int) b ((b * b - D) / (4 * (m : Int))) lz lz lz lz lz lz
 obtain ⟨m1, m2, m3, m4⟩ : LB (smm f (frq D m b)).a 23 ∧ LB (smm f (frq D m b)).b 23 ∧ LB (smm f (frq D m b)).c 23 ∧ LB (smm f (frq D m b)).d 23 := JZ (a := f.a) (b := f.b) (c := f.c) (p := (m : Int)) (q := b) (r := (b * b - D) / (4 * (m : Int))) ⟨lz⟩ ⟨lz⟩ ⟨lz⟩ ⟨lz⟩ ⟨lz⟩ ⟨lz⟩
 have hgj := fun j => hget i j b hb
 have hY := hkY i b hb
 have hN := hkN i b hb
 generalize smm f (frq D m b) = M at cSm m1 m2 m3 m4 hgj
 generalize smf f (frq D m b) = sb at cSm hgj hY hN
 show AK _ _ _ _ _ _ _ (κ i) ⟨iY _ _ [PI b, .a [zn (m : Int), zm (m : Int), zn b, zm b, zn ((b * b - D) / (4 * (m : Int))), zm ((b * b - D) / (4 * (m : Int)))]], _⟩
 generalize (b * b - D) / (4 * (m : Int)) = C0 at cSm ⊢
 refine bM ?_
 refine bA hP ?_
 refine an ai (ay hT rfl rfl)<|aD hT rfl rfl rfl rfl rfl rfl rfl<|ag<|bA hP ?_
 refine an ai (ay hT rfl rfl)<|aD hT rfl rfl rfl rfl rfl rfl rfl<|ag<|ej ?_
 refine bM ?_
 refine bA hP ?_
 refine ab (a6 hT rfl rfl rfl (cs := [_, _, _, _, _, _]) rfl rfl)<|bH hT rfl rfl rfl rfl rfl rfl<|ab (ah cSm) ?_
 refine ab (az (rfl : _ = AV.t _))<|ab (aC rfl (v := .a _) rfl)<|ab (aC rfl (v := .c _) rfl)<|an ai (ay hT rfl rfl)<|aD hT rfl rfl rfl rfl rfl rfl rfl<|ak rfl<|ag<|bM ?_
 refine bM ?_
 refine bA hP ?_
 refine aj rfl<|ab (bE rfl)<|ag ?_
 refine dY rfl (fun hb1 => ?_) (fun hb1 => ?_)
 ·have hb1_ := (cB hb1)
  refine iE ?_
  exact .inl ⟨rfl, (hN (cB hb1)).symm, GW.forget fun x => SubO.own (l := [(3, ⟨false, 1, 187, [.v (.func (.yield l) #[] #[])]⟩), (4, ⟨false, 1, 29, [zn D, zm D]⟩)]) ⟨rfl, rfl, trivial⟩ x⟩
 have hb1_ := (cq hb1)
 have hsb := cq hb1
 refine dJ ?_
 refine bM ?_
 refine bA hP ?_
 refine au hT rfl rfl rfl rfl rfl rfl<|ab (ah cUn) ?_
 refine ab (aU hT rfl rfl rfl (by rfl)) ?_
 refine aj rfl<|ag<|ej ?_
 refine kx (ι := Nat) (fun j => stL [(3, .loc 3 0), (5, .loc 5 0), (6, .loc 6 0), (7, .loc 7 0), (33, .p (.c (SL enU us))), (34, Z (us.length : Int)), (35, Z (j : Int))] [(3, ⟨false, 1, 187, [.v (.func (.yield l) #[] #[])]⟩), (4, ⟨false, 1, 29, [zn D, zm D]⟩), (5, ⟨false, 1, 29, [zn b, zm b]⟩), (6, ⟨false, 1, 46, [zn (m : Int), zm (m : Int), zn b, zm b, zn C0, zm C0]⟩), (7, ⟨false, 1, 87, [zn M.a, zm M.a, zn M.b, zm M.b, zn M.c, zm M.c, zn M.d, zm M.d]⟩)]) (fun j => κ i + j) (fun j => j ≤ us.length) (fun j => us.length - j) 0 (Nat.zero_le _) rfl (aE ⟨.refl _, .refl _, .refl _, .refl _, .refl _, .refl _, .refl _, trivial⟩ ⟨rfl, rfl, rfl, rfl, rfl, trivial⟩) ?_
 intro j hj
 refine bM ?_
 refine bA hP ?_
 refine ab (bi rfl rfl)<|ag<|bM ?_
 refine dY rfl (fun hb2 => ?_) (fun hb2 => ?_)
 ·have hb2_ := of_decide_eq_true hb2
  have hjn : j < us.length := by omega
  have hgt := hgj j hsb hjn
  obtain ⟨⟨u1, u2⟩, u3, u4⟩ := hus _ (jR (d := (0, 0)) hjn)
  have iu1 : LB (us.getD j (0, 0)).1 3 := ⟨by unfold L; omega⟩
  have iu2 : LB (us.getD j (0, 0)).2 3 := ⟨by unfold L; omega⟩
  refine dJ ?_
  refine bM ?_
  refine ej ?_
  refine bM ?_
  refine bA hP ?_
  refine ab (cp hT Er (by decide) (0, 0) (n := (j : Int)) (l := us) rfl rfl rfl rfl rfl rfl (by omega)) ?_
  refine ab (a6 hT rfl rfl rfl (cs := enU (us.getD j (0, 0))) rfl rfl) ?_
  refine an ai (ay hT rfl rfl)<|aD hT rfl rfl rfl rfl rfl rfl rfl<|ag<|bM ?_
  refine bA hP ?_
  refine ab (aT hT rfl rfl rfl rfl rfl (by first | decide | omega)) ?_
  refine a7 hT rfl rfl rfl rfl ?_
  refine ab (ah (eE _ (by unfold bC; omega))) ?_
  refine au hT rfl rfl rfl rfl rfl rfl<|ab (aT hT rfl rfl rfl rfl rfl (by first | decide | omega)) ?_
  refine a7 hT rfl rfl rfl rfl ?_
  refine ab (ah (eE _ (by unfold bC; omega))) ?_
  refine ab (ah (dF b (us.getD j (0, 0)).2 lz lz)) ?_
  refine ab (ah (jj (us.getD j (0, 0)).1 (b * (us.getD j (0, 0)).2) lz lz)) ?_
  refine ab (ah (eE 2 (by decide))) ?_
  refine ab (ah (dK ((us.getD j (0, 0)).1 - b * (us.getD j (0, 0)).2) 2 lz lz (by omega))) ?_
  refine ab (az (rfl : _ = AV.t _))<|ab (aC rfl (v := .a _) rfl)<|ab (aC rfl (v := .a _) rfl)<|ab (aC rfl (v := .c _) rfl)<|an ai (ay hT rfl rfl)<|an ai (ay hT rfl rfl)<|aD hT rfl rfl rfl rfl rfl rfl rfl<|aD hT rfl rfl rfl rfl rfl rfl rfl<|ak rfl<|ag<|bM ?_
  refine bA hP ?_
  refine aH hT rfl rfl rfl rfl rfl rfl<|au hT rfl rfl rfl rfl rfl rfl<|ab (aT hT rfl rfl rfl rfl rfl (by first | decide | omega)) ?_
  refine a7 hT rfl rfl rfl rfl ?_
  refine ab (ah (eE _ (by unfold bC; omega))) ?_
  refine ab (ah (dF (m : Int) (us.getD j (0, 0)).2 lz lz)) ?_
  refine an ai (ay hT rfl rfl)<|aD hT rfl rfl rfl rfl rfl rfl rfl<|ag<|bM ?_
  refine bA hP ?_
  refine aH hT rfl rfl rfl rfl rfl rfl<|au hT rfl rfl rfl rfl rfl rfl<|au hT rfl rfl rfl rfl rfl rfl<|ab (ah (dF M.a (((us.getD j (0, 0)).1 - b * (us.getD j (0, 0)).2) / 2) lz lz)) ?_
  refine aH hT rfl rfl rfl rfl rfl rfl<|au hT rfl rfl rfl rfl rfl rfl<|au hT rfl rfl rfl rfl rfl rfl<|ab (ah (dF M.b ((m : Int) * (us.getD j (0, 0)).2) lz lz)) ?_
  refine ab (ah (dO (M.a * (((us.getD j (0, 0)).1 - b * (us.getD j (0, 0)).2) / 2)) (M.b * ((m : Int) * (us.getD j (0, 0)).2)) lz lz)) ?_
  refine an ai (ay hT rfl rfl)<|aD hT rfl rfl rfl rfl rfl rfl rfl<|ag<|bM ?_
  refine bA hP ?_
  refine aH hT rfl rfl rfl rfl rfl rfl<|au hT rfl rfl rfl rfl rfl rfl<|au hT rfl rfl rfl rfl rfl rfl<|ab (ah (dF M.c (((us.getD j (0, 0)).1 - b * (us.getD j (0, 0)).2) / 2) lz lz)) ?_
  refine aH hT rfl rfl rfl rfl rfl rfl<|au hT rfl rfl rfl rfl rfl rfl<|au hT rfl rfl rfl rfl rfl rfl<|ab (ah (dF M.d ((m : Int) * (us.getD j (0, 0)).2) lz lz)) ?_
  refine ab (ah (dO (M.c * (((us.getD j (0, 0)).1 - b * (us.getD j (0, 0)).2) / 2)) (M.d * ((m : Int) * (us.getD j (0, 0)).2)) lz lz)) ?_
  refine an ai (ay hT rfl rfl)<|aD hT rfl rfl rfl rfl rfl rfl rfl<|ag<|bM ?_
  refine lc ?_
  refine RY.val ai (bS hT rfl rfl rfl rfl (by first | rfl | exact eC (by omega))) ?_
  refine RY.val ai (aL hT rfl rfl rfl rfl (cs := [_, _]) rfl rfl) ?_
  refine RY.val ai (aL hT rfl rfl rfl rfl (cs := [_, _]) rfl rfl) ?_
  refine RY.val ai (dp hT rfl rfl rfl (es := [_, _, _, _]) rfl) ?_
  refine RY.yield hK ai rfl rfl hgt ?_
  intro bb
  refine RY.val ai (bE rfl) ?_
  refine RY.done ?_
  refine dY rfl (fun hb3 => ?_) (fun hb3 => ?_)
  ·have hb3_ := (cB hb3)
   refine l4 ?_
   exact .inr ⟨rfl, vG (cB hb3)⟩
  have hb3_ := (cq hb3)
  refine dJ ?_
  refine bA hP ?_
  refine bI rfl rfl ?_
  refine aj rfl<|ag ?_
  refine ⟨j + 1, by omega, by omega, (vF (cq hb3)).symm, aE ⟨.refl _, .refl _, .refl _, .refl _, .refl _, .refl _, aJ (by omega), trivial⟩ ⟨rfl, rfl, rfl, rfl, rfl, trivial⟩⟩
 have hb2_ := of_decide_eq_false hb2
 have hjl : us.length = j := by omega
 refine iE ?_
 exact .inl ⟨rfl, by rw [hY hsb, hjl], GW.forget fun x => SubO.own (l := [(3, ⟨false, 1, 187, [.v (.func (.yield l) #[] #[])]⟩), (4, ⟨false, 1, 29, [zn D, zm D]⟩)]) ⟨rfl, rfl, trivial⟩ x⟩
end
section
open Go Go.AM
theorem xW (o x : Fm) (u : Value) :
  aF Tryz.prog 214 [FA (o).a (o).b (o).c, FA (x).a (x).b (x).c, I 0, .p (.c (.v u))] (FA (o).a (o).b (o).c) := by
 refine aK Tryz.func214 rfl rfl rfl rfl ?_
 refine ae hP<|an ai (aI rfl rfl)<|an ai (aI rfl rfl)<|an ai (aI rfl rfl)<|an ai (ay hT rfl rfl)<|ag<|ao<|ae hP<|au hT rfl rfl rfl rfl rfl rfl<|ab (ah (sa _)) ?_
 refine aj rfl<|ag<|aA<|dU 1 ?_
 refine ae hP<|ab (bi rfl rfl)<|ag<|ao<|aP rfl (by decide) ?_
 refine aZ<|ae hP<|bH hT rfl rfl rfl rfl rfl rfl<|aD hT rfl rfl rfl rfl rfl rfl rfl<|ag<|am ?_
 refine bV rfl (.inr rfl) (aQ hT rfl rfl rfl rfl (cs := [_, _, _, _, _, _]) rfl rfl) ?_ bw
 exact .refl _
theorem xX (f : Fm) (hfa : L 6 f.a) (hfb : L 6 f.b) (hfc : L 6 f.c) :
  aF Tryz.prog 183 [FA f.a f.b f.c, I 0] (FA ((prF (dsc f.a f.b f.c))).a ((prF (dsc f.a f.b f.c))).b ((prF (dsc f.a f.b f.c))).c) := by
 have fa : LB f.a 6 := ⟨hfa⟩
 have fb : LB f.b 6 := ⟨hfb⟩
 have fc : LB f.c 6 := ⟨hfc⟩
 refine aK Tryz.func183 rfl rfl rfl rfl ?_
 refine ae hP<|an ai (aI rfl rfl)<|an ai (aI rfl rfl)<|an ai (ay hT rfl rfl)<|ag<|ao<|ae hP<|aH hT rfl rfl rfl rfl rfl rfl<|a7 hT rfl rfl rfl rfl ?_
 refine ag<|aP rfl rfl<|aq<|ae hP<|bH hT rfl rfl rfl rfl rfl rfl<|ab (ah (sM _ _ _ lz lz lz)) ?_
 refine bH hT rfl rfl rfl rfl rfl rfl<|ab (ah (wc _ _ _ lz lz lz)) ?_
 refine au hT rfl rfl rfl rfl rfl rfl<|ab (ah (xW _ _ _)) ?_
 refine aD hT rfl rfl rfl rfl rfl rfl rfl<|ag<|am ?_
 refine bV rfl (.inr rfl) (aQ hT rfl rfl rfl rfl (cs := [_, _, _, _, _, _]) rfl rfl) ?_ bw
 exact .refl _
theorem xY (f : Fm) (hfa : L 6 f.a) (hfb : L 6 f.b) (hfc : L 6 f.c) :
  aF Tryz.prog 131 [FA f.a f.b f.c, I 0] (.t [PF (pz0 f), PE (rfE f)]) := by
 have fa : LB f.a 6 := ⟨hfa⟩
 have fb : LB f.b 6 := ⟨hfb⟩
 have fc : LB f.c 6 := ⟨hfc⟩
 refine aK Tryz.func131 rfl rfl rfl rfl ?_
 refine ae hP<|an ai (aI rfl rfl)<|an ai (aI rfl rfl)<|an ai (ay hT rfl rfl)<|ak rfl<|ag<|ao<|ae hP<|bH hT rfl rfl rfl rfl rfl rfl<|ab (ah (wb _ _ _ lz lz lz)) ?_
 refine ak rfl<|ag<|ae hP<|aj rfl<|ab (bB rfl rfl)<|ag ?_
 refine aw rfl (fun hb1 => ?_) (fun hb1 => ?_)
 ·have hb1_ := cy hb1
  refine ae hP<|ab (aV hT rfl rfl rfl (es := [_, _, _, _, _, _]) rfl)<|aj rfl<|aD hT rfl rfl rfl rfl rfl rfl rfl<|ak rfl<|ag<|am ?_
  refine cr rfl (.inr rfl) (aQ hT rfl rfl rfl rfl (cs := [_, _, _, _, _, _]) rfl rfl) (bQ rfl) ?_ bw
  exact aG (Kd hb1_)
 have hb1_ := cf hb1
 refine aq<|ae hP<|bH hT rfl rfl rfl rfl rfl rfl<|au hT rfl rfl rfl rfl rfl rfl<|ab (ah (xX f hfa hfb hfc)) ?_
 refine aD hT rfl rfl rfl rfl rfl rfl rfl<|ak rfl<|ag<|am ?_
 refine cr rfl (.inr rfl) (aQ hT rfl rfl rfl rfl (cs := [_, _, _, _, _, _]) rfl rfl) (bQ rfl) ?_ bw
 exact aG (Kc hb1_)
end
end Go.Proofs.YthaiejfjnllglaaGreatDoor
section
end
namespace Go.Proofs.YthaiejfjnllglaaGreatDoor
section
open Go Go.AM
theorem Dk (N : Int) (h3 : 3 ≤ N) (h4 : N ≤ 2003) :
  aF Tryz.prog 80 [Z N] (.p (.c (FS (lst N)))) := by
 refine aK Tryz.func80 rfl rfl rfl rfl ?_
 refine ae hP<|ak rfl<|ag<|ae hP<|an ai (iP hT rfl rfl rfl (es := []) rfl rfl rfl) ?_
 refine ab (bn (rfl : _ = AV.vec _))<|ag<|dy 7 1000 rfl rfl rfl ?_
 refine ao<|ae hP<|ak rfl<|ag<|aA<|bp (ι := List Fm × Int) (fun p => stL [(0, Z N), (3, .vec 1000), (4, Z p.2)] [(1000, FB 46 p.1)]) (fun p => p.1 ++ dS N (101 - p.2).toNat p.2 = lst N ∧ 1 ≤ p.2 ∧ p.2 ≤ 26 ∧ (p.1.length : Int) ≤ 60 * p.2) (fun p => (100 - p.2).toNat) ([], 1) ⟨zW N, by decide, by decide, by decide⟩ (aE ⟨.refl _, .refl _, .refl _, trivial⟩ ⟨rfl, trivial⟩) ?_
 rintro p ⟨hI, ha1, ha2, hlen⟩
 have hsq := KH ⟨ha1, ha2⟩
 refine ao<|ae hP<|aj rfl<|ab (bX rfl rfl (by first | exact IntWalk.i64_in _ (by omega) | rfl)) ?_
 refine aj rfl<|ab (bX rfl rfl (by first | exact IntWalk.i64_in _ (by omega) | rfl)) ?_
 refine aj rfl<|ab (fS rfl rfl)<|ag ?_
 refine aw rfl (fun hb1 => ?_) (fun hb1 => ?_)
 ·have hb1_ := of_decide_eq_true hb1
  have ha3 := H1 ha1 hb1_ h4
  refine aq<|ao<|aA<|ae hP<|aj rfl<|ab (gq rfl (by first | exact IntWalk.i64_in _ (by omega) | rfl)) ?_
  refine ak rfl<|ag<|aA<|bp (ι := List Fm × Int) (fun q => stL [(0, Z N), (3, .vec 1000), (4, Z p.2), (5, Z q.2)] [(1000, FB 46 q.1)]) (fun q => q.1 ++ (eO N p.2 (p.2 + 1 - q.2).toNat q.2 ++ dS N (100 - p.2).toNat (p.2 + 1)) = lst N ∧ -p.2 ≤ q.2 ∧ q.2 ≤ p.2 + 1 ∧ (q.1.length : Int) ≤ 60 * p.2 + (q.2 + p.2)) (fun q => (p.2 + 1 - q.2).toNat) (p.1, -p.2) ⟨Jk hI ⟨ha1, by omega⟩ hb1_, by simp, by simp only; omega, by simp only; omega⟩ (aE ⟨.refl _, .refl _, .refl _, aJ (by omega), trivial⟩ ⟨rfl, trivial⟩) ?_
  rintro q ⟨hJ, hq1, hq2, hlen2⟩
  refine ao<|ae hP<|aj rfl<|aj rfl<|ab (fS rfl rfl)<|ag ?_
  refine aw rfl (fun hb2 => ?_) (fun hb2 => ?_)
  ·have hb2_ := of_decide_eq_true hb2
   have qs := lx (x := q.2) (m := 25) (by omega)
   have qc := c_b (x := q.2 * q.2 + N) (y := 4 * p.2) (by omega) (by omega)
   have ja : bC p.2 := by unfold bC; omega
   have jb : bC q.2 := by unfold bC; omega
   have jc : bC ((q.2 * q.2 + N) / (4 * p.2)) := by unfold bC; omega
   have ia : LB p.2 6 := ⟨by unfold L; omega⟩
   have ib : LB q.2 6 := ⟨by unfold L; omega⟩
   have ic : LB ((q.2 * q.2 + N) / (4 * p.2)) 6 := ⟨by unfold L; omega⟩
   refine aq<|ao<|aA<|ao<|ae hP<|aj rfl<|aj rfl<|ab (bX rfl rfl (by first | exact IntWalk.i64_in _ (by omega) | rfl)) ?_
   refine aj rfl<|bI rfl rfl ?_
   refine aj rfl<|ab (bX rfl rfl (by first | exact IntWalk.i64_in _ (by omega) | rfl)) ?_
   refine ab (b7 rfl rfl (by omega) (c := (q.2 * q.2 + N) % (4 * p.2)) (Int.tmod_eq_emod_of_nonneg (by omega))) ?_
   refine ab (bB rfl rfl)<|ag ?_
   refine aw rfl (fun hb3 => ?_) (fun hb3 => ?_)
   ·have hb3_ := cy hb3
    refine aZ<|av hP<|aj rfl<|bI rfl rfl ?_
    refine ak rfl<|ag ?_
    refine ⟨(q.1, q.2 + 1), ⟨vQ hJ hb2_ (DG hb3_), by simp only; omega, by simp only; omega, by simp only; omega⟩, by simp only; omega, aE ⟨.refl _, .refl _, .refl _, .refl _, trivial⟩ ⟨rfl, trivial⟩⟩
   have hb3_ := cf hb3
   have hz : (q.2 * q.2 + N) % (4 * p.2) = 0 := cf hb3
   refine aq<|ae hP<|aj rfl<|aj rfl<|aj rfl<|aj rfl<|ab (bX rfl rfl (by first | exact IntWalk.i64_in _ (by omega) | rfl)) ?_
   refine aj rfl<|bI rfl rfl ?_
   refine aj rfl<|ab (bX rfl rfl (by first | exact IntWalk.i64_in _ (by omega) | rfl)) ?_
   refine ab (dm rfl rfl (by omega) (c := ((q.2 * q.2 + N) / (4 * p.2))) (by rw [Int.tdiv_eq_ediv_of_nonneg (by omega), IntWalk.i64_in _ (by omega)])) ?_
   refine ab (ah (nM _ _ _ (by first | assumption | decide) (by first | assumption | decide) (by first | assumption | decide))) ?_
   refine an ai (ay hT rfl rfl)<|aD hT rfl rfl rfl rfl rfl rfl rfl<|ag<|ae hP<|bH hT rfl rfl rfl rfl rfl rfl<|ab (ah (vq _ _ _ lz lz lz)) ?_
   refine aj rfl ?_
   refine bf (t := 45) rfl (fun hg4 => ?_) (fun hg4 => ?_)
   ·refine aB hg4 (aL hT rfl rfl rfl rfl (cs := [_, _, _, _, _, _]) rfl rfl) ?_
    refine aB hg4 (ah (qY _ _ _ lz lz lz)) ?_
    refine ab (aO rfl hg4 (rfl : _ = AV.p (.c _)))<|ag ?_
    refine aw rfl (fun hb5 => ?_) (fun hb5 => ?_)
    ·refine av hP<|ab (az (rfl : _ = AV.vec _))<|bH hT rfl rfl rfl rfl rfl rfl<|ab (bl hT rfl rfl rfl (es := [_, _, _, _, _, _]) rfl rfl rfl)<|RK.app ai (nT hT rfl rfl rfl rfl rfl rfl rfl (f := ⟨p.2, q.2, ((q.2 * q.2 + N) / (4 * p.2))⟩) rfl (by omega) (by decide)) ?_
     refine ab (bn (rfl : _ = AV.vec _))<|ag<|dy 52 1000 rfl rfl rfl ?_
     refine av hP<|aj rfl<|bI rfl rfl ?_
     refine ak rfl<|ag ?_
     refine ⟨(q.1 ++ [⟨p.2, q.2, ((q.2 * q.2 + N) / (4 * p.2))⟩], q.2 + 1), ⟨GY hJ hb2_ (by rw [rI hz, hg4, hb5]; rfl), by simp only; omega, by simp only; omega, by simp only [List.length_append, List.length_singleton]; omega⟩, by simp only; omega, aE ⟨.refl _, .refl _, .refl _, .refl _, trivial⟩ ⟨rfl, trivial⟩⟩
    refine aq<|av hP<|aj rfl<|bI rfl rfl ?_
    refine ak rfl<|ag ?_
    refine ⟨(q.1, q.2 + 1), ⟨vQ hJ hb2_ (by rw [rI hz, hg4, hb5]; rfl), by simp only; omega, by simp only; omega, by simp only; omega⟩, by simp only; omega, aE ⟨.refl _, .refl _, .refl _, .refl _, trivial⟩ ⟨rfl, trivial⟩⟩
   refine bd hg4 ?_
   refine bd hg4 ?_
   refine ab (aN rfl hg4 (rfl : _ = AV.p (.c _)))<|ag<|aP rfl rfl<|aq<|av hP<|aj rfl<|bI rfl rfl ?_
   refine ak rfl<|ag ?_
   refine ⟨(q.1, q.2 + 1), ⟨vQ hJ hb2_ (by rw [rI hz, hg4]; rfl), by simp only; omega, by simp only; omega, by simp only; omega⟩, by simp only; omega, aE ⟨.refl _, .refl _, .refl _, .refl _, trivial⟩ ⟨rfl, trivial⟩⟩
  have hb2_ := of_decide_eq_false hb2
  refine aZ<|av hP<|aj rfl<|bI rfl rfl ?_
  refine ak rfl<|ag ?_
  refine ⟨(q.1, p.2 + 1), ⟨GZ hJ hb2_, by omega, by omega, by simp only; omega⟩, by simp only; omega, aE ⟨.refl _, .refl _, .refl _, trivial⟩ ⟨rfl, trivial⟩⟩
 have hb1_ := of_decide_eq_false hb1
 refine aZ<|ae hP<|ab (az (rfl : _ = AV.vec _))<|ab (bn (rfl : _ = AV.vec _))<|ag<|mO (t := 2) rfl rfl ?_
 refine am<|E1 rfl rfl ?_
 exact aG (by rw [G0 hI hb1_])
theorem Dj (D i0 i1 i2 i3 m0 m1 m2 m3 : Nat) (_hD : D < 65536) (_g0 : i0 < 65536) (_g1 : i1 < 65536) (_g2 : i2 < 65536) (_g3 : i3 < 65536) (_k0 : m0 < 256) (_k1 : m1 < 256) (_k2 : m2 < 256) (_k3 : m3 < 256) :
  aF Tryz.prog 11 [.p (.a [.v (.int .u16 (D : Int)), .v (.int .u16 (i0 : Int)), .v (.int .u16 (i1 : Int)), .v (.int .u16 (i2 : Int)), .v (.int .u16 (i3 : Int)), .v (.int .u8 (m0 : Int)), .v (.int .u8 (m1 : Int)), .v (.int .u8 (m2 : Int)), .v (.int .u8 (m3 : Int))])] (Z (szz D)) := by
 obtain ⟨s1, s2, s3, s4, s5⟩ := eD D
 have d1 := Int.emod_nonneg (D : Int) (show (2000 : Int) ≠ 0 by omega)
 have d2 := Int.emod_lt_of_pos (D : Int) (show (0 : Int) < 2000 by omega)
 refine aK Tryz.func11 rfl rfl rfl rfl ?_
 refine ae hP<|an ai (aI rfl rfl)<|ak rfl<|ag<|ae hP<|aH hT rfl rfl rfl rfl rfl rfl<|a7 hT rfl rfl rfl rfl ?_
 refine ab (b7 rfl rfl (by decide) (c := (D : Int) % 2000) (Int.tmod_eq_emod_of_nonneg (by omega))) ?_
 refine ab (bh hT rfl rfl rfl rfl (IntWalk.i64_in _ (by omega))) ?_
 refine bI rfl rfl ?_
 refine ak rfl<|ag<|ao<|aA<|bp (ι := Int) (fun n => stL [(3, Z n)] []) (fun n => 3 + (D : Int) % 2000 ≤ n ∧ n ≤ szz D) (fun n => (szz D - n).toNat) (3 + (D : Int) % 2000) ⟨Int.le_refl _, s1⟩ (aE ⟨.refl _, trivial⟩ trivial) ?_
 rintro n ⟨hn1, hn2⟩
 refine ao<|ae hP<|aj rfl<|ab (b7 rfl rfl (by decide) (c := n % 4) (Int.tmod_eq_emod_of_nonneg (by omega))) ?_
 refine ab (bB rfl rfl)<|aj rfl ?_
 refine bf (t := 12) rfl (fun hg1 => ?_) (fun hg1 => ?_)
 ·have hg1_ := cy hg1
  refine aB hg1 (az (rfl : _ = AV.p (.c _))) ?_
  refine aB hg1 (b7 rfl rfl (by decide) (c := n % 4) (Int.tmod_eq_emod_of_nonneg (by omega))) ?_
  refine aB hg1 (bB rfl rfl) ?_
  refine ab (aO rfl hg1 (rfl : _ = AV.p (.c _)))<|ag ?_
  refine aw rfl (fun hb2 => ?_) (fun hb2 => ?_)
  ·have hb2_ := cy hb2
   refine aq<|aA<|av hP<|aj rfl<|bI rfl rfl ?_
   refine ak rfl<|ag ?_
   have hne : n ≠ szz D := by
    rintro rfl
    have := cy hg1
    have := cy hb2
    omega
   refine ⟨n + 1, ⟨by omega, by omega⟩, by omega, aE ⟨.refl _, trivial⟩ trivial⟩
  have hb2_ := cf hb2
  refine aZ<|ae hP<|aj rfl<|ak rfl<|ag<|am<|E1 rfl rfl ?_
  exact aJ (s5 n hn1 hn2 (.inr (cf hb2)))
 have hg1_ := cf hg1
 iterate 3 refine bd hg1 ?_
 refine ab (aN rfl hg1 (rfl : _ = AV.p (.c _)))<|ag<|aP rfl rfl<|aZ<|ae hP<|aj rfl<|ak rfl<|ag<|am<|E1 rfl rfl ?_
 exact aJ (s5 n hn1 hn2 (.inl (cf hg1)))
theorem zC (D i0 i1 i2 i3 m0 m1 m2 m3 : Nat) (hD : D < 65536) (g0 : i0 < 65536) (g1 : i1 < 65536) (g2 : i2 < 65536) (g3 : i3 < 65536) (k0 : m0 < 256) (k1 : m1 < 256) (k2 : m2 < 256) (k3 : m3 < 256) :
  aF Tryz.prog 22 [.p (.a [.v (.int .u16 (D : Int)), .v (.int .u16 (i0 : Int)), .v (.int .u16 (i1 : Int)), .v (.int .u16 (i2 : Int)), .v (.int .u16 (i3 : Int)), .v (.int .u8 (m0 : Int)), .v (.int .u8 (m1 : Int)), .v (.int .u8 (m2 : Int)), .v (.int .u8 (m3 : Int))]), Z 0] (FA (mkF D i0 m0).a (mkF D i0 m0).b (mkF D i0 m0).c) := by
 obtain ⟨_, s2, s3, s4, _⟩ := eD D
 have hlp := uy D
 obtain ⟨pa, pb, pc⟩ := Jb D i0
 obtain ⟨ta, tb, tc, td⟩ := FR k0
 have e1 := Int.emod_nonneg (i0 : Int) (show (((lst (szz D)).length : Nat) : Int) ≠ 0 by omega)
 have e2 := Int.emod_lt_of_pos (i0 : Int) (show (0 : Int) < (((lst (szz D)).length : Nat) : Int) by omega)
 have cu := Di m0 k0
 refine aK Tryz.func22 rfl rfl rfl rfl ?_
 refine ae hP<|an ai (aI rfl rfl)<|an ai (ay hT rfl rfl)<|ag<|ae hP<|ab (aL hT rfl rfl rfl rfl (cs := [_, _, _, _, _, _, _, _, _]) rfl rfl)<|ab (ah (Dj _ _ _ _ _ _ _ _ _ hD g0 g1 g2 g3 k0 k1 k2 k3)) ?_
 refine ab (ah (Dk _ (by omega) (by omega))) ?_
 refine ak rfl<|ag<|ae hP<|aj rfl<|aj rfl<|ab (b7 rfl rfl (by decide) (c := 0) (by decide)) ?_
 refine aH hT rfl rfl rfl rfl rfl rfl<|ab (aT hT rfl rfl rfl rfl rfl (by first | decide | omega)) ?_
 refine a7 hT rfl rfl rfl rfl ?_
 refine ab (bh hT rfl rfl rfl rfl (IntWalk.i64_in _ (by omega))) ?_
 refine aj rfl<|ab (aU hT rfl rfl rfl (by rfl)) ?_
 refine ab (b7 rfl rfl (by omega) (c := (i0 : Int) % ((lst (szz D)).length : Nat)) (Int.tmod_eq_emod_of_nonneg (by omega))) ?_
 refine ab (gu hT rfl rfl rfl rfl rfl rfl (by omega)) ?_
 refine ab (a6 hT rfl rfl rfl (cs := FC (pik D i0)) rfl rfl) ?_
 refine an ai (ay hT rfl rfl)<|aD hT rfl rfl rfl rfl rfl rfl rfl<|ag<|ao<|ae hP<|aj rfl<|ab (b7 rfl rfl (by decide) (c := 0) (by decide)) ?_
 refine aH hT rfl rfl rfl rfl rfl rfl<|ab (aT hT rfl rfl rfl rfl rfl (by first | decide | omega)) ?_
 refine a7 hT rfl rfl rfl rfl ?_
 refine ab (b7 rfl rfl (by decide) (c := (m0 : Int) % 4) (Int.tmod_eq_emod_of_nonneg (by omega))) ?_
 refine ab (br rfl rfl)<|ag ?_
 refine aw rfl (fun hb1 => ?_) (fun hb1 => ?_)
 ·have hb1_ := bT hb1
  refine ae hP<|bH hT rfl rfl rfl rfl rfl rfl<|aD hT rfl rfl rfl rfl rfl rfl rfl<|ag<|am ?_
  refine bV rfl (.inr rfl) (aQ hT rfl rfl rfl rfl (cs := [_, _, _, _, _, _]) rfl rfl) ?_ bw
  exact aG (by rw [mkF, if_pos (by omega)])
 have hb1_ := bF hb1
 refine aq<|ae hP<|bH hT rfl rfl rfl rfl rfl rfl<|aj rfl<|ab (b7 rfl rfl (by decide) (c := 0) (by decide)) ?_
 refine aH hT rfl rfl rfl rfl rfl rfl<|ab (aT hT rfl rfl rfl rfl rfl (by first | decide | omega)) ?_
 refine a7 hT rfl rfl rfl rfl ?_
 refine ab (ah cu) ?_
 refine ab (ah (zE _ _ _ _ _ _ _ lz lz lz lz lz lz lz)) ?_
 refine aD hT rfl rfl rfl rfl rfl rfl rfl<|ag<|am ?_
 refine bV rfl (.inr rfl) (aQ hT rfl rfl rfl rfl (cs := [_, _, _, _, _, _]) rfl rfl) ?_ bw
 exact aG (by rw [mkF, if_neg (by omega)]; rfl)
end
section
open Go Go.AM
theorem Hs (b : Bool) :
  aF Tryz.prog 188 [.p (.c (.v (.bool b)))] (Z (sgB b)) := by
 refine aK Tryz.func188 rfl rfl rfl rfl ?_
 refine ae hP<|ak rfl<|ag<|ao<|ae hP<|aj rfl<|ag ?_
 refine aw rfl (fun hb1 => ?_) (fun hb1 => ?_)
 ·refine ae hP<|ak rfl<|ag<|am<|E1 rfl rfl ?_
  exact aJ (Iq hb1)
 refine aq<|ae hP<|ak rfl<|ag<|am<|E1 rfl rfl ?_
 exact aJ (Ir hb1)
theorem u9 (l : List Int) (x : Int) (hl : (l.length : Int) ≤ 1000000) :
  aF Tryz.prog 222 [.p (.c (IS l)), Z x] (Z (ixV l x)) := by
 refine aK Tryz.func222 rfl rfl rfl rfl ?_
 refine ae hP<|ak rfl<|ag<|ao<|ae hP<|aj rfl<|ab (aU hT rfl rfl rfl (by rfl)) ?_
 refine aj rfl<|ag<|aA<|bp (ι := Nat) (fun k => stL [(0, .p (.c (IS l))), (1, Z x), (7, Z (l.length : Int)), (8, Z (k : Int))] []) (fun k => k ≤ l.length ∧ k ≤ l.findIdx (· == x)) (fun k => l.length - k) 0 ⟨Nat.zero_le _, Nat.zero_le _⟩ (aE ⟨.refl _, .refl _, .refl _, .refl _, trivial⟩ trivial) ?_
 rintro k ⟨hk1, hk2⟩
 refine ae hP<|ab (bi rfl rfl)<|ag<|ao ?_
 refine aw rfl (fun hb1 => ?_) (fun hb1 => ?_)
 ·have hb1_ := of_decide_eq_true hb1
  refine aq<|ao<|aA<|ae hP<|aj rfl<|ak rfl<|ag<|ae hP<|aj rfl<|aj rfl<|aj rfl<|ab (lG hT (n := k) rfl rfl rfl rfl rfl rfl (by omega)) ?_
  refine ab (aS hT rfl rfl rfl rfl)<|ab (br rfl rfl)<|ag ?_
  refine aw rfl (fun hb2 => ?_) (fun hb2 => ?_)
  ·have hb2_ := bT hb2
   refine ae hP<|aj rfl<|ak rfl<|ag<|am<|E1 rfl rfl ?_
   exact aJ (Hf hk2 hb1_ hb2_).symm
  have hb2_ := bF hb2
  refine aq<|av hP<|bI rfl rfl ?_
  refine aj rfl<|ag ?_
  have hn2 := v7 hk2 hb1_ hb2_
  refine ⟨k + 1, ⟨by omega, hn2⟩, by omega, aE ⟨.refl _, .refl _, .refl _, aJ (by omega), trivial⟩ trivial⟩
 have hb1_ := of_decide_eq_false hb1
 refine aZ<|ae hP<|ak rfl<|ag<|am<|E1 rfl rfl ?_
 exact aJ (Hg hk2 hb1_).symm
theorem p7 (l : List Int) (x : Int) (hl : (l.length : Int) ≤ 1000000) :
  aF Tryz.prog 189 [.p (.c (IS l)), Z x] (B (oL l x)) := by
 refine aK Tryz.func189 rfl rfl rfl rfl ?_
 refine ae hP<|ak rfl<|ag<|ae hP<|aj rfl<|aj rfl<|ab (ah (u9 l x hl)) ?_
 refine ab (dc rfl rfl)<|ak rfl<|ag<|am<|E1 rfl rfl ?_
 exact .refl _
theorem vZ (m : Int) (l : List Int) (hm : 0 ≤ m) (hl : (l.length : Int) ≤ 1000000) :
  aF Tryz.prog 187 [Z m, .ip [IS l]] (Z (sgB (oL l (m % 8)))) := by
 refine aK Tryz.func187 rfl rfl rfl rfl ?_
 refine ae hP<|ak rfl<|ag<|ae hP<|ab (aS hT rfl rfl rfl (by first | rfl | exact ce (by omega))) ?_
 refine aj rfl<|ab (b7 rfl rfl (by decide) (c := m % 8) (Int.tmod_eq_emod_of_nonneg hm)) ?_
 refine ab (ah (p7 l (m % 8) hl)) ?_
 refine ab (ah (Hs _)) ?_
 refine ak rfl<|ag<|am<|E1 rfl rfl ?_
 exact .refl _
theorem Ht (m p : Int) (hm : bC m) (hp : bC p) :
  aF Tryz.prog 186 [Z m, .ip [IC p]] (Z (kr m p)) := by
 have im : LB m 6 := ⟨by unfold L; unfold bC at hm; omega⟩
 have ip : LB p 6 := ⟨by unfold L; unfold bC at hp; omega⟩
 refine aK Tryz.func186 rfl rfl rfl rfl ?_
 refine ae hP<|ak rfl<|ag<|ae hP<|aj rfl<|ab (ah (ei m hm)) ?_
 refine ab (aS hT rfl rfl rfl (by first | rfl | exact ce (by omega))) ?_
 refine ab (ah (ei p hp)) ?_
 refine ab (ah (iF _ _ lz lz)) ?_
 refine ak rfl<|ag<|am<|E1 rfl rfl ?_
 exact .refl _
theorem lL (c : Int) (l : List Int) :
  aF Tryz.prog 144 [Z c, .p (.c (IS l))] (.p (.a [IC c, .fn 187 [.ip [IS l]]])) := by
 refine aK Tryz.func144 rfl rfl rfl rfl ?_
 refine ae hP<|an ai (aI rfl rfl)<|an ai (ay hT rfl rfl)<|ag<|cL (t := 3) rfl rfl ?_
 refine ae hP<|aj rfl<|ab (jA rfl)<|ab (aV hT rfl rfl rfl (es := [_, _]) rfl)<|aD hT rfl rfl rfl rfl rfl rfl rfl<|ag<|am<|E2 hT rfl rfl rfl rfl rfl rfl rfl ?_
 exact .refl _
theorem Jt (p : Int) (h : 3 ≤ p) (ho : p % 2 = 1) :
  aF Tryz.prog 143 [Z p] (.p (.a (chC 186 187 p))) := by
 refine aK Tryz.func143 rfl rfl rfl rfl ?_
 refine ae hP<|an ai (aI rfl rfl)<|an ai (ay hT rfl rfl)<|ag<|cL (t := 1) rfl rfl ?_
 refine ae hP<|ab (aS hT rfl rfl rfl (by first | rfl | exact ce (by omega))) ?_
 refine ab (jA rfl)<|ab (aV hT rfl rfl rfl (es := [_, _]) rfl)<|aD hT rfl rfl rfl rfl rfl rfl rfl<|ag<|am<|E2 hT rfl rfl rfl rfl rfl rfl rfl ?_
 exact aG (by rw [← DI h ho]; rfl)
end
section
open Go Go.AM
theorem nY (d : Int) (h0 : d < 0) (h1 : -4194304 ≤ d) :
  aF Tryz.prog 78 [Z d] (.p (.c (CS 186 187 (chs d)))) := by
 refine aK Tryz.func78 rfl rfl rfl rfl ?_
 refine ae hP<|ak rfl<|ag<|ae hP<|ak rfl<|ag<|ni 3 1000 2 142 rfl rfl ?_
 refine ae hP<|aj rfl<|ab (gq rfl (c := -d) (by rw [IntWalk.i64_in _ (by omega)]; omega)) ?_
 refine ak rfl<|ag<|ao<|aA<|bp (ι := Int) (fun m => stL [(0, Z d), (3, .vec 1000), (4, Z m)] [(1000, CB 186 187 142 [])]) (fun m => (0 < m ∧ m ≤ 4194304) ∧ rmp m 2 = (rmp (-d) 2)) (fun m => m.toNat) (-d) ⟨by omega, rfl⟩ (aE ⟨.refl _, .refl _, .refl _, trivial⟩ ⟨rfl, trivial⟩) ?_
 rintro m ⟨hm, hr⟩
 refine ao<|ae hP<|aj rfl<|ab (b7 rfl rfl (by omega) (c := m % 2) (Int.tmod_eq_emod_of_nonneg (by omega))) ?_
 refine ab (br rfl rfl)<|ag ?_
 refine aw rfl (fun hb1 => ?_) (fun hb1 => ?_)
 ·have hb1_ := bT hb1
  refine aq<|aA<|av hP<|aj rfl<|ab (dm rfl rfl (by omega) (c := m / 2) (by rw [Int.tdiv_eq_ediv_of_nonneg (by omega), IntWalk.i64_in _ (by omega)])) ?_
  refine ak rfl<|ag ?_
  have hdd := iA hm.1 (by decide) hb1_
  refine ⟨m / 2, ⟨by omega, by rw [ji (by decide) hm.1 hb1_, hr]⟩, by omega, aE ⟨.refl _, .refl _, .refl _, trivial⟩ ⟨rfl, trivial⟩⟩
 have hb1_ := bF hb1
 refine aZ<|ao<|ae hP<|ak rfl<|ag<|aA ?_
 have hm2 : m = (rmp (-d) 2) := by rw [← hr, ke hb1_]
 refine bp (ι := Int × Int × List Int) (fun q => stL [(0, Z d), (3, .vec 1000), (4, Z q.1), (5, Z q.2.1)] [(1000, CB 186 187 142 q.2.2)]) (fun q => OcI (rmp (-d) 2) q.1 q.2.1 q.2.2) (fun q => ocM q.1 q.2.1) (m, 3, []) (by have := OcI.start (n := m) (by omega) (by omega) (by omega); rw [hm2] at this ⊢; exact this) (aE ⟨.refl _, .refl _, .refl _, .refl _, trivial⟩ ⟨rfl, trivial⟩) ?_
 intro q i
 have in1 := i.n1
 have inb := i.nb
 have ip3 := i.p3
 have il := i.len.1
 refine ao<|ae hP<|aj rfl<|ab (bU rfl rfl)<|ag ?_
 refine aw rfl (fun hb2 => ?_) (fun hb2 => ?_)
 ·have hb2_ := of_decide_eq_true hb2
  have ipb := i.pb hb2_
  have hsq := lx (x := q.2.1) (m := 2051) (by omega)
  refine aq<|ao<|aA<|cC (ι := Int) (fun r => stL [(0, Z d), (3, .vec 1000), (4, Z q.1), (5, Z r)] [(1000, CB 186 187 142 q.2.2)]) (fun r => QI q.1 q.2.1 r) ?_ ?_
  ·refine ae hP<|aj rfl<|aj rfl<|ab (bX rfl rfl (by first | exact IntWalk.i64_in _ (by omega) | rfl)) ?_
   refine aj rfl<|ab (bU rfl rfl)<|ag ?_
   refine aw rfl (fun hb3 => ?_) (fun hb3 => ?_)
   ·have hb3_ := of_decide_eq_true hb3
    refine av hP<|aj rfl<|ak rfl<|ag ?_
    refine ⟨q.1, .inl ⟨rfl, hb3_⟩, aE ⟨.refl _, .refl _, .refl _, .refl _, trivial⟩ ⟨rfl, trivial⟩⟩
   have hb3_ := of_decide_eq_false hb3
   refine aq ?_
   refine ⟨q.2.1, .inr ⟨rfl, hb3_⟩, aE ⟨.refl _, .refl _, .refl _, .refl _, trivial⟩ ⟨rfl, trivial⟩⟩
  intro r hQ
  obtain ⟨hq3, hqo, hqb⟩ := i.q3 hb2_ hQ
  refine ao<|ae hP<|aj rfl<|aj rfl<|ab (b7 rfl rfl (by omega) (c := q.1 % r) (Int.tmod_eq_emod_of_nonneg (by omega))) ?_
  refine ab (br rfl rfl)<|ag ?_
  refine aw rfl (fun hb4 => ?_) (fun hb4 => ?_)
  ·have hb4_ := bT hb4
   obtain ⟨out', ho', hR⟩ : ∃ o, o = q.2.2 ++ [r] ∧ RI q.1 q.2.1 r q.2.2 o := ⟨_, rfl, hQ.yes hb4_⟩
   refine av hP<|ab (az (rfl : _ = AV.vec _))<|aj rfl<|ab (ah (Jt r hq3 hqo)) ?_
   refine ab (bl hT rfl rfl rfl (es := [_, _]) rfl rfl rfl)<|RK.app ai (e9 (fo := 186) (fs := 187) (c := [r]) hT rfl rfl rfl rfl rfl rfl rfl rfl rfl (by simp only [List.length_cons, List.length_nil]; omega) (by decide)) ?_
   refine ab (bn (rfl : _ = AV.vec _))<|ag<|dy 34 1000 rfl rfl rfl ?_
   refine aA<|bp (ι := Int) (fun m => stL [(0, Z d), (3, .vec 1000), (4, Z m), (5, Z r)] [(1000, CB 186 187 142 out')]) (fun m => (0 < m ∧ m ≤ 4194304) ∧ rmp m r = rmp q.1 r) (fun m => m.toNat) q.1 ⟨by omega, rfl⟩ (aE ⟨.refl _, .refl _, .refl _, .refl _, trivial⟩ ⟨Eq.trans rfl (congrArg (fun x => some (CB 186 187 142 x)) ho'.symm), trivial⟩) ?_
   rintro m ⟨hm, hrm⟩
   refine ao<|ae hP<|aj rfl<|aj rfl<|ab (b7 rfl rfl (by omega) (c := m % r) (Int.tmod_eq_emod_of_nonneg (by omega))) ?_
   refine ab (br rfl rfl)<|ag ?_
   refine aw rfl (fun hb5 => ?_) (fun hb5 => ?_)
   ·have hb5_ := bT hb5
    have hdd := iA hm.1 (by omega) ‹m % r = 0›
    refine aq<|aA<|av hP<|aj rfl<|aj rfl<|ab (dm rfl rfl (by omega) (c := m / r) (by rw [Int.tdiv_eq_ediv_of_nonneg (by omega), IntWalk.i64_in _ (by omega)])) ?_
    refine ak rfl<|ag ?_
    refine ⟨m / r, ⟨by omega, by rw [ji (by omega) hm.1 ‹m % r = 0›, hrm]⟩, by omega, aE ⟨.refl _, .refl _, .refl _, .refl _, trivial⟩ ⟨rfl, trivial⟩⟩
   have hb5_ := bF hb5
   refine aZ<|av hP<|aj rfl<|bI rfl rfl ?_
   refine ak rfl<|ag ?_
   have hcl := i.close hb2_ hR
   have em : m = rmp q.1 r := by rw [← hrm, ke ‹m % r ≠ 0›]
   refine ⟨(rmp q.1 r, r + 2, out'), hcl.1, hcl.2, aE ⟨.refl _, .refl _, aJ em, .refl _, trivial⟩ ⟨rfl, trivial⟩⟩
  have hb4_ := bF hb4
  obtain ⟨out', ho', hR⟩ : ∃ o, o = q.2.2 ∧ RI q.1 q.2.1 r q.2.2 o := ⟨_, rfl, hQ.no hb2_ hb4_⟩
  refine aq<|aA<|bp (ι := Int) (fun m => stL [(0, Z d), (3, .vec 1000), (4, Z m), (5, Z r)] [(1000, CB 186 187 142 out')]) (fun m => (0 < m ∧ m ≤ 4194304) ∧ rmp m r = rmp q.1 r) (fun m => m.toNat) q.1 ⟨by omega, rfl⟩ (aE ⟨.refl _, .refl _, .refl _, .refl _, trivial⟩ ⟨Eq.trans rfl (congrArg (fun x => some (CB 186 187 142 x)) ho'.symm), trivial⟩) ?_
  rintro m ⟨hm, hrm⟩
  refine ao<|ae hP<|aj rfl<|aj rfl<|ab (b7 rfl rfl (by omega) (c := m % r) (Int.tmod_eq_emod_of_nonneg (by omega))) ?_
  refine ab (br rfl rfl)<|ag ?_
  refine aw rfl (fun hb6 => ?_) (fun hb6 => ?_)
  ·have hb6_ := bT hb6
   have hdd := iA hm.1 (by omega) ‹m % r = 0›
   refine aq<|aA<|av hP<|aj rfl<|aj rfl<|ab (dm rfl rfl (by omega) (c := m / r) (by rw [Int.tdiv_eq_ediv_of_nonneg (by omega), IntWalk.i64_in _ (by omega)])) ?_
   refine ak rfl<|ag ?_
   refine ⟨m / r, ⟨by omega, by rw [ji (by omega) hm.1 ‹m % r = 0›, hrm]⟩, by omega, aE ⟨.refl _, .refl _, .refl _, .refl _, trivial⟩ ⟨rfl, trivial⟩⟩
  have hb6_ := bF hb6
  refine aZ<|av hP<|aj rfl<|bI rfl rfl ?_
  refine ak rfl<|ag ?_
  have hcl := i.close hb2_ hR
  have em : m = rmp q.1 r := by rw [← hrm, ke ‹m % r ≠ 0›]
  refine ⟨(rmp q.1 r, r + 2, out'), hcl.1, hcl.2, aE ⟨.refl _, .refl _, aJ em, .refl _, trivial⟩ ⟨rfl, trivial⟩⟩
 have hb2_ := of_decide_eq_false hb2
 refine aZ<|ao<|ae hP<|aj rfl<|ab (b7 rfl rfl (by decide) (c := d.tmod 4) rfl) ?_
 refine ab (bB rfl rfl)<|ag ?_
 refine aw rfl (fun hb7 => ?_) (fun hb7 => ?_)
 ·have hb7_ := cy hb7
  refine ae hP<|ab (az (rfl : _ = AV.vec _))<|ab (bn (rfl : _ = AV.vec _))<|ag<|dX (t := 2) rfl rfl ?_
  refine am<|E1 rfl rfl ?_
  exact aG (by rw [i.fin hb2_, JE hb7_])
 have hb7_ := cf hb7
 refine aq<|ae hP<|ab (bl hT rfl rfl rfl (es := [_, _]) rfl rfl rfl)<|ab (ah (lL (-4) [1, 5])) ?_
 refine ab (bl hT rfl rfl rfl (es := [_, _]) rfl rfl rfl)<|ab (ah (lL 8 [1, 7])) ?_
 refine ab (bl hT rfl rfl rfl (es := [_, _]) rfl rfl rfl)<|ab (ah (lL (-8) [1, 3])) ?_
 refine an ai (ay hT rfl rfl)<|an ai (ay hT rfl rfl)<|an ai (ay hT rfl rfl)<|aD hT rfl rfl rfl rfl rfl rfl rfl<|aD hT rfl rfl rfl rfl rfl rfl rfl<|aD hT rfl rfl rfl rfl rfl rfl rfl<|ag<|ao<|ae hP<|aj rfl<|ab (gq rfl (c := -d) (by rw [IntWalk.i64_in _ (by omega)]; omega)) ?_
 refine ab (dm rfl rfl (by omega) (c := -d / 4) (by rw [Int.tdiv_eq_ediv_of_nonneg (by omega), IntWalk.i64_in _ (by omega)])) ?_
 refine ab (b7 rfl rfl (by omega) (c := -d / 4 % 8) (Int.tmod_eq_emod_of_nonneg (by omega))) ?_
 refine ag<|aA<|ae hP<|ab (br rfl rfl)<|ak rfl<|ag ?_
 refine aw rfl (fun hb8 => ?_) (fun hb8 => ?_)
 ·have hb8_ := bT hb8
  refine av hP<|ab (az (rfl : _ = AV.vec _))<|au hT rfl rfl rfl rfl rfl rfl<|au hT rfl rfl rfl rfl rfl rfl<|ab (bl hT rfl rfl rfl (es := [_, _, _, _]) rfl rfl rfl)<|RK.app ai (e9 (fo := 186) (fs := 187) (c := [-4, 8]) hT rfl rfl rfl rfl rfl rfl rfl rfl rfl (by simp only [List.length_cons, List.length_nil]; omega) (by decide)) ?_
  refine ab (bn (rfl : _ = AV.vec _))<|ag<|dy 62 1000 rfl rfl rfl ?_
  refine ae hP<|ab (az (rfl : _ = AV.vec _))<|ab (bn (rfl : _ = AV.vec _))<|ag<|dX (t := 2) rfl rfl ?_
  refine am<|E1 rfl rfl ?_
  exact aG (by rw [i.fin hb2_, mr hb7_ (Im hb7_ hb8_)])
 have hb8_ := bF hb8
 refine ao<|ae hP<|ab (br rfl rfl)<|ak rfl<|ag ?_
 refine aw rfl (fun hb9 => ?_) (fun hb9 => ?_)
 ·have hb9_ := bT hb9
  refine aq<|aY rfl hb9<|av hP<|ab (az (rfl : _ = AV.vec _))<|au hT rfl rfl rfl rfl rfl rfl<|ab (bl hT rfl rfl rfl (es := [_, _]) rfl rfl rfl)<|RK.app ai (e9 (fo := 186) (fs := 187) (c := [-4]) hT rfl rfl rfl rfl rfl rfl rfl rfl rfl (by simp only [List.length_cons, List.length_nil]; omega) (by decide)) ?_
  refine ab (bn (rfl : _ = AV.vec _))<|ag<|dy 70 1000 rfl rfl rfl ?_
  refine ae hP<|ab (az (rfl : _ = AV.vec _))<|ab (bn (rfl : _ = AV.vec _))<|ag<|dX (t := 2) rfl rfl ?_
  refine am<|E1 rfl rfl ?_
  exact aG (by rw [i.fin hb2_, mr hb7_ (u6 hb7_ hb8_ (.inl hb9_))])
 have hb9_ := bF hb9
 refine ae hP<|ab (br rfl rfl)<|ak rfl<|ag ?_
 refine aw rfl (fun hb10 => ?_) (fun hb10 => ?_)
 ·have hb10_ := bT hb10
  refine aq<|aY rfl hb10<|av hP<|ab (az (rfl : _ = AV.vec _))<|au hT rfl rfl rfl rfl rfl rfl<|ab (bl hT rfl rfl rfl (es := [_, _]) rfl rfl rfl)<|RK.app ai (e9 (fo := 186) (fs := 187) (c := [-4]) hT rfl rfl rfl rfl rfl rfl rfl rfl rfl (by simp only [List.length_cons, List.length_nil]; omega) (by decide)) ?_
  refine ab (bn (rfl : _ = AV.vec _))<|ag<|dy 70 1000 rfl rfl rfl ?_
  refine ae hP<|ab (az (rfl : _ = AV.vec _))<|ab (bn (rfl : _ = AV.vec _))<|ag<|dX (t := 2) rfl rfl ?_
  refine am<|E1 rfl rfl ?_
  exact aG (by rw [i.fin hb2_, mr hb7_ (u6 hb7_ hb8_ (.inr (.inl hb10_)))])
 have hb10_ := bF hb10
 refine av hP<|ab (br rfl rfl)<|ak rfl<|ag ?_
 refine aw rfl (fun hb11 => ?_) (fun hb11 => ?_)
 ·have hb11_ := bT hb11
  refine av hP<|ab (az (rfl : _ = AV.vec _))<|au hT rfl rfl rfl rfl rfl rfl<|ab (bl hT rfl rfl rfl (es := [_, _]) rfl rfl rfl)<|RK.app ai (e9 (fo := 186) (fs := 187) (c := [-4]) hT rfl rfl rfl rfl rfl rfl rfl rfl rfl (by simp only [List.length_cons, List.length_nil]; omega) (by decide)) ?_
  refine ab (bn (rfl : _ = AV.vec _))<|ag<|dy 70 1000 rfl rfl rfl ?_
  refine ae hP<|ab (az (rfl : _ = AV.vec _))<|ab (bn (rfl : _ = AV.vec _))<|ag<|dX (t := 2) rfl rfl ?_
  refine am<|E1 rfl rfl ?_
  exact aG (by rw [i.fin hb2_, mr hb7_ (u6 hb7_ hb8_ (.inr (.inr hb11_)))])
 have hb11_ := bF hb11
 refine ae hP<|ab (br rfl rfl)<|ak rfl<|ag ?_
 refine aw rfl (fun hb12 => ?_) (fun hb12 => ?_)
 ·have hb12_ := bT hb12
  refine av hP<|ab (az (rfl : _ = AV.vec _))<|au hT rfl rfl rfl rfl rfl rfl<|ab (bl hT rfl rfl rfl (es := [_, _]) rfl rfl rfl)<|RK.app ai (e9 (fo := 186) (fs := 187) (c := [-8]) hT rfl rfl rfl rfl rfl rfl rfl rfl rfl (by simp only [List.length_cons, List.length_nil]; omega) (by decide)) ?_
  refine ab (bn (rfl : _ = AV.vec _))<|ag<|dy 76 1000 rfl rfl rfl ?_
  refine ae hP<|ab (az (rfl : _ = AV.vec _))<|ab (bn (rfl : _ = AV.vec _))<|ag<|dX (t := 2) rfl rfl ?_
  refine am<|E1 rfl rfl ?_
  exact aG (by rw [i.fin hb2_, mr hb7_ (Il hb7_ hb12_)])
 have hb12_ := bF hb12
 refine ae hP<|ab (br rfl rfl)<|ak rfl<|ag ?_
 refine aw rfl (fun hb13 => ?_) (fun hb13 => ?_)
 ·have hb13_ := bT hb13
  refine av hP<|ab (az (rfl : _ = AV.vec _))<|au hT rfl rfl rfl rfl rfl rfl<|ab (bl hT rfl rfl rfl (es := [_, _]) rfl rfl rfl)<|RK.app ai (e9 (fo := 186) (fs := 187) (c := [8]) hT rfl rfl rfl rfl rfl rfl rfl rfl rfl (by simp only [List.length_cons, List.length_nil]; omega) (by decide)) ?_
  refine ab (bn (rfl : _ = AV.vec _))<|ag<|dy 82 1000 rfl rfl rfl ?_
  refine ae hP<|ab (az (rfl : _ = AV.vec _))<|ab (bn (rfl : _ = AV.vec _))<|ag<|dX (t := 2) rfl rfl ?_
  refine am<|E1 rfl rfl ?_
  exact aG (by rw [i.fin hb2_, mr hb7_ (Ik hb7_ hb13_)])
 have hb13_ := bF hb13
 refine aq<|ae hP<|ab (az (rfl : _ = AV.vec _))<|ab (bn (rfl : _ = AV.vec _))<|ag<|dX (t := 2) rfl rfl ?_
 refine am<|E1 rfl rfl ?_
 exact aG (by rw [i.fin hb2_, Ij hb7_ hb8_ hb9_ hb10_ hb11_ hb12_ hb13_])
end
section
open Go Go.AM
theorem Ad (x : Int) (hx : 18446744073709551616 ≤ x.natAbs) :
  aF Tryz.prog 125 [I x] (.t [.c (.v (.int .i64 (lwV x))), PB (lwO x)]) := by
 have hl : ¬ (wl x.natAbs).length ≤ 2 := fun h => by have := ki h; omega
 refine aK Tryz.func125 rfl rfl rfl rfl ?_
 refine ae hP<|an ai (aI rfl rfl)<|ak rfl<|ak rfl<|ag<|ao<|ae hP<|aH hT rfl rfl rfl rfl rfl rfl<|a7 hT rfl rfl rfl rfl ?_
 refine ab (aU hT rfl rfl rfl rfl)<|ab (bU rfl rfl)<|ag<|aY rfl (decide_eq_true (by omega)) ?_
 refine ae hP<|ak rfl<|ak rfl<|ag<|am<|E11 rfl rfl rfl ?_
 exact aG (Jg (by omega))
theorem Ae (x : Int) : aF Tryz.prog 125 [I x] (.t [.c (.v (.int .i64 (lwV x))), PB (lwO x)]) := by
 by_cases h : x.natAbs < 9223372036854775808
 ·have h1 := jo x (by omega) (by omega)
  have h2 := ux (a := x) (by omega)
  rw [h2.1, h2.2]; exact h1
 by_cases h1 : x.natAbs < 18446744073709551616
 ·exact Ac x (by omega)
 exact Ad x (by omega)
theorem uF (d : Int) (hd : L 40 d) :
  aF Tryz.prog 142 [I d] (.t [PE (gnV d), PE (szE d)]) := by
 have id0 : LB d 40 := ⟨hd⟩
 have hm0 := Int.emod_nonneg d (show (4 : Int) ≠ 0 by omega)
 have hm1 := Int.emod_lt_of_pos d (show (0 : Int) < 4 by omega)
 refine aK Tryz.func142 rfl rfl rfl rfl ?_
 refine ae hP<|an ai (aI rfl rfl)<|ak rfl<|ak rfl<|ag<|ae hP<|au hT rfl rfl rfl rfl rfl rfl<|ab (ah (ei 4 (by decide))) ?_
 refine ab (ah (dK d 4 lz lz (by decide))) ?_
 refine ab (az (rfl : _ = AV.t _))<|ab (aC rfl (v := .a _) rfl)<|ab (aC rfl (v := .a _) rfl)<|ab (aC rfl (v := .c _) rfl)<|an ai (ay hT rfl rfl)<|an ai (ay hT rfl rfl)<|aD hT rfl rfl rfl rfl rfl rfl rfl<|aD hT rfl rfl rfl rfl rfl rfl rfl<|ak rfl<|ag<|ae hP<|au hT rfl rfl rfl rfl rfl rfl<|ab (ah (Ae d)) ?_
 refine ab (az (rfl : _ = AV.t _))<|ab (aC rfl (v := .c _) rfl)<|ab (aC rfl (v := .c _) rfl)<|ak rfl<|ak rfl<|ag<|ao<|aA<|ae hP<|au hT rfl rfl rfl rfl rfl rfl<|ab (ah (de _)) ?_
 refine ab (dc rfl rfl)<|aj rfl ?_
 refine bf (t := 25) rfl (fun hg1 => ?_) (fun hg1 => ?_)
 ·have hg1_ := of_decide_eq_true hg1
  iterate 4 refine bd hg1 ?_
  refine ab (aO rfl hg1 (rfl : _ = AV.p (.c _)))<|ak rfl<|ag<|aY rfl rfl<|ae hP<|ak rfl<|ak rfl<|ag<|am<|E11 rfl rfl rfl ?_
  exact aG (Hn (.inl (sgn_ge_iff.1 hg1_)))
 have hg1_ := of_decide_eq_false hg1
 refine aB hg1 (aL hT rfl rfl rfl rfl (cs := [_, _]) rfl rfl) ?_
 refine aB hg1 (ah (ei 1 (by decide))) ?_
 refine aB hg1 (ah (da _ _)) ?_
 refine aB hg1 (bU rfl rfl) ?_
 refine ab (aN rfl hg1 (rfl : _ = AV.p (.c _)))<|ak rfl<|ag ?_
 refine aw rfl (fun hb2 => ?_) (fun hb2 => ?_)
 ·have hb2_ := of_decide_eq_true hb2
  refine ae hP<|ak rfl<|ak rfl<|ag<|am<|E11 rfl rfl rfl ?_
  exact aG (Hn (.inr (cmpI_gt_zero.1 hb2_)))
 have hb2_ := of_decide_eq_false hb2
 have hn : ¬ (0 ≤ d ∨ d % 4 > 1) := fun h => h.elim (fun x => hg1_ (sgn_ge_iff.2 x)) (fun x => hb2_ (cmpI_gt_zero.2 x))
 refine ae hP<|aj rfl<|ab (bE rfl)<|aj rfl ?_
 refine bf (t := 34) rfl (fun hg3 => ?_) (fun hg3 => ?_)
 ·have hg3_ := (cB hg3)
  refine bd hg3 ?_
  refine bd hg3 ?_
  refine ab (aO rfl hg3 (rfl : _ = AV.p (.c _)))<|ak rfl<|ag<|aY rfl rfl<|ae hP<|ak rfl<|ak rfl<|ag<|am<|E11 rfl rfl rfl ?_
  exact aG (Ho hn (by have := Ji hg3_; omega))
 have hg3_ := (cq hg3)
 have hly := ux (lwO_iff.1 hg3_)
 refine aB hg3 (az (rfl : _ = AV.p (.c _))) ?_
 refine aB hg3 (bi rfl rfl) ?_
 refine ab (aN rfl hg3 (rfl : _ = AV.p (.c _)))<|ak rfl<|ag ?_
 refine aw rfl (fun hb4 => ?_) (fun hb4 => ?_)
 ·have hb4_ := of_decide_eq_true hb4
  refine ae hP<|ak rfl<|ak rfl<|ag<|am<|E11 rfl rfl rfl ?_
  exact aG (Ho hn (by have := hly.2; omega))
 have hb4_ := of_decide_eq_false hb4
 refine aq<|ae hP<|aj rfl<|ak rfl<|ak rfl<|ag<|am<|E11 rfl rfl rfl ?_
 exact aG (by rw [hly.2]; exact Ks hn (by have := hly.2; omega))
theorem ss (d : Int) (hd : L 40 d) :
  aF Tryz.prog 139 [I d] (.t [.c (IS (chE d)), PE (szE d)]) := by
 have id0 : LB d 40 := ⟨hd⟩
 refine aK Tryz.func139 rfl rfl rfl rfl ?_
 refine ae hP<|an ai (aI rfl rfl)<|ak rfl<|ak rfl<|ag<|ae hP<|au hT rfl rfl rfl rfl rfl rfl<|ab (ah (uF _ hd)) ?_
 refine ab (az (rfl : _ = AV.t _))<|ab (aC rfl (v := .c _) rfl)<|ab (aC rfl (v := .c _) rfl)<|ak rfl<|ak rfl<|ag<|ao<|ae hP<|aj rfl<|ab (bB rfl rfl)<|ag ?_
 refine aw rfl (fun hb1 => ?_) (fun hb1 => ?_)
 ·have hb1_ := cy hb1
  refine ae hP<|aj rfl<|ak rfl<|ak rfl<|ag<|am<|E11 rfl rfl rfl ?_
  exact (by rw [JH hb1_]; exact Sub.tup ⟨DSub.nil_sl, DSub.refl _, trivial⟩)
 have hb1_ := cf hb1
 have he : szE d = 0 := hb1_
 obtain ⟨e1, e2, e3⟩ := vX he
 have cAs : aF Tryz.prog 78 [Z (gnV d)] (.p (.c (CS 186 187 (chs d)))) := by rw [e1]; exact nY d e2 e3
 have hcl := oX e2 e3
 generalize hl : chs d = l at cAs hcl
 refine aq<|ae hP<|ak rfl<|ag<|ni 6 1000 1 3 rfl rfl ?_
 refine ao<|ae hP<|aj rfl<|ab (ah cAs) ?_
 refine ab (aU hT rfl rfl rfl (by rfl)) ?_
 refine aj rfl<|ag<|aA<|bp (ι := Nat) (fun k => stL [(6, .vec 1000), (18, .p (.c (CS 186 187 l))), (19, Z (l.length : Int)), (20, Z (k : Int))] [(1000, IB 3 (l.take k))]) (fun k => k ≤ l.length) (fun k => l.length - k) 0 (Nat.zero_le _) (aE ⟨.refl _, .refl _, .refl _, .refl _, trivial⟩ ⟨rfl, trivial⟩) ?_
 intro k hk
 refine ae hP<|ab (bi rfl rfl)<|ag<|ao ?_
 refine aw rfl (fun hb2 => ?_) (fun hb2 => ?_)
 ·have hb2_ := of_decide_eq_true hb2
  refine aq<|ao<|aA<|ae hP<|ab (pC (fo := 186) (fs := 187) (n := (k : Int)) hT rfl rfl rfl rfl rfl rfl (by omega)) ?_
  refine ab (a6 hT rfl rfl rfl (cs := chC 186 187 (l.getD k 0)) rfl rfl) ?_
  refine an ai (ay hT rfl rfl)<|aD hT rfl rfl rfl rfl rfl rfl rfl<|ag<|av hP<|ab (az (rfl : _ = AV.vec _))<|aH hT rfl rfl rfl rfl rfl rfl<|a7 hT rfl rfl rfl rfl ?_
  refine ab (bl hT rfl rfl rfl (es := [_]) rfl rfl rfl)<|RK.app ai (nR (z := l.getD k 0) hT rfl rfl rfl rfl rfl rfl rfl rfl (by rw [List.length_take]; omega) (by decide)) ?_
  refine ab (bn (rfl : _ = AV.vec _))<|ag<|dy 28 1000 rfl rfl rfl ?_
  refine av hP<|bI rfl rfl ?_
  refine aj rfl<|ag ?_
  refine ⟨k + 1, by omega, by omega, aE ⟨.refl _, .refl _, .refl _, aJ (by omega), trivial⟩ ⟨Eq.trans rfl (congrArg (fun x => some (IB 3 x)) (o6 hb2_)), trivial⟩⟩
 have hb2_ := of_decide_eq_false hb2
 refine aZ<|mN (t := 6) rfl rfl ?_
 refine ae hP<|aj rfl<|ak rfl<|ak rfl<|ag<|am<|E11 rfl rfl rfl ?_
 exact aG (by rw [qC hb2_, he, BQ he, hl])
end
section
open Go Go.AM
theorem ql (a b : Int) (ha : bC a) (hb : bC b) :
  aF Tryz.prog 76 [Z a, Z b] (Z (gg a b)) := by
 refine aK Tryz.func76 rfl rfl rfl rfl ?_
 refine ae hP<|ak rfl<|ag<|ao<|aA<|bp (ι := Int × Int) (fun p => stL [(0, Z p.1), (1, Z p.2)] []) (fun p => gg p.1 p.2 = gg a b ∧ bC p.1 ∧ bC p.2) (fun p => p.2.natAbs) (a, b) ⟨rfl, ha, hb⟩ (aE ⟨.refl _, .refl _, trivial⟩ trivial) ?_
 rintro p ⟨hG, hp1, hp2⟩
 refine ao<|ae hP<|aj rfl<|ab (bB rfl rfl)<|ag ?_
 refine aw rfl (fun hb1 => ?_) (fun hb1 => ?_)
 ·have hb1_ := cy hb1
  refine aq<|aA<|av hP<|aj rfl<|aj rfl<|aj rfl<|ab (b7 rfl rfl hb1_ (c := p.1.tmod p.2) rfl) ?_
  refine ak rfl<|ak rfl<|ag ?_
  have ht := FT hp1 hp2 hb1_
  refine ⟨(p.2, p.1.tmod p.2), ⟨(Eh hb1_).trans hG, hp2, ht.1⟩, ht.2, aE ⟨.refl _, .refl _, trivial⟩ trivial⟩
 have hb1_ := cf hb1
 refine aZ<|ae hP<|aj rfl<|ak rfl<|ag<|am<|E1 rfl rfl ?_
 exact aJ (by rw [← hG, Kt hb1_])
theorem BK (x : Int) (h : -9223372036854775808 < x ∧ x ≤ 9223372036854775807) :
  aF Tryz.prog 77 [Z x] (Z (x.natAbs : Int)) := by
 refine aK Tryz.func77 rfl rfl rfl rfl ?_
 refine ae hP<|ak rfl<|ag<|ae hP<|aj rfl<|aj rfl<|ab (gq rfl (by first | exact IntWalk.i64_in _ (by omega) | rfl)) ?_
 refine ab (nQ rfl rfl)<|ak rfl<|ag<|am<|E1 rfl rfl ?_
 exact aJ (by split <;> omega)
theorem tz (f : Fm) (hfa : L 6 f.a) (hfb : L 6 f.b) (hfc : L 6 f.c) :
  aF Tryz.prog 74 [FA f.a f.b f.c] (.t [PE (gpV f), PE (gpE f)]) := by
 have ifa : LB f.a 6 := ⟨hfa⟩
 have ifb : LB f.b 6 := ⟨hfb⟩
 have ifc : LB f.c 6 := ⟨hfc⟩
 refine aK Tryz.func74 rfl rfl rfl rfl ?_
 refine ae hP<|an ai (aI rfl rfl)<|ak rfl<|ak rfl<|ag<|ao<|ae hP<|bH hT rfl rfl rfl rfl rfl rfl<|ab (ah (mb f.a f.b f.c lz lz lz)) ?_
 refine ak rfl<|ag<|ae hP<|aj rfl<|ab (bB rfl rfl)<|ag ?_
 refine aw rfl (fun hb1 => ?_) (fun hb1 => ?_)
 ·have hb1_ := cy hb1
  refine ae hP<|aj rfl<|ak rfl<|ak rfl<|ag<|am<|E11 rfl rfl rfl ?_
  exact aG (Kr hb1_)
 have hb1_ := cf hb1
 refine aq<|ae hP<|bH hT rfl rfl rfl rfl rfl rfl<|ab (ah (fD f.a f.b f.c lz lz lz)) ?_
 refine ab (ah (uF _ lz)) ?_
 refine ab (az (rfl : _ = AV.t _))<|ab (aC rfl (v := .c _) rfl)<|ab (aC rfl (v := .c _) rfl)<|ak rfl<|ak rfl<|ag<|ao<|ae hP<|aj rfl<|ab (br rfl rfl)<|aj rfl ?_
 refine bf (t := 20) rfl (fun hg2 => ?_) (fun hg2 => ?_)
 ·have hg2_ := bT hg2
  refine aB hg2 (aL hT rfl rfl rfl rfl (cs := [_, _, _, _, _, _]) rfl rfl) ?_
  refine aB hg2 (ah (jW f.a f.b f.c lz lz lz)) ?_
  refine aB hg2 (bE rfl) ?_
  refine ab (aO rfl hg2 (rfl : _ = AV.p (.c _)))<|ag ?_
  refine aw rfl (fun hb3 => ?_) (fun hb3 => ?_)
  ·have hb3_ := (cB hb3)
   refine ae hP<|ak rfl<|ak rfl<|ag<|am<|E11 rfl rfl rfl ?_
   exact aG (Kq hb1_ hg2_ hb3_)
  have hb3_ := (cq hb3)
  refine aq<|ae hP<|aj rfl<|aj rfl<|ak rfl<|ak rfl<|ag<|am<|E11 rfl rfl rfl ?_
  exact aG (Kp hb1_ hg2_ hb3_)
 have hg2_ := bF hg2
 iterate 3 refine bd hg2 ?_
 refine ab (aN rfl hg2 (rfl : _ = AV.p (.c _)))<|ag<|aP rfl rfl<|aq<|ae hP<|aj rfl<|aj rfl<|ak rfl<|ak rfl<|ag<|am<|E11 rfl rfl rfl ?_
 exact aG (Ko hb1_ hg2_)
theorem Ei (f : Fm) (d : Int) (hf : Cl d f) (hd : -4194304 ≤ d) (hfa : L 6 f.a) (hfb : L 6 f.b) (hfc : L 6 f.c) :
  aF Tryz.prog 75 [FA f.a f.b f.c] (.t [PE f.rd.a, PE f.rd.b, PE f.rd.c]) := by
 have ifa : LB f.a 6 := ⟨hfa⟩
 have ifb : LB f.b 6 := ⟨hfb⟩
 have ifc : LB f.c 6 := ⟨hfc⟩
 have cR : aF Tryz.prog 41 [FA f.a f.b f.c] (.t [PF f.rd, PM (rdM f.a f.b f.c), PE (rdE f.a f.b f.c)]) := fC f.a f.b f.c lz lz lz
 rw [gm hf.pos] at cR
 obtain ⟨⟨s1, s2⟩, ⟨s3, s4⟩, s5, s6⟩ := qS hf.rd hf.rd_rd hd
 generalize rdM f.a f.b f.c = M at cR
 generalize f.rd = g at *
 have l1 := jo g.a (by omega) (by omega)
 have l2 := jo g.b (by omega) (by omega)
 have l3 := jo g.c (by omega) (by omega)
 refine aK Tryz.func75 rfl rfl rfl rfl ?_
 refine ae hP<|an ai (aI rfl rfl)<|ak rfl<|ak rfl<|ak rfl<|ag<|ae hP<|bH hT rfl rfl rfl rfl rfl rfl<|ab (ah cR) ?_
 refine ab (az (rfl : _ = AV.t _))<|ab (aC rfl (v := .a _) rfl)<|ab (aC rfl (v := .a _) rfl)<|ab (aC rfl (v := .c _) rfl)<|an ai (ay hT rfl rfl)<|an ai (ay hT rfl rfl)<|aD hT rfl rfl rfl rfl rfl rfl rfl<|aD hT rfl rfl rfl rfl rfl rfl rfl<|ak rfl<|ag<|ae hP<|aH hT rfl rfl rfl rfl rfl rfl<|au hT rfl rfl rfl rfl rfl rfl<|ab (ah l1) ?_
 refine ab (az (rfl : _ = AV.t _))<|ab (aC rfl (v := .c _) rfl)<|ab (aC rfl (v := .c _) rfl)<|ak rfl<|ag<|ae hP<|aH hT rfl rfl rfl rfl rfl rfl<|au hT rfl rfl rfl rfl rfl rfl<|ab (ah l2) ?_
 refine ab (az (rfl : _ = AV.t _))<|ab (aC rfl (v := .c _) rfl)<|ab (aC rfl (v := .c _) rfl)<|ak rfl<|ag<|ae hP<|aH hT rfl rfl rfl rfl rfl rfl<|au hT rfl rfl rfl rfl rfl rfl<|ab (ah l3) ?_
 refine ab (az (rfl : _ = AV.t _))<|ab (aC rfl (v := .c _) rfl)<|ab (aC rfl (v := .c _) rfl)<|ak rfl<|ag<|ae hP<|aj rfl<|aj rfl<|aj rfl<|ak rfl<|ak rfl<|ak rfl<|ag<|am ?_
 refine c7 rfl (.inr rfl) (bQ rfl) (bQ rfl) (bQ rfl) ?_ bw
 exact .refl _
theorem Aj (f : Fm) (hfa : L 6 f.a) (hfb : L 6 f.b) (hfc : L 6 f.c) (hx : gpE f = 0 → ∃ x y : Int, 0 ≤ x ∧ x ≤ 1400000 ∧ 0 ≤ y ∧ y ≤ 1400000 ∧ Int.gcd (vl f.rd.a f.rd.b f.rd.c x y) (2 * dsc f.a f.b f.c) = 1) :
  aF Tryz.prog 19 [FA f.a f.b f.c] (.t [.c (IS (gvL f)), PE (gpE f)]) := by
 have ifa : LB f.a 6 := ⟨hfa⟩
 have ifb : LB f.b 6 := ⟨hfb⟩
 have ifc : LB f.c 6 := ⟨hfc⟩
 have cP := tz f hfa hfb hfc
 refine aK Tryz.func19 rfl rfl rfl rfl ?_
 refine ae hP<|an ai (aI rfl rfl)<|ak rfl<|ak rfl<|ag<|ae hP<|bH hT rfl rfl rfl rfl rfl rfl<|ab (ah cP) ?_
 refine ab (az (rfl : _ = AV.t _))<|ab (aC rfl (v := .c _) rfl)<|ab (aC rfl (v := .c _) rfl)<|ak rfl<|ak rfl<|ag<|ao<|ae hP<|aj rfl<|ab (bB rfl rfl)<|ag ?_
 refine aw rfl (fun hb1 => ?_) (fun hb1 => ?_)
 ·have hb1_ := cy hb1
  refine ae hP<|aj rfl<|ak rfl<|ak rfl<|ag<|am<|E11 rfl rfl rfl ?_
  exact (by rw [Jr hb1_]; exact Sub.tup ⟨DSub.nil_sl, DSub.refl _, trivial⟩)
 have hb1_ := cf hb1
 have he : gpE f = 0 := hb1_
 obtain ⟨hf, hE⟩ := xJ he
 obtain ⟨hgn, hd0, hd1⟩ := vX hE
 have hxx := hx he
 have eV : gpV f = dsc f.a f.b f.c := by unfold gpV; rw [if_pos he]
 have cS := Ei f _ hf hd1 hfa hfb hfc
 have cA0 := nY _ hd0 hd1
 have hmap := fun (N : Int) (h1 : RpN f.rd N) (h2 : Int.gcd N (2 * dsc f.a f.b f.c) = 1) => Hk hf hd1 hd0 hE h1 h2
 have hcb := fun (c : Int) (h : c ∈ chs (dsc f.a f.b f.c)) => wi hd0 hd1 h
 have hcl := oX hd0 hd1
 obtain ⟨⟨s1, s2⟩, ⟨s3, s4⟩, s5, s6⟩ := qS hf.rd hf.rd_rd hd1
 have hg := hf.rd
 rw [eV]
 generalize dsc f.a f.b f.c = d at *
 generalize f.rd = g at *
 have j2 : bC (2 * d) := by unfold bC; omega
 refine aq<|ae hP<|bH hT rfl rfl rfl rfl rfl rfl<|ab (ah cS) ?_
 refine ab (az (rfl : _ = AV.t _))<|ab (aC rfl (v := .c _) rfl)<|ab (aC rfl (v := .c _) rfl)<|ab (aC rfl (v := .c _) rfl)<|ak rfl<|ak rfl<|ak rfl<|ag<|ae hP<|aj rfl<|ak rfl<|ag<|cC (ι := Int) (fun N => stL [(4, Z d), (9, Z N)] []) (fun N => RpN g N ∧ (-9000000000000000000 ≤ N ∧ N ≤ 9000000000000000000) ∧ Int.gcd N (2 * d) = 1) ?_ ?_
 ·refine ae hP<|ak rfl<|ag<|aA<|bp (ι := Int × Int) (fun q => stL [(4, Z d), (6, Z g.a), (7, Z g.b), (8, Z g.c), (9, Z q.1), (10, Z q.2)] []) (fun q => (RpN g q.1 ∧ (-9000000000000000000 ≤ q.1 ∧ q.1 ≤ 9000000000000000000) ∧ (1 ≤ q.2 ∧ q.2 ≤ 1400001) ∧ (Int.gcd q.1 (2 * d) = 1 ∨ NoP g d q.2))) (fun q => (1400001 - q.2).toNat) (g.a, 1) ⟨⟨1, 0, by unfold vl; simp⟩, by simp only; omega, by simp only; omega, .inr (NoP.start hd0)⟩ (aE ⟨.refl _, .refl _, .refl _, .refl _, .refl _, .refl _, trivial⟩ trivial) ?_
  rintro q ⟨hq1, hq2, hq3, hq4⟩
  have jn : bC q.1 := by unfold bC; omega
  refine ao<|ae hP<|aj rfl<|aj rfl<|ab (bX rfl rfl (by first | exact IntWalk.i64_in _ (by omega) | rfl)) ?_
  refine ab (ah (ql _ _ jn j2)) ?_
  refine ab (bB rfl rfl)<|aj rfl ?_
  refine bf (t := 35) rfl (fun hg2 => ?_) (fun hg2 => ?_)
  ·have hg2_ := cy hg2
   refine aB hg2 (az (rfl : _ = AV.p (.c _))) ?_
   refine aB hg2 (az (rfl : _ = AV.p (.c _))) ?_
   refine aB hg2 (bX rfl rfl (by first | exact IntWalk.i64_in _ (by omega) | rfl)) ?_
   refine aB hg2 (ah (ql _ _ jn j2)) ?_
   refine aB hg2 (bB rfl rfl) ?_
   refine ab (aO rfl hg2 (rfl : _ = AV.p (.c _)))<|ag ?_
   refine aw rfl (fun hb3 => ?_) (fun hb3 => ?_)
   ·have hb3_ := cy hb3
    have hNP : NoP g d q.2 := hq4.resolve_left (fun e => (gg_one.1 e).elim hg2_ hb3_)
    have hle := hNP.le hxx
    refine aq<|cC (ι := Int) (fun m => stL [(4, Z d), (6, Z g.a), (7, Z g.b), (8, Z g.c), (9, Z m), (10, Z q.2)] []) (fun m => (RpN g m ∧ (-9000000000000000000 ≤ m ∧ m ≤ 9000000000000000000) ∧ (Int.gcd m (2 * d) = 1 ∨ NoX g d q.2 (q.2 + 1)))) ?_ ?_
    ·refine aA<|ae hP<|ak rfl<|ag<|aA<|bp (ι := Int × Int) (fun r => stL [(4, Z d), (6, Z g.a), (7, Z g.b), (8, Z g.c), (9, Z r.2), (10, Z q.2), (11, Z r.1)] []) (fun r => (0 ≤ r.1 ∧ r.1 ≤ q.2 + 1) ∧ RpN g r.2 ∧ (-9000000000000000000 ≤ r.2 ∧ r.2 ≤ 9000000000000000000) ∧ NoX g d q.2 r.1) (fun r => (q.2 + 1 - r.1).toNat) (0, q.1) ⟨by simp only; omega, hq1, hq2, NoX.start⟩ (aE ⟨.refl _, .refl _, .refl _, .refl _, .refl _, .refl _, .refl _, trivial⟩ trivial) ?_
     rintro r ⟨hr1, hr2, hr3, hr4⟩
     refine ao<|ae hP<|aj rfl<|aj rfl<|ab (fS rfl rfl)<|ag ?_
     refine aw rfl (fun hb4 => ?_) (fun hb4 => ?_)
     ·have hb4_ := of_decide_eq_true hb4
      have hG := gb (a := g.a) (b := g.b) (c := g.c) (x := r.1) (y := q.2) (by omega) (by omega) (by omega) (by omega) (by omega)
      have hH := gb (a := g.a) (b := g.b) (c := g.c) (x := q.2) (y := r.1) (by omega) (by omega) (by omega) (by omega) (by omega)
      have ev1 : g.a * r.1 * r.1 + g.b * r.1 * q.2 + g.c * q.2 * q.2 = (vl g.a g.b g.c r.1 q.2) := rfl
      have ev2 : g.a * q.2 * q.2 + g.b * r.1 * q.2 + g.c * r.1 * r.1 = (vl g.a g.b g.c q.2 r.1) := H9 g.a g.b g.c r.1 q.2
      have jv1 : bC (g.a * r.1 * r.1 + g.b * r.1 * q.2 + g.c * q.2 * q.2) := by unfold bC; omega
      have jv2 : bC (g.a * q.2 * q.2 + g.b * r.1 * q.2 + g.c * r.1 * r.1) := by unfold bC; omega
      have hv1b : -9000000000000000000 ≤ (vl g.a g.b g.c r.1 q.2) ∧ (vl g.a g.b g.c r.1 q.2) ≤ 9000000000000000000 := by rw [← ev1]; omega
      have hv2b : -9000000000000000000 ≤ (vl g.a g.b g.c q.2 r.1) ∧ (vl g.a g.b g.c q.2 r.1) ≤ 9000000000000000000 := by rw [← ev2]; omega
      have hab1 := Hq (n := g.a * r.1 * r.1 + g.b * r.1 * q.2 + g.c * q.2 * q.2) hd0 hd1
      have hab2 := Hq (n := g.a * q.2 * q.2 + g.b * r.1 * q.2 + g.c * r.1 * r.1) hd0 hd1
      refine aq<|ao<|aA<|ao<|ae hP<|aj rfl<|aj rfl<|ab (bX rfl rfl (by first | exact IntWalk.i64_in _ (by omega) | rfl)) ?_
      refine aj rfl<|ab (bX rfl rfl (by first | exact IntWalk.i64_in _ (by omega) | rfl)) ?_
      refine aj rfl<|aj rfl<|ab (bX rfl rfl (by first | exact IntWalk.i64_in _ (by omega) | rfl)) ?_
      refine aj rfl<|ab (bX rfl rfl (by first | exact IntWalk.i64_in _ (by omega) | rfl)) ?_
      refine bI rfl rfl ?_
      refine aj rfl<|aj rfl<|ab (bX rfl rfl (by first | exact IntWalk.i64_in _ (by omega) | rfl)) ?_
      refine aj rfl<|ab (bX rfl rfl (by first | exact IntWalk.i64_in _ (by omega) | rfl)) ?_
      refine bI rfl rfl ?_
      refine ak rfl<|ag<|ae hP<|aj rfl<|aj rfl<|ab (bX rfl rfl (by first | exact IntWalk.i64_in _ (by omega) | rfl)) ?_
      refine ab (ah (ql _ _ jv1 j2)) ?_
      refine ab (ah (BK _ hab1)) ?_
      refine ab (br rfl rfl)<|ag ?_
      refine aw rfl (fun hb5 => ?_) (fun hb5 => ?_)
      ·have hb5_ := bT hb5
       refine aZ ?_
       refine ⟨(vl g.a g.b g.c r.1 q.2), ⟨⟨r.1, q.2, rfl⟩, hv1b, .inl (gg1 (n := (vl g.a g.b g.c r.1 q.2)) hb5_)⟩, aE ⟨.refl _, .refl _, .refl _, .refl _, .refl _, .refl _, trivial⟩ trivial⟩
      have hb5_ := bF hb5
      refine aq<|ae hP<|aj rfl<|aj rfl<|ab (bX rfl rfl (by first | exact IntWalk.i64_in _ (by omega) | rfl)) ?_
      refine aj rfl<|ab (bX rfl rfl (by first | exact IntWalk.i64_in _ (by omega) | rfl)) ?_
      refine aj rfl<|aj rfl<|ab (bX rfl rfl (by first | exact IntWalk.i64_in _ (by omega) | rfl)) ?_
      refine aj rfl<|ab (bX rfl rfl (by first | exact IntWalk.i64_in _ (by omega) | rfl)) ?_
      refine bI rfl rfl ?_
      refine aj rfl<|aj rfl<|ab (bX rfl rfl (by first | exact IntWalk.i64_in _ (by omega) | rfl)) ?_
      refine aj rfl<|ab (bX rfl rfl (by first | exact IntWalk.i64_in _ (by omega) | rfl)) ?_
      refine bI rfl rfl ?_
      refine ak rfl<|ag<|ae hP<|aj rfl<|aj rfl<|ab (bX rfl rfl (by first | exact IntWalk.i64_in _ (by omega) | rfl)) ?_
      refine ab (ah (ql _ _ jv2 j2)) ?_
      refine ab (ah (BK _ hab2)) ?_
      refine ab (br rfl rfl)<|ag ?_
      refine aw rfl (fun hb6 => ?_) (fun hb6 => ?_)
      ·have hb6_ := bT hb6
       refine aZ ?_
       refine ⟨(vl g.a g.b g.c q.2 r.1), ⟨⟨q.2, r.1, rfl⟩, hv2b, .inl (by rw [← ev2]; exact gg1 hb6_)⟩, aE ⟨.refl _, .refl _, .refl _, .refl _, aJ ev2, .refl _, trivial⟩ trivial⟩
      have hb6_ := bF hb6
      refine aq<|av hP<|aj rfl<|bI rfl rfl ?_
      refine ak rfl<|ag ?_
      refine ⟨(r.1 + 1, (vl g.a g.b g.c q.2 r.1)), ⟨by simp only; omega, ⟨q.2, r.1, rfl⟩, hv2b, hr4.next (Hr (n := (vl g.a g.b g.c r.1 q.2)) hb5_) (by rw [← ev2]; exact Hr hb6_)⟩, by simp only; omega, aE ⟨.refl _, .refl _, .refl _, .refl _, aJ ev2, .refl _, .refl _, trivial⟩ trivial⟩
     have hb4_ := of_decide_eq_false hb4
     refine aZ ?_
     refine ⟨r.2, ⟨hr2, hr3, .inr ((show r.1 = q.2 + 1 by omega) ▸ hr4)⟩, aE ⟨.refl _, .refl _, .refl _, .refl _, .refl _, .refl _, trivial⟩ trivial⟩
    rintro m ⟨hm1, hm2, hm3⟩
    refine av hP<|aj rfl<|bI rfl rfl ?_
    refine ak rfl<|ag ?_
    refine ⟨(m, q.2 + 1), ⟨hm1, hm2, by simp only; omega, hm3.imp id (fun h => hNP.next h)⟩, by simp only; omega, aE ⟨.refl _, .refl _, .refl _, .refl _, .refl _, .refl _, trivial⟩ trivial⟩
   have hb3_ := cf hb3
   refine aZ ?_
   refine ⟨q.1, ⟨hq1, hq2, gg_one.2 (.inr hb3_)⟩, aE ⟨.refl _, .refl _, trivial⟩ trivial⟩
  have hg2_ := cf hg2
  iterate 5 refine bd hg2 ?_
  refine ab (aN rfl hg2 (rfl : _ = AV.p (.c _)))<|ag<|aP rfl rfl<|aZ ?_
  refine ⟨q.1, ⟨hq1, hq2, gg_one.2 (.inl hg2_)⟩, aE ⟨.refl _, .refl _, trivial⟩ trivial⟩
 rintro N ⟨hN1, hN2, hN3⟩
 have hN0 := Iy hg hN1 hd0
 have jN : bC N := by unfold bC; omega
 have hfin := hmap N hN1 hN3
 have cAs := cA0
 generalize chs d = l at cAs hcl hcb hfin
 refine ae hP<|ak rfl<|ag<|ni 12 1000 1 3 rfl rfl ?_
 refine ao<|ae hP<|aj rfl<|ab (ah cAs) ?_
 refine ab (aU hT rfl rfl rfl (by rfl)) ?_
 refine aj rfl<|ag<|aA<|bp (ι := Nat) (fun k => stL [(9, Z N), (12, .vec 1000), (96, .p (.c (CS 186 187 l))), (97, Z (l.length : Int)), (98, Z (k : Int))] [(1000, IB 3 ((l.take k).map fun c => cv c N))]) (fun k => k ≤ l.length) (fun k => l.length - k) 0 (Nat.zero_le _) (aE ⟨.refl _, .refl _, .refl _, .refl _, .refl _, trivial⟩ ⟨rfl, trivial⟩) ?_
 intro k hk
 refine ae hP<|ab (bi rfl rfl)<|ag<|ao ?_
 refine aw rfl (fun hb7 => ?_) (fun hb7 => ?_)
 ·have hb7_ := of_decide_eq_true hb7
  have hmm := hcb _ (pR hb7_)
  have jc : bC (l.getD k 0) := by unfold bC; omega
  refine aq<|ao<|aA<|ae hP<|ab (pC (fo := 186) (fs := 187) (n := (k : Int)) hT rfl rfl rfl rfl rfl rfl (by omega)) ?_
  refine ab (a6 hT rfl rfl rfl (cs := chC 186 187 (l.getD k 0)) rfl rfl) ?_
  refine an ai (ay hT rfl rfl)<|aD hT rfl rfl rfl rfl rfl rfl rfl<|ag<|av hP<|ab (az (rfl : _ = AV.vec _))<|aH hT rfl rfl rfl rfl rfl rfl<|a7 hT rfl rfl rfl rfl ?_
  refine aj rfl<|ab (Eff.callCh rfl rfl (vZ N _ hN0 (by unfold spR; split <;> (try split) <;> decide)) (Ht N (l.getD k 0) jN jc)) ?_
  refine ab (bl hT rfl rfl rfl (es := [_]) rfl rfl rfl)<|RK.app ai (nR (z := cv (l.getD k 0) N) hT rfl rfl rfl rfl rfl rfl rfl rfl (by rw [List.length_map, List.length_take]; omega) (by decide)) ?_
  refine ab (bn (rfl : _ = AV.vec _))<|ag<|dy 108 1000 rfl rfl rfl ?_
  refine av hP<|bI rfl rfl ?_
  refine aj rfl<|ag ?_
  refine ⟨k + 1, by omega, by omega, aE ⟨.refl _, .refl _, .refl _, .refl _, aJ (by omega), trivial⟩ ⟨Eq.trans rfl (congrArg (fun x => some (IB 3 x)) (zV hb7_)), trivial⟩⟩
 have hb7_ := of_decide_eq_false hb7
 refine aZ<|mN (t := 12) rfl rfl ?_
 refine ae hP<|aj rfl<|ak rfl<|ak rfl<|ag<|am<|E11 rfl rfl rfl ?_
 exact aG (by rw [qC hb7_, hfin, he])
end
section
open Go Go.AM
end
section
open Go Go.AM
theorem tr (gf : FuncId) (caps : List (List DV)) (l : List Pr2) (hit : Iter2 Tryz.prog gf caps (l.map fun p => [PA p])) (hl : l.length ≤ 1000000) :
  CallV Tryz.prog 194 [.p (.c (.v (.slice none 0 0))), .fn gf caps] (VB 4 93 enP l) := by
 refine nc Tryz.func194 (by kernel_rfl) rfl rfl (Nat.le_of_ble_eq_true rfl) ?_
 refine ae hP<|an ai (aI rfl rfl)<|ak rfl<|ag<|ao<|ae hP<|ab (az (rfl : _ = AV.fn _ _))<|ag<|aA<|k9 2 1000 4 93 rfl rfl rfl rfl ?_
 refine dE (t := stL [(2, .loc 2 0), (6, .fn gf caps)] [(2, ⟨false, 1002, 65, [.sl ((l.take 0)).length []]⟩), (1000, VB 4 93 enP ((l.take 0)))]) (aE ⟨.refl _, .refl _, trivial⟩ ⟨rfl, rfl, trivial⟩) ?_
 refine fg 3 (fun k => cO [(2, ⟨false, 1002, 65, [.sl ((l.take k)).length []]⟩), (1000, VB 4 93 enP ((l.take k)))]) (fun _ => True) rfl hit Dr rfl rfl rfl trivial (fun k x hx _ => ?_) (fun _ => ?_)
 ·obtain ⟨p, hp, rfl⟩ := GC hx
  refine av hP<|an ai (ay hT rfl rfl)<|aD hT rfl rfl rfl rfl rfl rfl rfl<|ag<|aA<|av hP<|ab (gr hT rfl rfl rfl rfl rfl)<|ab (aL hT rfl rfl rfl rfl (cs := [_, _, _, _]) rfl rfl)<|ab (bl hT rfl rfl rfl (es := [_, _, _, _]) rfl rfl rfl)<|RK.app ai (nS (encD := enP) hT dI (by decide) rfl rfl rfl rfl rfl rfl rfl (b := p) rfl (by rw [List.length_take]; omega) (by decide) (by decide)) ?_
  refine dh ai (kJ hT rfl rfl rfl rfl rfl rfl rfl (dH dI _).symm (Nat.zero_lt_succ 3)) ?_
  refine ag ?_
  refine ⟨GW.rnL 2 11 1000 (l.take k ++ [p]).length rfl rfl rfl (dH dI _).symm (Nat.zero_lt_succ 3) rfl rfl rfl rfl ?_, trivial⟩
  show ∀ m, cO _ m = _ ∨ cO _ m = none
  rw [fh hp]
  exact SubO.own ⟨rfl, rfl, trivial⟩
 refine ae hP<|ab (gr hT rfl rfl rfl rfl rfl)<|ab (bn (rfl : _ = AV.vec _))<|ag<|am ?_
 refine ⟨.inr rfl, _, _, rfl, rfl, ?_⟩
 exact congrArg (fun x => some (VB 4 93 enP x)) (List.take_of_length_le (by rw [List.length_map]; exact Nat.le_refl _))
theorem xj (gf : FuncId) (caps : List (List DV)) (l : List Pr2) (hit : Iter2 Tryz.prog gf caps (l.map fun p => [PA p])) (hl : l.length ≤ 1000000) :
  CallV Tryz.prog 151 [.fn gf caps] (VB 4 93 enP l) := by
 refine nc Tryz.func151 (by kernel_rfl) rfl rfl (Nat.le_of_ble_eq_true rfl) ?_
 refine ae hP<|ak rfl<|ag<|ae hP<|ab (az (rfl : _ = AV.fn _ _))<|an ai (Eff.callV (tr gf caps l hit hl)) ?_
 refine ab (bn (rfl : _ = AV.vec _))<|ag<|am ?_
 refine ⟨.inr rfl, _, _, rfl, rfl, ?_⟩
 exact rfl
def wO : Go.Shelf.Ren := ⟨fun | 6 => 152 | 15 => 196 | 14 => 195 | 28 => 233 | 29 => 234 | 20 => 225 | 21 => 226 | 22 => 227 | 23 => 228 | 24 => 229 | 25 => 230 | 26 => 231 | 27 => 232 | 46 => 249 | 47 => 250 | 48 => 251 | 49 => 252 | 50 => 253 | 57 => 257 | n => n, fun | 22 => 65 | 24 => 93 | 25 => 148 | 3 => 3 | 39 => 106 | 0 => 0 | 53 => 105 | 55 => 103 | 4 => 4 | 46 => 250 | 45 => 249 | 50 => 254 | 5 => 5 | 9 => 9 | 66 => 262 | 70 => 266 | 76 => 273 | 77 => 274 | n => n, fun | n => n⟩
theorem Ip : Go.Proofs.SlLaysF0.n6 Tryz.prog wO := {
 mixed := by kernel_rfl
 f6 := ⟨Tryz.f152.name, by decide, Tryz.func152.trans (congrArg some (by kernel_rfl))⟩
 f14 := ⟨Tryz.f195.name, by decide, Tryz.func195.trans (congrArg some (by kernel_rfl))⟩
 f15 := Tryz.func196.trans (congrArg some (by kernel_rfl))
 f20 := ⟨Tryz.f225.name, by decide, Tryz.func225.trans (congrArg some (by kernel_rfl))⟩
 f21 := ⟨Tryz.f226.name, by decide, Tryz.func226.trans (congrArg some (by kernel_rfl))⟩
 f22 := ⟨Tryz.f227.name, by decide, Tryz.func227.trans (congrArg some (by kernel_rfl))⟩
 f23 := ⟨Tryz.f228.name, by decide, Tryz.func228.trans (congrArg some (by kernel_rfl))⟩
 f24 := ⟨Tryz.f229.name, by decide, Tryz.func229.trans (congrArg some (by kernel_rfl))⟩
 f25 := ⟨Tryz.f230.name, by decide, Tryz.func230.trans (congrArg some (by kernel_rfl))⟩
 f26 := ⟨Tryz.f231.name, by decide, Tryz.func231.trans (congrArg some (by kernel_rfl))⟩
 f27 := ⟨Tryz.f232.name, by decide, Tryz.func232.trans (congrArg some (by kernel_rfl))⟩
 f28 := Tryz.func233.trans (congrArg some (by kernel_rfl))
 f29 := Tryz.func234.trans (congrArg some (by kernel_rfl))
 f46 := ⟨Tryz.f249.name, by decide, Tryz.func249.trans (congrArg some (by kernel_rfl))⟩
 f47 := Tryz.func250.trans (congrArg some (by kernel_rfl))
 f48 := Tryz.func251.trans (congrArg some (by kernel_rfl))
 f49 := ⟨Tryz.f252.name, by decide, Tryz.func252.trans (congrArg some (by kernel_rfl))⟩
 f50 := ⟨Tryz.f253.name, by decide, Tryz.func253.trans (congrArg some (by kernel_rfl))⟩
 f57 := ⟨Tryz.f257.name, by decide, Tryz.func257.trans (congrArg some (by kernel_rfl))⟩
 t0 := Tryz.underlying0
 a0 := Tryz.isAgg0
 z0 := Tryz.sizeOf0
 v0 := Tryz.zeroValue0
 t3 := Tryz.underlying3
 a3 := Tryz.isAgg3
 z3 := Tryz.sizeOf3
 v3 := Tryz.zeroValue3
 t4 := Tryz.underlying4
 a4 := Tryz.isAgg4
 z4 := Tryz.sizeOf4
 v4 := Tryz.zeroValue4
 t5 := Tryz.underlying5
 a5 := Tryz.isAgg5
 z5 := Tryz.sizeOf5
 v5 := Tryz.zeroValue5
 t9 := Tryz.underlying9
 a9 := Tryz.isAgg9
 z9 := Tryz.sizeOf9
 v9 := Tryz.zeroValue9
 t22 := Tryz.underlying65
 a22 := Tryz.isAgg65
 z22 := Tryz.sizeOf65
 v22 := Tryz.zeroValue65
 t25 := Tryz.underlying148
 a25 := Tryz.isAgg148
 z25 := Tryz.sizeOf148
 v25 := Tryz.zeroValue148
 t39 := Tryz.underlying106
 a39 := Tryz.isAgg106
 z39 := Tryz.sizeOf106
 v39 := Tryz.zeroValue106
 t45 := Tryz.underlying249
 a45 := Tryz.isAgg249
 z45 := Tryz.sizeOf249
 v45 := Tryz.zeroValue249
 t46 := Tryz.underlying250
 a46 := Tryz.isAgg250
 z46 := Tryz.sizeOf250
 v46 := Tryz.zeroValue250
 t50 := Tryz.underlying254
 a50 := Tryz.isAgg254
 z50 := Tryz.sizeOf254
 v50 := Tryz.zeroValue254
 t53 := Tryz.underlying105
 a53 := Tryz.isAgg105
 z53 := Tryz.sizeOf105
 v53 := Tryz.zeroValue105
 t55 := Tryz.underlying103
 a55 := Tryz.isAgg103
 z55 := Tryz.sizeOf103
 v55 := Tryz.zeroValue103
 t66 := Tryz.underlying262
 a66 := Tryz.isAgg262
 z66 := Tryz.sizeOf262
 v66 := Tryz.zeroValue262
 t70 := Tryz.underlying266
 a70 := Tryz.isAgg266
 z70 := Tryz.sizeOf266
 v70 := Tryz.zeroValue266
 t76 := Tryz.underlying273
 a76 := Tryz.isAgg273
 z76 := Tryz.sizeOf273
 v76 := Tryz.zeroValue273
 t77 := Tryz.underlying274
 a77 := Tryz.isAgg274
 z77 := Tryz.sizeOf274
 v77 := Tryz.zeroValue274 }
theorem GF (m : Nat) (l l' : List Pr2) (hp : l'.Perm l) (hs : lW l') :
  CallM Tryz.prog 152 [.vec m, .p (.c (.v (.func (.func 90) #[] #[])))] (upd O m (some (VB 4 93 enP l))) (.t []) (upd O m (some (VB 4 93 enP l'))) :=
 u7 Ip hT (j := yE) rfl rfl rfl (by decide) dI cmP EB (fun x y => xi x y) hp (CM hs) (fun _ _ _ _ h1 h2 => AD h1 h2)
theorem ru (gf : FuncId) (caps : List (List DV)) (l : List Pr2) (hit : Iter2 Tryz.prog gf caps (l.map fun p => [PA p])) (hl : l.length ≤ 1000000) (l' : List Pr2) (hp : l'.Perm l) (hs : lW l') :
  aF Tryz.prog 89 [.fn gf caps, .p (.c (.v (.func (.func 90) #[] #[])))] (.p (.c (SL enP l'))) := by
 refine aK Tryz.func89 rfl rfl rfl rfl ?_
 refine ae hP<|ak rfl<|ag<|ae hP<|ab (az (rfl : _ = AV.fn _ _))<|an ai (Eff.callV (xj gf caps l hit hl)) ?_
 refine ab (bn (rfl : _ = AV.vec _))<|ag<|ae hP<|ab (az (rfl : _ = AV.vec _))<|aj rfl<|RK.mut ai (Eff.call (rd := [7]) (GF 7 l l' hp hs) (jX rfl) gQ) ?_
 refine ag<|j8 (encD := enP) dI rfl (t := 5) rfl rfl ?_
 refine ae hP<|aj rfl<|ak rfl<|ag<|am<|E1 rfl rfl ?_
 exact .refl _
theorem lD (f : Fm) (m : Int) (hfa : L 6 f.a) (hfb : L 6 f.b) (hfc : L 6 f.c) :
  aF Tryz.prog 65 [FA f.a f.b f.c, Z m] (Z (alE f m)) := by
 have fa : LB f.a 6 := ⟨hfa⟩
 have fb : LB f.b 6 := ⟨hfb⟩
 have fc : LB f.c 6 := ⟨hfc⟩
 refine aK Tryz.func65 rfl rfl rfl rfl ?_
 refine ae hP<|an ai (aI rfl rfl)<|ak rfl<|ag<|ao<|ae hP<|bH hT rfl rfl rfl rfl rfl rfl<|ab (aV hT rfl rfl rfl (es := [_, _]) rfl)<|ab (ah (xY f hfa hfb hfc)) ?_
 refine ab (az (rfl : _ = AV.t _))<|ab (aC rfl (v := .a _) rfl)<|ab (aC rfl (v := .c _) rfl)<|an ai (ay hT rfl rfl)<|aD hT rfl rfl rfl rfl rfl rfl rfl<|ak rfl<|ag<|ae hP<|aj rfl<|ab (bB rfl rfl)<|ag ?_
 refine aw rfl (fun hb1 => ?_) (fun hb1 => ?_)
 ·have hb1_ := cy hb1
  refine ae hP<|aj rfl<|ak rfl<|ag<|am<|E1 rfl rfl ?_
  exact aJ (JQ hb1_)
 have hb1_ := cf hb1
 refine aq<|ae hP<|aj rfl<|ab (ah (rn _)) ?_
 refine ak rfl<|ag<|am<|E1 rfl rfl ?_
 exact aJ (BR hb1_)
theorem um (f : Fm) (m : Int) :
  aF Tryz.prog 66 [FA f.a f.b f.c, Z m] (.fn 132 [[zn f.a, zm f.a, zn f.b, zm f.b, zn f.c, zm f.c], [.v (.int .i64 m)]]) := by
 refine kX Tryz.func66 (by kernel_rfl) rfl rfl (Nat.le_of_ble_eq_true rfl) rfl ?_
 refine ae hP<|an ai (aI rfl rfl)<|an ai (aI rfl rfl)<|ak rfl<|ag<|cL (t := 2) rfl rfl ?_
 refine cL (t := 3) rfl rfl ?_
 refine ae hP<|ab (jB rfl rfl)<|ab (bn (rfl : _ = AV.fn _ _))<|ag<|am ?_
 exact ⟨.inr rfl, 4, rfl, rfl⟩
theorem BC (f : Fm) (D : Int) (m : Nat) (hfa : L 6 f.a) (hfb : L 6 f.b) (hfc : L 6 f.c) (hf : Cl D f) (hD : -4194304 ≤ D ∧ D < 0) (hm : 1 ≤ m ∧ m ≤ 65536) :
  aF Tryz.prog 26 [FA f.a f.b f.c, Z (m : Int)] (.t [.c (SL enP (prS D m f)), PE 0]) := by
 have fa : LB f.a 6 := ⟨hfa⟩
 have fb : LB f.b 6 := ⟨hfb⟩
 have fc : LB f.c 6 := ⟨hfc⟩
 have hdf : dsc f.a f.b f.c = D := hf.disc
 have h0m : 0 < (m : Int) := by omega
 have cRf : aF Tryz.prog 65 [FA f.a f.b f.c, Z (m : Int)] (Z 0) := by
  have h := lD f m hfa hfb hfc
  rwa [wu hf hm] at h
 refine aK Tryz.func26 rfl rfl rfl rfl ?_
 refine ae hP<|an ai (aI rfl rfl)<|ak rfl<|ak rfl<|ag<|ao<|ae hP<|bH hT rfl rfl rfl rfl rfl rfl<|aj rfl<|ab (ah cRf) ?_
 refine ak rfl<|ag<|ae hP<|aj rfl<|ab (bB rfl rfl)<|ag<|aP rfl rfl<|aq<|ae hP<|bH hT rfl rfl rfl rfl rfl rfl<|aj rfl<|ab (ah (um f m)) ?_
 refine ab (ah (ru _ _ (prL D m f) (rq f D m hfa hfb hfc hdf hD hm) (xe hm) (prS D m f) (qH _) (ui hf h0m))) ?_
 refine ak rfl<|ak rfl<|ag<|am<|E11 rfl rfl rfl ?_
 exact .refl _
theorem un (D : Int) (m : Nat) (hD : -4194304 ≤ D ∧ D < 0) (h4 : D % 4 = 0 ∨ D % 4 = 1) (hm : 1 ≤ m ∧ m ≤ 65536) :
  aF Tryz.prog 13 [I D, Z (m : Int)] (.t [.c (SL enI (rbL D (m : Int))), PE 0]) := by
 have iD : LB D 6 := ⟨by unfold L; omega⟩
 have cPr : aF Tryz.prog 54 [I D] (.t [PF (prF D), PE 0]) := by
  have h := mE D lz
  rwa [I9 hD.2 h4] at h
 have cRg : aF Tryz.prog 55 [Z (m : Int)] (Z 0) := by
  have h := rn m
  rwa [vh (by omega) (by omega)] at h
 refine aK Tryz.func13 rfl rfl rfl rfl ?_
 refine ae hP<|an ai (aI rfl rfl)<|ak rfl<|ak rfl<|ag<|ao<|ae hP<|au hT rfl rfl rfl rfl rfl rfl<|ab (ah cPr) ?_
 refine ab (az (rfl : _ = AV.t _))<|ab (aC rfl (v := .a _) rfl)<|ab (aC rfl (v := .c _) rfl)<|an ai (ay hT rfl rfl)<|aD hT rfl rfl rfl rfl rfl rfl rfl<|ak rfl<|ag<|ae hP<|aj rfl<|ab (bB rfl rfl)<|aj rfl<|aB rfl (aR hT rfl rfl rfl rfl rfl rfl) ?_
 refine aB rfl (bS hT rfl rfl rfl rfl (by first | rfl | exact eC (by omega))) ?_
 refine aB rfl (bE rfl) ?_
 refine ab (aN rfl rfl (rfl : _ = AV.p (.c _)))<|ag<|aP rfl (by simpa using hD.2) ?_
 refine aq<|ao<|ae hP<|aj rfl<|ab (ah cRg) ?_
 refine ak rfl<|ag<|ae hP<|aj rfl<|ab (bB rfl rfl)<|ag<|aP rfl rfl<|aq<|ae hP<|au hT rfl rfl rfl rfl rfl rfl<|aj rfl<|ab (ah (rr D m hD hm)) ?_
 refine ak rfl<|ak rfl<|ag<|am<|E11 rfl rfl rfl ?_
 exact .refl _
theorem rp (n : Nat) (hn : 1 ≤ n ∧ n ≤ 65536) :
  Iter3 Tryz.prog 135 (⟨false, 1, 3, [.v (.int .i64 ((n : Nat) : Int))]⟩) ((parts n).map fun (q : Nat) => [PE (q : Int)]) := by
 generalize hxs : ((parts n).map fun (q : Nat) => ([PE (q : Int)] : List PV)) = xs
 refine z8 Tryz.func135 (by kernel_rfl) rfl rfl (Nat.le_of_ble_eq_true rfl) rfl rfl ?_
 intro l n0 J hK
 refine wB hK.toKeepsB ?_
 refine bM ?_
 refine bA hP ?_
 refine ak rfl<|ag<|ej ?_
 refine kx (ι := Nat × Nat × Nat) (fun i => stL [(0, .p (.c (.v (.func (.yield l) #[] #[])))), (1, .loc 1 0), (3, Z ((i.2.1 : Nat) : Int))] [(1, ⟨false, 1, 3, [.v (.int .i64 ((i.1 : Nat) : Int))]⟩)]) (fun i => i.2.2) (fun i => PaI n i.1 i.2.1 i.2.2) (fun i => n + 2 - i.2.1) (n, 2, 0) (PaI.start (by omega)) rfl (aE ⟨.refl _, .refl _, .refl _, trivial⟩ ⟨rfl, trivial⟩) ?_
 intro i hI
 have h2p := hI.two
 have hmn := hI.le
 have hm0 := hI.pos
 refine bM ?_
 refine bM ?_
 refine bA hP ?_
 refine a7 hT rfl rfl rfl rfl ?_
 refine ab (bU rfl rfl)<|ag ?_
 refine dY rfl (fun hb1 => ?_) (fun hb1 => ?_)
 ·have hb1_ := of_decide_eq_true hb1
  have hm1 : 1 < i.1 := by omega
  have hpm := hI.ple hm1
  refine dJ ?_
  refine bM ?_
  refine ej ?_
  refine bM ?_
  refine bA hP ?_
  refine ak rfl<|ag<|bM ?_
  refine ej ?_
  refine kx (ι := Nat × Nat) (fun q => stL [(0, .p (.c (.v (.func (.yield l) #[] #[])))), (1, .loc 1 0), (3, Z ((i.2.1 : Nat) : Int)), (4, Z ((q.2 : Nat) : Int))] [(1, ⟨false, 1, 3, [.v (.int .i64 ((q.1 : Nat) : Int))]⟩)]) (fun _ => i.2.2) (fun q => PtI i.2.1 i.1 q.1 q.2) (fun q => q.1) (i.1, 1) (PtI.start hm0) rfl (aE ⟨.refl _, .refl _, .refl _, .refl _, trivial⟩ ⟨rfl, trivial⟩) ?_
  intro q hq
  obtain ⟨b1, b2, b3, b4⟩ := hq.b
  refine bM ?_
  refine bM ?_
  refine bA hP ?_
  refine a7 hT rfl rfl rfl rfl ?_
  refine aj rfl<|ab (b7 rfl rfl (by omega) (c := ((q.1 % i.2.1 : Nat) : Int)) J6) ?_
  refine ab (br rfl rfl)<|ag ?_
  refine dY rfl (fun hb2 => ?_) (fun hb2 => ?_)
  ·have hb2_ := bT hb2
   have hnx := hq.next h2p (by omega)
   have hqp : q.2 * i.2.1 ≤ 1000000000 := by have := hnx.2.2; omega
   refine dJ ?_
   refine ej ?_
   refine bA hP ?_
   refine a7 hT rfl rfl rfl rfl ?_
   refine aj rfl<|ab (dm rfl rfl (by omega) (c := ((q.1 / i.2.1 : Nat) : Int)) (Ka (by omega) (by omega))) ?_
   refine aj rfl<|aj rfl<|ab (bX rfl rfl (c := ((q.2 * i.2.1 : Nat) : Int)) (GQ hqp)) ?_
   refine aD hT rfl rfl rfl rfl rfl rfl rfl<|ak rfl<|ag ?_
   refine ⟨(q.1 / i.2.1, q.2 * i.2.1), hnx.1, hnx.2.1, rfl, aE ⟨.refl _, .refl _, .refl _, .refl _, trivial⟩ ⟨rfl, trivial⟩⟩
  have hb2_ := bF hb2
  have hpt := hq.done (by omega)
  refine iE ?_
  refine bM ?_
  refine lc ?_
  refine RY.val ai (az (rfl : _ = AV.p (.c _))) ?_
  refine RY.val ai (bU rfl rfl) ?_
  refine RY.val ai (az (rfl : _ = AV.p (.c _))) ?_
  refine RY.split (t := 21) rfl (fun hg3 => ?_) (fun hg3 => ?_)
  ·have hg3_ := of_decide_eq_true hg3
   have hq1 : 1 < (ptN i.2.1 i.1).2 := by have := of_decide_eq_true hg3; have := hpt.2; omega
   have hgt : xs[i.2.2]? = some [PE ((q.2 : Nat) : Int)] := by rw [← hxs, List.getElem?_map, (hI.yes hm1 hq1).1, hpt.2]; rfl
   refine RY.val (aW rfl rfl hg3) (az (rfl : _ = AV.p (.c _))) ?_
   refine RY.val (aW rfl rfl hg3) (az (rfl : _ = AV.p (.c _))) ?_
   refine RY.yield hK (aW rfl rfl hg3) rfl rfl hgt ?_
   intro bb
   refine RY.val (aW rfl rfl hg3) (bE rfl) ?_
   refine RY.val ai (aO rfl hg3 (rfl : _ = AV.p (.c _))) ?_
   refine RY.done ?_
   refine dY rfl (fun hb4 => ?_) (fun hb4 => ?_)
   ·have hb4_ := (cB hb4)
    refine l4 ?_
    refine ⟨.inr rfl, ?_⟩
    exact vG (cB hb4)
   have hb4_ := (cq hb4)
   refine dJ ?_
   refine bA hP ?_
   refine aj rfl<|bI rfl rfl ?_
   refine ak rfl<|ag ?_
   refine ⟨((ptN i.2.1 i.1).1, i.2.1 + 1, i.2.2 + 1), (hI.yes hm1 hq1).2, (by show n + 2 - (i.2.1 + 1) < n + 2 - i.2.1; omega), (vF (cq hb4)).symm, aE ⟨.refl _, .refl _, aJ (by show ((i.2.1 : Nat) : Int) + 1 = ((i.2.1 + 1 : Nat) : Int); omega), trivial⟩ ⟨Eq.trans rfl (congrArg (fun x : Nat => some (⟨false, 1, 3, [.v (.int .i64 (x : Int))]⟩ : Blk)) hpt.1), trivial⟩⟩
  have hg3_ := of_decide_eq_false hg3
  have hq1 : ¬ 1 < (ptN i.2.1 i.1).2 := by have := of_decide_eq_false hg3; have := hpt.2; omega
  iterate 4 refine RY.skip (jG rfl rfl hg3) ?_
  refine RY.val ai (aN rfl hg3 (rfl : _ = AV.p (.c _))) ?_
  refine RY.done ?_
  refine iV rfl rfl ?_
  refine dJ ?_
  refine bA hP ?_
  refine aj rfl<|bI rfl rfl ?_
  refine ak rfl<|ag ?_
  refine ⟨((ptN i.2.1 i.1).1, i.2.1 + 1, i.2.2), hI.no hm1 hq1, (by show n + 2 - (i.2.1 + 1) < n + 2 - i.2.1; omega), rfl, aE ⟨.refl _, .refl _, aJ (by show ((i.2.1 : Nat) : Int) + 1 = ((i.2.1 + 1 : Nat) : Int); omega), trivial⟩ ⟨Eq.trans rfl (congrArg (fun x : Nat => some (⟨false, 1, 3, [.v (.int .i64 (x : Int))]⟩ : Blk)) hpt.1), trivial⟩⟩
 have hb1_ := of_decide_eq_false hb1
 have hdn := hI.done (by omega)
 refine iE ?_
 refine ⟨.inl rfl, ?_⟩
 rw [← hxs, List.length_map, hdn]
 exact Nat.le_refl _
theorem ul (m : Nat) :
  CallG Tryz.prog 68 [Z (m : Int)] 135 (⟨false, 1, 3, [.v (.int .i64 ((m : Nat) : Int))]⟩) := by
 refine AH Tryz.func68 (by kernel_rfl) rfl rfl (Nat.le_of_ble_eq_true rfl) ?_
 refine ae hP<|an ai (aI rfl rfl)<|ak rfl<|ag<|ae hP<|ab (rE rfl)<|ab (bn (rfl : _ = AV.fnl _ _))<|ag<|am ?_
 exact ⟨.inr rfl, 2, 1, rfl, rfl, rfl⟩
theorem Kg (c x : Int) (hc : L 5 c) (hx : 1 ≤ x ∧ x ≤ 65536) :
  aF Tryz.prog 140 [Z c, Z x] (Z (atV c x)) := by
 have ic : LB c 6 := ⟨hc.mono (by decide)⟩
 have ix : LB x 6 := ⟨by unfold L; omega⟩
 have jc : bC c := by unfold L at hc; unfold bC; omega
 refine aK Tryz.func140 rfl rfl rfl rfl ?_
 refine ae hP<|ak rfl<|ag<|ao<|ae hP<|aj rfl<|ag<|aA<|ae hP<|ab (br rfl rfl)<|ak rfl<|ag ?_
 refine aw rfl (fun hb1 => ?_) (fun hb1 => ?_)
 ·have hb1_ := bT hb1
  refine ae hP<|aj rfl<|ab (b7 rfl rfl (by omega) (c := x % 4) (Int.tmod_eq_emod_of_nonneg (by omega))) ?_
  refine ab (bD rfl rfl (by first | exact IntWalk.i64_in _ (by omega) | rfl)) ?_
  refine ak rfl<|ag<|am<|E1 rfl rfl ?_
  exact aJ (JO hb1_)
 have hb1_ := bF hb1
 refine ae hP<|ab (br rfl rfl)<|ak rfl<|ag ?_
 refine aw rfl (fun hb2 => ?_) (fun hb2 => ?_)
 ·have hb2_ := bT hb2
  refine ae hP<|ab (ah (eE 2 (by decide))) ?_
  refine aj rfl<|ab (ah (eE x (by unfold bC; omega))) ?_
  refine ab (ah (iF _ _ lz lz)) ?_
  refine ak rfl<|ag<|am<|E1 rfl rfl ?_
  exact aJ (JN hb2_)
 have hb2_ := bF hb2
 refine ae hP<|ab (br rfl rfl)<|ak rfl<|ag ?_
 refine aw rfl (fun hb3 => ?_) (fun hb3 => ?_)
 ·have hb3_ := bT hb3
  refine ae hP<|ab (ah (eE (-2) (by decide))) ?_
  refine aj rfl<|ab (ah (eE x (by unfold bC; omega))) ?_
  refine ab (ah (iF _ _ lz lz)) ?_
  refine ak rfl<|ag<|am<|E1 rfl rfl ?_
  exact aJ (JM hb3_)
 have hb3_ := bF hb3
 refine aq<|ae hP<|aj rfl<|ab (ah (eE x (by unfold bC; omega))) ?_
 refine aj rfl<|ab (ah (eE c jc)) ?_
 refine ab (ah (iF _ _ lz lz)) ?_
 refine ak rfl<|ag<|am<|E1 rfl rfl ?_
 exact aJ (JL hb1_ hb2_ hb3_)
theorem nP (f : Fm) (D : Int) (m : Nat) (hfa : L 6 f.a) (hfb : L 6 f.b) (hfc : L 6 f.c) (hf : Cl D f) (hD : -4194304 ≤ D ∧ D < 0) (hm : 1 ≤ m ∧ m ≤ 65536) (hE : szE D = 0) :
  Iter2 Tryz.prog 137 [[zn f.a, zm f.a, zn f.b, zm f.b, zn f.c, zm f.c], [.v (.int .i64 (m : Int))]] ((agL D m f).map fun c => [PE c]) := by
 have fa : LB f.a 6 := ⟨hfa⟩
 have fb : LB f.b 6 := ⟨hfb⟩
 have fc : LB f.c 6 := ⟨hfc⟩
 have iD : LB D 6 := ⟨by unfold L; omega⟩
 have im : LB (m : Int) 6 := ⟨by unfold L; omega⟩
 have hdf : dsc f.a f.b f.c = D := hf.disc
 have cDs : aF Tryz.prog 40 [FA f.a f.b f.c] (I D) := by rw [← hdf]; exact fD f.a f.b f.c lz lz lz
 have cCh : aF Tryz.prog 139 [I D] (.t [.c (IS (chs D)), PE 0]) := by
  have h := ss D lz
  rwa [BQ hE, hE] at h
 have cVa : aF Tryz.prog 19 [FA f.a f.b f.c] (.t [.c (IS (gvL f)), PE 0]) := by
  have h := Aj f hfa hfb hfc Js
  rwa [sR hf hD.1 hE] at h
 have hln := Hl hf hD.1 hE
 have hcb := fun c hc => wi (c := c) hD.2 hD.1 hc
 have hlc := oX hD.2 hD.1
 have hgt_ := fun (h : Int.gcd (2 * D) m = 1) (k : Nat) (hk : k < (chs D).length) (hne) => HY (f := f) h hln hk hne
 have hyy := fun (k : Nat) (hk : k < (chs D).length) (hne) => KF (n := (m : Int)) (f := f) hln hk hne
 have hnn := fun (k : Nat) (hk : k < (chs D).length) (he) => KG (n := (m : Int)) (f := f) hln hk he
 have hall := fun (h : Int.gcd (2 * D) m = 1) (k : Nat) (hk : (chs D).length ≤ k) => H0 (f := f) h hln hk
 have hnone := fun (h : ¬ Int.gcd (2 * D) m = 1) (k : Nat) => EK (f := f) h k
 have hk0 : 0 = dG (agP m) (agZ D f) 0 := by unfold dG; simp
 generalize chs D = ls at *
 generalize gvL f = vs at *
 generalize dG (agP m) (agZ D f) = κ at *
 generalize ((agL D m f).map fun c => ([PE c] : List PV)) = xs at *
 refine mW Tryz.func137 (by kernel_rfl) rfl rfl (Nat.le_of_ble_eq_true rfl) rfl ?_
 intro l n0 J hK
 refine wB hK.toKeepsB ?_
 refine bM ?_
 refine bA hP ?_
 refine ab (a6 hT rfl rfl rfl (cs := [_, _, _, _, _, _]) rfl rfl)<|ab (ah cDs) ?_
 refine an ai (ay hT rfl rfl)<|aD hT rfl rfl rfl rfl rfl rfl rfl<|ag<|bM ?_
 refine bM ?_
 refine bA hP ?_
 refine ab (ah (eE 2 (by decide))) ?_
 refine au hT rfl rfl rfl rfl rfl rfl<|ab (ah (dF 2 D lz lz)) ?_
 refine ab (aS hT rfl rfl rfl (by first | rfl | exact ce (by omega))) ?_
 refine ab (ah (eE (m : Int) (by unfold bC; omega))) ?_
 refine ab (ah (km (2 * D) (m : Int) lz lz)) ?_
 refine ab (ah (eE 1 (by decide))) ?_
 refine ab (ah (fp _ _)) ?_
 refine ab (bE rfl)<|ag ?_
 refine dY rfl (fun hb1 => ?_) (fun hb1 => ?_)
 ·have hb1_ := (cB hb1)
  refine l4 ?_
  refine ⟨.inr rfl, ?_⟩
  exact hnone (fun e => of_decide_eq_false (cB hb1) (by rw [e]; rfl)) _
 have hb1_ := (cq hb1)
 have hgc : Int.gcd (2 * D) m = 1 := by have := of_decide_eq_true (cq hb1); omega
 have hmo : (m : Int) % 2 = 1 := Ai hgc
 refine dJ ?_
 refine bM ?_
 refine bA hP ?_
 refine au hT rfl rfl rfl rfl rfl rfl<|ab (ah cCh) ?_
 refine ab (az (rfl : _ = AV.t _))<|ab (aC rfl (v := .c _) rfl)<|ab (aC rfl (v := .c _) rfl)<|ak rfl<|ak rfl<|ag<|bM ?_
 refine bA hP ?_
 refine ab (a6 hT rfl rfl rfl (cs := [_, _, _, _, _, _]) rfl rfl)<|ab (ah cVa) ?_
 refine ab (az (rfl : _ = AV.t _))<|ab (aC rfl (v := .c _) rfl)<|ab (aC rfl (v := .c _) rfl)<|ak rfl<|ak rfl<|ag<|bM ?_
 refine bA hP ?_
 refine aj rfl<|ab (aU hT rfl rfl rfl (by rfl)) ?_
 refine aj rfl<|ag<|ej ?_
 refine kx (ι := Nat) (fun j => stL [(0, .p (.c (.v (.func (.yield l) #[] #[])))), (2, .ip [.v (.int .i64 (m : Int))]), (7, .p (.c (IS vs))), (32, .p (.c (IS ls))), (33, Z (ls.length : Int)), (34, Z (j : Int))] []) κ (fun j => j ≤ ls.length) (fun j => ls.length - j) 0 (Nat.zero_le _) hk0.symm (aE ⟨.refl _, .refl _, .refl _, .refl _, .refl _, .refl _, trivial⟩ trivial) ?_
 intro j hj
 refine bM ?_
 refine bA hP ?_
 refine ab (bi rfl rfl)<|ag<|bM ?_
 refine dY rfl (fun hb2 => ?_) (fun hb2 => ?_)
 ·have hb2_ := of_decide_eq_true hb2
  have hjn : j < ls.length := by omega
  have hcm := pR (l := ls) (k := j) hb2_
  have hcL : L 5 (ls.getD j 0) := by have := hcb _ hcm; unfold L; omega
  have hav : atV (ls.getD j 0) m = cv (ls.getD j 0) m := HU (by omega) hmo
  refine dJ ?_
  refine bM ?_
  refine ej ?_
  refine bM ?_
  refine bA hP ?_
  refine aj rfl<|ab (lG hT (n := (j : Int)) (l := ls) rfl rfl rfl rfl rfl rfl (by omega)) ?_
  refine ab (aS hT rfl rfl rfl (dv := .v (.int .i64 (ls.getD j 0))) rfl) ?_
  refine ak rfl<|ak rfl<|ag<|bM ?_
  refine tD hP 11 (by kernel_rfl) ?_
  refine aj rfl<|ab (aS hT rfl rfl rfl (by first | rfl | exact ce (by omega))) ?_
  refine ab (ah (Kg (ls.getD j 0) (m : Int) hcL (by omega))) ?_
  refine aj rfl<|aj rfl<|ab (lG hT (n := (j : Int)) (l := vs) rfl rfl rfl rfl rfl rfl (by omega)) ?_
  refine ab (aS hT rfl rfl rfl (dv := .v (.int .i64 (vs.getD j 0))) rfl) ?_
  refine ab (bB rfl rfl)<|aj rfl ?_
  refine bf (t := 47) rfl (fun hg3 => ?_) (fun hg3 => ?_)
  ·have hg3_ := cy hg3
   have hne : ¬ cv (ls.getD j 0) m = (vs.getD j 0) := fun e => cy hg3 (hav.trans e)
   refine aB hg3 (az (rfl : _ = AV.p (.c _))) ?_
   refine aB hg3 (az (rfl : _ = AV.p (.c _))) ?_
   refine ag<|RY.yield hK (aW rfl rfl hg3) rfl rfl (hgt_ hgc j hjn hne) ?_
   intro bb
   refine RY.val (aW rfl rfl hg3) (bE rfl) ?_
   refine RY.val ai (aO rfl hg3 (rfl : _ = AV.p (.c _))) ?_
   refine RY.done ?_
   refine dY rfl (fun hb4 => ?_) (fun hb4 => ?_)
   ·have hb4_ := (cB hb4)
    refine l4 ?_
    refine ⟨.inr rfl, ?_⟩
    exact vG (cB hb4)
   have hb4_ := (cq hb4)
   refine dJ ?_
   refine bA hP ?_
   refine bI rfl rfl ?_
   refine aj rfl<|ag ?_
   refine ⟨j + 1, by omega, by omega, (hyy j hjn hne).trans (vF (cq hb4)).symm, aE ⟨.refl _, .refl _, .refl _, .refl _, .refl _, aJ (by omega), trivial⟩ trivial⟩
  have hg3_ := cf hg3
  have heq : cv (ls.getD j 0) m = (vs.getD j 0) := hav.symm.trans (cf hg3)
  refine bd hg3 ?_
  refine bd hg3 ?_
  refine ag<|RY.skip (jG rfl rfl hg3) ?_
  refine RY.skip (jG rfl rfl hg3) ?_
  refine RY.val ai (aN rfl hg3 (rfl : _ = AV.p (.c _))) ?_
  refine RY.done ?_
  refine iV rfl rfl ?_
  refine dJ ?_
  refine bA hP ?_
  refine bI rfl rfl ?_
  refine aj rfl<|ag ?_
  refine ⟨j + 1, by omega, by omega, hnn j hjn heq, aE ⟨.refl _, .refl _, .refl _, .refl _, .refl _, aJ (by omega), trivial⟩ trivial⟩
 have hb2_ := of_decide_eq_false hb2
 refine iE ?_
 refine ⟨.inl rfl, ?_⟩
 exact hall hgc j (by omega)
theorem pA (f : Fm) (m : Int) :
  aF Tryz.prog 71 [FA f.a f.b f.c, Z m] (.fn 137 [[zn f.a, zm f.a, zn f.b, zm f.b, zn f.c, zm f.c], [.v (.int .i64 m)]]) := by
 refine kX Tryz.func71 (by kernel_rfl) rfl rfl (Nat.le_of_ble_eq_true rfl) rfl ?_
 refine ae hP<|an ai (aI rfl rfl)<|an ai (aI rfl rfl)<|ak rfl<|ag<|cL (t := 2) rfl rfl ?_
 refine cL (t := 3) rfl rfl ?_
 refine ae hP<|ab (jB rfl rfl)<|ab (bn (rfl : _ = AV.fn _ _))<|ag<|am ?_
 exact ⟨.inr rfl, 4, rfl, rfl⟩
end
section
open Go Go.AM
theorem GG (f : Fm) (D : Int) (m : Nat) (hfa : L 6 f.a) (hfb : L 6 f.b) (hfc : L 6 f.c) (hf : Cl D f) (hD : -4194304 ≤ D ∧ D < 0) (hm : 1 ≤ m ∧ m ≤ 65536) (hE : szE D = 0) :
  aF Tryz.prog 17 [FA f.a f.b f.c, Z (m : Int)] (.t [.a (anS (fnd D m f)), PE 0]) := by
 have fa : LB f.a 6 := ⟨hfa⟩
 have fb : LB f.b 6 := ⟨hfb⟩
 have fc : LB f.c 6 := ⟨hfc⟩
 have hdf : dsc f.a f.b f.c = D := hf.disc
 have h0m : 0 < (m : Int) := by omega
 have cRf : aF Tryz.prog 65 [FA f.a f.b f.c, Z (m : Int)] (Z 0) := by
  have h := lD f m hfa hfb hfc
  rwa [wu hf hm] at h
 have iD : LB D 6 := ⟨by unfold L; omega⟩
 have cDs : aF Tryz.prog 40 [FA f.a f.b f.c] (I D) := by rw [← hdf]; exact fD f.a f.b f.c lz lz lz
 refine aK Tryz.func17 rfl rfl rfl rfl ?_
 refine ae hP<|an ai (aI rfl rfl)<|an ai (ay hT rfl rfl)<|an ai (ay hT rfl rfl)<|ag<|ao<|ae hP<|bH hT rfl rfl rfl rfl rfl rfl<|aj rfl<|ab (ah cRf) ?_
 refine ak rfl<|ag<|ae hP<|aj rfl<|ab (bB rfl rfl)<|ag<|aP rfl rfl<|aq<|ae hP<|bH hT rfl rfl rfl rfl rfl rfl<|ab (ah cDs) ?_
 refine an ai (ay hT rfl rfl)<|aD hT rfl rfl rfl rfl rfl rfl rfl<|ag<|ae hP<|an ai (ay hT rfl rfl)<|ag<|ao<|ae hP<|bH hT rfl rfl rfl rfl rfl rfl<|aj rfl<|ab (ah (um f m)) ?_
 refine ag<|aA<|dE (t := stL [(1, Z (m : Int)), (2, .loc 2 0), (4, .loc 4 0), (5, .loc 5 0), (7, .loc 7 0), (8, .loc 8 0), (26, .fn 132 [[zn f.a, zm f.a, zn f.b, zm f.b, zn f.c, zm f.c], [.v (.int .i64 (m : Int))]])] [(2, ⟨false, 1, 46, [zn f.a, zm f.a, zn f.b, zm f.b, zn f.c, zm f.c]⟩), (4, ⟨false, 1, 42, bsC none⟩), (5, ⟨false, 1, 33, [.v (.int .i64 0)]⟩), (7, ⟨false, 1, 29, [zn D, zm D]⟩), (8, ⟨false, 1, 42, bsC (dA (prL D m f) 0)⟩)]) (aE ⟨.refl _, .refl _, .refl _, .refl _, .refl _, .refl _, .refl _, trivial⟩ ⟨rfl, rfl, rfl, rfl, Eq.trans rfl (congrArg (fun b => some (⟨false, 1, 42, bsC b⟩ : Blk)) (EG (prL D m f)).symm), trivial⟩) ?_
 refine fg 9 (fun k => cO [(2, ⟨false, 1, 46, [zn f.a, zm f.a, zn f.b, zm f.b, zn f.c, zm f.c]⟩), (4, ⟨false, 1, 42, bsC none⟩), (5, ⟨false, 1, 33, [.v (.int .i64 0)]⟩), (7, ⟨false, 1, 29, [zn D, zm D]⟩), (8, ⟨false, 1, 42, bsC (dA (prL D m f) k)⟩)]) (fun _ => True) rfl (rq f D m hfa hfb hfc hdf hD hm) GA rfl rfl rfl trivial (fun k x hx _ => ?_) (fun _ => ?_)
 ·obtain ⟨p, hp, rfl⟩ := I7 hx
  refine av hP<|an ai (ay hT rfl rfl)<|aD hT rfl rfl rfl rfl rfl rfl rfl<|ag<|aA<|ae hP<|ab (aT hT rfl rfl rfl rfl rfl (by first | decide | omega)) ?_
  refine au hT rfl rfl rfl rfl rfl rfl<|ab (aT hT rfl rfl rfl rfl rfl (by first | decide | omega)) ?_
  refine au hT rfl rfl rfl rfl rfl rfl<|an ai (ay hT rfl rfl)<|an ai (ay hT rfl rfl)<|aD hT rfl rfl rfl rfl rfl rfl rfl<|aD hT rfl rfl rfl rfl rfl rfl rfl<|ag<|ao<|ae hP<|aH hT rfl rfl rfl rfl rfl rfl<|a7 hT rfl rfl rfl rfl ?_
  refine aj rfl ?_
  refine bf (t := 34) rfl (fun hg1 => ?_) (fun hg1 => ?_)
  ·have hy1 : p.2 < 0 := of_decide_eq_true hg1
   iterate 3 refine bd hg1 ?_
   refine fN ?_
   refine fN ?_
   refine bd hg1 ?_
   refine ab (aO rfl hg1 (rfl : _ = AV.p (.c _)))<|ag<|aY rfl rfl<|aZ ?_
   refine ⟨GW.forget fun x => SubO.own (l := [(2, ⟨false, 1, 46, [zn f.a, zm f.a, zn f.b, zm f.b, zn f.c, zm f.c]⟩), (4, ⟨false, 1, 42, bsC none⟩), (5, ⟨false, 1, 33, [.v (.int .i64 0)]⟩), (7, ⟨false, 1, 29, [zn D, zm D]⟩), (8, ⟨false, 1, 42, bsC (dA (prL D m f) (k + 1))⟩)]) ⟨rfl, rfl, rfl, rfl, Eq.trans rfl (congrArg (fun b => some (⟨false, 1, 42, bsC b⟩ : Blk)) ((ew hp).trans (qG (.inl hy1))).symm), trivial⟩ x, trivial⟩
  have hy1 : ¬ p.2 < 0 := of_decide_eq_false hg1
  refine aB hg1 (aL hT rfl rfl rfl rfl (cs := [_, _]) rfl rfl) ?_
  refine aB hg1 (ah (zM _)) ?_
  refine aB hg1 (az (rfl : _ = AV.p (.c _))) ?_
  refine bf (t := 37) rfl (fun hg2 => ?_) (fun hg2 => ?_)
  ·have hy0 : p.2 = 0 := of_decide_eq_true hg2
   refine aB hg2 (aR hT rfl rfl rfl rfl rfl rfl) ?_
   refine aB hg2 (bS hT rfl rfl rfl rfl (by first | rfl | exact eC (by omega))) ?_
   refine aB hg1 (aO rfl hg2 (rfl : _ = AV.p (.c _))) ?_
   refine ab (aN rfl hg1 (rfl : _ = AV.p (.c _)))<|ag ?_
   refine aw rfl (fun hb3 => ?_) (fun hb3 => ?_)
   ·have hx1 : p.1 < 0 := of_decide_eq_true hb3
    refine aZ ?_
    refine ⟨GW.forget fun x => SubO.own (l := [(2, ⟨false, 1, 46, [zn f.a, zm f.a, zn f.b, zm f.b, zn f.c, zm f.c]⟩), (4, ⟨false, 1, 42, bsC none⟩), (5, ⟨false, 1, 33, [.v (.int .i64 0)]⟩), (7, ⟨false, 1, 29, [zn D, zm D]⟩), (8, ⟨false, 1, 42, bsC (dA (prL D m f) (k + 1))⟩)]) ⟨rfl, rfl, rfl, rfl, Eq.trans rfl (congrArg (fun b => some (⟨false, 1, 42, bsC b⟩ : Blk)) ((ew hp).trans (qG (.inr ⟨hy0, hx1⟩))).symm), trivial⟩ x, trivial⟩
   have ho : okP p = true := wL hy1 (fun z => of_decide_eq_false hb3 z.2)
   refine aq<|ae hP<|au hT rfl rfl rfl rfl rfl rfl<|aH hT rfl rfl rfl rfl rfl rfl<|au hT rfl rfl rfl rfl rfl rfl<|ab (ah (da _ _)) ?_
   refine ak rfl<|ag<|ae hP<|aH hT rfl rfl rfl rfl rfl rfl<|a7 hT rfl rfl rfl rfl ?_
   refine ab (br rfl rfl)<|aj rfl ?_
   refine bf (t := 49) rfl (fun hg4 => ?_) (fun hg4 => ?_)
   ·have hg4_ := bT hg4
    have hk := bT hg4
    refine bd hg4 ?_
    refine bd hg4 ?_
    refine ab (aO rfl hg4 (rfl : _ = AV.p (.c _)))<|aj rfl<|bd rfl ?_
    refine bd rfl ?_
    refine bd rfl ?_
    iterate 5 refine fN ?_
    refine bd rfl ?_
    refine ab (aO rfl rfl (rfl : _ = AV.p (.c _)))<|ag<|aY rfl rfl<|av hP<|au hT rfl rfl rfl rfl rfl rfl<|au hT rfl rfl rfl rfl rfl rfl<|ab (aV hT rfl rfl rfl (es := [_, _, _, _, _, _, _, _, _]) rfl)<|aD hT rfl rfl rfl rfl rfl rfl rfl<|ag ?_
    refine ⟨GW.forget fun x => SubO.own (l := [(2, ⟨false, 1, 46, [zn f.a, zm f.a, zn f.b, zm f.b, zn f.c, zm f.c]⟩), (4, ⟨false, 1, 42, bsC none⟩), (5, ⟨false, 1, 33, [.v (.int .i64 0)]⟩), (7, ⟨false, 1, 29, [zn D, zm D]⟩), (8, ⟨false, 1, 42, bsC (dA (prL D m f) (k + 1))⟩)]) ⟨rfl, rfl, rfl, rfl, Eq.trans rfl (congrArg (fun b => some (⟨false, 1, 42, bsC b⟩ : Blk)) ((ew hp).trans (Bu ho hk)).symm), trivial⟩ x, trivial⟩
   have hg4_ := bF hg4
   have hk := bF hg4
   refine aB hg4 (az (rfl : _ = AV.p (.c _))) ?_
   refine aB hg4 (bi rfl rfl) ?_
   refine ab (aN rfl hg4 (rfl : _ = AV.p (.c _)))<|aj rfl ?_
   refine bf (t := 53) rfl (fun hg5 => ?_) (fun hg5 => ?_)
   ·have hg5_ := of_decide_eq_true hg5
    have hc := of_decide_eq_true hg5
    iterate 3 refine bd hg5 ?_
    iterate 5 refine fN ?_
    refine bd hg5 ?_
    refine ab (aO rfl hg5 (rfl : _ = AV.p (.c _)))<|ag<|aY rfl rfl<|av hP<|au hT rfl rfl rfl rfl rfl rfl<|au hT rfl rfl rfl rfl rfl rfl<|ab (aV hT rfl rfl rfl (es := [_, _, _, _, _, _, _, _, _]) rfl)<|aD hT rfl rfl rfl rfl rfl rfl rfl<|ag ?_
    refine ⟨GW.forget fun x => SubO.own (l := [(2, ⟨false, 1, 46, [zn f.a, zm f.a, zn f.b, zm f.b, zn f.c, zm f.c]⟩), (4, ⟨false, 1, 42, bsC none⟩), (5, ⟨false, 1, 33, [.v (.int .i64 0)]⟩), (7, ⟨false, 1, 29, [zn D, zm D]⟩), (8, ⟨false, 1, 42, bsC (dA (prL D m f) (k + 1))⟩)]) ⟨rfl, rfl, rfl, rfl, Eq.trans rfl (congrArg (fun b => some (⟨false, 1, 42, bsC b⟩ : Blk)) ((ew hp).trans (qb ho hk (.inl (cmpI_lt_zero.1 hc)))).symm), trivial⟩ x, trivial⟩
   have hg5_ := of_decide_eq_false hg5
   have hc := of_decide_eq_false hg5
   refine aB hg5 (az (rfl : _ = AV.p (.c _))) ?_
   refine aB hg5 (br rfl rfl) ?_
   refine aB hg5 (az (rfl : _ = AV.p (.c _))) ?_
   refine bf (t := 56) rfl (fun hg6 => ?_) (fun hg6 => ?_)
   ·have hg6_ := bT hg6
    have hc0 := bT hg6
    refine aB hg6 (aL hT rfl rfl rfl rfl (cs := [_, _]) rfl rfl) ?_
    refine aB hg6 (aR hT rfl rfl rfl rfl rfl rfl) ?_
    refine aB hg6 (aL hT rfl rfl rfl rfl (cs := [_, _]) rfl rfl) ?_
    refine aB hg6 (ah (da _ _)) ?_
    refine aB hg6 (bi rfl rfl) ?_
    refine aB hg5 (aO rfl hg6 (rfl : _ = AV.p (.c _))) ?_
    refine ab (aN rfl hg5 (rfl : _ = AV.p (.c _)))<|ag ?_
    refine aw rfl (fun hb7 => ?_) (fun hb7 => ?_)
    ·have hb7_ := of_decide_eq_true hb7
     have hx2 := of_decide_eq_true hb7
     refine av hP<|au hT rfl rfl rfl rfl rfl rfl<|au hT rfl rfl rfl rfl rfl rfl<|ab (aV hT rfl rfl rfl (es := [_, _, _, _, _, _, _, _, _]) rfl)<|aD hT rfl rfl rfl rfl rfl rfl rfl<|ag ?_
     refine ⟨GW.forget fun x => SubO.own (l := [(2, ⟨false, 1, 46, [zn f.a, zm f.a, zn f.b, zm f.b, zn f.c, zm f.c]⟩), (4, ⟨false, 1, 42, bsC none⟩), (5, ⟨false, 1, 33, [.v (.int .i64 0)]⟩), (7, ⟨false, 1, 29, [zn D, zm D]⟩), (8, ⟨false, 1, 42, bsC (dA (prL D m f) (k + 1))⟩)]) ⟨rfl, rfl, rfl, rfl, Eq.trans rfl (congrArg (fun b => some (⟨false, 1, 42, bsC b⟩ : Blk)) ((ew hp).trans (qb ho hk (.inr ⟨cmpI_eq_zero.1 hc0, cmpI_lt_zero.1 hx2⟩))).symm), trivial⟩ x, trivial⟩
    have hb7_ := of_decide_eq_false hb7
    have hx2 := of_decide_eq_false hb7
    refine aq ?_
    refine ⟨GW.forget fun x => SubO.own (l := [(2, ⟨false, 1, 46, [zn f.a, zm f.a, zn f.b, zm f.b, zn f.c, zm f.c]⟩), (4, ⟨false, 1, 42, bsC none⟩), (5, ⟨false, 1, 33, [.v (.int .i64 0)]⟩), (7, ⟨false, 1, 29, [zn D, zm D]⟩), (8, ⟨false, 1, 42, bsC (dA (prL D m f) (k + 1))⟩)]) ⟨rfl, rfl, rfl, rfl, Eq.trans rfl (congrArg (fun b => some (⟨false, 1, 42, bsC b⟩ : Blk)) ((ew hp).trans (qd ho hk (fun z => z.elim (fun z => hc (cmpI_lt_zero.2 z)) fun z => hx2 (cmpI_lt_zero.2 z.2)))).symm), trivial⟩ x, trivial⟩
   have hg6_ := bF hg6
   have hc0 := bF hg6
   iterate 5 refine bd hg6 ?_
   refine aB hg5 (aN rfl hg6 (rfl : _ = AV.p (.c _))) ?_
   refine ab (aN rfl hg5 (rfl : _ = AV.p (.c _)))<|ag<|aP rfl rfl<|aq ?_
   refine ⟨GW.forget fun x => SubO.own (l := [(2, ⟨false, 1, 46, [zn f.a, zm f.a, zn f.b, zm f.b, zn f.c, zm f.c]⟩), (4, ⟨false, 1, 42, bsC none⟩), (5, ⟨false, 1, 33, [.v (.int .i64 0)]⟩), (7, ⟨false, 1, 29, [zn D, zm D]⟩), (8, ⟨false, 1, 42, bsC (dA (prL D m f) (k + 1))⟩)]) ⟨rfl, rfl, rfl, rfl, Eq.trans rfl (congrArg (fun b => some (⟨false, 1, 42, bsC b⟩ : Blk)) ((ew hp).trans (qd ho hk (fun z => z.elim (fun z => hc (cmpI_lt_zero.2 z)) fun z => hc0 (cmpI_eq_zero.2 z.1)))).symm), trivial⟩ x, trivial⟩
  have hy0 : ¬ p.2 = 0 := of_decide_eq_false hg2
  have ho : okP p = true := wL hy1 (fun z => hy0 z.1)
  refine bd hg2 ?_
  refine bd hg2 ?_
  refine aB hg1 (aN rfl hg2 (rfl : _ = AV.p (.c _))) ?_
  refine ab (aN rfl hg1 (rfl : _ = AV.p (.c _)))<|ag<|aP rfl rfl<|aq<|ae hP<|au hT rfl rfl rfl rfl rfl rfl<|aH hT rfl rfl rfl rfl rfl rfl<|au hT rfl rfl rfl rfl rfl rfl<|ab (ah (da _ _)) ?_
  refine ak rfl<|ag<|ae hP<|aH hT rfl rfl rfl rfl rfl rfl<|a7 hT rfl rfl rfl rfl ?_
  refine ab (br rfl rfl)<|aj rfl ?_
  refine bf (t := 49) rfl (fun hg8 => ?_) (fun hg8 => ?_)
  ·have hg8_ := bT hg8
   have hk := bT hg8
   refine bd hg8 ?_
   refine bd hg8 ?_
   refine ab (aO rfl hg8 (rfl : _ = AV.p (.c _)))<|aj rfl<|bd rfl ?_
   refine bd rfl ?_
   refine bd rfl ?_
   iterate 5 refine fN ?_
   refine bd rfl ?_
   refine ab (aO rfl rfl (rfl : _ = AV.p (.c _)))<|ag<|aY rfl rfl<|av hP<|au hT rfl rfl rfl rfl rfl rfl<|au hT rfl rfl rfl rfl rfl rfl<|ab (aV hT rfl rfl rfl (es := [_, _, _, _, _, _, _, _, _]) rfl)<|aD hT rfl rfl rfl rfl rfl rfl rfl<|ag ?_
   refine ⟨GW.forget fun x => SubO.own (l := [(2, ⟨false, 1, 46, [zn f.a, zm f.a, zn f.b, zm f.b, zn f.c, zm f.c]⟩), (4, ⟨false, 1, 42, bsC none⟩), (5, ⟨false, 1, 33, [.v (.int .i64 0)]⟩), (7, ⟨false, 1, 29, [zn D, zm D]⟩), (8, ⟨false, 1, 42, bsC (dA (prL D m f) (k + 1))⟩)]) ⟨rfl, rfl, rfl, rfl, Eq.trans rfl (congrArg (fun b => some (⟨false, 1, 42, bsC b⟩ : Blk)) ((ew hp).trans (Bu ho hk)).symm), trivial⟩ x, trivial⟩
  have hg8_ := bF hg8
  have hk := bF hg8
  refine aB hg8 (az (rfl : _ = AV.p (.c _))) ?_
  refine aB hg8 (bi rfl rfl) ?_
  refine ab (aN rfl hg8 (rfl : _ = AV.p (.c _)))<|aj rfl ?_
  refine bf (t := 53) rfl (fun hg9 => ?_) (fun hg9 => ?_)
  ·have hg9_ := of_decide_eq_true hg9
   have hc := of_decide_eq_true hg9
   iterate 3 refine bd hg9 ?_
   iterate 5 refine fN ?_
   refine bd hg9 ?_
   refine ab (aO rfl hg9 (rfl : _ = AV.p (.c _)))<|ag<|aY rfl rfl<|av hP<|au hT rfl rfl rfl rfl rfl rfl<|au hT rfl rfl rfl rfl rfl rfl<|ab (aV hT rfl rfl rfl (es := [_, _, _, _, _, _, _, _, _]) rfl)<|aD hT rfl rfl rfl rfl rfl rfl rfl<|ag ?_
   refine ⟨GW.forget fun x => SubO.own (l := [(2, ⟨false, 1, 46, [zn f.a, zm f.a, zn f.b, zm f.b, zn f.c, zm f.c]⟩), (4, ⟨false, 1, 42, bsC none⟩), (5, ⟨false, 1, 33, [.v (.int .i64 0)]⟩), (7, ⟨false, 1, 29, [zn D, zm D]⟩), (8, ⟨false, 1, 42, bsC (dA (prL D m f) (k + 1))⟩)]) ⟨rfl, rfl, rfl, rfl, Eq.trans rfl (congrArg (fun b => some (⟨false, 1, 42, bsC b⟩ : Blk)) ((ew hp).trans (qb ho hk (.inl (cmpI_lt_zero.1 hc)))).symm), trivial⟩ x, trivial⟩
  have hg9_ := of_decide_eq_false hg9
  have hc := of_decide_eq_false hg9
  refine aB hg9 (az (rfl : _ = AV.p (.c _))) ?_
  refine aB hg9 (br rfl rfl) ?_
  refine aB hg9 (az (rfl : _ = AV.p (.c _))) ?_
  refine bf (t := 56) rfl (fun hg10 => ?_) (fun hg10 => ?_)
  ·have hg10_ := bT hg10
   have hc0 := bT hg10
   refine aB hg10 (aL hT rfl rfl rfl rfl (cs := [_, _]) rfl rfl) ?_
   refine aB hg10 (aR hT rfl rfl rfl rfl rfl rfl) ?_
   refine aB hg10 (aL hT rfl rfl rfl rfl (cs := [_, _]) rfl rfl) ?_
   refine aB hg10 (ah (da _ _)) ?_
   refine aB hg10 (bi rfl rfl) ?_
   refine aB hg9 (aO rfl hg10 (rfl : _ = AV.p (.c _))) ?_
   refine ab (aN rfl hg9 (rfl : _ = AV.p (.c _)))<|ag ?_
   refine aw rfl (fun hb11 => ?_) (fun hb11 => ?_)
   ·have hb11_ := of_decide_eq_true hb11
    have hx2 := of_decide_eq_true hb11
    refine av hP<|au hT rfl rfl rfl rfl rfl rfl<|au hT rfl rfl rfl rfl rfl rfl<|ab (aV hT rfl rfl rfl (es := [_, _, _, _, _, _, _, _, _]) rfl)<|aD hT rfl rfl rfl rfl rfl rfl rfl<|ag ?_
    refine ⟨GW.forget fun x => SubO.own (l := [(2, ⟨false, 1, 46, [zn f.a, zm f.a, zn f.b, zm f.b, zn f.c, zm f.c]⟩), (4, ⟨false, 1, 42, bsC none⟩), (5, ⟨false, 1, 33, [.v (.int .i64 0)]⟩), (7, ⟨false, 1, 29, [zn D, zm D]⟩), (8, ⟨false, 1, 42, bsC (dA (prL D m f) (k + 1))⟩)]) ⟨rfl, rfl, rfl, rfl, Eq.trans rfl (congrArg (fun b => some (⟨false, 1, 42, bsC b⟩ : Blk)) ((ew hp).trans (qb ho hk (.inr ⟨cmpI_eq_zero.1 hc0, cmpI_lt_zero.1 hx2⟩))).symm), trivial⟩ x, trivial⟩
   have hb11_ := of_decide_eq_false hb11
   have hx2 := of_decide_eq_false hb11
   refine aq ?_
   refine ⟨GW.forget fun x => SubO.own (l := [(2, ⟨false, 1, 46, [zn f.a, zm f.a, zn f.b, zm f.b, zn f.c, zm f.c]⟩), (4, ⟨false, 1, 42, bsC none⟩), (5, ⟨false, 1, 33, [.v (.int .i64 0)]⟩), (7, ⟨false, 1, 29, [zn D, zm D]⟩), (8, ⟨false, 1, 42, bsC (dA (prL D m f) (k + 1))⟩)]) ⟨rfl, rfl, rfl, rfl, Eq.trans rfl (congrArg (fun b => some (⟨false, 1, 42, bsC b⟩ : Blk)) ((ew hp).trans (qd ho hk (fun z => z.elim (fun z => hc (cmpI_lt_zero.2 z)) fun z => hx2 (cmpI_lt_zero.2 z.2)))).symm), trivial⟩ x, trivial⟩
  have hg10_ := bF hg10
  have hc0 := bF hg10
  iterate 5 refine bd hg10 ?_
  refine aB hg9 (aN rfl hg10 (rfl : _ = AV.p (.c _))) ?_
  refine ab (aN rfl hg9 (rfl : _ = AV.p (.c _)))<|ag<|aP rfl rfl<|aq ?_
  refine ⟨GW.forget fun x => SubO.own (l := [(2, ⟨false, 1, 46, [zn f.a, zm f.a, zn f.b, zm f.b, zn f.c, zm f.c]⟩), (4, ⟨false, 1, 42, bsC none⟩), (5, ⟨false, 1, 33, [.v (.int .i64 0)]⟩), (7, ⟨false, 1, 29, [zn D, zm D]⟩), (8, ⟨false, 1, 42, bsC (dA (prL D m f) (k + 1))⟩)]) ⟨rfl, rfl, rfl, rfl, Eq.trans rfl (congrArg (fun b => some (⟨false, 1, 42, bsC b⟩ : Blk)) ((ew hp).trans (qd ho hk (fun z => z.elim (fun z => hc (cmpI_lt_zero.2 z)) fun z => hc0 (cmpI_eq_zero.2 z.1)))).symm), trivial⟩ x, trivial⟩
 refine dE (t := stL [(1, Z (m : Int)), (2, .loc 2 0), (4, .loc 4 0), (5, .loc 5 0), (7, .loc 7 0), (8, .loc 8 0)] [(2, ⟨false, 1, 46, [zn f.a, zm f.a, zn f.b, zm f.b, zn f.c, zm f.c]⟩), (4, ⟨false, 1, 42, bsC none⟩), (5, ⟨false, 1, 33, [.v (.int .i64 0)]⟩), (7, ⟨false, 1, 29, [zn D, zm D]⟩), (8, ⟨false, 1, 42, bsC (el (prL D m f))⟩)]) (aE ⟨.refl _, .refl _, .refl _, .refl _, .refl _, .refl _, trivial⟩ ⟨rfl, rfl, rfl, rfl, Eq.trans rfl (congrArg (fun b => some (⟨false, 1, 42, bsC b⟩ : Blk)) (yd rfl)), trivial⟩) ?_
 refine ao<|ae hP<|aH hT rfl rfl rfl rfl rfl rfl<|a7 hT rfl rfl rfl rfl ?_
 refine ab (bU rfl rfl)<|ag ?_
 refine aw rfl (fun hb12 => ?_) (fun hb12 => ?_)
 ·have hb12_ := of_decide_eq_true hb12
  have hkb := of_decide_eq_true hb12
  refine ae hP<|ab (aL hT rfl rfl rfl rfl (cs := [_, _, _, _, _, _, _, _, _]) rfl rfl)<|aD hT rfl rfl rfl rfl rfl rfl rfl<|aD hT rfl rfl rfl rfl rfl rfl rfl<|ag<|am ?_
  refine cr rfl (.inr rfl) (aQ hT rfl rfl rfl rfl (cs := [_, _, _, _, _, _, _, _, _]) rfl rfl) (ci hT rfl rfl rfl rfl rfl) ?_ bw
  exact aG (congrArg (fun d => AV.t [.a d, PE 0]) (Ky hkb))
 have hb12_ := of_decide_eq_false hb12
 have h0b := Kz (of_decide_eq_false hb12)
 refine aq<|ao<|ae hP<|aj rfl<|an ai (Eff.callG (ul m)) ?_
 refine ag<|aA<|dE (t := stL [(72, .fnl 135 72), (1, Z (m : Int)), (2, .loc 2 0), (4, .loc 4 0), (5, .loc 5 0), (7, .loc 7 0)] ((72, ⟨false, 1, 3, [.v (.int .i64 ((m : Nat) : Int))]⟩) :: [(2, ⟨false, 1, 46, [zn f.a, zm f.a, zn f.b, zm f.b, zn f.c, zm f.c]⟩), (4, ⟨false, 1, 42, bsC none⟩), (5, ⟨false, 1, 33, [.v (.int .i64 0)]⟩), (7, ⟨false, 1, 29, [zn D, zm D]⟩)])) (aE ⟨.refl _, .refl _, .refl _, .refl _, .refl _, .refl _, trivial⟩ ⟨rfl, rfl, rfl, rfl, rfl, trivial⟩) ?_
 refine og (l := [(1, Z (m : Int)), (2, .loc 2 0), (4, .loc 4 0), (5, .loc 5 0), (7, .loc 7 0)]) (o := cO ((72, ⟨false, 1, 3, [.v (.int .i64 ((m : Nat) : Int))]⟩) :: [(2, ⟨false, 1, 46, [zn f.a, zm f.a, zn f.b, zm f.b, zn f.c, zm f.c]⟩), (4, ⟨false, 1, 42, bsC none⟩), (5, ⟨false, 1, 33, [.v (.int .i64 0)]⟩), (7, ⟨false, 1, 29, [zn D, zm D]⟩)])) 73 (fun _ => cO [(2, ⟨false, 1, 46, [zn f.a, zm f.a, zn f.b, zm f.b, zn f.c, zm f.c]⟩), (4, ⟨false, 1, 42, bsC none⟩), (5, ⟨false, 1, 33, [.v (.int .i64 0)]⟩), (7, ⟨false, 1, 29, [zn D, zm D]⟩)]) (PtR D m) (rp m hm) rfl rfl rfl rfl (ry rfl) xc rfl rfl rfl PtR.start (fun k x hx hI => ?_) (fun hI => ?_)
 ·obtain ⟨q, hq, rfl⟩ := By hx
  refine av hP<|ak rfl<|ag<|aA<|ae hP<|au hT rfl rfl rfl rfl rfl rfl<|aj rfl<|ab (ah (pz D q hD (vu hm hq))) ?_
  refine ag ?_
  refine aw rfl (fun hb13 => ?_) (fun hb13 => ?_)
  ·have hrq := of_decide_eq_true hb13
   refine ae hP<|aj rfl<|ab (ah (eE (q : Int) (by have := vu hm hq; unfold bC; omega))) ?_
   refine ab (aV hT rfl rfl rfl (es := [_, _, _, _, _, _, _, _, _]) rfl)<|aD hT rfl rfl rfl rfl rfl rfl rfl<|aD hT rfl rfl rfl rfl rfl rfl rfl<|ag<|am ?_
   refine ⟨_, GW.forget fun _ => .inl rfl, ?_⟩
   refine cr rfl (.inr rfl) (aQ hT rfl rfl rfl rfl (cs := [_, _, _, _, _, _, _, _, _]) rfl rfl) (ci hT rfl rfl rfl rfl rfl) ?_ bw
   exact aG (congrArg (fun d => AV.t [.a d, PE 0]) (Kx h0b hI hq hrq))
  have hrq := of_decide_eq_false hb13
  refine aq ?_
  exact ⟨GW.forget fun x => SubO.own (l := [(2, ⟨false, 1, 46, [zn f.a, zm f.a, zn f.b, zm f.b, zn f.c, zm f.c]⟩), (4, ⟨false, 1, 42, bsC none⟩), (5, ⟨false, 1, 33, [.v (.int .i64 0)]⟩), (7, ⟨false, 1, 29, [zn D, zm D]⟩)]) ⟨rfl, rfl, rfl, rfl, trivial⟩ x, hI.next hq hrq⟩
 have h1b := hI.done (Gy rfl)
 refine ao<|ae hP<|bH hT rfl rfl rfl rfl rfl rfl<|aj rfl<|ab (ah (pA f m)) ?_
 refine ag<|aA<|dE (t := stL [(1, Z (m : Int)), (2, .loc 2 0), (4, .loc 4 0), (5, .loc 5 0), (7, .loc 7 0), (82, .fn 137 [[zn f.a, zm f.a, zn f.b, zm f.b, zn f.c, zm f.c], [.v (.int .i64 (m : Int))]])] [(2, ⟨false, 1, 46, [zn f.a, zm f.a, zn f.b, zm f.b, zn f.c, zm f.c]⟩), (4, ⟨false, 1, 42, bsC none⟩), (5, ⟨false, 1, 33, [.v (.int .i64 0)]⟩), (7, ⟨false, 1, 29, [zn D, zm D]⟩)]) (aE ⟨.refl _, .refl _, .refl _, .refl _, .refl _, .refl _, trivial⟩ ⟨rfl, rfl, rfl, rfl, trivial⟩) ?_
 refine fg 83 (fun _ => cO [(2, ⟨false, 1, 46, [zn f.a, zm f.a, zn f.b, zm f.b, zn f.c, zm f.c]⟩), (4, ⟨false, 1, 42, bsC none⟩), (5, ⟨false, 1, 33, [.v (.int .i64 0)]⟩), (7, ⟨false, 1, 29, [zn D, zm D]⟩)]) (fun k => k = 0) rfl (nP f D m hfa hfb hfc hf hD hm hE) yj rfl rfl rfl rfl (fun k x hx hk => ?_) (fun hk => ?_)
 ·obtain ⟨c, hc, rfl⟩ := BS hx
  refine av hP<|ak rfl<|ag<|aA<|ae hP<|aj rfl<|ab (ah (eE c (by have := HZ hD hc; unfold bC; omega))) ?_
  refine ab (aV hT rfl rfl rfl (es := [_, _, _, _, _, _, _, _, _]) rfl)<|aD hT rfl rfl rfl rfl rfl rfl rfl<|aD hT rfl rfl rfl rfl rfl rfl rfl<|ag<|am ?_
  refine ⟨_, GW.forget fun _ => .inl rfl, ?_⟩
  refine cr rfl (.inr rfl) (aQ hT rfl rfl rfl rfl (cs := [_, _, _, _, _, _, _, _, _]) rfl rfl) (ci hT rfl rfl rfl rfl rfl) ?_ bw
  exact aG (congrArg (fun d => AV.t [.a d, PE 0]) (Kw h0b h1b hc hk))
 refine ae hP<|au hT rfl rfl rfl rfl rfl rfl<|aj rfl<|ab (ah (rr D m hD hm)) ?_
 refine au hT rfl rfl rfl rfl rfl rfl<|aj rfl<|ab (ah (py D m hD hm)) ?_
 refine ab (aV hT rfl rfl rfl (es := [_, _, _, _, _, _, _, _, _]) rfl)<|aD hT rfl rfl rfl rfl rfl rfl rfl<|aD hT rfl rfl rfl rfl rfl rfl rfl<|ag<|am ?_
 refine cr rfl (.inr rfl) (aQ hT rfl rfl rfl rfl (cs := [_, _, _, _, _, _, _, _, _]) rfl rfl) (ci hT rfl rfl rfl rfl rfl) ?_ bw
 exact aG (congrArg (fun d => AV.t [.a d, PE 0]) (Kv h0b h1b hk))
end
section
open Go Go.AM
theorem xF (r : Rw) :
  aF Tryz.prog 58 [.p (.a [.v (.bool r.1), W r.2])] (Z (rsg r)) := by
 refine aK Tryz.func58 rfl rfl rfl rfl ?_
 refine ae hP<|an ai (aI rfl rfl)<|ak rfl<|ag<|ao<|aA<|ae hP<|aH hT rfl rfl rfl rfl rfl rfl<|a7 hT rfl rfl rfl rfl ?_
 refine ab (aU hT rfl rfl rfl rfl)<|ab (br rfl rfl)<|ak rfl<|ag ?_
 refine aw rfl (fun hb1 => ?_) (fun hb1 => ?_)
 ·have hb1_ := bT hb1
  refine ae hP<|ak rfl<|ag<|am<|E1 rfl rfl ?_
  exact aJ (Ix hb1_)
 have hb1_ := bF hb1
 refine ae hP<|aH hT rfl rfl rfl rfl rfl rfl<|a7 hT rfl rfl rfl rfl ?_
 refine ak rfl<|ag ?_
 refine aw rfl (fun hb2 => ?_) (fun hb2 => ?_)
 ·refine ae hP<|ak rfl<|ag<|am<|E1 rfl rfl ?_
  exact aJ (Iw hb1_ hb2)
 refine aq<|ae hP<|ak rfl<|ag<|am<|E1 rfl rfl ?_
 exact aJ (Iv hb1_ hb2)
theorem vW (r : Rw) (hl : r.2.length ≤ 1000000000) :
  aF Tryz.prog 100 [.p (.a [.v (.bool r.1), W r.2])] (B (rV r)) := by
 refine aK Tryz.func100 rfl rfl rfl rfl ?_
 refine ae hP<|an ai (aI rfl rfl)<|ak rfl<|ag<|ao<|ae hP<|aH hT rfl rfl rfl rfl rfl rfl<|a7 hT rfl rfl rfl rfl ?_
 refine ab (aU hT rfl rfl rfl rfl)<|ab (br rfl rfl)<|ag ?_
 refine aw rfl (fun hb1 => ?_) (fun hb1 => ?_)
 ·have hb1_ := bT hb1
  refine ae hP<|aH hT rfl rfl rfl rfl rfl rfl<|a7 hT rfl rfl rfl rfl ?_
  refine ab (bE rfl)<|ak rfl<|ag<|am<|E1 rfl rfl ?_
  exact aX (J9 hb1_)
 have hb1_ := bF hb1
 refine aq<|ae hP<|aH hT rfl rfl rfl rfl rfl rfl<|a7 hT rfl rfl rfl rfl ?_
 refine aH hT rfl rfl rfl rfl rfl rfl<|a7 hT rfl rfl rfl rfl ?_
 refine ab (aU hT rfl rfl rfl rfl)<|ab (bD rfl rfl (by first | exact IntWalk.i64_in _ (by omega) | rfl)) ?_
 refine ab (by first | exact bu hT rfl rfl rfl rfl rfl rfl (by omega) | exact bg hT rfl rfl rfl rfl rfl rfl (by omega) (by first | exact cz (by omega) | simp)) ?_
 refine ab (aS hT rfl rfl rfl (by first | rfl | exact ce (by omega))) ?_
 refine ab (bB rfl rfl)<|ak rfl<|ag<|am<|E1 rfl rfl ?_
 exact aX (J8 hb1_)
theorem jO (r : Rw) :
  aF Tryz.prog 67 [.p (.a [.v (.bool r.1), W r.2])] (B (decide (r.2 = []))) := by
 refine aK Tryz.func67 rfl rfl rfl rfl ?_
 refine ae hP<|an ai (aI rfl rfl)<|ak rfl<|ag<|ae hP<|au hT rfl rfl rfl rfl rfl rfl<|ab (ah (xF r)) ?_
 refine ab (br rfl rfl)<|ak rfl<|ag<|am<|E1 rfl rfl ?_
 exact aX Iu
theorem p5 (l m : List Int) (hl : (l.length : Int) ≤ 1000000000) :
  aF Tryz.prog 163 [.p (.c (SL enI l)), .p (.c (SL enI m)), .p (.c (.v (.func (.func 138) #[] #[])))] (B (decide (l = m))) := by
 refine aK Tryz.func163 rfl rfl rfl rfl ?_
 refine ae hP<|ak rfl<|ag<|ao<|ae hP<|aj rfl<|ab (aU hT rfl rfl rfl (by rfl)) ?_
 refine aj rfl<|ab (aU hT rfl rfl rfl (by rfl)) ?_
 refine ab (bB rfl rfl)<|ag ?_
 refine aw rfl (fun hb1 => ?_) (fun hb1 => ?_)
 ·have hb1_ := cy hb1
  refine ae hP<|ak rfl<|ag<|am<|E1 rfl rfl ?_
  exact aX (decide_eq_false (fun e => hb1_ (by rw [e]))).symm
 have hb1_ := cf hb1
 have hlen : l.length = m.length := by have := hb1_; omega
 refine aq<|ao<|ae hP<|aj rfl<|ab (aU hT rfl rfl rfl (by rfl)) ?_
 refine aj rfl<|ag<|aA<|bp (ι := Nat) (fun k => stL [(0, .p (.c (SL enI l))), (1, .p (.c (SL enI m))), (2, .p (.c (.v (.func (.func 138) #[] #[])))), (15, .p (.c (SL enI l))), (16, Z (l.length : Int)), (17, Z (k : Int))] []) (fun k => SmG l m k) (fun k => l.length - k) 0 (SmG.start hlen) (aE ⟨.refl _, .refl _, .refl _, .refl _, .refl _, .refl _, trivial⟩ trivial) ?_
 intro k hI
 have hk := hI.le
 refine ae hP<|ab (bi rfl rfl)<|ag<|ao ?_
 refine aw rfl (fun hb2 => ?_) (fun hb2 => ?_)
 ·have hb2_ := of_decide_eq_true hb2
  refine aq<|ao<|aA<|ae hP<|aj rfl<|ab (cp hT eS (by decide) 0 (n := (k : Int)) (l := l) rfl rfl rfl rfl rfl rfl (by omega)) ?_
  refine ab (a6 hT rfl rfl rfl (cs := enI (l.getD k 0)) rfl rfl) ?_
  refine an ai (ay hT rfl rfl)<|ak rfl<|aD hT rfl rfl rfl rfl rfl rfl rfl<|ag<|ae hP<|aj rfl<|aj rfl<|ab (cp hT eS (by decide) 0 (n := (k : Int)) (l := m) rfl rfl rfl rfl rfl rfl (by omega)) ?_
  refine ab (a6 hT rfl rfl rfl (cs := enI (m.getD k 0)) rfl rfl) ?_
  refine an ai (ay hT rfl rfl)<|aD hT rfl rfl rfl rfl rfl rfl rfl<|ag<|ae hP<|aj rfl<|au hT rfl rfl rfl rfl rfl rfl<|au hT rfl rfl rfl rfl rfl rfl<|ab (Eff.callF rfl (fp _ _)) ?_
  refine ab (bE rfl)<|ag ?_
  refine aw rfl (fun hb3 => ?_) (fun hb3 => ?_)
  ·have hb3_ := (cB hb3)
   refine ae hP<|ak rfl<|ag<|am<|E1 rfl rfl ?_
   exact aX (decide_eq_false (SmG.no (d := 0) (fun e => of_decide_eq_false (cB hb3) e))).symm
  have hb3_ := (cq hb3)
  refine aq<|av hP<|bI rfl rfl ?_
  refine aj rfl<|ag ?_
  refine ⟨k + 1, hI.next (d := 0) (by omega) (of_decide_eq_true (cq hb3)), by omega, aE ⟨.refl _, .refl _, .refl _, .refl _, .refl _, aJ (by omega), trivial⟩ trivial⟩
 have hb2_ := of_decide_eq_false hb2
 refine aZ<|ae hP<|ak rfl<|ag<|am<|E1 rfl rfl ?_
 exact aX (decide_eq_true (hI.yes (by omega))).symm
theorem p6 (l m : List Fm) (hl : (l.length : Int) ≤ 1000000000) :
  aF Tryz.prog 164 [.p (.c (FS l)), .p (.c (FS m)), .p (.c (.v (.func (.func 165) #[] #[])))] (B (decide (l = m))) := by
 refine aK Tryz.func164 rfl rfl rfl rfl ?_
 refine ae hP<|ak rfl<|ag<|ao<|ae hP<|aj rfl<|ab (aU hT rfl rfl rfl (by rfl)) ?_
 refine aj rfl<|ab (aU hT rfl rfl rfl (by rfl)) ?_
 refine ab (bB rfl rfl)<|ag ?_
 refine aw rfl (fun hb1 => ?_) (fun hb1 => ?_)
 ·have hb1_ := cy hb1
  refine ae hP<|ak rfl<|ag<|am<|E1 rfl rfl ?_
  exact aX (decide_eq_false (fun e => hb1_ (by rw [e]))).symm
 have hb1_ := cf hb1
 have hlen : l.length = m.length := by have := hb1_; omega
 refine aq<|ao<|ae hP<|aj rfl<|ab (aU hT rfl rfl rfl (by rfl)) ?_
 refine aj rfl<|ag<|aA<|bp (ι := Nat) (fun k => stL [(0, .p (.c (FS l))), (1, .p (.c (FS m))), (2, .p (.c (.v (.func (.func 165) #[] #[])))), (15, .p (.c (FS l))), (16, Z (l.length : Int)), (17, Z (k : Int))] []) (fun k => SmG l m k) (fun k => l.length - k) 0 (SmG.start hlen) (aE ⟨.refl _, .refl _, .refl _, .refl _, .refl _, .refl _, trivial⟩ trivial) ?_
 intro k hI
 have hk := hI.le
 refine ae hP<|ab (bi rfl rfl)<|ag<|ao ?_
 refine aw rfl (fun hb2 => ?_) (fun hb2 => ?_)
 ·have hb2_ := of_decide_eq_true hb2
  refine aq<|ao<|aA<|ae hP<|aj rfl<|ab (gu hT (n := (k : Int)) rfl rfl rfl rfl rfl rfl (by omega)) ?_
  refine ab (a6 hT rfl rfl rfl (cs := FC (l.getD k ⟨0, 0, 0⟩)) rfl rfl) ?_
  refine an ai (ay hT rfl rfl)<|ak rfl<|aD hT rfl rfl rfl rfl rfl rfl rfl<|ag<|ae hP<|aj rfl<|aj rfl<|ab (gu hT (n := (k : Int)) rfl rfl rfl rfl rfl rfl (by omega)) ?_
  refine ab (a6 hT rfl rfl rfl (cs := FC (m.getD k ⟨0, 0, 0⟩)) rfl rfl) ?_
  refine an ai (ay hT rfl rfl)<|aD hT rfl rfl rfl rfl rfl rfl rfl<|ag<|ae hP<|aj rfl<|bH hT rfl rfl rfl rfl rfl rfl<|bH hT rfl rfl rfl rfl rfl rfl<|ab (Eff.callF rfl (nO _ _ _ _ _ _)) ?_
  refine ab (bE rfl)<|ag ?_
  refine aw rfl (fun hb3 => ?_) (fun hb3 => ?_)
  ·have hb3_ := (cB hb3)
   refine ae hP<|ak rfl<|ag<|am<|E1 rfl rfl ?_
   exact aX (decide_eq_false (SmG.no (d := ⟨0, 0, 0⟩) (fun e => of_decide_eq_false (cB hb3) ⟨congrArg Fm.a e, congrArg Fm.b e, congrArg Fm.c e⟩))).symm
  have hb3_ := (cq hb3)
  refine aq<|av hP<|bI rfl rfl ?_
  refine aj rfl<|ag ?_
  refine ⟨k + 1, hI.next (d := ⟨0, 0, 0⟩) (by omega) (Fm.ext (of_decide_eq_true (cq hb3)).1 (of_decide_eq_true (cq hb3)).2.1 (of_decide_eq_true (cq hb3)).2.2), by omega, aE ⟨.refl _, .refl _, .refl _, .refl _, .refl _, aJ (by omega), trivial⟩ trivial⟩
 have hb2_ := of_decide_eq_false hb2
 refine aZ<|ae hP<|ak rfl<|ag<|am<|E1 rfl rfl ?_
 exact aX (decide_eq_true (hI.yes (by omega))).symm
theorem pZ (l : List Fm) (F : FuncId) (caps : List (List DV)) (p : Fm → Bool) (hc : ∀ g : Fm, aF Tryz.prog F ([FA g.a g.b g.c] ++ caps.map .ip) (B (p g))) (hl : (l.length : Int) ≤ 1000000000) :
  aF Tryz.prog 204 [.p (.c (FS l)), .fn F caps] (Z (iS p l 0)) := by
 refine aK Tryz.func204 rfl rfl rfl rfl ?_
 refine ae hP<|ak rfl<|ag<|ao<|ae hP<|aj rfl<|ab (aU hT rfl rfl rfl (by rfl)) ?_
 refine aj rfl<|ag<|aA<|bp (ι := Nat) (fun k => stL [(0, .p (.c (FS l))), (1, .fn F caps), (7, Z (l.length : Int)), (8, Z (k : Int))] []) (fun k => k ≤ l.length ∧ iS p l 0 = iS p (l.drop k) k) (fun k => l.length - k) 0 ⟨Nat.zero_le _, rfl⟩ (aE ⟨.refl _, .refl _, .refl _, .refl _, trivial⟩ trivial) ?_
 rintro k ⟨hk, hI⟩
 refine ae hP<|ab (bi rfl rfl)<|ag<|ao ?_
 refine aw rfl (fun hb1 => ?_) (fun hb1 => ?_)
 ·have hb1_ := of_decide_eq_true hb1
  refine aq<|ao<|aA<|ae hP<|aj rfl<|ak rfl<|ag<|ae hP<|ab (az (rfl : _ = AV.fn _ _))<|aj rfl<|aj rfl<|ab (gu hT (n := (k : Int)) rfl rfl rfl rfl rfl rfl (by omega)) ?_
  refine ab (a6 hT rfl rfl rfl (cs := FC (l.getD k ⟨0, 0, 0⟩)) rfl rfl) ?_
  refine ab (Eff.callC rfl (hc (l.getD k ⟨0, 0, 0⟩))) ?_
  refine ag ?_
  refine aw rfl (fun hb2 => ?_) (fun hb2 => ?_)
  ·refine ae hP<|aj rfl<|ak rfl<|ag<|am<|E1 rfl rfl ?_
   exact aJ (hI.trans (Am (by omega) hb2)).symm
  refine aq<|av hP<|bI rfl rfl ?_
  refine aj rfl<|ag ?_
  refine ⟨k + 1, ⟨by omega, hI.trans (xN (by omega) hb2)⟩, by omega, aE ⟨.refl _, .refl _, .refl _, aJ (by omega), trivial⟩ trivial⟩
 have hb1_ := of_decide_eq_false hb1
 refine aZ<|ae hP<|ak rfl<|ag<|am<|E1 rfl rfl ?_
 exact aJ (hI.trans (An (by omega))).symm
theorem mR (l : List Fm) (F : FuncId) (caps : List (List DV)) (p : Fm → Bool) (hc : ∀ g : Fm, aF Tryz.prog F ([FA g.a g.b g.c] ++ caps.map .ip) (B (p g))) (hl : (l.length : Int) ≤ 1000000000) :
  aF Tryz.prog 166 [.p (.c (FS l)), .fn F caps] (B (l.any p)) := by
 refine aK Tryz.func166 rfl rfl rfl rfl ?_
 refine ae hP<|ak rfl<|ag<|ae hP<|aj rfl<|ab (az (rfl : _ = AV.fn _ _))<|ab (ah (pZ l F caps p hc hl)) ?_
 refine ab (dc rfl rfl)<|ak rfl<|ag<|am<|E1 rfl rfl ?_
 exact aX (sy l 0)
theorem rm (a : Ans) (x : Int) (hx : bC x) :
  aF Tryz.prog 162 [Z x, .ip (anS a)] (B (decide (a.m = x))) := by
 refine aK Tryz.func162 rfl rfl rfl rfl ?_
 refine ae hP<|ak rfl<|ag<|ae hP<|ab (tu hT rfl rfl rfl rfl rfl rfl)<|ab (a6 hT rfl rfl rfl (cs := enI a.m) rfl rfl)<|aj rfl<|ab (ah (eE x hx)) ?_
 refine ab (ah (fp _ _)) ?_
 refine ak rfl<|ag<|am<|E1 rfl rfl ?_
 exact .refl _
theorem zL (g o : Fm) :
  aF Tryz.prog 167 [FA g.a g.b g.c, .ip [zn o.a, zm o.a, zn o.b, zm o.b, zn o.c, zm o.c]] (B (decide (g.a = o.a ∧ g.b = o.b ∧ g.c = o.c))) := by
 refine aK Tryz.func167 rfl rfl rfl rfl ?_
 refine ae hP<|an ai (aI rfl rfl)<|ak rfl<|ag<|ae hP<|bH hT rfl rfl rfl rfl rfl rfl<|ab (a6 hT rfl rfl rfl (cs := [_, _, _, _, _, _]) rfl rfl)<|ab (ah (nO _ _ _ _ _ _)) ?_
 refine ak rfl<|ag<|am<|E1 rfl rfl ?_
 exact .refl _
theorem DB (f : Fm) (D : Int) (m : Nat) (hfa : L 6 f.a) (hfb : L 6 f.b) (hfc : L 6 f.c) (hf : Cl D f) (hD : -4194304 ≤ D ∧ D < 0) (hm : 1 ≤ m ∧ m ≤ 65536) (hE : szE D = 0) (a : Ans) (hax : L 30 a.x) (hay : L 30 a.y) (hlr : (a.roots.length : Int) ≤ 1000000) (hlf : (a.forms.length : Int) ≤ 1000000) :
  aF Tryz.prog 101 [FA f.a f.b f.c, Z (m : Int), .p (.a (anS a))] (B (rgV D m f a)) := by
 have fa : LB f.a 6 := ⟨hfa⟩
 have fb : LB f.b 6 := ⟨hfb⟩
 have fc : LB f.c 6 := ⟨hfc⟩
 have iD : LB D 6 := ⟨by unfold L; omega⟩
 have hdf : dsc f.a f.b f.c = D := hf.disc
 have iax : LB a.x 30 := ⟨hax⟩
 have iay : LB a.y 30 := ⟨hay⟩
 have cDs : aF Tryz.prog 40 [FA f.a f.b f.c] (I D) := by rw [← hdf]; exact fD f.a f.b f.c lz lz lz
 have cRd : aF Tryz.prog 41 [FA f.a f.b f.c] (.t [PF f.rd, PM (rdM f.a f.b f.c), PE (rdE f.a f.b f.c)]) := fC f.a f.b f.c lz lz lz
 have hfl := Jw (D := D) (hm := hm.2)
 have cFn := fun g => zL g f.rd
 refine aK Tryz.func101 rfl rfl rfl rfl ?_
 refine ae hP<|an ai (aI rfl rfl)<|an ai (aI rfl rfl)<|an ai (ay hT rfl rfl)<|ag<|ae hP<|bH hT rfl rfl rfl rfl rfl rfl<|ab (ah cDs) ?_
 refine an ai (ay hT rfl rfl)<|aD hT rfl rfl rfl rfl rfl rfl rfl<|ag<|ao<|ae hP<|aH hT rfl rfl rfl rfl rfl rfl<|a7 hT rfl rfl rfl rfl ?_
 refine ag<|aA<|ae hP<|ab (br rfl rfl)<|ak rfl<|ag ?_
 refine aw rfl (fun hb1 => ?_) (fun hb1 => ?_)
 ·have hb1_ := bT hb1
  have k1 := bT hb1
  refine ae hP<|aH hT rfl rfl rfl rfl rfl rfl<|au hT rfl rfl rfl rfl rfl rfl<|aH hT rfl rfl rfl rfl rfl rfl<|au hT rfl rfl rfl rfl rfl rfl<|ab (ah (km a.x a.y lz lz)) ?_
  refine ab (ah (eE 1 (by decide))) ?_
  refine ab (ah (fp _ _)) ?_
  refine aj rfl ?_
  refine bf (t := 28) rfl (fun hg2 => ?_) (fun hg2 => ?_)
  ·have hgc := hg2
   refine aB hg2 (aL hT rfl rfl rfl rfl (cs := [_, _, _, _, _, _]) rfl rfl) ?_
   refine aB hg2 (aR hT rfl rfl rfl rfl rfl rfl) ?_
   refine aB hg2 (aL hT rfl rfl rfl rfl (cs := [_, _]) rfl rfl) ?_
   refine aB hg2 (aR hT rfl rfl rfl rfl rfl rfl) ?_
   refine aB hg2 (aL hT rfl rfl rfl rfl (cs := [_, _]) rfl rfl) ?_
   refine aB hg2 (ah (ma f.a f.b f.c a.x a.y lz lz lz lz lz)) ?_
   refine aB hg2 (az (rfl : _ = AV.p (.c _))) ?_
   refine aB hg2 (ah (eE (m : Int) (by unfold bC; omega))) ?_
   refine aB hg2 (ah (fp _ _)) ?_
   refine ab (aO rfl hg2 (rfl : _ = AV.p (.c _)))<|aD hT rfl rfl rfl rfl rfl rfl rfl<|ag<|am ?_
   refine bV rfl (.inr rfl) (ci hT rfl rfl rfl rfl rfl) ?_ bw
   exact aX (J4 k1 hgc)
  have hgc := hg2
  iterate 9 refine bd hg2 ?_
  refine ab (aN rfl hg2 (rfl : _ = AV.p (.c _)))<|aD hT rfl rfl rfl rfl rfl rfl rfl<|ag<|am ?_
  refine bV rfl (.inr rfl) (ci hT rfl rfl rfl rfl rfl) ?_ bw
  exact aX (It k1 hgc)
 have hb1_ := bF hb1
 have k1 := bF hb1
 refine ae hP<|ab (br rfl rfl)<|ak rfl<|ag ?_
 refine aw rfl (fun hb3 => ?_) (fun hb3 => ?_)
 ·have hb3_ := bT hb3
  have k2 := bT hb3
  refine cL (t := 5) rfl rfl ?_
  refine ae hP<|ab (jA rfl)<|an ai (ay hT rfl rfl)<|aD hT rfl rfl rfl rfl rfl rfl rfl<|ag<|ao<|ae hP<|bH hT rfl rfl rfl rfl rfl rfl<|aj rfl<|ab (ah (pA f m)) ?_
  refine ag<|aA<|dE (t := stL [(1, Z (m : Int)), (3, .loc 3 0), (6, .loc 6 0), (7, .loc 7 0), (8, .loc 8 0), (44, .fn 137 [[zn f.a, zm f.a, zn f.b, zm f.b, zn f.c, zm f.c], [.v (.int .i64 (m : Int))]])] [(3, ⟨false, 1, 46, [zn f.a, zm f.a, zn f.b, zm f.b, zn f.c, zm f.c]⟩), (6, ⟨false, 1, 4, [.v (.bool false)]⟩), (7, ⟨false, 1, 29, [zn D, zm D]⟩), (8, ⟨false, 1, 183, [.fn 162 [.ip (anS a)]]⟩)]) (aE ⟨.refl _, .refl _, .refl _, .refl _, .refl _, .refl _, trivial⟩ ⟨rfl, rfl, rfl, rfl, trivial⟩) ?_
  refine fg 9 (fun _ => cO [(3, ⟨false, 1, 46, [zn f.a, zm f.a, zn f.b, zm f.b, zn f.c, zm f.c]⟩), (6, ⟨false, 1, 4, [.v (.bool false)]⟩), (7, ⟨false, 1, 29, [zn D, zm D]⟩), (8, ⟨false, 1, 183, [.fn 162 [.ip (anS a)]]⟩)]) (AgN D m f a.m) rfl (nP f D m hfa hfb hfc hf hD hm hE) yj rfl rfl rfl AgN.start (fun k x hx hI => ?_) (fun hI => ?_)
  ·obtain ⟨c, hc, rfl⟩ := BS hx
   refine av hP<|ak rfl<|ag<|aA<|ae hP<|a7 hT rfl rfl rfl rfl ?_
   refine aj rfl<|ab (Eff.callD (caps := [anS a]) rfl (rm a c (by have := HZ hD hc; unfold bC; omega))) ?_
   refine ag ?_
   refine aw rfl (fun hb4 => ?_) (fun hb4 => ?_)
   ·have he := of_decide_eq_true hb4
    refine ae hP<|aD hT rfl rfl rfl rfl rfl rfl rfl<|ag<|am ?_
    refine ⟨_, GW.forget fun _ => .inl rfl, ?_⟩
    refine bV rfl (.inr rfl) (ci hT rfl rfl rfl rfl rfl) ?_ bw
    exact aX (zj k1 k2 (Ga hc he))
   have he := of_decide_eq_false hb4
   refine aq ?_
   exact ⟨GW.forget fun x => SubO.own (l := [(3, ⟨false, 1, 46, [zn f.a, zm f.a, zn f.b, zm f.b, zn f.c, zm f.c]⟩), (6, ⟨false, 1, 4, [.v (.bool false)]⟩), (7, ⟨false, 1, 29, [zn D, zm D]⟩), (8, ⟨false, 1, 183, [.fn 162 [.ip (anS a)]]⟩)]) ⟨rfl, rfl, rfl, rfl, trivial⟩ x, hI.next hc he⟩
  have hna := hI.done rfl
  clear hI
  refine ao<|ae hP<|aj rfl<|an ai (Eff.callG (ul m)) ?_
  refine ag<|aA<|dE (t := stL [(50, .fnl 135 50), (1, Z (m : Int)), (3, .loc 3 0), (6, .loc 6 0), (7, .loc 7 0), (8, .loc 8 0)] ((50, ⟨false, 1, 3, [.v (.int .i64 ((m : Nat) : Int))]⟩) :: [(3, ⟨false, 1, 46, [zn f.a, zm f.a, zn f.b, zm f.b, zn f.c, zm f.c]⟩), (6, ⟨false, 1, 4, [.v (.bool false)]⟩), (7, ⟨false, 1, 29, [zn D, zm D]⟩), (8, ⟨false, 1, 183, [.fn 162 [.ip (anS a)]]⟩)])) (aE ⟨.refl _, .refl _, .refl _, .refl _, .refl _, .refl _, trivial⟩ ⟨rfl, rfl, rfl, rfl, rfl, trivial⟩) ?_
  refine og (l := [(1, Z (m : Int)), (3, .loc 3 0), (6, .loc 6 0), (7, .loc 7 0), (8, .loc 8 0)]) (o := cO ((50, ⟨false, 1, 3, [.v (.int .i64 ((m : Nat) : Int))]⟩) :: [(3, ⟨false, 1, 46, [zn f.a, zm f.a, zn f.b, zm f.b, zn f.c, zm f.c]⟩), (6, ⟨false, 1, 4, [.v (.bool false)]⟩), (7, ⟨false, 1, 29, [zn D, zm D]⟩), (8, ⟨false, 1, 183, [.fn 162 [.ip (anS a)]]⟩)])) 51 (fun _ => cO [(3, ⟨false, 1, 46, [zn f.a, zm f.a, zn f.b, zm f.b, zn f.c, zm f.c]⟩), (6, ⟨false, 1, 4, [.v (.bool false)]⟩), (7, ⟨false, 1, 29, [zn D, zm D]⟩), (8, ⟨false, 1, 183, [.fn 162 [.ip (anS a)]]⟩)]) (PtX m a.m) (rp m hm) rfl rfl rfl rfl (ry rfl) xc rfl rfl rfl PtX.start (fun k x hx hI => ?_) (fun hI => ?_)
  ·obtain ⟨q, hq, rfl⟩ := By hx
   refine av hP<|ak rfl<|ag<|aA<|ae hP<|a7 hT rfl rfl rfl rfl ?_
   refine aj rfl<|ab (Eff.callD (caps := [anS a]) rfl (rm a (q : Int) (by have := vu hm hq; unfold bC; omega))) ?_
   refine ag ?_
   refine aw rfl (fun hb5 => ?_) (fun hb5 => ?_)
   ·have he := of_decide_eq_true hb5
    refine ae hP<|au hT rfl rfl rfl rfl rfl rfl<|aj rfl<|ab (ah (pz D q hD (vu hm hq))) ?_
    refine aD hT rfl rfl rfl rfl rfl rfl rfl<|ag<|am ?_
    refine ⟨_, GW.forget fun _ => .inl rfl, ?_⟩
    refine bV rfl (.inr rfl) (ci hT rfl rfl rfl rfl rfl) ?_ bw
    exact aX (zj k1 k2 (F8 hna hq he))
   have he := of_decide_eq_false hb5
   refine aq ?_
   exact ⟨GW.forget fun x => SubO.own (l := [(3, ⟨false, 1, 46, [zn f.a, zm f.a, zn f.b, zm f.b, zn f.c, zm f.c]⟩), (6, ⟨false, 1, 4, [.v (.bool false)]⟩), (7, ⟨false, 1, 29, [zn D, zm D]⟩), (8, ⟨false, 1, 183, [.fn 162 [.ip (anS a)]]⟩)]) ⟨rfl, rfl, rfl, rfl, trivial⟩ x, hI.next hq he⟩
  refine ae hP<|aD hT rfl rfl rfl rfl rfl rfl rfl<|ag<|am ?_
  refine bV rfl (.inr rfl) (ci hT rfl rfl rfl rfl rfl) ?_ bw
  exact aX (zj k1 k2 (F9 hna hI rfl))
 have hb3_ := bF hb3
 have k2 := bF hb3
 refine aq<|ae hP<|bH hT rfl rfl rfl rfl rfl rfl<|ab (ah cRd) ?_
 refine ab (az (rfl : _ = AV.t _))<|ab (aC rfl (v := .a _) rfl)<|ab (aC rfl (v := .a _) rfl)<|ab (aC rfl (v := .c _) rfl)<|an ai (ay hT rfl rfl)<|an ai (ay hT rfl rfl)<|aD hT rfl rfl rfl rfl rfl rfl rfl<|aD hT rfl rfl rfl rfl rfl rfl rfl<|ak rfl<|ag<|ae hP<|au hT rfl rfl rfl rfl rfl rfl<|aj rfl<|ab (ah (py D m hD hm)) ?_
 refine ak rfl<|ag<|cL (t := 11) rfl rfl ?_
 refine ae hP<|aj rfl<|ab (aU hT rfl rfl rfl (by rfl)) ?_
 refine ab (bU rfl rfl)<|aj rfl ?_
 refine bf (t := 70) rfl (fun hg6 => ?_) (fun hg6 => ?_)
 ·have hg6_ := of_decide_eq_true hg6
  have q1 := hg6
  refine aB hg6 (aR hT rfl rfl rfl rfl rfl rfl) ?_
  refine aB hg6 (bS hT rfl rfl rfl rfl (by first | rfl | exact eC (by omega))) ?_
  refine aB hg6 (aL hT rfl rfl rfl rfl (cs := [_, _]) rfl rfl) ?_
  refine aB hg6 (az (rfl : _ = AV.p (.c _))) ?_
  refine aB hg6 (ah (rr D m hD hm)) ?_
  refine aB hg6 (ah (p5 a.roots (rbL D m) (by omega))) ?_
  refine ab (aO rfl hg6 (rfl : _ = AV.p (.c _)))<|aj rfl ?_
  refine bf (t := 78) rfl (fun hg7 => ?_) (fun hg7 => ?_)
  ·have q2 := hg7
   refine aB hg7 (aR hT rfl rfl rfl rfl rfl rfl) ?_
   refine aB hg7 (bS hT rfl rfl rfl rfl (by first | rfl | exact eC (by omega))) ?_
   refine aB hg7 (az (rfl : _ = AV.p (.c _))) ?_
   refine aB hg7 (ah (p6 a.forms (fmL D m) (by omega))) ?_
   refine ab (aO rfl hg7 (rfl : _ = AV.p (.c _)))<|aj rfl ?_
   refine bf (t := 84) rfl (fun hg8 => ?_) (fun hg8 => ?_)
   ·have q3 := hg8
    refine aB hg8 (az (rfl : _ = AV.p (.c _))) ?_
    refine aB hg8 (mH rfl) ?_
    refine aB hg8 (ah (mR (fmL D m) 167 [[zn f.rd.a, zm f.rd.a, zn f.rd.b, zm f.rd.b, zn f.rd.c, zm f.rd.c]] _ cFn (by omega))) ?_
    refine aB hg8 (bE rfl) ?_
    refine ab (aO rfl hg8 (rfl : _ = AV.p (.c _)))<|aD hT rfl rfl rfl rfl rfl rfl rfl<|ag<|am ?_
    refine bV rfl (.inr rfl) (ci hT rfl rfl rfl rfl rfl) ?_ bw
    exact aX (vd k1 k2 (by rw [rg3 q1 q2 q3, HW]))
   have q3 := hg8
   iterate 4 refine bd hg8 ?_
   refine ab (aN rfl hg8 (rfl : _ = AV.p (.c _)))<|aD hT rfl rfl rfl rfl rfl rfl rfl<|ag<|am ?_
   refine bV rfl (.inr rfl) (ci hT rfl rfl rfl rfl rfl) ?_ bw
   exact aX (vd k1 k2 (IE q3))
  have q2 := hg7
  iterate 4 refine bd hg7 ?_
  refine ab (aN rfl hg7 (rfl : _ = AV.p (.c _)))<|aj rfl<|bd rfl ?_
  iterate 3 refine bd rfl ?_
  refine ab (aN rfl rfl (rfl : _ = AV.p (.c _)))<|aD hT rfl rfl rfl rfl rfl rfl rfl<|ag<|am ?_
  refine bV rfl (.inr rfl) (ci hT rfl rfl rfl rfl rfl) ?_ bw
  exact aX (vd k1 k2 (IF q2))
 have hg6_ := of_decide_eq_false hg6
 have q1 := hg6
 iterate 6 refine bd hg6 ?_
 refine ab (aN rfl hg6 (rfl : _ = AV.p (.c _)))<|aj rfl<|bd rfl ?_
 iterate 3 refine bd rfl ?_
 refine ab (aN rfl rfl (rfl : _ = AV.p (.c _)))<|aj rfl<|bd rfl ?_
 iterate 3 refine bd rfl ?_
 refine ab (aN rfl rfl (rfl : _ = AV.p (.c _)))<|aD hT rfl rfl rfl rfl rfl rfl rfl<|ag<|am ?_
 refine bV rfl (.inr rfl) (ci hT rfl rfl rfl rfl rfl) ?_ bw
 exact aX (vd k1 k2 (IG q1))
end
section
open Go Go.AM
theorem DC (f : Fm) (D : Int) (m : Nat) (hfa : L 6 f.a) (hfb : L 6 f.b) (hfc : L 6 f.c) (hf : Cl D f) (hD : -4194304 ≤ D ∧ D < 0) (hm : 1 ≤ m ∧ m ≤ 65536) (hE : szE D = 0) (a : RA) (hok : ∀ r ∈ a.nums, okW r.2) (hsz : ∀ r ∈ a.nums, r.2.length ≤ 1000) (hlr : a.roots.length ≤ 100000) (hlf : a.forms.length ≤ 100000) :
  aF Tryz.prog 34 [FA f.a f.b f.c, Z (m : Int), .p (.a (raS a))] (.t [PB (rgA D m f a), PE 0]) := by
 have fa : LB f.a 6 := ⟨hfa⟩
 have fb : LB f.b 6 := ⟨hfb⟩
 have fc : LB f.c 6 := ⟨hfc⟩
 have hdf : dsc f.a f.b f.c = D := hf.disc
 have h0m : 0 < (m : Int) := by omega
 have cRf : aF Tryz.prog 65 [FA f.a f.b f.c, Z (m : Int)] (Z 0) := by
  have h := lD f m hfa hfb hfc
  rwa [wu hf hm] at h
 refine aK Tryz.func34 rfl rfl rfl rfl ?_
 refine ae hP<|an ai (aI rfl rfl)<|an ai (aI rfl rfl)<|ak rfl<|ak rfl<|ag<|ao<|ae hP<|bH hT rfl rfl rfl rfl rfl rfl<|aj rfl<|ab (ah cRf) ?_
 refine ak rfl<|ag<|ae hP<|aj rfl<|ab (bB rfl rfl)<|ag<|aP rfl rfl<|aq<|cC (ι := Unit) (fun _ => stL [(1, Z (m : Int)), (3, .loc 3 0), (5, .loc 5 0), (9, B (decide (a.x.2 = []) && decide (a.y.2 = []))), (10, B (decide (a.m.2 = []))), (11, B (decide (((a.roots.length + a.forms.length : Nat) : Int) = 0)))] [(3, ⟨false, 1, 46, [zn f.a, zm f.a, zn f.b, zm f.b, zn f.c, zm f.c]⟩), (5, ⟨false, 1, 42, raS a⟩)]) (fun _ => True) ?_ ?_
 ·refine av hP<|aH hT rfl rfl rfl rfl rfl rfl<|au hT rfl rfl rfl rfl rfl rfl<|ab (ah (jO a.x)) ?_
  refine aj rfl ?_
  refine bf (t := 27) rfl (fun hg1 => ?_) (fun hg1 => ?_)
  ·refine aB hg1 (aR hT rfl rfl rfl rfl rfl rfl) ?_
   refine aB hg1 (aL hT rfl rfl rfl rfl (cs := [_, _]) rfl rfl) ?_
   refine aB hg1 (ah (jO a.y)) ?_
   refine ab (aO rfl hg1 (rfl : _ = AV.p (.c _)))<|aH hT rfl rfl rfl rfl rfl rfl<|au hT rfl rfl rfl rfl rfl rfl<|ab (ah (jO a.m)) ?_
   refine aH hT rfl rfl rfl rfl rfl rfl<|a7 hT rfl rfl rfl rfl ?_
   refine ab (aU hT rfl rfl rfl (by rfl)) ?_
   refine aH hT rfl rfl rfl rfl rfl rfl<|a7 hT rfl rfl rfl rfl ?_
   refine ab (aU hT rfl rfl rfl (by rfl)) ?_
   refine bI rfl rfl ?_
   refine ab (br rfl rfl)<|ak rfl<|ak rfl<|ak rfl<|ag ?_
   refine ⟨(), trivial, aE ⟨.refl _, .refl _, .refl _, aX (by rw [hg1, Bool.true_and]), .refl _, aX uz, trivial⟩ ⟨rfl, rfl, trivial⟩⟩
  iterate 3 refine bd hg1 ?_
  refine ab (aN rfl hg1 (rfl : _ = AV.p (.c _)))<|aH hT rfl rfl rfl rfl rfl rfl<|au hT rfl rfl rfl rfl rfl rfl<|ab (ah (jO a.m)) ?_
  refine aH hT rfl rfl rfl rfl rfl rfl<|a7 hT rfl rfl rfl rfl ?_
  refine ab (aU hT rfl rfl rfl (by rfl)) ?_
  refine aH hT rfl rfl rfl rfl rfl rfl<|a7 hT rfl rfl rfl rfl ?_
  refine ab (aU hT rfl rfl rfl (by rfl)) ?_
  refine bI rfl rfl ?_
  refine ab (br rfl rfl)<|ak rfl<|ak rfl<|ak rfl<|ag ?_
  refine ⟨(), trivial, aE ⟨.refl _, .refl _, .refl _, aX (by rw [hg1, Bool.false_and]), .refl _, aX uz, trivial⟩ ⟨rfl, rfl, trivial⟩⟩
 intro _ _
 refine ae hP<|aH hT rfl rfl rfl rfl rfl rfl<|au hT rfl rfl rfl rfl rfl rfl<|aH hT rfl rfl rfl rfl rfl rfl<|au hT rfl rfl rfl rfl rfl rfl<|aH hT rfl rfl rfl rfl rfl rfl<|au hT rfl rfl rfl rfl rfl rfl<|an ai (iP hT rfl rfl rfl (es := [_, _, _, _, _, _]) rfl rfl rfl) ?_
 refine aH hT rfl rfl rfl rfl rfl rfl<|a7 hT rfl rfl rfl rfl ?_
 refine RK.app ai (fE hT rfl rfl rfl rfl rfl rfl rfl rfl rfl rfl (dH nK _) rfl (by show 32 * (6 + a.roots.length * 2) ≤ _; omega) rfl (by decide)) ?_
 refine ab (bn (rfl : _ = AV.vec _))<|ag<|dy 52 1000 rfl rfl rfl ?_
 refine ao<|ae hP<|aH hT rfl rfl rfl rfl rfl rfl<|a7 hT rfl rfl rfl rfl ?_
 refine ab (aU hT rfl rfl rfl (by rfl)) ?_
 refine aj rfl<|ag<|aA<|bp (ι := Nat) (fun k => stL [(1, Z (m : Int)), (3, .loc 3 0), (5, .loc 5 0), (9, B (decide (a.x.2 = []) && decide (a.y.2 = []))), (10, B (decide (a.m.2 = []))), (11, B (decide (((a.roots.length + a.forms.length : Nat) : Int) = 0))), (12, .vec 1000), (54, .p (.c (SL rfC a.forms))), (55, Z (a.forms.length : Int)), (56, Z (k : Int))] [(3, ⟨false, 1, 46, [zn f.a, zm f.a, zn f.b, zm f.b, zn f.c, zm f.c]⟩), (5, ⟨false, 1, 42, raS a⟩), (1000, VB 2 29 rC (eR a k))]) (fun k => k ≤ a.forms.length) (fun k => a.forms.length - k) 0 (Nat.zero_le _) (aE ⟨.refl _, .refl _, .refl _, .refl _, .refl _, .refl _, .refl _, .refl _, .refl _, .refl _, trivial⟩ ⟨rfl, rfl, Eq.trans rfl (congrArg (fun cs => some (⟨true, 2, 29, cs⟩ : Blk)) (GO a)), trivial⟩) ?_
 intro k hk
 refine ae hP<|ab (bi rfl rfl)<|ag<|ao ?_
 refine aw rfl (fun hb2 => ?_) (fun hb2 => ?_)
 ·have hb2_ := of_decide_eq_true hb2
  have hfk := jH (l := a.forms) (k := k) (by omega) ((false, []), (false, []), (false, []))
  refine aq<|ao<|aA<|ae hP<|ab (cp hT C3 (by decide) ((false, []), (false, []), (false, [])) (n := (k : Int)) (l := a.forms) rfl rfl rfl rfl rfl rfl (by omega)) ?_
  refine ab (a6 hT rfl rfl rfl (cs := rfC (a.forms.getD k ((false, []), (false, []), (false, [])))) rfl rfl) ?_
  refine an ai (ay hT rfl rfl)<|aD hT rfl rfl rfl rfl rfl rfl rfl<|ag<|av hP<|ab (az (rfl : _ = AV.vec _))<|aH hT rfl rfl rfl rfl rfl rfl<|au hT rfl rfl rfl rfl rfl rfl<|aH hT rfl rfl rfl rfl rfl rfl<|au hT rfl rfl rfl rfl rfl rfl<|aH hT rfl rfl rfl rfl rfl rfl<|au hT rfl rfl rfl rfl rfl rfl<|ab (bl hT rfl rfl rfl (es := [_, _, _, _, _, _]) rfl rfl rfl)<|RK.app ai (fE hT rfl rfl rfl rfl rfl rfl rfl rfl rfl rfl rfl rfl (by show 32 * (((eR a k).flatMap rC).length + 3 * 2) ≤ _; rw [dH nK]; have := rM (a := a) (k := k); omega) rfl (by decide)) ?_
  refine ab (bn (rfl : _ = AV.vec _))<|ag<|dy 68 1000 rfl rfl rfl ?_
  refine av hP<|bI rfl rfl ?_
  refine aj rfl<|ag ?_
  refine ⟨k + 1, by omega, by omega, aE ⟨.refl _, .refl _, .refl _, .refl _, .refl _, .refl _, .refl _, .refl _, .refl _, aJ (by omega), trivial⟩ ⟨rfl, rfl, Eq.trans rfl (congrArg (fun cs => some (⟨true, 2, 29, cs⟩ : Blk)) (GN hfk)), trivial⟩⟩
 have hb2_ := of_decide_eq_false hb2
 have hnk := zS (a := a) (k := k) (by omega)
 have hnl := rM (a := a) (k := k)
 refine aZ<|j8 (encD := rC) nK rfl (t := 12) rfl rfl ?_
 refine ao<|ae hP<|aj rfl<|ab (aU hT rfl rfl rfl (by rfl)) ?_
 refine aj rfl<|ag<|aA<|bp (ι := Nat) (fun j => stL [(1, Z (m : Int)), (3, .loc 3 0), (5, .loc 5 0), (9, B (decide (a.x.2 = []) && decide (a.y.2 = []))), (10, B (decide (a.m.2 = []))), (11, B (decide (((a.roots.length + a.forms.length : Nat) : Int) = 0))), (70, .p (.c (SL rC (eR a k)))), (71, Z ((eR a k).length : Int)), (72, Z (j : Int))] [(3, ⟨false, 1, 46, [zn f.a, zm f.a, zn f.b, zm f.b, zn f.c, zm f.c]⟩), (5, ⟨false, 1, 42, raS a⟩)]) (fun j => j ≤ (eR a k).length ∧ VaK (eR a k) j) (fun j => (eR a k).length - j) 0 ⟨Nat.zero_le _, VaK.start⟩ (aE ⟨.refl _, .refl _, .refl _, .refl _, .refl _, .refl _, .refl _, .refl _, .refl _, trivial⟩ ⟨rfl, rfl, trivial⟩) ?_
 rintro j ⟨hj, hI⟩
 refine ae hP<|ab (bi rfl rfl)<|ag<|ao ?_
 refine aw rfl (fun hb3 => ?_) (fun hb3 => ?_)
 ·have hb3_ := of_decide_eq_true hb3
  have hmj : ((eR a k).getD j (false, [])) ∈ a.nums := hnk ▸ jR (by omega)
  refine aq<|ao<|aA<|ae hP<|ab (cp hT nK (by decide) (false, []) (n := (j : Int)) (l := (eR a k)) rfl rfl rfl rfl rfl rfl (by omega)) ?_
  refine ab (a6 hT rfl rfl rfl (cs := rC ((eR a k).getD j (false, []))) rfl rfl) ?_
  refine an ai (ay hT rfl rfl)<|aD hT rfl rfl rfl rfl rfl rfl rfl<|ag<|ae hP<|au hT rfl rfl rfl rfl rfl rfl<|ab (ah (vW ((eR a k).getD j (false, [])) (by have := hsz _ hmj; omega))) ?_
  refine ab (bE rfl)<|ag ?_
  refine aw rfl (fun hb4 => ?_) (fun hb4 => ?_)
  ·have hb4_ := (cB hb4)
   refine ae hP<|ak rfl<|ak rfl<|ag<|am<|E11 rfl rfl rfl ?_
   exact aG (congrArg (fun b => AV.t [PB b, PE 0]) (HP hmj (cB hb4)))
  have hb4_ := (cq hb4)
  refine aq<|av hP<|bI rfl rfl ?_
  refine aj rfl<|ag ?_
  refine ⟨j + 1, ⟨by omega, hI.next (d := (false, [])) (by omega) (cq hb4)⟩, by omega, aE ⟨.refl _, .refl _, .refl _, .refl _, .refl _, .refl _, .refl _, .refl _, aJ (by omega), trivial⟩ ⟨rfl, rfl, trivial⟩⟩
 have hb3_ := of_decide_eq_false hb3
 have hva := hI.done (by omega)
 rw [hnk] at hva
 have hall := fun r hr => And.intro (hok r hr) (hva r hr)
 have hax : L 30 a.ans.x := Gt (hok _ Gj) (hsz _ Gj)
 have hay : L 30 a.ans.y := Gt (hok _ Gi) (hsz _ Gi)
 refine aZ<|ao<|dE (t := stL [(1, Z (m : Int)), (3, .loc 3 0), (5, .loc 5 0), (9, B (decide (a.x.2 = []) && decide (a.y.2 = []))), (10, B (decide (a.m.2 = []))), (11, B (decide (((a.roots.length + a.forms.length : Nat) : Int) = 0)))] [(3, ⟨false, 1, 46, [zn f.a, zm f.a, zn f.b, zm f.b, zn f.c, zm f.c]⟩), (5, ⟨false, 1, 42, anS a.ans⟩)]) (aE ⟨.refl _, .refl _, .refl _, .refl _, .refl _, .refl _, trivial⟩ ⟨rfl, Eq.trans rfl (congrArg (fun cs => some (⟨false, 1, 42, cs⟩ : Blk)) (tZ hall)), trivial⟩) ?_
 refine tC rfl ?_
 refine RM.mv (.inl rfl) rfl ?_
 refine RM.mv (.inl rfl) rfl ?_
 refine RM.and rfl rfl rfl rfl ?_
 refine RM.insert Tryz.underlying156 Tryz.underlying3 rfl rfl ?_
 refine RM.mv (.inl rfl) rfl ?_
 refine RM.mv (.inl rfl) rfl ?_
 refine RM.and rfl rfl rfl rfl ?_
 refine RM.insert Tryz.underlying156 Tryz.underlying3 rfl rfl ?_
 refine RM.mv (.inl rfl) rfl ?_
 refine RM.mv (.inl rfl) rfl ?_
 refine RM.and rfl rfl rfl rfl ?_
 refine RM.insert Tryz.underlying156 Tryz.underlying3 rfl rfl ?_
 refine RM.freeze ?_
 refine RT.mv (.inl rfl) rfl ?_
 refine RT.mv (.inr rfl) rfl ?_
 refine RT.done ?_
 refine ae hP<|ab (az (rfl : _ = AV.ax _))<|aH hT rfl rfl rfl rfl rfl rfl<|a7 hT rfl rfl rfl rfl ?_
 refine ab (vB (l := nu a) (n := a.kind) Tryz.underlying156 Tryz.underlying3 (fun _ => by kernel_rfl) rfl rfl rfl) ?_
 refine aj rfl ?_
 refine bf (t := 98) rfl (fun hg5 => ?_) (fun hg5 => ?_)
 ·have hu := hg5
  refine aB hg5 (aL hT rfl rfl rfl rfl (cs := [_, _, _, _, _, _]) rfl rfl) ?_
  refine aB hg5 (az (rfl : _ = AV.p (.c _))) ?_
  refine aB hg5 (aL hT rfl rfl rfl rfl (cs := [_, _, _, _, _, _, _, _, _]) rfl rfl) ?_
  refine aB hg5 (ah (DB f D m hfa hfb hfc hf hD hm hE a.ans hax hay (by rw [ra_len.1]; omega) (by rw [ra_len.2]; omega))) ?_
  refine ab (aO rfl hg5 (rfl : _ = AV.p (.c _)))<|ak rfl<|ak rfl<|ag<|am<|E11 rfl rfl rfl ?_
  exact aG (congrArg (fun b => AV.t [PB b, PE 0]) (JF hva rfl hu))
 have hu := hg5
 iterate 4 refine bd hg5 ?_
 refine ab (aN rfl hg5 (rfl : _ = AV.p (.c _)))<|ak rfl<|ak rfl<|ag<|am<|E11 rfl rfl rfl ?_
 exact aG (congrArg (fun b => AV.t [PB b, PE 0]) (JG hva rfl hu))
end
section
open Go Go.AM
end
section
open Go Go.AM
end
section
open Go Go.AM
end
end Go.Proofs.YthaiejfjnllglaaGreatDoor
