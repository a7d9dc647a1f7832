import Derived.Test.YthaiejfjnllglaaGreatDoorMBF
import Derived.Test.YthaiejfjnllglaaGreatDoorMBD
import Derived.Test.YthaiejfjnllglaaGreatDoorMBG
import Derived.Test.YthaiejfjnllglaaGreatDoorMBE
import Derived.Test.YthaiejfjnllglaaGreatDoorMBB
import Derived.Test.YthaiejfjnllglaaGreatDoorMBC
import Derived.Shelf.SlLaysF0
set_option maxRecDepth 100000
set_option maxHeartbeats 16000000
namespace Go.Proofs.YthaiejfjnllglaaGreatDoor
section
open Go Go.AM
theorem ez (z : Int) (jz : bv z) :
  aF Tryz.prog 70 [Z z] (I z) := by
 refine aL Tryz.func70 rfl rfl rfl rfl ?_
 refine ae hP<|an ai (ay hT rfl rfl)<|ag<|ae hP<|aj rfl<|ab (ah (ei z jz)) ?_
 refine aE hT rfl<|ag<|am<|E2 hT rfl rfl rfl rfl rfl rfl rfl ?_
 exact .refl _
theorem kQ (D : Int) (m : Nat) (hD : -4194304 ≤ D ∧ D < 0) (hm : 1 ≤ m ∧ m ≤ 65536) :
  Iter2 Tryz.prog 179 [[.v (.int .i64 (m : Int))], [zn D, zm D]] ((rbL D m).map fun b => [PI b, PF (frq D m b)]) := by
 have hDL : L 40 D := (show L 6 D by unfold L; omega).mono (by decide)
 have iD : LB D 6 := ⟨by unfold L; omega⟩
 have i4 : LB (4 * (m : Int)) 6 := ⟨by unfold L; omega⟩
 have im : LB (m : Int) 6 := ⟨by unfold L; omega⟩
 have r1 := Int.emod_nonneg D (show 4 * (m : Int) ≠ 0 by omega)
 have r2 := Int.emod_lt_of_pos D (show (0 : Int) < 4 * (m : Int) by omega)
 have cMd := Jt D (4 * (m : Int)) hDL ((show L 6 (4 * (m : Int)) by unfold L; omega).mono (by decide)) (by omega)
 have cLw := ju (D % (4 * (m : Int))) (by omega) (by omega)
 have c4 := ei (4 * (m : Int)) (by unfold bv; omega)
 have cm := ez (m : Int) (by unfold bv; omega)
 generalize hxs : ((rbL D m).map fun b => [PI b, PF (frq D m b)]) = xs
 refine nl Tryz.func179 (by kernel_rfl) rfl rfl (bL0 rfl) rfl ?_
 intro l n0 J hK
 refine wS hK.toKeepsB ?_
 refine bK ?_
 refine br hP ?_
 refine cC hT rfl rfl rfl ?_
 refine ab (bU rfl rfl (by first | exact iW0 _ (by omega) | rfl)) ?_
 refine ak rfl<|ag<|bK ?_
 refine br hP ?_
 refine ab (bo hT rfl rfl rfl (cs := [_, _]) rfl rfl)<|aj rfl<|ab (ah c4) ?_
 refine ab (ah cMd) ?_
 refine ab (az (rfl : _ = AV.t _))<|ab (aC rfl (v := .a _) rfl)<|ab (aC rfl (v := .c _) rfl)<|an ai (ay hT rfl rfl)<|aE hT rfl<|ak rfl<|ag<|bK ?_
 refine br hP ?_
 refine au hT rfl<|ab (ah cLw) ?_
 refine ab (az (rfl : _ = AV.t _))<|ab (aC rfl (v := .c _) rfl)<|ab (aC rfl (v := .c _) rfl)<|ak rfl<|ak rfl<|ag<|bK ?_
 refine br hP ?_
 refine cC hT rfl rfl rfl ?_
 refine ab (bU rfl rfl (by first | exact iW0 _ (by omega) | rfl)) ?_
 refine aj rfl<|ag<|ej ?_
 refine kF (ι := Nat) (fun i => stL [(0, .p (.c (.v (.func (.yield l) #[] #[])))), (1, .ip [.v (.int .i64 (m : Int))]), (2, .ip [zn D, zm D]), (4, Z (4 * (m : Int))), (7, Z (D % (4 * (m : Int)))), (29, Z (2 * (m : Int))), (30, Z (i : Int))] []) (fun i => (rbT D m i).length) (fun i => (i : Int) ≤ 2 * (m : Int)) (fun i => (2 * m) - i) 0 (by omega) rfl (aG ⟨.refl _, .refl _, .refl _, .refl _, .refl _, .refl _, .refl _, trivial⟩ trivial) ?_
 intro i hi
 refine bK ?_
 refine br hP ?_
 refine ab (bi rfl rfl)<|ag<|bK ?_
 refine dY rfl (fun hb1 => ?_) (fun hb1 => ?_)
 ·have hb1_ := dT0 hb1
  have hsq := nc (x := (i : Int)) (m := 131073) (by omega)
  have isq : LB ((i : Int) * (i : Int)) 6 := ⟨by unfold L; omega⟩
  have ii : LB (i : Int) 6 := ⟨by unfold L; omega⟩
  refine dI ?_
  refine bK ?_
  refine ej ?_
  refine bK ?_
  refine br hP ?_
  refine aj rfl<|ak rfl<|ag<|bK ?_
  refine bK ?_
  refine br hP ?_
  refine aj rfl<|aj rfl<|ab (bU rfl rfl (by first | exact iW0 _ (by omega) | rfl)) ?_
  refine aj rfl<|ab (b5 rfl rfl (by omega) (c := (i : Int) * (i : Int) % (4 * (m : Int))) (Int.tmod_eq_emod_of_nonneg (by omega))) ?_
  refine aj rfl<|ab (bw rfl rfl)<|ag ?_
  refine dY rfl (fun hb2 => ?_) (fun hb2 => ?_)
  ·have hb2_ := cw hb2
   refine iK ?_
   refine br hP ?_
   refine bH rfl rfl ?_
   refine aj rfl<|ag ?_
   refine ⟨i + 1, by omega, by omega, xk (Ev hb2_), aG ⟨.refl _, .refl _, .refl _, .refl _, .refl _, .refl _, aO (by omega), trivial⟩ trivial⟩
  have hb2_ := b9 hb2
  refine dI ?_
  refine bK ?_
  refine br hP ?_
  refine aj rfl<|aj rfl<|ab (bU rfl rfl (by first | exact iW0 _ (by omega) | rfl)) ?_
  refine ab (ah (ei ((i : Int) * (i : Int)) (by unfold bv; omega))) ?_
  refine ab (bo hT rfl rfl rfl (cs := [_, _]) rfl rfl)<|ab (ah (js ((i : Int) * (i : Int)) D lz lz)) ?_
  refine aj rfl<|ab (ah c4) ?_
  refine ab (ah (dJ ((i : Int) * (i : Int) - D) (4 * (m : Int)) lz lz (by omega))) ?_
  refine ab (az (rfl : _ = AV.t _))<|ab (aC rfl (v := .a _) rfl)<|ab (aC rfl (v := .a _) rfl)<|ab (aC rfl (v := .c _) rfl)<|an ai (ay hT rfl rfl)<|an ai (ay hT rfl rfl)<|aE hT rfl<|aE hT rfl<|ak rfl<|ag<|bK ?_
  refine br hP ?_
  refine cC hT rfl rfl rfl ?_
  refine ab (ah cm) ?_
  refine aj rfl<|ab (ah (ei (i : Int) (by unfold bv; omega))) ?_
  refine au hT rfl<|ab (aV hT rfl rfl rfl (es := [_, _, _, _, _, _]) rfl)<|an ai (ay hT rfl rfl)<|aE hT rfl<|ag<|bK ?_
  refine ll ?_
  refine RY.val ai (aI hT rfl rfl rfl rfl (cs := [_, _, _, _, _, _]) rfl rfl) ?_
  refine RY.val ai (ah (j7 (m : Int) (i : Int) (((i : Int) * (i : Int) - D) / (4 * (m : Int))) lz lz lz)) ?_
  refine RY.val ai (az (rfl : _ = AV.p (.c _))) ?_
  refine RY.split (t := 61) rfl (fun hg3 => ?_) (fun hg3 => ?_)
  ·have hyes := Et hb2_ hg3
   have hgt : xs[(rbT D m i).length]? = some [PI (i : Int), PF (frq D m (i : Int))] := by rw [← hxs, List.getElem?_map, Du hyes (by omega)]; rfl
   refine RY.val (aS rfl rfl hg3) (az (rfl : _ = AV.p (.c _))) ?_
   refine RY.val (aS rfl rfl hg3) (aJ hT rfl rfl rfl rfl rfl rfl) ?_
   refine RY.val (aS rfl rfl hg3) (aI hT rfl rfl rfl rfl (cs := [_, _]) rfl rfl) ?_
   refine RY.val (aS rfl rfl hg3) (aI hT rfl rfl rfl rfl (cs := [_, _, _, _, _, _]) rfl rfl) ?_
   refine RY.yield hK (aS rfl rfl hg3) rfl rfl hgt ?_
   intro b
   refine RY.val (aS rfl rfl hg3) (bA rfl) ?_
   refine RY.val ai (aN rfl hg3 (rfl : _ = AV.p (.c _))) ?_
   refine RY.done ?_
   refine dY rfl (fun hb4 => ?_) (fun hb4 => ?_)
   ·have hb4_ := (cy hb4)
    refine mb ?_
    refine ⟨.inr rfl, ?_⟩
    exact vW (cy hb4)
   have hb4_ := (cn hb4)
   refine dI ?_
   refine br hP ?_
   refine bH rfl rfl ?_
   refine aj rfl<|ag ?_
   refine ⟨i + 1, by omega, by omega, (Ds hyes).trans (vV (cn hb4)).symm, aG ⟨.refl _, .refl _, .refl _, .refl _, .refl _, .refl _, aO (by omega), trivial⟩ trivial⟩
  iterate 6 refine RY.skip (jM rfl rfl hg3) ?_
  refine RY.val ai (aP rfl hg3 (rfl : _ = AV.p (.c _))) ?_
  refine RY.done ?_
  refine je rfl rfl ?_
  refine dI ?_
  refine br hP ?_
  refine bH rfl rfl ?_
  refine aj rfl<|ag ?_
  refine ⟨i + 1, by omega, by omega, xk (Eu hg3), aG ⟨.refl _, .refl _, .refl _, .refl _, .refl _, .refl _, aO (by omega), trivial⟩ trivial⟩
 have hb1_ := dF0 hb1
 refine iK ?_
 refine ⟨.inl rfl, ?_⟩
 have e : i = 2 * m := by omega
 subst e
 rw [← hxs, List.length_map, ← uv, show (2 * (m : Int)).toNat = 2 * m by omega]
 exact Nat.le_refl _
theorem mw (D : Int) (m : Nat) :
  aF Tryz.prog 127 [I D, Z (m : Int)] (.fn 179 [[.v (.int .i64 (m : Int))], [zn D, zm D]]) := by
 refine lh Tryz.func127 (by kernel_rfl) rfl rfl (bL0 rfl) rfl ?_
 refine ae hP<|an ai (aK rfl rfl)<|an ai (aK rfl rfl)<|ak rfl<|ag<|cL (t := 2) rfl rfl ?_
 refine cL (t := 3) rfl rfl ?_
 refine ae hP<|ab (jH rfl rfl)<|ab (bl (rfl : _ = AV.fn _ _))<|ag<|am ?_
 exact ⟨.inr rfl, 4, rfl, rfl⟩
theorem pP (D : Int) (m : Nat) (hD : -4194304 ≤ D ∧ D < 0) (hm : 1 ≤ m ∧ m ≤ 65536) :
  aF Tryz.prog 69 [I D, Z (m : Int)] (B (decide (rbL D (m : Int) = []))) := by
 refine aL Tryz.func69 rfl rfl rfl rfl ?_
 refine ae hP<|an ai (aK rfl rfl)<|an ai (ay hT rfl rfl)<|ag<|ao<|ae hP<|au hT rfl<|aj rfl<|ab (ah (mw D m)) ?_
 refine ag<|aA<|dF (t := stL [(4, .loc 4 0), (7, .fn 179 [[.v (.int .i64 (m : Int))], [zn D, zm D]])] [(4, ⟨false, 1, 4, [.v (.bool false)]⟩)]) (aG ⟨.refl _, .refl _, trivial⟩ ⟨rfl, trivial⟩) ?_
 refine e9 5 (fun _ => cO [(4, ⟨false, 1, 4, [.v (.bool false)]⟩)]) (fun k => k = 0) rfl (kQ D m hD hm) nQ rfl rfl rfl rfl (fun k x hx hk => ?_) (fun hk => ?_)
 ·have hne := Jb hx
  obtain ⟨b, hb, rfl⟩ := nS hx
  refine aq<|aA<|ae hP<|aE hT rfl<|ag<|am ?_
  refine ⟨_, GW.forget fun _ => .inl rfl, ?_⟩
  refine bS rfl (.inr rfl) (cg hT rfl rfl rfl rfl rfl) ?_ bt
  exact aW hne.symm
 refine ae hP<|aE hT rfl<|ag<|am ?_
 refine bS rfl (.inr rfl) (cg hT rfl rfl rfl rfl rfl) ?_ bt
 exact aW (Gy hk).symm
theorem rM (m : Int) :
  aF Tryz.prog 55 [Z m] (Z (rgE m)) := by
 refine aL Tryz.func55 rfl rfl rfl rfl ?_
 refine ae hP<|ak rfl<|ag<|ao<|aA<|ae hP<|aj rfl<|ab (bi rfl rfl)<|ak rfl<|ag ?_
 refine aw rfl (fun hb1 => ?_) (fun hb1 => ?_)
 ·have hb1_ := dT0 hb1
  refine ae hP<|ak rfl<|ag<|am<|E1 rfl rfl ?_
  exact aO (IU hb1_).symm
 have hb1_ := dF0 hb1
 refine ae hP<|aj rfl<|ab (bV rfl rfl)<|ak rfl<|ag ?_
 refine aw rfl (fun hb2 => ?_) (fun hb2 => ?_)
 ·have hb2_ := dT0 hb2
  refine ae hP<|ak rfl<|ag<|am<|E1 rfl rfl ?_
  exact aO (IT hb2_).symm
 have hb2_ := dF0 hb2
 refine aq<|ae hP<|ak rfl<|ag<|am<|E1 rfl rfl ?_
 exact aO (vB hb1_ hb2_).symm
theorem rP (D : Int) (m : Nat) (hD : -4194304 ≤ D ∧ D < 0) (hm : 1 ≤ m ∧ m ≤ 65536) :
  aF Tryz.prog 56 [I D, Z (m : Int)] (.p (.c (SL enI (rbL D (m : Int))))) := by
 refine aL Tryz.func56 rfl rfl rfl rfl ?_
 refine ae hP<|an ai (aK rfl rfl)<|ak rfl<|ag<|ae hP<|an ai (lO hT rfl rfl)<|ag<|ao<|ae hP<|au hT rfl<|aj rfl<|ab (ah (mw D m)) ?_
 refine ag<|aA<|lj 5 1000 2 29 rfl rfl rfl rfl ?_
 refine dF (t := stL [(5, .loc 5 0), (9, .fn 179 [[.v (.int .i64 (m : Int))], [zn D, zm D]])] [(5, ⟨false, 1002, 36, [.sl (((rbL D (m : Int)).take 0)).length []]⟩), (1000, VB 2 29 enI (((rbL D (m : Int)).take 0)))]) (aG ⟨.refl _, .refl _, trivial⟩ ⟨rfl, rfl, trivial⟩) ?_
 refine e9 6 (fun k => cO [(5, ⟨false, 1002, 36, [.sl (((rbL D (m : Int)).take k)).length []]⟩), (1000, VB 2 29 enI (((rbL D (m : Int)).take k)))]) (fun _ => True) rfl (kQ D m hD hm) nQ rfl rfl rfl trivial (fun k x hx _ => ?_) (fun _ => ?_)
 ·obtain ⟨b, hb, rfl⟩ := nS hx
  refine av hP<|an ai (ay hT rfl rfl)<|aE hT rfl<|ag<|aA<|av hP<|ab (gy hT rfl rfl rfl rfl rfl)<|au hT rfl<|ab (bj hT rfl rfl rfl (es := [_, _]) rfl rfl rfl)<|RK.app ai (od (encD := enI) hT fu (by decide) rfl rfl rfl rfl rfl rfl rfl (b := b) rfl (by have := nR D m hm.2; rw [List.length_take]; omega) (by decide) (by decide)) ?_
  refine de ai (kR hT rfl rfl rfl rfl rfl rfl rfl (dH fu _).symm (Nat.zero_lt_succ 1)) ?_
  refine ag ?_
  refine ⟨GW.rnL 5 15 1000 (((rbL D (m : Int)).take k) ++ [b]).length rfl rfl rfl (dH fu _).symm (Nat.zero_lt_succ 1) rfl rfl rfl rfl ?_, trivial⟩
  show ∀ m, cO _ m = _ ∨ cO _ m = none
  rw [BR hb]
  exact SubO.own ⟨rfl, rfl, trivial⟩
 refine ae hP<|ab (gy hT rfl rfl rfl rfl rfl)<|ab (bl (rfl : _ = AV.vec _))<|ag<|ki (encD := enI) fu rfl (t := 4) rfl rfl ?_
 refine am<|E1 rfl rfl ?_
 exact aH (by rw [Gz])
theorem fl (a b : Int) :
  aF Tryz.prog 138 [I a, I b] (B (decide (a = b))) := by
 refine aL Tryz.func138 rfl rfl rfl rfl ?_
 refine ae hP<|an ai (aK rfl rfl)<|an ai (aK rfl rfl)<|ak rfl<|ag<|ae hP<|au hT rfl<|au hT rfl<|ab (ah (dy _ _)) ?_
 refine ab (bp rfl rfl)<|ak rfl<|ag<|am<|E1 rfl rfl ?_
 exact aW (ET a b)
theorem z1 (a : Int) :
  aF Tryz.prog 67 [I a] (B (decide (a = 0))) := by
 refine aL Tryz.func67 rfl rfl rfl rfl ?_
 refine ae hP<|an ai (aK rfl rfl)<|ak rfl<|ag<|ae hP<|au hT rfl<|ab (ah (db _)) ?_
 refine ab (bp rfl rfl)<|ak rfl<|ag<|am<|E1 rfl rfl ?_
 exact aW (Dj a)
theorem pO (D : Int) (m : Nat) (hD : -4194304 ≤ D ∧ D < 0) (hm : 1 ≤ m ∧ m ≤ 65536) :
  aF Tryz.prog 72 [I D, Z (m : Int)] (.p (.c (FS (fmL D (m : Int))))) := by
 have iD : LB D 6 := ⟨by unfold L; omega⟩
 have i4 : LB (4 * (m : Int)) 6 := ⟨by unfold L; omega⟩
 have im : LB (m : Int) 6 := ⟨by unfold L; omega⟩
 refine aL Tryz.func72 rfl rfl rfl rfl ?_
 refine ae hP<|an ai (aK rfl rfl)<|ak rfl<|ag<|ae hP<|an ai (lO hT rfl rfl)<|ag<|ao<|ae hP<|au hT rfl<|aj rfl<|ab (ah (mw D m)) ?_
 refine ag<|aA<|lj 5 1000 6 46 rfl rfl rfl rfl ?_
 refine dF (t := stL [(5, .loc 5 0), (13, .fn 179 [[.v (.int .i64 (m : Int))], [zn D, zm D]])] [(5, ⟨false, 1002, 32, [.sl (((fmL D (m : Int)).take 0)).length []]⟩), (1000, FB 46 (((fmL D (m : Int)).take 0)))]) (aG ⟨.refl _, .refl _, trivial⟩ ⟨rfl, rfl, trivial⟩) ?_
 refine e9 6 (fun k => cO [(5, ⟨false, 1002, 32, [.sl (((fmL D (m : Int)).take k)).length []]⟩), (1000, FB 46 (((fmL D (m : Int)).take k)))]) (fun _ => True) rfl (kQ D m hD hm) nQ rfl rfl rfl trivial (fun k x hx _ => ?_) (fun _ => ?_)
 ·obtain ⟨b, hb, rfl⟩ := nS hx
  have hb2 := (rbL_mem.1 (List.mem_of_getElem? hb)).1
  have hsq := nc (x := b) (m := 131073) (by omega)
  have ib : LB b 6 := ⟨by unfold L; omega⟩
  have isq : LB (b * b) 6 := ⟨by unfold L; omega⟩
  have cRd : aF Tryz.prog 41 [FA (m : Int) b ((b * b - D) / (4 * (m : Int)))] (.t [PF (frq D m b).rd, PM (rdM (m : Int) b ((b * b - D) / (4 * (m : Int)))), PE (rdE (m : Int) b ((b * b - D) / (4 * (m : Int))))]) := gZ (m : Int) b ((b * b - D) / (4 * (m : Int))) lz lz lz
  have htk := JJ hb
  generalize (frq D m b).rd = g at cRd htk
  generalize rdM (m : Int) b ((b * b - D) / (4 * (m : Int))) = M0 at cRd
  generalize rdE (m : Int) b ((b * b - D) / (4 * (m : Int))) = e0 at cRd
  refine av hP<|an ai (ay hT rfl rfl)<|aE hT rfl<|ag<|aA<|ae hP<|bD hT rfl rfl rfl rfl rfl rfl<|ab (ah cRd) ?_
  refine ab (az (rfl : _ = AV.t _))<|ab (aC rfl (v := .a _) rfl)<|ab (aC rfl (v := .a _) rfl)<|ab (aC rfl (v := .c _) rfl)<|an ai (ay hT rfl rfl)<|an ai (ay hT rfl rfl)<|aE hT rfl<|aE hT rfl<|ak rfl<|ag<|av hP<|ab (gy hT rfl rfl rfl rfl rfl)<|bD hT rfl rfl rfl rfl rfl rfl<|ab (bj hT rfl rfl rfl (es := [_, _, _, _, _, _]) rfl rfl rfl)<|RK.app ai (oe hT rfl rfl rfl rfl rfl rfl rfl (f := g) rfl (by have := sP D m hm.2; rw [List.length_take]; omega) (by decide)) ?_
  refine de ai (kR hT rfl rfl rfl rfl rfl rfl rfl (ma _).symm (Nat.zero_lt_succ 5)) ?_
  refine ag ?_
  refine ⟨GW.rnL 5 25 1000 (((fmL D (m : Int)).take k) ++ [g]).length rfl rfl rfl (ma _).symm (Nat.zero_lt_succ 5) rfl rfl rfl rfl ?_, trivial⟩
  show ∀ m, cO _ m = _ ∨ cO _ m = none
  rw [htk]
  exact SubO.own ⟨rfl, rfl, trivial⟩
 refine ae hP<|ab (gy hT rfl rfl rfl rfl rfl)<|ab (bl (rfl : _ = AV.vec _))<|ag<|mY (t := 4) rfl rfl ?_
 refine am<|E1 rfl rfl ?_
 exact aH (by rw [HP])
theorem xB (p q : Pr2) :
  aF Tryz.prog 90 [.p (.a [zn p.1, zm p.1, zn p.2, zm p.2]), .p (.a [zn q.1, zm q.1, zn q.2, zm q.2])] (Z (cmP p q)) := by
 refine aL Tryz.func90 rfl rfl rfl rfl ?_
 refine ae hP<|an ai (aK rfl rfl)<|an ai (aK rfl rfl)<|ak rfl<|ag<|ao<|ae hP<|ab (aR hT rfl rfl rfl rfl rfl (by first | decide | omega)) ?_
 refine au hT rfl<|ab (aR hT rfl rfl rfl rfl rfl (by first | decide | omega)) ?_
 refine au hT rfl<|ab (ah (dy _ _)) ?_
 refine ak rfl<|ag<|ae hP<|aj rfl<|ab (bw rfl rfl)<|ag ?_
 refine aw rfl (fun hb1 => ?_) (fun hb1 => ?_)
 ·have hb1_ := cw hb1
  refine ae hP<|aj rfl<|ak rfl<|ag<|am<|E1 rfl rfl ?_
  exact aO (by unfold cmP; rw [if_pos hb1_])
 have hb1_ := b9 hb1
 refine aq<|ae hP<|ab (aR hT rfl rfl rfl rfl rfl (by first | decide | omega)) ?_
 refine au hT rfl<|ab (aR hT rfl rfl rfl rfl rfl (by first | decide | omega)) ?_
 refine au hT rfl<|ab (ah (dy _ _)) ?_
 refine ak rfl<|ag<|am<|E1 rfl rfl ?_
 exact aO (by unfold cmP; rw [if_neg (fun x => x hb1_)])
end
section
open Go Go.AM
theorem nZ (a b c p q r : Int) :
  aF Tryz.prog 165 [FA a b c, FA p q r] (B (decide (a = p ∧ b = q ∧ c = r))) := by
 refine aL Tryz.func165 rfl rfl rfl rfl ?_
 refine ae hP<|an ai (aK rfl rfl)<|an ai (aK rfl rfl)<|ak rfl<|ag<|ae hP<|aD hT rfl<|au hT rfl<|aD hT rfl<|au hT rfl<|ab (ah (fl _ _)) ?_
 refine aj rfl ?_
 refine bd (t := 10) rfl (fun hg1 => ?_) (fun hg1 => ?_)
 ·refine aB hg1 (aJ hT rfl rfl rfl rfl rfl rfl) ?_
  refine aB hg1 (aI hT rfl rfl rfl rfl (cs := [_, _]) rfl rfl) ?_
  refine aB hg1 (aJ hT rfl rfl rfl rfl rfl rfl) ?_
  refine aB hg1 (aI hT rfl rfl rfl rfl (cs := [_, _]) rfl rfl) ?_
  refine aB hg1 (ah (fl _ _)) ?_
  refine ab (aN rfl hg1 (rfl : _ = AV.p (.c _)))<|aj rfl ?_
  refine bd (t := 17) rfl (fun hg2 => ?_) (fun hg2 => ?_)
  ·refine aB hg2 (aJ hT rfl rfl rfl rfl rfl rfl) ?_
   refine aB hg2 (aI hT rfl rfl rfl rfl (cs := [_, _]) rfl rfl) ?_
   refine aB hg2 (aJ hT rfl rfl rfl rfl rfl rfl) ?_
   refine aB hg2 (aI hT rfl rfl rfl rfl (cs := [_, _]) rfl rfl) ?_
   refine aB hg2 (ah (fl _ _)) ?_
   refine ab (aN rfl hg2 (rfl : _ = AV.p (.c _)))<|ak rfl<|ag<|am<|E1 rfl rfl ?_
   exact aW (Kd hg1 hg2)
  iterate 5 refine a7 hg2 ?_
  refine ab (aP rfl hg2 (rfl : _ = AV.p (.c _)))<|ak rfl<|ag<|am<|E1 rfl rfl ?_
  exact aW (Ke hg1 hg2)
 iterate 5 refine a7 hg1 ?_
 refine ab (aP rfl hg1 (rfl : _ = AV.p (.c _)))<|aj rfl<|a7 rfl ?_
 iterate 4 refine a7 rfl ?_
 refine ab (aP rfl rfl (rfl : _ = AV.p (.c _)))<|ak rfl<|ag<|am<|E1 rfl rfl ?_
 exact aW (Kf hg1)
theorem DT (D : Int) :
  aF Tryz.prog 134 [I D] (.p (.c (SL enU (unL D)))) := by
 refine aL Tryz.func134 rfl rfl rfl rfl ?_
 refine ae hP<|an ai (aK rfl rfl)<|ak rfl<|ag<|ao<|aA<|ae hP<|au hT rfl<|ab (ah (ez _ (by decide))) ?_
 refine ab (ah (fl _ _)) ?_
 refine ak rfl<|ag ?_
 refine aw rfl (fun hb1 => ?_) (fun hb1 => ?_)
 ·refine ae hP<|ab (dm hT rfl rfl rfl (es := [_, _]) rfl) ?_
  iterate 5 refine ab (dm hT rfl rfl rfl (es := [_, _]) rfl) ?_
  refine ab (bj hT rfl rfl rfl (es := [_, _, _, _, _, _, _, _, _, _, _, _]) rfl rfl rfl)<|ak rfl<|ag<|am<|E1 rfl rfl ?_
  exact aH (by rw [← Ka (dT0 hb1)]; rfl)
 refine ae hP<|au hT rfl<|ab (ah (ez _ (by unfold bv; omega))) ?_
 refine ab (ah (fl _ _)) ?_
 refine ak rfl<|ag ?_
 refine aw rfl (fun hb2 => ?_) (fun hb2 => ?_)
 ·refine ae hP<|ab (dm hT rfl rfl rfl (es := [_, _]) rfl) ?_
  iterate 3 refine ab (dm hT rfl rfl rfl (es := [_, _]) rfl) ?_
  refine ab (bj hT rfl rfl rfl (es := [_, _, _, _, _, _, _, _]) rfl rfl rfl)<|ak rfl<|ag<|am<|E1 rfl rfl ?_
  exact aH (by rw [← J9 (dF0 hb1) (dT0 hb2)]; rfl)
 refine aq<|ae hP<|ab (dm hT rfl rfl rfl (es := [_, _]) rfl)<|ab (dm hT rfl rfl rfl (es := [_, _]) rfl)<|ab (bj hT rfl rfl rfl (es := [_, _, _, _]) rfl rfl rfl)<|ak rfl<|ag<|am<|E1 rfl rfl ?_
 exact aH (by rw [← Kb (dF0 hb1) (dF0 hb2)]; rfl)
theorem rO (f : Fm) (D : Int) (m : Nat) (hfa : L 6 f.a) (hfb : L 6 f.b) (hfc : L 6 f.c) (hf : dsc f.a f.b f.c = D) (hD : -4194304 ≤ D ∧ D < 0) (hm : 1 ≤ m ∧ m ≤ 65536) :
  Iter2 Tryz.prog 132 [[zn f.a, zm f.a, zn f.b, zm f.b, zn f.c, zm f.c], [.v (.int .i64 (m : Int))]] ((prL D m f).map fun p => [PA p]) := by
 have iD : LB D 6 := ⟨by unfold L; omega⟩
 have i4 : LB (4 * (m : Int)) 6 := ⟨by unfold L; omega⟩
 have im : LB (m : Int) 6 := ⟨by unfold L; omega⟩
 have fa : LB f.a 6 := ⟨hfa⟩
 have fb : LB f.b 6 := ⟨hfb⟩
 have fc : LB f.c 6 := ⟨hfc⟩
 have cDs : aF Tryz.prog 40 [FA f.a f.b f.c] (I D) := by rw [← hf]; exact fE f.a f.b f.c lz lz lz
 have cUn := DT D
 have hus : ∀ p ∈ unL D, (-2 ≤ p.1 ∧ p.1 ≤ 2) ∧ (-1 ≤ p.2 ∧ p.2 ≤ 1) := fun p hp => It hp
 have hul := wX D
 have hget := fun (i j : Nat) (b : Int) (hb : (rbL D m)[i]? = some b) (hs : smf f (frq D m b) = true) (hj : j < (unL D).length) => GT (f := f) (j := j) hb hs hj
 have hkY := fun (i : Nat) (b : Int) (hb : (rbL D m)[i]? = some b) (hs : smf f (frq D m b) = true) => Kr (f := f) hb hs
 have hkN := fun (i : Nat) (b : Int) (hb : (rbL D m)[i]? = some b) (hs : smf f (frq D m b) = false) => Ks (f := f) hb hs
 have hall := GV (D := D) (m := m) (f := f)
 have hk0 : 0 = (fmN (prQ D m f) (rbL D m)) 0 := fmN_0.symm
 generalize unL D = us at *
 generalize hxs : ((prL D m f).map fun p => ([PA p] : List PV)) = xs at *
 generalize fmN (prQ D m f) (rbL D m) = κ at *
 refine nl Tryz.func132 (by kernel_rfl) rfl rfl (bL0 rfl) rfl ?_
 intro l n0 J hK
 refine tE hK.toKeepsB ?_
 refine br hP ?_
 refine an ai (aK rfl rfl)<|ag<|tE hK.toKeepsB ?_
 refine br hP ?_
 refine ab (bo hT rfl rfl rfl (cs := [_, _, _, _, _, _]) rfl rfl)<|ab (ah cDs) ?_
 refine an ai (ay hT rfl rfl)<|aE hT rfl<|ag<|tE hK.toKeepsB ?_
 refine br hP ?_
 refine au hT rfl<|cC hT rfl rfl rfl ?_
 refine ab (ah (mw D m)) ?_
 refine ag<|Bd ?_
 refine J8 (t := stL [(1, .ip [zn f.a, zm f.a, zn f.b, zm f.b, zn f.c, zm f.c]), (2, .ip [.v (.int .i64 (m : Int))]), (3, .loc 3 0), (4, .loc 4 0), (21, .fn 179 [[.v (.int .i64 (m : Int))], [zn D, zm D]])] [(3, ⟨false, 1, 187, [.v (.func (.yield l) #[] #[])]⟩), (4, ⟨false, 1, 29, [zn D, zm D]⟩)]) (aG ⟨.refl _, .refl _, .refl _, .refl _, .refl _, trivial⟩ ⟨rfl, rfl, trivial⟩) ?_
 refine Bc 5 κ (cO [(3, ⟨false, 1, 187, [.v (.func (.yield l) #[] #[])]⟩), (4, ⟨false, 1, 29, [zn D, zm D]⟩)]) hK rfl (kQ D m hD hm) nQ rfl rfl (fun i y hy => ?_) hall hk0
 obtain ⟨b, hb, rfl⟩ := nS hy
 have hb2 := (rbL_mem.1 (List.mem_of_getElem? hb)).1
 have hsq := nc (x := b) (m := 131073) (by omega)
 have ib : LB b 6 := ⟨by unfold L; omega⟩
 have isq : LB (b * b) 6 := ⟨by unfold L; omega⟩
 have cSm : aF Tryz.prog 133 [FA f.a f.b f.c, FA (m : Int) b ((b * b - D) / (4 * (m : Int)))] (.t [PM (smm f (frq D m b)), PB (smf f (frq D m b))]) := GM f.a f.b f.c (m : Int) b ((b * b - D) / (4 * (m : Int))) lz lz lz lz lz lz
 obtain ⟨m1, m2, m3, m4⟩ : LB (smm f (frq D m b)).a 23 ∧ LB (smm f (frq D m b)).b 23 ∧ LB (smm f (frq D m b)).c 23 ∧ LB (smm f (frq D m b)).d 23 := Kc (a := f.a) (b := f.b) (c := f.c) (p := (m : Int)) (q := b) (r := (b * b - D) / (4 * (m : Int))) ⟨lz⟩ ⟨lz⟩ ⟨lz⟩ ⟨lz⟩ ⟨lz⟩ ⟨lz⟩
 have hgj := fun j => hget i j b hb
 have hY := hkY i b hb
 have hN := hkN i b hb
 generalize smm f (frq D m b) = M at cSm m1 m2 m3 m4 hgj
 generalize smf f (frq D m b) = sb at cSm hgj hY hN
 show AK _ _ _ _ _ _ _ (κ i) ⟨jh _ _ [PI b, .a [zn (m : Int), zm (m : Int), zn b, zm b, zn ((b * b - D) / (4 * (m : Int))), zm ((b * b - D) / (4 * (m : Int)))]], _⟩
 generalize (b * b - D) / (4 * (m : Int)) = C0 at cSm ⊢
 refine bK ?_
 refine br hP ?_
 refine an ai (ay hT rfl rfl)<|aE hT rfl<|ag<|br hP ?_
 refine an ai (ay hT rfl rfl)<|aE hT rfl<|ag<|ej ?_
 refine bK ?_
 refine br hP ?_
 refine ab (bo hT rfl rfl rfl (cs := [_, _, _, _, _, _]) rfl rfl)<|bD hT rfl rfl rfl rfl rfl rfl<|ab (ah cSm) ?_
 refine ab (az (rfl : _ = AV.t _))<|ab (aC rfl (v := .a _) rfl)<|ab (aC rfl (v := .c _) rfl)<|an ai (ay hT rfl rfl)<|aE hT rfl<|ak rfl<|ag<|bK ?_
 refine bK ?_
 refine br hP ?_
 refine aj rfl<|ab (bA rfl)<|ag ?_
 refine dY rfl (fun hb1 => ?_) (fun hb1 => ?_)
 ·have hb1_ := (cy hb1)
  refine iK ?_
  exact .inl ⟨rfl, (hN (cy hb1)).symm, GW.forget fun x => SubO.own (l := [(3, ⟨false, 1, 187, [.v (.func (.yield l) #[] #[])]⟩), (4, ⟨false, 1, 29, [zn D, zm D]⟩)]) ⟨rfl, rfl, trivial⟩ x⟩
 have hb1_ := (cn hb1)
 have hsb := cn hb1
 refine dI ?_
 refine bK ?_
 refine br hP ?_
 refine au hT rfl<|ab (ah cUn) ?_
 refine ab (aU hT rfl rfl rfl (by rfl)) ?_
 refine aj rfl<|ag<|ej ?_
 refine kF (ι := Nat) (fun j => stL [(3, .loc 3 0), (5, .loc 5 0), (6, .loc 6 0), (7, .loc 7 0), (33, .p (.c (SL enU us))), (34, Z (us.length : Int)), (35, Z (j : Int))] [(3, ⟨false, 1, 187, [.v (.func (.yield l) #[] #[])]⟩), (4, ⟨false, 1, 29, [zn D, zm D]⟩), (5, ⟨false, 1, 29, [zn b, zm b]⟩), (6, ⟨false, 1, 46, [zn (m : Int), zm (m : Int), zn b, zm b, zn C0, zm C0]⟩), (7, ⟨false, 1, 87, [zn M.a, zm M.a, zn M.b, zm M.b, zn M.c, zm M.c, zn M.d, zm M.d]⟩)]) (fun j => κ i + j) (fun j => j ≤ us.length) (fun j => us.length - j) 0 (Nat.zero_le _) rfl (aG ⟨.refl _, .refl _, .refl _, .refl _, .refl _, .refl _, .refl _, trivial⟩ ⟨rfl, rfl, rfl, rfl, rfl, trivial⟩) ?_
 intro j hj
 refine bK ?_
 refine br hP ?_
 refine ab (bi rfl rfl)<|ag<|bK ?_
 refine dY rfl (fun hb2 => ?_) (fun hb2 => ?_)
 ·have hb2_ := dT0 hb2
  have hjn : j < us.length := by omega
  have hgt := hgj j hsb hjn
  obtain ⟨⟨u1, u2⟩, u3, u4⟩ := hus _ (qe (d := (0, 0)) hjn)
  have iu1 : LB (us.getD j (0, 0)).1 3 := ⟨by unfold L; omega⟩
  have iu2 : LB (us.getD j (0, 0)).2 3 := ⟨by unfold L; omega⟩
  refine dI ?_
  refine bK ?_
  refine ej ?_
  refine bK ?_
  refine br hP ?_
  refine ab (dM hT EK (by decide) (0, 0) (n := (j : Int)) (l := us) rfl rfl rfl rfl rfl rfl (by omega)) ?_
  refine ab (bo hT rfl rfl rfl (cs := enU (us.getD j (0, 0))) rfl rfl) ?_
  refine an ai (ay hT rfl rfl)<|aE hT rfl<|ag<|bK ?_
  refine br hP ?_
  refine ab (aR hT rfl rfl rfl rfl rfl (by first | decide | omega)) ?_
  refine aY hT rfl rfl rfl rfl ?_
  refine ab (ah (ez _ (by unfold bv; omega))) ?_
  refine au hT rfl<|ab (aR hT rfl rfl rfl rfl rfl (by first | decide | omega)) ?_
  refine aY hT rfl rfl rfl rfl ?_
  refine ab (ah (ez _ (by unfold bv; omega))) ?_
  refine ab (ah (dG b (us.getD j (0, 0)).2 lz lz)) ?_
  refine ab (ah (js (us.getD j (0, 0)).1 (b * (us.getD j (0, 0)).2) lz lz)) ?_
  refine ab (ah (ez 2 (by decide))) ?_
  refine ab (ah (dJ ((us.getD j (0, 0)).1 - b * (us.getD j (0, 0)).2) 2 lz lz (by omega))) ?_
  refine ab (az (rfl : _ = AV.t _))<|ab (aC rfl (v := .a _) rfl)<|ab (aC rfl (v := .a _) rfl)<|ab (aC rfl (v := .c _) rfl)<|an ai (ay hT rfl rfl)<|an ai (ay hT rfl rfl)<|aE hT rfl<|aE hT rfl<|ak rfl<|ag<|bK ?_
  refine br hP ?_
  refine aD hT rfl<|au hT rfl<|ab (aR hT rfl rfl rfl rfl rfl (by first | decide | omega)) ?_
  refine aY hT rfl rfl rfl rfl ?_
  refine ab (ah (ez _ (by unfold bv; omega))) ?_
  refine ab (ah (dG (m : Int) (us.getD j (0, 0)).2 lz lz)) ?_
  refine an ai (ay hT rfl rfl)<|aE hT rfl<|ag<|bK ?_
  refine br hP ?_
  refine aD hT rfl<|au hT rfl<|au hT rfl<|ab (ah (dG M.a (((us.getD j (0, 0)).1 - b * (us.getD j (0, 0)).2) / 2) lz lz)) ?_
  refine aD hT rfl<|au hT rfl<|au hT rfl<|ab (ah (dG M.b ((m : Int) * (us.getD j (0, 0)).2) lz lz)) ?_
  refine ab (ah (dP (M.a * (((us.getD j (0, 0)).1 - b * (us.getD j (0, 0)).2) / 2)) (M.b * ((m : Int) * (us.getD j (0, 0)).2)) lz lz)) ?_
  refine an ai (ay hT rfl rfl)<|aE hT rfl<|ag<|bK ?_
  refine br hP ?_
  refine aD hT rfl<|au hT rfl<|au hT rfl<|ab (ah (dG M.c (((us.getD j (0, 0)).1 - b * (us.getD j (0, 0)).2) / 2) lz lz)) ?_
  refine aD hT rfl<|au hT rfl<|au hT rfl<|ab (ah (dG M.d ((m : Int) * (us.getD j (0, 0)).2) lz lz)) ?_
  refine ab (ah (dP (M.c * (((us.getD j (0, 0)).1 - b * (us.getD j (0, 0)).2) / 2)) (M.d * ((m : Int) * (us.getD j (0, 0)).2)) lz lz)) ?_
  refine an ai (ay hT rfl rfl)<|aE hT rfl<|ag<|bK ?_
  refine ll ?_
  refine RY.val ai (bG hT rfl rfl rfl rfl (by first | rfl | exact dz (by omega))) ?_
  refine RY.val ai (aI hT rfl rfl rfl rfl (cs := [_, _]) rfl rfl) ?_
  refine RY.val ai (aI hT rfl rfl rfl rfl (cs := [_, _]) rfl rfl) ?_
  refine RY.val ai (dm hT rfl rfl rfl (es := [_, _, _, _]) rfl) ?_
  refine RY.yield hK ai rfl rfl hgt ?_
  intro bb
  refine RY.val ai (bA rfl) ?_
  refine RY.done ?_
  refine dY rfl (fun hb3 => ?_) (fun hb3 => ?_)
  ·have hb3_ := (cy hb3)
   refine mb ?_
   exact .inr ⟨rfl, vW (cy hb3)⟩
  have hb3_ := (cn hb3)
  refine dI ?_
  refine br hP ?_
  refine bH rfl rfl ?_
  refine aj rfl<|ag ?_
  refine ⟨j + 1, by omega, by omega, (vV (cn hb3)).symm, aG ⟨.refl _, .refl _, .refl _, .refl _, .refl _, .refl _, aO (by omega), trivial⟩ ⟨rfl, rfl, rfl, rfl, rfl, trivial⟩⟩
 have hb2_ := dF0 hb2
 have hjl : us.length = j := by omega
 refine iK ?_
 exact .inl ⟨rfl, by rw [hY hsb, hjl], GW.forget fun x => SubO.own (l := [(3, ⟨false, 1, 187, [.v (.func (.yield l) #[] #[])]⟩), (4, ⟨false, 1, 29, [zn D, zm D]⟩)]) ⟨rfl, rfl, trivial⟩ x⟩
end
section
open Go Go.AM
theorem yg (o x : Fm) (u : Value) :
  aF Tryz.prog 214 [FA (o).a (o).b (o).c, FA (x).a (x).b (x).c, I 0, .p (.c (.v u))] (FA (o).a (o).b (o).c) := by
 refine aL Tryz.func214 rfl rfl rfl rfl ?_
 refine ae hP<|an ai (aK rfl rfl)<|an ai (aK rfl rfl)<|an ai (aK rfl rfl)<|an ai (ay hT rfl rfl)<|ag<|ao<|ae hP<|au hT rfl<|ab (ah (sC _)) ?_
 refine aj rfl<|ag<|aA<|dU 1 ?_
 refine ae hP<|ab (bi rfl rfl)<|ag<|ao<|aT rfl (by decide) ?_
 refine aZ<|ae hP<|bD hT rfl rfl rfl rfl rfl rfl<|aE hT rfl<|ag<|am ?_
 refine bS rfl (.inr rfl) (aQ hT rfl rfl rfl rfl (cs := [_, _, _, _, _, _]) rfl rfl) ?_ bt
 exact .refl _
theorem yi (f : Fm) (hfa : L 6 f.a) (hfb : L 6 f.b) (hfc : L 6 f.c) :
  aF Tryz.prog 183 [FA f.a f.b f.c, I 0] (FA ((prF (dsc f.a f.b f.c))).a ((prF (dsc f.a f.b f.c))).b ((prF (dsc f.a f.b f.c))).c) := by
 have fa : LB f.a 6 := ⟨hfa⟩
 have fb : LB f.b 6 := ⟨hfb⟩
 have fc : LB f.c 6 := ⟨hfc⟩
 refine aL Tryz.func183 rfl rfl rfl rfl ?_
 refine ae hP<|an ai (aK rfl rfl)<|an ai (aK rfl rfl)<|an ai (ay hT rfl rfl)<|ag<|ao<|ae hP<|aD hT rfl<|aY hT rfl rfl rfl rfl ?_
 refine ag<|aT rfl rfl<|aq<|ae hP<|bD hT rfl rfl rfl rfl rfl rfl<|ab (ah (s9 _ _ _ lz lz lz)) ?_
 refine bD hT rfl rfl rfl rfl rfl rfl<|ab (ah (wB _ _ _ lz lz lz)) ?_
 refine au hT rfl<|ab (ah (yg _ _ _)) ?_
 refine aE hT rfl<|ag<|am ?_
 refine bS rfl (.inr rfl) (aQ hT rfl rfl rfl rfl (cs := [_, _, _, _, _, _]) rfl rfl) ?_ bt
 exact .refl _
theorem yj (f : Fm) (hfa : L 6 f.a) (hfb : L 6 f.b) (hfc : L 6 f.c) :
  aF Tryz.prog 131 [FA f.a f.b f.c, I 0] (.t [PF (pz0 f), PE (rfE f)]) := by
 have fa : LB f.a 6 := ⟨hfa⟩
 have fb : LB f.b 6 := ⟨hfb⟩
 have fc : LB f.c 6 := ⟨hfc⟩
 refine aL Tryz.func131 rfl rfl rfl rfl ?_
 refine ae hP<|an ai (aK rfl rfl)<|an ai (aK rfl rfl)<|an ai (ay hT rfl rfl)<|ak rfl<|ag<|ao<|ae hP<|bD hT rfl rfl rfl rfl rfl rfl<|ab (ah (wA _ _ _ lz lz lz)) ?_
 refine ak rfl<|ag<|ae hP<|aj rfl<|ab (bw rfl rfl)<|ag ?_
 refine aw rfl (fun hb1 => ?_) (fun hb1 => ?_)
 ·have hb1_ := cw hb1
  refine ae hP<|ab (aV hT rfl rfl rfl (es := [_, _, _, _, _, _]) rfl)<|aj rfl<|aE hT rfl<|ak rfl<|ag<|am ?_
  refine cp rfl (.inr rfl) (aQ hT rfl rfl rfl rfl (cs := [_, _, _, _, _, _]) rfl rfl) (bO rfl) ?_ bt
  exact aH (Kq hb1_)
 have hb1_ := b9 hb1
 refine aq<|ae hP<|bD hT rfl rfl rfl rfl rfl rfl<|au hT rfl<|ab (ah (yi f hfa hfb hfc)) ?_
 refine aE hT rfl<|ak rfl<|ag<|am ?_
 refine cp rfl (.inr rfl) (aQ hT rfl rfl rfl rfl (cs := [_, _, _, _, _, _]) rfl rfl) (bO rfl) ?_ bt
 exact aH (Kp hb1_)
end
end Go.Proofs.YthaiejfjnllglaaGreatDoor
section
end
namespace Go.Proofs.YthaiejfjnllglaaGreatDoor
section
open Go Go.AM
theorem DH (N : Int) (h3 : 3 ≤ N) (h4 : N ≤ 2003) :
  aF Tryz.prog 80 [Z N] (.p (.c (FS (lst N)))) := by
 refine aL Tryz.func80 rfl rfl rfl rfl ?_
 refine ae hP<|ak rfl<|ag<|ae hP<|an ai (iV hT rfl rfl rfl (es := []) rfl rfl rfl) ?_
 refine ab (bl (rfl : _ = AV.vec _))<|ag<|dx 7 1000 rfl rfl rfl ?_
 refine ao<|ae hP<|ak rfl<|ag<|aA<|bq (ι := List Fm × Int) (fun p => stL [(0, Z N), (3, .vec 1000), (4, Z p.2)] [(1000, FB 46 p.1)]) (fun p => p.1 ++ dS N (101 - p.2).toNat p.2 = lst N ∧ 1 ≤ p.2 ∧ p.2 ≤ 26 ∧ (p.1.length : Int) ≤ 60 * p.2) (fun p => (100 - p.2).toNat) ([], 1) ⟨Ag N, by decide, by decide, by decide⟩ (aG ⟨.refl _, .refl _, .refl _, trivial⟩ ⟨rfl, trivial⟩) ?_
 rintro p ⟨hI, ha1, ha2, hlen⟩
 have hsq := KU ⟨ha1, ha2⟩
 refine ao<|ae hP<|aj rfl<|ab (bU rfl rfl (by first | exact iW0 _ (by omega) | rfl)) ?_
 refine aj rfl<|ab (bU rfl rfl (by first | exact iW0 _ (by omega) | rfl)) ?_
 refine aj rfl<|ab (fU rfl rfl)<|ag ?_
 refine aw rfl (fun hb1 => ?_) (fun hb1 => ?_)
 ·have hb1_ := dT0 hb1
  have ha3 := Ii ha1 hb1_ h4
  refine aq<|ao<|aA<|ae hP<|aj rfl<|ab (gx rfl (by first | exact iW0 _ (by omega) | rfl)) ?_
  refine ak rfl<|ag<|aA<|bq (ι := List Fm × Int) (fun q => stL [(0, Z N), (3, .vec 1000), (4, Z p.2), (5, Z q.2)] [(1000, FB 46 q.1)]) (fun q => q.1 ++ (eI N p.2 (p.2 + 1 - q.2).toNat q.2 ++ dS N (100 - p.2).toNat (p.2 + 1)) = lst N ∧ -p.2 ≤ q.2 ∧ q.2 ≤ p.2 + 1 ∧ (q.1.length : Int) ≤ 60 * p.2 + (q.2 + p.2)) (fun q => (p.2 + 1 - q.2).toNat) (p.1, -p.2) ⟨Jy hI ⟨ha1, by omega⟩ hb1_, by simp, by simp only; omega, by simp only; omega⟩ (aG ⟨.refl _, .refl _, .refl _, aO (by omega), trivial⟩ ⟨rfl, trivial⟩) ?_
  rintro q ⟨hJ, hq1, hq2, hlen2⟩
  refine ao<|ae hP<|aj rfl<|aj rfl<|ab (fU rfl rfl)<|ag ?_
  refine aw rfl (fun hb2 => ?_) (fun hb2 => ?_)
  ·have hb2_ := dT0 hb2
   have qs := nc (x := q.2) (m := 25) (by omega)
   have qc := c_b (x := q.2 * q.2 + N) (y := 4 * p.2) (by omega) (by omega)
   have ja : bv p.2 := by unfold bv; omega
   have jb : bv q.2 := by unfold bv; omega
   have jc : bv ((q.2 * q.2 + N) / (4 * p.2)) := by unfold bv; omega
   have ia : LB p.2 6 := ⟨by unfold L; omega⟩
   have ib : LB q.2 6 := ⟨by unfold L; omega⟩
   have ic : LB ((q.2 * q.2 + N) / (4 * p.2)) 6 := ⟨by unfold L; omega⟩
   refine aq<|ao<|aA<|ao<|ae hP<|aj rfl<|aj rfl<|ab (bU rfl rfl (by first | exact iW0 _ (by omega) | rfl)) ?_
   refine aj rfl<|bH rfl rfl ?_
   refine aj rfl<|ab (bU rfl rfl (by first | exact iW0 _ (by omega) | rfl)) ?_
   refine ab (b5 rfl rfl (by omega) (c := (q.2 * q.2 + N) % (4 * p.2)) (Int.tmod_eq_emod_of_nonneg (by omega))) ?_
   refine ab (bw rfl rfl)<|ag ?_
   refine aw rfl (fun hb3 => ?_) (fun hb3 => ?_)
   ·have hb3_ := cw hb3
    refine aZ<|av hP<|aj rfl<|bH rfl rfl ?_
    refine ak rfl<|ag ?_
    refine ⟨(q.1, q.2 + 1), ⟨we hJ hb2_ (D1 hb3_), by simp only; omega, by simp only; omega, by simp only; omega⟩, by simp only; omega, aG ⟨.refl _, .refl _, .refl _, .refl _, trivial⟩ ⟨rfl, trivial⟩⟩
   have hb3_ := b9 hb3
   have hz : (q.2 * q.2 + N) % (4 * p.2) = 0 := b9 hb3
   refine aq<|ae hP<|aj rfl<|aj rfl<|aj rfl<|aj rfl<|ab (bU rfl rfl (by first | exact iW0 _ (by omega) | rfl)) ?_
   refine aj rfl<|bH rfl rfl ?_
   refine aj rfl<|ab (bU rfl rfl (by first | exact iW0 _ (by omega) | rfl)) ?_
   refine ab (dl rfl rfl (by omega) (c := ((q.2 * q.2 + N) / (4 * p.2))) (by rw [Int.tdiv_eq_ediv_of_nonneg (by omega), iW0 _ (by omega)])) ?_
   refine ab (ah (nX _ _ _ (by first | assumption | decide) (by first | assumption | decide) (by first | assumption | decide))) ?_
   refine an ai (ay hT rfl rfl)<|aE hT rfl<|ag<|ae hP<|bD hT rfl rfl rfl rfl rfl rfl<|ab (ah (vH _ _ _ lz lz lz)) ?_
   refine aj rfl ?_
   refine bd (t := 45) rfl (fun hg4 => ?_) (fun hg4 => ?_)
   ·refine aB hg4 (aI hT rfl rfl rfl rfl (cs := [_, _, _, _, _, _]) rfl rfl) ?_
    refine aB hg4 (ah (rA _ _ _ lz lz lz)) ?_
    refine ab (aN rfl hg4 (rfl : _ = AV.p (.c _)))<|ag ?_
    refine aw rfl (fun hb5 => ?_) (fun hb5 => ?_)
    ·refine av hP<|ab (az (rfl : _ = AV.vec _))<|bD hT rfl rfl rfl rfl rfl rfl<|ab (bj hT rfl rfl rfl (es := [_, _, _, _, _, _]) rfl rfl rfl)<|RK.app ai (oe hT rfl rfl rfl rfl rfl rfl rfl (f := ⟨p.2, q.2, ((q.2 * q.2 + N) / (4 * p.2))⟩) rfl (by omega) (by decide)) ?_
     refine ab (bl (rfl : _ = AV.vec _))<|ag<|dx 52 1000 rfl rfl rfl ?_
     refine av hP<|aj rfl<|bH rfl rfl ?_
     refine ak rfl<|ag ?_
     refine ⟨(q.1 ++ [⟨p.2, q.2, ((q.2 * q.2 + N) / (4 * p.2))⟩], q.2 + 1), ⟨Hi hJ hb2_ (by rw [r7 hz, hg4, hb5]; rfl), by simp only; omega, by simp only; omega, by simp only [List.length_append, List.length_singleton]; omega⟩, by simp only; omega, aG ⟨.refl _, .refl _, .refl _, .refl _, trivial⟩ ⟨rfl, trivial⟩⟩
    refine aq<|av hP<|aj rfl<|bH rfl rfl ?_
    refine ak rfl<|ag ?_
    refine ⟨(q.1, q.2 + 1), ⟨we hJ hb2_ (by rw [r7 hz, hg4, hb5]; rfl), by simp only; omega, by simp only; omega, by simp only; omega⟩, by simp only; omega, aG ⟨.refl _, .refl _, .refl _, .refl _, trivial⟩ ⟨rfl, trivial⟩⟩
   refine a7 hg4 ?_
   refine a7 hg4 ?_
   refine ab (aP rfl hg4 (rfl : _ = AV.p (.c _)))<|ag<|aT rfl rfl<|aq<|av hP<|aj rfl<|bH rfl rfl ?_
   refine ak rfl<|ag ?_
   refine ⟨(q.1, q.2 + 1), ⟨we hJ hb2_ (by rw [r7 hz, hg4]; rfl), by simp only; omega, by simp only; omega, by simp only; omega⟩, by simp only; omega, aG ⟨.refl _, .refl _, .refl _, .refl _, trivial⟩ ⟨rfl, trivial⟩⟩
  have hb2_ := dF0 hb2
  refine aZ<|av hP<|aj rfl<|bH rfl rfl ?_
  refine ak rfl<|ag ?_
  refine ⟨(q.1, p.2 + 1), ⟨Hj hJ hb2_, by omega, by omega, by simp only; omega⟩, by simp only; omega, aG ⟨.refl _, .refl _, .refl _, trivial⟩ ⟨rfl, trivial⟩⟩
 have hb1_ := dF0 hb1
 refine aZ<|ae hP<|ab (az (rfl : _ = AV.vec _))<|ab (bl (rfl : _ = AV.vec _))<|ag<|mY (t := 2) rfl rfl ?_
 refine am<|E1 rfl rfl ?_
 exact aH (by rw [Hk hI hb1_])
theorem DG (D i0 i1 i2 i3 m0 m1 m2 m3 : Nat) (_hD : D < 65536) (_g0 : i0 < 65536) (_g1 : i1 < 65536) (_g2 : i2 < 65536) (_g3 : i3 < 65536) (_k0 : m0 < 256) (_k1 : m1 < 256) (_k2 : m2 < 256) (_k3 : m3 < 256) :
  aF Tryz.prog 11 [.p (.a [.v (.int .u16 (D : Int)), .v (.int .u16 (i0 : Int)), .v (.int .u16 (i1 : Int)), .v (.int .u16 (i2 : Int)), .v (.int .u16 (i3 : Int)), .v (.int .u8 (m0 : Int)), .v (.int .u8 (m1 : Int)), .v (.int .u8 (m2 : Int)), .v (.int .u8 (m3 : Int))])] (Z (szz D)) := by
 obtain ⟨s1, s2, s3, s4, s5⟩ := ew D
 have d1 := Int.emod_nonneg (D : Int) (show (2000 : Int) ≠ 0 by omega)
 have d2 := Int.emod_lt_of_pos (D : Int) (show (0 : Int) < 2000 by omega)
 refine aL Tryz.func11 rfl rfl rfl rfl ?_
 refine ae hP<|an ai (aK rfl rfl)<|ak rfl<|ag<|ae hP<|aD hT rfl<|aY hT rfl rfl rfl rfl ?_
 refine ab (b5 rfl rfl (by decide) (c := (D : Int) % 2000) (Int.tmod_eq_emod_of_nonneg (by omega))) ?_
 refine ab (a8 hT rfl rfl rfl rfl (iW0 _ (by omega))) ?_
 refine bH rfl rfl ?_
 refine ak rfl<|ag<|ao<|aA<|bq (ι := Int) (fun n => stL [(3, Z n)] []) (fun n => 3 + (D : Int) % 2000 ≤ n ∧ n ≤ szz D) (fun n => (szz D - n).toNat) (3 + (D : Int) % 2000) ⟨Int.le_refl _, s1⟩ (aG ⟨.refl _, trivial⟩ trivial) ?_
 rintro n ⟨hn1, hn2⟩
 refine ao<|ae hP<|aj rfl<|ab (b5 rfl rfl (by decide) (c := n % 4) (Int.tmod_eq_emod_of_nonneg (by omega))) ?_
 refine ab (bw rfl rfl)<|aj rfl ?_
 refine bd (t := 12) rfl (fun hg1 => ?_) (fun hg1 => ?_)
 ·have hg1_ := cw hg1
  refine aB hg1 (az (rfl : _ = AV.p (.c _))) ?_
  refine aB hg1 (b5 rfl rfl (by decide) (c := n % 4) (Int.tmod_eq_emod_of_nonneg (by omega))) ?_
  refine aB hg1 (bw rfl rfl) ?_
  refine ab (aN rfl hg1 (rfl : _ = AV.p (.c _)))<|ag ?_
  refine aw rfl (fun hb2 => ?_) (fun hb2 => ?_)
  ·have hb2_ := cw hb2
   refine aq<|aA<|av hP<|aj rfl<|bH rfl rfl ?_
   refine ak rfl<|ag ?_
   have hne : n ≠ szz D := by
    rintro rfl
    have := cw hg1
    have := cw hb2
    omega
   refine ⟨n + 1, ⟨by omega, by omega⟩, by omega, aG ⟨.refl _, trivial⟩ trivial⟩
  have hb2_ := b9 hb2
  refine aZ<|ae hP<|aj rfl<|ak rfl<|ag<|am<|E1 rfl rfl ?_
  exact aO (s5 n hn1 hn2 (.inr (b9 hb2)))
 have hg1_ := b9 hg1
 iterate 3 refine a7 hg1 ?_
 refine ab (aP rfl hg1 (rfl : _ = AV.p (.c _)))<|ag<|aT rfl rfl<|aZ<|ae hP<|aj rfl<|ak rfl<|ag<|am<|E1 rfl rfl ?_
 exact aO (s5 n hn1 hn2 (.inl (b9 hg1)))
theorem zP (D i0 i1 i2 i3 m0 m1 m2 m3 : Nat) (hD : D < 65536) (g0 : i0 < 65536) (g1 : i1 < 65536) (g2 : i2 < 65536) (g3 : i3 < 65536) (k0 : m0 < 256) (k1 : m1 < 256) (k2 : m2 < 256) (k3 : m3 < 256) :
  aF Tryz.prog 22 [.p (.a [.v (.int .u16 (D : Int)), .v (.int .u16 (i0 : Int)), .v (.int .u16 (i1 : Int)), .v (.int .u16 (i2 : Int)), .v (.int .u16 (i3 : Int)), .v (.int .u8 (m0 : Int)), .v (.int .u8 (m1 : Int)), .v (.int .u8 (m2 : Int)), .v (.int .u8 (m3 : Int))]), Z 0] (FA (mkF D i0 m0).a (mkF D i0 m0).b (mkF D i0 m0).c) := by
 obtain ⟨_, s2, s3, s4, _⟩ := ew D
 have hlp := uQ D
 obtain ⟨pa, pb, pc⟩ := Jp D i0
 obtain ⟨ta, tb, tc, td⟩ := qU k0
 have e1 := Int.emod_nonneg (i0 : Int) (show (((lst (szz D)).length : Nat) : Int) ≠ 0 by omega)
 have e2 := Int.emod_lt_of_pos (i0 : Int) (show (0 : Int) < (((lst (szz D)).length : Nat) : Int) by omega)
 have cu := oK m0 k0
 refine aL Tryz.func22 rfl rfl rfl rfl ?_
 refine ae hP<|an ai (aK rfl rfl)<|an ai (ay hT rfl rfl)<|ag<|ae hP<|ab (aI hT rfl rfl rfl rfl (cs := [_, _, _, _, _, _, _, _, _]) rfl rfl)<|ab (ah (DG _ _ _ _ _ _ _ _ _ hD g0 g1 g2 g3 k0 k1 k2 k3)) ?_
 refine ab (ah (DH _ (by omega) (by omega))) ?_
 refine ak rfl<|ag<|ae hP<|aj rfl<|aj rfl<|ab (b5 rfl rfl (by decide) (c := 0) (by decide)) ?_
 refine aD hT rfl<|ab (aR hT rfl rfl rfl rfl rfl (by first | decide | omega)) ?_
 refine aY hT rfl rfl rfl rfl ?_
 refine ab (a8 hT rfl rfl rfl rfl (iW0 _ (by omega))) ?_
 refine aj rfl<|ab (aU hT rfl rfl rfl (by rfl)) ?_
 refine ab (b5 rfl rfl (by omega) (c := (i0 : Int) % ((lst (szz D)).length : Nat)) (Int.tmod_eq_emod_of_nonneg (by omega))) ?_
 refine ab (gz hT rfl rfl rfl rfl rfl rfl (by omega)) ?_
 refine ab (bo hT rfl rfl rfl (cs := FC (pik D i0)) rfl rfl) ?_
 refine an ai (ay hT rfl rfl)<|aE hT rfl<|ag<|ao<|ae hP<|aj rfl<|ab (b5 rfl rfl (by decide) (c := 0) (by decide)) ?_
 refine aD hT rfl<|ab (aR hT rfl rfl rfl rfl rfl (by first | decide | omega)) ?_
 refine aY hT rfl rfl rfl rfl ?_
 refine ab (b5 rfl rfl (by decide) (c := (m0 : Int) % 4) (Int.tmod_eq_emod_of_nonneg (by omega))) ?_
 refine ab (bp rfl rfl)<|ag ?_
 refine aw rfl (fun hb1 => ?_) (fun hb1 => ?_)
 ·have hb1_ := bT hb1
  refine ae hP<|bD hT rfl rfl rfl rfl rfl rfl<|aE hT rfl<|ag<|am ?_
  refine bS rfl (.inr rfl) (aQ hT rfl rfl rfl rfl (cs := [_, _, _, _, _, _]) rfl rfl) ?_ bt
  exact aH (by rw [mkF, if_pos (by omega)])
 have hb1_ := bF hb1
 refine aq<|ae hP<|bD hT rfl rfl rfl rfl rfl rfl<|aj rfl<|ab (b5 rfl rfl (by decide) (c := 0) (by decide)) ?_
 refine aD hT rfl<|ab (aR hT rfl rfl rfl rfl rfl (by first | decide | omega)) ?_
 refine aY hT rfl rfl rfl rfl ?_
 refine ab (ah cu) ?_
 refine ab (ah (zS _ _ _ _ _ _ _ lz lz lz lz lz lz lz)) ?_
 refine aE hT rfl<|ag<|am ?_
 refine bS rfl (.inr rfl) (aQ hT rfl rfl rfl rfl (cs := [_, _, _, _, _, _]) rfl rfl) ?_ bt
 exact aH (by rw [mkF, if_neg (by omega)]; rfl)
end
section
open Go Go.AM
theorem HI (b : Bool) :
  aF Tryz.prog 188 [.p (.c (.v (.bool b)))] (Z (sgB b)) := by
 refine aL Tryz.func188 rfl rfl rfl rfl ?_
 refine ae hP<|ak rfl<|ag<|ao<|ae hP<|aj rfl<|ag ?_
 refine aw rfl (fun hb1 => ?_) (fun hb1 => ?_)
 ·refine ae hP<|ak rfl<|ag<|am<|E1 rfl rfl ?_
  exact aO (IH hb1)
 refine aq<|ae hP<|ak rfl<|ag<|am<|E1 rfl rfl ?_
 exact aO (II hb1)
theorem vu (l : List Int) (x : Int) (hl : (l.length : Int) ≤ 1000000) :
  aF Tryz.prog 222 [.p (.c (IS l)), Z x] (Z (ixV l x)) := by
 refine aL Tryz.func222 rfl rfl rfl rfl ?_
 refine ae hP<|ak rfl<|ag<|ao<|ae hP<|aj rfl<|ab (aU hT rfl rfl rfl (by rfl)) ?_
 refine aj rfl<|ag<|aA<|bq (ι := Nat) (fun k => stL [(0, .p (.c (IS l))), (1, Z x), (7, Z (l.length : Int)), (8, Z (k : Int))] []) (fun k => k ≤ l.length ∧ k ≤ l.findIdx (· == x)) (fun k => l.length - k) 0 ⟨Nat.zero_le _, Nat.zero_le _⟩ (aG ⟨.refl _, .refl _, .refl _, .refl _, trivial⟩ trivial) ?_
 rintro k ⟨hk1, hk2⟩
 refine ae hP<|ab (bi rfl rfl)<|ag<|ao ?_
 refine aw rfl (fun hb1 => ?_) (fun hb1 => ?_)
 ·have hb1_ := dT0 hb1
  refine aq<|ao<|aA<|ae hP<|aj rfl<|ak rfl<|ag<|ae hP<|aj rfl<|aj rfl<|aj rfl<|ab (lM hT (n := k) rfl rfl rfl rfl rfl rfl (by omega)) ?_
  refine ab (ce hT rfl rfl rfl rfl)<|ab (bp rfl rfl)<|ag ?_
  refine aw rfl (fun hb2 => ?_) (fun hb2 => ?_)
  ·have hb2_ := bT hb2
   refine ae hP<|aj rfl<|ak rfl<|ag<|am<|E1 rfl rfl ?_
   exact aO (Hx hk2 hb1_ hb2_).symm
  have hb2_ := bF hb2
  refine aq<|av hP<|bH rfl rfl ?_
  refine aj rfl<|ag ?_
  have hn2 := wx hk2 hb1_ hb2_
  refine ⟨k + 1, ⟨by omega, hn2⟩, by omega, aG ⟨.refl _, .refl _, .refl _, aO (by omega), trivial⟩ trivial⟩
 have hb1_ := dF0 hb1
 refine aZ<|ae hP<|ak rfl<|ag<|am<|E1 rfl rfl ?_
 exact aO (Hy hk2 hb1_).symm
theorem qu (l : List Int) (x : Int) (hl : (l.length : Int) ≤ 1000000) :
  aF Tryz.prog 189 [.p (.c (IS l)), Z x] (B (o4 l x)) := by
 refine aL Tryz.func189 rfl rfl rfl rfl ?_
 refine ae hP<|ak rfl<|ag<|ae hP<|aj rfl<|aj rfl<|ab (ah (vu l x hl)) ?_
 refine ab (dc rfl rfl)<|ak rfl<|ag<|am<|E1 rfl rfl ?_
 exact .refl _
theorem wu (m : Int) (l : List Int) (hm : 0 ≤ m) (hl : (l.length : Int) ≤ 1000000) :
  aF Tryz.prog 187 [Z m, .ip [IS l]] (Z (sgB (o4 l (m % 8)))) := by
 refine aL Tryz.func187 rfl rfl rfl rfl ?_
 refine ae hP<|ak rfl<|ag<|ae hP<|cC hT rfl rfl rfl ?_
 refine aj rfl<|ab (b5 rfl rfl (by decide) (c := m % 8) (Int.tmod_eq_emod_of_nonneg hm)) ?_
 refine ab (ah (qu l (m % 8) hl)) ?_
 refine ab (ah (HI _)) ?_
 refine ak rfl<|ag<|am<|E1 rfl rfl ?_
 exact .refl _
theorem HJ (m p : Int) (hm : bv m) (hp : bv p) :
  aF Tryz.prog 186 [Z m, .ip [IC p]] (Z (kr m p)) := by
 have im : LB m 6 := ⟨by unfold L; unfold bv at hm; omega⟩
 have ip : LB p 6 := ⟨by unfold L; unfold bv at hp; omega⟩
 refine aL Tryz.func186 rfl rfl rfl rfl ?_
 refine ae hP<|ak rfl<|ag<|ae hP<|aj rfl<|ab (ah (ei m hm)) ?_
 refine cC hT rfl rfl rfl ?_
 refine ab (ah (ei p hp)) ?_
 refine ab (ah (iL _ _ lz lz)) ?_
 refine ak rfl<|ag<|am<|E1 rfl rfl ?_
 exact .refl _
theorem lT (c : Int) (l : List Int) :
  aF Tryz.prog 144 [Z c, .p (.c (IS l))] (.p (.a [IC c, .fn 187 [.ip [IS l]]])) := by
 refine aL Tryz.func144 rfl rfl rfl rfl ?_
 refine ae hP<|an ai (aK rfl rfl)<|an ai (ay hT rfl rfl)<|ag<|cL (t := 3) rfl rfl ?_
 refine ae hP<|aj rfl<|ab (jG rfl)<|ab (aV hT rfl rfl rfl (es := [_, _]) rfl)<|aE hT rfl<|ag<|am<|E2 hT rfl rfl rfl rfl rfl rfl rfl ?_
 exact .refl _
theorem JH (p : Int) (h : 3 ≤ p) (ho : p % 2 = 1) :
  aF Tryz.prog 143 [Z p] (.p (.a (chC 186 187 p))) := by
 refine aL Tryz.func143 rfl rfl rfl rfl ?_
 refine ae hP<|an ai (aK rfl rfl)<|an ai (ay hT rfl rfl)<|ag<|cL (t := 1) rfl rfl ?_
 refine ae hP<|cC hT rfl rfl rfl ?_
 refine ab (jG rfl)<|ab (aV hT rfl rfl rfl (es := [_, _]) rfl)<|aE hT rfl<|ag<|am<|E2 hT rfl rfl rfl rfl rfl rfl rfl ?_
 exact aH (by rw [← D3 h ho]; rfl)
end
section
open Go Go.AM
theorem om (d : Int) (h0 : d < 0) (h1 : -4194304 ≤ d) :
  aF Tryz.prog 78 [Z d] (.p (.c (CS 186 187 (chs d)))) := by
 refine aL Tryz.func78 rfl rfl rfl rfl ?_
 refine ae hP<|ak rfl<|ag<|ae hP<|ak rfl<|ag<|nC 3 1000 2 142 rfl rfl ?_
 refine ae hP<|aj rfl<|ab (gx rfl (c := -d) (by rw [iW0 _ (by omega)]; omega)) ?_
 refine ak rfl<|ag<|ao<|aA<|bq (ι := Int) (fun m => stL [(0, Z d), (3, .vec 1000), (4, Z m)] [(1000, CB 186 187 142 [])]) (fun m => (0 < m ∧ m ≤ 4194304) ∧ rmp m 2 = (rmp (-d) 2)) (fun m => m.toNat) (-d) ⟨by omega, rfl⟩ (aG ⟨.refl _, .refl _, .refl _, trivial⟩ ⟨rfl, trivial⟩) ?_
 rintro m ⟨hm, hr⟩
 refine ao<|ae hP<|aj rfl<|ab (b5 rfl rfl (by omega) (c := m % 2) (Int.tmod_eq_emod_of_nonneg (by omega))) ?_
 refine ab (bp rfl rfl)<|ag ?_
 refine aw rfl (fun hb1 => ?_) (fun hb1 => ?_)
 ·have hb1_ := bT hb1
  refine aq<|aA<|av hP<|aj rfl<|ab (dl rfl rfl (by omega) (c := m / 2) (by rw [Int.tdiv_eq_ediv_of_nonneg (by omega), iW0 _ (by omega)])) ?_
  refine ak rfl<|ag ?_
  have hdd := iH hm.1 (by decide) hb1_
  refine ⟨m / 2, ⟨by omega, by rw [jq (by decide) hm.1 hb1_, hr]⟩, by omega, aG ⟨.refl _, .refl _, .refl _, trivial⟩ ⟨rfl, trivial⟩⟩
 have hb1_ := bF hb1
 refine aZ<|ao<|ae hP<|ak rfl<|ag<|aA ?_
 have hm2 : m = (rmp (-d) 2) := by rw [← hr, kt hb1_]
 refine bq (ι := Int × Int × List Int) (fun q => stL [(0, Z d), (3, .vec 1000), (4, Z q.1), (5, Z q.2.1)] [(1000, CB 186 187 142 q.2.2)]) (fun q => OcI (rmp (-d) 2) q.1 q.2.1 q.2.2) (fun q => ocM q.1 q.2.1) (m, 3, []) (by have := OcI.start (n := m) (by omega) (by omega) (by omega); rw [hm2] at this ⊢; exact this) (aG ⟨.refl _, .refl _, .refl _, .refl _, trivial⟩ ⟨rfl, trivial⟩) ?_
 intro q i
 have in1 := i.n1
 have inb := i.nb
 have ip3 := i.p3
 have il := i.len.1
 refine ao<|ae hP<|aj rfl<|ab (bV rfl rfl)<|ag ?_
 refine aw rfl (fun hb2 => ?_) (fun hb2 => ?_)
 ·have hb2_ := dT0 hb2
  have ipb := i.pb hb2_
  have hsq := nc (x := q.2.1) (m := 2051) (by omega)
  refine aq<|ao<|aA<|cz (ι := Int) (fun r => stL [(0, Z d), (3, .vec 1000), (4, Z q.1), (5, Z r)] [(1000, CB 186 187 142 q.2.2)]) (fun r => QI q.1 q.2.1 r) ?_ ?_
  ·refine ae hP<|aj rfl<|aj rfl<|ab (bU rfl rfl (by first | exact iW0 _ (by omega) | rfl)) ?_
   refine aj rfl<|ab (bV rfl rfl)<|ag ?_
   refine aw rfl (fun hb3 => ?_) (fun hb3 => ?_)
   ·have hb3_ := dT0 hb3
    refine av hP<|aj rfl<|ak rfl<|ag ?_
    refine ⟨q.1, .inl ⟨rfl, hb3_⟩, aG ⟨.refl _, .refl _, .refl _, .refl _, trivial⟩ ⟨rfl, trivial⟩⟩
   have hb3_ := dF0 hb3
   refine aq ?_
   refine ⟨q.2.1, .inr ⟨rfl, hb3_⟩, aG ⟨.refl _, .refl _, .refl _, .refl _, trivial⟩ ⟨rfl, trivial⟩⟩
  intro r hQ
  obtain ⟨hq3, hqo, hqb⟩ := i.q3 hb2_ hQ
  refine ao<|ae hP<|aj rfl<|aj rfl<|ab (b5 rfl rfl (by omega) (c := q.1 % r) (Int.tmod_eq_emod_of_nonneg (by omega))) ?_
  refine ab (bp rfl rfl)<|ag ?_
  refine aw rfl (fun hb4 => ?_) (fun hb4 => ?_)
  ·have hb4_ := bT hb4
   obtain ⟨out', ho', hR⟩ : ∃ o, o = q.2.2 ++ [r] ∧ RI q.1 q.2.1 r q.2.2 o := ⟨_, rfl, hQ.yes hb4_⟩
   refine av hP<|ab (az (rfl : _ = AV.vec _))<|aj rfl<|ab (ah (JH r hq3 hqo)) ?_
   refine ab (bj hT rfl rfl rfl (es := [_, _]) rfl rfl rfl)<|RK.app ai (eW (fo := 186) (fs := 187) (c := [r]) hT rfl rfl rfl rfl rfl rfl rfl rfl rfl (by simp only [List.length_cons, List.length_nil]; omega) (by decide)) ?_
   refine ab (bl (rfl : _ = AV.vec _))<|ag<|dx 34 1000 rfl rfl rfl ?_
   refine aA<|bq (ι := Int) (fun m => stL [(0, Z d), (3, .vec 1000), (4, Z m), (5, Z r)] [(1000, CB 186 187 142 out')]) (fun m => (0 < m ∧ m ≤ 4194304) ∧ rmp m r = rmp q.1 r) (fun m => m.toNat) q.1 ⟨by omega, rfl⟩ (aG ⟨.refl _, .refl _, .refl _, .refl _, trivial⟩ ⟨Eq.trans rfl (congrArg (fun x => some (CB 186 187 142 x)) ho'.symm), trivial⟩) ?_
   rintro m ⟨hm, hrm⟩
   refine ao<|ae hP<|aj rfl<|aj rfl<|ab (b5 rfl rfl (by omega) (c := m % r) (Int.tmod_eq_emod_of_nonneg (by omega))) ?_
   refine ab (bp rfl rfl)<|ag ?_
   refine aw rfl (fun hb5 => ?_) (fun hb5 => ?_)
   ·have hb5_ := bT hb5
    have hdd := iH hm.1 (by omega) ‹m % r = 0›
    refine aq<|aA<|av hP<|aj rfl<|aj rfl<|ab (dl rfl rfl (by omega) (c := m / r) (by rw [Int.tdiv_eq_ediv_of_nonneg (by omega), iW0 _ (by omega)])) ?_
    refine ak rfl<|ag ?_
    refine ⟨m / r, ⟨by omega, by rw [jq (by omega) hm.1 ‹m % r = 0›, hrm]⟩, by omega, aG ⟨.refl _, .refl _, .refl _, .refl _, trivial⟩ ⟨rfl, trivial⟩⟩
   have hb5_ := bF hb5
   refine aZ<|av hP<|aj rfl<|bH rfl rfl ?_
   refine ak rfl<|ag ?_
   have hcl := i.close hb2_ hR
   have em : m = rmp q.1 r := by rw [← hrm, kt ‹m % r ≠ 0›]
   refine ⟨(rmp q.1 r, r + 2, out'), hcl.1, hcl.2, aG ⟨.refl _, .refl _, aO em, .refl _, trivial⟩ ⟨rfl, trivial⟩⟩
  have hb4_ := bF hb4
  obtain ⟨out', ho', hR⟩ : ∃ o, o = q.2.2 ∧ RI q.1 q.2.1 r q.2.2 o := ⟨_, rfl, hQ.no hb2_ hb4_⟩
  refine aq<|aA<|bq (ι := Int) (fun m => stL [(0, Z d), (3, .vec 1000), (4, Z m), (5, Z r)] [(1000, CB 186 187 142 out')]) (fun m => (0 < m ∧ m ≤ 4194304) ∧ rmp m r = rmp q.1 r) (fun m => m.toNat) q.1 ⟨by omega, rfl⟩ (aG ⟨.refl _, .refl _, .refl _, .refl _, trivial⟩ ⟨Eq.trans rfl (congrArg (fun x => some (CB 186 187 142 x)) ho'.symm), trivial⟩) ?_
  rintro m ⟨hm, hrm⟩
  refine ao<|ae hP<|aj rfl<|aj rfl<|ab (b5 rfl rfl (by omega) (c := m % r) (Int.tmod_eq_emod_of_nonneg (by omega))) ?_
  refine ab (bp rfl rfl)<|ag ?_
  refine aw rfl (fun hb6 => ?_) (fun hb6 => ?_)
  ·have hb6_ := bT hb6
   have hdd := iH hm.1 (by omega) ‹m % r = 0›
   refine aq<|aA<|av hP<|aj rfl<|aj rfl<|ab (dl rfl rfl (by omega) (c := m / r) (by rw [Int.tdiv_eq_ediv_of_nonneg (by omega), iW0 _ (by omega)])) ?_
   refine ak rfl<|ag ?_
   refine ⟨m / r, ⟨by omega, by rw [jq (by omega) hm.1 ‹m % r = 0›, hrm]⟩, by omega, aG ⟨.refl _, .refl _, .refl _, .refl _, trivial⟩ ⟨rfl, trivial⟩⟩
  have hb6_ := bF hb6
  refine aZ<|av hP<|aj rfl<|bH rfl rfl ?_
  refine ak rfl<|ag ?_
  have hcl := i.close hb2_ hR
  have em : m = rmp q.1 r := by rw [← hrm, kt ‹m % r ≠ 0›]
  refine ⟨(rmp q.1 r, r + 2, out'), hcl.1, hcl.2, aG ⟨.refl _, .refl _, aO em, .refl _, trivial⟩ ⟨rfl, trivial⟩⟩
 have hb2_ := dF0 hb2
 refine aZ<|ao<|ae hP<|aj rfl<|ab (b5 rfl rfl (by decide) (c := d.tmod 4) rfl) ?_
 refine ab (bw rfl rfl)<|ag ?_
 refine aw rfl (fun hb7 => ?_) (fun hb7 => ?_)
 ·have hb7_ := cw hb7
  refine ae hP<|ab (az (rfl : _ = AV.vec _))<|ab (bl (rfl : _ = AV.vec _))<|ag<|dX (t := 2) rfl rfl ?_
  refine am<|E1 rfl rfl ?_
  exact aH (by rw [i.fin hb2_, JS hb7_])
 have hb7_ := b9 hb7
 refine aq<|ae hP<|ab (bj hT rfl rfl rfl (es := [_, _]) rfl rfl rfl)<|ab (ah (lT (-4) [1, 5])) ?_
 refine ab (bj hT rfl rfl rfl (es := [_, _]) rfl rfl rfl)<|ab (ah (lT 8 [1, 7])) ?_
 refine ab (bj hT rfl rfl rfl (es := [_, _]) rfl rfl rfl)<|ab (ah (lT (-8) [1, 3])) ?_
 refine an ai (ay hT rfl rfl)<|an ai (ay hT rfl rfl)<|an ai (ay hT rfl rfl)<|aE hT rfl<|aE hT rfl<|aE hT rfl<|ag<|ao<|ae hP<|aj rfl<|ab (gx rfl (c := -d) (by rw [iW0 _ (by omega)]; omega)) ?_
 refine ab (dl rfl rfl (by omega) (c := -d / 4) (by rw [Int.tdiv_eq_ediv_of_nonneg (by omega), iW0 _ (by omega)])) ?_
 refine ab (b5 rfl rfl (by omega) (c := -d / 4 % 8) (Int.tmod_eq_emod_of_nonneg (by omega))) ?_
 refine ag<|aA<|ae hP<|ab (bp rfl rfl)<|ak rfl<|ag ?_
 refine aw rfl (fun hb8 => ?_) (fun hb8 => ?_)
 ·have hb8_ := bT hb8
  refine av hP<|ab (az (rfl : _ = AV.vec _))<|au hT rfl<|au hT rfl<|ab (bj hT rfl rfl rfl (es := [_, _, _, _]) rfl rfl rfl)<|RK.app ai (eW (fo := 186) (fs := 187) (c := [-4, 8]) hT rfl rfl rfl rfl rfl rfl rfl rfl rfl (by simp only [List.length_cons, List.length_nil]; omega) (by decide)) ?_
  refine ab (bl (rfl : _ = AV.vec _))<|ag<|dx 62 1000 rfl rfl rfl ?_
  refine ae hP<|ab (az (rfl : _ = AV.vec _))<|ab (bl (rfl : _ = AV.vec _))<|ag<|dX (t := 2) rfl rfl ?_
  refine am<|E1 rfl rfl ?_
  exact aH (by rw [i.fin hb2_, mE hb7_ (IF hb7_ hb8_)])
 have hb8_ := bF hb8
 refine ao<|ae hP<|ab (bp rfl rfl)<|ak rfl<|ag ?_
 refine aw rfl (fun hb9 => ?_) (fun hb9 => ?_)
 ·have hb9_ := bT hb9
  refine aq<|aX rfl hb9<|av hP<|ab (az (rfl : _ = AV.vec _))<|au hT rfl<|ab (bj hT rfl rfl rfl (es := [_, _]) rfl rfl rfl)<|RK.app ai (eW (fo := 186) (fs := 187) (c := [-4]) hT rfl rfl rfl rfl rfl rfl rfl rfl rfl (by simp only [List.length_cons, List.length_nil]; omega) (by decide)) ?_
  refine ab (bl (rfl : _ = AV.vec _))<|ag<|dx 70 1000 rfl rfl rfl ?_
  refine ae hP<|ab (az (rfl : _ = AV.vec _))<|ab (bl (rfl : _ = AV.vec _))<|ag<|dX (t := 2) rfl rfl ?_
  refine am<|E1 rfl rfl ?_
  exact aH (by rw [i.fin hb2_, mE hb7_ (vr hb7_ hb8_ (.inl hb9_))])
 have hb9_ := bF hb9
 refine ae hP<|ab (bp rfl rfl)<|ak rfl<|ag ?_
 refine aw rfl (fun hb10 => ?_) (fun hb10 => ?_)
 ·have hb10_ := bT hb10
  refine aq<|aX rfl hb10<|av hP<|ab (az (rfl : _ = AV.vec _))<|au hT rfl<|ab (bj hT rfl rfl rfl (es := [_, _]) rfl rfl rfl)<|RK.app ai (eW (fo := 186) (fs := 187) (c := [-4]) hT rfl rfl rfl rfl rfl rfl rfl rfl rfl (by simp only [List.length_cons, List.length_nil]; omega) (by decide)) ?_
  refine ab (bl (rfl : _ = AV.vec _))<|ag<|dx 70 1000 rfl rfl rfl ?_
  refine ae hP<|ab (az (rfl : _ = AV.vec _))<|ab (bl (rfl : _ = AV.vec _))<|ag<|dX (t := 2) rfl rfl ?_
  refine am<|E1 rfl rfl ?_
  exact aH (by rw [i.fin hb2_, mE hb7_ (vr hb7_ hb8_ (.inr (.inl hb10_)))])
 have hb10_ := bF hb10
 refine av hP<|ab (bp rfl rfl)<|ak rfl<|ag ?_
 refine aw rfl (fun hb11 => ?_) (fun hb11 => ?_)
 ·have hb11_ := bT hb11
  refine av hP<|ab (az (rfl : _ = AV.vec _))<|au hT rfl<|ab (bj hT rfl rfl rfl (es := [_, _]) rfl rfl rfl)<|RK.app ai (eW (fo := 186) (fs := 187) (c := [-4]) hT rfl rfl rfl rfl rfl rfl rfl rfl rfl (by simp only [List.length_cons, List.length_nil]; omega) (by decide)) ?_
  refine ab (bl (rfl : _ = AV.vec _))<|ag<|dx 70 1000 rfl rfl rfl ?_
  refine ae hP<|ab (az (rfl : _ = AV.vec _))<|ab (bl (rfl : _ = AV.vec _))<|ag<|dX (t := 2) rfl rfl ?_
  refine am<|E1 rfl rfl ?_
  exact aH (by rw [i.fin hb2_, mE hb7_ (vr hb7_ hb8_ (.inr (.inr hb11_)))])
 have hb11_ := bF hb11
 refine ae hP<|ab (bp rfl rfl)<|ak rfl<|ag ?_
 refine aw rfl (fun hb12 => ?_) (fun hb12 => ?_)
 ·have hb12_ := bT hb12
  refine av hP<|ab (az (rfl : _ = AV.vec _))<|au hT rfl<|ab (bj hT rfl rfl rfl (es := [_, _]) rfl rfl rfl)<|RK.app ai (eW (fo := 186) (fs := 187) (c := [-8]) hT rfl rfl rfl rfl rfl rfl rfl rfl rfl (by simp only [List.length_cons, List.length_nil]; omega) (by decide)) ?_
  refine ab (bl (rfl : _ = AV.vec _))<|ag<|dx 76 1000 rfl rfl rfl ?_
  refine ae hP<|ab (az (rfl : _ = AV.vec _))<|ab (bl (rfl : _ = AV.vec _))<|ag<|dX (t := 2) rfl rfl ?_
  refine am<|E1 rfl rfl ?_
  exact aH (by rw [i.fin hb2_, mE hb7_ (IE hb7_ hb12_)])
 have hb12_ := bF hb12
 refine ae hP<|ab (bp rfl rfl)<|ak rfl<|ag ?_
 refine aw rfl (fun hb13 => ?_) (fun hb13 => ?_)
 ·have hb13_ := bT hb13
  refine av hP<|ab (az (rfl : _ = AV.vec _))<|au hT rfl<|ab (bj hT rfl rfl rfl (es := [_, _]) rfl rfl rfl)<|RK.app ai (eW (fo := 186) (fs := 187) (c := [8]) hT rfl rfl rfl rfl rfl rfl rfl rfl rfl (by simp only [List.length_cons, List.length_nil]; omega) (by decide)) ?_
  refine ab (bl (rfl : _ = AV.vec _))<|ag<|dx 82 1000 rfl rfl rfl ?_
  refine ae hP<|ab (az (rfl : _ = AV.vec _))<|ab (bl (rfl : _ = AV.vec _))<|ag<|dX (t := 2) rfl rfl ?_
  refine am<|E1 rfl rfl ?_
  exact aH (by rw [i.fin hb2_, mE hb7_ (ID hb7_ hb13_)])
 have hb13_ := bF hb13
 refine aq<|ae hP<|ab (az (rfl : _ = AV.vec _))<|ab (bl (rfl : _ = AV.vec _))<|ag<|dX (t := 2) rfl rfl ?_
 refine am<|E1 rfl rfl ?_
 exact aH (by rw [i.fin hb2_, IA hb7_ hb8_ hb9_ hb10_ hb11_ hb12_ hb13_])
end
section
open Go Go.AM
theorem Ar (x : Int) (hx : 18446744073709551616 ≤ x.natAbs) :
  aF Tryz.prog 125 [I x] (.t [.c (.v (.int .i64 (lwV x))), PB (lwO x)]) := by
 have hl : ¬ (wl x.natAbs).length ≤ 2 := fun h => by have := kw h; omega
 refine aL Tryz.func125 rfl rfl rfl rfl ?_
 refine ae hP<|an ai (aK rfl rfl)<|ak rfl<|ak rfl<|ag<|ao<|ae hP<|aD hT rfl<|aY hT rfl rfl rfl rfl ?_
 refine ab (aU hT rfl rfl rfl rfl)<|ab (bV rfl rfl)<|ag<|aX rfl (decide_eq_true (by omega)) ?_
 refine ae hP<|ak rfl<|ak rfl<|ag<|am<|E11 rfl rfl rfl ?_
 exact aH (Ju (by omega))
theorem Au (x : Int) : aF Tryz.prog 125 [I x] (.t [.c (.v (.int .i64 (lwV x))), PB (lwO x)]) := by
 by_cases h : x.natAbs < 9223372036854775808
 ·have h1 := ju x (by omega) (by omega)
  have h2 := uP (a := x) (by omega)
  rw [h2.1, h2.2]; exact h1
 by_cases h1 : x.natAbs < 18446744073709551616
 ·exact Aq x (by omega)
 exact Ar x (by omega)
theorem uX (d : Int) (hd : L 40 d) :
  aF Tryz.prog 142 [I d] (.t [PE (gnV d), PE (szE d)]) := by
 have id0 : LB d 40 := ⟨hd⟩
 have hm0 := Int.emod_nonneg d (show (4 : Int) ≠ 0 by omega)
 have hm1 := Int.emod_lt_of_pos d (show (0 : Int) < 4 by omega)
 refine aL Tryz.func142 rfl rfl rfl rfl ?_
 refine ae hP<|an ai (aK rfl rfl)<|ak rfl<|ak rfl<|ag<|ae hP<|au hT rfl<|ab (ah (ei 4 (by decide))) ?_
 refine ab (ah (dJ d 4 lz lz (by decide))) ?_
 refine ab (az (rfl : _ = AV.t _))<|ab (aC rfl (v := .a _) rfl)<|ab (aC rfl (v := .a _) rfl)<|ab (aC rfl (v := .c _) rfl)<|an ai (ay hT rfl rfl)<|an ai (ay hT rfl rfl)<|aE hT rfl<|aE hT rfl<|ak rfl<|ag<|ae hP<|au hT rfl<|ab (ah (Au d)) ?_
 refine ab (az (rfl : _ = AV.t _))<|ab (aC rfl (v := .c _) rfl)<|ab (aC rfl (v := .c _) rfl)<|ak rfl<|ak rfl<|ag<|ao<|aA<|ae hP<|au hT rfl<|ab (ah (db _)) ?_
 refine ab (dc rfl rfl)<|aj rfl ?_
 refine bd (t := 25) rfl (fun hg1 => ?_) (fun hg1 => ?_)
 ·have hg1_ := dT0 hg1
  iterate 4 refine a7 hg1 ?_
  refine ab (aN rfl hg1 (rfl : _ = AV.p (.c _)))<|ak rfl<|ag<|aX rfl rfl<|ae hP<|ak rfl<|ak rfl<|ag<|am<|E11 rfl rfl rfl ?_
  exact aH (HE (.inl (sgn_ge_iff.1 hg1_)))
 have hg1_ := dF0 hg1
 refine aB hg1 (aI hT rfl rfl rfl rfl (cs := [_, _]) rfl rfl) ?_
 refine aB hg1 (ah (ei 1 (by decide))) ?_
 refine aB hg1 (ah (dy _ _)) ?_
 refine aB hg1 (bV rfl rfl) ?_
 refine ab (aP rfl hg1 (rfl : _ = AV.p (.c _)))<|ak rfl<|ag ?_
 refine aw rfl (fun hb2 => ?_) (fun hb2 => ?_)
 ·have hb2_ := dT0 hb2
  refine ae hP<|ak rfl<|ak rfl<|ag<|am<|E11 rfl rfl rfl ?_
  exact aH (HE (.inr (cmpI_gt_zero.1 hb2_)))
 have hb2_ := dF0 hb2
 have hn : ¬ (0 ≤ d ∨ d % 4 > 1) := fun h => h.elim (fun x => hg1_ (sgn_ge_iff.2 x)) (fun x => hb2_ (cmpI_gt_zero.2 x))
 refine ae hP<|aj rfl<|ab (bA rfl)<|aj rfl ?_
 refine bd (t := 34) rfl (fun hg3 => ?_) (fun hg3 => ?_)
 ·have hg3_ := (cy hg3)
  refine a7 hg3 ?_
  refine a7 hg3 ?_
  refine ab (aN rfl hg3 (rfl : _ = AV.p (.c _)))<|ak rfl<|ag<|aX rfl rfl<|ae hP<|ak rfl<|ak rfl<|ag<|am<|E11 rfl rfl rfl ?_
  exact aH (HF hn (by have := Jw hg3_; omega))
 have hg3_ := (cn hg3)
 have hly := uP (lwO_iff.1 hg3_)
 refine aB hg3 (az (rfl : _ = AV.p (.c _))) ?_
 refine aB hg3 (bi rfl rfl) ?_
 refine ab (aP rfl hg3 (rfl : _ = AV.p (.c _)))<|ak rfl<|ag ?_
 refine aw rfl (fun hb4 => ?_) (fun hb4 => ?_)
 ·have hb4_ := dT0 hb4
  refine ae hP<|ak rfl<|ak rfl<|ag<|am<|E11 rfl rfl rfl ?_
  exact aH (HF hn (by have := hly.2; omega))
 have hb4_ := dF0 hb4
 refine aq<|ae hP<|aj rfl<|ak rfl<|ak rfl<|ag<|am<|E11 rfl rfl rfl ?_
 exact aH (by rw [hly.2]; exact KG hn (by have := hly.2; omega))
theorem sN (d : Int) (hd : L 40 d) :
  aF Tryz.prog 139 [I d] (.t [.c (IS (chE d)), PE (szE d)]) := by
 have id0 : LB d 40 := ⟨hd⟩
 refine aL Tryz.func139 rfl rfl rfl rfl ?_
 refine ae hP<|an ai (aK rfl rfl)<|ak rfl<|ak rfl<|ag<|ae hP<|au hT rfl<|ab (ah (uX _ hd)) ?_
 refine ab (az (rfl : _ = AV.t _))<|ab (aC rfl (v := .c _) rfl)<|ab (aC rfl (v := .c _) rfl)<|ak rfl<|ak rfl<|ag<|ao<|ae hP<|aj rfl<|ab (bw rfl rfl)<|ag ?_
 refine aw rfl (fun hb1 => ?_) (fun hb1 => ?_)
 ·have hb1_ := cw hb1
  refine ae hP<|aj rfl<|ak rfl<|ak rfl<|ag<|am<|E11 rfl rfl rfl ?_
  exact (by rw [JV hb1_]; exact Sub.tup ⟨DSub.nil_sl, DSub.refl _, trivial⟩)
 have hb1_ := b9 hb1
 have he : szE d = 0 := hb1_
 obtain ⟨e1, e2, e3⟩ := wq he
 have cAs : aF Tryz.prog 78 [Z (gnV d)] (.p (.c (CS 186 187 (chs d)))) := by rw [e1]; exact om d e2 e3
 have hcl := pq e2 e3
 generalize hl : chs d = l at cAs hcl
 refine aq<|ae hP<|ak rfl<|ag<|nC 6 1000 1 3 rfl rfl ?_
 refine ao<|ae hP<|aj rfl<|ab (ah cAs) ?_
 refine ab (aU hT rfl rfl rfl (by rfl)) ?_
 refine aj rfl<|ag<|aA<|bq (ι := Nat) (fun k => stL [(6, .vec 1000), (18, .p (.c (CS 186 187 l))), (19, Z (l.length : Int)), (20, Z (k : Int))] [(1000, IB 3 (l.take k))]) (fun k => k ≤ l.length) (fun k => l.length - k) 0 (Nat.zero_le _) (aG ⟨.refl _, .refl _, .refl _, .refl _, trivial⟩ ⟨rfl, trivial⟩) ?_
 intro k hk
 refine ae hP<|ab (bi rfl rfl)<|ag<|ao ?_
 refine aw rfl (fun hb2 => ?_) (fun hb2 => ?_)
 ·have hb2_ := dT0 hb2
  refine aq<|ao<|aA<|ae hP<|ab (pS (fo := 186) (fs := 187) (n := (k : Int)) hT rfl rfl rfl rfl rfl rfl (by omega)) ?_
  refine ab (bo hT rfl rfl rfl (cs := chC 186 187 (l.getD k 0)) rfl rfl) ?_
  refine an ai (ay hT rfl rfl)<|aE hT rfl<|ag<|av hP<|ab (az (rfl : _ = AV.vec _))<|aD hT rfl<|aY hT rfl rfl rfl rfl ?_
  refine ab (bj hT rfl rfl rfl (es := [_]) rfl rfl rfl)<|RK.app ai (oc (z := l.getD k 0) hT rfl rfl rfl rfl rfl rfl rfl rfl (by rw [List.length_take]; omega) (by decide)) ?_
  refine ab (bl (rfl : _ = AV.vec _))<|ag<|dx 28 1000 rfl rfl rfl ?_
  refine av hP<|bH rfl rfl ?_
  refine aj rfl<|ag ?_
  refine ⟨k + 1, by omega, by omega, aG ⟨.refl _, .refl _, .refl _, aO (by omega), trivial⟩ ⟨Eq.trans rfl (congrArg (fun x => some (IB 3 x)) (pB hb2_)), trivial⟩⟩
 have hb2_ := dF0 hb2
 refine aZ<|mX (t := 6) rfl rfl ?_
 refine ae hP<|aj rfl<|ak rfl<|ak rfl<|ag<|am<|E11 rfl rfl rfl ?_
 exact aH (by rw [qW hb2_, he, Ce he, hl])
end
section
open Go Go.AM
theorem qG (a b : Int) (ha : bv a) (hb : bv b) :
  aF Tryz.prog 76 [Z a, Z b] (Z (gg a b)) := by
 refine aL Tryz.func76 rfl rfl rfl rfl ?_
 refine ae hP<|ak rfl<|ag<|ao<|aA<|bq (ι := Int × Int) (fun p => stL [(0, Z p.1), (1, Z p.2)] []) (fun p => gg p.1 p.2 = gg a b ∧ bv p.1 ∧ bv p.2) (fun p => p.2.natAbs) (a, b) ⟨rfl, ha, hb⟩ (aG ⟨.refl _, .refl _, trivial⟩ trivial) ?_
 rintro p ⟨hG, hp1, hp2⟩
 refine ao<|ae hP<|aj rfl<|ab (bw rfl rfl)<|ag ?_
 refine aw rfl (fun hb1 => ?_) (fun hb1 => ?_)
 ·have hb1_ := cw hb1
  refine aq<|aA<|av hP<|aj rfl<|aj rfl<|aj rfl<|ab (b5 rfl rfl hb1_ (c := p.1.tmod p.2) rfl) ?_
  refine ak rfl<|ak rfl<|ag ?_
  have ht := Gf hp1 hp2 hb1_
  refine ⟨(p.2, p.1.tmod p.2), ⟨(ED hb1_).trans hG, hp2, ht.1⟩, ht.2, aG ⟨.refl _, .refl _, trivial⟩ trivial⟩
 have hb1_ := b9 hb1
 refine aZ<|ae hP<|aj rfl<|ak rfl<|ag<|am<|E1 rfl rfl ?_
 exact aO (by rw [← hG, KH hb1_])
theorem B7 (x : Int) (h : -9223372036854775808 < x ∧ x ≤ 9223372036854775807) :
  aF Tryz.prog 77 [Z x] (Z (x.natAbs : Int)) := by
 refine aL Tryz.func77 rfl rfl rfl rfl ?_
 refine ae hP<|ak rfl<|ag<|ae hP<|aj rfl<|aj rfl<|ab (gx rfl (by first | exact iW0 _ (by omega) | rfl)) ?_
 refine ab (oa rfl rfl)<|ak rfl<|ag<|am<|E1 rfl rfl ?_
 exact aO (by split <;> omega)
theorem tP (f : Fm) (hfa : L 6 f.a) (hfb : L 6 f.b) (hfc : L 6 f.c) :
  aF Tryz.prog 74 [FA f.a f.b f.c] (.t [PE (gpV f), PE (gpE f)]) := by
 have ifa : LB f.a 6 := ⟨hfa⟩
 have ifb : LB f.b 6 := ⟨hfb⟩
 have ifc : LB f.c 6 := ⟨hfc⟩
 refine aL Tryz.func74 rfl rfl rfl rfl ?_
 refine ae hP<|an ai (aK rfl rfl)<|ak rfl<|ak rfl<|ag<|ao<|ae hP<|bD hT rfl rfl rfl rfl rfl rfl<|ab (ah (mn f.a f.b f.c lz lz lz)) ?_
 refine ak rfl<|ag<|ae hP<|aj rfl<|ab (bw rfl rfl)<|ag ?_
 refine aw rfl (fun hb1 => ?_) (fun hb1 => ?_)
 ·have hb1_ := cw hb1
  refine ae hP<|aj rfl<|ak rfl<|ak rfl<|ag<|am<|E11 rfl rfl rfl ?_
  exact aH (KF hb1_)
 have hb1_ := b9 hb1
 refine aq<|ae hP<|bD hT rfl rfl rfl rfl rfl rfl<|ab (ah (fE f.a f.b f.c lz lz lz)) ?_
 refine ab (ah (uX _ lz)) ?_
 refine ab (az (rfl : _ = AV.t _))<|ab (aC rfl (v := .c _) rfl)<|ab (aC rfl (v := .c _) rfl)<|ak rfl<|ak rfl<|ag<|ao<|ae hP<|aj rfl<|ab (bp rfl rfl)<|aj rfl ?_
 refine bd (t := 20) rfl (fun hg2 => ?_) (fun hg2 => ?_)
 ·have hg2_ := bT hg2
  refine aB hg2 (aI hT rfl rfl rfl rfl (cs := [_, _, _, _, _, _]) rfl rfl) ?_
  refine aB hg2 (ah (j7 f.a f.b f.c lz lz lz)) ?_
  refine aB hg2 (bA rfl) ?_
  refine ab (aN rfl hg2 (rfl : _ = AV.p (.c _)))<|ag ?_
  refine aw rfl (fun hb3 => ?_) (fun hb3 => ?_)
  ·have hb3_ := (cy hb3)
   refine ae hP<|ak rfl<|ak rfl<|ag<|am<|E11 rfl rfl rfl ?_
   exact aH (KE hb1_ hg2_ hb3_)
  have hb3_ := (cn hb3)
  refine aq<|ae hP<|aj rfl<|aj rfl<|ak rfl<|ak rfl<|ag<|am<|E11 rfl rfl rfl ?_
  exact aH (KD hb1_ hg2_ hb3_)
 have hg2_ := bF hg2
 iterate 3 refine a7 hg2 ?_
 refine ab (aP rfl hg2 (rfl : _ = AV.p (.c _)))<|ag<|aT rfl rfl<|aq<|ae hP<|aj rfl<|aj rfl<|ak rfl<|ak rfl<|ag<|am<|E11 rfl rfl rfl ?_
 exact aH (KC hb1_ hg2_)
theorem EE (f : Fm) (d : Int) (hf : Cl d f) (hd : -4194304 ≤ d) (hfa : L 6 f.a) (hfb : L 6 f.b) (hfc : L 6 f.c) :
  aF Tryz.prog 75 [FA f.a f.b f.c] (.t [PE f.rd.a, PE f.rd.b, PE f.rd.c]) := by
 have ifa : LB f.a 6 := ⟨hfa⟩
 have ifb : LB f.b 6 := ⟨hfb⟩
 have ifc : LB f.c 6 := ⟨hfc⟩
 have cR : aF Tryz.prog 41 [FA f.a f.b f.c] (.t [PF f.rd, PM (rdM f.a f.b f.c), PE (rdE f.a f.b f.c)]) := gZ f.a f.b f.c lz lz lz
 rw [jr hf.pos] at cR
 obtain ⟨⟨s1, s2⟩, ⟨s3, s4⟩, s5, s6⟩ := rq hf.rd hf.rd_rd hd
 generalize rdM f.a f.b f.c = M at cR
 generalize f.rd = g at *
 have l1 := ju g.a (by omega) (by omega)
 have l2 := ju g.b (by omega) (by omega)
 have l3 := ju g.c (by omega) (by omega)
 refine aL Tryz.func75 rfl rfl rfl rfl ?_
 refine ae hP<|an ai (aK rfl rfl)<|ak rfl<|ak rfl<|ak rfl<|ag<|ae hP<|bD hT rfl rfl rfl rfl rfl rfl<|ab (ah cR) ?_
 refine ab (az (rfl : _ = AV.t _))<|ab (aC rfl (v := .a _) rfl)<|ab (aC rfl (v := .a _) rfl)<|ab (aC rfl (v := .c _) rfl)<|an ai (ay hT rfl rfl)<|an ai (ay hT rfl rfl)<|aE hT rfl<|aE hT rfl<|ak rfl<|ag<|ae hP<|aD hT rfl<|au hT rfl<|ab (ah l1) ?_
 refine ab (az (rfl : _ = AV.t _))<|ab (aC rfl (v := .c _) rfl)<|ab (aC rfl (v := .c _) rfl)<|ak rfl<|ag<|ae hP<|aD hT rfl<|au hT rfl<|ab (ah l2) ?_
 refine ab (az (rfl : _ = AV.t _))<|ab (aC rfl (v := .c _) rfl)<|ab (aC rfl (v := .c _) rfl)<|ak rfl<|ag<|ae hP<|aD hT rfl<|au hT rfl<|ab (ah l3) ?_
 refine ab (az (rfl : _ = AV.t _))<|ab (aC rfl (v := .c _) rfl)<|ab (aC rfl (v := .c _) rfl)<|ak rfl<|ag<|ae hP<|aj rfl<|aj rfl<|aj rfl<|ak rfl<|ak rfl<|ak rfl<|ag<|am ?_
 refine cZ rfl (.inr rfl) (bO rfl) (bO rfl) (bO rfl) ?_ bt
 exact .refl _
theorem Az (f : Fm) (hfa : L 6 f.a) (hfb : L 6 f.b) (hfc : L 6 f.c) (hx : gpE f = 0 → ∃ x y : Int, 0 ≤ x ∧ x ≤ 1400000 ∧ 0 ≤ y ∧ y ≤ 1400000 ∧ Int.gcd (vl f.rd.a f.rd.b f.rd.c x y) (2 * dsc f.a f.b f.c) = 1) :
  aF Tryz.prog 19 [FA f.a f.b f.c] (.t [.c (IS (gvL f)), PE (gpE f)]) := by
 have ifa : LB f.a 6 := ⟨hfa⟩
 have ifb : LB f.b 6 := ⟨hfb⟩
 have ifc : LB f.c 6 := ⟨hfc⟩
 have cP := tP f hfa hfb hfc
 refine aL Tryz.func19 rfl rfl rfl rfl ?_
 refine ae hP<|an ai (aK rfl rfl)<|ak rfl<|ak rfl<|ag<|ae hP<|bD hT rfl rfl rfl rfl rfl rfl<|ab (ah cP) ?_
 refine ab (az (rfl : _ = AV.t _))<|ab (aC rfl (v := .c _) rfl)<|ab (aC rfl (v := .c _) rfl)<|ak rfl<|ak rfl<|ag<|ao<|ae hP<|aj rfl<|ab (bw rfl rfl)<|ag ?_
 refine aw rfl (fun hb1 => ?_) (fun hb1 => ?_)
 ·have hb1_ := cw hb1
  refine ae hP<|aj rfl<|ak rfl<|ak rfl<|ag<|am<|E11 rfl rfl rfl ?_
  exact (by rw [JF hb1_]; exact Sub.tup ⟨DSub.nil_sl, DSub.refl _, trivial⟩)
 have hb1_ := b9 hb1
 have he : gpE f = 0 := hb1_
 obtain ⟨hf, hE⟩ := xY he
 obtain ⟨hgn, hd0, hd1⟩ := wq hE
 have hxx := hx he
 have eV : gpV f = dsc f.a f.b f.c := by unfold gpV; rw [if_pos he]
 have cS := EE f _ hf hd1 hfa hfb hfc
 have cA0 := om _ hd0 hd1
 have hmap := fun (N : Int) (h1 : RpN f.rd N) (h2 : Int.gcd N (2 * dsc f.a f.b f.c) = 1) => sG hf hd1 hd0 hE h1 h2
 have hcb := fun (c : Int) (h : c ∈ chs (dsc f.a f.b f.c)) => wE hd0 hd1 h
 have hcl := pq hd0 hd1
 obtain ⟨⟨s1, s2⟩, ⟨s3, s4⟩, s5, s6⟩ := rq hf.rd hf.rd_rd hd1
 have hg := hf.rd
 rw [eV]
 generalize dsc f.a f.b f.c = d at *
 generalize f.rd = g at *
 have j2 : bv (2 * d) := by unfold bv; omega
 refine aq<|ae hP<|bD hT rfl rfl rfl rfl rfl rfl<|ab (ah cS) ?_
 refine ab (az (rfl : _ = AV.t _))<|ab (aC rfl (v := .c _) rfl)<|ab (aC rfl (v := .c _) rfl)<|ab (aC rfl (v := .c _) rfl)<|ak rfl<|ak rfl<|ak rfl<|ag<|ae hP<|aj rfl<|ak rfl<|ag<|cz (ι := Int) (fun N => stL [(4, Z d), (9, Z N)] []) (fun N => RpN g N ∧ (-9000000000000000000 ≤ N ∧ N ≤ 9000000000000000000) ∧ Int.gcd N (2 * d) = 1) ?_ ?_
 ·refine ae hP<|ak rfl<|ag<|aA<|bq (ι := Int × Int) (fun q => stL [(4, Z d), (6, Z g.a), (7, Z g.b), (8, Z g.c), (9, Z q.1), (10, Z q.2)] []) (fun q => (RpN g q.1 ∧ (-9000000000000000000 ≤ q.1 ∧ q.1 ≤ 9000000000000000000) ∧ (1 ≤ q.2 ∧ q.2 ≤ 1400001) ∧ (Int.gcd q.1 (2 * d) = 1 ∨ NoP g d q.2))) (fun q => (1400001 - q.2).toNat) (g.a, 1) ⟨⟨1, 0, by unfold vl; simp⟩, by simp only; omega, by simp only; omega, .inr (NoP.start hd0)⟩ (aG ⟨.refl _, .refl _, .refl _, .refl _, .refl _, .refl _, trivial⟩ trivial) ?_
  rintro q ⟨hq1, hq2, hq3, hq4⟩
  have jn : bv q.1 := by unfold bv; omega
  refine ao<|ae hP<|aj rfl<|aj rfl<|ab (bU rfl rfl (by first | exact iW0 _ (by omega) | rfl)) ?_
  refine ab (ah (qG _ _ jn j2)) ?_
  refine ab (bw rfl rfl)<|aj rfl ?_
  refine bd (t := 35) rfl (fun hg2 => ?_) (fun hg2 => ?_)
  ·have hg2_ := cw hg2
   refine aB hg2 (az (rfl : _ = AV.p (.c _))) ?_
   refine aB hg2 (az (rfl : _ = AV.p (.c _))) ?_
   refine aB hg2 (bU rfl rfl (by first | exact iW0 _ (by omega) | rfl)) ?_
   refine aB hg2 (ah (qG _ _ jn j2)) ?_
   refine aB hg2 (bw rfl rfl) ?_
   refine ab (aN rfl hg2 (rfl : _ = AV.p (.c _)))<|ag ?_
   refine aw rfl (fun hb3 => ?_) (fun hb3 => ?_)
   ·have hb3_ := cw hb3
    have hNP : NoP g d q.2 := hq4.resolve_left (fun e => (gg_one.1 e).elim hg2_ hb3_)
    have hle := hNP.le hxx
    refine aq<|cz (ι := Int) (fun m => stL [(4, Z d), (6, Z g.a), (7, Z g.b), (8, Z g.c), (9, Z m), (10, Z q.2)] []) (fun m => (RpN g m ∧ (-9000000000000000000 ≤ m ∧ m ≤ 9000000000000000000) ∧ (Int.gcd m (2 * d) = 1 ∨ NoX g d q.2 (q.2 + 1)))) ?_ ?_
    ·refine aA<|ae hP<|ak rfl<|ag<|aA<|bq (ι := Int × Int) (fun r => stL [(4, Z d), (6, Z g.a), (7, Z g.b), (8, Z g.c), (9, Z r.2), (10, Z q.2), (11, Z r.1)] []) (fun r => (0 ≤ r.1 ∧ r.1 ≤ q.2 + 1) ∧ RpN g r.2 ∧ (-9000000000000000000 ≤ r.2 ∧ r.2 ≤ 9000000000000000000) ∧ NoX g d q.2 r.1) (fun r => (q.2 + 1 - r.1).toNat) (0, q.1) ⟨by simp only; omega, hq1, hq2, NoX.start⟩ (aG ⟨.refl _, .refl _, .refl _, .refl _, .refl _, .refl _, .refl _, trivial⟩ trivial) ?_
     rintro r ⟨hr1, hr2, hr3, hr4⟩
     refine ao<|ae hP<|aj rfl<|aj rfl<|ab (fU rfl rfl)<|ag ?_
     refine aw rfl (fun hb4 => ?_) (fun hb4 => ?_)
     ·have hb4_ := dT0 hb4
      have hG := gb (a := g.a) (b := g.b) (c := g.c) (x := r.1) (y := q.2) (by omega) (by omega) (by omega) (by omega) (by omega)
      have hH := gb (a := g.a) (b := g.b) (c := g.c) (x := q.2) (y := r.1) (by omega) (by omega) (by omega) (by omega) (by omega)
      have ev1 : g.a * r.1 * r.1 + g.b * r.1 * q.2 + g.c * q.2 * q.2 = (vl g.a g.b g.c r.1 q.2) := rfl
      have ev2 : g.a * q.2 * q.2 + g.b * r.1 * q.2 + g.c * r.1 * r.1 = (vl g.a g.b g.c q.2 r.1) := Is g.a g.b g.c r.1 q.2
      have jv1 : bv (g.a * r.1 * r.1 + g.b * r.1 * q.2 + g.c * q.2 * q.2) := by unfold bv; omega
      have jv2 : bv (g.a * q.2 * q.2 + g.b * r.1 * q.2 + g.c * r.1 * r.1) := by unfold bv; omega
      have hv1b : -9000000000000000000 ≤ (vl g.a g.b g.c r.1 q.2) ∧ (vl g.a g.b g.c r.1 q.2) ≤ 9000000000000000000 := by rw [← ev1]; omega
      have hv2b : -9000000000000000000 ≤ (vl g.a g.b g.c q.2 r.1) ∧ (vl g.a g.b g.c q.2 r.1) ≤ 9000000000000000000 := by rw [← ev2]; omega
      have hab1 := HG (n := g.a * r.1 * r.1 + g.b * r.1 * q.2 + g.c * q.2 * q.2) hd0 hd1
      have hab2 := HG (n := g.a * q.2 * q.2 + g.b * r.1 * q.2 + g.c * r.1 * r.1) hd0 hd1
      refine aq<|ao<|aA<|ao<|ae hP<|aj rfl<|aj rfl<|ab (bU rfl rfl (by first | exact iW0 _ (by omega) | rfl)) ?_
      refine aj rfl<|ab (bU rfl rfl (by first | exact iW0 _ (by omega) | rfl)) ?_
      refine aj rfl<|aj rfl<|ab (bU rfl rfl (by first | exact iW0 _ (by omega) | rfl)) ?_
      refine aj rfl<|ab (bU rfl rfl (by first | exact iW0 _ (by omega) | rfl)) ?_
      refine bH rfl rfl ?_
      refine aj rfl<|aj rfl<|ab (bU rfl rfl (by first | exact iW0 _ (by omega) | rfl)) ?_
      refine aj rfl<|ab (bU rfl rfl (by first | exact iW0 _ (by omega) | rfl)) ?_
      refine bH rfl rfl ?_
      refine ak rfl<|ag<|ae hP<|aj rfl<|aj rfl<|ab (bU rfl rfl (by first | exact iW0 _ (by omega) | rfl)) ?_
      refine ab (ah (qG _ _ jv1 j2)) ?_
      refine ab (ah (B7 _ hab1)) ?_
      refine ab (bp rfl rfl)<|ag ?_
      refine aw rfl (fun hb5 => ?_) (fun hb5 => ?_)
      ·have hb5_ := bT hb5
       refine aZ ?_
       refine ⟨(vl g.a g.b g.c r.1 q.2), ⟨⟨r.1, q.2, rfl⟩, hv1b, .inl (gg1 (n := (vl g.a g.b g.c r.1 q.2)) hb5_)⟩, aG ⟨.refl _, .refl _, .refl _, .refl _, .refl _, .refl _, trivial⟩ trivial⟩
      have hb5_ := bF hb5
      refine aq<|ae hP<|aj rfl<|aj rfl<|ab (bU rfl rfl (by first | exact iW0 _ (by omega) | rfl)) ?_
      refine aj rfl<|ab (bU rfl rfl (by first | exact iW0 _ (by omega) | rfl)) ?_
      refine aj rfl<|aj rfl<|ab (bU rfl rfl (by first | exact iW0 _ (by omega) | rfl)) ?_
      refine aj rfl<|ab (bU rfl rfl (by first | exact iW0 _ (by omega) | rfl)) ?_
      refine bH rfl rfl ?_
      refine aj rfl<|aj rfl<|ab (bU rfl rfl (by first | exact iW0 _ (by omega) | rfl)) ?_
      refine aj rfl<|ab (bU rfl rfl (by first | exact iW0 _ (by omega) | rfl)) ?_
      refine bH rfl rfl ?_
      refine ak rfl<|ag<|ae hP<|aj rfl<|aj rfl<|ab (bU rfl rfl (by first | exact iW0 _ (by omega) | rfl)) ?_
      refine ab (ah (qG _ _ jv2 j2)) ?_
      refine ab (ah (B7 _ hab2)) ?_
      refine ab (bp rfl rfl)<|ag ?_
      refine aw rfl (fun hb6 => ?_) (fun hb6 => ?_)
      ·have hb6_ := bT hb6
       refine aZ ?_
       refine ⟨(vl g.a g.b g.c q.2 r.1), ⟨⟨q.2, r.1, rfl⟩, hv2b, .inl (by rw [← ev2]; exact gg1 hb6_)⟩, aG ⟨.refl _, .refl _, .refl _, .refl _, aO ev2, .refl _, trivial⟩ trivial⟩
      have hb6_ := bF hb6
      refine aq<|av hP<|aj rfl<|bH rfl rfl ?_
      refine ak rfl<|ag ?_
      refine ⟨(r.1 + 1, (vl g.a g.b g.c q.2 r.1)), ⟨by simp only; omega, ⟨q.2, r.1, rfl⟩, hv2b, hr4.next (HH (n := (vl g.a g.b g.c r.1 q.2)) hb5_) (by rw [← ev2]; exact HH hb6_)⟩, by simp only; omega, aG ⟨.refl _, .refl _, .refl _, .refl _, aO ev2, .refl _, .refl _, trivial⟩ trivial⟩
     have hb4_ := dF0 hb4
     refine aZ ?_
     refine ⟨r.2, ⟨hr2, hr3, .inr ((show r.1 = q.2 + 1 by omega) ▸ hr4)⟩, aG ⟨.refl _, .refl _, .refl _, .refl _, .refl _, .refl _, trivial⟩ trivial⟩
    rintro m ⟨hm1, hm2, hm3⟩
    refine av hP<|aj rfl<|bH rfl rfl ?_
    refine ak rfl<|ag ?_
    refine ⟨(m, q.2 + 1), ⟨hm1, hm2, by simp only; omega, hm3.imp id (fun h => hNP.next h)⟩, by simp only; omega, aG ⟨.refl _, .refl _, .refl _, .refl _, .refl _, .refl _, trivial⟩ trivial⟩
   have hb3_ := b9 hb3
   refine aZ ?_
   refine ⟨q.1, ⟨hq1, hq2, gg_one.2 (.inr hb3_)⟩, aG ⟨.refl _, .refl _, trivial⟩ trivial⟩
  have hg2_ := b9 hg2
  iterate 5 refine a7 hg2 ?_
  refine ab (aP rfl hg2 (rfl : _ = AV.p (.c _)))<|ag<|aT rfl rfl<|aZ ?_
  refine ⟨q.1, ⟨hq1, hq2, gg_one.2 (.inl hg2_)⟩, aG ⟨.refl _, .refl _, trivial⟩ trivial⟩
 rintro N ⟨hN1, hN2, hN3⟩
 have hN0 := IQ hg hN1 hd0
 have jN : bv N := by unfold bv; omega
 have hfin := hmap N hN1 hN3
 have cAs := cA0
 generalize chs d = l at cAs hcl hcb hfin
 refine ae hP<|ak rfl<|ag<|nC 12 1000 1 3 rfl rfl ?_
 refine ao<|ae hP<|aj rfl<|ab (ah cAs) ?_
 refine ab (aU hT rfl rfl rfl (by rfl)) ?_
 refine aj rfl<|ag<|aA<|bq (ι := Nat) (fun k => stL [(9, Z N), (12, .vec 1000), (96, .p (.c (CS 186 187 l))), (97, Z (l.length : Int)), (98, Z (k : Int))] [(1000, IB 3 ((l.take k).map fun c => cv c N))]) (fun k => k ≤ l.length) (fun k => l.length - k) 0 (Nat.zero_le _) (aG ⟨.refl _, .refl _, .refl _, .refl _, .refl _, trivial⟩ ⟨rfl, trivial⟩) ?_
 intro k hk
 refine ae hP<|ab (bi rfl rfl)<|ag<|ao ?_
 refine aw rfl (fun hb7 => ?_) (fun hb7 => ?_)
 ·have hb7_ := dT0 hb7
  have hmm := hcb _ (qd hb7_)
  have jc : bv (l.getD k 0) := by unfold bv; omega
  refine aq<|ao<|aA<|ae hP<|ab (pS (fo := 186) (fs := 187) (n := (k : Int)) hT rfl rfl rfl rfl rfl rfl (by omega)) ?_
  refine ab (bo hT rfl rfl rfl (cs := chC 186 187 (l.getD k 0)) rfl rfl) ?_
  refine an ai (ay hT rfl rfl)<|aE hT rfl<|ag<|av hP<|ab (az (rfl : _ = AV.vec _))<|aD hT rfl<|aY hT rfl rfl rfl rfl ?_
  refine aj rfl<|ab (Eff.callCh rfl rfl (wu N _ hN0 (by unfold spR; split <;> (try split) <;> decide)) (HJ N (l.getD k 0) jN jc)) ?_
  refine ab (bj hT rfl rfl rfl (es := [_]) rfl rfl rfl)<|RK.app ai (oc (z := cv (l.getD k 0) N) hT rfl rfl rfl rfl rfl rfl rfl rfl (by rw [List.length_map, List.length_take]; omega) (by decide)) ?_
  refine ab (bl (rfl : _ = AV.vec _))<|ag<|dx 108 1000 rfl rfl rfl ?_
  refine av hP<|bH rfl rfl ?_
  refine aj rfl<|ag ?_
  refine ⟨k + 1, by omega, by omega, aG ⟨.refl _, .refl _, .refl _, .refl _, aO (by omega), trivial⟩ ⟨Eq.trans rfl (congrArg (fun x => some (IB 3 x)) (Af hb7_)), trivial⟩⟩
 have hb7_ := dF0 hb7
 refine aZ<|mX (t := 12) rfl rfl ?_
 refine ae hP<|aj rfl<|ak rfl<|ak rfl<|ag<|am<|E11 rfl rfl rfl ?_
 exact aH (by rw [qW hb7_, hfin, he])
end
section
open Go Go.AM
end
section
open Go Go.AM
theorem tL (gf : FuncId) (caps : List (List DV)) (l : List Pr2) (hit : Iter2 Tryz.prog gf caps (l.map fun p => [PA p])) (hl : l.length ≤ 1000000) :
  CallV Tryz.prog 194 [.p (.c (.v (.slice none 0 0))), .fn gf caps] (VB 4 93 enP l) := by
 refine nv Tryz.func194 (by kernel_rfl) rfl rfl (bL0 rfl) ?_
 refine ae hP<|an ai (aK rfl rfl)<|ak rfl<|ag<|ao<|ae hP<|ab (az (rfl : _ = AV.fn _ _))<|ag<|aA<|lj 2 1000 4 93 rfl rfl rfl rfl ?_
 refine dF (t := stL [(2, .loc 2 0), (6, .fn gf caps)] [(2, ⟨false, 1002, 65, [.sl ((l.take 0)).length []]⟩), (1000, VB 4 93 enP ((l.take 0)))]) (aG ⟨.refl _, .refl _, trivial⟩ ⟨rfl, rfl, trivial⟩) ?_
 refine e9 3 (fun k => cO [(2, ⟨false, 1002, 65, [.sl ((l.take k)).length []]⟩), (1000, VB 4 93 enP ((l.take k)))]) (fun _ => True) rfl hit DN rfl rfl rfl trivial (fun k x hx _ => ?_) (fun _ => ?_)
 ·obtain ⟨p, hp, rfl⟩ := GU hx
  refine av hP<|an ai (ay hT rfl rfl)<|aE hT rfl<|ag<|aA<|av hP<|ab (gy hT rfl rfl rfl rfl rfl)<|ab (aI hT rfl rfl rfl rfl (cs := [_, _, _, _]) rfl rfl)<|ab (bj hT rfl rfl rfl (es := [_, _, _, _]) rfl rfl rfl)<|RK.app ai (od (encD := enP) hT iG (by decide) rfl rfl rfl rfl rfl rfl rfl (b := p) rfl (by rw [List.length_take]; omega) (by decide) (by decide)) ?_
  refine de ai (kR hT rfl rfl rfl rfl rfl rfl rfl (dH iG _).symm (Nat.zero_lt_succ 3)) ?_
  refine ag ?_
  refine ⟨GW.rnL 2 11 1000 (l.take k ++ [p]).length rfl rfl rfl (dH iG _).symm (Nat.zero_lt_succ 3) rfl rfl rfl rfl ?_, trivial⟩
  show ∀ m, cO _ m = _ ∨ cO _ m = none
  rw [fe hp]
  exact SubO.own ⟨rfl, rfl, trivial⟩
 refine ae hP<|ab (gy hT rfl rfl rfl rfl rfl)<|ab (bl (rfl : _ = AV.vec _))<|ag<|am ?_
 refine ⟨.inr rfl, _, _, rfl, rfl, ?_⟩
 exact congrArg (fun x => some (VB 4 93 enP x)) (List.take_of_length_le (by rw [List.length_map]; exact Nat.le_refl _))
theorem xC (gf : FuncId) (caps : List (List DV)) (l : List Pr2) (hit : Iter2 Tryz.prog gf caps (l.map fun p => [PA p])) (hl : l.length ≤ 1000000) :
  CallV Tryz.prog 151 [.fn gf caps] (VB 4 93 enP l) := by
 refine nv Tryz.func151 (by kernel_rfl) rfl rfl (bL0 rfl) ?_
 refine ae hP<|ak rfl<|ag<|ae hP<|ab (az (rfl : _ = AV.fn _ _))<|an ai (Eff.callV (tL gf caps l hit hl)) ?_
 refine ab (bl (rfl : _ = AV.vec _))<|ag<|am ?_
 refine ⟨.inr rfl, _, _, rfl, rfl, ?_⟩
 exact rfl
def xa : Go.Shelf.Ren := ⟨fun | 6 => 152 | 15 => 196 | 14 => 195 | 28 => 233 | 29 => 234 | 20 => 225 | 21 => 226 | 22 => 227 | 23 => 228 | 24 => 229 | 25 => 230 | 26 => 231 | 27 => 232 | 46 => 249 | 47 => 250 | 48 => 251 | 49 => 252 | 50 => 253 | 57 => 257 | n => n, fun | 22 => 65 | 24 => 93 | 25 => 148 | 3 => 3 | 39 => 106 | 0 => 0 | 53 => 105 | 55 => 103 | 4 => 4 | 46 => 250 | 45 => 249 | 50 => 254 | 5 => 5 | 9 => 9 | 66 => 262 | 70 => 266 | 76 => 273 | 77 => 274 | n => n, fun | n => n⟩
theorem IG : Go.Proofs.SlLaysF0.n6 Tryz.prog xa := {
 mixed := by kernel_rfl
 f6 := ⟨Tryz.f152.name, by decide, Tryz.func152.trans (congrArg some (by kernel_rfl))⟩
 f14 := ⟨Tryz.f195.name, by decide, Tryz.func195.trans (congrArg some (by kernel_rfl))⟩
 f15 := Tryz.func196.trans (congrArg some (by kernel_rfl))
 f20 := ⟨Tryz.f225.name, by decide, Tryz.func225.trans (congrArg some (by kernel_rfl))⟩
 f21 := ⟨Tryz.f226.name, by decide, Tryz.func226.trans (congrArg some (by kernel_rfl))⟩
 f22 := ⟨Tryz.f227.name, by decide, Tryz.func227.trans (congrArg some (by kernel_rfl))⟩
 f23 := ⟨Tryz.f228.name, by decide, Tryz.func228.trans (congrArg some (by kernel_rfl))⟩
 f24 := ⟨Tryz.f229.name, by decide, Tryz.func229.trans (congrArg some (by kernel_rfl))⟩
 f25 := ⟨Tryz.f230.name, by decide, Tryz.func230.trans (congrArg some (by kernel_rfl))⟩
 f26 := ⟨Tryz.f231.name, by decide, Tryz.func231.trans (congrArg some (by kernel_rfl))⟩
 f27 := ⟨Tryz.f232.name, by decide, Tryz.func232.trans (congrArg some (by kernel_rfl))⟩
 f28 := Tryz.func233.trans (congrArg some (by kernel_rfl))
 f29 := Tryz.func234.trans (congrArg some (by kernel_rfl))
 f46 := ⟨Tryz.f249.name, by decide, Tryz.func249.trans (congrArg some (by kernel_rfl))⟩
 f47 := Tryz.func250.trans (congrArg some (by kernel_rfl))
 f48 := Tryz.func251.trans (congrArg some (by kernel_rfl))
 f49 := ⟨Tryz.f252.name, by decide, Tryz.func252.trans (congrArg some (by kernel_rfl))⟩
 f50 := ⟨Tryz.f253.name, by decide, Tryz.func253.trans (congrArg some (by kernel_rfl))⟩
 f57 := ⟨Tryz.f257.name, by decide, Tryz.func257.trans (congrArg some (by kernel_rfl))⟩
 t0 := Tryz.underlying0
 a0 := Tryz.isAgg0
 z0 := Tryz.sizeOf0
 v0 := Tryz.zeroValue0
 t3 := Tryz.underlying3
 a3 := Tryz.isAgg3
 z3 := Tryz.sizeOf3
 v3 := Tryz.zeroValue3
 t4 := Tryz.underlying4
 a4 := Tryz.isAgg4
 z4 := Tryz.sizeOf4
 v4 := Tryz.zeroValue4
 t5 := Tryz.underlying5
 a5 := Tryz.isAgg5
 z5 := Tryz.sizeOf5
 v5 := Tryz.zeroValue5
 t9 := Tryz.underlying9
 a9 := Tryz.isAgg9
 z9 := Tryz.sizeOf9
 v9 := Tryz.zeroValue9
 t22 := Tryz.underlying65
 a22 := Tryz.isAgg65
 z22 := Tryz.sizeOf65
 v22 := Tryz.zeroValue65
 t25 := Tryz.underlying148
 a25 := Tryz.isAgg148
 z25 := Tryz.sizeOf148
 v25 := Tryz.zeroValue148
 t39 := Tryz.underlying106
 a39 := Tryz.isAgg106
 z39 := Tryz.sizeOf106
 v39 := Tryz.zeroValue106
 t45 := Tryz.underlying249
 a45 := Tryz.isAgg249
 z45 := Tryz.sizeOf249
 v45 := Tryz.zeroValue249
 t46 := Tryz.underlying250
 a46 := Tryz.isAgg250
 z46 := Tryz.sizeOf250
 v46 := Tryz.zeroValue250
 t50 := Tryz.underlying254
 a50 := Tryz.isAgg254
 z50 := Tryz.sizeOf254
 v50 := Tryz.zeroValue254
 t53 := Tryz.underlying105
 a53 := Tryz.isAgg105
 z53 := Tryz.sizeOf105
 v53 := Tryz.zeroValue105
 t55 := Tryz.underlying103
 a55 := Tryz.isAgg103
 z55 := Tryz.sizeOf103
 v55 := Tryz.zeroValue103
 t66 := Tryz.underlying262
 a66 := Tryz.isAgg262
 z66 := Tryz.sizeOf262
 v66 := Tryz.zeroValue262
 t70 := Tryz.underlying266
 a70 := Tryz.isAgg266
 z70 := Tryz.sizeOf266
 v70 := Tryz.zeroValue266
 t76 := Tryz.underlying273
 a76 := Tryz.isAgg273
 z76 := Tryz.sizeOf273
 v76 := Tryz.zeroValue273
 t77 := Tryz.underlying274
 a77 := Tryz.isAgg274
 z77 := Tryz.sizeOf274
 v77 := Tryz.zeroValue274 }
theorem GX (m : Nat) (l l' : List Pr2) (hp : l'.Perm l) (hs : nw l') :
  CallM Tryz.prog 152 [.vec m, .p (.c (.v (.func (.func 90) #[] #[])))] (upd O m (some (VB 4 93 enP l))) (.t []) (upd O m (some (VB 4 93 enP l'))) :=
 vt IG hT (j := yS) rfl rfl rfl (by decide) iG cmP EU (fun x y => xB x y) hp (Dd hs) (fun _ _ _ _ h1 h2 => AY h1 h2)
theorem rQ (gf : FuncId) (caps : List (List DV)) (l : List Pr2) (hit : Iter2 Tryz.prog gf caps (l.map fun p => [PA p])) (hl : l.length ≤ 1000000) (l' : List Pr2) (hp : l'.Perm l) (hs : nw l') :
  aF Tryz.prog 89 [.fn gf caps, .p (.c (.v (.func (.func 90) #[] #[])))] (.p (.c (SL enP l'))) := by
 refine aL Tryz.func89 rfl rfl rfl rfl ?_
 refine ae hP<|ak rfl<|ag<|ae hP<|ab (az (rfl : _ = AV.fn _ _))<|an ai (Eff.callV (xC gf caps l hit hl)) ?_
 refine ab (bl (rfl : _ = AV.vec _))<|ag<|ae hP<|ab (az (rfl : _ = AV.vec _))<|aj rfl<|RK.mut ai (Eff.call (rd := [7]) (GX 7 l l' hp hs) (j8 rfl) gU) ?_
 refine ag<|ki (encD := enP) iG rfl (t := 5) rfl rfl ?_
 refine ae hP<|aj rfl<|ak rfl<|ag<|am<|E1 rfl rfl ?_
 exact .refl _
theorem lJ (f : Fm) (m : Int) (hfa : L 6 f.a) (hfb : L 6 f.b) (hfc : L 6 f.c) :
  aF Tryz.prog 65 [FA f.a f.b f.c, Z m] (Z (alE f m)) := by
 have fa : LB f.a 6 := ⟨hfa⟩
 have fb : LB f.b 6 := ⟨hfb⟩
 have fc : LB f.c 6 := ⟨hfc⟩
 refine aL Tryz.func65 rfl rfl rfl rfl ?_
 refine ae hP<|an ai (aK rfl rfl)<|ak rfl<|ag<|ao<|ae hP<|bD hT rfl rfl rfl rfl rfl rfl<|ab (aV hT rfl rfl rfl (es := [_, _]) rfl)<|ab (ah (yj f hfa hfb hfc)) ?_
 refine ab (az (rfl : _ = AV.t _))<|ab (aC rfl (v := .a _) rfl)<|ab (aC rfl (v := .c _) rfl)<|an ai (ay hT rfl rfl)<|aE hT rfl<|ak rfl<|ag<|ae hP<|aj rfl<|ab (bw rfl rfl)<|ag ?_
 refine aw rfl (fun hb1 => ?_) (fun hb1 => ?_)
 ·have hb1_ := cw hb1
  refine ae hP<|aj rfl<|ak rfl<|ag<|am<|E1 rfl rfl ?_
  exact aO (J2 hb1_)
 have hb1_ := b9 hb1
 refine aq<|ae hP<|aj rfl<|ab (ah (rM _)) ?_
 refine ak rfl<|ag<|am<|E1 rfl rfl ?_
 exact aO (Cf hb1_)
theorem uH (f : Fm) (m : Int) :
  aF Tryz.prog 66 [FA f.a f.b f.c, Z m] (.fn 132 [[zn f.a, zm f.a, zn f.b, zm f.b, zn f.c, zm f.c], [.v (.int .i64 m)]]) := by
 refine lh Tryz.func66 (by kernel_rfl) rfl rfl (bL0 rfl) rfl ?_
 refine ae hP<|an ai (aK rfl rfl)<|an ai (aK rfl rfl)<|ak rfl<|ag<|cL (t := 2) rfl rfl ?_
 refine cL (t := 3) rfl rfl ?_
 refine ae hP<|ab (jH rfl rfl)<|ab (bl (rfl : _ = AV.fn _ _))<|ag<|am ?_
 exact ⟨.inr rfl, 4, rfl, rfl⟩
theorem vO (f : Fm) (D : Int) (m : Nat) (hfa : L 6 f.a) (hfb : L 6 f.b) (hfc : L 6 f.c) (hf : Cl D f) (hD : -4194304 ≤ D ∧ D < 0) (hm : 1 ≤ m ∧ m ≤ 65536) :
  aF Tryz.prog 26 [FA f.a f.b f.c, Z (m : Int)] (.t [.c (SL enP (prS D m f)), PE 0]) := by
 have fa : LB f.a 6 := ⟨hfa⟩
 have fb : LB f.b 6 := ⟨hfb⟩
 have fc : LB f.c 6 := ⟨hfc⟩
 have hdf : dsc f.a f.b f.c = D := hf.disc
 have h0m : 0 < (m : Int) := by omega
 have cRf : aF Tryz.prog 65 [FA f.a f.b f.c, Z (m : Int)] (Z 0) := by
  have h := lJ f m hfa hfb hfc
  rwa [wL hf hm] at h
 refine aL Tryz.func26 rfl rfl rfl rfl ?_
 refine ae hP<|an ai (aK rfl rfl)<|ak rfl<|ak rfl<|ag<|ao<|ae hP<|bD hT rfl rfl rfl rfl rfl rfl<|aj rfl<|ab (ah cRf) ?_
 refine ak rfl<|ag<|ae hP<|aj rfl<|ab (bw rfl rfl)<|ag<|aT rfl rfl<|aq<|ae hP<|bD hT rfl rfl rfl rfl rfl rfl<|aj rfl<|ab (ah (uH f m)) ?_
 refine ab (ah (rQ _ _ (prL D m f) (rO f D m hfa hfb hfc hdf hD hm) (GS hm) (prS D m f) (ra _) (DO hf h0m))) ?_
 refine ak rfl<|ak rfl<|ag<|am<|E11 rfl rfl rfl ?_
 exact .refl _
theorem DW (D : Int) (m : Nat) (hD : -4194304 ≤ D ∧ D < 0) (h4 : D % 4 = 0 ∨ D % 4 = 1) (hm : 1 ≤ m ∧ m ≤ 65536) :
  aF Tryz.prog 13 [I D, Z (m : Int)] (.t [.c (SL enI (rbL D (m : Int))), PE 0]) := by
 have iD : LB D 6 := ⟨by unfold L; omega⟩
 have cPr : aF Tryz.prog 54 [I D] (.t [PF (prF D), PE 0]) := by
  have h := mO D lz
  rwa [Jn hD.2 h4] at h
 have cRg : aF Tryz.prog 55 [Z (m : Int)] (Z 0) := by
  have h := rM m
  rwa [vB (by omega) (by omega)] at h
 refine aL Tryz.func13 rfl rfl rfl rfl ?_
 refine ae hP<|an ai (aK rfl rfl)<|ak rfl<|ak rfl<|ag<|ao<|ae hP<|au hT rfl<|ab (ah cPr) ?_
 refine ab (az (rfl : _ = AV.t _))<|ab (aC rfl (v := .a _) rfl)<|ab (aC rfl (v := .c _) rfl)<|an ai (ay hT rfl rfl)<|aE hT rfl<|ak rfl<|ag<|ae hP<|aj rfl<|ab (bw rfl rfl)<|aj rfl<|aB rfl (aJ hT rfl rfl rfl rfl rfl rfl) ?_
 refine aB rfl (bG hT rfl rfl rfl rfl (by first | rfl | exact dz (by omega))) ?_
 refine aB rfl (bA rfl) ?_
 refine ab (aP rfl rfl (rfl : _ = AV.p (.c _)))<|ag<|aT rfl (by simpa using hD.2) ?_
 refine aq<|ao<|ae hP<|aj rfl<|ab (ah cRg) ?_
 refine ak rfl<|ag<|ae hP<|aj rfl<|ab (bw rfl rfl)<|ag<|aT rfl rfl<|aq<|ae hP<|au hT rfl<|aj rfl<|ab (ah (rP D m hD hm)) ?_
 refine ak rfl<|ak rfl<|ag<|am<|E11 rfl rfl rfl ?_
 exact .refl _
theorem rN (n : Nat) (hn : 1 ≤ n ∧ n ≤ 65536) :
  Iter3 Tryz.prog 135 (⟨false, 1, 3, [.v (.int .i64 ((n : Nat) : Int))]⟩) ((parts n).map fun (q : Nat) => [PE (q : Int)]) := by
 generalize hxs : ((parts n).map fun (q : Nat) => ([PE (q : Int)] : List PV)) = xs
 refine An Tryz.func135 (by kernel_rfl) rfl rfl (bL0 rfl) rfl rfl ?_
 intro l n0 J hK
 refine wS hK.toKeepsB ?_
 refine bK ?_
 refine br hP ?_
 refine ak rfl<|ag<|ej ?_
 refine kF (ι := Nat × Nat × Nat) (fun i => stL [(0, .p (.c (.v (.func (.yield l) #[] #[])))), (1, .loc 1 0), (3, Z ((i.2.1 : Nat) : Int))] [(1, ⟨false, 1, 3, [.v (.int .i64 ((i.1 : Nat) : Int))]⟩)]) (fun i => i.2.2) (fun i => PaI n i.1 i.2.1 i.2.2) (fun i => n + 2 - i.2.1) (n, 2, 0) (PaI.start (by omega)) rfl (aG ⟨.refl _, .refl _, .refl _, trivial⟩ ⟨rfl, trivial⟩) ?_
 intro i hI
 have h2p := hI.two
 have hmn := hI.le
 have hm0 := hI.pos
 refine bK ?_
 refine bK ?_
 refine br hP ?_
 refine aY hT rfl rfl rfl rfl ?_
 refine ab (bV rfl rfl)<|ag ?_
 refine dY rfl (fun hb1 => ?_) (fun hb1 => ?_)
 ·have hb1_ := dT0 hb1
  have hm1 : 1 < i.1 := by omega
  have hpm := hI.ple hm1
  refine dI ?_
  refine bK ?_
  refine ej ?_
  refine bK ?_
  refine br hP ?_
  refine ak rfl<|ag<|bK ?_
  refine ej ?_
  refine kF (ι := Nat × Nat) (fun q => stL [(0, .p (.c (.v (.func (.yield l) #[] #[])))), (1, .loc 1 0), (3, Z ((i.2.1 : Nat) : Int)), (4, Z ((q.2 : Nat) : Int))] [(1, ⟨false, 1, 3, [.v (.int .i64 ((q.1 : Nat) : Int))]⟩)]) (fun _ => i.2.2) (fun q => PtI i.2.1 i.1 q.1 q.2) (fun q => q.1) (i.1, 1) (PtI.start hm0) rfl (aG ⟨.refl _, .refl _, .refl _, .refl _, trivial⟩ ⟨rfl, trivial⟩) ?_
  intro q hq
  obtain ⟨b1, b2, b3, b4⟩ := hq.b
  refine bK ?_
  refine bK ?_
  refine br hP ?_
  refine aY hT rfl rfl rfl rfl ?_
  refine aj rfl<|ab (b5 rfl rfl (by omega) (c := ((q.1 % i.2.1 : Nat) : Int)) Kj) ?_
  refine ab (bp rfl rfl)<|ag ?_
  refine dY rfl (fun hb2 => ?_) (fun hb2 => ?_)
  ·have hb2_ := bT hb2
   have hnx := hq.next h2p (by omega)
   have hqp : q.2 * i.2.1 ≤ 1000000000 := by have := hnx.2.2; omega
   refine dI ?_
   refine ej ?_
   refine br hP ?_
   refine aY hT rfl rfl rfl rfl ?_
   refine aj rfl<|ab (dl rfl rfl (by omega) (c := ((q.1 / i.2.1 : Nat) : Int)) (Kn (by omega) (by omega))) ?_
   refine aj rfl<|aj rfl<|ab (bU rfl rfl (c := ((q.2 * i.2.1 : Nat) : Int)) (Kx hqp)) ?_
   refine aE hT rfl<|ak rfl<|ag ?_
   refine ⟨(q.1 / i.2.1, q.2 * i.2.1), hnx.1, hnx.2.1, rfl, aG ⟨.refl _, .refl _, .refl _, .refl _, trivial⟩ ⟨rfl, trivial⟩⟩
  have hb2_ := bF hb2
  have hpt := hq.done (by omega)
  refine iK ?_
  refine bK ?_
  refine ll ?_
  refine RY.val ai (az (rfl : _ = AV.p (.c _))) ?_
  refine RY.val ai (bV rfl rfl) ?_
  refine RY.val ai (az (rfl : _ = AV.p (.c _))) ?_
  refine RY.split (t := 21) rfl (fun hg3 => ?_) (fun hg3 => ?_)
  ·have hg3_ := dT0 hg3
   have hq1 : 1 < (ptN i.2.1 i.1).2 := by have := dT0 hg3; have := hpt.2; omega
   have hgt : xs[i.2.2]? = some [PE ((q.2 : Nat) : Int)] := by rw [← hxs, List.getElem?_map, (hI.yes hm1 hq1).1, hpt.2]; rfl
   refine RY.val (aS rfl rfl hg3) (az (rfl : _ = AV.p (.c _))) ?_
   refine RY.val (aS rfl rfl hg3) (az (rfl : _ = AV.p (.c _))) ?_
   refine RY.yield hK (aS rfl rfl hg3) rfl rfl hgt ?_
   intro bb
   refine RY.val (aS rfl rfl hg3) (bA rfl) ?_
   refine RY.val ai (aN rfl hg3 (rfl : _ = AV.p (.c _))) ?_
   refine RY.done ?_
   refine dY rfl (fun hb4 => ?_) (fun hb4 => ?_)
   ·have hb4_ := (cy hb4)
    refine mb ?_
    refine ⟨.inr rfl, ?_⟩
    exact vW (cy hb4)
   have hb4_ := (cn hb4)
   refine dI ?_
   refine br hP ?_
   refine aj rfl<|bH rfl rfl ?_
   refine ak rfl<|ag ?_
   refine ⟨((ptN i.2.1 i.1).1, i.2.1 + 1, i.2.2 + 1), (hI.yes hm1 hq1).2, (by show n + 2 - (i.2.1 + 1) < n + 2 - i.2.1; omega), (vV (cn hb4)).symm, aG ⟨.refl _, .refl _, aO (by show ((i.2.1 : Nat) : Int) + 1 = ((i.2.1 + 1 : Nat) : Int); omega), trivial⟩ ⟨Eq.trans rfl (congrArg (fun x : Nat => some (⟨false, 1, 3, [.v (.int .i64 (x : Int))]⟩ : Blk)) hpt.1), trivial⟩⟩
  have hg3_ := dF0 hg3
  have hq1 : ¬ 1 < (ptN i.2.1 i.1).2 := by have := dF0 hg3; have := hpt.2; omega
  iterate 4 refine RY.skip (jM rfl rfl hg3) ?_
  refine RY.val ai (aP rfl hg3 (rfl : _ = AV.p (.c _))) ?_
  refine RY.done ?_
  refine je rfl rfl ?_
  refine dI ?_
  refine br hP ?_
  refine aj rfl<|bH rfl rfl ?_
  refine ak rfl<|ag ?_
  refine ⟨((ptN i.2.1 i.1).1, i.2.1 + 1, i.2.2), hI.no hm1 hq1, (by show n + 2 - (i.2.1 + 1) < n + 2 - i.2.1; omega), rfl, aG ⟨.refl _, .refl _, aO (by show ((i.2.1 : Nat) : Int) + 1 = ((i.2.1 + 1 : Nat) : Int); omega), trivial⟩ ⟨Eq.trans rfl (congrArg (fun x : Nat => some (⟨false, 1, 3, [.v (.int .i64 (x : Int))]⟩ : Blk)) hpt.1), trivial⟩⟩
 have hb1_ := dF0 hb1
 have hdn := hI.done (by omega)
 refine iK ?_
 refine ⟨.inl rfl, ?_⟩
 rw [← hxs, List.length_map, hdn]
 exact Nat.le_refl _
theorem uG (m : Nat) :
  CallG Tryz.prog 68 [Z (m : Int)] 135 (⟨false, 1, 3, [.v (.int .i64 ((m : Nat) : Int))]⟩) := by
 refine A3 Tryz.func68 (by kernel_rfl) rfl rfl (bL0 rfl) ?_
 refine ae hP<|an ai (aK rfl rfl)<|ak rfl<|ag<|ae hP<|ab (rX rfl)<|ab (bl (rfl : _ = AV.fnl _ _))<|ag<|am ?_
 exact ⟨.inr rfl, 2, 1, rfl, rfl, rfl⟩
theorem Kt (c x : Int) (hc : L 5 c) (hx : 1 ≤ x ∧ x ≤ 65536) :
  aF Tryz.prog 140 [Z c, Z x] (Z (atV c x)) := by
 have ic : LB c 6 := ⟨hc.mono (by decide)⟩
 have ix : LB x 6 := ⟨by unfold L; omega⟩
 have jc : bv c := by unfold L at hc; unfold bv; omega
 refine aL Tryz.func140 rfl rfl rfl rfl ?_
 refine ae hP<|ak rfl<|ag<|ao<|ae hP<|aj rfl<|ag<|aA<|ae hP<|ab (bp rfl rfl)<|ak rfl<|ag ?_
 refine aw rfl (fun hb1 => ?_) (fun hb1 => ?_)
 ·have hb1_ := bT hb1
  refine ae hP<|aj rfl<|ab (b5 rfl rfl (by omega) (c := x % 4) (Int.tmod_eq_emod_of_nonneg (by omega))) ?_
  refine ab (bC rfl rfl (by first | exact iW0 _ (by omega) | rfl)) ?_
  refine ak rfl<|ag<|am<|E1 rfl rfl ?_
  exact aO (J1 hb1_)
 have hb1_ := bF hb1
 refine ae hP<|ab (bp rfl rfl)<|ak rfl<|ag ?_
 refine aw rfl (fun hb2 => ?_) (fun hb2 => ?_)
 ·have hb2_ := bT hb2
  refine ae hP<|ab (ah (ez 2 (by decide))) ?_
  refine aj rfl<|ab (ah (ez x (by unfold bv; omega))) ?_
  refine ab (ah (iL _ _ lz lz)) ?_
  refine ak rfl<|ag<|am<|E1 rfl rfl ?_
  exact aO (J0 hb2_)
 have hb2_ := bF hb2
 refine ae hP<|ab (bp rfl rfl)<|ak rfl<|ag ?_
 refine aw rfl (fun hb3 => ?_) (fun hb3 => ?_)
 ·have hb3_ := bT hb3
  refine ae hP<|ab (ah (ez (-2) (by decide))) ?_
  refine aj rfl<|ab (ah (ez x (by unfold bv; omega))) ?_
  refine ab (ah (iL _ _ lz lz)) ?_
  refine ak rfl<|ag<|am<|E1 rfl rfl ?_
  exact aO (JZ hb3_)
 have hb3_ := bF hb3
 refine aq<|ae hP<|aj rfl<|ab (ah (ez x (by unfold bv; omega))) ?_
 refine aj rfl<|ab (ah (ez c jc)) ?_
 refine ab (ah (iL _ _ lz lz)) ?_
 refine ak rfl<|ag<|am<|E1 rfl rfl ?_
 exact aO (JY hb1_ hb2_ hb3_)
theorem n9 (f : Fm) (D : Int) (m : Nat) (hfa : L 6 f.a) (hfb : L 6 f.b) (hfc : L 6 f.c) (hf : Cl D f) (hD : -4194304 ≤ D ∧ D < 0) (hm : 1 ≤ m ∧ m ≤ 65536) (hE : szE D = 0) :
  Iter2 Tryz.prog 137 [[zn f.a, zm f.a, zn f.b, zm f.b, zn f.c, zm f.c], [.v (.int .i64 (m : Int))]] ((agL D m f).map fun c => [PE c]) := by
 have fa : LB f.a 6 := ⟨hfa⟩
 have fb : LB f.b 6 := ⟨hfb⟩
 have fc : LB f.c 6 := ⟨hfc⟩
 have iD : LB D 6 := ⟨by unfold L; omega⟩
 have im : LB (m : Int) 6 := ⟨by unfold L; omega⟩
 have hdf : dsc f.a f.b f.c = D := hf.disc
 have cDs : aF Tryz.prog 40 [FA f.a f.b f.c] (I D) := by rw [← hdf]; exact fE f.a f.b f.c lz lz lz
 have cCh : aF Tryz.prog 139 [I D] (.t [.c (IS (chs D)), PE 0]) := by
  have h := sN D lz
  rwa [Ce hE, hE] at h
 have cVa : aF Tryz.prog 19 [FA f.a f.b f.c] (.t [.c (IS (gvL f)), PE 0]) := by
  have h := Az f hfa hfb hfc JG
  rwa [tj hf hD.1 hE] at h
 have hln := HC hf hD.1 hE
 have hcb := fun c hc => wE (c := c) hD.2 hD.1 hc
 have hlc := pq hD.2 hD.1
 have hgt_ := fun (h : Int.gcd (2 * D) m = 1) (k : Nat) (hk : k < (chs D).length) (hne) => If (f := f) h hln hk hne
 have hyy := fun (k : Nat) (hk : k < (chs D).length) (hne) => KS (n := (m : Int)) (f := f) hln hk hne
 have hnn := fun (k : Nat) (hk : k < (chs D).length) (he) => KT (n := (m : Int)) (f := f) hln hk he
 have hall := fun (h : Int.gcd (2 * D) m = 1) (k : Nat) (hk : (chs D).length ≤ k) => Ih (f := f) h hln hk
 have hnone := fun (h : ¬ Int.gcd (2 * D) m = 1) (k : Nat) => E6 (f := f) h k
 have hk0 : 0 = eY (agP m) (agZ D f) 0 := by unfold eY; simp
 generalize chs D = ls at *
 generalize gvL f = vs at *
 generalize eY (agP m) (agZ D f) = κ at *
 generalize ((agL D m f).map fun c => ([PE c] : List PV)) = xs at *
 refine nl Tryz.func137 (by kernel_rfl) rfl rfl (bL0 rfl) rfl ?_
 intro l n0 J hK
 refine wS hK.toKeepsB ?_
 refine bK ?_
 refine br hP ?_
 refine ab (bo hT rfl rfl rfl (cs := [_, _, _, _, _, _]) rfl rfl)<|ab (ah cDs) ?_
 refine an ai (ay hT rfl rfl)<|aE hT rfl<|ag<|bK ?_
 refine bK ?_
 refine br hP ?_
 refine ab (ah (ez 2 (by decide))) ?_
 refine au hT rfl<|ab (ah (dG 2 D lz lz)) ?_
 refine cC hT rfl rfl rfl ?_
 refine ab (ah (ez (m : Int) (by unfold bv; omega))) ?_
 refine ab (ah (mA (2 * D) (m : Int) lz lz)) ?_
 refine ab (ah (ez 1 (by decide))) ?_
 refine ab (ah (fl _ _)) ?_
 refine ab (bA rfl)<|ag ?_
 refine dY rfl (fun hb1 => ?_) (fun hb1 => ?_)
 ·have hb1_ := (cy hb1)
  refine mb ?_
  refine ⟨.inr rfl, ?_⟩
  exact hnone (fun e => dF0 (cy hb1) (by rw [e]; rfl)) _
 have hb1_ := (cn hb1)
 have hgc : Int.gcd (2 * D) m = 1 := by have := dT0 (cn hb1); omega
 have hmo : (m : Int) % 2 = 1 := Ay hgc
 refine dI ?_
 refine bK ?_
 refine br hP ?_
 refine au hT rfl<|ab (ah cCh) ?_
 refine ab (az (rfl : _ = AV.t _))<|ab (aC rfl (v := .c _) rfl)<|ab (aC rfl (v := .c _) rfl)<|ak rfl<|ak rfl<|ag<|bK ?_
 refine br hP ?_
 refine ab (bo hT rfl rfl rfl (cs := [_, _, _, _, _, _]) rfl rfl)<|ab (ah cVa) ?_
 refine ab (az (rfl : _ = AV.t _))<|ab (aC rfl (v := .c _) rfl)<|ab (aC rfl (v := .c _) rfl)<|ak rfl<|ak rfl<|ag<|bK ?_
 refine br hP ?_
 refine aj rfl<|ab (aU hT rfl rfl rfl (by rfl)) ?_
 refine aj rfl<|ag<|ej ?_
 refine kF (ι := Nat) (fun j => stL [(0, .p (.c (.v (.func (.yield l) #[] #[])))), (2, .ip [.v (.int .i64 (m : Int))]), (7, .p (.c (IS vs))), (32, .p (.c (IS ls))), (33, Z (ls.length : Int)), (34, Z (j : Int))] []) κ (fun j => j ≤ ls.length) (fun j => ls.length - j) 0 (Nat.zero_le _) hk0.symm (aG ⟨.refl _, .refl _, .refl _, .refl _, .refl _, .refl _, trivial⟩ trivial) ?_
 intro j hj
 refine bK ?_
 refine br hP ?_
 refine ab (bi rfl rfl)<|ag<|bK ?_
 refine dY rfl (fun hb2 => ?_) (fun hb2 => ?_)
 ·have hb2_ := dT0 hb2
  have hjn : j < ls.length := by omega
  have hcm := qd (l := ls) (k := j) hb2_
  have hcL : L 5 (ls.getD j 0) := by have := hcb _ hcm; unfold L; omega
  have hav : atV (ls.getD j 0) m = cv (ls.getD j 0) m := H9 (by omega) hmo
  refine dI ?_
  refine bK ?_
  refine ej ?_
  refine bK ?_
  refine br hP ?_
  refine aj rfl<|ab (lM hT (n := (j : Int)) (l := ls) rfl rfl rfl rfl rfl rfl (by omega)) ?_
  refine ab (ce hT rfl rfl rfl (dv := .v (.int .i64 (ls.getD j 0))) rfl) ?_
  refine ak rfl<|ak rfl<|ag<|bK ?_
  refine tT hP 11 (by kernel_rfl) ?_
  refine aj rfl<|cC hT rfl rfl rfl ?_
  refine ab (ah (Kt (ls.getD j 0) (m : Int) hcL (by omega))) ?_
  refine aj rfl<|aj rfl<|ab (lM hT (n := (j : Int)) (l := vs) rfl rfl rfl rfl rfl rfl (by omega)) ?_
  refine ab (ce hT rfl rfl rfl (dv := .v (.int .i64 (vs.getD j 0))) rfl) ?_
  refine ab (bw rfl rfl)<|aj rfl ?_
  refine bd (t := 47) rfl (fun hg3 => ?_) (fun hg3 => ?_)
  ·have hg3_ := cw hg3
   have hne : ¬ cv (ls.getD j 0) m = (vs.getD j 0) := fun e => cw hg3 (hav.trans e)
   refine aB hg3 (az (rfl : _ = AV.p (.c _))) ?_
   refine aB hg3 (az (rfl : _ = AV.p (.c _))) ?_
   refine ag<|RY.yield hK (aS rfl rfl hg3) rfl rfl (hgt_ hgc j hjn hne) ?_
   intro bb
   refine RY.val (aS rfl rfl hg3) (bA rfl) ?_
   refine RY.val ai (aN rfl hg3 (rfl : _ = AV.p (.c _))) ?_
   refine RY.done ?_
   refine dY rfl (fun hb4 => ?_) (fun hb4 => ?_)
   ·have hb4_ := (cy hb4)
    refine mb ?_
    refine ⟨.inr rfl, ?_⟩
    exact vW (cy hb4)
   have hb4_ := (cn hb4)
   refine dI ?_
   refine br hP ?_
   refine bH rfl rfl ?_
   refine aj rfl<|ag ?_
   refine ⟨j + 1, by omega, by omega, (hyy j hjn hne).trans (vV (cn hb4)).symm, aG ⟨.refl _, .refl _, .refl _, .refl _, .refl _, aO (by omega), trivial⟩ trivial⟩
  have hg3_ := b9 hg3
  have heq : cv (ls.getD j 0) m = (vs.getD j 0) := hav.symm.trans (b9 hg3)
  refine a7 hg3 ?_
  refine a7 hg3 ?_
  refine ag<|RY.skip (jM rfl rfl hg3) ?_
  refine RY.skip (jM rfl rfl hg3) ?_
  refine RY.val ai (aP rfl hg3 (rfl : _ = AV.p (.c _))) ?_
  refine RY.done ?_
  refine je rfl rfl ?_
  refine dI ?_
  refine br hP ?_
  refine bH rfl rfl ?_
  refine aj rfl<|ag ?_
  refine ⟨j + 1, by omega, by omega, hnn j hjn heq, aG ⟨.refl _, .refl _, .refl _, .refl _, .refl _, aO (by omega), trivial⟩ trivial⟩
 have hb2_ := dF0 hb2
 refine iK ?_
 refine ⟨.inl rfl, ?_⟩
 exact hall hgc j (by omega)
theorem pQ (f : Fm) (m : Int) :
  aF Tryz.prog 71 [FA f.a f.b f.c, Z m] (.fn 137 [[zn f.a, zm f.a, zn f.b, zm f.b, zn f.c, zm f.c], [.v (.int .i64 m)]]) := by
 refine lh Tryz.func71 (by kernel_rfl) rfl rfl (bL0 rfl) rfl ?_
 refine ae hP<|an ai (aK rfl rfl)<|an ai (aK rfl rfl)<|ak rfl<|ag<|cL (t := 2) rfl rfl ?_
 refine cL (t := 3) rfl rfl ?_
 refine ae hP<|ab (jH rfl rfl)<|ab (bl (rfl : _ = AV.fn _ _))<|ag<|am ?_
 exact ⟨.inr rfl, 4, rfl, rfl⟩
end
section
open Go Go.AM
theorem GY (f : Fm) (D : Int) (m : Nat) (hfa : L 6 f.a) (hfb : L 6 f.b) (hfc : L 6 f.c) (hf : Cl D f) (hD : -4194304 ≤ D ∧ D < 0) (hm : 1 ≤ m ∧ m ≤ 65536) (hE : szE D = 0) :
  aF Tryz.prog 17 [FA f.a f.b f.c, Z (m : Int)] (.t [.a (anS (fnd D m f)), PE 0]) := by
 have fa : LB f.a 6 := ⟨hfa⟩
 have fb : LB f.b 6 := ⟨hfb⟩
 have fc : LB f.c 6 := ⟨hfc⟩
 have hdf : dsc f.a f.b f.c = D := hf.disc
 have h0m : 0 < (m : Int) := by omega
 have cRf : aF Tryz.prog 65 [FA f.a f.b f.c, Z (m : Int)] (Z 0) := by
  have h := lJ f m hfa hfb hfc
  rwa [wL hf hm] at h
 have iD : LB D 6 := ⟨by unfold L; omega⟩
 have cDs : aF Tryz.prog 40 [FA f.a f.b f.c] (I D) := by rw [← hdf]; exact fE f.a f.b f.c lz lz lz
 refine aL Tryz.func17 rfl rfl rfl rfl ?_
 refine ae hP<|an ai (aK rfl rfl)<|an ai (ay hT rfl rfl)<|an ai (ay hT rfl rfl)<|ag<|ao<|ae hP<|bD hT rfl rfl rfl rfl rfl rfl<|aj rfl<|ab (ah cRf) ?_
 refine ak rfl<|ag<|ae hP<|aj rfl<|ab (bw rfl rfl)<|ag<|aT rfl rfl<|aq<|ae hP<|bD hT rfl rfl rfl rfl rfl rfl<|ab (ah cDs) ?_
 refine an ai (ay hT rfl rfl)<|aE hT rfl<|ag<|ae hP<|an ai (ay hT rfl rfl)<|ag<|ao<|ae hP<|bD hT rfl rfl rfl rfl rfl rfl<|aj rfl<|ab (ah (uH f m)) ?_
 refine ag<|aA<|dF (t := stL [(1, Z (m : Int)), (2, .loc 2 0), (4, .loc 4 0), (5, .loc 5 0), (7, .loc 7 0), (8, .loc 8 0), (26, .fn 132 [[zn f.a, zm f.a, zn f.b, zm f.b, zn f.c, zm f.c], [.v (.int .i64 (m : Int))]])] [(2, ⟨false, 1, 46, [zn f.a, zm f.a, zn f.b, zm f.b, zn f.c, zm f.c]⟩), (4, ⟨false, 1, 42, bsC none⟩), (5, ⟨false, 1, 33, [.v (.int .i64 0)]⟩), (7, ⟨false, 1, 29, [zn D, zm D]⟩), (8, ⟨false, 1, 42, bsC (dB (prL D m f) 0)⟩)]) (aG ⟨.refl _, .refl _, .refl _, .refl _, .refl _, .refl _, .refl _, trivial⟩ ⟨rfl, rfl, rfl, rfl, Eq.trans rfl (congrArg (fun b => some (⟨false, 1, 42, bsC b⟩ : Blk)) (EZ (prL D m f)).symm), trivial⟩) ?_
 refine e9 9 (fun k => cO [(2, ⟨false, 1, 46, [zn f.a, zm f.a, zn f.b, zm f.b, zn f.c, zm f.c]⟩), (4, ⟨false, 1, 42, bsC none⟩), (5, ⟨false, 1, 33, [.v (.int .i64 0)]⟩), (7, ⟨false, 1, 29, [zn D, zm D]⟩), (8, ⟨false, 1, 42, bsC (dB (prL D m f) k)⟩)]) (fun _ => True) rfl (rO f D m hfa hfb hfc hdf hD hm) GR rfl rfl rfl trivial (fun k x hx _ => ?_) (fun _ => ?_)
 ·obtain ⟨p, hp, rfl⟩ := Jl hx
  refine av hP<|an ai (ay hT rfl rfl)<|aE hT rfl<|ag<|aA<|ae hP<|ab (aR hT rfl rfl rfl rfl rfl (by first | decide | omega)) ?_
  refine au hT rfl<|ab (aR hT rfl rfl rfl rfl rfl (by first | decide | omega)) ?_
  refine au hT rfl<|an ai (ay hT rfl rfl)<|an ai (ay hT rfl rfl)<|aE hT rfl<|aE hT rfl<|ag<|ao<|ae hP<|aD hT rfl<|aY hT rfl rfl rfl rfl ?_
  refine aj rfl ?_
  refine bd (t := 34) rfl (fun hg1 => ?_) (fun hg1 => ?_)
  ·have hy1 : p.2 < 0 := dT0 hg1
   iterate 3 refine a7 hg1 ?_
   refine fP ?_
   refine fP ?_
   refine a7 hg1 ?_
   refine ab (aN rfl hg1 (rfl : _ = AV.p (.c _)))<|ag<|aX rfl rfl<|aZ ?_
   refine ⟨GW.forget fun x => SubO.own (l := [(2, ⟨false, 1, 46, [zn f.a, zm f.a, zn f.b, zm f.b, zn f.c, zm f.c]⟩), (4, ⟨false, 1, 42, bsC none⟩), (5, ⟨false, 1, 33, [.v (.int .i64 0)]⟩), (7, ⟨false, 1, 29, [zn D, zm D]⟩), (8, ⟨false, 1, 42, bsC (dB (prL D m f) (k + 1))⟩)]) ⟨rfl, rfl, rfl, rfl, Eq.trans rfl (congrArg (fun b => some (⟨false, 1, 42, bsC b⟩ : Blk)) ((eo hp).trans (q9 (.inl hy1))).symm), trivial⟩ x, trivial⟩
  have hy1 : ¬ p.2 < 0 := dF0 hg1
  refine aB hg1 (aI hT rfl rfl rfl rfl (cs := [_, _]) rfl rfl) ?_
  refine aB hg1 (ah (z1 _)) ?_
  refine aB hg1 (az (rfl : _ = AV.p (.c _))) ?_
  refine bd (t := 37) rfl (fun hg2 => ?_) (fun hg2 => ?_)
  ·have hy0 : p.2 = 0 := dT0 hg2
   refine aB hg2 (aJ hT rfl rfl rfl rfl rfl rfl) ?_
   refine aB hg2 (bG hT rfl rfl rfl rfl (by first | rfl | exact dz (by omega))) ?_
   refine aB hg1 (aN rfl hg2 (rfl : _ = AV.p (.c _))) ?_
   refine ab (aP rfl hg1 (rfl : _ = AV.p (.c _)))<|ag ?_
   refine aw rfl (fun hb3 => ?_) (fun hb3 => ?_)
   ·have hx1 : p.1 < 0 := dT0 hb3
    refine aZ ?_
    refine ⟨GW.forget fun x => SubO.own (l := [(2, ⟨false, 1, 46, [zn f.a, zm f.a, zn f.b, zm f.b, zn f.c, zm f.c]⟩), (4, ⟨false, 1, 42, bsC none⟩), (5, ⟨false, 1, 33, [.v (.int .i64 0)]⟩), (7, ⟨false, 1, 29, [zn D, zm D]⟩), (8, ⟨false, 1, 42, bsC (dB (prL D m f) (k + 1))⟩)]) ⟨rfl, rfl, rfl, rfl, Eq.trans rfl (congrArg (fun b => some (⟨false, 1, 42, bsC b⟩ : Blk)) ((eo hp).trans (q9 (.inr ⟨hy0, hx1⟩))).symm), trivial⟩ x, trivial⟩
   have ho : okP p = true := w8 hy1 (fun z => dF0 hb3 z.2)
   refine aq<|ae hP<|au hT rfl<|aD hT rfl<|au hT rfl<|ab (ah (dy _ _)) ?_
   refine ak rfl<|ag<|ae hP<|aD hT rfl<|aY hT rfl rfl rfl rfl ?_
   refine ab (bp rfl rfl)<|aj rfl ?_
   refine bd (t := 49) rfl (fun hg4 => ?_) (fun hg4 => ?_)
   ·have hg4_ := bT hg4
    have hk := bT hg4
    refine a7 hg4 ?_
    refine a7 hg4 ?_
    refine ab (aN rfl hg4 (rfl : _ = AV.p (.c _)))<|aj rfl<|a7 rfl ?_
    refine a7 rfl ?_
    refine a7 rfl ?_
    iterate 5 refine fP ?_
    refine a7 rfl ?_
    refine ab (aN rfl rfl (rfl : _ = AV.p (.c _)))<|ag<|aX rfl rfl<|av hP<|au hT rfl<|au hT rfl<|ab (aV hT rfl rfl rfl (es := [_, _, _, _, _, _, _, _, _]) rfl)<|aE hT rfl<|ag ?_
    refine ⟨GW.forget fun x => SubO.own (l := [(2, ⟨false, 1, 46, [zn f.a, zm f.a, zn f.b, zm f.b, zn f.c, zm f.c]⟩), (4, ⟨false, 1, 42, bsC none⟩), (5, ⟨false, 1, 33, [.v (.int .i64 0)]⟩), (7, ⟨false, 1, 29, [zn D, zm D]⟩), (8, ⟨false, 1, 42, bsC (dB (prL D m f) (k + 1))⟩)]) ⟨rfl, rfl, rfl, rfl, Eq.trans rfl (congrArg (fun b => some (⟨false, 1, 42, bsC b⟩ : Blk)) ((eo hp).trans (BO ho hk)).symm), trivial⟩ x, trivial⟩
   have hg4_ := bF hg4
   have hk := bF hg4
   refine aB hg4 (az (rfl : _ = AV.p (.c _))) ?_
   refine aB hg4 (bi rfl rfl) ?_
   refine ab (aP rfl hg4 (rfl : _ = AV.p (.c _)))<|aj rfl ?_
   refine bd (t := 53) rfl (fun hg5 => ?_) (fun hg5 => ?_)
   ·have hg5_ := dT0 hg5
    have hc := dT0 hg5
    iterate 3 refine a7 hg5 ?_
    iterate 5 refine fP ?_
    refine a7 hg5 ?_
    refine ab (aN rfl hg5 (rfl : _ = AV.p (.c _)))<|ag<|aX rfl rfl<|av hP<|au hT rfl<|au hT rfl<|ab (aV hT rfl rfl rfl (es := [_, _, _, _, _, _, _, _, _]) rfl)<|aE hT rfl<|ag ?_
    refine ⟨GW.forget fun x => SubO.own (l := [(2, ⟨false, 1, 46, [zn f.a, zm f.a, zn f.b, zm f.b, zn f.c, zm f.c]⟩), (4, ⟨false, 1, 42, bsC none⟩), (5, ⟨false, 1, 33, [.v (.int .i64 0)]⟩), (7, ⟨false, 1, 29, [zn D, zm D]⟩), (8, ⟨false, 1, 42, bsC (dB (prL D m f) (k + 1))⟩)]) ⟨rfl, rfl, rfl, rfl, Eq.trans rfl (congrArg (fun b => some (⟨false, 1, 42, bsC b⟩ : Blk)) ((eo hp).trans (qy ho hk (.inl (cmpI_lt_zero.1 hc)))).symm), trivial⟩ x, trivial⟩
   have hg5_ := dF0 hg5
   have hc := dF0 hg5
   refine aB hg5 (az (rfl : _ = AV.p (.c _))) ?_
   refine aB hg5 (bp rfl rfl) ?_
   refine aB hg5 (az (rfl : _ = AV.p (.c _))) ?_
   refine bd (t := 56) rfl (fun hg6 => ?_) (fun hg6 => ?_)
   ·have hg6_ := bT hg6
    have hc0 := bT hg6
    refine aB hg6 (aI hT rfl rfl rfl rfl (cs := [_, _]) rfl rfl) ?_
    refine aB hg6 (aJ hT rfl rfl rfl rfl rfl rfl) ?_
    refine aB hg6 (aI hT rfl rfl rfl rfl (cs := [_, _]) rfl rfl) ?_
    refine aB hg6 (ah (dy _ _)) ?_
    refine aB hg6 (bi rfl rfl) ?_
    refine aB hg5 (aN rfl hg6 (rfl : _ = AV.p (.c _))) ?_
    refine ab (aP rfl hg5 (rfl : _ = AV.p (.c _)))<|ag ?_
    refine aw rfl (fun hb7 => ?_) (fun hb7 => ?_)
    ·have hb7_ := dT0 hb7
     have hx2 := dT0 hb7
     refine av hP<|au hT rfl<|au hT rfl<|ab (aV hT rfl rfl rfl (es := [_, _, _, _, _, _, _, _, _]) rfl)<|aE hT rfl<|ag ?_
     refine ⟨GW.forget fun x => SubO.own (l := [(2, ⟨false, 1, 46, [zn f.a, zm f.a, zn f.b, zm f.b, zn f.c, zm f.c]⟩), (4, ⟨false, 1, 42, bsC none⟩), (5, ⟨false, 1, 33, [.v (.int .i64 0)]⟩), (7, ⟨false, 1, 29, [zn D, zm D]⟩), (8, ⟨false, 1, 42, bsC (dB (prL D m f) (k + 1))⟩)]) ⟨rfl, rfl, rfl, rfl, Eq.trans rfl (congrArg (fun b => some (⟨false, 1, 42, bsC b⟩ : Blk)) ((eo hp).trans (qy ho hk (.inr ⟨cmpI_eq_zero.1 hc0, cmpI_lt_zero.1 hx2⟩))).symm), trivial⟩ x, trivial⟩
    have hb7_ := dF0 hb7
    have hx2 := dF0 hb7
    refine aq ?_
    refine ⟨GW.forget fun x => SubO.own (l := [(2, ⟨false, 1, 46, [zn f.a, zm f.a, zn f.b, zm f.b, zn f.c, zm f.c]⟩), (4, ⟨false, 1, 42, bsC none⟩), (5, ⟨false, 1, 33, [.v (.int .i64 0)]⟩), (7, ⟨false, 1, 29, [zn D, zm D]⟩), (8, ⟨false, 1, 42, bsC (dB (prL D m f) (k + 1))⟩)]) ⟨rfl, rfl, rfl, rfl, Eq.trans rfl (congrArg (fun b => some (⟨false, 1, 42, bsC b⟩ : Blk)) ((eo hp).trans (qz ho hk (fun z => z.elim (fun z => hc (cmpI_lt_zero.2 z)) fun z => hx2 (cmpI_lt_zero.2 z.2)))).symm), trivial⟩ x, trivial⟩
   have hg6_ := bF hg6
   have hc0 := bF hg6
   iterate 5 refine a7 hg6 ?_
   refine aB hg5 (aP rfl hg6 (rfl : _ = AV.p (.c _))) ?_
   refine ab (aP rfl hg5 (rfl : _ = AV.p (.c _)))<|ag<|aT rfl rfl<|aq ?_
   refine ⟨GW.forget fun x => SubO.own (l := [(2, ⟨false, 1, 46, [zn f.a, zm f.a, zn f.b, zm f.b, zn f.c, zm f.c]⟩), (4, ⟨false, 1, 42, bsC none⟩), (5, ⟨false, 1, 33, [.v (.int .i64 0)]⟩), (7, ⟨false, 1, 29, [zn D, zm D]⟩), (8, ⟨false, 1, 42, bsC (dB (prL D m f) (k + 1))⟩)]) ⟨rfl, rfl, rfl, rfl, Eq.trans rfl (congrArg (fun b => some (⟨false, 1, 42, bsC b⟩ : Blk)) ((eo hp).trans (qz ho hk (fun z => z.elim (fun z => hc (cmpI_lt_zero.2 z)) fun z => hc0 (cmpI_eq_zero.2 z.1)))).symm), trivial⟩ x, trivial⟩
  have hy0 : ¬ p.2 = 0 := dF0 hg2
  have ho : okP p = true := w8 hy1 (fun z => hy0 z.1)
  refine a7 hg2 ?_
  refine a7 hg2 ?_
  refine aB hg1 (aP rfl hg2 (rfl : _ = AV.p (.c _))) ?_
  refine ab (aP rfl hg1 (rfl : _ = AV.p (.c _)))<|ag<|aT rfl rfl<|aq<|ae hP<|au hT rfl<|aD hT rfl<|au hT rfl<|ab (ah (dy _ _)) ?_
  refine ak rfl<|ag<|ae hP<|aD hT rfl<|aY hT rfl rfl rfl rfl ?_
  refine ab (bp rfl rfl)<|aj rfl ?_
  refine bd (t := 49) rfl (fun hg8 => ?_) (fun hg8 => ?_)
  ·have hg8_ := bT hg8
   have hk := bT hg8
   refine a7 hg8 ?_
   refine a7 hg8 ?_
   refine ab (aN rfl hg8 (rfl : _ = AV.p (.c _)))<|aj rfl<|a7 rfl ?_
   refine a7 rfl ?_
   refine a7 rfl ?_
   iterate 5 refine fP ?_
   refine a7 rfl ?_
   refine ab (aN rfl rfl (rfl : _ = AV.p (.c _)))<|ag<|aX rfl rfl<|av hP<|au hT rfl<|au hT rfl<|ab (aV hT rfl rfl rfl (es := [_, _, _, _, _, _, _, _, _]) rfl)<|aE hT rfl<|ag ?_
   refine ⟨GW.forget fun x => SubO.own (l := [(2, ⟨false, 1, 46, [zn f.a, zm f.a, zn f.b, zm f.b, zn f.c, zm f.c]⟩), (4, ⟨false, 1, 42, bsC none⟩), (5, ⟨false, 1, 33, [.v (.int .i64 0)]⟩), (7, ⟨false, 1, 29, [zn D, zm D]⟩), (8, ⟨false, 1, 42, bsC (dB (prL D m f) (k + 1))⟩)]) ⟨rfl, rfl, rfl, rfl, Eq.trans rfl (congrArg (fun b => some (⟨false, 1, 42, bsC b⟩ : Blk)) ((eo hp).trans (BO ho hk)).symm), trivial⟩ x, trivial⟩
  have hg8_ := bF hg8
  have hk := bF hg8
  refine aB hg8 (az (rfl : _ = AV.p (.c _))) ?_
  refine aB hg8 (bi rfl rfl) ?_
  refine ab (aP rfl hg8 (rfl : _ = AV.p (.c _)))<|aj rfl ?_
  refine bd (t := 53) rfl (fun hg9 => ?_) (fun hg9 => ?_)
  ·have hg9_ := dT0 hg9
   have hc := dT0 hg9
   iterate 3 refine a7 hg9 ?_
   iterate 5 refine fP ?_
   refine a7 hg9 ?_
   refine ab (aN rfl hg9 (rfl : _ = AV.p (.c _)))<|ag<|aX rfl rfl<|av hP<|au hT rfl<|au hT rfl<|ab (aV hT rfl rfl rfl (es := [_, _, _, _, _, _, _, _, _]) rfl)<|aE hT rfl<|ag ?_
   refine ⟨GW.forget fun x => SubO.own (l := [(2, ⟨false, 1, 46, [zn f.a, zm f.a, zn f.b, zm f.b, zn f.c, zm f.c]⟩), (4, ⟨false, 1, 42, bsC none⟩), (5, ⟨false, 1, 33, [.v (.int .i64 0)]⟩), (7, ⟨false, 1, 29, [zn D, zm D]⟩), (8, ⟨false, 1, 42, bsC (dB (prL D m f) (k + 1))⟩)]) ⟨rfl, rfl, rfl, rfl, Eq.trans rfl (congrArg (fun b => some (⟨false, 1, 42, bsC b⟩ : Blk)) ((eo hp).trans (qy ho hk (.inl (cmpI_lt_zero.1 hc)))).symm), trivial⟩ x, trivial⟩
  have hg9_ := dF0 hg9
  have hc := dF0 hg9
  refine aB hg9 (az (rfl : _ = AV.p (.c _))) ?_
  refine aB hg9 (bp rfl rfl) ?_
  refine aB hg9 (az (rfl : _ = AV.p (.c _))) ?_
  refine bd (t := 56) rfl (fun hg10 => ?_) (fun hg10 => ?_)
  ·have hg10_ := bT hg10
   have hc0 := bT hg10
   refine aB hg10 (aI hT rfl rfl rfl rfl (cs := [_, _]) rfl rfl) ?_
   refine aB hg10 (aJ hT rfl rfl rfl rfl rfl rfl) ?_
   refine aB hg10 (aI hT rfl rfl rfl rfl (cs := [_, _]) rfl rfl) ?_
   refine aB hg10 (ah (dy _ _)) ?_
   refine aB hg10 (bi rfl rfl) ?_
   refine aB hg9 (aN rfl hg10 (rfl : _ = AV.p (.c _))) ?_
   refine ab (aP rfl hg9 (rfl : _ = AV.p (.c _)))<|ag ?_
   refine aw rfl (fun hb11 => ?_) (fun hb11 => ?_)
   ·have hb11_ := dT0 hb11
    have hx2 := dT0 hb11
    refine av hP<|au hT rfl<|au hT rfl<|ab (aV hT rfl rfl rfl (es := [_, _, _, _, _, _, _, _, _]) rfl)<|aE hT rfl<|ag ?_
    refine ⟨GW.forget fun x => SubO.own (l := [(2, ⟨false, 1, 46, [zn f.a, zm f.a, zn f.b, zm f.b, zn f.c, zm f.c]⟩), (4, ⟨false, 1, 42, bsC none⟩), (5, ⟨false, 1, 33, [.v (.int .i64 0)]⟩), (7, ⟨false, 1, 29, [zn D, zm D]⟩), (8, ⟨false, 1, 42, bsC (dB (prL D m f) (k + 1))⟩)]) ⟨rfl, rfl, rfl, rfl, Eq.trans rfl (congrArg (fun b => some (⟨false, 1, 42, bsC b⟩ : Blk)) ((eo hp).trans (qy ho hk (.inr ⟨cmpI_eq_zero.1 hc0, cmpI_lt_zero.1 hx2⟩))).symm), trivial⟩ x, trivial⟩
   have hb11_ := dF0 hb11
   have hx2 := dF0 hb11
   refine aq ?_
   refine ⟨GW.forget fun x => SubO.own (l := [(2, ⟨false, 1, 46, [zn f.a, zm f.a, zn f.b, zm f.b, zn f.c, zm f.c]⟩), (4, ⟨false, 1, 42, bsC none⟩), (5, ⟨false, 1, 33, [.v (.int .i64 0)]⟩), (7, ⟨false, 1, 29, [zn D, zm D]⟩), (8, ⟨false, 1, 42, bsC (dB (prL D m f) (k + 1))⟩)]) ⟨rfl, rfl, rfl, rfl, Eq.trans rfl (congrArg (fun b => some (⟨false, 1, 42, bsC b⟩ : Blk)) ((eo hp).trans (qz ho hk (fun z => z.elim (fun z => hc (cmpI_lt_zero.2 z)) fun z => hx2 (cmpI_lt_zero.2 z.2)))).symm), trivial⟩ x, trivial⟩
  have hg10_ := bF hg10
  have hc0 := bF hg10
  iterate 5 refine a7 hg10 ?_
  refine aB hg9 (aP rfl hg10 (rfl : _ = AV.p (.c _))) ?_
  refine ab (aP rfl hg9 (rfl : _ = AV.p (.c _)))<|ag<|aT rfl rfl<|aq ?_
  refine ⟨GW.forget fun x => SubO.own (l := [(2, ⟨false, 1, 46, [zn f.a, zm f.a, zn f.b, zm f.b, zn f.c, zm f.c]⟩), (4, ⟨false, 1, 42, bsC none⟩), (5, ⟨false, 1, 33, [.v (.int .i64 0)]⟩), (7, ⟨false, 1, 29, [zn D, zm D]⟩), (8, ⟨false, 1, 42, bsC (dB (prL D m f) (k + 1))⟩)]) ⟨rfl, rfl, rfl, rfl, Eq.trans rfl (congrArg (fun b => some (⟨false, 1, 42, bsC b⟩ : Blk)) ((eo hp).trans (qz ho hk (fun z => z.elim (fun z => hc (cmpI_lt_zero.2 z)) fun z => hc0 (cmpI_eq_zero.2 z.1)))).symm), trivial⟩ x, trivial⟩
 refine dF (t := stL [(1, Z (m : Int)), (2, .loc 2 0), (4, .loc 4 0), (5, .loc 5 0), (7, .loc 7 0), (8, .loc 8 0)] [(2, ⟨false, 1, 46, [zn f.a, zm f.a, zn f.b, zm f.b, zn f.c, zm f.c]⟩), (4, ⟨false, 1, 42, bsC none⟩), (5, ⟨false, 1, 33, [.v (.int .i64 0)]⟩), (7, ⟨false, 1, 29, [zn D, zm D]⟩), (8, ⟨false, 1, 42, bsC (dA (prL D m f))⟩)]) (aG ⟨.refl _, .refl _, .refl _, .refl _, .refl _, .refl _, trivial⟩ ⟨rfl, rfl, rfl, rfl, Eq.trans rfl (congrArg (fun b => some (⟨false, 1, 42, bsC b⟩ : Blk)) (yr rfl)), trivial⟩) ?_
 refine ao<|ae hP<|aD hT rfl<|aY hT rfl rfl rfl rfl ?_
 refine ab (bV rfl rfl)<|ag ?_
 refine aw rfl (fun hb12 => ?_) (fun hb12 => ?_)
 ·have hb12_ := dT0 hb12
  have hkb := dT0 hb12
  refine ae hP<|ab (aI hT rfl rfl rfl rfl (cs := [_, _, _, _, _, _, _, _, _]) rfl rfl)<|aE hT rfl<|aE hT rfl<|ag<|am ?_
  refine cp rfl (.inr rfl) (aQ hT rfl rfl rfl rfl (cs := [_, _, _, _, _, _, _, _, _]) rfl rfl) (cg hT rfl rfl rfl rfl rfl) ?_ bt
  exact aH (congrArg (fun d => AV.t [.a d, PE 0]) (KM hkb))
 have hb12_ := dF0 hb12
 have h0b := KN (dF0 hb12)
 refine aq<|ao<|ae hP<|aj rfl<|an ai (Eff.callG (uG m)) ?_
 refine ag<|aA<|dF (t := stL [(72, .fnl 135 72), (1, Z (m : Int)), (2, .loc 2 0), (4, .loc 4 0), (5, .loc 5 0), (7, .loc 7 0)] ((72, ⟨false, 1, 3, [.v (.int .i64 ((m : Nat) : Int))]⟩) :: [(2, ⟨false, 1, 46, [zn f.a, zm f.a, zn f.b, zm f.b, zn f.c, zm f.c]⟩), (4, ⟨false, 1, 42, bsC none⟩), (5, ⟨false, 1, 33, [.v (.int .i64 0)]⟩), (7, ⟨false, 1, 29, [zn D, zm D]⟩)])) (aG ⟨.refl _, .refl _, .refl _, .refl _, .refl _, .refl _, trivial⟩ ⟨rfl, rfl, rfl, rfl, rfl, trivial⟩) ?_
 refine oz (l := [(1, Z (m : Int)), (2, .loc 2 0), (4, .loc 4 0), (5, .loc 5 0), (7, .loc 7 0)]) (o := cO ((72, ⟨false, 1, 3, [.v (.int .i64 ((m : Nat) : Int))]⟩) :: [(2, ⟨false, 1, 46, [zn f.a, zm f.a, zn f.b, zm f.b, zn f.c, zm f.c]⟩), (4, ⟨false, 1, 42, bsC none⟩), (5, ⟨false, 1, 33, [.v (.int .i64 0)]⟩), (7, ⟨false, 1, 29, [zn D, zm D]⟩)])) 73 (fun _ => cO [(2, ⟨false, 1, 46, [zn f.a, zm f.a, zn f.b, zm f.b, zn f.c, zm f.c]⟩), (4, ⟨false, 1, 42, bsC none⟩), (5, ⟨false, 1, 33, [.v (.int .i64 0)]⟩), (7, ⟨false, 1, 29, [zn D, zm D]⟩)]) (PtR D m) (rN m hm) rfl rfl rfl rfl (rR rfl) xv rfl rfl rfl PtR.start (fun k x hx hI => ?_) (fun hI => ?_)
 ·obtain ⟨q, hq, rfl⟩ := BV hx
  refine av hP<|ak rfl<|ag<|aA<|ae hP<|au hT rfl<|aj rfl<|ab (ah (pP D q hD (vJ hm hq))) ?_
  refine ag ?_
  refine aw rfl (fun hb13 => ?_) (fun hb13 => ?_)
  ·have hrq := dT0 hb13
   refine ae hP<|aj rfl<|ab (ah (ez (q : Int) (by have := vJ hm hq; unfold bv; omega))) ?_
   refine ab (aV hT rfl rfl rfl (es := [_, _, _, _, _, _, _, _, _]) rfl)<|aE hT rfl<|aE hT rfl<|ag<|am ?_
   refine ⟨_, GW.forget fun _ => .inl rfl, ?_⟩
   refine cp rfl (.inr rfl) (aQ hT rfl rfl rfl rfl (cs := [_, _, _, _, _, _, _, _, _]) rfl rfl) (cg hT rfl rfl rfl rfl rfl) ?_ bt
   exact aH (congrArg (fun d => AV.t [.a d, PE 0]) (KL h0b hI hq hrq))
  have hrq := dF0 hb13
  refine aq ?_
  exact ⟨GW.forget fun x => SubO.own (l := [(2, ⟨false, 1, 46, [zn f.a, zm f.a, zn f.b, zm f.b, zn f.c, zm f.c]⟩), (4, ⟨false, 1, 42, bsC none⟩), (5, ⟨false, 1, 33, [.v (.int .i64 0)]⟩), (7, ⟨false, 1, 29, [zn D, zm D]⟩)]) ⟨rfl, rfl, rfl, rfl, trivial⟩ x, hI.next hq hrq⟩
 have h1b := hI.done (GP rfl)
 refine ao<|ae hP<|bD hT rfl rfl rfl rfl rfl rfl<|aj rfl<|ab (ah (pQ f m)) ?_
 refine ag<|aA<|dF (t := stL [(1, Z (m : Int)), (2, .loc 2 0), (4, .loc 4 0), (5, .loc 5 0), (7, .loc 7 0), (82, .fn 137 [[zn f.a, zm f.a, zn f.b, zm f.b, zn f.c, zm f.c], [.v (.int .i64 (m : Int))]])] [(2, ⟨false, 1, 46, [zn f.a, zm f.a, zn f.b, zm f.b, zn f.c, zm f.c]⟩), (4, ⟨false, 1, 42, bsC none⟩), (5, ⟨false, 1, 33, [.v (.int .i64 0)]⟩), (7, ⟨false, 1, 29, [zn D, zm D]⟩)]) (aG ⟨.refl _, .refl _, .refl _, .refl _, .refl _, .refl _, trivial⟩ ⟨rfl, rfl, rfl, rfl, trivial⟩) ?_
 refine e9 83 (fun _ => cO [(2, ⟨false, 1, 46, [zn f.a, zm f.a, zn f.b, zm f.b, zn f.c, zm f.c]⟩), (4, ⟨false, 1, 42, bsC none⟩), (5, ⟨false, 1, 33, [.v (.int .i64 0)]⟩), (7, ⟨false, 1, 29, [zn D, zm D]⟩)]) (fun k => k = 0) rfl (n9 f D m hfa hfb hfc hf hD hm hE) yx rfl rfl rfl rfl (fun k x hx hk => ?_) (fun hk => ?_)
 ·obtain ⟨c, hc, rfl⟩ := Cg hx
  refine av hP<|ak rfl<|ag<|aA<|ae hP<|aj rfl<|ab (ah (ez c (by have := Ig hD hc; unfold bv; omega))) ?_
  refine ab (aV hT rfl rfl rfl (es := [_, _, _, _, _, _, _, _, _]) rfl)<|aE hT rfl<|aE hT rfl<|ag<|am ?_
  refine ⟨_, GW.forget fun _ => .inl rfl, ?_⟩
  refine cp rfl (.inr rfl) (aQ hT rfl rfl rfl rfl (cs := [_, _, _, _, _, _, _, _, _]) rfl rfl) (cg hT rfl rfl rfl rfl rfl) ?_ bt
  exact aH (congrArg (fun d => AV.t [.a d, PE 0]) (KK h0b h1b hc hk))
 refine ae hP<|au hT rfl<|aj rfl<|ab (ah (rP D m hD hm)) ?_
 refine au hT rfl<|aj rfl<|ab (ah (pO D m hD hm)) ?_
 refine ab (aV hT rfl rfl rfl (es := [_, _, _, _, _, _, _, _, _]) rfl)<|aE hT rfl<|aE hT rfl<|ag<|am ?_
 refine cp rfl (.inr rfl) (aQ hT rfl rfl rfl rfl (cs := [_, _, _, _, _, _, _, _, _]) rfl rfl) (cg hT rfl rfl rfl rfl rfl) ?_ bt
 exact aH (congrArg (fun d => AV.t [.a d, PE 0]) (KJ h0b h1b hk))
end
section
open Go Go.AM
theorem xU (r : Rw) :
  aF Tryz.prog 58 [.p (.a [.v (.bool r.1), W r.2])] (Z (rsg r)) := by
 refine aL Tryz.func58 rfl rfl rfl rfl ?_
 refine ae hP<|an ai (aK rfl rfl)<|ak rfl<|ag<|ao<|aA<|ae hP<|aD hT rfl<|aY hT rfl rfl rfl rfl ?_
 refine ab (aU hT rfl rfl rfl rfl)<|ab (bp rfl rfl)<|ak rfl<|ag ?_
 refine aw rfl (fun hb1 => ?_) (fun hb1 => ?_)
 ·have hb1_ := bT hb1
  refine ae hP<|ak rfl<|ag<|am<|E1 rfl rfl ?_
  exact aO (IP hb1_)
 have hb1_ := bF hb1
 refine ae hP<|aD hT rfl<|aY hT rfl rfl rfl rfl ?_
 refine ak rfl<|ag ?_
 refine aw rfl (fun hb2 => ?_) (fun hb2 => ?_)
 ·refine ae hP<|ak rfl<|ag<|am<|E1 rfl rfl ?_
  exact aO (IN hb1_ hb2)
 refine aq<|ae hP<|ak rfl<|ag<|am<|E1 rfl rfl ?_
 exact aO (IM hb1_ hb2)
theorem wo (r : Rw) (hl : r.2.length ≤ 1000000000) :
  aF Tryz.prog 100 [.p (.a [.v (.bool r.1), W r.2])] (B (rV r)) := by
 refine aL Tryz.func100 rfl rfl rfl rfl ?_
 refine ae hP<|an ai (aK rfl rfl)<|ak rfl<|ag<|ao<|ae hP<|aD hT rfl<|aY hT rfl rfl rfl rfl ?_
 refine ab (aU hT rfl rfl rfl rfl)<|ab (bp rfl rfl)<|ag ?_
 refine aw rfl (fun hb1 => ?_) (fun hb1 => ?_)
 ·have hb1_ := bT hb1
  refine ae hP<|aD hT rfl<|aY hT rfl rfl rfl rfl ?_
  refine ab (bA rfl)<|ak rfl<|ag<|am<|E1 rfl rfl ?_
  exact aW (Km hb1_)
 have hb1_ := bF hb1
 refine aq<|ae hP<|aD hT rfl<|aY hT rfl rfl rfl rfl ?_
 refine aD hT rfl<|aY hT rfl rfl rfl rfl ?_
 refine ab (aU hT rfl rfl rfl rfl)<|ab (bC rfl rfl (by first | exact iW0 _ (by omega) | rfl)) ?_
 refine cI ?_
 refine cC hT rfl rfl rfl ?_
 refine ab (bw rfl rfl)<|ak rfl<|ag<|am<|E1 rfl rfl ?_
 exact aW (Kl hb1_)
theorem jV (r : Rw) :
  aF Tryz.prog 67 [.p (.a [.v (.bool r.1), W r.2])] (B (decide (r.2 = []))) := by
 refine aL Tryz.func67 rfl rfl rfl rfl ?_
 refine ae hP<|an ai (aK rfl rfl)<|ak rfl<|ag<|ae hP<|au hT rfl<|ab (ah (xU r)) ?_
 refine ab (bp rfl rfl)<|ak rfl<|ag<|am<|E1 rfl rfl ?_
 exact aW IL
theorem qp (l m : List Int) (hl : (l.length : Int) ≤ 1000000000) :
  aF Tryz.prog 163 [.p (.c (SL enI l)), .p (.c (SL enI m)), .p (.c (.v (.func (.func 138) #[] #[])))] (B (decide (l = m))) := by
 refine aL Tryz.func163 rfl rfl rfl rfl ?_
 refine ae hP<|ak rfl<|ag<|ao<|ae hP<|aj rfl<|ab (aU hT rfl rfl rfl (by rfl)) ?_
 refine aj rfl<|ab (aU hT rfl rfl rfl (by rfl)) ?_
 refine ab (bw rfl rfl)<|ag ?_
 refine aw rfl (fun hb1 => ?_) (fun hb1 => ?_)
 ·have hb1_ := cw hb1
  refine ae hP<|ak rfl<|ag<|am<|E1 rfl rfl ?_
  exact aW (decide_eq_false (fun e => hb1_ (by rw [e]))).symm
 have hb1_ := b9 hb1
 have hlen : l.length = m.length := by have := hb1_; omega
 refine aq<|ao<|ae hP<|aj rfl<|ab (aU hT rfl rfl rfl (by rfl)) ?_
 refine aj rfl<|ag<|aA<|bq (ι := Nat) (fun k => stL [(0, .p (.c (SL enI l))), (1, .p (.c (SL enI m))), (2, .p (.c (.v (.func (.func 138) #[] #[])))), (15, .p (.c (SL enI l))), (16, Z (l.length : Int)), (17, Z (k : Int))] []) (fun k => SmG l m k) (fun k => l.length - k) 0 (SmG.start hlen) (aG ⟨.refl _, .refl _, .refl _, .refl _, .refl _, .refl _, trivial⟩ trivial) ?_
 intro k hI
 have hk := hI.le
 refine ae hP<|ab (bi rfl rfl)<|ag<|ao ?_
 refine aw rfl (fun hb2 => ?_) (fun hb2 => ?_)
 ·have hb2_ := dT0 hb2
  refine aq<|ao<|aA<|ae hP<|aj rfl<|ab (dM hT fu (by decide) 0 (n := (k : Int)) (l := l) rfl rfl rfl rfl rfl rfl (by omega)) ?_
  refine ab (bo hT rfl rfl rfl (cs := enI (l.getD k 0)) rfl rfl) ?_
  refine an ai (ay hT rfl rfl)<|ak rfl<|aE hT rfl<|ag<|ae hP<|aj rfl<|aj rfl<|ab (dM hT fu (by decide) 0 (n := (k : Int)) (l := m) rfl rfl rfl rfl rfl rfl (by omega)) ?_
  refine ab (bo hT rfl rfl rfl (cs := enI (m.getD k 0)) rfl rfl) ?_
  refine an ai (ay hT rfl rfl)<|aE hT rfl<|ag<|ae hP<|aj rfl<|au hT rfl<|au hT rfl<|ab (Eff.callF rfl (fl _ _)) ?_
  refine ab (bA rfl)<|ag ?_
  refine aw rfl (fun hb3 => ?_) (fun hb3 => ?_)
  ·have hb3_ := (cy hb3)
   refine ae hP<|ak rfl<|ag<|am<|E1 rfl rfl ?_
   exact aW (decide_eq_false (SmG.no (d := 0) (fun e => dF0 (cy hb3) e))).symm
  have hb3_ := (cn hb3)
  refine aq<|av hP<|bH rfl rfl ?_
  refine aj rfl<|ag ?_
  refine ⟨k + 1, hI.next (d := 0) (by omega) (dT0 (cn hb3)), by omega, aG ⟨.refl _, .refl _, .refl _, .refl _, .refl _, aO (by omega), trivial⟩ trivial⟩
 have hb2_ := dF0 hb2
 refine aZ<|ae hP<|ak rfl<|ag<|am<|E1 rfl rfl ?_
 exact aW (decide_eq_true (hI.yes (by omega))).symm
theorem qt (l m : List Fm) (hl : (l.length : Int) ≤ 1000000000) :
  aF Tryz.prog 164 [.p (.c (FS l)), .p (.c (FS m)), .p (.c (.v (.func (.func 165) #[] #[])))] (B (decide (l = m))) := by
 refine aL Tryz.func164 rfl rfl rfl rfl ?_
 refine ae hP<|ak rfl<|ag<|ao<|ae hP<|aj rfl<|ab (aU hT rfl rfl rfl (by rfl)) ?_
 refine aj rfl<|ab (aU hT rfl rfl rfl (by rfl)) ?_
 refine ab (bw rfl rfl)<|ag ?_
 refine aw rfl (fun hb1 => ?_) (fun hb1 => ?_)
 ·have hb1_ := cw hb1
  refine ae hP<|ak rfl<|ag<|am<|E1 rfl rfl ?_
  exact aW (decide_eq_false (fun e => hb1_ (by rw [e]))).symm
 have hb1_ := b9 hb1
 have hlen : l.length = m.length := by have := hb1_; omega
 refine aq<|ao<|ae hP<|aj rfl<|ab (aU hT rfl rfl rfl (by rfl)) ?_
 refine aj rfl<|ag<|aA<|bq (ι := Nat) (fun k => stL [(0, .p (.c (FS l))), (1, .p (.c (FS m))), (2, .p (.c (.v (.func (.func 165) #[] #[])))), (15, .p (.c (FS l))), (16, Z (l.length : Int)), (17, Z (k : Int))] []) (fun k => SmG l m k) (fun k => l.length - k) 0 (SmG.start hlen) (aG ⟨.refl _, .refl _, .refl _, .refl _, .refl _, .refl _, trivial⟩ trivial) ?_
 intro k hI
 have hk := hI.le
 refine ae hP<|ab (bi rfl rfl)<|ag<|ao ?_
 refine aw rfl (fun hb2 => ?_) (fun hb2 => ?_)
 ·have hb2_ := dT0 hb2
  refine aq<|ao<|aA<|ae hP<|aj rfl<|ab (gz hT (n := (k : Int)) rfl rfl rfl rfl rfl rfl (by omega)) ?_
  refine ab (bo hT rfl rfl rfl (cs := FC (l.getD k ⟨0, 0, 0⟩)) rfl rfl) ?_
  refine an ai (ay hT rfl rfl)<|ak rfl<|aE hT rfl<|ag<|ae hP<|aj rfl<|aj rfl<|ab (gz hT (n := (k : Int)) rfl rfl rfl rfl rfl rfl (by omega)) ?_
  refine ab (bo hT rfl rfl rfl (cs := FC (m.getD k ⟨0, 0, 0⟩)) rfl rfl) ?_
  refine an ai (ay hT rfl rfl)<|aE hT rfl<|ag<|ae hP<|aj rfl<|bD hT rfl rfl rfl rfl rfl rfl<|bD hT rfl rfl rfl rfl rfl rfl<|ab (Eff.callF rfl (nZ _ _ _ _ _ _)) ?_
  refine ab (bA rfl)<|ag ?_
  refine aw rfl (fun hb3 => ?_) (fun hb3 => ?_)
  ·have hb3_ := (cy hb3)
   refine ae hP<|ak rfl<|ag<|am<|E1 rfl rfl ?_
   exact aW (decide_eq_false (SmG.no (d := ⟨0, 0, 0⟩) (fun e => dF0 (cy hb3) ⟨congrArg Fm.a e, congrArg Fm.b e, congrArg Fm.c e⟩))).symm
  have hb3_ := (cn hb3)
  refine aq<|av hP<|bH rfl rfl ?_
  refine aj rfl<|ag ?_
  refine ⟨k + 1, hI.next (d := ⟨0, 0, 0⟩) (by omega) (Fm.ext (dT0 (cn hb3)).1 (dT0 (cn hb3)).2.1 (dT0 (cn hb3)).2.2), by omega, aG ⟨.refl _, .refl _, .refl _, .refl _, .refl _, aO (by omega), trivial⟩ trivial⟩
 have hb2_ := dF0 hb2
 refine aZ<|ae hP<|ak rfl<|ag<|am<|E1 rfl rfl ?_
 exact aW (decide_eq_true (hI.yes (by omega))).symm
theorem qo (l : List Fm) (F : FuncId) (caps : List (List DV)) (p : Fm → Bool) (hc : ∀ g : Fm, aF Tryz.prog F ([FA g.a g.b g.c] ++ caps.map .ip) (B (p g))) (hl : (l.length : Int) ≤ 1000000000) :
  aF Tryz.prog 204 [.p (.c (FS l)), .fn F caps] (Z (iY p l 0)) := by
 refine aL Tryz.func204 rfl rfl rfl rfl ?_
 refine ae hP<|ak rfl<|ag<|ao<|ae hP<|aj rfl<|ab (aU hT rfl rfl rfl (by rfl)) ?_
 refine aj rfl<|ag<|aA<|bq (ι := Nat) (fun k => stL [(0, .p (.c (FS l))), (1, .fn F caps), (7, Z (l.length : Int)), (8, Z (k : Int))] []) (fun k => k ≤ l.length ∧ iY p l 0 = iY p (l.drop k) k) (fun k => l.length - k) 0 ⟨Nat.zero_le _, rfl⟩ (aG ⟨.refl _, .refl _, .refl _, .refl _, trivial⟩ trivial) ?_
 rintro k ⟨hk, hI⟩
 refine ae hP<|ab (bi rfl rfl)<|ag<|ao ?_
 refine aw rfl (fun hb1 => ?_) (fun hb1 => ?_)
 ·have hb1_ := dT0 hb1
  refine aq<|ao<|aA<|ae hP<|aj rfl<|ak rfl<|ag<|ae hP<|ab (az (rfl : _ = AV.fn _ _))<|aj rfl<|aj rfl<|ab (gz hT (n := (k : Int)) rfl rfl rfl rfl rfl rfl (by omega)) ?_
  refine ab (bo hT rfl rfl rfl (cs := FC (l.getD k ⟨0, 0, 0⟩)) rfl rfl) ?_
  refine ab (Eff.callC rfl (hc (l.getD k ⟨0, 0, 0⟩))) ?_
  refine ag ?_
  refine aw rfl (fun hb2 => ?_) (fun hb2 => ?_)
  ·refine ae hP<|aj rfl<|ak rfl<|ag<|am<|E1 rfl rfl ?_
   exact aO (hI.trans (AF (by omega) hb2)).symm
  refine aq<|av hP<|bH rfl rfl ?_
  refine aj rfl<|ag ?_
  refine ⟨k + 1, ⟨by omega, hI.trans (x8 (by omega) hb2)⟩, by omega, aG ⟨.refl _, .refl _, .refl _, aO (by omega), trivial⟩ trivial⟩
 have hb1_ := dF0 hb1
 refine aZ<|ae hP<|ak rfl<|ag<|am<|E1 rfl rfl ?_
 exact aO (hI.trans (AG (by omega))).symm
theorem nf (l : List Fm) (F : FuncId) (caps : List (List DV)) (p : Fm → Bool) (hc : ∀ g : Fm, aF Tryz.prog F ([FA g.a g.b g.c] ++ caps.map .ip) (B (p g))) (hl : (l.length : Int) ≤ 1000000000) :
  aF Tryz.prog 166 [.p (.c (FS l)), .fn F caps] (B (l.any p)) := by
 refine aL Tryz.func166 rfl rfl rfl rfl ?_
 refine ae hP<|ak rfl<|ag<|ae hP<|aj rfl<|ab (az (rfl : _ = AV.fn _ _))<|ab (ah (qo l F caps p hc hl)) ?_
 refine ab (dc rfl rfl)<|ak rfl<|ag<|am<|E1 rfl rfl ?_
 exact aW (sR l 0)
theorem rJ (a : Ans) (x : Int) (hx : bv x) :
  aF Tryz.prog 162 [Z x, .ip (anS a)] (B (decide (a.m = x))) := by
 refine aL Tryz.func162 rfl rfl rfl rfl ?_
 refine ae hP<|ak rfl<|ag<|ae hP<|ab (tM hT rfl rfl rfl rfl rfl rfl)<|ab (bo hT rfl rfl rfl (cs := enI a.m) rfl rfl)<|aj rfl<|ab (ah (ez x hx)) ?_
 refine ab (ah (fl _ _)) ?_
 refine ak rfl<|ag<|am<|E1 rfl rfl ?_
 exact .refl _
theorem zZ (g o : Fm) :
  aF Tryz.prog 167 [FA g.a g.b g.c, .ip [zn o.a, zm o.a, zn o.b, zm o.b, zn o.c, zm o.c]] (B (decide (g.a = o.a ∧ g.b = o.b ∧ g.c = o.c))) := by
 refine aL Tryz.func167 rfl rfl rfl rfl ?_
 refine ae hP<|an ai (aK rfl rfl)<|ak rfl<|ag<|ae hP<|bD hT rfl rfl rfl rfl rfl rfl<|ab (bo hT rfl rfl rfl (cs := [_, _, _, _, _, _]) rfl rfl)<|ab (ah (nZ _ _ _ _ _ _)) ?_
 refine ak rfl<|ag<|am<|E1 rfl rfl ?_
 exact .refl _
theorem DU (f : Fm) (D : Int) (m : Nat) (hfa : L 6 f.a) (hfb : L 6 f.b) (hfc : L 6 f.c) (hf : Cl D f) (hD : -4194304 ≤ D ∧ D < 0) (hm : 1 ≤ m ∧ m ≤ 65536) (hE : szE D = 0) (a : Ans) (hax : L 30 a.x) (hay : L 30 a.y) (hlr : (a.roots.length : Int) ≤ 1000000) (hlf : (a.forms.length : Int) ≤ 1000000) :
  aF Tryz.prog 101 [FA f.a f.b f.c, Z (m : Int), .p (.a (anS a))] (B (rgV D m f a)) := by
 have fa : LB f.a 6 := ⟨hfa⟩
 have fb : LB f.b 6 := ⟨hfb⟩
 have fc : LB f.c 6 := ⟨hfc⟩
 have iD : LB D 6 := ⟨by unfold L; omega⟩
 have hdf : dsc f.a f.b f.c = D := hf.disc
 have iax : LB a.x 30 := ⟨hax⟩
 have iay : LB a.y 30 := ⟨hay⟩
 have cDs : aF Tryz.prog 40 [FA f.a f.b f.c] (I D) := by rw [← hdf]; exact fE f.a f.b f.c lz lz lz
 have cRd : aF Tryz.prog 41 [FA f.a f.b f.c] (.t [PF f.rd, PM (rdM f.a f.b f.c), PE (rdE f.a f.b f.c)]) := gZ f.a f.b f.c lz lz lz
 have hfl := JK (D := D) (hm := hm.2)
 have cFn := fun g => zZ g f.rd
 refine aL Tryz.func101 rfl rfl rfl rfl ?_
 refine ae hP<|an ai (aK rfl rfl)<|an ai (aK rfl rfl)<|an ai (ay hT rfl rfl)<|ag<|ae hP<|bD hT rfl rfl rfl rfl rfl rfl<|ab (ah cDs) ?_
 refine an ai (ay hT rfl rfl)<|aE hT rfl<|ag<|ao<|ae hP<|aD hT rfl<|aY hT rfl rfl rfl rfl ?_
 refine ag<|aA<|ae hP<|ab (bp rfl rfl)<|ak rfl<|ag ?_
 refine aw rfl (fun hb1 => ?_) (fun hb1 => ?_)
 ·have hb1_ := bT hb1
  have k1 := bT hb1
  refine ae hP<|aD hT rfl<|au hT rfl<|aD hT rfl<|au hT rfl<|ab (ah (mA a.x a.y lz lz)) ?_
  refine ab (ah (ez 1 (by decide))) ?_
  refine ab (ah (fl _ _)) ?_
  refine aj rfl ?_
  refine bd (t := 28) rfl (fun hg2 => ?_) (fun hg2 => ?_)
  ·have hgc := hg2
   refine aB hg2 (aI hT rfl rfl rfl rfl (cs := [_, _, _, _, _, _]) rfl rfl) ?_
   refine aB hg2 (aJ hT rfl rfl rfl rfl rfl rfl) ?_
   refine aB hg2 (aI hT rfl rfl rfl rfl (cs := [_, _]) rfl rfl) ?_
   refine aB hg2 (aJ hT rfl rfl rfl rfl rfl rfl) ?_
   refine aB hg2 (aI hT rfl rfl rfl rfl (cs := [_, _]) rfl rfl) ?_
   refine aB hg2 (ah (oL f.a f.b f.c a.x a.y lz lz lz lz lz)) ?_
   refine aB hg2 (az (rfl : _ = AV.p (.c _))) ?_
   refine aB hg2 (ah (ez (m : Int) (by unfold bv; omega))) ?_
   refine aB hg2 (ah (fl _ _)) ?_
   refine ab (aN rfl hg2 (rfl : _ = AV.p (.c _)))<|aE hT rfl<|ag<|am ?_
   refine bS rfl (.inr rfl) (cg hT rfl rfl rfl rfl rfl) ?_ bt
   exact aW (Kh k1 hgc)
  have hgc := hg2
  iterate 9 refine a7 hg2 ?_
  refine ab (aP rfl hg2 (rfl : _ = AV.p (.c _)))<|aE hT rfl<|ag<|am ?_
  refine bS rfl (.inr rfl) (cg hT rfl rfl rfl rfl rfl) ?_ bt
  exact aW (IK k1 hgc)
 have hb1_ := bF hb1
 have k1 := bF hb1
 refine ae hP<|ab (bp rfl rfl)<|ak rfl<|ag ?_
 refine aw rfl (fun hb3 => ?_) (fun hb3 => ?_)
 ·have hb3_ := bT hb3
  have k2 := bT hb3
  refine cL (t := 5) rfl rfl ?_
  refine ae hP<|ab (jG rfl)<|an ai (ay hT rfl rfl)<|aE hT rfl<|ag<|ao<|ae hP<|bD hT rfl rfl rfl rfl rfl rfl<|aj rfl<|ab (ah (pQ f m)) ?_
  refine ag<|aA<|dF (t := stL [(1, Z (m : Int)), (3, .loc 3 0), (6, .loc 6 0), (7, .loc 7 0), (8, .loc 8 0), (44, .fn 137 [[zn f.a, zm f.a, zn f.b, zm f.b, zn f.c, zm f.c], [.v (.int .i64 (m : Int))]])] [(3, ⟨false, 1, 46, [zn f.a, zm f.a, zn f.b, zm f.b, zn f.c, zm f.c]⟩), (6, ⟨false, 1, 4, [.v (.bool false)]⟩), (7, ⟨false, 1, 29, [zn D, zm D]⟩), (8, ⟨false, 1, 183, [.fn 162 [.ip (anS a)]]⟩)]) (aG ⟨.refl _, .refl _, .refl _, .refl _, .refl _, .refl _, trivial⟩ ⟨rfl, rfl, rfl, rfl, trivial⟩) ?_
  refine e9 9 (fun _ => cO [(3, ⟨false, 1, 46, [zn f.a, zm f.a, zn f.b, zm f.b, zn f.c, zm f.c]⟩), (6, ⟨false, 1, 4, [.v (.bool false)]⟩), (7, ⟨false, 1, 29, [zn D, zm D]⟩), (8, ⟨false, 1, 183, [.fn 162 [.ip (anS a)]]⟩)]) (AgN D m f a.m) rfl (n9 f D m hfa hfb hfc hf hD hm hE) yx rfl rfl rfl AgN.start (fun k x hx hI => ?_) (fun hI => ?_)
  ·obtain ⟨c, hc, rfl⟩ := Cg hx
   refine av hP<|ak rfl<|ag<|aA<|ae hP<|aY hT rfl rfl rfl rfl ?_
   refine aj rfl<|ab (Eff.callD (caps := [anS a]) rfl (rJ a c (by have := Ig hD hc; unfold bv; omega))) ?_
   refine ag ?_
   refine aw rfl (fun hb4 => ?_) (fun hb4 => ?_)
   ·have he := dT0 hb4
    refine ae hP<|aE hT rfl<|ag<|am ?_
    refine ⟨_, GW.forget fun _ => .inl rfl, ?_⟩
    refine bS rfl (.inr rfl) (cg hT rfl rfl rfl rfl rfl) ?_ bt
    exact aW (zA k1 k2 (Gs hc he))
   have he := dF0 hb4
   refine aq ?_
   exact ⟨GW.forget fun x => SubO.own (l := [(3, ⟨false, 1, 46, [zn f.a, zm f.a, zn f.b, zm f.b, zn f.c, zm f.c]⟩), (6, ⟨false, 1, 4, [.v (.bool false)]⟩), (7, ⟨false, 1, 29, [zn D, zm D]⟩), (8, ⟨false, 1, 183, [.fn 162 [.ip (anS a)]]⟩)]) ⟨rfl, rfl, rfl, rfl, trivial⟩ x, hI.next hc he⟩
  have hna := hI.done rfl
  clear hI
  refine ao<|ae hP<|aj rfl<|an ai (Eff.callG (uG m)) ?_
  refine ag<|aA<|dF (t := stL [(50, .fnl 135 50), (1, Z (m : Int)), (3, .loc 3 0), (6, .loc 6 0), (7, .loc 7 0), (8, .loc 8 0)] ((50, ⟨false, 1, 3, [.v (.int .i64 ((m : Nat) : Int))]⟩) :: [(3, ⟨false, 1, 46, [zn f.a, zm f.a, zn f.b, zm f.b, zn f.c, zm f.c]⟩), (6, ⟨false, 1, 4, [.v (.bool false)]⟩), (7, ⟨false, 1, 29, [zn D, zm D]⟩), (8, ⟨false, 1, 183, [.fn 162 [.ip (anS a)]]⟩)])) (aG ⟨.refl _, .refl _, .refl _, .refl _, .refl _, .refl _, trivial⟩ ⟨rfl, rfl, rfl, rfl, rfl, trivial⟩) ?_
  refine oz (l := [(1, Z (m : Int)), (3, .loc 3 0), (6, .loc 6 0), (7, .loc 7 0), (8, .loc 8 0)]) (o := cO ((50, ⟨false, 1, 3, [.v (.int .i64 ((m : Nat) : Int))]⟩) :: [(3, ⟨false, 1, 46, [zn f.a, zm f.a, zn f.b, zm f.b, zn f.c, zm f.c]⟩), (6, ⟨false, 1, 4, [.v (.bool false)]⟩), (7, ⟨false, 1, 29, [zn D, zm D]⟩), (8, ⟨false, 1, 183, [.fn 162 [.ip (anS a)]]⟩)])) 51 (fun _ => cO [(3, ⟨false, 1, 46, [zn f.a, zm f.a, zn f.b, zm f.b, zn f.c, zm f.c]⟩), (6, ⟨false, 1, 4, [.v (.bool false)]⟩), (7, ⟨false, 1, 29, [zn D, zm D]⟩), (8, ⟨false, 1, 183, [.fn 162 [.ip (anS a)]]⟩)]) (PtX m a.m) (rN m hm) rfl rfl rfl rfl (rR rfl) xv rfl rfl rfl PtX.start (fun k x hx hI => ?_) (fun hI => ?_)
  ·obtain ⟨q, hq, rfl⟩ := BV hx
   refine av hP<|ak rfl<|ag<|aA<|ae hP<|aY hT rfl rfl rfl rfl ?_
   refine aj rfl<|ab (Eff.callD (caps := [anS a]) rfl (rJ a (q : Int) (by have := vJ hm hq; unfold bv; omega))) ?_
   refine ag ?_
   refine aw rfl (fun hb5 => ?_) (fun hb5 => ?_)
   ·have he := dT0 hb5
    refine ae hP<|au hT rfl<|aj rfl<|ab (ah (pP D q hD (vJ hm hq))) ?_
    refine aE hT rfl<|ag<|am ?_
    refine ⟨_, GW.forget fun _ => .inl rfl, ?_⟩
    refine bS rfl (.inr rfl) (cg hT rfl rfl rfl rfl rfl) ?_ bt
    exact aW (zA k1 k2 (Gq hna hq he))
   have he := dF0 hb5
   refine aq ?_
   exact ⟨GW.forget fun x => SubO.own (l := [(3, ⟨false, 1, 46, [zn f.a, zm f.a, zn f.b, zm f.b, zn f.c, zm f.c]⟩), (6, ⟨false, 1, 4, [.v (.bool false)]⟩), (7, ⟨false, 1, 29, [zn D, zm D]⟩), (8, ⟨false, 1, 183, [.fn 162 [.ip (anS a)]]⟩)]) ⟨rfl, rfl, rfl, rfl, trivial⟩ x, hI.next hq he⟩
  refine ae hP<|aE hT rfl<|ag<|am ?_
  refine bS rfl (.inr rfl) (cg hT rfl rfl rfl rfl rfl) ?_ bt
  exact aW (zA k1 k2 (Gr hna hI rfl))
 have hb3_ := bF hb3
 have k2 := bF hb3
 refine aq<|ae hP<|bD hT rfl rfl rfl rfl rfl rfl<|ab (ah cRd) ?_
 refine ab (az (rfl : _ = AV.t _))<|ab (aC rfl (v := .a _) rfl)<|ab (aC rfl (v := .a _) rfl)<|ab (aC rfl (v := .c _) rfl)<|an ai (ay hT rfl rfl)<|an ai (ay hT rfl rfl)<|aE hT rfl<|aE hT rfl<|ak rfl<|ag<|ae hP<|au hT rfl<|aj rfl<|ab (ah (pO D m hD hm)) ?_
 refine ak rfl<|ag<|cL (t := 11) rfl rfl ?_
 refine ae hP<|aj rfl<|ab (aU hT rfl rfl rfl (by rfl)) ?_
 refine ab (bV rfl rfl)<|aj rfl ?_
 refine bd (t := 70) rfl (fun hg6 => ?_) (fun hg6 => ?_)
 ·have hg6_ := dT0 hg6
  have q1 := hg6
  refine aB hg6 (aJ hT rfl rfl rfl rfl rfl rfl) ?_
  refine aB hg6 (bG hT rfl rfl rfl rfl (by first | rfl | exact dz (by omega))) ?_
  refine aB hg6 (aI hT rfl rfl rfl rfl (cs := [_, _]) rfl rfl) ?_
  refine aB hg6 (az (rfl : _ = AV.p (.c _))) ?_
  refine aB hg6 (ah (rP D m hD hm)) ?_
  refine aB hg6 (ah (qp a.roots (rbL D m) (by omega))) ?_
  refine ab (aN rfl hg6 (rfl : _ = AV.p (.c _)))<|aj rfl ?_
  refine bd (t := 78) rfl (fun hg7 => ?_) (fun hg7 => ?_)
  ·have q2 := hg7
   refine aB hg7 (aJ hT rfl rfl rfl rfl rfl rfl) ?_
   refine aB hg7 (bG hT rfl rfl rfl rfl (by first | rfl | exact dz (by omega))) ?_
   refine aB hg7 (az (rfl : _ = AV.p (.c _))) ?_
   refine aB hg7 (ah (qt a.forms (fmL D m) (by omega))) ?_
   refine ab (aN rfl hg7 (rfl : _ = AV.p (.c _)))<|aj rfl ?_
   refine bd (t := 84) rfl (fun hg8 => ?_) (fun hg8 => ?_)
   ·have q3 := hg8
    refine aB hg8 (az (rfl : _ = AV.p (.c _))) ?_
    refine aB hg8 (mQ rfl) ?_
    refine aB hg8 (ah (nf (fmL D m) 167 [[zn f.rd.a, zm f.rd.a, zn f.rd.b, zm f.rd.b, zn f.rd.c, zm f.rd.c]] _ cFn (by omega))) ?_
    refine aB hg8 (bA rfl) ?_
    refine ab (aN rfl hg8 (rfl : _ = AV.p (.c _)))<|aE hT rfl<|ag<|am ?_
    refine bS rfl (.inr rfl) (cg hT rfl rfl rfl rfl rfl) ?_ bt
    exact aW (vx k1 k2 (by rw [rg3 q1 q2 q3, Ic]))
   have q3 := hg8
   iterate 4 refine a7 hg8 ?_
   refine ab (aP rfl hg8 (rfl : _ = AV.p (.c _)))<|aE hT rfl<|ag<|am ?_
   refine bS rfl (.inr rfl) (cg hT rfl rfl rfl rfl rfl) ?_ bt
   exact aW (vx k1 k2 (IV q3))
  have q2 := hg7
  iterate 4 refine a7 hg7 ?_
  refine ab (aP rfl hg7 (rfl : _ = AV.p (.c _)))<|aj rfl<|a7 rfl ?_
  iterate 3 refine a7 rfl ?_
  refine ab (aP rfl rfl (rfl : _ = AV.p (.c _)))<|aE hT rfl<|ag<|am ?_
  refine bS rfl (.inr rfl) (cg hT rfl rfl rfl rfl rfl) ?_ bt
  exact aW (vx k1 k2 (IW q2))
 have hg6_ := dF0 hg6
 have q1 := hg6
 iterate 6 refine a7 hg6 ?_
 refine ab (aP rfl hg6 (rfl : _ = AV.p (.c _)))<|aj rfl<|a7 rfl ?_
 iterate 3 refine a7 rfl ?_
 refine ab (aP rfl rfl (rfl : _ = AV.p (.c _)))<|aj rfl<|a7 rfl ?_
 iterate 3 refine a7 rfl ?_
 refine ab (aP rfl rfl (rfl : _ = AV.p (.c _)))<|aE hT rfl<|ag<|am ?_
 refine bS rfl (.inr rfl) (cg hT rfl rfl rfl rfl rfl) ?_ bt
 exact aW (vx k1 k2 (IX q1))
end
section
open Go Go.AM
theorem DX (f : Fm) (D : Int) (m : Nat) (hfa : L 6 f.a) (hfb : L 6 f.b) (hfc : L 6 f.c) (hf : Cl D f) (hD : -4194304 ≤ D ∧ D < 0) (hm : 1 ≤ m ∧ m ≤ 65536) (hE : szE D = 0) (a : RA) (hok : ∀ r ∈ a.nums, okW r.2) (hsz : ∀ r ∈ a.nums, r.2.length ≤ 1000) (hlr : a.roots.length ≤ 100000) (hlf : a.forms.length ≤ 100000) :
  aF Tryz.prog 34 [FA f.a f.b f.c, Z (m : Int), .p (.a (raS a))] (.t [PB (rgA D m f a), PE 0]) := by
 have fa : LB f.a 6 := ⟨hfa⟩
 have fb : LB f.b 6 := ⟨hfb⟩
 have fc : LB f.c 6 := ⟨hfc⟩
 have hdf : dsc f.a f.b f.c = D := hf.disc
 have h0m : 0 < (m : Int) := by omega
 have cRf : aF Tryz.prog 65 [FA f.a f.b f.c, Z (m : Int)] (Z 0) := by
  have h := lJ f m hfa hfb hfc
  rwa [wL hf hm] at h
 refine aL Tryz.func34 rfl rfl rfl rfl ?_
 refine ae hP<|an ai (aK rfl rfl)<|an ai (aK rfl rfl)<|ak rfl<|ak rfl<|ag<|ao<|ae hP<|bD hT rfl rfl rfl rfl rfl rfl<|aj rfl<|ab (ah cRf) ?_
 refine ak rfl<|ag<|ae hP<|aj rfl<|ab (bw rfl rfl)<|ag<|aT rfl rfl<|aq<|cz (ι := Unit) (fun _ => stL [(1, Z (m : Int)), (3, .loc 3 0), (5, .loc 5 0), (9, B (decide (a.x.2 = []) && decide (a.y.2 = []))), (10, B (decide (a.m.2 = []))), (11, B (decide (((a.roots.length + a.forms.length : Nat) : Int) = 0)))] [(3, ⟨false, 1, 46, [zn f.a, zm f.a, zn f.b, zm f.b, zn f.c, zm f.c]⟩), (5, ⟨false, 1, 42, raS a⟩)]) (fun _ => True) ?_ ?_
 ·refine av hP<|aD hT rfl<|au hT rfl<|ab (ah (jV a.x)) ?_
  refine aj rfl ?_
  refine bd (t := 27) rfl (fun hg1 => ?_) (fun hg1 => ?_)
  ·refine aB hg1 (aJ hT rfl rfl rfl rfl rfl rfl) ?_
   refine aB hg1 (aI hT rfl rfl rfl rfl (cs := [_, _]) rfl rfl) ?_
   refine aB hg1 (ah (jV a.y)) ?_
   refine ab (aN rfl hg1 (rfl : _ = AV.p (.c _)))<|aD hT rfl<|au hT rfl<|ab (ah (jV a.m)) ?_
   refine aD hT rfl<|aY hT rfl rfl rfl rfl ?_
   refine ab (aU hT rfl rfl rfl (by rfl)) ?_
   refine aD hT rfl<|aY hT rfl rfl rfl rfl ?_
   refine ab (aU hT rfl rfl rfl (by rfl)) ?_
   refine bH rfl rfl ?_
   refine ab (bp rfl rfl)<|ak rfl<|ak rfl<|ak rfl<|ag ?_
   refine ⟨(), trivial, aG ⟨.refl _, .refl _, .refl _, aW (by rw [hg1, Bool.true_and]), .refl _, aW uR, trivial⟩ ⟨rfl, rfl, trivial⟩⟩
  iterate 3 refine a7 hg1 ?_
  refine ab (aP rfl hg1 (rfl : _ = AV.p (.c _)))<|aD hT rfl<|au hT rfl<|ab (ah (jV a.m)) ?_
  refine aD hT rfl<|aY hT rfl rfl rfl rfl ?_
  refine ab (aU hT rfl rfl rfl (by rfl)) ?_
  refine aD hT rfl<|aY hT rfl rfl rfl rfl ?_
  refine ab (aU hT rfl rfl rfl (by rfl)) ?_
  refine bH rfl rfl ?_
  refine ab (bp rfl rfl)<|ak rfl<|ak rfl<|ak rfl<|ag ?_
  refine ⟨(), trivial, aG ⟨.refl _, .refl _, .refl _, aW (by rw [hg1, Bool.false_and]), .refl _, aW uR, trivial⟩ ⟨rfl, rfl, trivial⟩⟩
 intro _ _
 refine ae hP<|aD hT rfl<|au hT rfl<|aD hT rfl<|au hT rfl<|aD hT rfl<|au hT rfl<|an ai (iV hT rfl rfl rfl (es := [_, _, _, _, _, _]) rfl rfl rfl) ?_
 refine aD hT rfl<|aY hT rfl rfl rfl rfl ?_
 refine RK.app ai (fF hT rfl rfl rfl rfl rfl rfl rfl rfl rfl rfl (dH nW _) rfl (by show 32 * (6 + a.roots.length * 2) ≤ _; omega) rfl (by decide)) ?_
 refine ab (bl (rfl : _ = AV.vec _))<|ag<|dx 52 1000 rfl rfl rfl ?_
 refine ao<|ae hP<|aD hT rfl<|aY hT rfl rfl rfl rfl ?_
 refine ab (aU hT rfl rfl rfl (by rfl)) ?_
 refine aj rfl<|ag<|aA<|bq (ι := Nat) (fun k => stL [(1, Z (m : Int)), (3, .loc 3 0), (5, .loc 5 0), (9, B (decide (a.x.2 = []) && decide (a.y.2 = []))), (10, B (decide (a.m.2 = []))), (11, B (decide (((a.roots.length + a.forms.length : Nat) : Int) = 0))), (12, .vec 1000), (54, .p (.c (SL rfC a.forms))), (55, Z (a.forms.length : Int)), (56, Z (k : Int))] [(3, ⟨false, 1, 46, [zn f.a, zm f.a, zn f.b, zm f.b, zn f.c, zm f.c]⟩), (5, ⟨false, 1, 42, raS a⟩), (1000, VB 2 29 rC (eK a k))]) (fun k => k ≤ a.forms.length) (fun k => a.forms.length - k) 0 (Nat.zero_le _) (aG ⟨.refl _, .refl _, .refl _, .refl _, .refl _, .refl _, .refl _, .refl _, .refl _, .refl _, trivial⟩ ⟨rfl, rfl, Eq.trans rfl (congrArg (fun cs => some (⟨true, 2, 29, cs⟩ : Blk)) (G9 a)), trivial⟩) ?_
 intro k hk
 refine ae hP<|ab (bi rfl rfl)<|ag<|ao ?_
 refine aw rfl (fun hb2 => ?_) (fun hb2 => ?_)
 ·have hb2_ := dT0 hb2
  have hfk := kX (l := a.forms) (k := k) (by omega) ((false, []), (false, []), (false, []))
  refine aq<|ao<|aA<|ae hP<|ab (dM hT Dq (by decide) ((false, []), (false, []), (false, [])) (n := (k : Int)) (l := a.forms) rfl rfl rfl rfl rfl rfl (by omega)) ?_
  refine ab (bo hT rfl rfl rfl (cs := rfC (a.forms.getD k ((false, []), (false, []), (false, [])))) rfl rfl) ?_
  refine an ai (ay hT rfl rfl)<|aE hT rfl<|ag<|av hP<|ab (az (rfl : _ = AV.vec _))<|aD hT rfl<|au hT rfl<|aD hT rfl<|au hT rfl<|aD hT rfl<|au hT rfl<|ab (bj hT rfl rfl rfl (es := [_, _, _, _, _, _]) rfl rfl rfl)<|RK.app ai (fF hT rfl rfl rfl rfl rfl rfl rfl rfl rfl rfl rfl rfl (by show 32 * (((eK a k).flatMap rC).length + 3 * 2) ≤ _; rw [dH nW]; have := r9 (a := a) (k := k); omega) rfl (by decide)) ?_
  refine ab (bl (rfl : _ = AV.vec _))<|ag<|dx 68 1000 rfl rfl rfl ?_
  refine av hP<|bH rfl rfl ?_
  refine aj rfl<|ag ?_
  refine ⟨k + 1, by omega, by omega, aG ⟨.refl _, .refl _, .refl _, .refl _, .refl _, .refl _, .refl _, .refl _, .refl _, aO (by omega), trivial⟩ ⟨rfl, rfl, Eq.trans rfl (congrArg (fun cs => some (⟨true, 2, 29, cs⟩ : Blk)) (G8 hfk)), trivial⟩⟩
 have hb2_ := dF0 hb2
 have hnk := Ac (a := a) (k := k) (by omega)
 have hnl := r9 (a := a) (k := k)
 refine aZ<|ki (encD := rC) nW rfl (t := 12) rfl rfl ?_
 refine ao<|ae hP<|aj rfl<|ab (aU hT rfl rfl rfl (by rfl)) ?_
 refine aj rfl<|ag<|aA<|bq (ι := Nat) (fun j => stL [(1, Z (m : Int)), (3, .loc 3 0), (5, .loc 5 0), (9, B (decide (a.x.2 = []) && decide (a.y.2 = []))), (10, B (decide (a.m.2 = []))), (11, B (decide (((a.roots.length + a.forms.length : Nat) : Int) = 0))), (70, .p (.c (SL rC (eK a k)))), (71, Z ((eK a k).length : Int)), (72, Z (j : Int))] [(3, ⟨false, 1, 46, [zn f.a, zm f.a, zn f.b, zm f.b, zn f.c, zm f.c]⟩), (5, ⟨false, 1, 42, raS a⟩)]) (fun j => j ≤ (eK a k).length ∧ VaK (eK a k) j) (fun j => (eK a k).length - j) 0 ⟨Nat.zero_le _, VaK.start⟩ (aG ⟨.refl _, .refl _, .refl _, .refl _, .refl _, .refl _, .refl _, .refl _, .refl _, trivial⟩ ⟨rfl, rfl, trivial⟩) ?_
 rintro j ⟨hj, hI⟩
 refine ae hP<|ab (bi rfl rfl)<|ag<|ao ?_
 refine aw rfl (fun hb3 => ?_) (fun hb3 => ?_)
 ·have hb3_ := dT0 hb3
  have hmj : ((eK a k).getD j (false, [])) ∈ a.nums := hnk ▸ qe (by omega)
  refine aq<|ao<|aA<|ae hP<|ab (dM hT nW (by decide) (false, []) (n := (j : Int)) (l := (eK a k)) rfl rfl rfl rfl rfl rfl (by omega)) ?_
  refine ab (bo hT rfl rfl rfl (cs := rC ((eK a k).getD j (false, []))) rfl rfl) ?_
  refine an ai (ay hT rfl rfl)<|aE hT rfl<|ag<|ae hP<|au hT rfl<|ab (ah (wo ((eK a k).getD j (false, [])) (by have := hsz _ hmj; omega))) ?_
  refine ab (bA rfl)<|ag ?_
  refine aw rfl (fun hb4 => ?_) (fun hb4 => ?_)
  ·have hb4_ := (cy hb4)
   refine ae hP<|ak rfl<|ak rfl<|ag<|am<|E11 rfl rfl rfl ?_
   exact aH (congrArg (fun b => AV.t [PB b, PE 0]) (H4 hmj (cy hb4)))
  have hb4_ := (cn hb4)
  refine aq<|av hP<|bH rfl rfl ?_
  refine aj rfl<|ag ?_
  refine ⟨j + 1, ⟨by omega, hI.next (d := (false, [])) (by omega) (cn hb4)⟩, by omega, aG ⟨.refl _, .refl _, .refl _, .refl _, .refl _, .refl _, .refl _, .refl _, aO (by omega), trivial⟩ ⟨rfl, rfl, trivial⟩⟩
 have hb3_ := dF0 hb3
 have hva := hI.done (by omega)
 rw [hnk] at hva
 have hall := fun r hr => And.intro (hok r hr) (hva r hr)
 have hax : L 30 a.ans.x := GK (hok _ GB) (hsz _ GB)
 have hay : L 30 a.ans.y := GK (hok _ GA) (hsz _ GA)
 refine aZ<|ao<|dF (t := stL [(1, Z (m : Int)), (3, .loc 3 0), (5, .loc 5 0), (9, B (decide (a.x.2 = []) && decide (a.y.2 = []))), (10, B (decide (a.m.2 = []))), (11, B (decide (((a.roots.length + a.forms.length : Nat) : Int) = 0)))] [(3, ⟨false, 1, 46, [zn f.a, zm f.a, zn f.b, zm f.b, zn f.c, zm f.c]⟩), (5, ⟨false, 1, 42, anS a.ans⟩)]) (aG ⟨.refl _, .refl _, .refl _, .refl _, .refl _, .refl _, trivial⟩ ⟨rfl, Eq.trans rfl (congrArg (fun cs => some (⟨false, 1, 42, cs⟩ : Blk)) (uw hall)), trivial⟩) ?_
 refine tS rfl ?_
 refine RM.mv (.inl rfl) rfl ?_
 refine RM.mv (.inl rfl) rfl ?_
 refine RM.and rfl rfl rfl rfl ?_
 refine RM.insert Tryz.underlying156 Tryz.underlying3 rfl rfl ?_
 refine RM.mv (.inl rfl) rfl ?_
 refine RM.mv (.inl rfl) rfl ?_
 refine RM.and rfl rfl rfl rfl ?_
 refine RM.insert Tryz.underlying156 Tryz.underlying3 rfl rfl ?_
 refine RM.mv (.inl rfl) rfl ?_
 refine RM.mv (.inl rfl) rfl ?_
 refine RM.and rfl rfl rfl rfl ?_
 refine RM.insert Tryz.underlying156 Tryz.underlying3 rfl rfl ?_
 refine RM.freeze ?_
 refine RT.mv (.inl rfl) rfl ?_
 refine RT.mv (.inr rfl) rfl ?_
 refine RT.done ?_
 refine ae hP<|ab (az (rfl : _ = AV.ax _))<|aD hT rfl<|aY hT rfl rfl rfl rfl ?_
 refine ab (vR (l := nI a) (n := a.kind) Tryz.underlying156 Tryz.underlying3 (fun _ => by kernel_rfl) rfl rfl rfl) ?_
 refine aj rfl ?_
 refine bd (t := 98) rfl (fun hg5 => ?_) (fun hg5 => ?_)
 ·have hu := hg5
  refine aB hg5 (aI hT rfl rfl rfl rfl (cs := [_, _, _, _, _, _]) rfl rfl) ?_
  refine aB hg5 (az (rfl : _ = AV.p (.c _))) ?_
  refine aB hg5 (aI hT rfl rfl rfl rfl (cs := [_, _, _, _, _, _, _, _, _]) rfl rfl) ?_
  refine aB hg5 (ah (DU f D m hfa hfb hfc hf hD hm hE a.ans hax hay (by rw [ra_len.1]; omega) (by rw [ra_len.2]; omega))) ?_
  refine ab (aN rfl hg5 (rfl : _ = AV.p (.c _)))<|ak rfl<|ak rfl<|ag<|am<|E11 rfl rfl rfl ?_
  exact aH (congrArg (fun b => AV.t [PB b, PE 0]) (JT hva rfl hu))
 have hu := hg5
 iterate 4 refine a7 hg5 ?_
 refine ab (aP rfl hg5 (rfl : _ = AV.p (.c _)))<|ak rfl<|ak rfl<|ag<|am<|E11 rfl rfl rfl ?_
 exact aH (congrArg (fun b => AV.t [PB b, PE 0]) (JU hva rfl hu))
end
section
open Go Go.AM
end
section
open Go Go.AM
end
section
open Go Go.AM
end
end Go.Proofs.YthaiejfjnllglaaGreatDoor
