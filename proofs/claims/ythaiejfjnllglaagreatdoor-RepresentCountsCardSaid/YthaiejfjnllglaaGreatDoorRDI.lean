import Derived.Test.YthaiejfjnllglaaGreatDoorRDF
import Derived.Test.YthaiejfjnllglaaGreatDoorRDC
import Derived.Test.YthaiejfjnllglaaGreatDoorRDH
import Derived.Test.YthaiejfjnllglaaGreatDoorRDE
import Derived.Test.YthaiejfjnllglaaGreatDoorRDG
set_option maxRecDepth 100000
set_option maxHeartbeats 16000000
namespace Go.Proofs.YthaiejfjnllglaaGreatDoor
section
open Go Go.AM
theorem to (l m : List Fm) (hl : (l.length : Int) ≤ 1000000000) :
  aF Tryz.prog 49 [.p (.c (FS l)), .p (.c (FS m))] (B (decide (l = m))) := by
 refine aK Tryz.func49 rfl rfl rfl rfl ?_
 refine ae hP<|ak rfl<|ag<|ao<|ae hP<|aj rfl<|ab (aU hT rfl rfl rfl (by rfl)) ?_
 refine aj rfl<|ab (aU hT rfl rfl rfl (by rfl)) ?_
 refine ab (bB rfl rfl)<|ag ?_
 refine aw rfl (fun hb1 => ?_) (fun hb1 => ?_)
 ·have hb1_ := cy hb1
  refine ae hP<|ak rfl<|ag<|am<|E1 rfl rfl ?_
  exact aX (G5 hb1_)
 have hb1_ := cf hb1
 refine aq<|ao<|ae hP<|ak rfl<|ag<|aA<|bp (ι := Nat) (fun k => stL [(0, .p (.c (FS l))), (1, .p (.c (FS m))), (5, Z (k : Int))] []) (fun k => SmI l m k) (fun k => l.length - k) 0 (SmI.start l m) (aE ⟨.refl _, .refl _, .refl _, trivial⟩ trivial) ?_
 intro k hI
 have hk := hI.k1
 refine ao<|ae hP<|aj rfl<|aj rfl<|ab (aU hT rfl rfl rfl (by rfl)) ?_
 refine ab (bi rfl rfl)<|ag ?_
 refine aw rfl (fun hb2 => ?_) (fun hb2 => ?_)
 ·have hb2_ := of_decide_eq_true hb2
  refine aq<|ao<|aA<|ae hP<|aj rfl<|aj rfl<|ab (gu hT rfl rfl rfl rfl rfl rfl (by omega)) ?_
  refine ab (a6 hT rfl rfl rfl (cs := FC (l.getD k ⟨0, 0, 0⟩)) rfl rfl) ?_
  refine aj rfl<|aj rfl<|ab (gu hT rfl rfl rfl rfl rfl rfl (by omega)) ?_
  refine ab (a6 hT rfl rfl rfl (cs := FC (m.getD k ⟨0, 0, 0⟩)) rfl rfl) ?_
  refine ab (ah (qZ ((l.getD k ⟨0, 0, 0⟩)).a ((l.getD k ⟨0, 0, 0⟩)).b ((l.getD k ⟨0, 0, 0⟩)).c (m.getD k ⟨0, 0, 0⟩).a (m.getD k ⟨0, 0, 0⟩).b (m.getD k ⟨0, 0, 0⟩).c)) ?_
  refine ab (bE rfl)<|ag ?_
  refine aw rfl (fun hb3 => ?_) (fun hb3 => ?_)
  ·have hb3_ := (cB hb3)
   refine ae hP<|ak rfl<|ag<|am<|E1 rfl rfl ?_
   exact aX (SmI.no (l := l) (m := m) (k := k) (cB hb3))
  have hb3_ := (cq hb3)
  refine aq<|av hP<|aj rfl<|bI rfl rfl ?_
  refine ak rfl<|ag ?_
  refine ⟨k + 1, hI.next (by omega) (cq hb3), by omega, aE ⟨.refl _, .refl _, aJ (by omega), trivial⟩ trivial⟩
 have hb2_ := of_decide_eq_false hb2
 refine aZ<|ae hP<|ak rfl<|ag<|am<|E1 rfl rfl ?_
 exact aX (hI.yes hb1_ hb2_)
end
section
open Go Go.AM
theorem kM (f : Fm) (D : Int) (m : Nat) (hfa : L 6 f.a) (hfb : L 6 f.b) (hfc : L 6 f.c) (hf : Cl D f) (hD : -4194304 ≤ D ∧ D < 0) (hm : 1 ≤ m ∧ m ≤ 65536) (hE : szE D = 0) :
  aF Tryz.prog 30 [FA f.a f.b f.c, Z (m : Int)] (.p (.a (anS (fnd D m f) ++ [.v (.int .i64 0)]))) := by
 have cF : aF Tryz.prog 17 [FA f.a f.b f.c, Z (m : Int)] (.t [.a (anS (fnd D m f)), PE 0]) := GG f D m hfa hfb hfc hf hD hm hE
 refine aK Tryz.func30 rfl rfl rfl rfl ?_
 refine ae hP<|an ai (aI rfl rfl)<|an ai (ay hT rfl rfl)<|ag<|ae hP<|bH hT rfl rfl rfl rfl rfl rfl<|aj rfl<|ab (ah cF) ?_
 refine ab (az (rfl : _ = AV.t _))<|ab (aC rfl (v := .a _) rfl)<|ab (aC rfl (v := .c _) rfl)<|an ai (ay hT rfl rfl)<|aD hT rfl rfl rfl rfl rfl rfl rfl<|ak rfl<|ag<|ae hP<|ab (aL hT rfl rfl rfl rfl (cs := [_, _, _, _, _, _, _, _, _]) rfl rfl)<|aj rfl<|ab (aV hT rfl rfl rfl (es := [_, _, _, _, _, _, _, _, _, _]) rfl)<|aD hT rfl rfl rfl rfl rfl rfl rfl<|ag<|am ?_
 refine bV rfl (.inr rfl) (aQ hT rfl rfl rfl rfl (cs := [_, _, _, _, _, _, _, _, _, _]) rfl rfl) ?_ bw
 exact .refl _
theorem r5 (f : Fm) (D : Int) (m : Nat) (hfa : L 6 f.a) (hfb : L 6 f.b) (hfc : L 6 f.c) (hf : Cl D f) (hD : -4194304 ≤ D ∧ D < 0) (hm : 1 ≤ m ∧ m ≤ 65536) (hE : szE D = 0) (a : RA) (hok : ∀ r ∈ a.nums, okW r.2) (hsz : ∀ r ∈ a.nums, r.2.length ≤ 1000) (hlr : a.roots.length ≤ 100000) (hlf : a.forms.length ≤ 100000) :
  aF Tryz.prog 36 [FA f.a f.b f.c, Z (m : Int), .p (.a (raS a))] (B (rgA D m f a)) := by
 refine aK Tryz.func36 rfl rfl rfl rfl ?_
 refine ae hP<|an ai (aI rfl rfl)<|an ai (aI rfl rfl)<|ak rfl<|ag<|ae hP<|bH hT rfl rfl rfl rfl rfl rfl<|aj rfl<|ab (aL hT rfl rfl rfl rfl (cs := [_, _, _, _, _, _, _, _, _]) rfl rfl)<|ab (ah (DC f D m hfa hfb hfc hf hD hm hE a hok hsz hlr hlf)) ?_
 refine ab (az (rfl : _ = AV.t _))<|ab (aC rfl (v := .c _) rfl)<|ab (aC rfl (v := .c _) rfl)<|ak rfl<|ak rfl<|ag<|ae hP<|aj rfl<|aj rfl ?_
 refine bf (t := 17) rfl (fun hg1 => ?_) (fun hg1 => ?_)
 ·have hv := hg1
  refine aB hg1 (az (rfl : _ = AV.p (.c _))) ?_
  refine aB hg1 (br rfl rfl) ?_
  refine ab (aO rfl hg1 (rfl : _ = AV.p (.c _)))<|ak rfl<|ag<|am<|E1 rfl rfl ?_
  exact aX hv.symm
 have hv := hg1
 refine bd hg1 ?_
 refine bd hg1 ?_
 refine ab (aN rfl hg1 (rfl : _ = AV.p (.c _)))<|ak rfl<|ag<|am<|E1 rfl rfl ?_
 exact aX hv.symm
theorem mJ (f : Fm) (D : Int) (m : Nat) (hfa : L 6 f.a) (hfb : L 6 f.b) (hfc : L 6 f.c) (hf : Cl D f) (hD : -4194304 ≤ D ∧ D < 0) (hm : 1 ≤ m ∧ m ≤ 65536) (hE : szE D = 0) (a : Ans) (hx : L 8 a.x) (hy : L 8 a.y) (hz : L 8 a.m) (hr : ∀ z ∈ a.roots, L 8 z) (hg : ∀ g ∈ a.forms, L 8 g.a ∧ L 8 g.b ∧ L 8 g.c) (hlr : a.roots.length ≤ 100000) (hlf : a.forms.length ≤ 100000) :
  aF Tryz.prog 36 [FA f.a f.b f.c, Z (m : Int), .p (.a (anS a))] (B (rgt D m f a)) := by
 have h := r5 f D m hfa hfb hfc hf hD hm hE (jx a) (fun r hr => (oy a r hr).1) (C8 hx hy hz hr hg) (by unfold jx; simpa using hlr) (by unfold jx; simpa using hlf)
 rw [Gk, F7] at h
 exact h
theorem rX (l m : List Int) (hl : (l.length : Int) ≤ 1000000000) :
  aF Tryz.prog 27 [.p (.c (SL enI l)), .p (.c (SL enI m))] (B (decide (l = m))) := by
 refine aK Tryz.func27 rfl rfl rfl rfl ?_
 refine ae hP<|ak rfl<|ag<|ao<|ae hP<|aj rfl<|ab (aU hT rfl rfl rfl (by rfl)) ?_
 refine aj rfl<|ab (aU hT rfl rfl rfl (by rfl)) ?_
 refine ab (bB rfl rfl)<|ag ?_
 refine aw rfl (fun hb1 => ?_) (fun hb1 => ?_)
 ·have hb1_ := cy hb1
  refine ae hP<|ak rfl<|ag<|am<|E1 rfl rfl ?_
  exact aX (decide_eq_false (fun e => hb1_ (by rw [e]))).symm
 have hb1_ := cf hb1
 have hlen : l.length = m.length := by have := hb1_; omega
 refine aq<|ao<|ae hP<|ak rfl<|ag<|aA<|bp (ι := Nat) (fun k => stL [(0, .p (.c (SL enI l))), (1, .p (.c (SL enI m))), (5, Z (k : Int))] []) (fun k => SmG l m k) (fun k => l.length - k) 0 (SmG.start hlen) (aE ⟨.refl _, .refl _, .refl _, trivial⟩ trivial) ?_
 intro k hI
 have hk := hI.le
 refine ao<|ae hP<|aj rfl<|aj rfl<|ab (aU hT rfl rfl rfl (by rfl)) ?_
 refine ab (bi rfl rfl)<|ag ?_
 refine aw rfl (fun hb2 => ?_) (fun hb2 => ?_)
 ·have hb2_ := of_decide_eq_true hb2
  refine aq<|ao<|aA<|ae hP<|aj rfl<|aj rfl<|ab (cp hT eS (by decide) 0 (n := (k : Int)) (l := l) rfl rfl rfl rfl rfl rfl (by omega)) ?_
  refine ab (a6 hT rfl rfl rfl (cs := enI (l.getD k 0)) rfl rfl) ?_
  refine aj rfl<|aj rfl<|ab (cp hT eS (by decide) 0 (n := (k : Int)) (l := m) rfl rfl rfl rfl rfl rfl (by omega)) ?_
  refine ab (a6 hT rfl rfl rfl (cs := enI (m.getD k 0)) rfl rfl) ?_
  refine ab (ah (eQ _ _)) ?_
  refine ab (bE rfl)<|ag ?_
  refine aw rfl (fun hb3 => ?_) (fun hb3 => ?_)
  ·have hb3_ := (cB hb3)
   refine ae hP<|ak rfl<|ag<|am<|E1 rfl rfl ?_
   exact aX (decide_eq_false (SmG.no (d := 0) (fun e => of_decide_eq_false (cB hb3) e))).symm
  have hb3_ := (cq hb3)
  refine aq<|av hP<|aj rfl<|bI rfl rfl ?_
  refine ak rfl<|ag ?_
  refine ⟨k + 1, hI.next (d := 0) (by omega) (of_decide_eq_true (cq hb3)), by omega, aE ⟨.refl _, .refl _, aJ (by omega), trivial⟩ trivial⟩
 have hb2_ := of_decide_eq_false hb2
 refine aZ<|ae hP<|ak rfl<|ag<|am<|E1 rfl rfl ?_
 exact aX (decide_eq_true (hI.yes (by omega))).symm
theorem kG (a b : Ans) (hr : (a.roots.length : Int) ≤ 1000000000) (hg : (a.forms.length : Int) ≤ 1000000000) :
  aF Tryz.prog 32 [.p (.a (anS a)), .p (.a (anS b))] (B (sA a b)) := by
 refine aK Tryz.func32 rfl rfl rfl rfl ?_
 refine ae hP<|an ai (aI rfl rfl)<|an ai (aI rfl rfl)<|ak rfl<|ag<|ao<|ae hP<|aH hT rfl rfl rfl rfl rfl rfl<|a7 hT rfl rfl rfl rfl ?_
 refine aH hT rfl rfl rfl rfl rfl rfl<|a7 hT rfl rfl rfl rfl ?_
 refine ab (bB rfl rfl)<|aj rfl ?_
 refine bf (t := 11) rfl (fun hg1 => ?_) (fun hg1 => ?_)
 ·have hg1_ := cy hg1
  have k0 := cy hg1
  iterate 6 refine bd hg1 ?_
  refine ab (aO rfl hg1 (rfl : _ = AV.p (.c _)))<|aj rfl<|bd rfl ?_
  iterate 5 refine bd rfl ?_
  refine ab (aO rfl rfl (rfl : _ = AV.p (.c _)))<|aj rfl<|bd rfl ?_
  iterate 5 refine bd rfl ?_
  refine ab (aO rfl rfl (rfl : _ = AV.p (.c _)))<|aj rfl<|bd rfl ?_
  iterate 6 refine bd rfl ?_
  refine ab (aO rfl rfl (rfl : _ = AV.p (.c _)))<|ag<|aY rfl rfl<|ae hP<|ak rfl<|ag<|am<|E1 rfl rfl ?_
  exact aX (decide_eq_false (fun z => k0 z.1)).symm
 have hg1_ := cf hg1
 have k0 := cf hg1
 refine aB hg1 (aR hT rfl rfl rfl rfl rfl rfl) ?_
 refine aB hg1 (aL hT rfl rfl rfl rfl (cs := [_, _]) rfl rfl) ?_
 refine aB hg1 (aR hT rfl rfl rfl rfl rfl rfl) ?_
 refine aB hg1 (aL hT rfl rfl rfl rfl (cs := [_, _]) rfl rfl) ?_
 refine aB hg1 (ah (eQ _ _)) ?_
 refine aB hg1 (bE rfl) ?_
 refine ab (aN rfl hg1 (rfl : _ = AV.p (.c _)))<|aj rfl ?_
 refine bf (t := 19) rfl (fun hg2 => ?_) (fun hg2 => ?_)
 ·have hg2_ := (cB hg2)
  have k1 := of_decide_eq_false (cB hg2)
  iterate 6 refine bd hg2 ?_
  refine ab (aO rfl hg2 (rfl : _ = AV.p (.c _)))<|aj rfl<|bd rfl ?_
  iterate 5 refine bd rfl ?_
  refine ab (aO rfl rfl (rfl : _ = AV.p (.c _)))<|aj rfl<|bd rfl ?_
  iterate 6 refine bd rfl ?_
  refine ab (aO rfl rfl (rfl : _ = AV.p (.c _)))<|ag<|aY rfl rfl<|ae hP<|ak rfl<|ag<|am<|E1 rfl rfl ?_
  exact aX (decide_eq_false (fun z => k1 z.2.1)).symm
 have hg2_ := (cq hg2)
 have k1 := of_decide_eq_true (cq hg2)
 refine aB hg2 (aR hT rfl rfl rfl rfl rfl rfl) ?_
 refine aB hg2 (aL hT rfl rfl rfl rfl (cs := [_, _]) rfl rfl) ?_
 refine aB hg2 (aR hT rfl rfl rfl rfl rfl rfl) ?_
 refine aB hg2 (aL hT rfl rfl rfl rfl (cs := [_, _]) rfl rfl) ?_
 refine aB hg2 (ah (eQ _ _)) ?_
 refine aB hg2 (bE rfl) ?_
 refine ab (aN rfl hg2 (rfl : _ = AV.p (.c _)))<|aj rfl ?_
 refine bf (t := 27) rfl (fun hg3 => ?_) (fun hg3 => ?_)
 ·have hg3_ := (cB hg3)
  have k2 := of_decide_eq_false (cB hg3)
  iterate 6 refine bd hg3 ?_
  refine ab (aO rfl hg3 (rfl : _ = AV.p (.c _)))<|aj rfl<|bd rfl ?_
  iterate 6 refine bd rfl ?_
  refine ab (aO rfl rfl (rfl : _ = AV.p (.c _)))<|ag<|aY rfl rfl<|ae hP<|ak rfl<|ag<|am<|E1 rfl rfl ?_
  exact aX (decide_eq_false (fun z => k2 z.2.2.1)).symm
 have hg3_ := (cq hg3)
 have k2 := of_decide_eq_true (cq hg3)
 refine aB hg3 (aR hT rfl rfl rfl rfl rfl rfl) ?_
 refine aB hg3 (aL hT rfl rfl rfl rfl (cs := [_, _]) rfl rfl) ?_
 refine aB hg3 (aR hT rfl rfl rfl rfl rfl rfl) ?_
 refine aB hg3 (aL hT rfl rfl rfl rfl (cs := [_, _]) rfl rfl) ?_
 refine aB hg3 (ah (eQ _ _)) ?_
 refine aB hg3 (bE rfl) ?_
 refine ab (aN rfl hg3 (rfl : _ = AV.p (.c _)))<|aj rfl ?_
 refine bf (t := 35) rfl (fun hg4 => ?_) (fun hg4 => ?_)
 ·have hg4_ := (cB hg4)
  have k3 := of_decide_eq_false (cB hg4)
  iterate 7 refine bd hg4 ?_
  refine ab (aO rfl hg4 (rfl : _ = AV.p (.c _)))<|ag<|aY rfl rfl<|ae hP<|ak rfl<|ag<|am<|E1 rfl rfl ?_
  exact aX (decide_eq_false (fun z => k3 z.2.2.2.1)).symm
 have hg4_ := (cq hg4)
 have k3 := of_decide_eq_true (cq hg4)
 refine aB hg4 (aR hT rfl rfl rfl rfl rfl rfl) ?_
 refine aB hg4 (bS hT rfl rfl rfl rfl (by first | rfl | exact eC (by omega))) ?_
 refine aB hg4 (aU hT rfl rfl rfl (by rfl)) ?_
 refine aB hg4 (aR hT rfl rfl rfl rfl rfl rfl) ?_
 refine aB hg4 (bS hT rfl rfl rfl rfl (by first | rfl | exact eC (by omega))) ?_
 refine aB hg4 (aU hT rfl rfl rfl (by rfl)) ?_
 refine aB hg4 (bB rfl rfl) ?_
 refine ab (aN rfl hg4 (rfl : _ = AV.p (.c _)))<|ag ?_
 refine aw rfl (fun hb5 => ?_) (fun hb5 => ?_)
 ·have hb5_ := cy hb5
  have k4 := cy hb5
  refine ae hP<|ak rfl<|ag<|am<|E1 rfl rfl ?_
  exact aX (decide_eq_false (fun z => k4 (by rw [z.2.2.2.2.1]))).symm
 have hb5_ := cf hb5
 have k4 : a.roots.length = b.roots.length := by have := cf hb5; omega
 refine aq<|ao<|ae hP<|ak rfl<|ag<|aA<|bp (ι := Nat) (fun k => stL [(2, .loc 2 0), (3, .loc 3 0), (5, Z (k : Int))] [(2, ⟨false, 1, 42, anS a⟩), (3, ⟨false, 1, 42, anS b⟩)]) (fun k => SmG a.roots b.roots k) (fun k => a.roots.length - k) 0 (SmG.start k4) (aE ⟨.refl _, .refl _, .refl _, trivial⟩ ⟨rfl, rfl, trivial⟩) ?_
 intro k hI
 have hk := hI.le
 refine ao<|ae hP<|aj rfl<|aH hT rfl rfl rfl rfl rfl rfl<|a7 hT rfl rfl rfl rfl ?_
 refine ab (aU hT rfl rfl rfl (by rfl)) ?_
 refine ab (bi rfl rfl)<|ag ?_
 refine aw rfl (fun hb6 => ?_) (fun hb6 => ?_)
 ·have hb6_ := of_decide_eq_true hb6
  refine aq<|ao<|aA<|ae hP<|aH hT rfl rfl rfl rfl rfl rfl<|a7 hT rfl rfl rfl rfl ?_
  refine aj rfl<|ab (cp hT eS (by decide) 0 (n := (k : Int)) (l := a.roots) rfl rfl rfl rfl rfl rfl (by omega)) ?_
  refine ab (a6 hT rfl rfl rfl (cs := enI (a.roots.getD k 0)) rfl rfl) ?_
  refine aH hT rfl rfl rfl rfl rfl rfl<|a7 hT rfl rfl rfl rfl ?_
  refine aj rfl<|ab (cp hT eS (by decide) 0 (n := (k : Int)) (l := b.roots) rfl rfl rfl rfl rfl rfl (by omega)) ?_
  refine ab (a6 hT rfl rfl rfl (cs := enI (b.roots.getD k 0)) rfl rfl) ?_
  refine ab (ah (eQ _ _)) ?_
  refine ab (bE rfl)<|ag ?_
  refine aw rfl (fun hb7 => ?_) (fun hb7 => ?_)
  ·have hb7_ := (cB hb7)
   have k6 := of_decide_eq_false (cB hb7)
   refine ae hP<|ak rfl<|ag<|am<|E1 rfl rfl ?_
   exact aX (decide_eq_false (fun z => SmG.no (d := 0) k6 z.2.2.2.2.1)).symm
  have hb7_ := (cq hb7)
  have k6 := of_decide_eq_true (cq hb7)
  refine aq<|av hP<|aj rfl<|bI rfl rfl ?_
  refine ak rfl<|ag ?_
  refine ⟨k + 1, hI.next (d := 0) (by omega) k6, by omega, aE ⟨.refl _, .refl _, aJ (by omega), trivial⟩ ⟨rfl, rfl, trivial⟩⟩
 have hb6_ := of_decide_eq_false hb6
 refine aZ<|ae hP<|aH hT rfl rfl rfl rfl rfl rfl<|a7 hT rfl rfl rfl rfl ?_
 refine aH hT rfl rfl rfl rfl rfl rfl<|a7 hT rfl rfl rfl rfl ?_
 refine ab (ah (to a.forms b.forms hg)) ?_
 refine ak rfl<|ag<|am<|E1 rfl rfl ?_
 exact aX (J3 k0 k1 k2 k3 (hI.yes (by omega)))
theorem vt (D : Int) (m : Nat) (b : Int) (hD : -4194304 ≤ D ∧ D < 0) (hm : 1 ≤ m ∧ m ≤ 65536) (hb : 0 ≤ b ∧ b ≤ 131072) :
  aF Tryz.prog 42 [I D, Z (m : Int), I b] (FA (m : Int) b ((b * b - D) / (4 * (m : Int)))) := by
 have iD : LB D 6 := ⟨by unfold L; omega⟩
 have im : LB (m : Int) 6 := ⟨by unfold L; omega⟩
 have ib : LB b 6 := ⟨by unfold L; omega⟩
 refine aK Tryz.func42 rfl rfl rfl rfl ?_
 refine ae hP<|an ai (aI rfl rfl)<|an ai (aI rfl rfl)<|an ai (ay hT rfl rfl)<|ag<|ae hP<|aj rfl<|ab (ah (dP (m : Int) (by unfold bC; omega))) ?_
 refine an ai (ay hT rfl rfl)<|aD hT rfl rfl rfl rfl rfl rfl rfl<|ag<|ae hP<|au hT rfl rfl rfl rfl rfl rfl<|au hT rfl rfl rfl rfl rfl rfl<|au hT rfl rfl rfl rfl rfl rfl<|au hT rfl rfl rfl rfl rfl rfl<|ab (ah (eL _ _ lz lz)) ?_
 refine au hT rfl rfl rfl rfl rfl rfl<|ab (ah (vn _ _ lz lz)) ?_
 refine ab (ah (dP 4 (by decide))) ?_
 refine au hT rfl rfl rfl rfl rfl rfl<|ab (ah (eL _ _ lz lz)) ?_
 refine ab (ah (vo (b * b - D) (4 * (m : Int)) lz lz (by omega))) ?_
 refine ab (aV hT rfl rfl rfl (es := [_, _, _, _, _, _]) rfl)<|aD hT rfl rfl rfl rfl rfl rfl rfl<|ag<|am ?_
 refine bV rfl (.inr rfl) (aQ hT rfl rfl rfl rfl (cs := [_, _, _, _, _, _]) rfl rfl) ?_ bw
 exact .refl _
theorem w8 (D : Int) :
  aF Tryz.prog 45 [I D] (Z (unN D : Nat)) := by
 refine aK Tryz.func45 rfl rfl rfl rfl ?_
 refine ae hP<|an ai (aI rfl rfl)<|ak rfl<|ag<|ao<|ae hP<|au hT rfl rfl rfl rfl rfl rfl<|ab (ah (dP (-3) (by decide))) ?_
 refine ab (ah (eQ _ _)) ?_
 refine ag ?_
 refine aw rfl (fun hb1 => ?_) (fun hb1 => ?_)
 ·refine ae hP<|ak rfl<|ag<|am<|E1 rfl rfl ?_
  exact aJ (Ib (of_decide_eq_true hb1))
 refine aq<|ao<|ae hP<|au hT rfl rfl rfl rfl rfl rfl<|ab (ah (dP (-4) (by decide))) ?_
 refine ab (ah (eQ _ _)) ?_
 refine ag ?_
 refine aw rfl (fun hb2 => ?_) (fun hb2 => ?_)
 ·refine ae hP<|ak rfl<|ag<|am<|E1 rfl rfl ?_
  exact aJ (Ia (of_decide_eq_false hb1) (of_decide_eq_true hb2))
 refine aq<|ae hP<|ak rfl<|ag<|am<|E1 rfl rfl ?_
 exact aJ (Ic (of_decide_eq_false hb1) (of_decide_eq_false hb2))
theorem rY  :
  aF Tryz.prog 21 [] (B true) := by
 have q1 : aF Tryz.prog 30 [FA 2 1 3, Z 3] (.p (.a (anS ⟨1, 0, 1, 0, [], []⟩ ++ [.v (.int .i64 0)]))) := by
  have h := kM ⟨2, 1, 3⟩ (-23) 3 (by unfold L; decide) (by unfold L; decide) (by unfold L; decide) lN (by decide) (by decide) (by decide)
  rw [Ao] at h
  exact h
 have q2 : aF Tryz.prog 30 [FA 2 1 3, Z 5] (.p (.a (anS ⟨2, 0, 0, 5, [], []⟩ ++ [.v (.int .i64 0)]))) := by
  have h := kM ⟨2, 1, 3⟩ (-23) 5 (by unfold L; decide) (by unfold L; decide) (by unfold L; decide) lN (by decide) (by decide) (by decide)
  rw [Ep] at h
  exact h
 have q3 : aF Tryz.prog 30 [FA 2 1 3, Z 1] (.p (.a (anS ⟨3, 0, 0, 0, [1], [⟨1, 1, 6⟩]⟩ ++ [.v (.int .i64 0)]))) := by
  have h := kM ⟨2, 1, 3⟩ (-23) 1 (by unfold L; decide) (by unfold L; decide) (by unfold L; decide) lN (by decide) (by decide) (by decide)
  rw [HD] at h
  exact h
 have q4 : aF Tryz.prog 30 [FA 1 0 5, Z 3] (.p (.a (anS ⟨2, 0, 0, 5, [], []⟩ ++ [.v (.int .i64 0)]))) := by
  have h := kM ⟨1, 0, 5⟩ (-20) 3 (by unfold L; decide) (by unfold L; decide) (by unfold L; decide) HE (by decide) (by decide) (by decide)
  rw [Aq] at h
  exact h
 have q5 : aF Tryz.prog 26 [FA 1 0 1, Z 5] (.t [.c (SL enP (prS (-4) (5 : Nat) ⟨1, 0, 1⟩)), PE 0]) := BC ⟨1, 0, 1⟩ (-4) 5 (by unfold L; decide) (by unfold L; decide) (by unfold L; decide) Jy (by decide) (by decide)
 have q6 : aF Tryz.prog 13 [I (-23), Z 6] (.t [.c (SL enI [1, 5, 7, 11]), PE 0]) := by
  have h := un (-23) 6 (by decide) (by decide) (by decide)
  rw [show ((6 : Nat) : Int) = 6 from rfl, Ap] at h
  exact h
 have q7 : aF Tryz.prog 36 [FA 2 1 3, Z 3, .p (.a (anS ⟨1, 0, 1, 0, [], []⟩))] (B true) := by
  have h := mJ ⟨2, 1, 3⟩ (-23) 3 (by unfold L; decide) (by unfold L; decide) (by unfold L; decide) lN (by decide) (by decide) (by decide) ⟨1, 0, 1, 0, [], []⟩ (by decide) (by decide) (by decide) (by decide) (by decide) (by decide) (by decide)
  rw [HC] at h
  exact h
 have q8 : aF Tryz.prog 36 [FA 2 1 3, Z 3, .p (.a (anS ⟨3, 0, 0, 0, [1], [⟨1, 1, 6⟩]⟩))] (B false) := by
  have h := mJ ⟨2, 1, 3⟩ (-23) 3 (by unfold L; decide) (by unfold L; decide) (by unfold L; decide) lN (by decide) (by decide) (by decide) ⟨3, 0, 0, 0, [1], [⟨1, 1, 6⟩]⟩ (by decide) (by decide) (by decide) (by decide) (by decide) (by decide) (by decide)
  rw [Jx] at h
  exact h
 obtain ⟨h8, h80⟩ := HF
 rw [show (prS (-4) 5 ⟨1, 0, 1⟩) = prS (-4) (5 : Nat) ⟨1, 0, 1⟩ from rfl] at h8 h80
 generalize prS (-4) (5 : Nat) ⟨1, 0, 1⟩ = L8 at *
 refine aK Tryz.func21 rfl rfl rfl rfl ?_
 refine ae hP<|ak rfl<|ag<|ae hP<|ab (ah (nM _ _ _ (by first | assumption | decide) (by first | assumption | decide) (by first | assumption | decide))) ?_
 refine an ai (ay hT rfl rfl)<|aD hT rfl rfl rfl rfl rfl rfl rfl<|ag<|ae hP<|bH hT rfl rfl rfl rfl rfl rfl<|ab (ah q1) ?_
 refine bH hT rfl rfl rfl rfl rfl rfl<|ab (ah q2) ?_
 refine bH hT rfl rfl rfl rfl rfl rfl<|ab (ah q3) ?_
 refine ab (ah (nM _ _ _ (by first | assumption | decide) (by first | assumption | decide) (by first | assumption | decide))) ?_
 refine ab (ah q4) ?_
 refine an ai (ay hT rfl rfl)<|an ai (ay hT rfl rfl)<|an ai (ay hT rfl rfl)<|an ai (ay hT rfl rfl)<|aD hT rfl rfl rfl rfl rfl rfl rfl<|aD hT rfl rfl rfl rfl rfl rfl rfl<|aD hT rfl rfl rfl rfl rfl rfl rfl<|aD hT rfl rfl rfl rfl rfl rfl rfl<|ag<|ae hP<|ab (ah (nM _ _ _ (by first | assumption | decide) (by first | assumption | decide) (by first | assumption | decide))) ?_
 refine ab (ah q5) ?_
 refine ab (az (rfl : _ = AV.t _))<|ab (aC rfl (v := .c _) rfl)<|ab (aC rfl (v := .c _) rfl)<|ak rfl<|ak rfl<|ag<|ae hP<|ab (ah (dP _ (by first | assumption | decide))) ?_
 refine ab (ah q6) ?_
 refine ab (az (rfl : _ = AV.t _))<|ab (aC rfl (v := .c _) rfl)<|ab (aC rfl (v := .c _) rfl)<|ak rfl<|ak rfl<|ag<|ao<|ae hP<|aH hT rfl rfl rfl rfl rfl rfl<|a7 hT rfl rfl rfl rfl ?_
 refine ab (bB rfl rfl)<|aj rfl<|aB rfl (aR hT rfl rfl rfl rfl rfl rfl) ?_
 refine aB rfl (bS hT rfl rfl rfl rfl (by first | rfl | exact eC (by omega))) ?_
 refine aB rfl (bB rfl rfl) ?_
 refine ab (aN rfl rfl (rfl : _ = AV.p (.c _)))<|aj rfl<|aB rfl (aR hT rfl rfl rfl rfl rfl rfl) ?_
 refine aB rfl (bS hT rfl rfl rfl rfl (by first | rfl | exact eC (by omega))) ?_
 refine aB rfl (bB rfl rfl) ?_
 refine ab (aN rfl rfl (rfl : _ = AV.p (.c _)))<|aj rfl<|aB rfl (aR hT rfl rfl rfl rfl rfl rfl) ?_
 refine aB rfl (bS hT rfl rfl rfl rfl (by first | rfl | exact eC (by omega))) ?_
 refine aB rfl (bB rfl rfl) ?_
 refine ab (aN rfl rfl (rfl : _ = AV.p (.c _)))<|aj rfl<|aB rfl (az (rfl : _ = AV.p (.c _))) ?_
 refine aB rfl (bB rfl rfl) ?_
 refine ab (aN rfl rfl (rfl : _ = AV.p (.c _)))<|aj rfl<|aB rfl (az (rfl : _ = AV.p (.c _))) ?_
 refine aB rfl (bB rfl rfl) ?_
 refine ab (aN rfl rfl (rfl : _ = AV.p (.c _)))<|aj rfl<|aB rfl (az (rfl : _ = AV.p (.c _))) ?_
 refine aB rfl (aU hT rfl rfl rfl (by rfl)) ?_
 refine aB rfl (bB rfl rfl) ?_
 refine ab (aN rfl rfl (rfl : _ = AV.p (.c _)))<|ag<|aP rfl (by rw [h8]; rfl) ?_
 refine aq<|ae hP<|ab (ah (dP _ (by first | assumption | decide))) ?_
 refine ab (bl hT rfl rfl rfl (es := [_, _]) rfl rfl rfl)<|ab (ah (nM _ _ _ (by first | assumption | decide) (by first | assumption | decide) (by first | assumption | decide))) ?_
 refine ab (bl hT rfl rfl rfl (es := [_, _, _, _, _, _]) rfl rfl rfl)<|ab (aV hT rfl rfl rfl (es := [_, _, _, _, _, _, _, _, _]) rfl)<|an ai (ay hT rfl rfl)<|aD hT rfl rfl rfl rfl rfl rfl rfl<|ag<|ao<|ae hP<|aH hT rfl rfl rfl rfl rfl rfl<|ab (aL hT rfl rfl rfl rfl (cs := [_, _, _, _, _, _, _, _, _]) rfl rfl)<|ab (ah (dP _ (by first | assumption | decide))) ?_
 refine ab (aV hT rfl rfl rfl (es := [_, _, _, _, _, _, _, _, _]) rfl)<|ab (ah (kG ⟨1, 0, 1, 0, [], []⟩ ⟨1, 0, 1, 0, [], []⟩ (by decide) (by decide))) ?_
 refine ab (bE rfl)<|aj rfl<|bt (aW rfl rfl (cQ _)) (aR hT rfl rfl rfl rfl rfl rfl) ?_
 refine bt (aW rfl rfl (cQ _)) (aL hT rfl rfl rfl rfl (cs := [_, _, _, _, _, _, _, _, _]) rfl rfl) ?_
 refine bt (aW rfl rfl (cQ _)) (ah (dP _ (by first | assumption | decide))) ?_
 refine bt (aW rfl rfl (cQ _)) (aV hT rfl rfl rfl (es := [_, _, _, _, _, _, _, _, _]) rfl) ?_
 refine bt (aW rfl rfl (cQ _)) (ah (kG ⟨2, 0, 0, 5, [], []⟩ ⟨2, 0, 0, 5, [], []⟩ (by decide) (by decide))) ?_
 refine bt (aW rfl rfl (cQ _)) (bE rfl) ?_
 refine ab (aN rfl (cQ _) (rfl : _ = AV.p (.c _))) ?_
 refine aj rfl<|bt (aW rfl rfl (cQ _)) (aR hT rfl rfl rfl rfl rfl rfl) ?_
 refine bt (aW rfl rfl (cQ _)) (aL hT rfl rfl rfl rfl (cs := [_, _, _, _, _, _, _, _, _]) rfl rfl) ?_
 refine bt (aW rfl rfl (cQ _)) (aL hT rfl rfl rfl rfl (cs := [_, _, _, _, _, _, _, _, _]) rfl rfl) ?_
 refine bt (aW rfl rfl (cQ _)) (ah (kG ⟨3, 0, 0, 0, [1], [⟨1, 1, 6⟩]⟩ ⟨3, 0, 0, 0, [1], [⟨1, 1, 6⟩]⟩ (by decide) (by decide))) ?_
 refine bt (aW rfl rfl (cQ _)) (bE rfl) ?_
 refine ab (aN rfl (cQ _) (rfl : _ = AV.p (.c _))) ?_
 refine aj rfl<|bt (aW rfl rfl (cQ _)) (aR hT rfl rfl rfl rfl rfl rfl) ?_
 refine bt (aW rfl rfl (cQ _)) (aL hT rfl rfl rfl rfl (cs := [_, _, _, _, _, _, _, _, _]) rfl rfl) ?_
 refine bt (aW rfl rfl (cQ _)) (ah (dP _ (by first | assumption | decide))) ?_
 refine bt (aW rfl rfl (cQ _)) (aV hT rfl rfl rfl (es := [_, _, _, _, _, _, _, _, _]) rfl) ?_
 refine bt (aW rfl rfl (cQ _)) (ah (kG ⟨2, 0, 0, 5, [], []⟩ ⟨2, 0, 0, 5, [], []⟩ (by decide) (by decide))) ?_
 refine bt (aW rfl rfl (cQ _)) (bE rfl) ?_
 refine ab (aN rfl (cQ _) (rfl : _ = AV.p (.c _))) ?_
 refine ag<|aP rfl (cQ _) ?_
 refine aq<|ae hP<|aj rfl<|ab (cp hT dI (by decide) (0, 0) (n := 0) (l := L8) rfl rfl rfl rfl rfl rfl (by omega)) ?_
 refine ab (cE hT rfl rfl rfl rfl rfl (by decide)) ?_
 refine ab (a6 hT rfl rfl rfl (cs := enI (L8.getD 0 (0, 0)).1) rfl rfl) ?_
 refine ab (ah (dP _ (by first | assumption | decide))) ?_
 refine ab (ah (eQ _ _)) ?_
 refine aj rfl<|bt (aW rfl rfl (by rw [h80]; decide)) (az (rfl : _ = AV.p (.c _))) ?_
 refine bt (aW rfl rfl (by rw [h80]; decide)) (cp hT dI (by decide) (0, 0) (n := 0) (l := L8) rfl rfl rfl rfl rfl rfl (by omega)) ?_
 refine bt (aW rfl rfl (by rw [h80]; decide)) (cE hT rfl rfl rfl rfl rfl (by decide)) ?_
 refine bt (aW rfl rfl (by rw [h80]; decide)) (a6 hT rfl rfl rfl (cs := enI (L8.getD 0 (0, 0)).2) rfl rfl) ?_
 refine bt (aW rfl rfl (by rw [h80]; decide)) (ah (dP _ (by first | assumption | decide))) ?_
 refine bt (aW rfl rfl (by rw [h80]; decide)) (ah (eQ _ _)) ?_
 refine ab (aO rfl (by rw [h80]; decide) (rfl : _ = AV.p (.c _))) ?_
 refine aj rfl<|bt (aW rfl rfl (by rw [h80]; decide)) (az (rfl : _ = AV.p (.c _))) ?_
 iterate 4 refine bt (aW rfl rfl (by rw [h80]; decide)) (ah (dP _ (by first | assumption | decide))) ?_
 refine bt (aW rfl rfl (by rw [h80]; decide)) (bl hT rfl rfl rfl (es := [_, _, _, _, _, _, _, _]) rfl rfl rfl) ?_
 refine bt (aW rfl rfl (by rw [h80]; decide)) (ah (rX [1, 5, 7, 11] [1, 5, 7, 11] (by decide))) ?_
 refine ab (aO rfl (by rw [h80]; decide) (rfl : _ = AV.p (.c _))) ?_
 refine aj rfl<|bt (aW rfl rfl (by decide)) (aL hT rfl rfl rfl rfl (cs := [_, _, _, _, _, _]) rfl rfl) ?_
 refine bt (aW rfl rfl (by decide)) (aR hT rfl rfl rfl rfl rfl rfl) ?_
 refine bt (aW rfl rfl (by decide)) (aL hT rfl rfl rfl rfl (cs := [_, _, _, _, _, _, _, _, _]) rfl rfl) ?_
 refine bt (aW rfl rfl (by decide)) (ah q7) ?_
 refine ab (aO rfl (by decide) (rfl : _ = AV.p (.c _))) ?_
 refine aj rfl<|aB rfl (aL hT rfl rfl rfl rfl (cs := [_, _, _, _, _, _]) rfl rfl) ?_
 refine aB rfl (aR hT rfl rfl rfl rfl rfl rfl) ?_
 refine aB rfl (aL hT rfl rfl rfl rfl (cs := [_, _, _, _, _, _, _, _, _]) rfl rfl) ?_
 refine aB rfl (ah q8) ?_
 refine aB rfl (bE rfl) ?_
 refine ab (aO rfl rfl (rfl : _ = AV.p (.c _)))<|ak rfl<|ag<|am<|E1 rfl rfl ?_
 exact .refl _
end
section
open Go Go.AM
theorem mC (D i0 i1 i2 i3 m0 m1 m2 m3 : Nat) (hD : D < 65536) (g0 : i0 < 65536) (g1 : i1 < 65536) (g2 : i2 < 65536) (g3 : i3 < 65536) (k0 : m0 < 256) (k1 : m1 < 256) (k2 : m2 < 256) (k3 : m3 < 256) :
  aF Tryz.prog 6 [.p (.a [.v (.int .u16 (D : Int)), .v (.int .u16 (i0 : Int)), .v (.int .u16 (i1 : Int)), .v (.int .u16 (i2 : Int)), .v (.int .u16 (i3 : Int)), .v (.int .u8 (m0 : Int)), .v (.int .u8 (m1 : Int)), .v (.int .u8 (m2 : Int)), .v (.int .u8 (m3 : Int))])] (B true) := by
 have c0 := zC _ _ _ _ _ _ _ _ _ hD g0 g1 g2 g3 k0 k1 k2 k3
 have hf := GR D i0 m0
 obtain ⟨fa, fb, fc⟩ := GS (D := D) (i := i0) k0
 obtain ⟨hD1, hD2⟩ := If D
 obtain ⟨s1, s2, s3, s4, s5⟩ := eD D
 have hE := tJ D
 have h4 := CL D
 obtain ⟨m, hmE⟩ : ∃ m : Nat, (m : Int) = 1 + (i2 : Int) % 200 := ⟨1 + i2 % 200, by omega⟩
 have hm : 1 ≤ m ∧ m ≤ 65536 := by omega
 have hmw : IntKind.i64.wrap (1 + (i2 : Int) % 200) = (m : Int) := by rw [← hmE]; exact IntWalk.i64_in _ (by omega)
 generalize mkF D i0 m0 = f at *
 have hdN : -szz D = -szz D := rfl
 generalize hdd : -szz D = d at *
 clear hdN
 have jfa : LB f.a 6 := ⟨fa⟩
 have jfb : LB f.b 6 := ⟨fb⟩
 have jfc : LB f.c 6 := ⟨fc⟩
 have idl : LB d 6 := ⟨by unfold L; omega⟩
 have hdB : -4194304 ≤ d ∧ d < 0 := by omega
 have hdf : dsc f.a f.b f.c = d := hf.disc
 have cDs : aF Tryz.prog 40 [FA f.a f.b f.c] (I d) := by rw [← hdf]; exact fD f.a f.b f.c lz lz lz
 have cA := BC f d m fa fb fc hf hdB hm
 have cR := un d m hdB h4 hm
 have cRd : aF Tryz.prog 41 [FA f.a f.b f.c] (.t [PF f.rd, PM (rdM f.a f.b f.c), PE 0]) := by
  have h := fC f.a f.b f.c lz lz lz
  rwa [gm hf.pos] at h
 have hpl : ∀ p ∈ prS d m f, Int.gcd p.1 p.2 = 1 ∧ vl f.a f.b f.c p.1 p.2 = m := fun p hp => (Ds hf (by omega)).1 hp
 have hps := ui hf (show 0 < (m : Int) by omega)
 have hpL : ∀ p ∈ prS d m f, L 6 p.1 ∧ L 6 p.2 := fun p hp => IL hf fa fc (by omega) (hpl p hp).2
 have hpn : (prS d m f).length = unN d * dG (fun b => smf f (frq d m b)) (rbL d m) (rbL d m).length := by rw [Dt, sv (Nat.le_refl _)]
 have hp1 : (prS d m f).length ≤ 1000000 := by rw [GE]; exact xe hm
 have hu6 : unN d ≤ 6 := by rw [← ol]; exact qz d
 have hrl := nF d m hm.2
 have hcB : ∀ b ∈ rbL d m, ∃ (o : Fm) (M : Mt), aF Tryz.prog 42 [I d, Z (m : Int), I b] (FA (m : Int) b ((b * b - d) / (4 * (m : Int)))) ∧ aF Tryz.prog 41 [FA (m : Int) b ((b * b - d) / (4 * (m : Int)))] (.t [PF o, PM M, PE 0]) ∧ (smf f (frq d m b) = true ↔ f.rd = o) := fun b hb => by
  have hb2 := (rbL_mem.1 hb)
  have hsq := lx (x := b) (m := 131073) (by omega)
  have ib : LB b 6 := ⟨by unfold L; omega⟩
  have im : LB (m : Int) 6 := ⟨by unfold L; omega⟩
  have i4 : LB (4 * (m : Int)) 6 := ⟨by unfold L; omega⟩
  have isq : LB (b * b) 6 := ⟨by unfold L; omega⟩
  have hc := nZ (n := (m : Int)) (by omega) hdB.2 hb2.2
  have h := fC (m : Int) b ((b * b - d) / (4 * (m : Int))) lz lz lz
  have h0 : rdE (m : Int) b ((b * b - d) / (4 * (m : Int))) = 0 := gm hc.pos
  rw [h0] at h
  exact ⟨(frq d m b).rd, _, vt d m b hdB hm (by omega), h, tN hf.pos hc.pos⟩
 have cUn := w8 d
 have jm : bC (m : Int) := by unfold bC; omega
 generalize hQ : (fun b => smf f (frq d m b)) = Q at *
 have hQ' : ∀ b, smf f (frq d m b) = Q b := fun b => by rw [← hQ]
 simp only [hQ'] at hcB
 generalize prS d m f = pl at *
 generalize rbL d m = rl at *
 generalize f.rd = o at *
 generalize rdM f.a f.b f.c = Mo at *
 refine aK Tryz.func6 rfl rfl rfl rfl ?_
 refine ae hP<|an ai (aI rfl rfl)<|ak rfl<|ag<|ae hP<|ab (ah rY) ?_
 refine ak rfl<|ag<|ao<|ae hP<|aj rfl<|ab (bE rfl)<|ag<|aP rfl rfl<|aq<|ae hP<|ab (aL hT rfl rfl rfl rfl (cs := [_, _, _, _, _, _, _, _, _]) rfl rfl)<|ab (ah c0) ?_
 refine aH hT rfl rfl rfl rfl rfl rfl<|ab (aT hT rfl rfl rfl rfl rfl (by first | decide | omega)) ?_
 refine a7 hT rfl rfl rfl rfl ?_
 refine ab (b7 rfl rfl (by decide) (c := (i2 : Int) % 200) (Int.tmod_eq_emod_of_nonneg (by omega))) ?_
 refine ab (bh hT rfl rfl rfl rfl (IntWalk.i64_in _ (by omega))) ?_
 refine ab (bL rfl rfl (c := (m : Int)) hmw) ?_
 refine an ai (ay hT rfl rfl)<|aD hT rfl rfl rfl rfl rfl rfl rfl<|ak rfl<|ag<|ae hP<|bH hT rfl rfl rfl rfl rfl rfl<|ab (ah cDs) ?_
 refine an ai (ay hT rfl rfl)<|aD hT rfl rfl rfl rfl rfl rfl rfl<|ag<|ae hP<|bH hT rfl rfl rfl rfl rfl rfl<|aj rfl<|ab (ah cA) ?_
 refine ab (az (rfl : _ = AV.t _))<|ab (aC rfl (v := .c _) rfl)<|ab (aC rfl (v := .c _) rfl)<|ak rfl<|ak rfl<|ag<|ae hP<|au hT rfl rfl rfl rfl rfl rfl<|aj rfl<|ab (ah cR) ?_
 refine ab (az (rfl : _ = AV.t _))<|ab (aC rfl (v := .c _) rfl)<|ab (aC rfl (v := .c _) rfl)<|ak rfl<|ak rfl<|ag<|ae hP<|bH hT rfl rfl rfl rfl rfl rfl<|ab (ah cRd) ?_
 refine ab (az (rfl : _ = AV.t _))<|ab (aC rfl (v := .a _) rfl)<|ab (aC rfl (v := .a _) rfl)<|ab (aC rfl (v := .c _) rfl)<|an ai (ay hT rfl rfl)<|an ai (ay hT rfl rfl)<|aD hT rfl rfl rfl rfl rfl rfl rfl<|aD hT rfl rfl rfl rfl rfl rfl rfl<|ak rfl<|ag<|ao<|ae hP<|aj rfl<|ab (bB rfl rfl)<|aj rfl<|aB rfl (az (rfl : _ = AV.p (.c _))) ?_
 refine aB rfl (bB rfl rfl) ?_
 refine ab (aN rfl rfl (rfl : _ = AV.p (.c _)))<|aj rfl<|aB rfl (az (rfl : _ = AV.p (.c _))) ?_
 refine aB rfl (bB rfl rfl) ?_
 refine ab (aN rfl rfl (rfl : _ = AV.p (.c _)))<|ag<|aP rfl rfl<|aq<|ae hP<|ak rfl<|ag<|ao<|ae hP<|ak rfl<|ag<|aA<|bp (ι := Nat) (fun k => stL [(3, .p (.c (.v (.bool true)))), (4, .loc 4 0), (5, Z (m : Int)), (6, .loc 6 0), (7, .p (.c (SL enP pl))), (9, .p (.c (SL enI rl))), (11, .loc 11 0), (14, Z ((dG Q rl k : Nat) : Int)), (15, Z (k : Int))] [(4, ⟨false, 1, 46, [zn f.a, zm f.a, zn f.b, zm f.b, zn f.c, zm f.c]⟩), (6, ⟨false, 1, 29, [zn d, zm d]⟩), (11, ⟨false, 1, 46, [zn o.a, zm o.a, zn o.b, zm o.b, zn o.c, zm o.c]⟩)]) (fun k => k ≤ rl.length) (fun k => rl.length - k) 0 (Nat.zero_le _) (aE ⟨.refl _, .refl _, .refl _, .refl _, .refl _, .refl _, .refl _, aJ (by rw [HB]; rfl), .refl _, trivial⟩ ⟨rfl, rfl, rfl, trivial⟩) ?_
 intro k hk
 have hfk := Eo (p := Q) (l := rl) (k := k)
 refine ao<|ae hP<|aj rfl<|aj rfl<|ab (aU hT rfl rfl rfl (by rfl)) ?_
 refine ab (bi rfl rfl)<|ag ?_
 refine aw rfl (fun hb3 => ?_) (fun hb3 => ?_)
 ·have hb3_ := of_decide_eq_true hb3
  refine (hcB _ (jR (l := rl) (k := k) (d := 0) (by omega))).elim (fun ob hx => hx.elim (fun Mb hob => ?_))
  have hrk := jH (l := rl) (k := k) (by omega) 0
  refine aq<|ao<|aA<|ae hP<|au hT rfl rfl rfl rfl rfl rfl<|aj rfl<|aj rfl<|aj rfl<|ab (cp hT eS (by decide) 0 (n := (k : Int)) (l := rl) rfl rfl rfl rfl rfl rfl (by omega)) ?_
  refine ab (a6 hT rfl rfl rfl (cs := enI (rl.getD k 0)) rfl rfl) ?_
  refine ab (ah hob.1) ?_
  refine ab (ah hob.2.1) ?_
  refine ab (az (rfl : _ = AV.t _))<|ab (aC rfl (v := .a _) rfl)<|ab (aC rfl (v := .a _) rfl)<|ab (aC rfl (v := .c _) rfl)<|an ai (ay hT rfl rfl)<|an ai (ay hT rfl rfl)<|aD hT rfl rfl rfl rfl rfl rfl rfl<|aD hT rfl rfl rfl rfl rfl rfl rfl<|ak rfl<|ag<|ao<|ae hP<|aj rfl<|ab (bB rfl rfl)<|ag<|aP rfl rfl<|aq<|ae hP<|bH hT rfl rfl rfl rfl rfl rfl<|bH hT rfl rfl rfl rfl rfl rfl<|ab (ah (qZ ob.a ob.b ob.c o.a o.b o.c)) ?_
  refine ag ?_
  refine aw rfl (fun hb4 => ?_) (fun hb4 => ?_)
  ·have hq : Q (rl.getD k 0) = true := hob.2.2.2 (Fm.ext (of_decide_eq_true hb4).1 (of_decide_eq_true hb4).2.1 (of_decide_eq_true hb4).2.2).symm
   refine av hP<|aj rfl<|bI rfl rfl ?_
   refine ak rfl<|ag<|av hP<|aj rfl<|bI rfl rfl ?_
   refine ak rfl<|ag ?_
   refine ⟨k + 1, by omega, by omega, aE ⟨.refl _, .refl _, .refl _, .refl _, .refl _, .refl _, .refl _, aJ (by rw [su hrk hq]; rfl), aJ (by omega), trivial⟩ ⟨rfl, rfl, rfl, trivial⟩⟩
  have hq : Q (rl.getD k 0) = false := Bool.eq_false_iff.2 (fun e => of_decide_eq_false hb4 (by rw [hob.2.2.1 e]; exact ⟨rfl, rfl, rfl⟩))
  refine aq<|av hP<|aj rfl<|bI rfl rfl ?_
  refine ak rfl<|ag ?_
  refine ⟨k + 1, by omega, by omega, aE ⟨.refl _, .refl _, .refl _, .refl _, .refl _, .refl _, .refl _, aJ (by rw [uH hrk hq]), aJ (by omega), trivial⟩ ⟨rfl, rfl, rfl, trivial⟩⟩
 have hb3_ := of_decide_eq_false hb3
 have hkl : k = rl.length := by omega
 refine aZ<|ao<|ae hP<|ak rfl<|ag<|aA<|bp (ι := Nat) (fun j => stL [(3, .p (.c (.v (.bool true)))), (4, .loc 4 0), (5, Z (m : Int)), (6, .loc 6 0), (7, .p (.c (SL enP pl))), (14, Z ((dG Q rl rl.length : Nat) : Int)), (19, Z (j : Int))] [(4, ⟨false, 1, 46, [zn f.a, zm f.a, zn f.b, zm f.b, zn f.c, zm f.c]⟩), (6, ⟨false, 1, 29, [zn d, zm d]⟩)]) (fun j => j ≤ pl.length) (fun j => pl.length - j) 0 (Nat.zero_le _) (aE ⟨.refl _, .refl _, .refl _, .refl _, .refl _, aJ (by rw [hkl]), .refl _, trivial⟩ ⟨rfl, rfl, trivial⟩) ?_
 intro j hj
 refine ao<|ae hP<|aj rfl<|aj rfl<|ab (aU hT rfl rfl rfl (by rfl)) ?_
 refine ab (bi rfl rfl)<|ag ?_
 refine aw rfl (fun hb5 => ?_) (fun hb5 => ?_)
 ·have hb5_ := of_decide_eq_true hb5
  have hjm := jR (l := pl) (k := j) (d := (0, 0)) (by omega)
  have hpj := hpl _ hjm
  have hpJ := hpL _ hjm
  have ix : LB (pl.getD j (0, 0)).1 6 := ⟨hpJ.1⟩
  have iy : LB (pl.getD j (0, 0)).2 6 := ⟨hpJ.2⟩
  refine aq<|ao<|aA<|ao<|ae hP<|bH hT rfl rfl rfl rfl rfl rfl<|aj rfl<|aj rfl<|ab (cp hT dI (by decide) (0, 0) (n := (j : Int)) (l := pl) rfl rfl rfl rfl rfl rfl (by omega)) ?_
  refine ab (cE hT rfl rfl rfl rfl rfl (by decide)) ?_
  refine ab (a6 hT rfl rfl rfl (cs := enI (pl.getD j (0, 0)).1) rfl rfl) ?_
  refine aj rfl<|aj rfl<|ab (cp hT dI (by decide) (0, 0) (n := (j : Int)) (l := pl) rfl rfl rfl rfl rfl rfl (by omega)) ?_
  refine ab (cE hT rfl rfl rfl rfl rfl (by decide)) ?_
  refine ab (a6 hT rfl rfl rfl (cs := enI (pl.getD j (0, 0)).2) rfl rfl) ?_
  refine ab (ah (ma f.a f.b f.c (pl.getD j (0, 0)).1 (pl.getD j (0, 0)).2 lz lz lz lz lz)) ?_
  refine aj rfl<|ab (ah (dP (m : Int) jm)) ?_
  refine ab (ah (da _ _)) ?_
  refine ab (bB rfl rfl)<|aj rfl<|bt (aW rfl rfl (dz hpj.2)) (az (rfl : _ = AV.p (.c _))) ?_
  refine bt (aW rfl rfl (dz hpj.2)) (az (rfl : _ = AV.p (.c _))) ?_
  refine bt (aW rfl rfl (dz hpj.2)) (cp hT dI (by decide) (0, 0) (n := (j : Int)) (l := pl) rfl rfl rfl rfl rfl rfl (by omega)) ?_
  refine bt (aW rfl rfl (dz hpj.2)) (cE hT rfl rfl rfl rfl rfl (by decide)) ?_
  refine bt (aW rfl rfl (dz hpj.2)) (a6 hT rfl rfl rfl (cs := enI (pl.getD j (0, 0)).1) rfl rfl) ?_
  refine bt (aW rfl rfl (dz hpj.2)) (az (rfl : _ = AV.p (.c _))) ?_
  refine bt (aW rfl rfl (dz hpj.2)) (az (rfl : _ = AV.p (.c _))) ?_
  refine bt (aW rfl rfl (dz hpj.2)) (cp hT dI (by decide) (0, 0) (n := (j : Int)) (l := pl) rfl rfl rfl rfl rfl rfl (by omega)) ?_
  refine bt (aW rfl rfl (dz hpj.2)) (cE hT rfl rfl rfl rfl rfl (by decide)) ?_
  refine bt (aW rfl rfl (dz hpj.2)) (a6 hT rfl rfl rfl (cs := enI (pl.getD j (0, 0)).2) rfl rfl) ?_
  refine bt (aW rfl rfl (dz hpj.2)) (ah (km (pl.getD j (0, 0)).1 (pl.getD j (0, 0)).2 lz lz)) ?_
  refine bt (aW rfl rfl (dz hpj.2)) (ah (dP 1 (by decide))) ?_
  refine bt (aW rfl rfl (dz hpj.2)) (ah (da _ _)) ?_
  refine bt (aW rfl rfl (dz hpj.2)) (bB rfl rfl) ?_
  refine ab (aN rfl (dz hpj.2) (rfl : _ = AV.p (.c _))) ?_
  refine ag<|aP rfl (dz (by rw [hpj.1]; rfl)) ?_
  refine aq<|ae hP<|aj rfl<|ab (bU rfl rfl)<|ag ?_
  refine aw rfl (fun hb7 => ?_) (fun hb7 => ?_)
  ·have hb7_ := of_decide_eq_true hb7
   have hlt := FV hps (j := j) (by omega) (by omega)
   refine ae hP<|aj rfl<|aj rfl<|ab (bD rfl rfl (by first | exact IntWalk.i64_in _ (by omega) | rfl)) ?_
   refine ab (cp hT dI (by decide) (0, 0) (n := (j : Int) - 1) (l := pl) rfl rfl rfl rfl rfl rfl (by omega)) ?_
   refine ab (cE hT rfl rfl rfl rfl rfl (by decide)) ?_
   refine ab (a6 hT rfl rfl rfl (cs := enI (pl.getD ((j : Int) - 1).toNat (0, 0)).1) rfl rfl) ?_
   refine aj rfl<|aj rfl<|ab (cp hT dI (by decide) (0, 0) (n := (j : Int)) (l := pl) rfl rfl rfl rfl rfl rfl (by omega)) ?_
   refine ab (cE hT rfl rfl rfl rfl rfl (by decide)) ?_
   refine ab (a6 hT rfl rfl rfl (cs := enI (pl.getD j (0, 0)).1) rfl rfl) ?_
   refine ab (ah (da _ _)) ?_
   refine ak rfl<|ag<|ae hP<|aj rfl<|ab (bU rfl rfl)<|aj rfl<|bt (aW rfl rfl (nf hlt)) (az (rfl : _ = AV.p (.c _))) ?_
   refine bt (aW rfl rfl (nf hlt)) (br rfl rfl) ?_
   refine bt (aW rfl rfl (nf hlt)) (az (rfl : _ = AV.p (.c _))) ?_
   refine bf (t := 144) rfl (fun hg9 => ?_) (fun hg9 => ?_)
   ·have hg9_ := bT hg9
    have hce := hg9
    refine aB hg9 (az (rfl : _ = AV.p (.c _))) ?_
    refine aB hg9 (az (rfl : _ = AV.p (.c _))) ?_
    refine aB hg9 (bD rfl rfl (by first | exact IntWalk.i64_in _ (by omega) | rfl)) ?_
    refine aB hg9 (cp hT dI (by decide) (0, 0) (n := (j : Int) - 1) (l := pl) rfl rfl rfl rfl rfl rfl (by omega)) ?_
    refine aB hg9 (cE hT rfl rfl rfl rfl rfl (by decide)) ?_
    refine aB hg9 (a6 hT rfl rfl rfl (cs := enI (pl.getD ((j : Int) - 1).toNat (0, 0)).2) rfl rfl) ?_
    refine aB hg9 (az (rfl : _ = AV.p (.c _))) ?_
    refine aB hg9 (az (rfl : _ = AV.p (.c _))) ?_
    refine aB hg9 (cp hT dI (by decide) (0, 0) (n := (j : Int)) (l := pl) rfl rfl rfl rfl rfl rfl (by omega)) ?_
    refine aB hg9 (cE hT rfl rfl rfl rfl rfl (by decide)) ?_
    refine aB hg9 (a6 hT rfl rfl rfl (cs := enI (pl.getD j (0, 0)).2) rfl rfl) ?_
    refine aB hg9 (ah (da _ _)) ?_
    refine aB hg9 (dc rfl rfl) ?_
    refine bt (aW rfl rfl (nf hlt)) (aO rfl hg9 (rfl : _ = AV.p (.c _))) ?_
    refine ab (aN rfl (nf hlt) (rfl : _ = AV.p (.c _))) ?_
    refine ag<|aP rfl (KC hlt hce) ?_
    refine aq<|av hP<|aj rfl<|bI rfl rfl ?_
    refine ak rfl<|ag ?_
    refine ⟨j + 1, by omega, by omega, aE ⟨.refl _, .refl _, .refl _, .refl _, .refl _, .refl _, aJ (by omega), trivial⟩ ⟨rfl, rfl, trivial⟩⟩
   have hg9_ := bF hg9
   iterate 13 refine bd hg9 ?_
   refine bt (aW rfl rfl (nf hlt)) (aN rfl hg9 (rfl : _ = AV.p (.c _))) ?_
   refine ab (aN rfl (nf hlt) (rfl : _ = AV.p (.c _))) ?_
   refine ag<|aP rfl rfl<|aq<|av hP<|aj rfl<|bI rfl rfl ?_
   refine ak rfl<|ag ?_
   refine ⟨j + 1, by omega, by omega, aE ⟨.refl _, .refl _, .refl _, .refl _, .refl _, .refl _, aJ (by omega), trivial⟩ ⟨rfl, rfl, trivial⟩⟩
  have hb7_ := of_decide_eq_false hb7
  refine aq<|av hP<|aj rfl<|bI rfl rfl ?_
  refine ak rfl<|ag ?_
  refine ⟨j + 1, by omega, by omega, aE ⟨.refl _, .refl _, .refl _, .refl _, .refl _, .refl _, aJ (by omega), trivial⟩ ⟨rfl, rfl, trivial⟩⟩
 have hb5_ := of_decide_eq_false hb5
 have hml : unN d * dG Q rl rl.length ≤ 1000000000 := by rw [← hpn]; omega
 refine aZ<|ae hP<|aj rfl<|ab (aU hT rfl rfl rfl (by rfl)) ?_
 refine au hT rfl rfl rfl rfl rfl rfl<|ab (ah cUn) ?_
 refine aj rfl<|ab (bX rfl rfl (c := ((unN d * dG Q rl rl.length : Nat) : Int)) (GQ hml)) ?_
 refine ab (br rfl rfl)<|aj rfl<|bt (aW rfl rfl (xV hpn)) (az (rfl : _ = AV.p (.c _))) ?_
 refine ab (aO rfl (xV hpn) (rfl : _ = AV.p (.c _))) ?_
 refine ak rfl<|ag<|am<|E1 rfl rfl ?_
 exact .refl _
end
section
open Go Go.AM
end
section
open Go Go.AM
end
section
open Go Go.AM
end
section
open Go Go.AM
end
end Go.Proofs.YthaiejfjnllglaaGreatDoor
