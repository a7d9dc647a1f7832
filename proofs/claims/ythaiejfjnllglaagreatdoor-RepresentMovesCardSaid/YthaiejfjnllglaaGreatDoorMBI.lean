import Derived.Test.YthaiejfjnllglaaGreatDoorMBF
import Derived.Test.YthaiejfjnllglaaGreatDoorMBC
import Derived.Test.YthaiejfjnllglaaGreatDoorMBH
import Derived.Test.YthaiejfjnllglaaGreatDoorMBE
import Derived.Test.YthaiejfjnllglaaGreatDoorMBG
set_option maxRecDepth 100000
set_option maxHeartbeats 16000000
namespace Go.Proofs.YthaiejfjnllglaaGreatDoor
section
open Go Go.AM
theorem mN (l m : List Fm) (hl : (l.length : Int) ≤ 1000000000) :
  aF Tryz.prog 49 [.p (.c (FS l)), .p (.c (FS m))] (B (decide (l = m))) := by
 refine aL Tryz.func49 rfl rfl rfl rfl ?_
 refine ae hP<|ak rfl<|ag<|ao<|ae hP<|aj rfl<|ab (aU hT rfl rfl rfl (by rfl)) ?_
 refine aj rfl<|ab (aU hT rfl rfl rfl (by rfl)) ?_
 refine ab (bw rfl rfl)<|ag ?_
 refine aw rfl (fun hb1 => ?_) (fun hb1 => ?_)
 ·have hb1_ := cw hb1
  refine ae hP<|ak rfl<|ag<|am<|E1 rfl rfl ?_
  exact aW (Hn hb1_)
 have hb1_ := b9 hb1
 refine aq<|ao<|ae hP<|ak rfl<|ag<|aA<|bq (ι := Nat) (fun k => stL [(0, .p (.c (FS l))), (1, .p (.c (FS m))), (5, Z (k : Int))] []) (fun k => SmI l m k) (fun k => l.length - k) 0 (SmI.start l m) (aG ⟨.refl _, .refl _, .refl _, trivial⟩ trivial) ?_
 intro k hI
 have hk := hI.k1
 refine ao<|ae hP<|aj rfl<|aj rfl<|ab (aU hT rfl rfl rfl (by rfl)) ?_
 refine ab (bi rfl rfl)<|ag ?_
 refine aw rfl (fun hb2 => ?_) (fun hb2 => ?_)
 ·have hb2_ := dT0 hb2
  refine aq<|ao<|aA<|ae hP<|aj rfl<|aj rfl<|ab (gz hT rfl rfl rfl rfl rfl rfl (by omega)) ?_
  refine ab (bo hT rfl rfl rfl (cs := FC (l.getD k ⟨0, 0, 0⟩)) rfl rfl) ?_
  refine aj rfl<|aj rfl<|ab (gz hT rfl rfl rfl rfl rfl rfl (by omega)) ?_
  refine ab (bo hT rfl rfl rfl (cs := FC (m.getD k ⟨0, 0, 0⟩)) rfl rfl) ?_
  refine ab (ah (zQ ((l.getD k ⟨0, 0, 0⟩)).a ((l.getD k ⟨0, 0, 0⟩)).b ((l.getD k ⟨0, 0, 0⟩)).c (m.getD k ⟨0, 0, 0⟩).a (m.getD k ⟨0, 0, 0⟩).b (m.getD k ⟨0, 0, 0⟩).c)) ?_
  refine ab (bA rfl)<|ag ?_
  refine aw rfl (fun hb3 => ?_) (fun hb3 => ?_)
  ·have hb3_ := (cy hb3)
   refine ae hP<|ak rfl<|ag<|am<|E1 rfl rfl ?_
   exact aW (SmI.no (l := l) (m := m) (k := k) (cy hb3))
  have hb3_ := (cn hb3)
  refine aq<|av hP<|aj rfl<|bH rfl rfl ?_
  refine ak rfl<|ag ?_
  refine ⟨k + 1, hI.next (by omega) (cn hb3), by omega, aG ⟨.refl _, .refl _, aO (by omega), trivial⟩ trivial⟩
 have hb2_ := dF0 hb2
 refine aZ<|ae hP<|ak rfl<|ag<|am<|E1 rfl rfl ?_
 exact aW (hI.yes hb1_ hb2_)
end
section
open Go Go.AM
theorem iB (f : Fm) (D : Int) (m : Nat) (hfa : L 6 f.a) (hfb : L 6 f.b) (hfc : L 6 f.c) (hf : Cl D f) (hD : -4194304 ≤ D ∧ D < 0) (hm : 1 ≤ m ∧ m ≤ 65536) (hE : szE D = 0) :
  aF Tryz.prog 30 [FA f.a f.b f.c, Z (m : Int)] (.p (.a (anS (fnd D m f) ++ [.v (.int .i64 0)]))) := by
 have cF : aF Tryz.prog 17 [FA f.a f.b f.c, Z (m : Int)] (.t [.a (anS (fnd D m f)), PE 0]) := GY f D m hfa hfb hfc hf hD hm hE
 refine aL Tryz.func30 rfl rfl rfl rfl ?_
 refine ae hP<|an ai (aK rfl rfl)<|an ai (ay hT rfl rfl)<|ag<|ae hP<|bD hT rfl rfl rfl rfl rfl rfl<|aj rfl<|ab (ah cF) ?_
 refine ab (az (rfl : _ = AV.t _))<|ab (aC rfl (v := .a _) rfl)<|ab (aC rfl (v := .c _) rfl)<|an ai (ay hT rfl rfl)<|aE hT rfl<|ak rfl<|ag<|ae hP<|ab (aI hT rfl rfl rfl rfl (cs := [_, _, _, _, _, _, _, _, _]) rfl rfl)<|aj rfl<|ab (aV hT rfl rfl rfl (es := [_, _, _, _, _, _, _, _, _, _]) rfl)<|aE hT rfl<|ag<|am ?_
 refine bS rfl (.inr rfl) (aQ hT rfl rfl rfl rfl (cs := [_, _, _, _, _, _, _, _, _, _]) rfl rfl) ?_ bt
 exact .refl _
theorem su (f : Fm) (D : Int) (m : Nat) (hfa : L 6 f.a) (hfb : L 6 f.b) (hfc : L 6 f.c) (hf : Cl D f) (hD : -4194304 ≤ D ∧ D < 0) (hm : 1 ≤ m ∧ m ≤ 65536) (hE : szE D = 0) (a : RA) (hok : ∀ r ∈ a.nums, okW r.2) (hsz : ∀ r ∈ a.nums, r.2.length ≤ 1000) (hlr : a.roots.length ≤ 100000) (hlf : a.forms.length ≤ 100000) :
  aF Tryz.prog 36 [FA f.a f.b f.c, Z (m : Int), .p (.a (raS a))] (B (rgA D m f a)) := by
 refine aL Tryz.func36 rfl rfl rfl rfl ?_
 refine ae hP<|an ai (aK rfl rfl)<|an ai (aK rfl rfl)<|ak rfl<|ag<|ae hP<|bD hT rfl rfl rfl rfl rfl rfl<|aj rfl<|ab (aI hT rfl rfl rfl rfl (cs := [_, _, _, _, _, _, _, _, _]) rfl rfl)<|ab (ah (DX f D m hfa hfb hfc hf hD hm hE a hok hsz hlr hlf)) ?_
 refine ab (az (rfl : _ = AV.t _))<|ab (aC rfl (v := .c _) rfl)<|ab (aC rfl (v := .c _) rfl)<|ak rfl<|ak rfl<|ag<|ae hP<|aj rfl<|aj rfl ?_
 refine bd (t := 17) rfl (fun hg1 => ?_) (fun hg1 => ?_)
 ·have hv := hg1
  refine aB hg1 (az (rfl : _ = AV.p (.c _))) ?_
  refine aB hg1 (bp rfl rfl) ?_
  refine ab (aN rfl hg1 (rfl : _ = AV.p (.c _)))<|ak rfl<|ag<|am<|E1 rfl rfl ?_
  exact aW hv.symm
 have hv := hg1
 refine a7 hg1 ?_
 refine a7 hg1 ?_
 refine ab (aP rfl hg1 (rfl : _ = AV.p (.c _)))<|ak rfl<|ag<|am<|E1 rfl rfl ?_
 exact aW hv.symm
theorem mS (f : Fm) (D : Int) (m : Nat) (hfa : L 6 f.a) (hfb : L 6 f.b) (hfc : L 6 f.c) (hf : Cl D f) (hD : -4194304 ≤ D ∧ D < 0) (hm : 1 ≤ m ∧ m ≤ 65536) (hE : szE D = 0) (a : Ans) (hx : L 8 a.x) (hy : L 8 a.y) (hz : L 8 a.m) (hr : ∀ z ∈ a.roots, L 8 z) (hg : ∀ g ∈ a.forms, L 8 g.a ∧ L 8 g.b ∧ L 8 g.c) (hlr : a.roots.length ≤ 100000) (hlf : a.forms.length ≤ 100000) :
  aF Tryz.prog 36 [FA f.a f.b f.c, Z (m : Int), .p (.a (anS a))] (B (rgt D m f a)) := by
 have h := su f D m hfa hfb hfc hf hD hm hE (jE a) (fun r hr => (oI a r hr).1) (Dw hx hy hz hr hg) (by unfold jE; simpa using hlr) (by unfold jE; simpa using hlf)
 rw [GC, Gp] at h
 exact h
theorem lQ (l m : List Int) (hl : (l.length : Int) ≤ 1000000000) :
  aF Tryz.prog 27 [.p (.c (SL enI l)), .p (.c (SL enI m))] (B (decide (l = m))) := by
 refine aL Tryz.func27 rfl rfl rfl rfl ?_
 refine ae hP<|ak rfl<|ag<|ao<|ae hP<|aj rfl<|ab (aU hT rfl rfl rfl (by rfl)) ?_
 refine aj rfl<|ab (aU hT rfl rfl rfl (by rfl)) ?_
 refine ab (bw rfl rfl)<|ag ?_
 refine aw rfl (fun hb1 => ?_) (fun hb1 => ?_)
 ·have hb1_ := cw hb1
  refine ae hP<|ak rfl<|ag<|am<|E1 rfl rfl ?_
  exact aW (decide_eq_false (fun e => hb1_ (by rw [e]))).symm
 have hb1_ := b9 hb1
 have hlen : l.length = m.length := by have := hb1_; omega
 refine aq<|ao<|ae hP<|ak rfl<|ag<|aA<|bq (ι := Nat) (fun k => stL [(0, .p (.c (SL enI l))), (1, .p (.c (SL enI m))), (5, Z (k : Int))] []) (fun k => SmG l m k) (fun k => l.length - k) 0 (SmG.start hlen) (aG ⟨.refl _, .refl _, .refl _, trivial⟩ trivial) ?_
 intro k hI
 have hk := hI.le
 refine ao<|ae hP<|aj rfl<|aj rfl<|ab (aU hT rfl rfl rfl (by rfl)) ?_
 refine ab (bi rfl rfl)<|ag ?_
 refine aw rfl (fun hb2 => ?_) (fun hb2 => ?_)
 ·have hb2_ := dT0 hb2
  refine aq<|ao<|aA<|ae hP<|aj rfl<|aj rfl<|ab (dM hT fu (by decide) 0 (n := (k : Int)) (l := l) rfl rfl rfl rfl rfl rfl (by omega)) ?_
  refine ab (bo hT rfl rfl rfl (cs := enI (l.getD k 0)) rfl rfl) ?_
  refine aj rfl<|aj rfl<|ab (dM hT fu (by decide) 0 (n := (k : Int)) (l := m) rfl rfl rfl rfl rfl rfl (by omega)) ?_
  refine ab (bo hT rfl rfl rfl (cs := enI (m.getD k 0)) rfl rfl) ?_
  refine ab (ah (ff _ _)) ?_
  refine ab (bA rfl)<|ag ?_
  refine aw rfl (fun hb3 => ?_) (fun hb3 => ?_)
  ·have hb3_ := (cy hb3)
   refine ae hP<|ak rfl<|ag<|am<|E1 rfl rfl ?_
   exact aW (decide_eq_false (SmG.no (d := 0) (fun e => dF0 (cy hb3) e))).symm
  have hb3_ := (cn hb3)
  refine aq<|av hP<|aj rfl<|bH rfl rfl ?_
  refine ak rfl<|ag ?_
  refine ⟨k + 1, hI.next (d := 0) (by omega) (dT0 (cn hb3)), by omega, aG ⟨.refl _, .refl _, aO (by omega), trivial⟩ trivial⟩
 have hb2_ := dF0 hb2
 refine aZ<|ae hP<|ak rfl<|ag<|am<|E1 rfl rfl ?_
 exact aW (decide_eq_true (hI.yes (by omega))).symm
theorem kO (a b : Ans) (hr : (a.roots.length : Int) ≤ 1000000000) (hg : (a.forms.length : Int) ≤ 1000000000) :
  aF Tryz.prog 32 [.p (.a (anS a)), .p (.a (anS b))] (B (sA a b)) := by
 refine aL Tryz.func32 rfl rfl rfl rfl ?_
 refine ae hP<|an ai (aK rfl rfl)<|an ai (aK rfl rfl)<|ak rfl<|ag<|ao<|ae hP<|aD hT rfl<|aY hT rfl rfl rfl rfl ?_
 refine aD hT rfl<|aY hT rfl rfl rfl rfl ?_
 refine ab (bw rfl rfl)<|aj rfl ?_
 refine bd (t := 11) rfl (fun hg1 => ?_) (fun hg1 => ?_)
 ·have hg1_ := cw hg1
  have k0 := cw hg1
  iterate 6 refine a7 hg1 ?_
  refine ab (aN rfl hg1 (rfl : _ = AV.p (.c _)))<|aj rfl<|a7 rfl ?_
  iterate 5 refine a7 rfl ?_
  refine ab (aN rfl rfl (rfl : _ = AV.p (.c _)))<|aj rfl<|a7 rfl ?_
  iterate 5 refine a7 rfl ?_
  refine ab (aN rfl rfl (rfl : _ = AV.p (.c _)))<|aj rfl<|a7 rfl ?_
  iterate 6 refine a7 rfl ?_
  refine ab (aN rfl rfl (rfl : _ = AV.p (.c _)))<|ag<|aX rfl rfl<|ae hP<|ak rfl<|ag<|am<|E1 rfl rfl ?_
  exact aW (decide_eq_false (fun z => k0 z.1)).symm
 have hg1_ := b9 hg1
 have k0 := b9 hg1
 refine aB hg1 (aJ hT rfl rfl rfl rfl rfl rfl) ?_
 refine aB hg1 (aI hT rfl rfl rfl rfl (cs := [_, _]) rfl rfl) ?_
 refine aB hg1 (aJ hT rfl rfl rfl rfl rfl rfl) ?_
 refine aB hg1 (aI hT rfl rfl rfl rfl (cs := [_, _]) rfl rfl) ?_
 refine aB hg1 (ah (ff _ _)) ?_
 refine aB hg1 (bA rfl) ?_
 refine ab (aP rfl hg1 (rfl : _ = AV.p (.c _)))<|aj rfl ?_
 refine bd (t := 19) rfl (fun hg2 => ?_) (fun hg2 => ?_)
 ·have hg2_ := (cy hg2)
  have k1 := dF0 (cy hg2)
  iterate 6 refine a7 hg2 ?_
  refine ab (aN rfl hg2 (rfl : _ = AV.p (.c _)))<|aj rfl<|a7 rfl ?_
  iterate 5 refine a7 rfl ?_
  refine ab (aN rfl rfl (rfl : _ = AV.p (.c _)))<|aj rfl<|a7 rfl ?_
  iterate 6 refine a7 rfl ?_
  refine ab (aN rfl rfl (rfl : _ = AV.p (.c _)))<|ag<|aX rfl rfl<|ae hP<|ak rfl<|ag<|am<|E1 rfl rfl ?_
  exact aW (decide_eq_false (fun z => k1 z.2.1)).symm
 have hg2_ := (cn hg2)
 have k1 := dT0 (cn hg2)
 refine aB hg2 (aJ hT rfl rfl rfl rfl rfl rfl) ?_
 refine aB hg2 (aI hT rfl rfl rfl rfl (cs := [_, _]) rfl rfl) ?_
 refine aB hg2 (aJ hT rfl rfl rfl rfl rfl rfl) ?_
 refine aB hg2 (aI hT rfl rfl rfl rfl (cs := [_, _]) rfl rfl) ?_
 refine aB hg2 (ah (ff _ _)) ?_
 refine aB hg2 (bA rfl) ?_
 refine ab (aP rfl hg2 (rfl : _ = AV.p (.c _)))<|aj rfl ?_
 refine bd (t := 27) rfl (fun hg3 => ?_) (fun hg3 => ?_)
 ·have hg3_ := (cy hg3)
  have k2 := dF0 (cy hg3)
  iterate 6 refine a7 hg3 ?_
  refine ab (aN rfl hg3 (rfl : _ = AV.p (.c _)))<|aj rfl<|a7 rfl ?_
  iterate 6 refine a7 rfl ?_
  refine ab (aN rfl rfl (rfl : _ = AV.p (.c _)))<|ag<|aX rfl rfl<|ae hP<|ak rfl<|ag<|am<|E1 rfl rfl ?_
  exact aW (decide_eq_false (fun z => k2 z.2.2.1)).symm
 have hg3_ := (cn hg3)
 have k2 := dT0 (cn hg3)
 refine aB hg3 (aJ hT rfl rfl rfl rfl rfl rfl) ?_
 refine aB hg3 (aI hT rfl rfl rfl rfl (cs := [_, _]) rfl rfl) ?_
 refine aB hg3 (aJ hT rfl rfl rfl rfl rfl rfl) ?_
 refine aB hg3 (aI hT rfl rfl rfl rfl (cs := [_, _]) rfl rfl) ?_
 refine aB hg3 (ah (ff _ _)) ?_
 refine aB hg3 (bA rfl) ?_
 refine ab (aP rfl hg3 (rfl : _ = AV.p (.c _)))<|aj rfl ?_
 refine bd (t := 35) rfl (fun hg4 => ?_) (fun hg4 => ?_)
 ·have hg4_ := (cy hg4)
  have k3 := dF0 (cy hg4)
  iterate 7 refine a7 hg4 ?_
  refine ab (aN rfl hg4 (rfl : _ = AV.p (.c _)))<|ag<|aX rfl rfl<|ae hP<|ak rfl<|ag<|am<|E1 rfl rfl ?_
  exact aW (decide_eq_false (fun z => k3 z.2.2.2.1)).symm
 have hg4_ := (cn hg4)
 have k3 := dT0 (cn hg4)
 refine aB hg4 (aJ hT rfl rfl rfl rfl rfl rfl) ?_
 refine aB hg4 (bG hT rfl rfl rfl rfl (by first | rfl | exact dz (by omega))) ?_
 refine aB hg4 (aU hT rfl rfl rfl (by rfl)) ?_
 refine aB hg4 (aJ hT rfl rfl rfl rfl rfl rfl) ?_
 refine aB hg4 (bG hT rfl rfl rfl rfl (by first | rfl | exact dz (by omega))) ?_
 refine aB hg4 (aU hT rfl rfl rfl (by rfl)) ?_
 refine aB hg4 (bw rfl rfl) ?_
 refine ab (aP rfl hg4 (rfl : _ = AV.p (.c _)))<|ag ?_
 refine aw rfl (fun hb5 => ?_) (fun hb5 => ?_)
 ·have hb5_ := cw hb5
  have k4 := cw hb5
  refine ae hP<|ak rfl<|ag<|am<|E1 rfl rfl ?_
  exact aW (decide_eq_false (fun z => k4 (by rw [z.2.2.2.2.1]))).symm
 have hb5_ := b9 hb5
 have k4 : a.roots.length = b.roots.length := by have := b9 hb5; omega
 refine aq<|ao<|ae hP<|ak rfl<|ag<|aA<|bq (ι := Nat) (fun k => stL [(2, .loc 2 0), (3, .loc 3 0), (5, Z (k : Int))] [(2, ⟨false, 1, 42, anS a⟩), (3, ⟨false, 1, 42, anS b⟩)]) (fun k => SmG a.roots b.roots k) (fun k => a.roots.length - k) 0 (SmG.start k4) (aG ⟨.refl _, .refl _, .refl _, trivial⟩ ⟨rfl, rfl, trivial⟩) ?_
 intro k hI
 have hk := hI.le
 refine ao<|ae hP<|aj rfl<|aD hT rfl<|aY hT rfl rfl rfl rfl ?_
 refine ab (aU hT rfl rfl rfl (by rfl)) ?_
 refine ab (bi rfl rfl)<|ag ?_
 refine aw rfl (fun hb6 => ?_) (fun hb6 => ?_)
 ·have hb6_ := dT0 hb6
  refine aq<|ao<|aA<|ae hP<|aD hT rfl<|aY hT rfl rfl rfl rfl ?_
  refine aj rfl<|ab (dM hT fu (by decide) 0 (n := (k : Int)) (l := a.roots) rfl rfl rfl rfl rfl rfl (by omega)) ?_
  refine ab (bo hT rfl rfl rfl (cs := enI (a.roots.getD k 0)) rfl rfl) ?_
  refine aD hT rfl<|aY hT rfl rfl rfl rfl ?_
  refine aj rfl<|ab (dM hT fu (by decide) 0 (n := (k : Int)) (l := b.roots) rfl rfl rfl rfl rfl rfl (by omega)) ?_
  refine ab (bo hT rfl rfl rfl (cs := enI (b.roots.getD k 0)) rfl rfl) ?_
  refine ab (ah (ff _ _)) ?_
  refine ab (bA rfl)<|ag ?_
  refine aw rfl (fun hb7 => ?_) (fun hb7 => ?_)
  ·have hb7_ := (cy hb7)
   have k6 := dF0 (cy hb7)
   refine ae hP<|ak rfl<|ag<|am<|E1 rfl rfl ?_
   exact aW (decide_eq_false (fun z => SmG.no (d := 0) k6 z.2.2.2.2.1)).symm
  have hb7_ := (cn hb7)
  have k6 := dT0 (cn hb7)
  refine aq<|av hP<|aj rfl<|bH rfl rfl ?_
  refine ak rfl<|ag ?_
  refine ⟨k + 1, hI.next (d := 0) (by omega) k6, by omega, aG ⟨.refl _, .refl _, aO (by omega), trivial⟩ ⟨rfl, rfl, trivial⟩⟩
 have hb6_ := dF0 hb6
 refine aZ<|ae hP<|aD hT rfl<|aY hT rfl rfl rfl rfl ?_
 refine aD hT rfl<|aY hT rfl rfl rfl rfl ?_
 refine ab (ah (mN a.forms b.forms hg)) ?_
 refine ak rfl<|ag<|am<|E1 rfl rfl ?_
 exact aW (Kg k0 k1 k2 k3 (hI.yes (by omega)))
theorem ss  :
  aF Tryz.prog 21 [] (B true) := by
 have q1 : aF Tryz.prog 30 [FA 2 1 3, Z 3] (.p (.a (anS ⟨1, 0, 1, 0, [], []⟩ ++ [.v (.int .i64 0)]))) := by
  have h := iB ⟨2, 1, 3⟩ (-23) 3 (by unfold L; decide) (by unfold L; decide) (by unfold L; decide) lV (by decide) (by decide) (by decide)
  rw [AH] at h
  exact h
 have q2 : aF Tryz.prog 30 [FA 2 1 3, Z 5] (.p (.a (anS ⟨2, 0, 0, 5, [], []⟩ ++ [.v (.int .i64 0)]))) := by
  have h := iB ⟨2, 1, 3⟩ (-23) 5 (by unfold L; decide) (by unfold L; decide) (by unfold L; decide) lV (by decide) (by decide) (by decide)
  rw [EJ] at h
  exact h
 have q3 : aF Tryz.prog 30 [FA 2 1 3, Z 1] (.p (.a (anS ⟨3, 0, 0, 0, [1], [⟨1, 1, 6⟩]⟩ ++ [.v (.int .i64 0)]))) := by
  have h := iB ⟨2, 1, 3⟩ (-23) 1 (by unfold L; decide) (by unfold L; decide) (by unfold L; decide) lV (by decide) (by decide) (by decide)
  rw [HR] at h
  exact h
 have q4 : aF Tryz.prog 30 [FA 1 0 5, Z 3] (.p (.a (anS ⟨2, 0, 0, 5, [], []⟩ ++ [.v (.int .i64 0)]))) := by
  have h := iB ⟨1, 0, 5⟩ (-20) 3 (by unfold L; decide) (by unfold L; decide) (by unfold L; decide) HS (by decide) (by decide) (by decide)
  rw [AL] at h
  exact h
 have q5 : aF Tryz.prog 26 [FA 1 0 1, Z 5] (.t [.c (SL enP (prS (-4) (5 : Nat) ⟨1, 0, 1⟩)), PE 0]) := vO ⟨1, 0, 1⟩ (-4) 5 (by unfold L; decide) (by unfold L; decide) (by unfold L; decide) JM (by decide) (by decide)
 have q6 : aF Tryz.prog 13 [I (-23), Z 6] (.t [.c (SL enI [1, 5, 7, 11]), PE 0]) := by
  have h := DW (-23) 6 (by decide) (by decide) (by decide)
  rw [show ((6 : Nat) : Int) = 6 from rfl, AI] at h
  exact h
 have q7 : aF Tryz.prog 36 [FA 2 1 3, Z 3, .p (.a (anS ⟨1, 0, 1, 0, [], []⟩))] (B true) := by
  have h := mS ⟨2, 1, 3⟩ (-23) 3 (by unfold L; decide) (by unfold L; decide) (by unfold L; decide) lV (by decide) (by decide) (by decide) ⟨1, 0, 1, 0, [], []⟩ (by decide) (by decide) (by decide) (by decide) (by decide) (by decide) (by decide)
  rw [HQ] at h
  exact h
 have q8 : aF Tryz.prog 36 [FA 2 1 3, Z 3, .p (.a (anS ⟨3, 0, 0, 0, [1], [⟨1, 1, 6⟩]⟩))] (B false) := by
  have h := mS ⟨2, 1, 3⟩ (-23) 3 (by unfold L; decide) (by unfold L; decide) (by unfold L; decide) lV (by decide) (by decide) (by decide) ⟨3, 0, 0, 0, [1], [⟨1, 1, 6⟩]⟩ (by decide) (by decide) (by decide) (by decide) (by decide) (by decide) (by decide)
  rw [JL] at h
  exact h
 obtain ⟨h8, h80⟩ := HT
 rw [show (prS (-4) 5 ⟨1, 0, 1⟩) = prS (-4) (5 : Nat) ⟨1, 0, 1⟩ from rfl] at h8 h80
 generalize prS (-4) (5 : Nat) ⟨1, 0, 1⟩ = L8 at *
 refine aL Tryz.func21 rfl rfl rfl rfl ?_
 refine ae hP<|ak rfl<|ag<|ae hP<|ab (ah (nX _ _ _ (by first | assumption | decide) (by first | assumption | decide) (by first | assumption | decide))) ?_
 refine an ai (ay hT rfl rfl)<|aE hT rfl<|ag<|ae hP<|bD hT rfl rfl rfl rfl rfl rfl<|ab (ah q1) ?_
 refine bD hT rfl rfl rfl rfl rfl rfl<|ab (ah q2) ?_
 refine bD hT rfl rfl rfl rfl rfl rfl<|ab (ah q3) ?_
 refine ab (ah (nX _ _ _ (by first | assumption | decide) (by first | assumption | decide) (by first | assumption | decide))) ?_
 refine ab (ah q4) ?_
 refine an ai (ay hT rfl rfl)<|an ai (ay hT rfl rfl)<|an ai (ay hT rfl rfl)<|an ai (ay hT rfl rfl)<|aE hT rfl<|aE hT rfl<|aE hT rfl<|aE hT rfl<|ag<|ae hP<|ab (ah (nX _ _ _ (by first | assumption | decide) (by first | assumption | decide) (by first | assumption | decide))) ?_
 refine ab (ah q5) ?_
 refine ab (az (rfl : _ = AV.t _))<|ab (aC rfl (v := .c _) rfl)<|ab (aC rfl (v := .c _) rfl)<|ak rfl<|ak rfl<|ag<|ae hP<|ab (ah (eT _ (by first | assumption | decide))) ?_
 refine ab (ah q6) ?_
 refine ab (az (rfl : _ = AV.t _))<|ab (aC rfl (v := .c _) rfl)<|ab (aC rfl (v := .c _) rfl)<|ak rfl<|ak rfl<|ag<|ao<|ae hP<|aD hT rfl<|aY hT rfl rfl rfl rfl ?_
 refine ab (bw rfl rfl)<|aj rfl<|aB rfl (aJ hT rfl rfl rfl rfl rfl rfl) ?_
 refine aB rfl (bG hT rfl rfl rfl rfl (by first | rfl | exact dz (by omega))) ?_
 refine aB rfl (bw rfl rfl) ?_
 refine ab (aP rfl rfl (rfl : _ = AV.p (.c _)))<|aj rfl<|aB rfl (aJ hT rfl rfl rfl rfl rfl rfl) ?_
 refine aB rfl (bG hT rfl rfl rfl rfl (by first | rfl | exact dz (by omega))) ?_
 refine aB rfl (bw rfl rfl) ?_
 refine ab (aP rfl rfl (rfl : _ = AV.p (.c _)))<|aj rfl<|aB rfl (aJ hT rfl rfl rfl rfl rfl rfl) ?_
 refine aB rfl (bG hT rfl rfl rfl rfl (by first | rfl | exact dz (by omega))) ?_
 refine aB rfl (bw rfl rfl) ?_
 refine ab (aP rfl rfl (rfl : _ = AV.p (.c _)))<|aj rfl<|aB rfl (az (rfl : _ = AV.p (.c _))) ?_
 refine aB rfl (bw rfl rfl) ?_
 refine ab (aP rfl rfl (rfl : _ = AV.p (.c _)))<|aj rfl<|aB rfl (az (rfl : _ = AV.p (.c _))) ?_
 refine aB rfl (bw rfl rfl) ?_
 refine ab (aP rfl rfl (rfl : _ = AV.p (.c _)))<|aj rfl<|aB rfl (az (rfl : _ = AV.p (.c _))) ?_
 refine aB rfl (aU hT rfl rfl rfl (by rfl)) ?_
 refine aB rfl (bw rfl rfl) ?_
 refine ab (aP rfl rfl (rfl : _ = AV.p (.c _)))<|ag<|aT rfl (by rw [h8]; rfl) ?_
 refine aq<|ae hP<|ab (ah (eT _ (by first | assumption | decide))) ?_
 refine ab (bj hT rfl rfl rfl (es := [_, _]) rfl rfl rfl)<|ab (ah (nX _ _ _ (by first | assumption | decide) (by first | assumption | decide) (by first | assumption | decide))) ?_
 refine ab (bj hT rfl rfl rfl (es := [_, _, _, _, _, _]) rfl rfl rfl)<|ab (aV hT rfl rfl rfl (es := [_, _, _, _, _, _, _, _, _]) rfl)<|an ai (ay hT rfl rfl)<|aE hT rfl<|ag<|ao<|ae hP<|aD hT rfl<|ab (aI hT rfl rfl rfl rfl (cs := [_, _, _, _, _, _, _, _, _]) rfl rfl)<|ab (ah (eT _ (by first | assumption | decide))) ?_
 refine ab (aV hT rfl rfl rfl (es := [_, _, _, _, _, _, _, _, _]) rfl)<|ab (ah (kO ⟨1, 0, 1, 0, [], []⟩ ⟨1, 0, 1, 0, [], []⟩ (by decide) (by decide))) ?_
 refine ab (bA rfl)<|aj rfl<|bn (aS rfl rfl (cQ _)) (aJ hT rfl rfl rfl rfl rfl rfl) ?_
 refine bn (aS rfl rfl (cQ _)) (aI hT rfl rfl rfl rfl (cs := [_, _, _, _, _, _, _, _, _]) rfl rfl) ?_
 refine bn (aS rfl rfl (cQ _)) (ah (eT _ (by first | assumption | decide))) ?_
 refine bn (aS rfl rfl (cQ _)) (aV hT rfl rfl rfl (es := [_, _, _, _, _, _, _, _, _]) rfl) ?_
 refine bn (aS rfl rfl (cQ _)) (ah (kO ⟨2, 0, 0, 5, [], []⟩ ⟨2, 0, 0, 5, [], []⟩ (by decide) (by decide))) ?_
 refine bn (aS rfl rfl (cQ _)) (bA rfl) ?_
 refine ab (aP rfl (cQ _) (rfl : _ = AV.p (.c _))) ?_
 refine aj rfl<|bn (aS rfl rfl (cQ _)) (aJ hT rfl rfl rfl rfl rfl rfl) ?_
 refine bn (aS rfl rfl (cQ _)) (aI hT rfl rfl rfl rfl (cs := [_, _, _, _, _, _, _, _, _]) rfl rfl) ?_
 refine bn (aS rfl rfl (cQ _)) (aI hT rfl rfl rfl rfl (cs := [_, _, _, _, _, _, _, _, _]) rfl rfl) ?_
 refine bn (aS rfl rfl (cQ _)) (ah (kO ⟨3, 0, 0, 0, [1], [⟨1, 1, 6⟩]⟩ ⟨3, 0, 0, 0, [1], [⟨1, 1, 6⟩]⟩ (by decide) (by decide))) ?_
 refine bn (aS rfl rfl (cQ _)) (bA rfl) ?_
 refine ab (aP rfl (cQ _) (rfl : _ = AV.p (.c _))) ?_
 refine aj rfl<|bn (aS rfl rfl (cQ _)) (aJ hT rfl rfl rfl rfl rfl rfl) ?_
 refine bn (aS rfl rfl (cQ _)) (aI hT rfl rfl rfl rfl (cs := [_, _, _, _, _, _, _, _, _]) rfl rfl) ?_
 refine bn (aS rfl rfl (cQ _)) (ah (eT _ (by first | assumption | decide))) ?_
 refine bn (aS rfl rfl (cQ _)) (aV hT rfl rfl rfl (es := [_, _, _, _, _, _, _, _, _]) rfl) ?_
 refine bn (aS rfl rfl (cQ _)) (ah (kO ⟨2, 0, 0, 5, [], []⟩ ⟨2, 0, 0, 5, [], []⟩ (by decide) (by decide))) ?_
 refine bn (aS rfl rfl (cQ _)) (bA rfl) ?_
 refine ab (aP rfl (cQ _) (rfl : _ = AV.p (.c _))) ?_
 refine ag<|aT rfl (cQ _) ?_
 refine aq<|ae hP<|aj rfl<|ab (dM hT iG (by decide) (0, 0) (n := 0) (l := L8) rfl rfl rfl rfl rfl rfl (by omega)) ?_
 refine ab (jX hT rfl rfl rfl rfl rfl (by decide)) ?_
 refine ab (bo hT rfl rfl rfl (cs := enI (L8.getD 0 (0, 0)).1) rfl rfl) ?_
 refine ab (ah (eT _ (by first | assumption | decide))) ?_
 refine ab (ah (ff _ _)) ?_
 refine aj rfl<|bn (aS rfl rfl (by rw [h80]; decide)) (az (rfl : _ = AV.p (.c _))) ?_
 refine bn (aS rfl rfl (by rw [h80]; decide)) (dM hT iG (by decide) (0, 0) (n := 0) (l := L8) rfl rfl rfl rfl rfl rfl (by omega)) ?_
 refine bn (aS rfl rfl (by rw [h80]; decide)) (jX hT rfl rfl rfl rfl rfl (by decide)) ?_
 refine bn (aS rfl rfl (by rw [h80]; decide)) (bo hT rfl rfl rfl (cs := enI (L8.getD 0 (0, 0)).2) rfl rfl) ?_
 refine bn (aS rfl rfl (by rw [h80]; decide)) (ah (eT _ (by first | assumption | decide))) ?_
 refine bn (aS rfl rfl (by rw [h80]; decide)) (ah (ff _ _)) ?_
 refine ab (aN rfl (by rw [h80]; decide) (rfl : _ = AV.p (.c _))) ?_
 refine aj rfl<|bn (aS rfl rfl (by rw [h80]; decide)) (az (rfl : _ = AV.p (.c _))) ?_
 iterate 4 refine bn (aS rfl rfl (by rw [h80]; decide)) (ah (eT _ (by first | assumption | decide))) ?_
 refine bn (aS rfl rfl (by rw [h80]; decide)) (bj hT rfl rfl rfl (es := [_, _, _, _, _, _, _, _]) rfl rfl rfl) ?_
 refine bn (aS rfl rfl (by rw [h80]; decide)) (ah (lQ [1, 5, 7, 11] [1, 5, 7, 11] (by decide))) ?_
 refine ab (aN rfl (by rw [h80]; decide) (rfl : _ = AV.p (.c _))) ?_
 refine aj rfl<|bn (aS rfl rfl (by decide)) (aI hT rfl rfl rfl rfl (cs := [_, _, _, _, _, _]) rfl rfl) ?_
 refine bn (aS rfl rfl (by decide)) (aJ hT rfl rfl rfl rfl rfl rfl) ?_
 refine bn (aS rfl rfl (by decide)) (aI hT rfl rfl rfl rfl (cs := [_, _, _, _, _, _, _, _, _]) rfl rfl) ?_
 refine bn (aS rfl rfl (by decide)) (ah q7) ?_
 refine ab (aN rfl (by decide) (rfl : _ = AV.p (.c _))) ?_
 refine aj rfl<|aB rfl (aI hT rfl rfl rfl rfl (cs := [_, _, _, _, _, _]) rfl rfl) ?_
 refine aB rfl (aJ hT rfl rfl rfl rfl rfl rfl) ?_
 refine aB rfl (aI hT rfl rfl rfl rfl (cs := [_, _, _, _, _, _, _, _, _]) rfl rfl) ?_
 refine aB rfl (ah q8) ?_
 refine aB rfl (bA rfl) ?_
 refine ab (aN rfl rfl (rfl : _ = AV.p (.c _)))<|ak rfl<|ag<|am<|E1 rfl rfl ?_
 exact .refl _
end
section
open Go Go.AM
end
section
open Go Go.AM
end
section
open Go Go.AM
end
section
open Go Go.AM
end
section
open Go Go.AM
theorem nk (D i0 i1 i2 i3 m0 m1 m2 m3 : Nat) (hD : D < 65536) (g0 : i0 < 65536) (g1 : i1 < 65536) (g2 : i2 < 65536) (g3 : i3 < 65536) (k0 : m0 < 256) (k1 : m1 < 256) (k2 : m2 < 256) (k3 : m3 < 256) (t0 t1 : Nat) (ht0 : t0 < 256) (ht1 : t1 < 256) :
  aF Tryz.prog 7 [.p (.a [.v (.int .u16 (D : Int)), .v (.int .u16 (i0 : Int)), .v (.int .u16 (i1 : Int)), .v (.int .u16 (i2 : Int)), .v (.int .u16 (i3 : Int)), .v (.int .u8 (m0 : Int)), .v (.int .u8 (m1 : Int)), .v (.int .u8 (m2 : Int)), .v (.int .u8 (m3 : Int))]), .p (.a [.v (.int .u8 (t0 : Int)), .v (.int .u8 (t1 : Int))])] (B true) := by
 have hsm := lP (D := D) (i := i0) k0
 have hm1 := tx ht0 hsm
 obtain ⟨ga, gb, gc⟩ := Hb (D := D) (i := i0) k0 ht0 ht1
 obtain ⟨ta, tb, tc, td⟩ := qU ht0
 obtain ⟨ua, ub, uc, ud⟩ := qU ht1
 have ea : LB ((mkF D i0 m0).app (bR t0)).a 6 := ⟨mK (Nat.le_trans hm1.1 (by decide))⟩
 have eb : LB ((mkF D i0 m0).app (bR t0)).b 6 := ⟨mK (Nat.le_trans hm1.2.1 (by decide))⟩
 have ec : LB ((mkF D i0 m0).app (bR t0)).c 6 := ⟨mK (Nat.le_trans hm1.2.2 (by decide))⟩
 clear hm1 hsm
 have d0 := jP t0
 have d1 := jP t1
 have cT0 := oK t0 ht0
 have cT1 := oK t1 ht1
 generalize bR t0 = A0 at *
 generalize bR t1 = A1 at *
 have c0 := zP _ _ _ _ _ _ _ _ _ hD g0 g1 g2 g3 k0 k1 k2 k3
 have hf := Hc D i0 m0
 obtain ⟨fa, fb, fc⟩ := Hd (D := D) (i := i0) k0
 obtain ⟨hD1, hD2⟩ := Iu D
 obtain ⟨s1, s2, s3, s4, s5⟩ := ew D
 have hE := uf D
 have h4 := Dc D
 obtain ⟨m, hmE⟩ : ∃ m : Nat, (m : Int) = 1 + (i2 : Int) % 100 := ⟨1 + i2 % 100, by omega⟩
 have hm : 1 ≤ m ∧ m ≤ 65536 := by omega
 have hmw : IntKind.i64.wrap (1 + (i2 : Int) % 100) = (m : Int) := by rw [← hmE]; exact iW0 _ (by omega)
 generalize mkF D i0 m0 = f at *
 have hdN : -szz D = -szz D := rfl
 generalize hdd : -szz D = d at *
 clear hdN
 have jfa : LB f.a 6 := ⟨fa⟩
 have jfb : LB f.b 6 := ⟨fb⟩
 have jfc : LB f.c 6 := ⟨fc⟩
 have idl : LB d 6 := ⟨by unfold L; omega⟩
 have hdB : -4194304 ≤ d ∧ d < 0 := by omega
 have hdf : dsc f.a f.b f.c = d := hf.disc
 have cDs : aF Tryz.prog 40 [FA f.a f.b f.c] (I d) := by rw [← hdf]; exact fE f.a f.b f.c lz lz lz
 have hg : Cl d ((f.app A0).app A1) := (hf.app d0).app d1
 have hrd : f.rd = ((f.app A0).app A1).rd := by rw [ml (hf.app d0).pos d1, ml hf.pos d0]
 have cP0 : aF Tryz.prog 46 [FA f.a f.b f.c, MA A0.a A0.b A0.c A0.d] (FA (f.app A0).a (f.app A0).b (f.app A0).c) := oO f.a f.b f.c A0.a A0.b A0.c A0.d lz lz lz lz lz lz lz
 generalize f.app A0 = F1 at *
 have cP1 : aF Tryz.prog 46 [FA F1.a F1.b F1.c, MA A1.a A1.b A1.c A1.d] (FA (F1.app A1).a (F1.app A1).b (F1.app A1).c) := oO F1.a F1.b F1.c A1.a A1.b A1.c A1.d lz lz lz lz lz lz lz
 generalize F1.app A1 = g at *
 have cF := iB f d m fa fb fc hf hdB hm hE
 have cG := iB g d m ga gb gc hg hdB hm hE
 have cA := vO f d m fa fb fc hf hdB hm
 have cB := vO g d m ga gb gc hg hdB hm
 obtain ⟨e1, e2, e3, e4⟩ := AA (n := m) hf hg hdB.1 hE hrd (by omega)
 have e5 : (prS d m f).length = (prS d m g).length := by rw [xy, xy]; exact uE hf hg hrd (by omega)
 obtain ⟨r1, r2⟩ := EF (D := d) (f := f) hm.2
 generalize fnd d m f = X at *
 generalize fnd d m g = Y at *
 generalize prS d m f = p1 at *
 generalize prS d m g = p2 at *
 refine aL Tryz.func7 rfl rfl rfl rfl ?_
 refine ae hP<|an ai (aK rfl rfl)<|an ai (aK rfl rfl)<|ak rfl<|ag<|ae hP<|ab (ah ss) ?_
 refine ak rfl<|ag<|ao<|ae hP<|aj rfl<|ab (bA rfl)<|ag<|aT rfl rfl<|aq<|ae hP<|ab (aI hT rfl rfl rfl rfl (cs := [_, _, _, _, _, _, _, _, _]) rfl rfl)<|ab (ah c0) ?_
 refine aD hT rfl<|ab (aR hT rfl rfl rfl rfl rfl (by first | decide | omega)) ?_
 refine aY hT rfl rfl rfl rfl ?_
 refine ab (b5 rfl rfl (by decide) (c := (i2 : Int) % 100) (Int.tmod_eq_emod_of_nonneg (by omega))) ?_
 refine ab (a8 hT rfl rfl rfl rfl (iW0 _ (by omega))) ?_
 refine ab (bJ rfl rfl (c := (m : Int)) hmw) ?_
 refine an ai (ay hT rfl rfl)<|aE hT rfl<|ak rfl<|ag<|ae hP<|bD hT rfl rfl rfl rfl rfl rfl<|ab (aR hT rfl rfl rfl rfl rfl (by first | decide | omega)) ?_
 refine aY hT rfl rfl rfl rfl ?_
 refine ab (ah cT0) ?_
 refine ab (ah cP0) ?_
 refine ab (aR hT rfl rfl rfl rfl rfl (by first | decide | omega)) ?_
 refine aY hT rfl rfl rfl rfl ?_
 refine ab (ah cT1) ?_
 refine ab (ah cP1) ?_
 refine an ai (ay hT rfl rfl)<|aE hT rfl<|ag<|ae hP<|bD hT rfl rfl rfl rfl rfl rfl<|aj rfl<|ab (ah cF) ?_
 refine bD hT rfl rfl rfl rfl rfl rfl<|aj rfl<|ab (ah cG) ?_
 refine an ai (ay hT rfl rfl)<|an ai (ay hT rfl rfl)<|aE hT rfl<|aE hT rfl<|ag<|ae hP<|bD hT rfl rfl rfl rfl rfl rfl<|aj rfl<|ab (ah cA) ?_
 refine ab (az (rfl : _ = AV.t _))<|ab (aC rfl (v := .c _) rfl)<|ab (aC rfl (v := .c _) rfl)<|ak rfl<|ak rfl<|ag<|ae hP<|bD hT rfl rfl rfl rfl rfl rfl<|aj rfl<|ab (ah cB) ?_
 refine ab (az (rfl : _ = AV.t _))<|ab (aC rfl (v := .c _) rfl)<|ab (aC rfl (v := .c _) rfl)<|ak rfl<|ak rfl<|ag<|ae hP<|aD hT rfl<|aY hT rfl rfl rfl rfl ?_
 refine ab (bp rfl rfl)<|aj rfl<|aB rfl (aJ hT rfl rfl rfl rfl rfl rfl) ?_
 refine aB rfl (bG hT rfl rfl rfl rfl (by first | rfl | exact dz (by omega))) ?_
 refine aB rfl (bp rfl rfl) ?_
 refine ab (aN rfl rfl (rfl : _ = AV.p (.c _)))<|aj rfl<|aB rfl (az (rfl : _ = AV.p (.c _))) ?_
 refine aB rfl (bp rfl rfl) ?_
 refine ab (aN rfl rfl (rfl : _ = AV.p (.c _)))<|aj rfl<|aB rfl (az (rfl : _ = AV.p (.c _))) ?_
 refine aB rfl (bp rfl rfl) ?_
 refine ab (aN rfl rfl (rfl : _ = AV.p (.c _)))<|aj rfl<|aB rfl (az (rfl : _ = AV.p (.c _))) ?_
 refine aB rfl (aU hT rfl rfl rfl (by rfl)) ?_
 refine aB rfl (az (rfl : _ = AV.p (.c _))) ?_
 refine aB rfl (aU hT rfl rfl rfl (by rfl)) ?_
 refine aB rfl (bp rfl rfl) ?_
 refine ab (aN rfl rfl (rfl : _ = AV.p (.c _)))<|aj rfl<|bn (aS rfl rfl (by rw [e5]; exact beq_self_eq_true _)) (aJ hT rfl rfl rfl rfl rfl rfl) ?_
 refine bn (aS rfl rfl (by rw [e5]; exact beq_self_eq_true _)) (aJ hT rfl rfl rfl rfl rfl rfl) ?_
 refine bn (aS rfl rfl (by rw [e5]; exact beq_self_eq_true _)) (bG hT rfl rfl rfl rfl (by first | rfl | exact dz (by omega))) ?_
 refine bn (aS rfl rfl (by rw [e5]; exact beq_self_eq_true _)) (aJ hT rfl rfl rfl rfl rfl rfl) ?_
 refine bn (aS rfl rfl (by rw [e5]; exact beq_self_eq_true _)) (aJ hT rfl rfl rfl rfl rfl rfl) ?_
 refine bn (aS rfl rfl (by rw [e5]; exact beq_self_eq_true _)) (bG hT rfl rfl rfl rfl (by first | rfl | exact dz (by omega))) ?_
 refine bn (aS rfl rfl (by rw [e5]; exact beq_self_eq_true _)) (bp rfl rfl) ?_
 refine ab (aN rfl (by rw [e5]; exact beq_self_eq_true _) (rfl : _ = AV.p (.c _))) ?_
 refine aj rfl<|bn (aS rfl rfl (by rw [e1]; exact beq_self_eq_true _)) (aJ hT rfl rfl rfl rfl rfl rfl) ?_
 refine bn (aS rfl rfl (by rw [e1]; exact beq_self_eq_true _)) (aJ hT rfl rfl rfl rfl rfl rfl) ?_
 refine bn (aS rfl rfl (by rw [e1]; exact beq_self_eq_true _)) (aI hT rfl rfl rfl rfl (cs := [_, _]) rfl rfl) ?_
 refine bn (aS rfl rfl (by rw [e1]; exact beq_self_eq_true _)) (aJ hT rfl rfl rfl rfl rfl rfl) ?_
 refine bn (aS rfl rfl (by rw [e1]; exact beq_self_eq_true _)) (aJ hT rfl rfl rfl rfl rfl rfl) ?_
 refine bn (aS rfl rfl (by rw [e1]; exact beq_self_eq_true _)) (aI hT rfl rfl rfl rfl (cs := [_, _]) rfl rfl) ?_
 refine bn (aS rfl rfl (by rw [e1]; exact beq_self_eq_true _)) (ah (ff _ _)) ?_
 refine ab (aN rfl (by rw [e1]; exact beq_self_eq_true _) (rfl : _ = AV.p (.c _))) ?_
 refine aj rfl<|bn (aS rfl rfl (decide_eq_true e2)) (aJ hT rfl rfl rfl rfl rfl rfl) ?_
 refine bn (aS rfl rfl (decide_eq_true e2)) (aJ hT rfl rfl rfl rfl rfl rfl) ?_
 refine bn (aS rfl rfl (decide_eq_true e2)) (bG hT rfl rfl rfl rfl (by first | rfl | exact dz (by omega))) ?_
 refine bn (aS rfl rfl (decide_eq_true e2)) (aJ hT rfl rfl rfl rfl rfl rfl) ?_
 refine bn (aS rfl rfl (decide_eq_true e2)) (aJ hT rfl rfl rfl rfl rfl rfl) ?_
 refine bn (aS rfl rfl (decide_eq_true e2)) (bG hT rfl rfl rfl rfl (by first | rfl | exact dz (by omega))) ?_
 refine bn (aS rfl rfl (decide_eq_true e2)) (ah (lQ X.roots Y.roots (by omega))) ?_
 refine ab (aN rfl (decide_eq_true e2) (rfl : _ = AV.p (.c _))) ?_
 refine aj rfl<|bn (aS rfl rfl (decide_eq_true e3)) (aJ hT rfl rfl rfl rfl rfl rfl) ?_
 refine bn (aS rfl rfl (decide_eq_true e3)) (aJ hT rfl rfl rfl rfl rfl rfl) ?_
 refine bn (aS rfl rfl (decide_eq_true e3)) (bG hT rfl rfl rfl rfl (by first | rfl | exact dz (by omega))) ?_
 refine bn (aS rfl rfl (decide_eq_true e3)) (aJ hT rfl rfl rfl rfl rfl rfl) ?_
 refine bn (aS rfl rfl (decide_eq_true e3)) (aJ hT rfl rfl rfl rfl rfl rfl) ?_
 refine bn (aS rfl rfl (decide_eq_true e3)) (bG hT rfl rfl rfl rfl (by first | rfl | exact dz (by omega))) ?_
 refine bn (aS rfl rfl (decide_eq_true e3)) (ah (mN X.forms Y.forms (by omega))) ?_
 refine ab (aN rfl (decide_eq_true e3) (rfl : _ = AV.p (.c _))) ?_
 refine aj rfl<|bn (aS rfl rfl (decide_eq_true e4)) (az (rfl : _ = AV.p (.c _))) ?_
 refine ab (aN rfl (decide_eq_true e4) (rfl : _ = AV.p (.c _))) ?_
 refine ak rfl<|ag<|am<|E1 rfl rfl ?_
 exact .refl _
end
end Go.Proofs.YthaiejfjnllglaaGreatDoor
