import Derived.Test.YthaiejfjnllglaaGreatDoorOBF
import Derived.Test.YthaiejfjnllglaaGreatDoorOBE
import Derived.Test.YthaiejfjnllglaaGreatDoorOBH
import Derived.Test.YthaiejfjnllglaaGreatDoorOBC
import Derived.Test.YthaiejfjnllglaaGreatDoorOBG
set_option maxRecDepth 100000
set_option maxHeartbeats 16000000
namespace Go.Proofs.YthaiejfjnllglaaGreatDoor
section
open Go Go.AM
theorem Fz (f : Fm) (D : Int) (m : Nat) (hfa : L 6 f.a) (hfb : L 6 f.b) (hfc : L 6 f.c) (hf : Cl D f) (hD : -4194304 ≤ D ∧ D < 0) (hm : 1 ≤ m ∧ m ≤ 65536) (hE : szE D = 0) (a : RA) (hok : ∀ r ∈ a.nums, okW r.2) (hsz : ∀ r ∈ a.nums, r.2.length ≤ 1000) (hlr : a.roots.length ≤ 100000) (hlf : a.forms.length ≤ 100000) :
  aI Tryz.prog 34 [FA f.a f.b f.c, Z (m : Int), .p (.a (raS a))] (.t [PB (rgA D m f a), PE 0]) := by
 have fa : LB f.a 6 := ⟨hfa⟩
 have fb : LB f.b 6 := ⟨hfb⟩
 have fc : LB f.c 6 := ⟨hfc⟩
 have hdf : dsc f.a f.b f.c = D := hf.disc
 have h0m : 0 < (m : Int) := by omega
 have cRf : aI Tryz.prog 65 [FA f.a f.b f.c, Z (m : Int)] (Z 0) := by
  have h := ml f m hfa hfb hfc
  rwa [xQ hf hm] at h
 refine aK Tryz.func34 rfl rfl rfl rfl ?_
 refine ae hP<|ao ai (aJ rfl rfl)<|ao ai (aJ rfl rfl)<|aj rfl<|aj rfl<|ag<|aq<|ae hP<|bA hT rfl rfl rfl rfl rfl rfl<|ak rfl<|ab (ah cRf) ?_
 refine aj rfl<|ag<|ae hP<|ak rfl<|ab (bo rfl rfl)<|ag<|aQ rfl rfl<|au<|cB (ι := Unit) (fun _ => stL [(1, Z (m : Int)), (3, .loc 3 0), (5, .loc 5 0), (9, B (decide (a.x.2 = []) && decide (a.y.2 = []))), (10, B (decide (a.m.2 = []))), (11, B (decide (((a.roots.length + a.forms.length : Nat) : Int) = 0)))] [(3, ⟨false, 1, 46, [zn f.a, zm f.a, zn f.b, zm f.b, zn f.c, zm f.c]⟩), (5, ⟨false, 1, 42, raS a⟩)]) (fun _ => True) ?_ ?_
 ·refine aw hP<|aE hT rfl<|av hT rfl<|ab (ah (kq a.x)) ?_
  refine ak rfl ?_
  refine a6 (t := 27) rfl (fun hg1 => ?_) (fun hg1 => ?_)
  ·refine aC hg1 (aS hT rfl rfl rfl rfl rfl rfl) ?_
   refine aC hg1 (aL hT rfl rfl rfl rfl (cs := [_, _]) rfl rfl) ?_
   refine aC hg1 (ah (kq a.y)) ?_
   refine ab (aO rfl hg1 (rfl : _ = AV.p (.c _)))<|aE hT rfl<|av hT rfl<|ab (ah (kq a.m)) ?_
   refine aE hT rfl<|aZ hT rfl rfl rfl rfl ?_
   refine ab (aU hT rfl rfl rfl (by rfl)) ?_
   refine aE hT rfl<|aZ hT rfl rfl rfl rfl ?_
   refine ab (aU hT rfl rfl rfl (by rfl)) ?_
   refine bw rfl rfl ?_
   refine ab (bq rfl rfl)<|aj rfl<|aj rfl<|aj rfl<|ag ?_
   refine ⟨(), trivial, aF ⟨.refl _, .refl _, .refl _, aX (by rw [hg1, Bool.true_and]), .refl _, aX vU, trivial⟩ ⟨rfl, rfl, trivial⟩⟩
  iterate 3 refine aY hg1 ?_
  refine ab (aM rfl hg1 (rfl : _ = AV.p (.c _)))<|aE hT rfl<|av hT rfl<|ab (ah (kq a.m)) ?_
  refine aE hT rfl<|aZ hT rfl rfl rfl rfl ?_
  refine ab (aU hT rfl rfl rfl (by rfl)) ?_
  refine aE hT rfl<|aZ hT rfl rfl rfl rfl ?_
  refine ab (aU hT rfl rfl rfl (by rfl)) ?_
  refine bw rfl rfl ?_
  refine ab (bq rfl rfl)<|aj rfl<|aj rfl<|aj rfl<|ag ?_
  refine ⟨(), trivial, aF ⟨.refl _, .refl _, .refl _, aX (by rw [hg1, Bool.false_and]), .refl _, aX vU, trivial⟩ ⟨rfl, rfl, trivial⟩⟩
 intro _ _
 refine ae hP<|aE hT rfl<|av hT rfl<|aE hT rfl<|av hT rfl<|aE hT rfl<|av hT rfl<|ao ai (jp hT rfl rfl rfl (es := [_, _, _, _, _, _]) rfl rfl rfl) ?_
 refine aE hT rfl<|aZ hT rfl rfl rfl rfl ?_
 refine RK.app ai (fQ hT rfl rfl rfl rfl rfl rfl rfl rfl rfl rfl (dL oH _) rfl (by show 32 * (6 + a.roots.length * 2) ≤ _; omega) rfl (by decide)) ?_
 refine ab (bh (rfl : _ = AV.vec _))<|ag<|dC 52 1000 rfl rfl rfl ?_
 refine aq<|ae hP<|aE hT rfl<|aZ hT rfl rfl rfl rfl ?_
 refine ab (aU hT rfl rfl rfl (by rfl)) ?_
 refine ak rfl<|ag<|aB<|bn (ι := Nat) (fun k => stL [(1, Z (m : Int)), (3, .loc 3 0), (5, .loc 5 0), (9, B (decide (a.x.2 = []) && decide (a.y.2 = []))), (10, B (decide (a.m.2 = []))), (11, B (decide (((a.roots.length + a.forms.length : Nat) : Int) = 0))), (12, .vec 1000), (54, .p (.c (SL rfC a.forms))), (55, Z (a.forms.length : Int)), (56, Z (k : Int))] [(3, ⟨false, 1, 46, [zn f.a, zm f.a, zn f.b, zm f.b, zn f.c, zm f.c]⟩), (5, ⟨false, 1, 42, raS a⟩), (1000, VB 2 29 rC (e9 a k))]) (fun k => k ≤ a.forms.length) (fun k => a.forms.length - k) 0 (Nat.zero_le _) (aF ⟨.refl _, .refl _, .refl _, .refl _, .refl _, .refl _, .refl _, .refl _, .refl _, .refl _, trivial⟩ ⟨rfl, rfl, Eq.trans rfl (congrArg (fun cs => some (⟨true, 2, 29, cs⟩ : Blk)) (IU a)), trivial⟩) ?_
 intro k hk
 refine ae hP<|ab (bd rfl rfl)<|ag<|aq ?_
 refine az rfl (fun hb2 => ?_) (fun hb2 => ?_)
 ·have hb2_ := dT0 hb2
  have hfk := kb (l := a.forms) (k := k) (by omega) ((false, []), (false, []), (false, []))
  refine au<|aq<|aB<|ae hP<|ab (dP hT ER (by decide) ((false, []), (false, []), (false, [])) (n := (k : Int)) (l := a.forms) rfl rfl rfl rfl rfl rfl (by omega)) ?_
  refine ab (bj hT rfl rfl rfl (cs := rfC (a.forms.getD k ((false, []), (false, []), (false, [])))) rfl rfl) ?_
  refine ao ai (aA hT rfl rfl)<|aG hT rfl<|ag<|aw hP<|ab (ay (rfl : _ = AV.vec _))<|aE hT rfl<|av hT rfl<|aE hT rfl<|av hT rfl<|aE hT rfl<|av hT rfl<|ab (bg hT rfl rfl rfl (es := [_, _, _, _, _, _]) rfl rfl rfl)<|RK.app ai (fQ hT rfl rfl rfl rfl rfl rfl rfl rfl rfl rfl rfl rfl (by show 32 * (((e9 a k).flatMap rC).length + 3 * 2) ≤ _; rw [dL oH]; have := tq (a := a) (k := k); omega) rfl (by decide)) ?_
  refine ab (bh (rfl : _ = AV.vec _))<|ag<|dC 68 1000 rfl rfl rfl ?_
  refine aw hP<|bw rfl rfl ?_
  refine ak rfl<|ag ?_
  refine ⟨k + 1, by omega, by omega, aF ⟨.refl _, .refl _, .refl _, .refl _, .refl _, .refl _, .refl _, .refl _, .refl _, aN (by omega), trivial⟩ ⟨rfl, rfl, Eq.trans rfl (congrArg (fun cs => some (⟨true, 2, 29, cs⟩ : Blk)) (IT hfk)), trivial⟩⟩
 have hb2_ := dF0 hb2
 have hnk := Bt (a := a) (k := k) (by omega)
 have hnl := tq (a := a) (k := k)
 refine a7<|kK (encD := rC) oH rfl (t := 12) rfl rfl ?_
 refine aq<|ae hP<|ak rfl<|ab (aU hT rfl rfl rfl (by rfl)) ?_
 refine ak rfl<|ag<|aB<|bn (ι := Nat) (fun j => stL [(1, Z (m : Int)), (3, .loc 3 0), (5, .loc 5 0), (9, B (decide (a.x.2 = []) && decide (a.y.2 = []))), (10, B (decide (a.m.2 = []))), (11, B (decide (((a.roots.length + a.forms.length : Nat) : Int) = 0))), (70, .p (.c (SL rC (e9 a k)))), (71, Z ((e9 a k).length : Int)), (72, Z (j : Int))] [(3, ⟨false, 1, 46, [zn f.a, zm f.a, zn f.b, zm f.b, zn f.c, zm f.c]⟩), (5, ⟨false, 1, 42, raS a⟩)]) (fun j => j ≤ (e9 a k).length ∧ VaK (e9 a k) j) (fun j => (e9 a k).length - j) 0 ⟨Nat.zero_le _, VaK.start⟩ (aF ⟨.refl _, .refl _, .refl _, .refl _, .refl _, .refl _, .refl _, .refl _, .refl _, trivial⟩ ⟨rfl, rfl, trivial⟩) ?_
 rintro j ⟨hj, hI⟩
 refine ae hP<|ab (bd rfl rfl)<|ag<|aq ?_
 refine az rfl (fun hb3 => ?_) (fun hb3 => ?_)
 ·have hb3_ := dT0 hb3
  have hmj : ((e9 a k).getD j (false, [])) ∈ a.nums := hnk ▸ kw (by omega)
  refine au<|aq<|aB<|ae hP<|ab (dP hT oH (by decide) (false, []) (n := (j : Int)) (l := (e9 a k)) rfl rfl rfl rfl rfl rfl (by omega)) ?_
  refine ab (bj hT rfl rfl rfl (cs := rC ((e9 a k).getD j (false, []))) rfl rfl) ?_
  refine ao ai (aA hT rfl rfl)<|aG hT rfl<|ag<|ae hP<|av hT rfl<|ab (ah (xv ((e9 a k).getD j (false, [])) (by have := hsz _ hmj; omega))) ?_
  refine ab (bv rfl)<|ag ?_
  refine az rfl (fun hb4 => ?_) (fun hb4 => ?_)
  ·have hb4_ := (cA hb4)
   refine ae hP<|aj rfl<|aj rfl<|ag<|am<|E11 rfl rfl rfl ?_
   exact aH (congrArg (fun b => AV.t [PB b, PE 0]) (JU hmj (cA hb4)))
  have hb4_ := (cp hb4)
  refine au<|aw hP<|bw rfl rfl ?_
  refine ak rfl<|ag ?_
  refine ⟨j + 1, ⟨by omega, hI.next (d := (false, [])) (by omega) (cp hb4)⟩, by omega, aF ⟨.refl _, .refl _, .refl _, .refl _, .refl _, .refl _, .refl _, .refl _, aN (by omega), trivial⟩ ⟨rfl, rfl, trivial⟩⟩
 have hb3_ := dF0 hb3
 have hva := hI.done (by omega)
 rw [hnk] at hva
 have hall := fun r hr => And.intro (hok r hr) (hva r hr)
 have hax : L 30 a.ans.x := Is (hok _ Ih) (hsz _ Ih)
 have hay : L 30 a.ans.y := Is (hok _ Ig) (hsz _ Ig)
 refine a7<|aq<|dE (t := stL [(1, Z (m : Int)), (3, .loc 3 0), (5, .loc 5 0), (9, B (decide (a.x.2 = []) && decide (a.y.2 = []))), (10, B (decide (a.m.2 = []))), (11, B (decide (((a.roots.length + a.forms.length : Nat) : Int) = 0)))] [(3, ⟨false, 1, 46, [zn f.a, zm f.a, zn f.b, zm f.b, zn f.c, zm f.c]⟩), (5, ⟨false, 1, 42, anS a.ans⟩)]) (aF ⟨.refl _, .refl _, .refl _, .refl _, .refl _, .refl _, trivial⟩ ⟨rfl, Eq.trans rfl (congrArg (fun cs => some (⟨false, 1, 42, cs⟩ : Blk)) (vx hall)), trivial⟩) ?_
 refine uV rfl ?_
 refine RM.mv (.inl rfl) rfl ?_
 refine RM.mv (.inl rfl) rfl ?_
 refine RM.and rfl rfl rfl rfl ?_
 refine RM.insert Tryz.underlying156 Tryz.underlying3 rfl rfl ?_
 refine RM.mv (.inl rfl) rfl ?_
 refine RM.mv (.inl rfl) rfl ?_
 refine RM.and rfl rfl rfl rfl ?_
 refine RM.insert Tryz.underlying156 Tryz.underlying3 rfl rfl ?_
 refine RM.mv (.inl rfl) rfl ?_
 refine RM.mv (.inl rfl) rfl ?_
 refine RM.and rfl rfl rfl rfl ?_
 refine RM.insert Tryz.underlying156 Tryz.underlying3 rfl rfl ?_
 refine RM.freeze ?_
 refine RT.mv (.inl rfl) rfl ?_
 refine RT.mv (.inr rfl) rfl ?_
 refine RT.done ?_
 refine ae hP<|ab (ay (rfl : _ = AV.ax _))<|aE hT rfl<|aZ hT rfl rfl rfl rfl ?_
 refine ab (w8 (l := oq a) (n := a.kind) Tryz.underlying156 Tryz.underlying3 (fun _ => by kernel_rfl) rfl rfl rfl) ?_
 refine ak rfl ?_
 refine a6 (t := 98) rfl (fun hg5 => ?_) (fun hg5 => ?_)
 ·have hu := hg5
  refine aC hg5 (aL hT rfl rfl rfl rfl (cs := [_, _, _, _, _, _]) rfl rfl) ?_
  refine aC hg5 (ay (rfl : _ = AV.p (.c _))) ?_
  refine aC hg5 (aL hT rfl rfl rfl rfl (cs := [_, _, _, _, _, _, _, _, _]) rfl rfl) ?_
  refine aC hg5 (ah (Fy f D m hfa hfb hfc hf hD hm hE a.ans hax hay (by rw [ra_len.1]; omega) (by rw [ra_len.2]; omega))) ?_
  refine ab (aO rfl hg5 (rfl : _ = AV.p (.c _)))<|aj rfl<|aj rfl<|ag<|am<|E11 rfl rfl rfl ?_
  exact aH (congrArg (fun b => AV.t [PB b, PE 0]) (LZ hva rfl hu))
 have hu := hg5
 iterate 4 refine aY hg5 ?_
 refine ab (aM rfl hg5 (rfl : _ = AV.p (.c _)))<|aj rfl<|aj rfl<|ag<|am<|E11 rfl rfl rfl ?_
 exact aH (congrArg (fun b => AV.t [PB b, PE 0]) (L0 hva rfl hu))
end
section
open Go Go.AM
end
section
open Go Go.AM
end
section
open Go Go.AM
end
section
open Go Go.AM
theorem uK (l m : List Fm) (hl : (l.length : Int) ≤ 1000000000) :
  aI Tryz.prog 49 [.p (.c (FS l)), .p (.c (FS m))] (B (decide (l = m))) := by
 refine aK Tryz.func49 rfl rfl rfl rfl ?_
 refine ae hP<|aj rfl<|ag<|aq<|ae hP<|ak rfl<|ab (aU hT rfl rfl rfl (by rfl)) ?_
 refine ak rfl<|ab (aU hT rfl rfl rfl (by rfl)) ?_
 refine ab (bo rfl rfl)<|ag ?_
 refine az rfl (fun hb1 => ?_) (fun hb1 => ?_)
 ·have hb1_ := b8 hb1
  refine ae hP<|aj rfl<|ag<|am<|E1 rfl rfl ?_
  exact aX (Ja hb1_)
 have hb1_ := bU hb1
 refine au<|aq<|ae hP<|aj rfl<|ag<|aB<|bn (ι := Nat) (fun k => stL [(0, .p (.c (FS l))), (1, .p (.c (FS m))), (5, Z (k : Int))] []) (fun k => SmI l m k) (fun k => l.length - k) 0 (SmI.start l m) (aF ⟨.refl _, .refl _, .refl _, trivial⟩ trivial) ?_
 intro k hI
 have hk := hI.k1
 refine aq<|ae hP<|ak rfl<|ak rfl<|ab (aU hT rfl rfl rfl (by rfl)) ?_
 refine ab (bd rfl rfl)<|ag ?_
 refine az rfl (fun hb2 => ?_) (fun hb2 => ?_)
 ·have hb2_ := dT0 hb2
  refine au<|aq<|aB<|ae hP<|ak rfl<|ak rfl<|ab (eI hT rfl rfl rfl rfl rfl rfl (by omega)) ?_
  refine ab (bj hT rfl rfl rfl (cs := FC (l.getD k ⟨0, 0, 0⟩)) rfl rfl) ?_
  refine ak rfl<|ak rfl<|ab (eI hT rfl rfl rfl rfl rfl rfl (by omega)) ?_
  refine ab (bj hT rfl rfl rfl (cs := FC (m.getD k ⟨0, 0, 0⟩)) rfl rfl) ?_
  refine ab (ah (Bc ((l.getD k ⟨0, 0, 0⟩)).a ((l.getD k ⟨0, 0, 0⟩)).b ((l.getD k ⟨0, 0, 0⟩)).c (m.getD k ⟨0, 0, 0⟩).a (m.getD k ⟨0, 0, 0⟩).b (m.getD k ⟨0, 0, 0⟩).c)) ?_
  refine ab (bv rfl)<|ag ?_
  refine az rfl (fun hb3 => ?_) (fun hb3 => ?_)
  ·have hb3_ := (cA hb3)
   refine ae hP<|aj rfl<|ag<|am<|E1 rfl rfl ?_
   exact aX (SmI.no (l := l) (m := m) (k := k) (cA hb3))
  have hb3_ := (cp hb3)
  refine au<|aw hP<|ak rfl<|bw rfl rfl ?_
  refine aj rfl<|ag ?_
  refine ⟨k + 1, hI.next (by omega) (cp hb3), by omega, aF ⟨.refl _, .refl _, aN (by omega), trivial⟩ trivial⟩
 have hb2_ := dF0 hb2
 refine a7<|ae hP<|aj rfl<|ag<|am<|E1 rfl rfl ?_
 exact aX (hI.yes hb1_ hb2_)
end
section
open Go Go.AM
theorem j7 (f : Fm) (D : Int) (m : Nat) (hfa : L 6 f.a) (hfb : L 6 f.b) (hfc : L 6 f.c) (hf : Cl D f) (hD : -4194304 ≤ D ∧ D < 0) (hm : 1 ≤ m ∧ m ≤ 65536) (hE : szE D = 0) :
  aI Tryz.prog 30 [FA f.a f.b f.c, Z (m : Int)] (.p (.a (anS (fnd D m f) ++ [.v (.int .i64 0)]))) := by
 have cF : aI Tryz.prog 17 [FA f.a f.b f.c, Z (m : Int)] (.t [.a (anS (fnd D m f)), PE 0]) := IK f D m hfa hfb hfc hf hD hm hE
 refine aK Tryz.func30 rfl rfl rfl rfl ?_
 refine ae hP<|ao ai (aJ rfl rfl)<|ao ai (aA hT rfl rfl)<|ag<|ae hP<|bA hT rfl rfl rfl rfl rfl rfl<|ak rfl<|ab (ah cF) ?_
 refine ab (ay (rfl : _ = AV.t _))<|ab (aD rfl (v := .a _) rfl)<|ab (aD rfl (v := .c _) rfl)<|ao ai (aA hT rfl rfl)<|aG hT rfl<|aj rfl<|ag<|ae hP<|ab (aL hT rfl rfl rfl rfl (cs := [_, _, _, _, _, _, _, _, _]) rfl rfl)<|ak rfl<|ab (aV hT rfl rfl rfl (es := [_, _, _, _, _, _, _, _, _, _]) rfl)<|aG hT rfl<|ag<|am ?_
 refine bR rfl (.inr rfl) (aR hT rfl rfl rfl rfl (cs := [_, _, _, _, _, _, _, _, _, _]) rfl rfl) ?_ br
 exact .refl _
theorem tG (f : Fm) (D : Int) (m : Nat) (hfa : L 6 f.a) (hfb : L 6 f.b) (hfc : L 6 f.c) (hf : Cl D f) (hD : -4194304 ≤ D ∧ D < 0) (hm : 1 ≤ m ∧ m ≤ 65536) (hE : szE D = 0) (a : RA) (hok : ∀ r ∈ a.nums, okW r.2) (hsz : ∀ r ∈ a.nums, r.2.length ≤ 1000) (hlr : a.roots.length ≤ 100000) (hlf : a.forms.length ≤ 100000) :
  aI Tryz.prog 36 [FA f.a f.b f.c, Z (m : Int), .p (.a (raS a))] (B (rgA D m f a)) := by
 refine aK Tryz.func36 rfl rfl rfl rfl ?_
 refine ae hP<|ao ai (aJ rfl rfl)<|ao ai (aJ rfl rfl)<|aj rfl<|ag<|ae hP<|bA hT rfl rfl rfl rfl rfl rfl<|ak rfl<|ab (aL hT rfl rfl rfl rfl (cs := [_, _, _, _, _, _, _, _, _]) rfl rfl)<|ab (ah (Fz f D m hfa hfb hfc hf hD hm hE a hok hsz hlr hlf)) ?_
 refine ab (ay (rfl : _ = AV.t _))<|ab (aD rfl (v := .c _) rfl)<|ab (aD rfl (v := .c _) rfl)<|aj rfl<|aj rfl<|ag<|ae hP<|ak rfl<|ak rfl ?_
 refine a6 (t := 17) rfl (fun hg1 => ?_) (fun hg1 => ?_)
 ·have hv := hg1
  refine aC hg1 (ay (rfl : _ = AV.p (.c _))) ?_
  refine aC hg1 (bq rfl rfl) ?_
  refine ab (aO rfl hg1 (rfl : _ = AV.p (.c _)))<|aj rfl<|ag<|am<|E1 rfl rfl ?_
  exact aX hv.symm
 have hv := hg1
 refine aY hg1 ?_
 refine aY hg1 ?_
 refine ab (aM rfl hg1 (rfl : _ = AV.p (.c _)))<|aj rfl<|ag<|am<|E1 rfl rfl ?_
 exact aX hv.symm
theorem nE (f : Fm) (D : Int) (m : Nat) (hfa : L 6 f.a) (hfb : L 6 f.b) (hfc : L 6 f.c) (hf : Cl D f) (hD : -4194304 ≤ D ∧ D < 0) (hm : 1 ≤ m ∧ m ≤ 65536) (hE : szE D = 0) (a : Ans) (hx : L 8 a.x) (hy : L 8 a.y) (hz : L 8 a.m) (hr : ∀ z ∈ a.roots, L 8 z) (hg : ∀ g ∈ a.forms, L 8 g.a ∧ L 8 g.b ∧ L 8 g.c) (hlr : a.roots.length ≤ 100000) (hlf : a.forms.length ≤ 100000) :
  aI Tryz.prog 36 [FA f.a f.b f.c, Z (m : Int), .p (.a (anS a))] (B (rgt D m f a)) := by
 have h := tG f D m hfa hfb hfc hf hD hm hE (jW a) (fun r hr => (pB a r hr).1) (EY hx hy hz hr hg) (by unfold jW; simpa using hlr) (by unfold jW; simpa using hlf)
 rw [Ii, H0] at h
 exact h
theorem tF (l m : List Int) (hl : (l.length : Int) ≤ 1000000000) :
  aI Tryz.prog 27 [.p (.c (SL enI l)), .p (.c (SL enI m))] (B (decide (l = m))) := by
 refine aK Tryz.func27 rfl rfl rfl rfl ?_
 refine ae hP<|aj rfl<|ag<|aq<|ae hP<|ak rfl<|ab (aU hT rfl rfl rfl (by rfl)) ?_
 refine ak rfl<|ab (aU hT rfl rfl rfl (by rfl)) ?_
 refine ab (bo rfl rfl)<|ag ?_
 refine az rfl (fun hb1 => ?_) (fun hb1 => ?_)
 ·have hb1_ := b8 hb1
  refine ae hP<|aj rfl<|ag<|am<|E1 rfl rfl ?_
  exact aX (decide_eq_false (fun e => hb1_ (by rw [e]))).symm
 have hb1_ := bU hb1
 have hlen : l.length = m.length := by have := hb1_; omega
 refine au<|aq<|ae hP<|aj rfl<|ag<|aB<|bn (ι := Nat) (fun k => stL [(0, .p (.c (SL enI l))), (1, .p (.c (SL enI m))), (5, Z (k : Int))] []) (fun k => SmG l m k) (fun k => l.length - k) 0 (SmG.start hlen) (aF ⟨.refl _, .refl _, .refl _, trivial⟩ trivial) ?_
 intro k hI
 have hk := hI.le
 refine aq<|ae hP<|ak rfl<|ak rfl<|ab (aU hT rfl rfl rfl (by rfl)) ?_
 refine ab (bd rfl rfl)<|ag ?_
 refine az rfl (fun hb2 => ?_) (fun hb2 => ?_)
 ·have hb2_ := dT0 hb2
  refine au<|aq<|aB<|ae hP<|ak rfl<|ak rfl<|ab (dP hT fE (by decide) 0 (n := (k : Int)) (l := l) rfl rfl rfl rfl rfl rfl (by omega)) ?_
  refine ab (bj hT rfl rfl rfl (cs := enI (l.getD k 0)) rfl rfl) ?_
  refine ak rfl<|ak rfl<|ab (dP hT fE (by decide) 0 (n := (k : Int)) (l := m) rfl rfl rfl rfl rfl rfl (by omega)) ?_
  refine ab (bj hT rfl rfl rfl (cs := enI (m.getD k 0)) rfl rfl) ?_
  refine ab (ah (eY _ _)) ?_
  refine ab (bv rfl)<|ag ?_
  refine az rfl (fun hb3 => ?_) (fun hb3 => ?_)
  ·have hb3_ := (cA hb3)
   refine ae hP<|aj rfl<|ag<|am<|E1 rfl rfl ?_
   exact aX (decide_eq_false (SmG.no (d := 0) (fun e => dF0 (cA hb3) e))).symm
  have hb3_ := (cp hb3)
  refine au<|aw hP<|ak rfl<|bw rfl rfl ?_
  refine aj rfl<|ag ?_
  refine ⟨k + 1, hI.next (d := 0) (by omega) (dT0 (cp hb3)), by omega, aF ⟨.refl _, .refl _, aN (by omega), trivial⟩ trivial⟩
 have hb2_ := dF0 hb2
 refine a7<|ae hP<|aj rfl<|ag<|am<|E1 rfl rfl ?_
 exact aX (decide_eq_true (hI.yes (by omega))).symm
theorem lA (a b : Ans) (hr : (a.roots.length : Int) ≤ 1000000000) (hg : (a.forms.length : Int) ≤ 1000000000) :
  aI Tryz.prog 32 [.p (.a (anS a)), .p (.a (anS b))] (B (sA a b)) := by
 refine aK Tryz.func32 rfl rfl rfl rfl ?_
 refine ae hP<|ao ai (aJ rfl rfl)<|ao ai (aJ rfl rfl)<|aj rfl<|ag<|aq<|ae hP<|aE hT rfl<|aZ hT rfl rfl rfl rfl ?_
 refine aE hT rfl<|aZ hT rfl rfl rfl rfl ?_
 refine ab (bo rfl rfl)<|ak rfl ?_
 refine a6 (t := 11) rfl (fun hg1 => ?_) (fun hg1 => ?_)
 ·have hg1_ := b8 hg1
  have k0 := b8 hg1
  iterate 6 refine aY hg1 ?_
  refine ab (aO rfl hg1 (rfl : _ = AV.p (.c _)))<|ak rfl<|aY rfl ?_
  iterate 5 refine aY rfl ?_
  refine ab (aO rfl rfl (rfl : _ = AV.p (.c _)))<|ak rfl<|aY rfl ?_
  iterate 5 refine aY rfl ?_
  refine ab (aO rfl rfl (rfl : _ = AV.p (.c _)))<|ak rfl<|aY rfl ?_
  iterate 6 refine aY rfl ?_
  refine ab (aO rfl rfl (rfl : _ = AV.p (.c _)))<|ag<|aW rfl rfl<|ae hP<|aj rfl<|ag<|am<|E1 rfl rfl ?_
  exact aX (decide_eq_false (fun z => k0 z.1)).symm
 have hg1_ := bU hg1
 have k0 := bU hg1
 refine aC hg1 (aS hT rfl rfl rfl rfl rfl rfl) ?_
 refine aC hg1 (aL hT rfl rfl rfl rfl (cs := [_, _]) rfl rfl) ?_
 refine aC hg1 (aS hT rfl rfl rfl rfl rfl rfl) ?_
 refine aC hg1 (aL hT rfl rfl rfl rfl (cs := [_, _]) rfl rfl) ?_
 refine aC hg1 (ah (eY _ _)) ?_
 refine aC hg1 (bv rfl) ?_
 refine ab (aM rfl hg1 (rfl : _ = AV.p (.c _)))<|ak rfl ?_
 refine a6 (t := 19) rfl (fun hg2 => ?_) (fun hg2 => ?_)
 ·have hg2_ := (cA hg2)
  have k1 := dF0 (cA hg2)
  iterate 6 refine aY hg2 ?_
  refine ab (aO rfl hg2 (rfl : _ = AV.p (.c _)))<|ak rfl<|aY rfl ?_
  iterate 5 refine aY rfl ?_
  refine ab (aO rfl rfl (rfl : _ = AV.p (.c _)))<|ak rfl<|aY rfl ?_
  iterate 6 refine aY rfl ?_
  refine ab (aO rfl rfl (rfl : _ = AV.p (.c _)))<|ag<|aW rfl rfl<|ae hP<|aj rfl<|ag<|am<|E1 rfl rfl ?_
  exact aX (decide_eq_false (fun z => k1 z.2.1)).symm
 have hg2_ := (cp hg2)
 have k1 := dT0 (cp hg2)
 refine aC hg2 (aS hT rfl rfl rfl rfl rfl rfl) ?_
 refine aC hg2 (aL hT rfl rfl rfl rfl (cs := [_, _]) rfl rfl) ?_
 refine aC hg2 (aS hT rfl rfl rfl rfl rfl rfl) ?_
 refine aC hg2 (aL hT rfl rfl rfl rfl (cs := [_, _]) rfl rfl) ?_
 refine aC hg2 (ah (eY _ _)) ?_
 refine aC hg2 (bv rfl) ?_
 refine ab (aM rfl hg2 (rfl : _ = AV.p (.c _)))<|ak rfl ?_
 refine a6 (t := 27) rfl (fun hg3 => ?_) (fun hg3 => ?_)
 ·have hg3_ := (cA hg3)
  have k2 := dF0 (cA hg3)
  iterate 6 refine aY hg3 ?_
  refine ab (aO rfl hg3 (rfl : _ = AV.p (.c _)))<|ak rfl<|aY rfl ?_
  iterate 6 refine aY rfl ?_
  refine ab (aO rfl rfl (rfl : _ = AV.p (.c _)))<|ag<|aW rfl rfl<|ae hP<|aj rfl<|ag<|am<|E1 rfl rfl ?_
  exact aX (decide_eq_false (fun z => k2 z.2.2.1)).symm
 have hg3_ := (cp hg3)
 have k2 := dT0 (cp hg3)
 refine aC hg3 (aS hT rfl rfl rfl rfl rfl rfl) ?_
 refine aC hg3 (aL hT rfl rfl rfl rfl (cs := [_, _]) rfl rfl) ?_
 refine aC hg3 (aS hT rfl rfl rfl rfl rfl rfl) ?_
 refine aC hg3 (aL hT rfl rfl rfl rfl (cs := [_, _]) rfl rfl) ?_
 refine aC hg3 (ah (eY _ _)) ?_
 refine aC hg3 (bv rfl) ?_
 refine ab (aM rfl hg3 (rfl : _ = AV.p (.c _)))<|ak rfl ?_
 refine a6 (t := 35) rfl (fun hg4 => ?_) (fun hg4 => ?_)
 ·have hg4_ := (cA hg4)
  have k3 := dF0 (cA hg4)
  iterate 7 refine aY hg4 ?_
  refine ab (aO rfl hg4 (rfl : _ = AV.p (.c _)))<|ag<|aW rfl rfl<|ae hP<|aj rfl<|ag<|am<|E1 rfl rfl ?_
  exact aX (decide_eq_false (fun z => k3 z.2.2.2.1)).symm
 have hg4_ := (cp hg4)
 have k3 := dT0 (cp hg4)
 refine aC hg4 (aS hT rfl rfl rfl rfl rfl rfl) ?_
 refine aC hg4 (bQ hT rfl rfl rfl rfl (by first | rfl | exact eK (by omega))) ?_
 refine aC hg4 (aU hT rfl rfl rfl (by rfl)) ?_
 refine aC hg4 (aS hT rfl rfl rfl rfl rfl rfl) ?_
 refine aC hg4 (bQ hT rfl rfl rfl rfl (by first | rfl | exact eK (by omega))) ?_
 refine aC hg4 (aU hT rfl rfl rfl (by rfl)) ?_
 refine aC hg4 (bo rfl rfl) ?_
 refine ab (aM rfl hg4 (rfl : _ = AV.p (.c _)))<|ag ?_
 refine az rfl (fun hb5 => ?_) (fun hb5 => ?_)
 ·have hb5_ := b8 hb5
  have k4 := b8 hb5
  refine ae hP<|aj rfl<|ag<|am<|E1 rfl rfl ?_
  exact aX (decide_eq_false (fun z => k4 (by rw [z.2.2.2.2.1]))).symm
 have hb5_ := bU hb5
 have k4 : a.roots.length = b.roots.length := by have := bU hb5; omega
 refine au<|aq<|ae hP<|aj rfl<|ag<|aB<|bn (ι := Nat) (fun k => stL [(2, .loc 2 0), (3, .loc 3 0), (5, Z (k : Int))] [(2, ⟨false, 1, 42, anS a⟩), (3, ⟨false, 1, 42, anS b⟩)]) (fun k => SmG a.roots b.roots k) (fun k => a.roots.length - k) 0 (SmG.start k4) (aF ⟨.refl _, .refl _, .refl _, trivial⟩ ⟨rfl, rfl, trivial⟩) ?_
 intro k hI
 have hk := hI.le
 refine aq<|ae hP<|ak rfl<|aE hT rfl<|aZ hT rfl rfl rfl rfl ?_
 refine ab (aU hT rfl rfl rfl (by rfl)) ?_
 refine ab (bd rfl rfl)<|ag ?_
 refine az rfl (fun hb6 => ?_) (fun hb6 => ?_)
 ·have hb6_ := dT0 hb6
  refine au<|aq<|aB<|ae hP<|aE hT rfl<|aZ hT rfl rfl rfl rfl ?_
  refine ak rfl<|ab (dP hT fE (by decide) 0 (n := (k : Int)) (l := a.roots) rfl rfl rfl rfl rfl rfl (by omega)) ?_
  refine ab (bj hT rfl rfl rfl (cs := enI (a.roots.getD k 0)) rfl rfl) ?_
  refine aE hT rfl<|aZ hT rfl rfl rfl rfl ?_
  refine ak rfl<|ab (dP hT fE (by decide) 0 (n := (k : Int)) (l := b.roots) rfl rfl rfl rfl rfl rfl (by omega)) ?_
  refine ab (bj hT rfl rfl rfl (cs := enI (b.roots.getD k 0)) rfl rfl) ?_
  refine ab (ah (eY _ _)) ?_
  refine ab (bv rfl)<|ag ?_
  refine az rfl (fun hb7 => ?_) (fun hb7 => ?_)
  ·have hb7_ := (cA hb7)
   have k6 := dF0 (cA hb7)
   refine ae hP<|aj rfl<|ag<|am<|E1 rfl rfl ?_
   exact aX (decide_eq_false (fun z => SmG.no (d := 0) k6 z.2.2.2.2.1)).symm
  have hb7_ := (cp hb7)
  have k6 := dT0 (cp hb7)
  refine au<|aw hP<|ak rfl<|bw rfl rfl ?_
  refine aj rfl<|ag ?_
  refine ⟨k + 1, hI.next (d := 0) (by omega) k6, by omega, aF ⟨.refl _, .refl _, aN (by omega), trivial⟩ ⟨rfl, rfl, trivial⟩⟩
 have hb6_ := dF0 hb6
 refine a7<|ae hP<|aE hT rfl<|aZ hT rfl rfl rfl rfl ?_
 refine aE hT rfl<|aZ hT rfl rfl rfl rfl ?_
 refine ab (ah (uK a.forms b.forms hg)) ?_
 refine aj rfl<|ag<|am<|E1 rfl rfl ?_
 exact aX (Ms k0 k1 k2 k3 (hI.yes (by omega)))
theorem yB (D : Int) :
  aI Tryz.prog 45 [I D] (Z (unN D : Nat)) := by
 refine aK Tryz.func45 rfl rfl rfl rfl ?_
 refine ae hP<|ao ai (aJ rfl rfl)<|aj rfl<|ag<|aq<|ae hP<|av hT rfl<|ab (ah (eD (-3) (by decide))) ?_
 refine ab (ah (eY _ _)) ?_
 refine ag ?_
 refine az rfl (fun hb1 => ?_) (fun hb1 => ?_)
 ·refine ae hP<|aj rfl<|ag<|am<|E1 rfl rfl ?_
  exact aN (Kn (dT0 hb1))
 refine au<|aq<|ae hP<|av hT rfl<|ab (ah (eD (-4) (by decide))) ?_
 refine ab (ah (eY _ _)) ?_
 refine ag ?_
 refine az rfl (fun hb2 => ?_) (fun hb2 => ?_)
 ·refine ae hP<|aj rfl<|ag<|am<|E1 rfl rfl ?_
  exact aN (Km (dF0 hb1) (dT0 hb2))
 refine au<|ae hP<|aj rfl<|ag<|am<|E1 rfl rfl ?_
 exact aN (Ko (dF0 hb1) (dF0 hb2))
theorem mq  :
  aI Tryz.prog 21 [] (B true) := by
 have q1 : aI Tryz.prog 30 [FA 2 1 3, Z 3] (.p (.a (anS ⟨1, 0, 1, 0, [], []⟩ ++ [.v (.int .i64 0)]))) := by
  have h := j7 ⟨2, 1, 3⟩ (-23) 3 (by unfold L; decide) (by unfold L; decide) (by unfold L; decide) mz (by decide) (by decide) (by decide)
  rw [B2] at h
  exact h
 have q2 : aI Tryz.prog 30 [FA 2 1 3, Z 5] (.p (.a (anS ⟨2, 0, 0, 5, [], []⟩ ++ [.v (.int .i64 0)]))) := by
  have h := j7 ⟨2, 1, 3⟩ (-23) 5 (by unfold L; decide) (by unfold L; decide) (by unfold L; decide) mz (by decide) (by decide) (by decide)
  rw [Gv] at h
  exact h
 have q3 : aI Tryz.prog 30 [FA 2 1 3, Z 1] (.p (.a (anS ⟨3, 0, 0, 0, [1], [⟨1, 1, 6⟩]⟩ ++ [.v (.int .i64 0)]))) := by
  have h := j7 ⟨2, 1, 3⟩ (-23) 1 (by unfold L; decide) (by unfold L; decide) (by unfold L; decide) mz (by decide) (by decide) (by decide)
  rw [JH] at h
  exact h
 have q4 : aI Tryz.prog 30 [FA 1 0 5, Z 3] (.p (.a (anS ⟨2, 0, 0, 5, [], []⟩ ++ [.v (.int .i64 0)]))) := by
  have h := j7 ⟨1, 0, 5⟩ (-20) 3 (by unfold L; decide) (by unfold L; decide) (by unfold L; decide) JJ (by decide) (by decide) (by decide)
  rw [B4] at h
  exact h
 have q5 : aI Tryz.prog 26 [FA 1 0 1, Z 5] (.t [.c (SL enP (prS (-4) (5 : Nat) ⟨1, 0, 1⟩)), PE 0]) := w5 ⟨1, 0, 1⟩ (-4) 5 (by unfold L; decide) (by unfold L; decide) (by unfold L; decide) LP (by decide) (by decide)
 have q6 : aI Tryz.prog 13 [I (-23), Z 6] (.t [.c (SL enI [1, 5, 7, 11]), PE 0]) := by
  have h := pH (-23) 6 (by decide) (by decide) (by decide)
  rw [show ((6 : Nat) : Int) = 6 from rfl, B3] at h
  exact h
 have q7 : aI Tryz.prog 36 [FA 2 1 3, Z 3, .p (.a (anS ⟨1, 0, 1, 0, [], []⟩))] (B true) := by
  have h := nE ⟨2, 1, 3⟩ (-23) 3 (by unfold L; decide) (by unfold L; decide) (by unfold L; decide) mz (by decide) (by decide) (by decide) ⟨1, 0, 1, 0, [], []⟩ (by decide) (by decide) (by decide) (by decide) (by decide) (by decide) (by decide)
  rw [JG] at h
  exact h
 have q8 : aI Tryz.prog 36 [FA 2 1 3, Z 3, .p (.a (anS ⟨3, 0, 0, 0, [1], [⟨1, 1, 6⟩]⟩))] (B false) := by
  have h := nE ⟨2, 1, 3⟩ (-23) 3 (by unfold L; decide) (by unfold L; decide) (by unfold L; decide) mz (by decide) (by decide) (by decide) ⟨3, 0, 0, 0, [1], [⟨1, 1, 6⟩]⟩ (by decide) (by decide) (by decide) (by decide) (by decide) (by decide) (by decide)
  rw [LO] at h
  exact h
 obtain ⟨h8, h80⟩ := JK
 rw [show (prS (-4) 5 ⟨1, 0, 1⟩) = prS (-4) (5 : Nat) ⟨1, 0, 1⟩ from rfl] at h8 h80
 generalize prS (-4) (5 : Nat) ⟨1, 0, 1⟩ = L8 at *
 refine aK Tryz.func21 rfl rfl rfl rfl ?_
 refine ae hP<|aj rfl<|ag<|ae hP<|ab (ah (oI _ _ _ (by first | assumption | decide) (by first | assumption | decide) (by first | assumption | decide))) ?_
 refine ao ai (aA hT rfl rfl)<|aG hT rfl<|ag<|ae hP<|bA hT rfl rfl rfl rfl rfl rfl<|ab (ah q1) ?_
 refine bA hT rfl rfl rfl rfl rfl rfl<|ab (ah q2) ?_
 refine bA hT rfl rfl rfl rfl rfl rfl<|ab (ah q3) ?_
 refine ab (ah (oI _ _ _ (by first | assumption | decide) (by first | assumption | decide) (by first | assumption | decide))) ?_
 refine ab (ah q4) ?_
 refine ao ai (aA hT rfl rfl)<|ao ai (aA hT rfl rfl)<|ao ai (aA hT rfl rfl)<|ao ai (aA hT rfl rfl)<|aG hT rfl<|aG hT rfl<|aG hT rfl<|aG hT rfl<|ag<|ae hP<|ab (ah (oI _ _ _ (by first | assumption | decide) (by first | assumption | decide) (by first | assumption | decide))) ?_
 refine ab (ah q5) ?_
 refine ab (ay (rfl : _ = AV.t _))<|ab (aD rfl (v := .c _) rfl)<|ab (aD rfl (v := .c _) rfl)<|aj rfl<|aj rfl<|ag<|ae hP<|ab (ah (eD _ (by first | assumption | decide))) ?_
 refine ab (ah q6) ?_
 refine ab (ay (rfl : _ = AV.t _))<|ab (aD rfl (v := .c _) rfl)<|ab (aD rfl (v := .c _) rfl)<|aj rfl<|aj rfl<|ag<|aq<|ae hP<|aE hT rfl<|aZ hT rfl rfl rfl rfl ?_
 refine ab (bo rfl rfl)<|ak rfl<|aC rfl (aS hT rfl rfl rfl rfl rfl rfl) ?_
 refine aC rfl (bQ hT rfl rfl rfl rfl (by first | rfl | exact eK (by omega))) ?_
 refine aC rfl (bo rfl rfl) ?_
 refine ab (aM rfl rfl (rfl : _ = AV.p (.c _)))<|ak rfl<|aC rfl (aS hT rfl rfl rfl rfl rfl rfl) ?_
 refine aC rfl (bQ hT rfl rfl rfl rfl (by first | rfl | exact eK (by omega))) ?_
 refine aC rfl (bo rfl rfl) ?_
 refine ab (aM rfl rfl (rfl : _ = AV.p (.c _)))<|ak rfl<|aC rfl (aS hT rfl rfl rfl rfl rfl rfl) ?_
 refine aC rfl (bQ hT rfl rfl rfl rfl (by first | rfl | exact eK (by omega))) ?_
 refine aC rfl (bo rfl rfl) ?_
 refine ab (aM rfl rfl (rfl : _ = AV.p (.c _)))<|ak rfl<|aC rfl (ay (rfl : _ = AV.p (.c _))) ?_
 refine aC rfl (bo rfl rfl) ?_
 refine ab (aM rfl rfl (rfl : _ = AV.p (.c _)))<|ak rfl<|aC rfl (ay (rfl : _ = AV.p (.c _))) ?_
 refine aC rfl (bo rfl rfl) ?_
 refine ab (aM rfl rfl (rfl : _ = AV.p (.c _)))<|ak rfl<|aC rfl (ay (rfl : _ = AV.p (.c _))) ?_
 refine aC rfl (aU hT rfl rfl rfl (by rfl)) ?_
 refine aC rfl (bo rfl rfl) ?_
 refine ab (aM rfl rfl (rfl : _ = AV.p (.c _)))<|ag<|aQ rfl (by rw [h8]; rfl) ?_
 refine au<|ae hP<|ab (ah (eD _ (by first | assumption | decide))) ?_
 refine ab (bg hT rfl rfl rfl (es := [_, _]) rfl rfl rfl)<|ab (ah (oI _ _ _ (by first | assumption | decide) (by first | assumption | decide) (by first | assumption | decide))) ?_
 refine ab (bg hT rfl rfl rfl (es := [_, _, _, _, _, _]) rfl rfl rfl)<|ab (aV hT rfl rfl rfl (es := [_, _, _, _, _, _, _, _, _]) rfl)<|ao ai (aA hT rfl rfl)<|aG hT rfl<|ag<|aq<|ae hP<|aE hT rfl<|ab (aL hT rfl rfl rfl rfl (cs := [_, _, _, _, _, _, _, _, _]) rfl rfl)<|ab (ah (eD _ (by first | assumption | decide))) ?_
 refine ab (aV hT rfl rfl rfl (es := [_, _, _, _, _, _, _, _, _]) rfl)<|ab (ah (lA ⟨1, 0, 1, 0, [], []⟩ ⟨1, 0, 1, 0, [], []⟩ (by decide) (by decide))) ?_
 refine ab (bv rfl)<|ak rfl<|bE (bl rfl rfl (cQ _)) (aS hT rfl rfl rfl rfl rfl rfl) ?_
 refine bE (bl rfl rfl (cQ _)) (aL hT rfl rfl rfl rfl (cs := [_, _, _, _, _, _, _, _, _]) rfl rfl) ?_
 refine bE (bl rfl rfl (cQ _)) (ah (eD _ (by first | assumption | decide))) ?_
 refine bE (bl rfl rfl (cQ _)) (aV hT rfl rfl rfl (es := [_, _, _, _, _, _, _, _, _]) rfl) ?_
 refine bE (bl rfl rfl (cQ _)) (ah (lA ⟨2, 0, 0, 5, [], []⟩ ⟨2, 0, 0, 5, [], []⟩ (by decide) (by decide))) ?_
 refine bE (bl rfl rfl (cQ _)) (bv rfl) ?_
 refine ab (aM rfl (cQ _) (rfl : _ = AV.p (.c _))) ?_
 refine ak rfl<|bE (bl rfl rfl (cQ _)) (aS hT rfl rfl rfl rfl rfl rfl) ?_
 refine bE (bl rfl rfl (cQ _)) (aL hT rfl rfl rfl rfl (cs := [_, _, _, _, _, _, _, _, _]) rfl rfl) ?_
 refine bE (bl rfl rfl (cQ _)) (aL hT rfl rfl rfl rfl (cs := [_, _, _, _, _, _, _, _, _]) rfl rfl) ?_
 refine bE (bl rfl rfl (cQ _)) (ah (lA ⟨3, 0, 0, 0, [1], [⟨1, 1, 6⟩]⟩ ⟨3, 0, 0, 0, [1], [⟨1, 1, 6⟩]⟩ (by decide) (by decide))) ?_
 refine bE (bl rfl rfl (cQ _)) (bv rfl) ?_
 refine ab (aM rfl (cQ _) (rfl : _ = AV.p (.c _))) ?_
 refine ak rfl<|bE (bl rfl rfl (cQ _)) (aS hT rfl rfl rfl rfl rfl rfl) ?_
 refine bE (bl rfl rfl (cQ _)) (aL hT rfl rfl rfl rfl (cs := [_, _, _, _, _, _, _, _, _]) rfl rfl) ?_
 refine bE (bl rfl rfl (cQ _)) (ah (eD _ (by first | assumption | decide))) ?_
 refine bE (bl rfl rfl (cQ _)) (aV hT rfl rfl rfl (es := [_, _, _, _, _, _, _, _, _]) rfl) ?_
 refine bE (bl rfl rfl (cQ _)) (ah (lA ⟨2, 0, 0, 5, [], []⟩ ⟨2, 0, 0, 5, [], []⟩ (by decide) (by decide))) ?_
 refine bE (bl rfl rfl (cQ _)) (bv rfl) ?_
 refine ab (aM rfl (cQ _) (rfl : _ = AV.p (.c _))) ?_
 refine ag<|aQ rfl (cQ _) ?_
 refine au<|ae hP<|ak rfl<|ab (dP hT iQ (by decide) (0, 0) (n := 0) (l := L8) rfl rfl rfl rfl rfl rfl (by omega)) ?_
 refine ab (ku hT rfl rfl rfl rfl rfl (by decide)) ?_
 refine ab (bj hT rfl rfl rfl (cs := enI (L8.getD 0 (0, 0)).1) rfl rfl) ?_
 refine ab (ah (eD _ (by first | assumption | decide))) ?_
 refine ab (ah (eY _ _)) ?_
 refine ak rfl<|bE (bl rfl rfl (by rw [h80]; decide)) (ay (rfl : _ = AV.p (.c _))) ?_
 refine bE (bl rfl rfl (by rw [h80]; decide)) (dP hT iQ (by decide) (0, 0) (n := 0) (l := L8) rfl rfl rfl rfl rfl rfl (by omega)) ?_
 refine bE (bl rfl rfl (by rw [h80]; decide)) (ku hT rfl rfl rfl rfl rfl (by decide)) ?_
 refine bE (bl rfl rfl (by rw [h80]; decide)) (bj hT rfl rfl rfl (cs := enI (L8.getD 0 (0, 0)).2) rfl rfl) ?_
 refine bE (bl rfl rfl (by rw [h80]; decide)) (ah (eD _ (by first | assumption | decide))) ?_
 refine bE (bl rfl rfl (by rw [h80]; decide)) (ah (eY _ _)) ?_
 refine ab (aO rfl (by rw [h80]; decide) (rfl : _ = AV.p (.c _))) ?_
 refine ak rfl<|bE (bl rfl rfl (by rw [h80]; decide)) (ay (rfl : _ = AV.p (.c _))) ?_
 iterate 4 refine bE (bl rfl rfl (by rw [h80]; decide)) (ah (eD _ (by first | assumption | decide))) ?_
 refine bE (bl rfl rfl (by rw [h80]; decide)) (bg hT rfl rfl rfl (es := [_, _, _, _, _, _, _, _]) rfl rfl rfl) ?_
 refine bE (bl rfl rfl (by rw [h80]; decide)) (ah (tF [1, 5, 7, 11] [1, 5, 7, 11] (by decide))) ?_
 refine ab (aO rfl (by rw [h80]; decide) (rfl : _ = AV.p (.c _))) ?_
 refine ak rfl<|bE (bl rfl rfl (by decide)) (aL hT rfl rfl rfl rfl (cs := [_, _, _, _, _, _]) rfl rfl) ?_
 refine bE (bl rfl rfl (by decide)) (aS hT rfl rfl rfl rfl rfl rfl) ?_
 refine bE (bl rfl rfl (by decide)) (aL hT rfl rfl rfl rfl (cs := [_, _, _, _, _, _, _, _, _]) rfl rfl) ?_
 refine bE (bl rfl rfl (by decide)) (ah q7) ?_
 refine ab (aO rfl (by decide) (rfl : _ = AV.p (.c _))) ?_
 refine ak rfl<|aC rfl (aL hT rfl rfl rfl rfl (cs := [_, _, _, _, _, _]) rfl rfl) ?_
 refine aC rfl (aS hT rfl rfl rfl rfl rfl rfl) ?_
 refine aC rfl (aL hT rfl rfl rfl rfl (cs := [_, _, _, _, _, _, _, _, _]) rfl rfl) ?_
 refine aC rfl (ah q8) ?_
 refine aC rfl (bv rfl) ?_
 refine ab (aO rfl rfl (rfl : _ = AV.p (.c _)))<|aj rfl<|ag<|am<|E1 rfl rfl ?_
 exact .refl _
end
section
open Go Go.AM
end
section
open Go Go.AM
theorem JW (d : Int) (hd : -9223372036854775807 ≤ d ∧ d ≤ 9223372036854775807) :
  aI Tryz.prog 122 [I d] (.t [PE (szN d), PE (szE d)]) := by
 have id0 : LB d 6 := ⟨by unfold L; omega⟩
 have hm0 := Int.emod_nonneg d (show (4 : Int) ≠ 0 by omega)
 have hm1 := Int.emod_lt_of_pos d (show (0 : Int) < 4 by omega)
 refine aK Tryz.func122 rfl rfl rfl rfl ?_
 refine ae hP<|ao ai (aJ rfl rfl)<|aj rfl<|aj rfl<|ag<|ae hP<|av hT rfl<|ab (ah (kh _ (by first | assumption | decide))) ?_
 refine ab (ah (dB _ _ lz lz (by decide))) ?_
 refine ab (ay (rfl : _ = AV.t _))<|ab (aD rfl (v := .a _) rfl)<|ab (aD rfl (v := .a _) rfl)<|ab (aD rfl (v := .c _) rfl)<|ao ai (aA hT rfl rfl)<|ao ai (aA hT rfl rfl)<|aG hT rfl<|aG hT rfl<|aj rfl<|ag<|aq<|ae hP<|av hT rfl<|ab (ah (cW _)) ?_
 refine ab (dc rfl rfl)<|ak rfl ?_
 refine a6 (t := 19) rfl (fun hg1 => ?_) (fun hg1 => ?_)
 ·have hg1_ := dT0 hg1
  iterate 4 refine aY hg1 ?_
  refine ab (aO rfl hg1 (rfl : _ = AV.p (.c _)))<|ag<|aW rfl rfl<|ae hP<|aj rfl<|aj rfl<|ag<|am<|E11 rfl rfl rfl ?_
  exact aH (HR (.inl (sgn_ge_iff.1 hg1_)))
 have hg1_ := dF0 hg1
 refine aC hg1 (aL hT rfl rfl rfl rfl (cs := [_, _]) rfl rfl) ?_
 refine aC hg1 (ah (kh _ (by first | assumption | decide))) ?_
 refine aC hg1 (ah (dq _ _)) ?_
 refine aC hg1 (bO rfl rfl) ?_
 refine ab (aM rfl hg1 (rfl : _ = AV.p (.c _)))<|ag ?_
 refine az rfl (fun hb2 => ?_) (fun hb2 => ?_)
 ·have hb2_ := dT0 hb2
  refine ae hP<|aj rfl<|aj rfl<|ag<|am<|E11 rfl rfl rfl ?_
  exact aH (HR (.inr (cmpI_gt_zero.1 hb2_)))
 have hb2_ := dF0 hb2
 refine au<|ae hP<|av hT rfl<|ab (ah (iN _)) ?_
 refine ab (ah (iO _ (by omega) (by omega))) ?_
 refine ab (ay (rfl : _ = AV.t _))<|ab (aD rfl (v := .c _) rfl)<|ab (aD rfl (v := .c _) rfl)<|aj rfl<|aj rfl<|ag<|aq<|ae hP<|ak rfl<|ab (bv rfl)<|ak rfl<|aC rfl (ay (rfl : _ = AV.p (.c _))) ?_
 refine aC rfl (bO rfl rfl) ?_
 refine ab (aM rfl rfl (rfl : _ = AV.p (.c _)))<|ag ?_
 refine az rfl (fun hb4 => ?_) (fun hb4 => ?_)
 ·have hb4_ := dT0 hb4
  refine ae hP<|aj rfl<|aj rfl<|ag<|am<|E11 rfl rfl rfl ?_
  exact aH (Mm (fun x => x.elim (fun h => hg1_ (sgn_ge_iff.2 h)) (fun h => hb2_ (cmpI_gt_zero.2 h))) hb4_)
 have hb4_ := dF0 hb4
 refine au<|ae hP<|ak rfl<|aj rfl<|aj rfl<|ag<|am<|E11 rfl rfl rfl ?_
 exact aH (Mn (fun x => x.elim (fun h => hg1_ (sgn_ge_iff.2 h)) (fun h => hb2_ (cmpI_gt_zero.2 h))) hb4_)
theorem uS (N : Int) :
  aI Tryz.prog 123 [Z N] (.fn 176 [[.v (.int .i64 N)]]) := by
 refine kg Tryz.func123 (by kernel_rfl) rfl rfl (bL0 rfl) rfl ?_
 refine ae hP<|ao ai (aJ rfl rfl)<|aj rfl<|ag<|cC (t := 1) rfl rfl ?_
 refine ae hP<|ab (kD rfl)<|ab (bh (rfl : _ = AV.fn _ _))<|ag<|am ?_
 exact ⟨.inr rfl, 2, rfl, rfl⟩
theorem JX (d : Int) (hd : -9223372036854775807 ≤ d ∧ d ≤ 9223372036854775807) (W : FuncId) (p : Fm → Bool) (hW : ∀ a b c : Int, (0 < a ∧ a ≤ 2000) → (-2000 ≤ b ∧ b ≤ 2000) → (0 < c ∧ c ≤ 10000000) → aI Tryz.prog W [FA a b c] (B (p ⟨a, b, c⟩))) :
  aI Tryz.prog 52 [I d, .p (.c (.v (.func (.func W) #[] #[])))] (.t [.c (FS (if szE d = 0 then LW (-d) p else [])), PE (szE d)]) := by
 refine aK Tryz.func52 rfl rfl rfl rfl ?_
 refine ae hP<|ao ai (aJ rfl rfl)<|ao ai (aJ rfl rfl)<|aj rfl<|aj rfl<|ag<|ae hP<|av hT rfl<|ab (ah (JW _ (by omega))) ?_
 refine ab (ay (rfl : _ = AV.t _))<|ab (aD rfl (v := .c _) rfl)<|ab (aD rfl (v := .c _) rfl)<|aj rfl<|aj rfl<|ag<|aq<|ae hP<|ak rfl<|ab (bo rfl rfl)<|ag ?_
 refine az rfl (fun hb1 => ?_) (fun hb1 => ?_)
 ·have hb1_ := b8 hb1
  have hz : szE d ≠ 0 := hb1_
  refine ae hP<|ak rfl<|aj rfl<|aj rfl<|ag<|am<|E11 rfl rfl rfl ?_
  exact Sub.tup ⟨by rw [if_neg hz]; exact DSub.nil_sl, DSub.refl _, trivial⟩
 have hb1_ := bU hb1
 obtain ⟨hsn, hN1, hN2, hN3⟩ := wz (show szE d = 0 from hb1_)
 rw [← hsn] at hN1 hN2
 generalize hNd : szN d = N at hN1 hN2 ⊢
 refine au<|ae hP<|ao ai (j0 hT rfl rfl)<|ag<|aq<|ae hP<|ak rfl<|ab (ah (uS _)) ?_
 refine ag<|aB<|jG 8 1000 6 46 rfl rfl rfl rfl ?_
 refine dE (t := stL [(3, .loc 3 0), (8, .loc 8 0), (20, .fn 176 [[.v (.int .i64 N)]])] [(3, ⟨false, 1, 108, [.v (.func (.func W) #[] #[])]⟩), (8, ⟨false, 1002, 32, [.sl (LK N p 0).length []]⟩), (1000, FB 46 (LK N p 0))]) (aF ⟨.refl _, .refl _, .refl _, trivial⟩ ⟨rfl, rfl, rfl, trivial⟩) ?_
 refine rf 9 (fun k => cz [(3, ⟨false, 1, 108, [.v (.func (.func W) #[] #[])]⟩), (8, ⟨false, 1002, 32, [.sl (LK N p k).length []]⟩), (1000, FB 46 (LK N p k))]) rfl (uf N (by omega) hN2) (EA N) rfl rfl rfl (fun k x hx => ?_) ?_
 ·obtain ⟨t, ht, rfl⟩ := EC hx
  obtain ⟨⟨b1, b2⟩, ⟨b3, b4⟩, b5, b6⟩ := x9 (List.mem_of_getElem? ht) hN2
  have ja : bp t.a := by unfold bp; omega
  have jb : bp t.b := by unfold bp; omega
  have jc : bp t.c := by unfold bp; omega
  refine aw hP<|ao ai (aA hT rfl rfl)<|aG hT rfl<|ag<|aB<|ae hP<|ab (aL hT rfl rfl rfl rfl (cs := [_, _, _]) rfl rfl)<|ab (ah (JY _ _ _ (by first | assumption | decide) (by first | assumption | decide) (by first | assumption | decide))) ?_
  refine ao ai (aA hT rfl rfl)<|aG hT rfl<|ag<|ae hP<|aZ hT rfl rfl rfl rfl ?_
  refine bA hT rfl rfl rfl rfl rfl rfl<|ab (Eff.callF rfl (hW _ _ _ ⟨b1, b2⟩ ⟨b3, b4⟩ ⟨b5, b6⟩)) ?_
  refine ag ?_
  refine az rfl (fun hb2 => ?_) (fun hb2 => ?_)
  ·refine aw hP<|ab (fe hT rfl rfl rfl rfl rfl)<|bA hT rfl rfl rfl rfl rfl rfl<|ab (bg hT rfl rfl rfl (es := [_, _, _, _, _, _]) rfl rfl rfl)<|RK.app ai (lD hT rfl rfl rfl rfl rfl rfl rfl (f := t.fm) rfl (by have := Kg N p k; omega) (by decide)) ?_
   refine dh ai (jB hT rfl rfl rfl rfl rfl rfl rfl (ki _).symm (Nat.zero_lt_succ 5)) ?_
   refine ag ?_
   refine ⟨rfl, GW.rnL 8 30 1000 (LK N p k ++ [t.fm]).length rfl rfl rfl (ki _).symm (Nat.zero_lt_succ 5) rfl rfl rfl rfl ?_⟩
   show ∀ m, cz _ m = _ ∨ cz _ m = none
   rw [Kf ht hb2]
   exact SubO.own ⟨rfl, rfl, rfl, trivial⟩
  refine au ?_
  refine ⟨rfl, GW.forget ?_⟩
  show ∀ m, cz _ m = _ ∨ cz _ m = none
  rw [Me ht hb2]
  exact SubO.own ⟨rfl, rfl, rfl, trivial⟩
 refine ae hP<|ab (fe hT rfl rfl rfl rfl rfl)<|ab (bh (rfl : _ = AV.vec _))<|aj rfl<|ag<|kL (t := 4) rfl rfl ?_
 refine am<|E11 rfl rfl rfl ?_
 exact aH (by rw [Kh, if_pos (show szE d = 0 from hb1_), show szE d = 0 from hb1_, ← hNd, hsn])
end
section
open Go Go.AM
theorem q9 (d : Int) (hd : -9223372036854775807 ≤ d ∧ d ≤ 9223372036854775807) :
  aI Tryz.prog 12 [I d] (.t [.c (FS (if szE d = 0 then LW (-d) (fun f => prim f.a f.b f.c) else [])), PE (szE d)]) := by
 refine aK Tryz.func12 rfl rfl rfl rfl ?_
 refine ae hP<|ao ai (aJ rfl rfl)<|aj rfl<|aj rfl<|ag<|ae hP<|av hT rfl<|ab (ah (JX _ (by omega) 53 (fun f => prim f.a f.b f.c) (fun a b c h1 h2 h3 => iW a b c (pq (by omega)) (pq (by omega)) (pq (by omega))))) ?_
 refine ab (aD rfl (v := .c _) rfl)<|ab (aD rfl (v := .c _) rfl)<|aj rfl<|aj rfl<|ag<|am<|E11 rfl rfl rfl ?_
 exact .refl _
end
section
open Go Go.AM
theorem l_RepresentClasses (D i0 i1 i2 i3 m0 m1 m2 m3 : Nat) (hD : D < 65536) (g0 : i0 < 65536) (g1 : i1 < 65536) (g2 : i2 < 65536) (g3 : i3 < 65536) (k0 : m0 < 256) (k1 : m1 < 256) (k2 : m2 < 256) (k3 : m3 < 256) :
  aI Tryz.prog 8 [.p (.a [.v (.int .u16 (D : Int)), .v (.int .u16 (i0 : Int)), .v (.int .u16 (i1 : Int)), .v (.int .u16 (i2 : Int)), .v (.int .u16 (i3 : Int)), .v (.int .u8 (m0 : Int)), .v (.int .u8 (m1 : Int)), .v (.int .u8 (m2 : Int)), .v (.int .u8 (m3 : Int))])] (B true) := by
 obtain ⟨hD1, hD2⟩ := Dd D
 obtain ⟨s1, s2, s3, s4, s5⟩ := dU D
 have hE := pn D
 have h4 := ve D
 have cS := pD _ _ _ _ _ _ _ _ _ hD g0 g1 g2 g3 k0 k1 k2 k3
 obtain ⟨m, hmE⟩ : ∃ m : Nat, (m : Int) = 1 + (i2 : Int) % 60 := ⟨1 + i2 % 60, by omega⟩
 have hm : 1 ≤ m ∧ m ≤ 65536 := by omega
 have hmw : IntKind.i64.wrap (1 + (i2 : Int) % 60) = (m : Int) := by rw [← hmE]; exact iW0 _ (by omega)
 have w := od (n := szz D) (by omega)
 have h99 := z1 D
 have jn : bp (-szz D) := by unfold bp; omega
 have hng : IntKind.i64.wrap (0 - szz D) = -szz D := by rw [Int.zero_sub]; exact iW0 _ (by omega)
 have cL : aI Tryz.prog 12 [I (-szz D)] (.t [.c (FS (LWp (szz D))), PE 0]) := by
  have h := q9 (-szz D) (by omega)
  rw [hE, if_pos rfl, show - -szz D = szz D by omega] at h
  exact h
 generalize LWp (szz D) = l at *
 generalize szz D = NN at *
 have hdN : -NN = -NN := rfl
 generalize hdd : -NN = d at *
 clear hdN
 have idl : LB d 6 := ⟨by unfold L; omega⟩
 have hdB : -4194304 ≤ d ∧ d < 0 := by omega
 have hl6 := rS w (by omega)
 have hlc : ∀ g ∈ l, Cl d g := fun g hg => ((w.mem g).1 hg).1
 have cR := pH d m hdB h4 hm
 have hrl := mc d m hm.2
 have cUn := yB d
 have hu6 : unN d ≤ 6 := by rw [← pk]; exact rX d
 have hsum := Fs (n := (m : Int)) w hdB.2 (by omega)
 have hLN : ∀ g : Fm, (prS d m g).length ≤ 1000000 := fun g => by rw [sQ]; exact sO hm
 have hsum2 : dJ (l.map fun g => (prS d m g).length) = unN d * (rbL d m).length := by
  rw [← hsum]; congr 1; exact List.map_congr_left fun g _ => sQ
 generalize hLNe : (fun g : Fm => (prS d m g).length) = LN at *
 have hLN' : ∀ g, (prS d m g).length = LN g := fun g => by rw [← hLNe]
 simp only [hLN'] at hLN
 have hsb := fun k => KA (F := LN) (l := l) (k := k) hLN
 refine aK Tryz.func8 rfl rfl rfl rfl ?_
 refine ae hP<|ao ai (aJ rfl rfl)<|aj rfl<|ag<|ae hP<|ab (ah mq) ?_
 refine aj rfl<|ag<|aq<|ae hP<|ak rfl<|ab (bv rfl)<|ag<|aQ rfl rfl<|au<|ae hP<|ab (aL hT rfl rfl rfl rfl (cs := [_, _, _, _, _, _, _, _, _]) rfl rfl)<|ab (ah cS) ?_
 refine ab (fX rfl (c := d) hng) ?_
 refine ab (ah (eD d jn)) ?_
 refine aE hT rfl<|ab (aT hT rfl rfl rfl rfl rfl (by first | decide | omega)) ?_
 refine aZ hT rfl rfl rfl rfl ?_
 refine ab (bW rfl rfl (by decide) (c := (i2 : Int) % 60) (Int.tmod_eq_emod_of_nonneg (by omega))) ?_
 refine ab (bf hT rfl rfl rfl rfl (iW0 _ (by omega))) ?_
 refine ab (bH rfl rfl (c := (m : Int)) hmw) ?_
 refine ao ai (aA hT rfl rfl)<|aG hT rfl<|aj rfl<|ag<|ae hP<|av hT rfl<|ab (ah cL) ?_
 refine ab (ay (rfl : _ = AV.t _))<|ab (aD rfl (v := .c _) rfl)<|ab (aD rfl (v := .c _) rfl)<|aj rfl<|aj rfl<|ag<|ae hP<|av hT rfl<|ak rfl<|ab (ah cR) ?_
 refine ab (ay (rfl : _ = AV.t _))<|ab (aD rfl (v := .c _) rfl)<|ab (aD rfl (v := .c _) rfl)<|aj rfl<|aj rfl<|ag<|aq<|ae hP<|ak rfl<|ab (bo rfl rfl)<|ak rfl<|aC rfl (ay (rfl : _ = AV.p (.c _))) ?_
 refine aC rfl (bo rfl rfl) ?_
 refine ab (aM rfl rfl (rfl : _ = AV.p (.c _)))<|ag<|aQ rfl rfl<|au<|ae hP<|aj rfl<|ag<|aq<|ae hP<|aj rfl<|ag<|aB<|bn (ι := Nat) (fun k => stL [(3, .p (.c (.v (.bool true)))), (4, .loc 4 0), (5, Z (m : Int)), (6, .p (.c (FS l))), (8, .p (.c (SL enI (rbL d m)))), (10, Z ((smK LN l k : Nat) : Int)), (11, Z (k : Int))] [(4, ⟨false, 1, 29, [zn d, zm d]⟩)]) (fun k => k ≤ l.length) (fun k => l.length - k) 0 (Nat.zero_le _) (aF ⟨.refl _, .refl _, .refl _, .refl _, .refl _, aN (by rw [KB]; rfl), .refl _, trivial⟩ ⟨rfl, trivial⟩) ?_
 intro k hk
 refine aq<|ae hP<|ak rfl<|ak rfl<|ab (aU hT rfl rfl rfl (by rfl)) ?_
 refine ab (bd rfl rfl)<|ak rfl ?_
 refine a6 (t := 48) rfl (fun hg2 => ?_) (fun hg2 => ?_)
 ·have hg2_ := dT0 hg2
  have hme := kw (l := l) (k := k) (d := ⟨0, 0, 0⟩) (by have := dT0 hg2; omega)
  have hks : smK LN l (k + 1) = smK LN l k + (prS d m (l.getD k ⟨0, 0, 0⟩)).length := by rw [Kz (by have := dT0 hg2; omega), hLN']
  have hadd : IntKind.i64.wrap (((smK LN l k : Nat) : Int) + (((prS d m (l.getD k ⟨0, 0, 0⟩)).length : Nat) : Int)) = ((smK LN l (k + 1) : Nat) : Int) := by
   rw [hks, ← Int.natCast_add]
   have := hsb (k + 1)
   exact iW0 _ (by omega)
  refine aC hg2 (ay (rfl : _ = AV.p (.c _))) ?_
  refine aC hg2 (bd rfl rfl) ?_
  refine ab (aO rfl hg2 (rfl : _ = AV.p (.c _)))<|ag<|aW rfl (decide_eq_true (by omega)) ?_
  refine au<|aq<|aB<|ae hP<|ak rfl<|ak rfl<|ab (eI hT (n := (k : Int)) rfl rfl rfl rfl rfl rfl (by omega)) ?_
  refine ab (bj hT rfl rfl rfl (cs := FC (l.getD k ⟨0, 0, 0⟩)) rfl rfl) ?_
  refine ak rfl<|ab (ah (w5 (l.getD k ⟨0, 0, 0⟩) d m (hl6 _ hme).1 (hl6 _ hme).2.1 (hl6 _ hme).2.2 (hlc _ hme) hdB hm)) ?_
  refine ab (ay (rfl : _ = AV.t _))<|ab (aD rfl (v := .c _) rfl)<|ab (aD rfl (v := .c _) rfl)<|aj rfl<|aj rfl<|ag<|aq<|ae hP<|ak rfl<|ab (bo rfl rfl)<|ag<|aQ rfl rfl<|au<|aw hP<|ak rfl<|ak rfl<|ab (aU hT rfl rfl rfl (by rfl)) ?_
  refine ab (bH rfl rfl (c := ((smK LN l (k + 1) : Nat) : Int)) hadd) ?_
  refine aj rfl<|ag<|aw hP<|ak rfl<|bw rfl rfl ?_
  refine aj rfl<|ag ?_
  refine ⟨k + 1, by omega, by omega, aF ⟨.refl _, .refl _, .refl _, .refl _, .refl _, .refl _, aN (by omega), trivial⟩ ⟨rfl, trivial⟩⟩
 have hg2_ := dF0 hg2
 have hfin : smK LN l k = unN d * (rbL d m).length := by rw [EF (by have := dF0 hg2; omega)]; exact hsum2
 have hml : unN d * (rbL d m).length ≤ 1000000000 := by rw [← hfin]; have := hsb k; omega
 refine aY hg2 ?_
 refine aY hg2 ?_
 refine ab (aM rfl hg2 (rfl : _ = AV.p (.c _)))<|ag<|aQ rfl rfl<|a7<|ae hP<|ak rfl<|av hT rfl<|ab (ah cUn) ?_
 refine ak rfl<|ab (aU hT rfl rfl rfl (by rfl)) ?_
 refine ab (bK rfl rfl (c := ((unN d * (rbL d m).length : Nat) : Int)) (IW hml)) ?_
 refine ab (bq rfl rfl)<|ak rfl<|bE (bl rfl rfl (zx hfin)) (ay (rfl : _ = AV.p (.c _))) ?_
 refine ab (aO rfl (zx hfin) (rfl : _ = AV.p (.c _))) ?_
 refine aj rfl<|ag<|am<|E1 rfl rfl ?_
 exact .refl _
theorem lG (D i0 i1 i2 i3 m0 m1 m2 m3 : Nat) (hD : D < 65536) (g0 : i0 < 65536) (g1 : i1 < 65536) (g2 : i2 < 65536) (g3 : i3 < 65536) (k0 : m0 < 256) (k1 : m1 < 256) (k2 : m2 < 256) (k3 : m3 < 256) :
  aI Tryz.prog 9 [.p (.a [.v (.int .u16 (D : Int)), .v (.int .u16 (i0 : Int)), .v (.int .u16 (i1 : Int)), .v (.int .u16 (i2 : Int)), .v (.int .u16 (i3 : Int)), .v (.int .u8 (m0 : Int)), .v (.int .u8 (m1 : Int)), .v (.int .u8 (m2 : Int)), .v (.int .u8 (m3 : Int))])] (B true) := by
 have c0 := Bb _ _ _ _ _ _ _ _ _ hD g0 g1 g2 g3 k0 k1 k2 k3
 have hf := IX D i0 m0
 obtain ⟨fa, fb, fc⟩ := IY (D := D) (i := i0) k0
 generalize mkF D i0 m0 = f at *
 obtain ⟨hD1, hD2⟩ := Dd D
 obtain ⟨s1, s2, s3, s4, s5⟩ := dU D
 have hE := pn D
 have h4 := ve D
 have cS := pD _ _ _ _ _ _ _ _ _ hD g0 g1 g2 g3 k0 k1 k2 k3
 obtain ⟨m, hmE⟩ : ∃ m : Nat, (m : Int) = 1 + (i2 : Int) % 60 := ⟨1 + i2 % 60, by omega⟩
 have hm : 1 ≤ m ∧ m ≤ 65536 := by omega
 have hmw : IntKind.i64.wrap (1 + (i2 : Int) % 60) = (m : Int) := by rw [← hmE]; exact iW0 _ (by omega)
 have w := od (n := szz D) (by omega)
 have h99 := z1 D
 have jn : bp (-szz D) := by unfold bp; omega
 have hng : IntKind.i64.wrap (0 - szz D) = -szz D := by rw [Int.zero_sub]; exact iW0 _ (by omega)
 have cL : aI Tryz.prog 12 [I (-szz D)] (.t [.c (FS (LWp (szz D))), PE 0]) := by
  have h := q9 (-szz D) (by omega)
  rw [hE, if_pos rfl, show - -szz D = szz D by omega] at h
  exact h
 generalize LWp (szz D) = l at *
 generalize szz D = NN at *
 have hdN : -NN = -NN := rfl
 generalize hdd : -NN = d at *
 clear hdN
 have idl : LB d 6 := ⟨by unfold L; omega⟩
 have hdB : -4194304 ≤ d ∧ d < 0 := by omega
 have hl6 := rS w (by omega)
 have hlc : ∀ g ∈ l, Cl d g := fun g hg => ((w.mem g).1 hg).1
 have cR := pH d m hdB h4 hm
 have hrl := mc d m hm.2
 have jfa : LB f.a 6 := ⟨fa⟩
 have jfb : LB f.b 6 := ⟨fb⟩
 have jfc : LB f.c 6 := ⟨fc⟩
 have hdf : dsc f.a f.b f.c = d := hf.disc
 have cDs : aI Tryz.prog 40 [FA f.a f.b f.c] (I d) := by rw [← hdf]; exact eZ f.a f.b f.c lz lz lz
 have cF := j7 f d m fa fb fc hf hdB hm hE
 have hge := ke hf hdB.1 hE
 have cG : ∀ g ∈ l, aI Tryz.prog 50 [FA f.a f.b f.c, FA g.a g.b g.c] (.t [PB (gsB f g), PE 0]) := fun g hg => by
  have hgc := hlc g hg
  have h := JB f g fa fb fc (hl6 g hg).1 (hl6 g hg).2.1 (hl6 g hg).2.2 xw xw
  have h0 : gsE f g = 0 := by
   unfold gsE
   rw [if_neg (by rw [hge]; decide), if_neg (by rw [ke hgc hdB.1 hE]; decide), if_neg (by rw [hdf, hgc.disc]; exact fun x => x rfl)]
  rwa [h0] at h
 have hk2 := fun h => FJ (n := m) (by omega) hf (show (fnd d m f).kind ≠ 2 from h)
 have hkg := fun (h : (fnd d m f).kind = 2) g hg (hp : prS d m g ≠ []) => Bs (n := m) (by omega) hf (hlc g hg) hdB.1 hE h (fun e => hp (by unfold prS; rw [e]; rfl))
 have hpl := fun g => (show (prS d m g).length ≤ 1000000 by rw [sQ]; exact sO hm)
 generalize rbL d m = rl at *
 generalize fnd d m f = an at *
 refine aK Tryz.func9 rfl rfl rfl rfl ?_
 refine ae hP<|ao ai (aJ rfl rfl)<|aj rfl<|ag<|ae hP<|ab (ah mq) ?_
 refine aj rfl<|ag<|aq<|ae hP<|ak rfl<|ab (bv rfl)<|ag<|aQ rfl rfl<|au<|ae hP<|ab (aL hT rfl rfl rfl rfl (cs := [_, _, _, _, _, _, _, _, _]) rfl rfl)<|ab (ah c0) ?_
 refine aE hT rfl<|ab (aT hT rfl rfl rfl rfl rfl (by first | decide | omega)) ?_
 refine aZ hT rfl rfl rfl rfl ?_
 refine ab (bW rfl rfl (by decide) (c := (i2 : Int) % 60) (Int.tmod_eq_emod_of_nonneg (by omega))) ?_
 refine ab (bf hT rfl rfl rfl rfl (iW0 _ (by omega))) ?_
 refine ab (bH rfl rfl (c := (m : Int)) hmw) ?_
 refine ao ai (aA hT rfl rfl)<|aG hT rfl<|aj rfl<|ag<|ae hP<|bA hT rfl rfl rfl rfl rfl rfl<|ab (ah cDs) ?_
 refine ao ai (aA hT rfl rfl)<|aG hT rfl<|ag<|ae hP<|bA hT rfl rfl rfl rfl rfl rfl<|ak rfl<|ab (ah cF) ?_
 refine ao ai (aA hT rfl rfl)<|aG hT rfl<|ag<|ae hP<|av hT rfl<|ab (ah cL) ?_
 refine ab (ay (rfl : _ = AV.t _))<|ab (aD rfl (v := .c _) rfl)<|ab (aD rfl (v := .c _) rfl)<|aj rfl<|aj rfl<|ag<|ae hP<|av hT rfl<|ak rfl<|ab (ah cR) ?_
 refine ab (ay (rfl : _ = AV.t _))<|ab (aD rfl (v := .c _) rfl)<|ab (aD rfl (v := .c _) rfl)<|aj rfl<|aj rfl<|ag<|aq<|ae hP<|aE hT rfl<|aZ hT rfl rfl rfl rfl ?_
 refine ab (bo rfl rfl)<|ak rfl<|aC rfl (ay (rfl : _ = AV.p (.c _))) ?_
 refine aC rfl (bo rfl rfl) ?_
 refine ab (aM rfl rfl (rfl : _ = AV.p (.c _)))<|ak rfl<|aC rfl (ay (rfl : _ = AV.p (.c _))) ?_
 refine aC rfl (bo rfl rfl) ?_
 refine ab (aM rfl rfl (rfl : _ = AV.p (.c _)))<|ag<|aQ rfl rfl<|au<|aq<|ae hP<|aE hT rfl<|aE hT rfl<|aZ hT rfl rfl rfl rfl ?_
 refine ab (bo rfl rfl)<|ag ?_
 refine az rfl (fun hb3 => ?_) (fun hb3 => ?_)
 ·have hb3_ := b8 hb3
  have hkk := b8 hb3
  refine ae hP<|ak rfl<|ab (aU hT rfl rfl rfl (by rfl)) ?_
  refine ab (bO rfl rfl)<|ak rfl<|bE (bl rfl rfl (decide_eq_true (by have := List.length_pos_iff.2 (hk2 hkk); omega))) (ay (rfl : _ = AV.p (.c _))) ?_
  refine ab (aO rfl (decide_eq_true (by have := List.length_pos_iff.2 (hk2 hkk); omega)) (rfl : _ = AV.p (.c _))) ?_
  refine aj rfl<|ag<|am<|E1 rfl rfl ?_
  exact .refl _
 have hb3_ := bU hb3
 have hkk := bU hb3
 refine au<|aq<|ae hP<|aj rfl<|ag<|aB<|bn (ι := Nat) (fun k => stL [(3, .p (.c (.v (.bool true)))), (4, .loc 4 0), (5, Z (m : Int)), (8, .p (.c (FS l))), (10, .p (.c (SL enI rl))), (12, Z (k : Int))] [(4, ⟨false, 1, 46, [zn f.a, zm f.a, zn f.b, zm f.b, zn f.c, zm f.c]⟩)]) (fun k => k ≤ l.length) (fun k => l.length - k) 0 (Nat.zero_le _) (aF ⟨.refl _, .refl _, .refl _, .refl _, .refl _, .refl _, trivial⟩ ⟨rfl, trivial⟩) ?_
 intro k hk
 refine aq<|ae hP<|ak rfl<|ak rfl<|ab (aU hT rfl rfl rfl (by rfl)) ?_
 refine ab (bd rfl rfl)<|ak rfl ?_
 refine a6 (t := 69) rfl (fun hg5 => ?_) (fun hg5 => ?_)
 ·have hg5_ := dT0 hg5
  have hkl := dT0 hg5
  have hme := kw (l := l) (k := k) (d := ⟨0, 0, 0⟩) (by omega)
  have hpk := hpl (l.getD k ⟨0, 0, 0⟩)
  refine aC hg5 (ay (rfl : _ = AV.p (.c _))) ?_
  refine aC hg5 (bd rfl rfl) ?_
  refine ab (aO rfl hg5 (rfl : _ = AV.p (.c _)))<|ag<|aW rfl (decide_eq_true (by omega)) ?_
  refine au<|aq<|aB<|ae hP<|ak rfl<|ak rfl<|ab (eI hT (n := (k : Int)) rfl rfl rfl rfl rfl rfl (by omega)) ?_
  refine ab (bj hT rfl rfl rfl (cs := FC (l.getD k ⟨0, 0, 0⟩)) rfl rfl) ?_
  refine ak rfl<|ab (ah (w5 (l.getD k ⟨0, 0, 0⟩) d m (hl6 _ hme).1 (hl6 _ hme).2.1 (hl6 _ hme).2.2 (hlc _ hme) hdB hm)) ?_
  refine ab (ay (rfl : _ = AV.t _))<|ab (aD rfl (v := .c _) rfl)<|ab (aD rfl (v := .c _) rfl)<|aj rfl<|aj rfl<|ag<|ae hP<|bA hT rfl rfl rfl rfl rfl rfl<|ak rfl<|ak rfl<|ab (eI hT (n := (k : Int)) rfl rfl rfl rfl rfl rfl (by omega)) ?_
  refine ab (bj hT rfl rfl rfl (cs := FC (l.getD k ⟨0, 0, 0⟩)) rfl rfl) ?_
  refine ab (ah (cG _ hme)) ?_
  refine ab (ay (rfl : _ = AV.t _))<|ab (aD rfl (v := .c _) rfl)<|ab (aD rfl (v := .c _) rfl)<|aj rfl<|aj rfl<|ag<|ae hP<|ak rfl<|ab (bo rfl rfl)<|ak rfl<|aC rfl (ay (rfl : _ = AV.p (.c _))) ?_
  refine aC rfl (bo rfl rfl) ?_
  refine ab (aM rfl rfl (rfl : _ = AV.p (.c _)))<|ak rfl<|aC rfl (ay (rfl : _ = AV.p (.c _))) ?_
  refine aC rfl (aU hT rfl rfl rfl (by rfl)) ?_
  refine aC rfl (bO rfl rfl) ?_
  refine aC rfl (ay (rfl : _ = AV.p (.c _))) ?_
  refine a6 (t := 103) rfl (fun hg8 => ?_) (fun hg8 => ?_)
  ·have hg8_ := dT0 hg8
   have hpn : prS d m (l.getD k ⟨0, 0, 0⟩) ≠ [] := List.length_pos_iff.1 (by have := dT0 hg8; omega)
   have hob := hkg hkk _ hme hpn
   have hrz : (((rl.length : Nat) : Int) == 0) = false := beq_eq_false_iff_ne.2 (by have := List.length_pos_iff.2 hob.1; omega)
   refine aC hg8 (ay (rfl : _ = AV.p (.c _))) ?_
   refine aC hg8 (ay (rfl : _ = AV.p (.c _))) ?_
   refine a6 (t := 105) rfl (fun hg9 => ?_) (fun hg9 => ?_)
   ·rw [hob.2] at hg9
    cases hg9
   refine aC hg9 (ay (rfl : _ = AV.p (.c _))) ?_
   refine aC hg9 (aU hT rfl rfl rfl (by rfl)) ?_
   refine aC hg9 (bq rfl rfl) ?_
   refine aC hg8 (aM rfl hg9 (rfl : _ = AV.p (.c _))) ?_
   refine aC rfl (aO rfl hg8 (rfl : _ = AV.p (.c _))) ?_
   refine ab (aM rfl rfl (rfl : _ = AV.p (.c _)))<|ag<|aQ rfl hrz<|au<|aw hP<|ak rfl<|bw rfl rfl ?_
   refine aj rfl<|ag ?_
   refine ⟨k + 1, by omega, by omega, aF ⟨.refl _, .refl _, .refl _, .refl _, .refl _, aN (by omega), trivial⟩ ⟨rfl, trivial⟩⟩
  have hg8_ := dF0 hg8
  refine aY hg8 ?_
  refine aY hg8 ?_
  iterate 3 refine eT ?_
  refine aY hg8 ?_
  refine aC rfl (aM rfl hg8 (rfl : _ = AV.p (.c _))) ?_
  refine ab (aM rfl rfl (rfl : _ = AV.p (.c _)))<|ag<|aQ rfl rfl<|au<|aw hP<|ak rfl<|bw rfl rfl ?_
  refine aj rfl<|ag ?_
  refine ⟨k + 1, by omega, by omega, aF ⟨.refl _, .refl _, .refl _, .refl _, .refl _, aN (by omega), trivial⟩ ⟨rfl, trivial⟩⟩
 have hg5_ := dF0 hg5
 refine aY hg5 ?_
 refine aY hg5 ?_
 refine ab (aM rfl hg5 (rfl : _ = AV.p (.c _)))<|ag<|aQ rfl rfl<|a7<|ae hP<|ak rfl<|aj rfl<|ag<|am<|E1 rfl rfl ?_
 exact .refl _
end
section
open Go Go.AM
end
end Go.Proofs.YthaiejfjnllglaaGreatDoor
