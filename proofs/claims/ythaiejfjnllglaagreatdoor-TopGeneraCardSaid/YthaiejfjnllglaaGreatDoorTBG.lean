import Derived.Test.YthaiejfjnllglaaGreatDoorTBE
import Derived.Test.YthaiejfjnllglaaGreatDoorTBD
import Derived.Test.YthaiejfjnllglaaGreatDoorTBF
import Derived.Test.YthaiejfjnllglaaGreatDoorTBC
set_option maxRecDepth 100000
set_option maxHeartbeats 16000000
namespace Go.Proofs.YthaiejfjnllglaaGreatDoor
section
open Go Go.AM
theorem De (f : Fm) (D : Int) (m : Nat) (hfa : L 6 f.a) (hfb : L 6 f.b) (hfc : L 6 f.c) (hf : Cl D f) (hD : -4194304 ≤ D ∧ D < 0) (hm : 1 ≤ m ∧ m ≤ 65536) (hE : szE D = 0) :
  aG Tryz.prog 17 [FA f.a f.b f.c, Z (m : Int)] (.t [.a (anS (fnd D m f)), PE 0]) := by
 have fa : LB f.a 6 := ⟨hfa⟩
 have fb : LB f.b 6 := ⟨hfb⟩
 have fc : LB f.c 6 := ⟨hfc⟩
 have hdf : dsc f.a f.b f.c = D := hf.disc
 have h0m : 0 < (m : Int) := by omega
 have cRf : aG Tryz.prog 65 [FA f.a f.b f.c, Z (m : Int)] (Z 0) := by
  have h := uA f m hfa hfb hfc
  rwa [Gk hf hm] at h
 have iD : LB D 6 := ⟨by unfold L; omega⟩
 have cDs : aG Tryz.prog 40 [FA f.a f.b f.c] (I D) := by rw [← hdf]; exact fz f.a f.b f.c lz lz lz
 refine aH Tryz.func17 rfl rfl rfl rfl ?_
 refine ab hP<|an ag (aK rfl rfl)<|an ag (az hT rfl rfl)<|an ag (az hT rfl rfl)<|ae<|ak<|ab hP<|bO hT rfl rfl rfl rfl rfl rfl<|aj rfl<|aa (ah cRf) ?_
 refine ai rfl<|ae<|ab hP<|aj rfl<|aa (bh rfl rfl)<|ae<|aI rfl rfl<|ao<|ab hP<|bO hT rfl rfl rfl rfl rfl rfl<|aa (ah cDs) ?_
 refine an ag (az hT rfl rfl)<|aE hT rfl<|ae<|ab hP<|an ag (az hT rfl rfl)<|ae<|ak<|ab hP<|bO hT rfl rfl rfl rfl rfl rfl<|aj rfl<|aa (ah (Az f m)) ?_
 refine ae<|ay<|dH (t := stL [(1, Z (m : Int)), (2, .loc 2 0), (4, .loc 4 0), (5, .loc 5 0), (7, .loc 7 0), (8, .loc 8 0), (26, .fn 132 [[zn f.a, zm f.a, zn f.b, zm f.b, zn f.c, zm f.c], [.v (.int .i64 (m : Int))]])] [(2, ⟨false, 1, 46, [zn f.a, zm f.a, zn f.b, zm f.b, zn f.c, zm f.c]⟩), (4, ⟨false, 1, 42, bsC none⟩), (5, ⟨false, 1, 33, [.v (.int .i64 0)]⟩), (7, ⟨false, 1, 29, [zn D, zm D]⟩), (8, ⟨false, 1, 42, bsC (c8 (prL D m f) 0)⟩)]) (aC ⟨.refl _, .refl _, .refl _, .refl _, .refl _, .refl _, .refl _, trivial⟩ ⟨rfl, rfl, rfl, rfl, Eq.trans rfl (congrArg (fun b => some (⟨false, 1, 42, bsC b⟩ : Blk)) (BC (prL D m f)).symm), trivial⟩) ?_
 refine fH 9 (fun k => bZ [(2, ⟨false, 1, 46, [zn f.a, zm f.a, zn f.b, zm f.b, zn f.c, zm f.c]⟩), (4, ⟨false, 1, 42, bsC none⟩), (5, ⟨false, 1, 33, [.v (.int .i64 0)]⟩), (7, ⟨false, 1, 29, [zn D, zm D]⟩), (8, ⟨false, 1, 42, bsC (c8 (prL D m f) k)⟩)]) (fun _ => True) rfl (wR f D m hfa hfb hfc hdf hD hm) Da rfl rfl rfl trivial (fun k x hx _ => ?_) (fun _ => ?_)
 ·obtain ⟨p, hp, rfl⟩ := Fk hx
  refine au hP<|an ag (az hT rfl rfl)<|aE hT rfl<|ae<|ay<|ab hP<|aa (aJ hT rfl rfl rfl rfl rfl (by first | decide | omega)) ?_
  refine av hT rfl<|aa (aJ hT rfl rfl rfl rfl rfl (by first | decide | omega)) ?_
  refine av hT rfl<|an ag (az hT rfl rfl)<|an ag (az hT rfl rfl)<|aE hT rfl<|aE hT rfl<|ae<|ak<|ab hP<|aM hT rfl<|bn hT rfl rfl rfl rfl ?_
  refine aj rfl ?_
  refine a8 (t := 34) rfl (fun hg1 => ?_) (fun hg1 => ?_)
  ·have hy1 : p.2 < 0 := dT0 hg1
   iterate 3 refine a6 hg1 ?_
   refine eB ?_
   refine eB ?_
   refine a6 hg1 ?_
   refine aa (aQ rfl hg1 (rfl : _ = AV.p (.c _)))<|ae<|aN rfl rfl<|aV ?_
   refine ⟨GW.forget fun x => SubO.own (l := [(2, ⟨false, 1, 46, [zn f.a, zm f.a, zn f.b, zm f.b, zn f.c, zm f.c]⟩), (4, ⟨false, 1, 42, bsC none⟩), (5, ⟨false, 1, 33, [.v (.int .i64 0)]⟩), (7, ⟨false, 1, 29, [zn D, zm D]⟩), (8, ⟨false, 1, 42, bsC (c8 (prL D m f) (k + 1))⟩)]) ⟨rfl, rfl, rfl, rfl, Eq.trans rfl (congrArg (fun b => some (⟨false, 1, 42, bsC b⟩ : Blk)) ((dK hp).trans (o8 (.inl hy1))).symm), trivial⟩ x, trivial⟩
  have hy1 : ¬ p.2 < 0 := dF0 hg1
  refine aD hg1 (aT hT rfl rfl rfl rfl (cs := [_, _]) rfl rfl) ?_
  refine aD hg1 (ah (wS _)) ?_
  refine aD hg1 (aw (rfl : _ = AV.p (.c _))) ?_
  refine a8 (t := 37) rfl (fun hg2 => ?_) (fun hg2 => ?_)
  ·have hy0 : p.2 = 0 := dT0 hg2
   refine aD hg2 (bw hT rfl rfl rfl rfl rfl rfl) ?_
   refine aD hg2 (de hT rfl rfl rfl rfl (by first | rfl | exact jC (by omega))) ?_
   refine aD hg1 (aQ rfl hg2 (rfl : _ = AV.p (.c _))) ?_
   refine aa (aP rfl hg1 (rfl : _ = AV.p (.c _)))<|ae ?_
   refine aA rfl (fun hb3 => ?_) (fun hb3 => ?_)
   ·have hx1 : p.1 < 0 := dT0 hb3
    refine aV ?_
    refine ⟨GW.forget fun x => SubO.own (l := [(2, ⟨false, 1, 46, [zn f.a, zm f.a, zn f.b, zm f.b, zn f.c, zm f.c]⟩), (4, ⟨false, 1, 42, bsC none⟩), (5, ⟨false, 1, 33, [.v (.int .i64 0)]⟩), (7, ⟨false, 1, 29, [zn D, zm D]⟩), (8, ⟨false, 1, 42, bsC (c8 (prL D m f) (k + 1))⟩)]) ⟨rfl, rfl, rfl, rfl, Eq.trans rfl (congrArg (fun b => some (⟨false, 1, 42, bsC b⟩ : Blk)) ((dK hp).trans (o8 (.inr ⟨hy0, hx1⟩))).symm), trivial⟩ x, trivial⟩
   have ho : okP p = true := ug hy1 (fun z => dF0 hb3 z.2)
   refine ao<|ab hP<|av hT rfl<|aM hT rfl<|av hT rfl<|aa (ah (cY _ _)) ?_
   refine ai rfl<|ae<|ab hP<|aM hT rfl<|bn hT rfl rfl rfl rfl ?_
   refine aa (bd rfl rfl)<|aj rfl ?_
   refine a8 (t := 49) rfl (fun hg4 => ?_) (fun hg4 => ?_)
   ·have hg4_ := bT hg4
    have hk := bT hg4
    refine a6 hg4 ?_
    refine a6 hg4 ?_
    refine aa (aQ rfl hg4 (rfl : _ = AV.p (.c _)))<|aj rfl<|a6 rfl ?_
    refine a6 rfl ?_
    refine a6 rfl ?_
    iterate 5 refine eB ?_
    refine a6 rfl ?_
    refine aa (aQ rfl rfl (rfl : _ = AV.p (.c _)))<|ae<|aN rfl rfl<|au hP<|av hT rfl<|av hT rfl<|aa (aS hT rfl rfl rfl (es := [_, _, _, _, _, _, _, _, _]) rfl)<|aE hT rfl<|ae ?_
    refine ⟨GW.forget fun x => SubO.own (l := [(2, ⟨false, 1, 46, [zn f.a, zm f.a, zn f.b, zm f.b, zn f.c, zm f.c]⟩), (4, ⟨false, 1, 42, bsC none⟩), (5, ⟨false, 1, 33, [.v (.int .i64 0)]⟩), (7, ⟨false, 1, 29, [zn D, zm D]⟩), (8, ⟨false, 1, 42, bsC (c8 (prL D m f) (k + 1))⟩)]) ⟨rfl, rfl, rfl, rfl, Eq.trans rfl (congrArg (fun b => some (⟨false, 1, 42, bsC b⟩ : Blk)) ((dK hp).trans (yF ho hk)).symm), trivial⟩ x, trivial⟩
   have hg4_ := bF hg4
   have hk := bF hg4
   refine aD hg4 (aw (rfl : _ = AV.p (.c _))) ?_
   refine aD hg4 (aU rfl rfl) ?_
   refine aa (aP rfl hg4 (rfl : _ = AV.p (.c _)))<|aj rfl ?_
   refine a8 (t := 53) rfl (fun hg5 => ?_) (fun hg5 => ?_)
   ·have hg5_ := dT0 hg5
    have hc := dT0 hg5
    iterate 3 refine a6 hg5 ?_
    iterate 5 refine eB ?_
    refine a6 hg5 ?_
    refine aa (aQ rfl hg5 (rfl : _ = AV.p (.c _)))<|ae<|aN rfl rfl<|au hP<|av hT rfl<|av hT rfl<|aa (aS hT rfl rfl rfl (es := [_, _, _, _, _, _, _, _, _]) rfl)<|aE hT rfl<|ae ?_
    refine ⟨GW.forget fun x => SubO.own (l := [(2, ⟨false, 1, 46, [zn f.a, zm f.a, zn f.b, zm f.b, zn f.c, zm f.c]⟩), (4, ⟨false, 1, 42, bsC none⟩), (5, ⟨false, 1, 33, [.v (.int .i64 0)]⟩), (7, ⟨false, 1, 29, [zn D, zm D]⟩), (8, ⟨false, 1, 42, bsC (c8 (prL D m f) (k + 1))⟩)]) ⟨rfl, rfl, rfl, rfl, Eq.trans rfl (congrArg (fun b => some (⟨false, 1, 42, bsC b⟩ : Blk)) ((dK hp).trans (oA ho hk (.inl (cmpI_lt_zero.1 hc)))).symm), trivial⟩ x, trivial⟩
   have hg5_ := dF0 hg5
   have hc := dF0 hg5
   refine aD hg5 (aw (rfl : _ = AV.p (.c _))) ?_
   refine aD hg5 (bd rfl rfl) ?_
   refine aD hg5 (aw (rfl : _ = AV.p (.c _))) ?_
   refine a8 (t := 56) rfl (fun hg6 => ?_) (fun hg6 => ?_)
   ·have hg6_ := bT hg6
    have hc0 := bT hg6
    refine aD hg6 (aT hT rfl rfl rfl rfl (cs := [_, _]) rfl rfl) ?_
    refine aD hg6 (bw hT rfl rfl rfl rfl rfl rfl) ?_
    refine aD hg6 (aT hT rfl rfl rfl rfl (cs := [_, _]) rfl rfl) ?_
    refine aD hg6 (ah (cY _ _)) ?_
    refine aD hg6 (aU rfl rfl) ?_
    refine aD hg5 (aQ rfl hg6 (rfl : _ = AV.p (.c _))) ?_
    refine aa (aP rfl hg5 (rfl : _ = AV.p (.c _)))<|ae ?_
    refine aA rfl (fun hb7 => ?_) (fun hb7 => ?_)
    ·have hb7_ := dT0 hb7
     have hx2 := dT0 hb7
     refine au hP<|av hT rfl<|av hT rfl<|aa (aS hT rfl rfl rfl (es := [_, _, _, _, _, _, _, _, _]) rfl)<|aE hT rfl<|ae ?_
     refine ⟨GW.forget fun x => SubO.own (l := [(2, ⟨false, 1, 46, [zn f.a, zm f.a, zn f.b, zm f.b, zn f.c, zm f.c]⟩), (4, ⟨false, 1, 42, bsC none⟩), (5, ⟨false, 1, 33, [.v (.int .i64 0)]⟩), (7, ⟨false, 1, 29, [zn D, zm D]⟩), (8, ⟨false, 1, 42, bsC (c8 (prL D m f) (k + 1))⟩)]) ⟨rfl, rfl, rfl, rfl, Eq.trans rfl (congrArg (fun b => some (⟨false, 1, 42, bsC b⟩ : Blk)) ((dK hp).trans (oA ho hk (.inr ⟨cmpI_eq_zero.1 hc0, cmpI_lt_zero.1 hx2⟩))).symm), trivial⟩ x, trivial⟩
    have hb7_ := dF0 hb7
    have hx2 := dF0 hb7
    refine ao ?_
    refine ⟨GW.forget fun x => SubO.own (l := [(2, ⟨false, 1, 46, [zn f.a, zm f.a, zn f.b, zm f.b, zn f.c, zm f.c]⟩), (4, ⟨false, 1, 42, bsC none⟩), (5, ⟨false, 1, 33, [.v (.int .i64 0)]⟩), (7, ⟨false, 1, 29, [zn D, zm D]⟩), (8, ⟨false, 1, 42, bsC (c8 (prL D m f) (k + 1))⟩)]) ⟨rfl, rfl, rfl, rfl, Eq.trans rfl (congrArg (fun b => some (⟨false, 1, 42, bsC b⟩ : Blk)) ((dK hp).trans (oB ho hk (fun z => z.elim (fun z => hc (cmpI_lt_zero.2 z)) fun z => hx2 (cmpI_lt_zero.2 z.2)))).symm), trivial⟩ x, trivial⟩
   have hg6_ := bF hg6
   have hc0 := bF hg6
   iterate 5 refine a6 hg6 ?_
   refine aD hg5 (aP rfl hg6 (rfl : _ = AV.p (.c _))) ?_
   refine aa (aP rfl hg5 (rfl : _ = AV.p (.c _)))<|ae<|aI rfl rfl<|ao ?_
   refine ⟨GW.forget fun x => SubO.own (l := [(2, ⟨false, 1, 46, [zn f.a, zm f.a, zn f.b, zm f.b, zn f.c, zm f.c]⟩), (4, ⟨false, 1, 42, bsC none⟩), (5, ⟨false, 1, 33, [.v (.int .i64 0)]⟩), (7, ⟨false, 1, 29, [zn D, zm D]⟩), (8, ⟨false, 1, 42, bsC (c8 (prL D m f) (k + 1))⟩)]) ⟨rfl, rfl, rfl, rfl, Eq.trans rfl (congrArg (fun b => some (⟨false, 1, 42, bsC b⟩ : Blk)) ((dK hp).trans (oB ho hk (fun z => z.elim (fun z => hc (cmpI_lt_zero.2 z)) fun z => hc0 (cmpI_eq_zero.2 z.1)))).symm), trivial⟩ x, trivial⟩
  have hy0 : ¬ p.2 = 0 := dF0 hg2
  have ho : okP p = true := ug hy1 (fun z => hy0 z.1)
  refine a6 hg2 ?_
  refine a6 hg2 ?_
  refine aD hg1 (aP rfl hg2 (rfl : _ = AV.p (.c _))) ?_
  refine aa (aP rfl hg1 (rfl : _ = AV.p (.c _)))<|ae<|aI rfl rfl<|ao<|ab hP<|av hT rfl<|aM hT rfl<|av hT rfl<|aa (ah (cY _ _)) ?_
  refine ai rfl<|ae<|ab hP<|aM hT rfl<|bn hT rfl rfl rfl rfl ?_
  refine aa (bd rfl rfl)<|aj rfl ?_
  refine a8 (t := 49) rfl (fun hg8 => ?_) (fun hg8 => ?_)
  ·have hg8_ := bT hg8
   have hk := bT hg8
   refine a6 hg8 ?_
   refine a6 hg8 ?_
   refine aa (aQ rfl hg8 (rfl : _ = AV.p (.c _)))<|aj rfl<|a6 rfl ?_
   refine a6 rfl ?_
   refine a6 rfl ?_
   iterate 5 refine eB ?_
   refine a6 rfl ?_
   refine aa (aQ rfl rfl (rfl : _ = AV.p (.c _)))<|ae<|aN rfl rfl<|au hP<|av hT rfl<|av hT rfl<|aa (aS hT rfl rfl rfl (es := [_, _, _, _, _, _, _, _, _]) rfl)<|aE hT rfl<|ae ?_
   refine ⟨GW.forget fun x => SubO.own (l := [(2, ⟨false, 1, 46, [zn f.a, zm f.a, zn f.b, zm f.b, zn f.c, zm f.c]⟩), (4, ⟨false, 1, 42, bsC none⟩), (5, ⟨false, 1, 33, [.v (.int .i64 0)]⟩), (7, ⟨false, 1, 29, [zn D, zm D]⟩), (8, ⟨false, 1, 42, bsC (c8 (prL D m f) (k + 1))⟩)]) ⟨rfl, rfl, rfl, rfl, Eq.trans rfl (congrArg (fun b => some (⟨false, 1, 42, bsC b⟩ : Blk)) ((dK hp).trans (yF ho hk)).symm), trivial⟩ x, trivial⟩
  have hg8_ := bF hg8
  have hk := bF hg8
  refine aD hg8 (aw (rfl : _ = AV.p (.c _))) ?_
  refine aD hg8 (aU rfl rfl) ?_
  refine aa (aP rfl hg8 (rfl : _ = AV.p (.c _)))<|aj rfl ?_
  refine a8 (t := 53) rfl (fun hg9 => ?_) (fun hg9 => ?_)
  ·have hg9_ := dT0 hg9
   have hc := dT0 hg9
   iterate 3 refine a6 hg9 ?_
   iterate 5 refine eB ?_
   refine a6 hg9 ?_
   refine aa (aQ rfl hg9 (rfl : _ = AV.p (.c _)))<|ae<|aN rfl rfl<|au hP<|av hT rfl<|av hT rfl<|aa (aS hT rfl rfl rfl (es := [_, _, _, _, _, _, _, _, _]) rfl)<|aE hT rfl<|ae ?_
   refine ⟨GW.forget fun x => SubO.own (l := [(2, ⟨false, 1, 46, [zn f.a, zm f.a, zn f.b, zm f.b, zn f.c, zm f.c]⟩), (4, ⟨false, 1, 42, bsC none⟩), (5, ⟨false, 1, 33, [.v (.int .i64 0)]⟩), (7, ⟨false, 1, 29, [zn D, zm D]⟩), (8, ⟨false, 1, 42, bsC (c8 (prL D m f) (k + 1))⟩)]) ⟨rfl, rfl, rfl, rfl, Eq.trans rfl (congrArg (fun b => some (⟨false, 1, 42, bsC b⟩ : Blk)) ((dK hp).trans (oA ho hk (.inl (cmpI_lt_zero.1 hc)))).symm), trivial⟩ x, trivial⟩
  have hg9_ := dF0 hg9
  have hc := dF0 hg9
  refine aD hg9 (aw (rfl : _ = AV.p (.c _))) ?_
  refine aD hg9 (bd rfl rfl) ?_
  refine aD hg9 (aw (rfl : _ = AV.p (.c _))) ?_
  refine a8 (t := 56) rfl (fun hg10 => ?_) (fun hg10 => ?_)
  ·have hg10_ := bT hg10
   have hc0 := bT hg10
   refine aD hg10 (aT hT rfl rfl rfl rfl (cs := [_, _]) rfl rfl) ?_
   refine aD hg10 (bw hT rfl rfl rfl rfl rfl rfl) ?_
   refine aD hg10 (aT hT rfl rfl rfl rfl (cs := [_, _]) rfl rfl) ?_
   refine aD hg10 (ah (cY _ _)) ?_
   refine aD hg10 (aU rfl rfl) ?_
   refine aD hg9 (aQ rfl hg10 (rfl : _ = AV.p (.c _))) ?_
   refine aa (aP rfl hg9 (rfl : _ = AV.p (.c _)))<|ae ?_
   refine aA rfl (fun hb11 => ?_) (fun hb11 => ?_)
   ·have hb11_ := dT0 hb11
    have hx2 := dT0 hb11
    refine au hP<|av hT rfl<|av hT rfl<|aa (aS hT rfl rfl rfl (es := [_, _, _, _, _, _, _, _, _]) rfl)<|aE hT rfl<|ae ?_
    refine ⟨GW.forget fun x => SubO.own (l := [(2, ⟨false, 1, 46, [zn f.a, zm f.a, zn f.b, zm f.b, zn f.c, zm f.c]⟩), (4, ⟨false, 1, 42, bsC none⟩), (5, ⟨false, 1, 33, [.v (.int .i64 0)]⟩), (7, ⟨false, 1, 29, [zn D, zm D]⟩), (8, ⟨false, 1, 42, bsC (c8 (prL D m f) (k + 1))⟩)]) ⟨rfl, rfl, rfl, rfl, Eq.trans rfl (congrArg (fun b => some (⟨false, 1, 42, bsC b⟩ : Blk)) ((dK hp).trans (oA ho hk (.inr ⟨cmpI_eq_zero.1 hc0, cmpI_lt_zero.1 hx2⟩))).symm), trivial⟩ x, trivial⟩
   have hb11_ := dF0 hb11
   have hx2 := dF0 hb11
   refine ao ?_
   refine ⟨GW.forget fun x => SubO.own (l := [(2, ⟨false, 1, 46, [zn f.a, zm f.a, zn f.b, zm f.b, zn f.c, zm f.c]⟩), (4, ⟨false, 1, 42, bsC none⟩), (5, ⟨false, 1, 33, [.v (.int .i64 0)]⟩), (7, ⟨false, 1, 29, [zn D, zm D]⟩), (8, ⟨false, 1, 42, bsC (c8 (prL D m f) (k + 1))⟩)]) ⟨rfl, rfl, rfl, rfl, Eq.trans rfl (congrArg (fun b => some (⟨false, 1, 42, bsC b⟩ : Blk)) ((dK hp).trans (oB ho hk (fun z => z.elim (fun z => hc (cmpI_lt_zero.2 z)) fun z => hx2 (cmpI_lt_zero.2 z.2)))).symm), trivial⟩ x, trivial⟩
  have hg10_ := bF hg10
  have hc0 := bF hg10
  iterate 5 refine a6 hg10 ?_
  refine aD hg9 (aP rfl hg10 (rfl : _ = AV.p (.c _))) ?_
  refine aa (aP rfl hg9 (rfl : _ = AV.p (.c _)))<|ae<|aI rfl rfl<|ao ?_
  refine ⟨GW.forget fun x => SubO.own (l := [(2, ⟨false, 1, 46, [zn f.a, zm f.a, zn f.b, zm f.b, zn f.c, zm f.c]⟩), (4, ⟨false, 1, 42, bsC none⟩), (5, ⟨false, 1, 33, [.v (.int .i64 0)]⟩), (7, ⟨false, 1, 29, [zn D, zm D]⟩), (8, ⟨false, 1, 42, bsC (c8 (prL D m f) (k + 1))⟩)]) ⟨rfl, rfl, rfl, rfl, Eq.trans rfl (congrArg (fun b => some (⟨false, 1, 42, bsC b⟩ : Blk)) ((dK hp).trans (oB ho hk (fun z => z.elim (fun z => hc (cmpI_lt_zero.2 z)) fun z => hc0 (cmpI_eq_zero.2 z.1)))).symm), trivial⟩ x, trivial⟩
 refine dH (t := stL [(1, Z (m : Int)), (2, .loc 2 0), (4, .loc 4 0), (5, .loc 5 0), (7, .loc 7 0), (8, .loc 8 0)] [(2, ⟨false, 1, 46, [zn f.a, zm f.a, zn f.b, zm f.b, zn f.c, zm f.c]⟩), (4, ⟨false, 1, 42, bsC none⟩), (5, ⟨false, 1, 33, [.v (.int .i64 0)]⟩), (7, ⟨false, 1, 29, [zn D, zm D]⟩), (8, ⟨false, 1, 42, bsC (c7 (prL D m f))⟩)]) (aC ⟨.refl _, .refl _, .refl _, .refl _, .refl _, .refl _, trivial⟩ ⟨rfl, rfl, rfl, rfl, Eq.trans rfl (congrArg (fun b => some (⟨false, 1, 42, bsC b⟩ : Blk)) (vw rfl)), trivial⟩) ?_
 refine ak<|ab hP<|aM hT rfl<|bn hT rfl rfl rfl rfl ?_
 refine aa (bK rfl rfl)<|ae ?_
 refine aA rfl (fun hb12 => ?_) (fun hb12 => ?_)
 ·have hb12_ := dT0 hb12
  have hkb := dT0 hb12
  refine ab hP<|aa (aT hT rfl rfl rfl rfl (cs := [_, _, _, _, _, _, _, _, _]) rfl rfl)<|aE hT rfl<|aE hT rfl<|ae<|am ?_
  refine bS rfl (.inr rfl) (aO hT rfl rfl rfl rfl (cs := [_, _, _, _, _, _, _, _, _]) rfl rfl) (dR hT rfl rfl rfl rfl rfl) ?_ bv
  exact aB (congrArg (fun d => AV.t [.a d, PE 0]) (G5 hkb))
 have hb12_ := dF0 hb12
 have h0b := G7 (dF0 hb12)
 refine ao<|ak<|ab hP<|aj rfl<|an ag (Eff.callG (Ay m)) ?_
 refine ae<|ay<|dH (t := stL [(72, .fnl 135 72), (1, Z (m : Int)), (2, .loc 2 0), (4, .loc 4 0), (5, .loc 5 0), (7, .loc 7 0)] ((72, ⟨false, 1, 3, [.v (.int .i64 ((m : Nat) : Int))]⟩) :: [(2, ⟨false, 1, 46, [zn f.a, zm f.a, zn f.b, zm f.b, zn f.c, zm f.c]⟩), (4, ⟨false, 1, 42, bsC none⟩), (5, ⟨false, 1, 33, [.v (.int .i64 0)]⟩), (7, ⟨false, 1, 29, [zn D, zm D]⟩)])) (aC ⟨.refl _, .refl _, .refl _, .refl _, .refl _, .refl _, trivial⟩ ⟨rfl, rfl, rfl, rfl, rfl, trivial⟩) ?_
 refine tT (l := [(1, Z (m : Int)), (2, .loc 2 0), (4, .loc 4 0), (5, .loc 5 0), (7, .loc 7 0)]) (o := bZ ((72, ⟨false, 1, 3, [.v (.int .i64 ((m : Nat) : Int))]⟩) :: [(2, ⟨false, 1, 46, [zn f.a, zm f.a, zn f.b, zm f.b, zn f.c, zm f.c]⟩), (4, ⟨false, 1, 42, bsC none⟩), (5, ⟨false, 1, 33, [.v (.int .i64 0)]⟩), (7, ⟨false, 1, 29, [zn D, zm D]⟩)])) 73 (fun _ => bZ [(2, ⟨false, 1, 46, [zn f.a, zm f.a, zn f.b, zm f.b, zn f.c, zm f.c]⟩), (4, ⟨false, 1, 42, bsC none⟩), (5, ⟨false, 1, 33, [.v (.int .i64 0)]⟩), (7, ⟨false, 1, 29, [zn D, zm D]⟩)]) (PtR D m) (wQ m hm) rfl rfl rfl rfl (wU rfl) C5 rfl rfl rfl PtR.start (fun k x hx hI => ?_) (fun hI => ?_)
 ·obtain ⟨q, hq, rfl⟩ := Fj hx
  refine au hP<|ai rfl<|ae<|ay<|ab hP<|av hT rfl<|aj rfl<|aa (ah (uD D q hD (C7 hm hq))) ?_
  refine ae ?_
  refine aA rfl (fun hb13 => ?_) (fun hb13 => ?_)
  ·have hrq := dT0 hb13
   refine ab hP<|aj rfl<|aa (ah (ew (q : Int) (by have := C7 hm hq; unfold a7; omega))) ?_
   refine aa (aS hT rfl rfl rfl (es := [_, _, _, _, _, _, _, _, _]) rfl)<|aE hT rfl<|aE hT rfl<|ae<|am ?_
   refine ⟨_, GW.forget fun _ => .inl rfl, ?_⟩
   refine bS rfl (.inr rfl) (aO hT rfl rfl rfl rfl (cs := [_, _, _, _, _, _, _, _, _]) rfl rfl) (dR hT rfl rfl rfl rfl rfl) ?_ bv
   exact aB (congrArg (fun d => AV.t [.a d, PE 0]) (G4 h0b hI hq hrq))
  have hrq := dF0 hb13
  refine ao ?_
  exact ⟨GW.forget fun x => SubO.own (l := [(2, ⟨false, 1, 46, [zn f.a, zm f.a, zn f.b, zm f.b, zn f.c, zm f.c]⟩), (4, ⟨false, 1, 42, bsC none⟩), (5, ⟨false, 1, 33, [.v (.int .i64 0)]⟩), (7, ⟨false, 1, 29, [zn D, zm D]⟩)]) ⟨rfl, rfl, rfl, rfl, trivial⟩ x, hI.next hq hrq⟩
 have h1b := hI.done (C8 rfl)
 refine ak<|ab hP<|bO hT rfl rfl rfl rfl rfl rfl<|aj rfl<|aa (ah (uE f m)) ?_
 refine ae<|ay<|dH (t := stL [(1, Z (m : Int)), (2, .loc 2 0), (4, .loc 4 0), (5, .loc 5 0), (7, .loc 7 0), (82, .fn 137 [[zn f.a, zm f.a, zn f.b, zm f.b, zn f.c, zm f.c], [.v (.int .i64 (m : Int))]])] [(2, ⟨false, 1, 46, [zn f.a, zm f.a, zn f.b, zm f.b, zn f.c, zm f.c]⟩), (4, ⟨false, 1, 42, bsC none⟩), (5, ⟨false, 1, 33, [.v (.int .i64 0)]⟩), (7, ⟨false, 1, 29, [zn D, zm D]⟩)]) (aC ⟨.refl _, .refl _, .refl _, .refl _, .refl _, .refl _, trivial⟩ ⟨rfl, rfl, rfl, rfl, trivial⟩) ?_
 refine fH 83 (fun _ => bZ [(2, ⟨false, 1, 46, [zn f.a, zm f.a, zn f.b, zm f.b, zn f.c, zm f.c]⟩), (4, ⟨false, 1, 42, bsC none⟩), (5, ⟨false, 1, 33, [.v (.int .i64 0)]⟩), (7, ⟨false, 1, 29, [zn D, zm D]⟩)]) (fun k => k = 0) rfl (s8 f D m hfa hfb hfc hf hD hm hE) En rfl rfl rfl rfl (fun k x hx hk => ?_) (fun hk => ?_)
 ·obtain ⟨c, hc, rfl⟩ := Gm hx
  refine au hP<|ai rfl<|ae<|ay<|ab hP<|aj rfl<|aa (ah (ew c (by have := Hf hD hc; unfold a7; omega))) ?_
  refine aa (aS hT rfl rfl rfl (es := [_, _, _, _, _, _, _, _, _]) rfl)<|aE hT rfl<|aE hT rfl<|ae<|am ?_
  refine ⟨_, GW.forget fun _ => .inl rfl, ?_⟩
  refine bS rfl (.inr rfl) (aO hT rfl rfl rfl rfl (cs := [_, _, _, _, _, _, _, _, _]) rfl rfl) (dR hT rfl rfl rfl rfl rfl) ?_ bv
  exact aB (congrArg (fun d => AV.t [.a d, PE 0]) (G1 h0b h1b hc hk))
 refine ab hP<|av hT rfl<|aj rfl<|aa (ah (uB D m hD hm)) ?_
 refine av hT rfl<|aj rfl<|aa (ah (uC D m hD hm)) ?_
 refine aa (aS hT rfl rfl rfl (es := [_, _, _, _, _, _, _, _, _]) rfl)<|aE hT rfl<|aE hT rfl<|ae<|am ?_
 refine bS rfl (.inr rfl) (aO hT rfl rfl rfl rfl (cs := [_, _, _, _, _, _, _, _, _]) rfl rfl) (dR hT rfl rfl rfl rfl rfl) ?_ bv
 exact aB (congrArg (fun d => AV.t [.a d, PE 0]) (G0 h0b h1b hk))
end
section
open Go Go.AM
end
section
open Go Go.AM
end
section
open Go Go.AM
end
section
open Go Go.AM
end
section
open Go Go.AM
end
section
open Go Go.AM
end
section
open Go Go.AM
end
section
open Go Go.AM
end
section
open Go Go.AM
theorem vq (d : Int) (hd : -9223372036854775807 ≤ d ∧ d ≤ 9223372036854775807) :
  aG Tryz.prog 122 [I d] (.t [PE (szN d), PE (szE d)]) := by
 have id0 : LB d 6 := ⟨by unfold L; omega⟩
 have hm0 := Int.emod_nonneg d (show (4 : Int) ≠ 0 by omega)
 have hm1 := Int.emod_lt_of_pos d (show (0 : Int) < 4 by omega)
 refine aH Tryz.func122 rfl rfl rfl rfl ?_
 refine ab hP<|an ag (aK rfl rfl)<|ai rfl<|ai rfl<|ae<|ab hP<|av hT rfl<|aa (ah (iK _ (by first | assumption | decide))) ?_
 refine aa (ah (cU _ _ lz lz (by decide))) ?_
 refine aa (aw (rfl : _ = AV.t _))<|aa (aq rfl (v := .a _) rfl)<|aa (aq rfl (v := .a _) rfl)<|aa (aq rfl (v := .c _) rfl)<|an ag (az hT rfl rfl)<|an ag (az hT rfl rfl)<|aE hT rfl<|aE hT rfl<|ai rfl<|ae<|ak<|ab hP<|av hT rfl<|aa (ah (cn _)) ?_
 refine aa (dL rfl rfl)<|aj rfl ?_
 refine a8 (t := 19) rfl (fun hg1 => ?_) (fun hg1 => ?_)
 ·have hg1_ := dT0 hg1
  iterate 4 refine a6 hg1 ?_
  refine aa (aQ rfl hg1 (rfl : _ = AV.p (.c _)))<|ae<|aN rfl rfl<|ab hP<|ai rfl<|ai rfl<|ae<|am<|E11 rfl rfl rfl ?_
  exact aB (CF (.inl (sgn_ge_iff.1 hg1_)))
 have hg1_ := dF0 hg1
 refine aD hg1 (aT hT rfl rfl rfl rfl (cs := [_, _]) rfl rfl) ?_
 refine aD hg1 (ah (iK _ (by first | assumption | decide))) ?_
 refine aD hg1 (ah (cY _ _)) ?_
 refine aD hg1 (bK rfl rfl) ?_
 refine aa (aP rfl hg1 (rfl : _ = AV.p (.c _)))<|ae ?_
 refine aA rfl (fun hb2 => ?_) (fun hb2 => ?_)
 ·have hb2_ := dT0 hb2
  refine ab hP<|ai rfl<|ai rfl<|ae<|am<|E11 rfl rfl rfl ?_
  exact aB (CF (.inr (cmpI_gt_zero.1 hb2_)))
 have hb2_ := dF0 hb2
 refine ao<|ab hP<|av hT rfl<|aa (ah (fQ _)) ?_
 refine aa (ah (fR _ (by omega) (by omega))) ?_
 refine aa (aw (rfl : _ = AV.t _))<|aa (aq rfl (v := .c _) rfl)<|aa (aq rfl (v := .c _) rfl)<|ai rfl<|ai rfl<|ae<|ak<|ab hP<|aj rfl<|aa (bM rfl)<|aj rfl<|aD rfl (aw (rfl : _ = AV.p (.c _))) ?_
 refine aD rfl (bK rfl rfl) ?_
 refine aa (aP rfl rfl (rfl : _ = AV.p (.c _)))<|ae ?_
 refine aA rfl (fun hb4 => ?_) (fun hb4 => ?_)
 ·have hb4_ := dT0 hb4
  refine ab hP<|ai rfl<|ai rfl<|ae<|am<|E11 rfl rfl rfl ?_
  exact aB (Gz (fun x => x.elim (fun h => hg1_ (sgn_ge_iff.2 h)) (fun h => hb2_ (cmpI_gt_zero.2 h))) hb4_)
 have hb4_ := dF0 hb4
 refine ao<|ab hP<|aj rfl<|ai rfl<|ai rfl<|ae<|am<|E11 rfl rfl rfl ?_
 exact aB (GA (fun x => x.elim (fun h => hg1_ (sgn_ge_iff.2 h)) (fun h => hb2_ (cmpI_gt_zero.2 h))) hb4_)
theorem lF (N : Int) :
  aG Tryz.prog 123 [Z N] (.fn 176 [[.v (.int .i64 N)]]) := by
 refine iJ Tryz.func123 (by kernel_rfl) rfl rfl (bL0 rfl) rfl ?_
 refine ab hP<|an ag (aK rfl rfl)<|ai rfl<|ae<|cE (t := 1) rfl rfl ?_
 refine ab hP<|aa (lB rfl)<|aa (bf (rfl : _ = AV.fn _ _))<|ae<|am ?_
 exact ⟨.inr rfl, 2, rfl, rfl⟩
theorem Ed (d : Int) (hd : -9223372036854775807 ≤ d ∧ d ≤ 9223372036854775807) (W : FuncId) (p : Fm → Bool) (hW : ∀ a b c : Int, (0 < a ∧ a ≤ 2000) → (-2000 ≤ b ∧ b ≤ 2000) → (0 < c ∧ c ≤ 10000000) → aG Tryz.prog W [FA a b c] (B (p ⟨a, b, c⟩))) :
  aG Tryz.prog 52 [I d, .p (.c (.v (.func (.func W) #[] #[])))] (.t [.c (FS (if szE d = 0 then LW (-d) p else [])), PE (szE d)]) := by
 refine aH Tryz.func52 rfl rfl rfl rfl ?_
 refine ab hP<|an ag (aK rfl rfl)<|an ag (aK rfl rfl)<|ai rfl<|ai rfl<|ae<|ab hP<|av hT rfl<|aa (ah (vq _ (by omega))) ?_
 refine aa (aw (rfl : _ = AV.t _))<|aa (aq rfl (v := .c _) rfl)<|aa (aq rfl (v := .c _) rfl)<|ai rfl<|ai rfl<|ae<|ak<|ab hP<|aj rfl<|aa (bh rfl rfl)<|ae ?_
 refine aA rfl (fun hb1 => ?_) (fun hb1 => ?_)
 ·have hb1_ := b9 hb1
  have hz : szE d ≠ 0 := hb1_
  refine ab hP<|aj rfl<|ai rfl<|ai rfl<|ae<|am<|E11 rfl rfl rfl ?_
  exact Sub.tup ⟨by rw [if_neg hz]; exact DSub.nil_sl, DSub.refl _, trivial⟩
 have hb1_ := bY hb1
 obtain ⟨hsn, hN1, hN2, hN3⟩ := oz (show szE d = 0 from hb1_)
 rw [← hsn] at hN1 hN2
 generalize hNd : szN d = N at hN1 hN2 ⊢
 refine ao<|ab hP<|an ag (iA hT rfl rfl)<|ae<|ak<|ab hP<|aj rfl<|aa (ah (lF _)) ?_
 refine ae<|ay<|jY 8 1000 6 46 rfl rfl rfl rfl ?_
 refine dH (t := stL [(3, .loc 3 0), (8, .loc 8 0), (20, .fn 176 [[.v (.int .i64 N)]])] [(3, ⟨false, 1, 108, [.v (.func (.func W) #[] #[])]⟩), (8, ⟨false, 1002, 32, [.sl (LK N p 0).length []]⟩), (1000, FB 46 (LK N p 0))]) (aC ⟨.refl _, .refl _, .refl _, trivial⟩ ⟨rfl, rfl, rfl, trivial⟩) ?_
 refine kL 9 (fun k => bZ [(3, ⟨false, 1, 108, [.v (.func (.func W) #[] #[])]⟩), (8, ⟨false, 1002, 32, [.sl (LK N p k).length []]⟩), (1000, FB 46 (LK N p k))]) rfl (kE N (by omega) hN2) (rq N) rfl rfl rfl (fun k x hx => ?_) ?_
 ·obtain ⟨t, ht, rfl⟩ := ru hx
  obtain ⟨⟨b1, b2⟩, ⟨b3, b4⟩, b5, b6⟩ := nF (List.mem_of_getElem? ht) hN2
  have ja : a7 t.a := by unfold a7; omega
  have jb : a7 t.b := by unfold a7; omega
  have jc : a7 t.c := by unfold a7; omega
  refine au hP<|an ag (az hT rfl rfl)<|aE hT rfl<|ae<|ay<|ab hP<|aa (aT hT rfl rfl rfl rfl (cs := [_, _, _]) rfl rfl)<|aa (ah (Ee _ _ _ (by first | assumption | decide) (by first | assumption | decide) (by first | assumption | decide))) ?_
  refine an ag (az hT rfl rfl)<|aE hT rfl<|ae<|ab hP<|bn hT rfl rfl rfl rfl ?_
  refine bO hT rfl rfl rfl rfl rfl rfl<|aa (Eff.callF rfl (hW _ _ _ ⟨b1, b2⟩ ⟨b3, b4⟩ ⟨b5, b6⟩)) ?_
  refine ae ?_
  refine aA rfl (fun hb2 => ?_) (fun hb2 => ?_)
  ·refine au hP<|aa (fq hT rfl rfl rfl rfl rfl)<|bO hT rfl rfl rfl rfl rfl rfl<|aa (aW hT rfl rfl rfl (es := [_, _, _, _, _, _]) rfl rfl rfl)<|RK.app ag (mp hT rfl rfl rfl rfl rfl rfl rfl (f := t.fm) rfl (by have := EA N p k; omega) (by decide)) ?_
   refine dj ag (jI hT rfl rfl rfl rfl rfl rfl rfl (iM _).symm (Nat.zero_lt_succ 5)) ?_
   refine ae ?_
   refine ⟨rfl, GW.rnL 8 30 1000 (LK N p k ++ [t.fm]).length rfl rfl rfl (iM _).symm (Nat.zero_lt_succ 5) rfl rfl rfl rfl ?_⟩
   show ∀ m, bZ _ m = _ ∨ bZ _ m = none
   rw [Ez ht hb2]
   exact SubO.own ⟨rfl, rfl, rfl, trivial⟩
  refine ao ?_
  refine ⟨rfl, GW.forget ?_⟩
  show ∀ m, bZ _ m = _ ∨ bZ _ m = none
  rw [Gs ht hb2]
  exact SubO.own ⟨rfl, rfl, rfl, trivial⟩
 refine ab hP<|aa (fq hT rfl rfl rfl rfl rfl)<|aa (bf (rfl : _ = AV.vec _))<|ai rfl<|ae<|lK (t := 4) rfl rfl ?_
 refine am<|E11 rfl rfl rfl ?_
 exact aB (by rw [EB, if_pos (show szE d = 0 from hb1_), show szE d = 0 from hb1_, ← hNd, hsn])
end
section
open Go Go.AM
theorem vr (d : Int) (hd : -9223372036854775807 ≤ d ∧ d ≤ 9223372036854775807) :
  aG Tryz.prog 12 [I d] (.t [.c (FS (if szE d = 0 then LW (-d) (fun f => prim f.a f.b f.c) else [])), PE (szE d)]) := by
 refine aH Tryz.func12 rfl rfl rfl rfl ?_
 refine ab hP<|an ag (aK rfl rfl)<|ai rfl<|ai rfl<|ae<|ab hP<|av hT rfl<|aa (ah (Ed _ (by omega) 53 (fun f => prim f.a f.b f.c) (fun a b c h1 h2 h3 => fX a b c (mK (by omega)) (mK (by omega)) (mK (by omega))))) ?_
 refine aa (aq rfl (v := .c _) rfl)<|aa (aq rfl (v := .c _) rfl)<|ai rfl<|ai rfl<|ae<|am<|E11 rfl rfl rfl ?_
 exact .refl _
theorem Bx (N : Int) (h1 : 0 ≤ N) (hN2 : N ≤ 4194304) :
  aG Tryz.prog 141 [Z N] (Z (cls N)) := by
 refine aH Tryz.func141 rfl rfl rfl rfl ?_
 refine ab hP<|ai rfl<|ae<|ab hP<|an ag (az hT rfl rfl)<|aE hT rfl<|ae<|ak<|ab hP<|aj rfl<|aa (ah (lF _)) ?_
 refine ae<|ay<|dH (t := stL [(3, .loc 3 0), (6, .fn 176 [[.v (.int .i64 N)]])] [(3, ⟨false, 1, 2, [.v (.int .i64 (clK N 0))]⟩)]) (aC ⟨.refl _, .refl _, trivial⟩ ⟨rfl, trivial⟩) ?_
 refine kL 4 (fun k => bZ [(3, ⟨false, 1, 2, [.v (.int .i64 (clK N k))]⟩)]) rfl (kE N (by omega) hN2) (rq N) rfl rfl rfl (fun k x hx => ?_) ?_
 ·obtain ⟨t, ht, rfl⟩ := ru hx
  obtain ⟨⟨b1, b2⟩, ⟨b3, b4⟩, b5, b6⟩ := nF (List.mem_of_getElem? ht) hN2
  have ja : a7 t.a := by unfold a7; omega
  have jb : a7 t.b := by unfold a7; omega
  have jc : a7 t.c := by unfold a7; omega
  have hck := F9 N k
  have hgb := FW (a := t.a) (b := t.b) ⟨b1, b2⟩
  refine au hP<|an ag (az hT rfl rfl)<|aE hT rfl<|ae<|ay<|ab hP<|aM hT rfl<|bn hT rfl rfl rfl rfl ?_
  refine aM hT rfl<|bn hT rfl rfl rfl rfl ?_
  refine aa (ah (yZ _ _ (by omega) (by omega))) ?_
  refine aM hT rfl<|bn hT rfl rfl rfl rfl ?_
  refine aa (ah (yZ _ _ (by omega) (by omega))) ?_
  refine aa (bd rfl rfl)<|ae ?_
  refine aA rfl (fun hb1 => ?_) (fun hb1 => ?_)
  ·have hb1_ := bT hb1
   refine au hP<|bn hT rfl rfl rfl rfl ?_
   refine bp rfl rfl ?_
   refine aE hT rfl<|ae ?_
   refine ⟨rfl, GW.forget ?_⟩
   show ∀ m, bZ _ m = _ ∨ bZ _ m = none
   rw [Bu ht (Fq hb1)]
   exact SubO.own ⟨rfl, trivial⟩
  have hb1_ := bF hb1
  refine ao ?_
  refine ⟨rfl, GW.forget ?_⟩
  show ∀ m, bZ _ m = _ ∨ bZ _ m = none
  rw [D8 ht (Fs hb1)]
  exact SubO.own ⟨rfl, trivial⟩
 refine ab hP<|bn hT rfl rfl rfl rfl ?_
 refine ai rfl<|ae<|am<|E1 rfl rfl ?_
 exact aL (Bv N)
theorem By (d : Int) (hd : -9223372036854775807 ≤ d ∧ d ≤ 9223372036854775807) :
  aG Tryz.prog 73 [I d] (.t [PE (clE d), PE (szE d)]) := by
 refine aH Tryz.func73 rfl rfl rfl rfl ?_
 refine ab hP<|an ag (aK rfl rfl)<|ai rfl<|ai rfl<|ae<|ab hP<|av hT rfl<|aa (ah (vq _ (by omega))) ?_
 refine aa (aw (rfl : _ = AV.t _))<|aa (aq rfl (v := .c _) rfl)<|aa (aq rfl (v := .c _) rfl)<|ai rfl<|ai rfl<|ae<|ak<|ab hP<|aj rfl<|aa (bh rfl rfl)<|ae ?_
 refine aA rfl (fun hb1 => ?_) (fun hb1 => ?_)
 ·have hb1_ := b9 hb1
  refine ab hP<|aj rfl<|ai rfl<|ai rfl<|ae<|am<|E11 rfl rfl rfl ?_
  exact aB (by unfold clE; rw [if_neg hb1_])
 have hb1_ := bY hb1
 obtain ⟨hsn, hN1, hN2, hN3⟩ := oz (show szE d = 0 from hb1_)
 refine ao<|ab hP<|aj rfl<|aa (ah (Bx _ (by omega) (by omega))) ?_
 refine ai rfl<|ai rfl<|ae<|am<|E11 rfl rfl rfl ?_
 exact aB (by unfold clE; rw [if_pos (show szE d = 0 from hb1_), show szE d = 0 from hb1_, hsn])
end
section
open Go Go.AM
end
section
open Go Go.AM
theorem oq (l m : List Int) (hl : (l.length : Int) ≤ 1000000000) :
  aG Tryz.prog 20 [.p (.c (IS l)), .p (.c (IS m))] (B (decide (l = m))) := by
 refine aH Tryz.func20 rfl rfl rfl rfl ?_
 refine ab hP<|ai rfl<|ae<|ak<|ab hP<|aj rfl<|aa (aZ hT rfl rfl rfl (by rfl)) ?_
 refine aj rfl<|aa (aZ hT rfl rfl rfl (by rfl)) ?_
 refine aa (bh rfl rfl)<|ae ?_
 refine aA rfl (fun hb1 => ?_) (fun hb1 => ?_)
 ·have hb1_ := b9 hb1
  refine ab hP<|ai rfl<|ae<|am<|E1 rfl rfl ?_
  exact bU (decide_eq_false (fun e => hb1_ (by rw [e]))).symm
 have hb1_ := bY hb1
 have hlen : l.length = m.length := by have := hb1_; omega
 refine ao<|ak<|ab hP<|ai rfl<|ae<|ay<|bj (ι := Nat) (fun k => stL [(0, .p (.c (IS l))), (1, .p (.c (IS m))), (5, Z (k : Int))] []) (fun k => SmG l m k) (fun k => l.length - k) 0 (SmG.start hlen) (aC ⟨.refl _, .refl _, .refl _, trivial⟩ trivial) ?_
 intro k hI
 have hk := hI.le
 refine ak<|ab hP<|aj rfl<|aj rfl<|aa (aZ hT rfl rfl rfl (by rfl)) ?_
 refine aa (aU rfl rfl)<|ae ?_
 refine aA rfl (fun hb2 => ?_) (fun hb2 => ?_)
 ·have hb2_ := dT0 hb2
  refine ao<|ak<|ay<|ab hP<|aj rfl<|aj rfl<|aa (gj hT (n := (k : Int)) (l := l) rfl rfl rfl rfl rfl rfl (by omega)) ?_
  refine aa (bJ hT rfl rfl rfl (dv := .v (.int .i64 (l.getD k 0))) rfl) ?_
  refine aj rfl<|aj rfl<|aa (gj hT (n := (k : Int)) (l := m) rfl rfl rfl rfl rfl rfl (by omega)) ?_
  refine aa (bJ hT rfl rfl rfl (dv := .v (.int .i64 (m.getD k 0))) rfl) ?_
  refine aa (bh rfl rfl)<|ae ?_
  refine aA rfl (fun hb3 => ?_) (fun hb3 => ?_)
  ·have hb3_ := b9 hb3
   refine ab hP<|ai rfl<|ae<|am<|E1 rfl rfl ?_
   exact bU (decide_eq_false (SmG.no (d := 0) (b9 hb3))).symm
  have hb3_ := bY hb3
  refine ao<|au hP<|aj rfl<|bp rfl rfl ?_
  refine ai rfl<|ae ?_
  refine ⟨k + 1, hI.next (d := 0) (by omega) (bY hb3), by omega, aC ⟨.refl _, .refl _, aL (by omega), trivial⟩ trivial⟩
 have hb2_ := dF0 hb2
 refine aV<|ab hP<|ai rfl<|ae<|am<|E1 rfl rfl ?_
 exact bU (decide_eq_true (hI.yes (by omega))).symm
theorem lw  :
  aG Tryz.prog 18 [] (B true) := by
 have cC : aG Tryz.prog 73 [I (-23)] (.t [PE 3, PE 0]) := by
  have h := By (-23) (by decide)
  rw [top_cl.1, top_cl.2] at h
  exact h
 refine aH Tryz.func18 rfl rfl rfl rfl ?_
 refine ab hP<|ai rfl<|ae<|ab hP<|aa (ah (pA (-23) (by decide))) ?_
 refine aa (ah cC) ?_
 refine aa (aw (rfl : _ = AV.t _))<|aa (aq rfl (v := .c _) rfl)<|aa (aq rfl (v := .c _) rfl)<|ai rfl<|ai rfl<|ae<|ab hP<|aj rfl<|aa (bd rfl rfl)<|aj rfl<|aD rfl (aw (rfl : _ = AV.p (.c _))) ?_
 refine aD rfl (bd rfl rfl) ?_
 refine aa (aQ rfl rfl (rfl : _ = AV.p (.c _)))<|ai rfl<|ae<|am<|E1 rfl rfl ?_
 exact bU rfl
theorem qT (D i0 i1 i2 i3 m0 m1 m2 m3 : Nat) (hD : D < 65536) (g0 : i0 < 65536) (g1 : i1 < 65536) (g2 : i2 < 65536) (g3 : i3 < 65536) (k0 : m0 < 256) (k1 : m1 < 256) (k2 : m2 < 256) (k3 : m3 < 256) (q : Nat) (hq : q < 256) :
  aG Tryz.prog 3 [.p (.a [.v (.int .u16 (D : Int)), .v (.int .u16 (i0 : Int)), .v (.int .u16 (i1 : Int)), .v (.int .u16 (i2 : Int)), .v (.int .u16 (i3 : Int)), .v (.int .u8 (m0 : Int)), .v (.int .u8 (m1 : Int)), .v (.int .u8 (m2 : Int)), .v (.int .u8 (m3 : Int))]), .p (.c (.v (.int .u8 (q : Int))))] (B true) := by
 obtain ⟨hD1, hD2⟩ := EK D
 obtain ⟨s1, s2, s3, s4, s5⟩ := dN D
 have hE := ry D
 have h4 := zX D
 have cS := Aj _ _ _ _ _ _ _ _ _ hD g0 g1 g2 g3 k0 k1 k2 k3
 obtain ⟨m, hmE⟩ : ∃ m : Nat, (m : Int) = 1 + (q : Int) % 60 := ⟨1 + q % 60, by omega⟩
 have hm : 1 ≤ m ∧ m ≤ 65536 := by omega
 have hmw : IntKind.i64.wrap (1 + (q : Int) % 60) = (m : Int) := by rw [← hmE]; exact iW0 _ (by omega)
 have w := lY (n := szz D) (by omega)
 have h99 := Ey D
 have hne := Gr D
 have jn : a7 (-szz D) := by unfold a7; omega
 have hng : IntKind.i64.wrap (0 - szz D) = -szz D := by rw [Int.zero_sub]; exact iW0 _ (by omega)
 have cL : aG Tryz.prog 12 [I (-szz D)] (.t [.c (FS (LWp (szz D))), PE 0]) := by
  have h := vr (-szz D) (by omega)
  rw [hE, if_pos rfl, show - -szz D = szz D by omega] at h
  exact h
 generalize LWp (szz D) = l at *
 generalize szz D = NN at *
 have hdN : -NN = -NN := rfl
 generalize hdd : -NN = d at *
 clear hdN
 have idl : LB d 6 := ⟨by unfold L; omega⟩
 have hdB : -4194304 ≤ d ∧ d < 0 := by omega
 have hl6 := vJ w (by omega)
 have hlc : ∀ g ∈ l, Cl d g := fun g hg => ((w.mem g).1 hg).1
 have cR := AA d m hdB h4 hm
 have hrl := pz d m hm.2
 have im : LB (m : Int) 6 := ⟨by unfold L; omega⟩
 have cF := fun g hg => De g d m (hl6 g hg).1 (hl6 g hg).2.1 (hl6 g hg).2.2 (hlc g hg) hdB hm hE
 have cV : ∀ g ∈ l, aG Tryz.prog 19 [FA g.a g.b g.c] (.t [.c (IS (gvL g)), PE 0]) := fun g hg => by
  have h := qi g (hl6 g hg).1 (hl6 g hg).2.1 (hl6 g hg).2.2 yS
  rwa [mE (hlc g hg) hdB.1 hE] at h
 have hfd := wz w hdB.2 (show 0 < m by omega)
 have hkd := fun (hc : Int.gcd (2 * d) (m : Int) = 1) f hf g hg (hv : isV d m g = true) => zW (n := m) (by omega) (hlc f hf) (hlc g hg) hdB.1 hE hc ((qm (by omega) (hlc g hg)).1 (dT0 hv))
 have hgl := fun g => Bc g
 generalize hVe : isV d m = V at *
 have hV : ∀ g, V g = decide ((fnd d m g).kind = 1) := fun g => by rw [← hVe]; rfl
 clear hVe
 refine aH Tryz.func3 rfl rfl rfl rfl ?_
 refine ab hP<|an ag (aK rfl rfl)<|ai rfl<|ae<|ab hP<|aa (aT hT rfl rfl rfl rfl (cs := [_, _, _, _, _, _, _, _, _]) rfl rfl)<|aa (ah cS) ?_
 refine aa (eO rfl (c := d) hng) ?_
 refine aa (ah (pA d jn)) ?_
 refine aj rfl<|aa (cr rfl rfl (by decide) (c := (q : Int) % 60) (Int.tmod_eq_emod_of_nonneg (by omega))) ?_
 refine aa (aY hT rfl rfl rfl rfl (iW0 _ (by omega))) ?_
 refine aa (bI rfl rfl (c := (m : Int)) hmw) ?_
 refine an ag (az hT rfl rfl)<|aE hT rfl<|ai rfl<|ae<|ab hP<|av hT rfl<|aa (ah cL) ?_
 refine aa (aw (rfl : _ = AV.t _))<|aa (aq rfl (v := .c _) rfl)<|aa (aq rfl (v := .c _) rfl)<|ai rfl<|ai rfl<|ae<|ab hP<|av hT rfl<|aj rfl<|aa (ah cR) ?_
 refine aa (aw (rfl : _ = AV.t _))<|aa (aq rfl (v := .c _) rfl)<|aa (aq rfl (v := .c _) rfl)<|ai rfl<|ai rfl<|ae<|ak<|ab hP<|aj rfl<|aa (bh rfl rfl)<|aj rfl<|aD rfl (aw (rfl : _ = AV.p (.c _))) ?_
 refine aD rfl (bh rfl rfl) ?_
 refine aa (aP rfl rfl (rfl : _ = AV.p (.c _)))<|aj rfl<|aD rfl (aw (rfl : _ = AV.p (.c _))) ?_
 refine aD rfl (aZ hT rfl rfl rfl (by rfl)) ?_
 refine aD rfl (bd rfl rfl) ?_
 refine aa (aP rfl rfl (rfl : _ = AV.p (.c _)))<|aj rfl<|da (bX rfl rfl (beq_eq_false_iff_ne.2 (by omega))) (aw (rfl : _ = AV.p (.c _))) ?_
 refine da (bX rfl rfl (beq_eq_false_iff_ne.2 (by omega))) (aZ hT rfl rfl rfl (by rfl)) ?_
 refine da (bX rfl rfl (beq_eq_false_iff_ne.2 (by omega))) (bK rfl rfl) ?_
 refine aa (aP rfl (beq_eq_false_iff_ne.2 (by omega)) (rfl : _ = AV.p (.c _))) ?_
 refine ae<|aI rfl (decide_eq_false (by omega)) ?_
 refine ao<|ab hP<|aa (ah (pA 2 (by decide))) ?_
 refine av hT rfl<|aa (ah (cX 2 d lz lz)) ?_
 refine aj rfl<|aa (ah (pA (m : Int) (by unfold a7; omega))) ?_
 refine aa (ah (lg (2 * d) (m : Int) lz lz)) ?_
 refine aa (ah (pA 1 (by decide))) ?_
 refine aa (ah (cY _ _)) ?_
 refine aa (bd rfl rfl)<|ai rfl<|ae<|ab hP<|ai rfl<|ai rfl<|ae<|ak<|ab hP<|ai rfl<|ae<|ay<|bj (ι := Nat × Int) (fun i => stL [(5, .loc 5 0), (6, Z (m : Int)), (7, .p (.c (FS l))), (9, .p (.c (SL enI (rbL d m)))), (11, B (bq ((Int.gcd (2 * d) (m : Int) : Nat) : Int) 1 == 0)), (12, Z i.2), (13, Z ((cZ V l i.1 : Nat) : Int)), (14, Z (i.1 : Int))] [(5, ⟨false, 1, 29, [zn d, zm d]⟩)]) (fun i => i.1 ≤ l.length ∧ FiI V l i.1 i.2) (fun i => l.length - i.1) (0, -1) ⟨Nat.zero_le _, FiI.start⟩ (aC ⟨.refl _, .refl _, .refl _, .refl _, .refl _, .refl _, aL (by rw [vc]; rfl), .refl _, trivial⟩ ⟨rfl, trivial⟩) ?_
 rintro i ⟨hik0, hI⟩
 refine ak<|ab hP<|aj rfl<|aj rfl<|aa (aZ hT rfl rfl rfl (by rfl)) ?_
 refine aa (aU rfl rfl)<|ae ?_
 refine aA rfl (fun hb4 => ?_) (fun hb4 => ?_)
 ·have hb4_ := dT0 hb4
  have hme := iU (l := l) (k := i.1) (d := ⟨0, 0, 0⟩) (by omega)
  have hrk := jP (l := l) (k := i.1) (by omega) ⟨0, 0, 0⟩
  have hfn := Bj (p := V) (l := l) (k := i.1)
  refine ao<|ak<|ay<|ab hP<|aj rfl<|aj rfl<|aa (iR hT (n := (i.1 : Int)) rfl rfl rfl rfl rfl rfl (by omega)) ?_
  refine aa (br hT rfl rfl rfl (cs := FC (l.getD i.1 ⟨0, 0, 0⟩)) rfl rfl) ?_
  refine aj rfl<|aa (ah (cF (l.getD i.1 ⟨0, 0, 0⟩) hme)) ?_
  refine aa (aw (rfl : _ = AV.t _))<|aa (aq rfl (v := .a _) rfl)<|aa (aq rfl (v := .c _) rfl)<|an ag (az hT rfl rfl)<|aE hT rfl<|ai rfl<|ae<|ak<|ab hP<|aj rfl<|aa (bh rfl rfl)<|ae<|aI rfl rfl<|ao<|ab hP<|aM hT rfl<|bn hT rfl rfl rfl rfl ?_
  refine aa (bd rfl rfl)<|ae ?_
  refine aA rfl (fun hb5 => ?_) (fun hb5 => ?_)
  ·have hb5_ := bT hb5
   have hv : V (l.getD i.1 ⟨0, 0, 0⟩) = true := by rw [hV]; exact decide_eq_true (bT hb5)
   refine ab hP<|aj rfl<|bp rfl rfl ?_
   refine ai rfl<|ae<|ab hP<|aj rfl<|aa (aU rfl rfl)<|ae ?_
   refine aA rfl (fun hb6 => ?_) (fun hb6 => ?_)
   ·have hb6_ := dT0 hb6
    refine au hP<|aj rfl<|ai rfl<|ae<|au hP<|aj rfl<|bp rfl rfl ?_
    refine ai rfl<|ae ?_
    refine ⟨(i.1 + 1, i.1), ⟨by omega, FiI.yes hv⟩, by simp only; omega, aC ⟨.refl _, .refl _, .refl _, .refl _, .refl _, .refl _, aL (by rw [lU hrk hv]; rfl), aL (by simp only; omega), trivial⟩ ⟨rfl, trivial⟩⟩
   have hb6_ := dF0 hb6
   refine ao<|au hP<|aj rfl<|bp rfl rfl ?_
   refine ai rfl<|ae ?_
   refine ⟨(i.1 + 1, i.2), ⟨by omega, hI.old (by omega)⟩, by simp only; omega, aC ⟨.refl _, .refl _, .refl _, .refl _, .refl _, .refl _, aL (by rw [lU hrk hv]; rfl), aL (by simp only; omega), trivial⟩ ⟨rfl, trivial⟩⟩
  have hb5_ := bF hb5
  have hv : V (l.getD i.1 ⟨0, 0, 0⟩) = false := by rw [hV]; exact decide_eq_false (bF hb5)
  refine ao<|au hP<|aj rfl<|bp rfl rfl ?_
  refine ai rfl<|ae ?_
  refine ⟨(i.1 + 1, i.2), ⟨by omega, hI.no (by omega) hv⟩, by simp only; omega, aC ⟨.refl _, .refl _, .refl _, .refl _, .refl _, .refl _, aL (by rw [nj hrk hv]), aL (by simp only; omega), trivial⟩ ⟨rfl, trivial⟩⟩
 have hb4_ := dF0 hb4
 have hik : i.1 = l.length := by omega
 refine aV<|ak<|ab hP<|aj rfl<|aa (bK rfl rfl)<|aj rfl<|aa (aZ hT rfl rfl rfl (by rfl)) ?_
 refine aa (bK rfl rfl)<|aa (ik hT rfl rfl rfl rfl)<|ae<|aI rfl (hik ▸ hfd) ?_
 refine ao<|ak<|ab hP<|aj rfl<|aa (bM rfl)<|aj rfl ?_
 refine a8 (t := 101) rfl (fun hg7 => ?_) (fun hg7 => ?_)
 ·have hg7_ := bF (dF hg7)
  refine a6 hg7 ?_
  refine a6 hg7 ?_
  refine aa (aQ rfl hg7 (rfl : _ = AV.p (.c _)))<|ae<|aN rfl rfl<|ab hP<|aa (ah lw) ?_
  refine ai rfl<|ae<|am<|E1 rfl rfl ?_
  exact .refl _
 have hg7_ := bT (du hg7)
 have hgc : Int.gcd (2 * d) (m : Int) = 1 := by have := cmpI_eq_zero.1 (bT (du hg7)); omega
 refine aD hg7 (aw (rfl : _ = AV.p (.c _))) ?_
 refine aD hg7 (aU rfl rfl) ?_
 refine aa (aP rfl hg7 (rfl : _ = AV.p (.c _)))<|ae ?_
 refine aA rfl (fun hb8 => ?_) (fun hb8 => ?_)
 ·have hb8_ := dT0 hb8
  refine ab hP<|aa (ah lw) ?_
  refine ai rfl<|ae<|am<|E1 rfl rfl ?_
  exact .refl _
 have hb8_ := dF0 hb8
 have hfi := hI.get hik0 (by have := dF0 hb8; omega)
 have hmo := iU (l := l) (k := i.2.toNat) (d := ⟨0, 0, 0⟩) (by omega)
 have hvo := hfi.2.2
 refine ao<|ab hP<|aj rfl<|aj rfl<|aa (iR hT (n := i.2) rfl rfl rfl rfl rfl rfl (by omega)) ?_
 refine aa (br hT rfl rfl rfl (cs := FC (l.getD i.2.toNat ⟨0, 0, 0⟩)) rfl rfl) ?_
 refine aa (ah (cV _ hmo)) ?_
 refine aa (aw (rfl : _ = AV.t _))<|aa (aq rfl (v := .c _) rfl)<|aa (aq rfl (v := .c _) rfl)<|ai rfl<|ai rfl<|ae<|ak<|ab hP<|ai rfl<|ae<|ay<|bj (ι := Nat) (fun k => stL [(6, Z (m : Int)), (7, .p (.c (FS l))), (17, .p (.c (IS (gvL (l.getD i.2.toNat ⟨0, 0, 0⟩))))), (18, .p (PE 0)), (19, Z (k : Int))] []) (fun k => k ≤ l.length) (fun k => l.length - k) 0 (Nat.zero_le _) (aC ⟨.refl _, .refl _, .refl _, .refl _, .refl _, trivial⟩ trivial) ?_
 intro k hk
 refine ak<|ab hP<|aj rfl<|aj rfl<|aa (aZ hT rfl rfl rfl (by rfl)) ?_
 refine aa (aU rfl rfl)<|ae ?_
 refine aA rfl (fun hb9 => ?_) (fun hb9 => ?_)
 ·have hb9_ := dT0 hb9
  have hme := iU (l := l) (k := k) (d := ⟨0, 0, 0⟩) (by omega)
  refine ao<|ak<|ay<|ab hP<|aj rfl<|aj rfl<|aa (iR hT (n := (k : Int)) rfl rfl rfl rfl rfl rfl (by omega)) ?_
  refine aa (br hT rfl rfl rfl (cs := FC (l.getD k ⟨0, 0, 0⟩)) rfl rfl) ?_
  refine aj rfl<|aa (ah (cF (l.getD k ⟨0, 0, 0⟩) hme)) ?_
  refine aa (aw (rfl : _ = AV.t _))<|aa (aq rfl (v := .a _) rfl)<|aa (aq rfl (v := .c _) rfl)<|an ag (az hT rfl rfl)<|aE hT rfl<|ai rfl<|ae<|ab hP<|aj rfl<|aj rfl<|aa (iR hT (n := (k : Int)) rfl rfl rfl rfl rfl rfl (by omega)) ?_
  refine aa (br hT rfl rfl rfl (cs := FC (l.getD k ⟨0, 0, 0⟩)) rfl rfl) ?_
  refine aa (ah (cV _ hme)) ?_
  refine aa (aw (rfl : _ = AV.t _))<|aa (aq rfl (v := .c _) rfl)<|aa (aq rfl (v := .c _) rfl)<|ai rfl<|ai rfl<|ae<|ab hP<|aj rfl<|aa (bh rfl rfl)<|aj rfl<|aD rfl (aw (rfl : _ = AV.p (.c _))) ?_
  refine aD rfl (bh rfl rfl) ?_
  refine aa (aP rfl rfl (rfl : _ = AV.p (.c _)))<|aj rfl<|aD rfl (bw hT rfl rfl rfl rfl rfl rfl) ?_
  refine aD rfl (de hT rfl rfl rfl rfl (by first | rfl | exact jC (by omega))) ?_
  refine aD rfl (bd rfl rfl) ?_
  refine aD rfl (aw (rfl : _ = AV.p (.c _))) ?_
  refine aD rfl (aw (rfl : _ = AV.p (.c _))) ?_
  refine aD rfl (ah (oq (gvL (l.getD k ⟨0, 0, 0⟩)) (gvL (l.getD i.2.toNat ⟨0, 0, 0⟩)) (by have := hgl (l.getD k ⟨0, 0, 0⟩); omega))) ?_
  refine aD rfl (bM rfl) ?_
  refine aD rfl (ik hT rfl rfl rfl rfl) ?_
  refine aa (aP rfl rfl (rfl : _ = AV.p (.c _)))<|ae<|aI rfl (EJ (hkd hgc _ hme _ hmo hvo)) ?_
  refine ao<|au hP<|aj rfl<|bp rfl rfl ?_
  refine ai rfl<|ae ?_
  refine ⟨k + 1, by omega, by omega, aC ⟨.refl _, .refl _, .refl _, .refl _, aL (by omega), trivial⟩ trivial⟩
 have hb9_ := dF0 hb9
 refine aV<|ab hP<|aj rfl<|aa (bd rfl rfl)<|ai rfl<|ae<|am<|E1 rfl rfl ?_
 exact bU rfl
end
end Go.Proofs.YthaiejfjnllglaaGreatDoor
