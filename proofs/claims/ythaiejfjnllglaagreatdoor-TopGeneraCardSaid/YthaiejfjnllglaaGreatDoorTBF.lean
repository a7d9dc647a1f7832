import Derived.Test.YthaiejfjnllglaaGreatDoorTBE
import Derived.Test.YthaiejfjnllglaaGreatDoorTBB
import Derived.Test.YthaiejfjnllglaaGreatDoorTBD
import Derived.Test.YthaiejfjnllglaaGreatDoorTBC
import Derived.Shelf.SlLaysF0
set_option maxRecDepth 100000
set_option maxHeartbeats 16000000
namespace Go.Proofs.YthaiejfjnllglaaGreatDoor
section
open Go Go.AM
theorem Ak (a b c p q r s t u v w : Int) (ha : L 34 a) (hb : L 34 b) (hc : L 34 c) (hp : L 34 p) (hq : L 34 q) (hr : L 34 r) (hs : L 34 s) (ht : L 34 t) (hu : L 34 u) (hv : L 34 v) (hw : L 34 w) :
  CallM Tryz.prog 114 [.loc 0 0, I t, I u, I v, I w] (upd O 0 (some ⟨false, 1, 163, [zn (a), zm (a), zn (b), zm (b), zn (c), zm (c), zn (p), zm (p), zn (q), zm (q), zn (r), zm (r), zn (s), zm (s)]⟩)) (.t []) (upd O 0 (some ⟨false, 1, 163, [zn (vl a b c t v), zm (vl a b c t v), zn (apB a b c t u v w), zm (apB a b c t u v w), zn (vl a b c u w), zm (vl a b c u w), zn (p * t + q * v), zm (p * t + q * v), zn (p * u + q * w), zm (p * u + q * w), zn (r * t + s * v), zm (r * t + s * v), zn (r * u + s * w), zm (r * u + s * w)]⟩)) := by
 have ia : LB a 34 := ⟨ha⟩
 have ib : LB b 34 := ⟨hb⟩
 have ic : LB c 34 := ⟨hc⟩
 have ip : LB p 34 := ⟨hp⟩
 have iq : LB q 34 := ⟨hq⟩
 have ir : LB r 34 := ⟨hr⟩
 have is : LB s 34 := ⟨hs⟩
 have it : LB t 34 := ⟨ht⟩
 have iu : LB u 34 := ⟨hu⟩
 have iv : LB v 34 := ⟨hv⟩
 have iw : LB w 34 := ⟨hw⟩
 refine qF (np := 1) Tryz.func114 (by kernel_rfl) rfl rfl (bL0 rfl) zd vL rfl ?_
 refine ab hP<|an ag (aK rfl rfl)<|an ag (aK rfl rfl)<|an ag (aK rfl rfl)<|an ag (aK rfl rfl)<|ae<|ab hP<|av hT rfl<|av hT rfl<|av hT rfl<|av hT rfl<|aa (aS hT rfl rfl rfl (es := [_, _, _, _, _, _, _, _]) rfl)<|an ag (az hT rfl rfl)<|aE hT rfl<|ae<|au hP<|aa (aw (rfl : _ = AV.loc _ _))<|aa (aw (rfl : _ = AV.loc _ _))<|aa (aw (rfl : _ = AV.loc _ _))<|aa (bW rfl)<|aM hT rfl<|bO hT rfl rfl rfl rfl rfl rfl<|aa (aT hT rfl rfl rfl rfl (cs := [_, _, _, _, _, _, _, _]) rfl rfl)<|aa (ah (Al _ _ _ _ _ _ _ lz lz lz lz lz lz lz)) ?_
 refine aa (aw (rfl : _ = AV.loc _ _))<|aa (bW rfl)<|aM hT rfl<|aa (aT hT rfl rfl rfl rfl (cs := [_, _, _, _, _, _, _, _]) rfl rfl)<|aa (aT hT rfl rfl rfl rfl (cs := [_, _, _, _, _, _, _, _]) rfl rfl)<|aa (ah (rP _ _ _ _ _ _ _ _ lz lz lz lz lz lz lz lz)) ?_
 refine aa (bW rfl)<|aM hT rfl<|aE hT rfl<|aa (bW rfl)<|aM hT rfl<|aE hT rfl<|ae ?_
 refine vf rfl (.inl rfl)  ?_ (wV rfl)
 exact .refl _
theorem ut (m : Nat) (a b c p q r s t u v w : Int) (ha : L 34 a) (hb : L 34 b) (hc : L 34 c) (hp : L 34 p) (hq : L 34 q) (hr : L 34 r) (hs : L 34 s) (ht : L 34 t) (hu : L 34 u) (hv : L 34 v) (hw : L 34 w) :
  CallM Tryz.prog 114 [.loc m 0, I t, I u, I v, I w] (upd O m (some ⟨false, 1, 163, [zn (a), zm (a), zn (b), zm (b), zn (c), zm (c), zn (p), zm (p), zn (q), zm (q), zn (r), zm (r), zn (s), zm (s)]⟩)) (.t []) (upd O m (some ⟨false, 1, 163, [zn (vl a b c t v), zm (vl a b c t v), zn (apB a b c t u v w), zm (apB a b c t u v w), zn (vl a b c u w), zm (vl a b c u w), zn (p * t + q * v), zm (p * t + q * v), zn (p * u + q * w), zm (p * u + q * w), zn (r * t + s * v), zm (r * t + s * v), zn (r * u + s * w), zm (r * u + s * w)]⟩)) := CallM.ren1 m (Ak a b c p q r s t u v w ha hb hc hp hq hr hs ht hu hv hw) rfl rfl
theorem gZ (a b c : Int) (ha : L 26 a) (hb : L 26 b) (hc : L 26 c) :
  aG Tryz.prog 41 [FA a b c] (.t [PF (rdF a b c), PM (rdM a b c), PE (rdE a b c)]) := by
 have ia : LB a 26 := ⟨ha⟩
 have ib : LB b 26 := ⟨hb⟩
 have ic : LB c 26 := ⟨hc⟩
 obtain ⟨M, hMa, hMc, hM0, hML⟩ := ha.max2 hc
 refine aH Tryz.func41 rfl rfl rfl rfl ?_
 refine ab hP<|an ag (aK rfl rfl)<|an ag (az hT rfl rfl)<|an ag (az hT rfl rfl)<|ai rfl<|ae<|ab hP<|bO hT rfl rfl rfl rfl rfl rfl<|aa (ah (kR _ _ _ lz lz lz)) ?_
 refine ai rfl<|ae<|ak<|ab hP<|aj rfl<|aa (bd rfl rfl)<|aj rfl ?_
 refine a8 (t := 16) rfl (fun hg1 => ?_) (fun hg1 => ?_)
 ·have hg1_ := bT hg1
  refine aD hg1 (aT hT rfl rfl rfl rfl (cs := [_, _, _, _, _, _]) rfl rfl) ?_
  refine aD hg1 (ah (fz _ _ _ lz lz lz)) ?_
  refine aD hg1 (ah (cn _)) ?_
  refine aD hg1 (bK rfl rfl) ?_
  refine aa (aQ rfl hg1 (rfl : _ = AV.p (.c _)))<|ae ?_
  refine aA rfl (fun hb2 => ?_) (fun hb2 => ?_)
  ·have hb2_ := dT0 hb2
   refine au hP<|ai rfl<|ae<|ak<|ab hP<|aj rfl<|aa (bh rfl rfl)<|ae<|aN rfl rfl<|ab hP<|aa (aS hT rfl rfl rfl (es := [_, _, _, _, _, _]) rfl)<|aa (aS hT rfl rfl rfl (es := [_, _, _, _, _, _, _, _]) rfl)<|aj rfl<|aE hT rfl<|aE hT rfl<|ai rfl<|ae<|am ?_
   refine dM rfl (.inr rfl) (aO hT rfl rfl rfl rfl (cs := [_, _, _, _, _, _]) rfl rfl) (aO hT rfl rfl rfl rfl (cs := [_, _, _, _, _, _, _, _]) rfl rfl) (bC rfl) ?_ bv
   exact aB (rH (Fg hg1 hb2_) (by decide))
  have hb2_ := dF0 hb2
  refine ao<|ak<|ab hP<|aj rfl<|aa (bh rfl rfl)<|ae<|aI rfl (by rw [bne, hg1]; rfl) ?_
  refine ao<|ab hP<|aa (ah (dE _ (by first | assumption | decide))) ?_
  refine aa (ah (dE _ (by first | assumption | decide))) ?_
  refine an ag (az hT rfl rfl)<|an ag (az hT rfl rfl)<|aE hT rfl<|aE hT rfl<|ae<|ab hP<|bO hT rfl rfl rfl rfl rfl rfl<|av hT rfl<|av hT rfl<|av hT rfl<|av hT rfl<|aa (aS hT rfl rfl rfl (es := [_, _, _, _, _, _, _, _]) rfl)<|aa (aS hT rfl rfl rfl (es := [_, _, _, _, _, _, _, _, _, _, _, _, _, _]) rfl)<|an ag (aK rfl rfl)<|aa (bf (rfl : _ = AV.loc _ _))<|ae<|ak<|ay ?_
  have he0 := Fh hg1 hb2_
  have hp0 := kQ he0
  refine bj (ι := (Fm × Mt) × Nat) (fun i => stL [(2, .loc 2 0), (3, .loc 3 0), (6, .loc 6 0), (7, .loc 7 0), (8, .loc 36 0)] [(2, ⟨false, 1, 46, FL 0 0 0⟩), (3, ⟨false, 1, 87, ML 0 0 0 0⟩), (6, ⟨false, 1, 29, [zn 1, zm 1]⟩), (7, ⟨false, 1, 29, [zn 0, zm 0]⟩), (36, ⟨false, 1, 163, [zn (i.1.1.a), zm (i.1.1.a), zn (i.1.1.b), zm (i.1.1.b), zn (i.1.1.c), zm (i.1.1.c), zn (i.1.2.a), zm (i.1.2.a), zn (i.1.2.b), zm (i.1.2.b), zn (i.1.2.c), zm (i.1.2.c), zn (i.1.2.d), zm (i.1.2.d)]⟩)]) (fun i => AM.Good ⟨a, b, c⟩ M i.1 ∧ i.1.1.mu ≤ i.2 ∧ ec i.2 i.1 = ec (Fm.mu ⟨a, b, c⟩) (⟨a, b, c⟩, .one)) (fun i => i.2) ((⟨a, b, c⟩, .one), Fm.mu ⟨a, b, c⟩) ⟨qe hp0 hMa hMc, Nat.le_refl _, rfl⟩ (aC ⟨.refl _, .refl _, .refl _, .refl _, .refl _, trivial⟩ ⟨rfl, rfl, rfl, rfl, rfl, trivial⟩) ?_
  rintro ⟨s, k⟩ ⟨hG, hk, hR⟩
  have hL := hG.L hp0 hMa hMc hML
  have i1 : LB s.1.a 27 := ⟨hL.1.a⟩
  have i2 : LB s.1.b 27 := ⟨hL.1.b⟩
  have i3 : LB s.1.c 27 := ⟨hL.1.c⟩
  have i4 : LB s.2.a 27 := ⟨hL.2.a⟩
  have i5 : LB s.2.b 27 := ⟨hL.2.b⟩
  have i6 : LB s.2.c 27 := ⟨hL.2.c⟩
  have i7 : LB s.2.d 27 := ⟨hL.2.d⟩
  have hs0 : 2 * s.1.a ≠ 0 := by
   have h9 : 0 < s.1.a := hG.pos.1
   omega
  have i8 : LB s.1.k 28 := ⟨by unfold Fm.k; exact lz⟩
  refine ak<|ab hP<|aa (aw (rfl : _ = AV.loc _ _))<|aa (bW rfl)<|aM hT rfl<|bO hT rfl rfl rfl rfl rfl rfl<|aa (ah (nR _ _ _ lz lz lz)) ?_
  refine aa (bM rfl)<|ae ?_
  refine aA rfl (fun hb3 => ?_) (fun hb3 => ?_)
  ·have hb3_ := (dF hb3)
   refine ao<|ay<|ab hP<|aa (aw (rfl : _ = AV.loc _ _))<|aa (bW rfl)<|aM hT rfl<|aM hT rfl<|av hT rfl<|aa (aw (rfl : _ = AV.loc _ _))<|aa (bW rfl)<|aM hT rfl<|aM hT rfl<|av hT rfl<|aa (ah (gK _ _ lz lz)) ?_
   refine aa (ah (dE _ (by first | assumption | decide))) ?_
   refine aa (aw (rfl : _ = AV.loc _ _))<|aa (bW rfl)<|aM hT rfl<|aM hT rfl<|av hT rfl<|aa (aW hT rfl rfl rfl (es := [_, _, _, _]) rfl rfl rfl)<|aa (ah (cq _ _ lz lz)) ?_
   refine aa (ah (cU _ _ lz lz hs0)) ?_
   refine aa (aw (rfl : _ = AV.t _))<|aa (aq rfl (v := .a _) rfl)<|aa (aq rfl (v := .a _) rfl)<|aa (aq rfl (v := .c _) rfl)<|an ag (az hT rfl rfl)<|an ag (az hT rfl rfl)<|aE hT rfl<|aE hT rfl<|ai rfl<|ae<|ab hP<|aa (aw (rfl : _ = AV.loc _ _))<|av hT rfl<|av hT rfl<|av hT rfl<|av hT rfl<|RK.mut ag (Eff.call (rd := [36]) (ut 36 (s.1.a) (s.1.b) (s.1.c) (s.2.a) (s.2.b) (s.2.c) (s.2.d) _ _ _ _ lz lz lz lz lz lz lz lz lz lz lz) (lP rfl) oT) ?_
   refine ae<|ab hP<|aa (aw (rfl : _ = AV.loc _ _))<|aa (bW rfl)<|aM hT rfl<|bO hT rfl rfl rfl rfl rfl rfl<|aa (ah (nR _ _ _ lz lz lz)) ?_
   refine aa (bM rfl)<|ae ?_
   refine aA rfl (fun hb4 => ?_) (fun hb4 => ?_)
   ·have hb4_ := (dF hb4)
    refine au hP<|aa (aw (rfl : _ = AV.loc _ _))<|av hT rfl<|aa (ah (dE _ (by first | assumption | decide))) ?_
    refine av hT rfl<|av hT rfl<|RK.mut ag (Eff.call (rd := [36]) (ut 36 (vl s.1.a s.1.b s.1.c 1 0) (apB s.1.a s.1.b s.1.c 1 s.1.k 0 1) (vl s.1.a s.1.b s.1.c s.1.k 1) (s.2.a * 1 + s.2.b * 0) (s.2.a * s.1.k + s.2.b * 1) (s.2.c * 1 + s.2.d * 0) (s.2.c * s.1.k + s.2.d * 1) _ _ _ _ lz lz lz lz lz lz lz lz lz lz lz) (lP rfl) oT) ?_
    refine ae ?_
    have hx := rI hG hk hR hb3 (EM hb4)
    refine ⟨(((s.1.app (.T s.1.k)).app .S, (s.2.mul (.T s.1.k)).mul .S), k - 1), hx.1, hx.2, aC ⟨.refl _, .refl _, .refl _, .refl _, .refl _, trivial⟩ ⟨rfl, rfl, rfl, rfl, rfl, trivial⟩⟩
   have hb4_ := (du hb4)
   refine ao ?_
   have hx := rI hG hk hR hb3 (EL hb4)
   refine ⟨((s.1.app (.T s.1.k), s.2.mul (.T s.1.k)), k - 1), hx.1, hx.2, aC ⟨.refl _, .refl _, .refl _, .refl _, .refl _, trivial⟩ ⟨rfl, rfl, rfl, rfl, rfl, trivial⟩⟩
  have hb3_ := (du hb3)
  refine aV<|ab hP<|aa (aw (rfl : _ = AV.loc _ _))<|aa (bW rfl)<|aM hT rfl<|bO hT rfl rfl rfl rfl rfl rfl<|aa (aw (rfl : _ = AV.loc _ _))<|aa (bW rfl)<|aM hT rfl<|aa (aT hT rfl rfl rfl rfl (cs := [_, _, _, _, _, _, _, _]) rfl rfl)<|aE hT rfl<|aE hT rfl<|ai rfl<|ae<|am ?_
  refine dM rfl (.inr rfl) (aO hT rfl rfl rfl rfl (cs := [_, _, _, _, _, _]) rfl rfl) (aO hT rfl rfl rfl rfl (cs := [_, _, _, _, _, _, _, _]) rfl rfl) (bC rfl) ?_ bv
  exact aB (CR he0 (Ae hR hb3))
 have hg1_ := bF hg1
 iterate 4 refine a6 hg1 ?_
 refine aa (aP rfl hg1 (rfl : _ = AV.p (.c _)))<|ae<|aI rfl rfl<|ao<|ak<|ab hP<|aj rfl<|aa (bh rfl rfl)<|ae<|aN rfl (by rw [bne, hg1]; rfl) ?_
 refine ab hP<|aa (aS hT rfl rfl rfl (es := [_, _, _, _, _, _]) rfl)<|aa (aS hT rfl rfl rfl (es := [_, _, _, _, _, _, _, _]) rfl)<|aj rfl<|aE hT rfl<|aE hT rfl<|ai rfl<|ae<|am ?_
 refine dM rfl (.inr rfl) (aO hT rfl rfl rfl rfl (cs := [_, _, _, _, _, _]) rfl rfl) (aO hT rfl rfl rfl rfl (cs := [_, _, _, _, _, _, _, _]) rfl rfl) (bC rfl) ?_ bv
 exact aB (rH (CX hg1).1 (fun e => by rw [e] at hg1; cases hg1))
theorem C4 (a b c p q r : Int) (ha : L 26 a) (hb : L 26 b) (hc : L 26 c) (hp : L 26 p) (hq : L 26 q) (hr : L 26 r) :
  aG Tryz.prog 133 [FA a b c, FA p q r] (.t [PM (smM a b c p q r), PB (smB a b c p q r)]) := by
 have ia : LB a 26 := ⟨ha⟩
 have ib : LB b 26 := ⟨hb⟩
 have ic : LB c 26 := ⟨hc⟩
 have ip : LB p 26 := ⟨hp⟩
 have iq : LB q 26 := ⟨hq⟩
 have ir : LB r 26 := ⟨hr⟩
 refine aH Tryz.func133 rfl rfl rfl rfl ?_
 refine ab hP<|an ag (aK rfl rfl)<|an ag (aK rfl rfl)<|an ag (az hT rfl rfl)<|ai rfl<|ae<|ab hP<|bO hT rfl rfl rfl rfl rfl rfl<|aa (ah (gZ _ _ _ lz lz lz)) ?_
 refine aa (aw (rfl : _ = AV.t _))<|aa (aq rfl (v := .a _) rfl)<|aa (aq rfl (v := .a _) rfl)<|aa (aq rfl (v := .c _) rfl)<|an ag (az hT rfl rfl)<|an ag (az hT rfl rfl)<|aE hT rfl<|aE hT rfl<|ai rfl<|ae<|ab hP<|bO hT rfl rfl rfl rfl rfl rfl<|aa (ah (gZ _ _ _ lz lz lz)) ?_
 refine aa (aw (rfl : _ = AV.t _))<|aa (aq rfl (v := .a _) rfl)<|aa (aq rfl (v := .a _) rfl)<|aa (aq rfl (v := .c _) rfl)<|an ag (az hT rfl rfl)<|an ag (az hT rfl rfl)<|aE hT rfl<|aE hT rfl<|ai rfl<|ae<|ak<|ab hP<|aj rfl<|aa (bh rfl rfl)<|aj rfl ?_
 refine a8 (t := 27) rfl (fun hg1 => ?_) (fun hg1 => ?_)
 ·have hg1_ := b9 hg1
  refine a6 hg1 ?_
  refine a6 hg1 ?_
  refine aa (aQ rfl hg1 (rfl : _ = AV.p (.c _)))<|aj rfl<|a6 rfl ?_
  iterate 5 refine a6 rfl ?_
  refine aa (aQ rfl rfl (rfl : _ = AV.p (.c _)))<|aj rfl<|a6 rfl ?_
  iterate 5 refine a6 rfl ?_
  refine aa (aQ rfl rfl (rfl : _ = AV.p (.c _)))<|aj rfl<|a6 rfl ?_
  iterate 5 refine a6 rfl ?_
  refine aa (aQ rfl rfl (rfl : _ = AV.p (.c _)))<|ae<|aN rfl rfl<|ab hP<|aa (aS hT rfl rfl rfl (es := [_, _, _, _, _, _, _, _]) rfl)<|aE hT rfl<|ai rfl<|ae<|am ?_
  refine bS rfl (.inr rfl) (aO hT rfl rfl rfl rfl (cs := [_, _, _, _, _, _, _, _]) rfl rfl) (bC rfl) ?_ bv
  exact aB (l7 (fun x => hg1_ x.1))
 have hg1_ := bY hg1
 refine aD hg1 (aw (rfl : _ = AV.p (.c _))) ?_
 refine aD hg1 (bh rfl rfl) ?_
 refine aa (aP rfl hg1 (rfl : _ = AV.p (.c _)))<|aj rfl ?_
 refine a8 (t := 31) rfl (fun hg2 => ?_) (fun hg2 => ?_)
 ·have hg2_ := b9 hg2
  iterate 6 refine a6 hg2 ?_
  refine aa (aQ rfl hg2 (rfl : _ = AV.p (.c _)))<|aj rfl<|a6 rfl ?_
  iterate 5 refine a6 rfl ?_
  refine aa (aQ rfl rfl (rfl : _ = AV.p (.c _)))<|aj rfl<|a6 rfl ?_
  iterate 5 refine a6 rfl ?_
  refine aa (aQ rfl rfl (rfl : _ = AV.p (.c _)))<|ae<|aN rfl rfl<|ab hP<|aa (aS hT rfl rfl rfl (es := [_, _, _, _, _, _, _, _]) rfl)<|aE hT rfl<|ai rfl<|ae<|am ?_
  refine bS rfl (.inr rfl) (aO hT rfl rfl rfl rfl (cs := [_, _, _, _, _, _, _, _]) rfl rfl) (bC rfl) ?_ bv
  exact aB (l7 (fun x => hg2_ x.2.1))
 have hg2_ := bY hg2
 refine aD hg2 (bw hT rfl rfl rfl rfl rfl rfl) ?_
 refine aD hg2 (aT hT rfl rfl rfl rfl (cs := [_, _]) rfl rfl) ?_
 refine aD hg2 (bw hT rfl rfl rfl rfl rfl rfl) ?_
 refine aD hg2 (aT hT rfl rfl rfl rfl (cs := [_, _]) rfl rfl) ?_
 refine aD hg2 (ah (cY _ _)) ?_
 refine aD hg2 (bh rfl rfl) ?_
 refine aa (aP rfl hg2 (rfl : _ = AV.p (.c _)))<|aj rfl ?_
 refine a8 (t := 39) rfl (fun hg3 => ?_) (fun hg3 => ?_)
 ·have hg3_ := b9 hg3
  iterate 6 refine a6 hg3 ?_
  refine aa (aQ rfl hg3 (rfl : _ = AV.p (.c _)))<|aj rfl<|a6 rfl ?_
  iterate 5 refine a6 rfl ?_
  refine aa (aQ rfl rfl (rfl : _ = AV.p (.c _)))<|ae<|aN rfl rfl<|ab hP<|aa (aS hT rfl rfl rfl (es := [_, _, _, _, _, _, _, _]) rfl)<|aE hT rfl<|ai rfl<|ae<|am ?_
  refine bS rfl (.inr rfl) (aO hT rfl rfl rfl rfl (cs := [_, _, _, _, _, _, _, _]) rfl rfl) (bC rfl) ?_ bv
  exact aB (l7 (fun x => qC hg3 (congrArg Fm.a x.2.2)))
 have hg3_ := bY hg3
 refine aD hg3 (bw hT rfl rfl rfl rfl rfl rfl) ?_
 refine aD hg3 (aT hT rfl rfl rfl rfl (cs := [_, _]) rfl rfl) ?_
 refine aD hg3 (bw hT rfl rfl rfl rfl rfl rfl) ?_
 refine aD hg3 (aT hT rfl rfl rfl rfl (cs := [_, _]) rfl rfl) ?_
 refine aD hg3 (ah (cY _ _)) ?_
 refine aD hg3 (bh rfl rfl) ?_
 refine aa (aP rfl hg3 (rfl : _ = AV.p (.c _)))<|aj rfl ?_
 refine a8 (t := 47) rfl (fun hg4 => ?_) (fun hg4 => ?_)
 ·have hg4_ := b9 hg4
  iterate 6 refine a6 hg4 ?_
  refine aa (aQ rfl hg4 (rfl : _ = AV.p (.c _)))<|ae<|aN rfl rfl<|ab hP<|aa (aS hT rfl rfl rfl (es := [_, _, _, _, _, _, _, _]) rfl)<|aE hT rfl<|ai rfl<|ae<|am ?_
  refine bS rfl (.inr rfl) (aO hT rfl rfl rfl rfl (cs := [_, _, _, _, _, _, _, _]) rfl rfl) (bC rfl) ?_ bv
  exact aB (l7 (fun x => qC hg4 (congrArg Fm.b x.2.2)))
 have hg4_ := bY hg4
 refine aD hg4 (bw hT rfl rfl rfl rfl rfl rfl) ?_
 refine aD hg4 (aT hT rfl rfl rfl rfl (cs := [_, _]) rfl rfl) ?_
 refine aD hg4 (bw hT rfl rfl rfl rfl rfl rfl) ?_
 refine aD hg4 (aT hT rfl rfl rfl rfl (cs := [_, _]) rfl rfl) ?_
 refine aD hg4 (ah (cY _ _)) ?_
 refine aD hg4 (bh rfl rfl) ?_
 refine aa (aP rfl hg4 (rfl : _ = AV.p (.c _)))<|ae ?_
 refine aA rfl (fun hb5 => ?_) (fun hb5 => ?_)
 ·have hb5_ := b9 hb5
  refine ab hP<|aa (aS hT rfl rfl rfl (es := [_, _, _, _, _, _, _, _]) rfl)<|aE hT rfl<|ai rfl<|ae<|am ?_
  refine bS rfl (.inr rfl) (aO hT rfl rfl rfl rfl (cs := [_, _, _, _, _, _, _, _]) rfl rfl) (bC rfl) ?_ bv
  exact aB (l7 (fun x => qC hb5 (congrArg Fm.c x.2.2)))
 have hb5_ := bY hb5
 refine ao<|ab hP<|aM hT rfl<|av hT rfl<|aM hT rfl<|av hT rfl<|aa (ah (fQ _)) ?_
 refine aM hT rfl<|av hT rfl<|aa (ah (fQ _)) ?_
 refine aM hT rfl<|av hT rfl<|aa (aS hT rfl rfl rfl (es := [_, _, _, _, _, _, _, _]) rfl)<|an ag (az hT rfl rfl)<|aE hT rfl<|ae<|ab hP<|aa (aT hT rfl rfl rfl rfl (cs := [_, _, _, _, _, _, _, _]) rfl rfl)<|aa (aT hT rfl rfl rfl rfl (cs := [_, _, _, _, _, _, _, _]) rfl rfl)<|aa (ah (rP _ _ _ _ _ _ _ _ lz lz lz lz lz lz lz lz)) ?_
 refine aE hT rfl<|ai rfl<|ae<|am ?_
 refine bS rfl (.inr rfl) (aO hT rfl rfl rfl rfl (cs := [_, _, _, _, _, _, _, _]) rfl rfl) (bC rfl) ?_ bv
 exact aB (CI hg1 hg2 hg3 hg4 hb5)
end
section
open Go Go.AM
theorem wC (zs : List Nat) (hz : zs.length ≤ 1000000) :
  Iter Tryz.prog 211 [[W zs]] (bkL zs) := by
 refine sf Tryz.func211 (by kernel_rfl) rfl rfl (bL0 rfl) rfl ?_
 intro l n0 J hK
 refine db ?_
 refine cB hP ?_
 refine cz hT rfl rfl rfl ?_
 refine aa (aZ hT rfl rfl rfl (l := zs.length) rfl) ?_
 refine aa (bA rfl rfl (by first | exact iW0 _ (by omega) | rfl)) ?_
 refine ai rfl<|ae<|fV ?_
 refine nD (ι := Nat) (fun k => stL [(0, .p (.c (.v (.func (.yield l) #[] #[])))), (1, .ip [W zs]), (3, Z ((zs.length : Int) - 1 - (k : Int)))] []) (fun k => k) (fun k => k ≤ zs.length) (fun k => zs.length - k) 0 (Nat.zero_le _) rfl (aC ⟨.refl _, .refl _, aL (by simp), trivial⟩ trivial) ?_
 intro k hk
 refine db ?_
 refine db ?_
 refine cB hP ?_
 refine aj rfl<|aa (dL rfl rfl)<|ae ?_
 refine gR rfl (fun hb1 => ?_) (fun hb1 => ?_)
 ·have hb1_ := dT0 hb1
  refine fw ?_
  refine db ?_
  refine fV ?_
  refine db ?_
  refine j0 ?_
  refine RJ.val ag (aw (rfl : _ = AV.p (.c _))) ?_
  refine RJ.val ag (aw (rfl : _ = AV.p (.c _))) ?_
  refine RJ.val ag (bJ hT rfl rfl rfl (by first | rfl | exact lL (by omega))) ?_
  refine RJ.val ag (aw (rfl : _ = AV.p (.c _))) ?_
  refine RJ.val ag (ce hT (l := zs.length) (n := ((zs.length : Int) - 1 - (k : Int))) rfl rfl rfl rfl rfl rfl (by omega) (jW (by omega))) ?_
  refine RJ.val ag (bJ hT rfl rfl rfl (dv := w32 (zs.getD (zs.length - 1 - k) 0)) (by show ((zs.map w32).drop ((((zs.length : Int) - 1 - (k : Int))).toNat * 1))[0]? = _; rw [show (((zs.length : Int) - 1 - (k : Int))).toNat = zs.length - 1 - k by omega]; exact lL (by omega))) ?_
  refine RJ.yield hK ag rfl rfl (vu (by omega)) ?_
  refine RJ.val ag (bM rfl) ?_
  refine RJ.done ?_
  refine fe rfl rfl ?_
  refine fw ?_
  refine cB hP ?_
  refine aj rfl<|aa (bA rfl rfl (by first | exact iW0 _ (by omega) | rfl)) ?_
  refine ai rfl<|ae ?_
  refine ⟨k + 1, by omega, by omega, rfl, aC ⟨.refl _, .refl _, aL (by omega), trivial⟩ trivial⟩
 have hb1_ := dF0 hb1
 refine gQ ?_
 refine ⟨.inl rfl, ?_⟩
 exact (nw zs).symm ▸ (by omega)
theorem zZ (zs : List Nat) :
  aG Tryz.prog 177 [.p (.c (W zs))] (.fn 211 [[W zs]]) := by
 refine iJ Tryz.func177 (by kernel_rfl) rfl rfl (bL0 rfl) rfl ?_
 refine ab hP<|an ag (aK rfl rfl)<|ai rfl<|ae<|cE (t := 1) rfl rfl ?_
 refine ab hP<|aa (lB rfl)<|aa (bf (rfl : _ = AV.fn _ _))<|ae<|am ?_
 exact ⟨.inr rfl, 2, rfl, rfl⟩
theorem p9 (x : Int) (hx : x.natAbs < 18446744073709551616) :
  aG Tryz.prog 125 [I x] (.t [PE (lwV x), PB (lwO x)]) := by
 have hlen : (wl x.natAbs).length ≤ 2 := fk (k := 2) (by omega)
 have hok := bR x.natAbs
 refine aH Tryz.func125 rfl rfl rfl rfl ?_
 refine ab hP<|an ag (aK rfl rfl)<|ai rfl<|ai rfl<|ae<|ak<|ab hP<|aM hT rfl<|bn hT rfl rfl rfl rfl ?_
 refine aa (aZ hT rfl rfl rfl (l := (wl x.natAbs).length) rfl) ?_
 refine aa (bK rfl rfl)<|ae<|aI rfl (decide_eq_false (by omega)) ?_
 refine ao<|ab hP<|an ag (az hT rfl rfl)<|ae<|ak<|ab hP<|aM hT rfl<|bn hT rfl rfl rfl rfl ?_
 refine aa (ah (zZ (wl x.natAbs))) ?_
 refine ae<|ay<|dH (t := stL [(1, .loc 1 0), (4, .loc 4 0), (14, .fn 211 [[W (wl x.natAbs)]])] [(1, ⟨false, 1, 29, [zn x, zm x]⟩), (4, ⟨false, 1, 103, [.v (.int .u64 ((lwA (wl x.natAbs) 0 : Nat) : Int))]⟩)]) (aC ⟨.refl _, .refl _, .refl _, trivial⟩ ⟨rfl, by rw [tu]; rfl, trivial⟩) ?_
 refine kL 5 (fun k => bZ [(1, ⟨false, 1, 29, [zn x, zm x]⟩), (4, ⟨false, 1, 103, [.v (.int .u64 ((lwA (wl x.natAbs) k : Nat) : Int))]⟩)]) rfl (wC (wl x.natAbs) (by omega)) (BA _) rfl rfl rfl (fun k xx hxx => ?_) ?_
 ·obtain ⟨hk, rfl⟩ := BB hxx
  have hv := FN hok hlen hk
  have hw := hok.getD ((wl x.natAbs).length - 1 - k)
  refine au hP<|ai rfl<|ae<|ay<|au hP<|bn hT rfl rfl rfl rfl ?_
  refine aa (pK rfl rfl (by decide) (c := ((lwA (wl x.natAbs) k * 4294967296 : Nat) : Int)) (by rw [show (2 : Int) ^ (min (32 : Int).toNat IntKind.u64.bits) = 4294967296 from rfl, IntWalk.u64_in _ (by omega)]; omega)) ?_
  refine aj rfl<|aa (aY hT rfl rfl rfl rfl (IntWalk.u64_in _ (by omega))) ?_
  refine aa (k9 rfl rfl (GM hv hw)) ?_
  refine aE hT rfl<|ae ?_
  refine ⟨rfl, GW.forget_as (congrArg (fun y => bZ [(1, ⟨false, 1, 29, [zn x, zm x]⟩), (4, ⟨false, 1, 103, [.v (.int .u64 ((y : Nat) : Int))]⟩)]) (pU hk).symm) (SubO.own ⟨rfl, rfl, trivial⟩)⟩
 rw [nw, AS, bN]
 refine ab hP<|bn hT rfl rfl rfl rfl ?_
 refine aa (aY hT rfl rfl rfl rfl (CG hx)) ?_
 refine ai rfl<|ae<|ak<|ab hP<|aM hT rfl<|bn hT rfl rfl rfl rfl ?_
 refine ae ?_
 refine aA rfl (fun hb1 => ?_) (fun hb1 => ?_)
 ·have hn : x < 0 := dT0 hb1
  refine au hP<|aj rfl<|aa (eO rfl (BL hn)) ?_
  refine ai rfl<|ae<|ak<|ab hP<|aj rfl<|aa (bh rfl rfl)<|aj rfl ?_
  refine a8 (t := 30) rfl (fun hg2 => ?_) (fun hg2 => ?_)
  ·have hg2_ := b9 hg2
   refine aD hg2 (bw hT rfl rfl rfl rfl rfl rfl) ?_
   refine aD hg2 (de hT rfl rfl rfl rfl (by first | rfl | exact jC (by omega))) ?_
   refine aD hg2 (aw (rfl : _ = AV.p (.c _))) ?_
   refine aD hg2 (aU rfl rfl) ?_
   refine aD hg2 (ik hT rfl rfl rfl rfl) ?_
   refine aa (aQ rfl hg2 (rfl : _ = AV.p (.c _)))<|ae ?_
   refine aA rfl (fun hb3 => ?_) (fun hb3 => ?_)
   ·refine ab hP<|ai rfl<|ai rfl<|ae<|am<|E11 rfl rfl rfl ?_
    exact aB (sd hx (by assumption))
   refine ao<|ab hP<|aj rfl<|ai rfl<|ai rfl<|ae<|am<|E11 rfl rfl rfl ?_
   exact aB (pV hx (by assumption))
  have hg2_ := bY hg2
  iterate 5 refine a6 hg2 ?_
  refine aa (aP rfl hg2 (rfl : _ = AV.p (.c _)))<|ae<|aI rfl rfl<|ao<|ab hP<|aj rfl<|ai rfl<|ai rfl<|ae<|am<|E11 rfl rfl rfl ?_
  exact aB (oa hx (by assumption))
 have hn : ¬ x < 0 := dF0 hb1
 rw [BK hn]
 refine ao<|ak<|ab hP<|aj rfl<|aa (bh rfl rfl)<|aj rfl ?_
 refine a8 (t := 30) rfl (fun hg4 => ?_) (fun hg4 => ?_)
 ·have hg4_ := b9 hg4
  refine aD hg4 (bw hT rfl rfl rfl rfl rfl rfl) ?_
  refine aD hg4 (de hT rfl rfl rfl rfl (by first | rfl | exact jC (by omega))) ?_
  refine aD hg4 (aw (rfl : _ = AV.p (.c _))) ?_
  refine aD hg4 (aU rfl rfl) ?_
  refine aD hg4 (ik hT rfl rfl rfl rfl) ?_
  refine aa (aQ rfl hg4 (rfl : _ = AV.p (.c _)))<|ae ?_
  refine aA rfl (fun hb5 => ?_) (fun hb5 => ?_)
  ·refine ab hP<|ai rfl<|ai rfl<|ae<|am<|E11 rfl rfl rfl ?_
   exact aB (sd hx (by assumption))
  refine ao<|ab hP<|aj rfl<|ai rfl<|ai rfl<|ae<|am<|E11 rfl rfl rfl ?_
  exact aB (pV hx (by assumption))
 have hg4_ := bY hg4
 iterate 5 refine a6 hg4 ?_
 refine aa (aP rfl hg4 (rfl : _ = AV.p (.c _)))<|ae<|aI rfl rfl<|ao<|ab hP<|aj rfl<|ai rfl<|ai rfl<|ae<|am<|E11 rfl rfl rfl ?_
 exact aB (oa hx (by assumption))
theorem FJ {x : Int} (h1 : -9223372036854775808 < x) (h2 : x < 9223372036854775808) : AV.t [PE (lwV x), PB (lwO x)] = .t [PE x, PB true] := by
 have e : lwO x = true := decide_eq_true ⟨by omega, h2⟩
 unfold lwV; rw [e]; rfl
theorem fR (x : Int) (h1 : -9223372036854775808 < x) (h2 : x < 9223372036854775808) : aG Tryz.prog 125 [I x] (.t [.c (.v (.int .i64 x)), PB true]) := FJ h1 h2 ▸ p9 x (by omega)
end
section
open Go Go.AM
theorem lx (d : Int) (hd : L 40 d) :
  aG Tryz.prog 54 [I d] (.t [PF (prF d), PE (prE d)]) := by
 have id : LB d 40 := ⟨hd⟩
 have h4a := Int.emod_nonneg d (show (4 : Int) ≠ 0 by decide)
 have h4b := Int.emod_lt_of_pos d (show (0 : Int) < 4 by decide)
 refine aH Tryz.func54 rfl rfl rfl rfl ?_
 refine ab hP<|an ag (aK rfl rfl)<|an ag (az hT rfl rfl)<|ai rfl<|ae<|ab hP<|av hT rfl<|aa (ah (dE _ (by first | assumption | decide))) ?_
 refine aa (ah (cU _ 4 lz lz (by decide))) ?_
 refine aa (aw (rfl : _ = AV.t _))<|aa (aq rfl (v := .a _) rfl)<|aa (aq rfl (v := .a _) rfl)<|aa (aq rfl (v := .c _) rfl)<|an ag (az hT rfl rfl)<|an ag (az hT rfl rfl)<|aE hT rfl<|aE hT rfl<|ai rfl<|ae<|ab hP<|av hT rfl<|aa (ah (fR (d % 4) (by omega) (by omega))) ?_
 refine aa (aw (rfl : _ = AV.t _))<|aa (aq rfl (v := .c _) rfl)<|aa (aq rfl (v := .c _) rfl)<|ai rfl<|ai rfl<|ae<|ak<|ab hP<|aj rfl<|aa (bM rfl)<|aj rfl<|aD rfl (aw (rfl : _ = AV.p (.c _))) ?_
 refine aD rfl (bK rfl rfl) ?_
 refine aa (aP rfl rfl (rfl : _ = AV.p (.c _)))<|aj rfl ?_
 refine a8 (t := 27) rfl (fun hg2 => ?_) (fun hg2 => ?_)
 ·have hg2_ := dT0 hg2
  refine a6 hg2 ?_
  refine a6 hg2 ?_
  refine aa (aQ rfl hg2 (rfl : _ = AV.p (.c _)))<|ae<|aN rfl rfl<|ab hP<|aa (aS hT rfl rfl rfl (es := [_, _, _, _, _, _]) rfl)<|aE hT rfl<|ai rfl<|ae<|am ?_
  refine bS rfl (.inr rfl) (aO hT rfl rfl rfl rfl (cs := [_, _, _, _, _, _]) rfl rfl) (bC rfl) ?_ bv
  exact aB (yJ (.inl hg2_))
 have hg2_ := dF0 hg2
 refine aD hg2 (aT hT rfl rfl rfl rfl (cs := [_, _]) rfl rfl) ?_
 refine aD hg2 (ah (ml _ lz)) ?_
 refine aa (aP rfl hg2 (rfl : _ = AV.p (.c _)))<|ae ?_
 refine aA rfl (fun hb3 => ?_) (fun hb3 => ?_)
 ·refine ab hP<|aa (aS hT rfl rfl rfl (es := [_, _, _, _, _, _]) rfl)<|aE hT rfl<|ai rfl<|ae<|am ?_
  refine bS rfl (.inr rfl) (aO hT rfl rfl rfl rfl (cs := [_, _, _, _, _, _]) rfl rfl) (bC rfl) ?_ bv
  exact aB (yJ (.inr hb3))
 refine ao<|ab hP<|aa (ah (dE _ (by first | assumption | decide))) ?_
 refine av hT rfl<|av hT rfl<|aa (ah (fQ _)) ?_
 refine aa (aS hT rfl rfl rfl (es := [_, _, _, _, _, _]) rfl)<|aE hT rfl<|ai rfl<|ae<|am ?_
 refine bS rfl (.inr rfl) (aO hT rfl rfl rfl rfl (cs := [_, _, _, _, _, _]) rfl rfl) (bC rfl) ?_ bv
 exact aB (C9 hg2_ hb3)
theorem C3 (ws : List Nat) (hok : okW ws) :
  aG Tryz.prog 121 [.p (.c (W ws))] (.p (.c (nt (wv ws)))) := by
 refine aH Tryz.func121 rfl rfl rfl rfl ?_
 refine jx (t := 0) rfl rfl (fun hlen => ?_)
 refine ab hP<|ai rfl<|ae<|ak<|ay<|bj (ι := List Nat) (fun l => stL [(0, .p (.c (W l)))] []) (fun l => okW l ∧ wv l = wv ws ∧ l.length ≤ 140737488355328) (fun l => l.length) ws ⟨hok, rfl, hlen⟩ (aC ⟨.refl _, trivial⟩ trivial) ?_
 rintro l ⟨hl, hv, hn⟩
 refine ak<|ab hP<|aj rfl<|aa (aZ hT rfl rfl rfl rfl)<|aa (bK rfl rfl)<|aj rfl ?_
 refine a8 (t := 6) rfl (fun hg1 => ?_) (fun hg1 => ?_)
 ·have hg1_ := dT0 hg1
  refine aD hg1 (aw (rfl : _ = AV.p (.c _))) ?_
  refine aD hg1 (aw (rfl : _ = AV.p (.c _))) ?_
  refine aD hg1 (aZ hT rfl rfl rfl rfl) ?_
  refine aD hg1 (bA rfl rfl (by first | exact iW0 _ (by omega) | rfl)) ?_
  refine aD hg1 (by first | exact eW hT rfl rfl rfl rfl rfl rfl (by omega) | exact ce hT rfl rfl rfl rfl rfl rfl (by omega) (by first | exact jW (by omega) | simp)) ?_
  refine aD hg1 (bJ hT rfl rfl rfl (by first | rfl | exact lL (by omega))) ?_
  refine aD hg1 (bd rfl rfl) ?_
  refine aa (aQ rfl hg1 (rfl : _ = AV.p (.c _)))<|ae ?_
  refine aA rfl (fun hb2 => ?_) (fun hb2 => ?_)
  ·have hb2_ := bT hb2
   refine ao<|ay<|au hP<|aj rfl<|aj rfl<|aa (aZ hT rfl rfl rfl rfl)<|aa (bA rfl rfl (by first | exact iW0 _ (by omega) | rfl)) ?_
   refine aa (iY hT rfl rfl rfl rfl rfl rfl (by omega)) ?_
   refine ai rfl<|ae ?_
   have e : ((l.length : Int) - 1).toNat = l.length - 1 := by omega
   refine ⟨l.take (l.length - 1), ⟨hl.take _, ?_, ?_⟩, ?_, aC ⟨aB ?_, trivial⟩ trivial⟩
   ·rw [oQ (by omega) (by rw [← e]; omega), hv]
   ·rw [List.length_take]; omega
   ·rw [List.length_take]; omega
   show AV.p (.c (W (l.take ((l.length : Int) - 1).toNat))) = _
   rw [e]
  have hb2_ := bF hb2
  refine aV<|ab hP<|aj rfl<|ai rfl<|ae<|am<|E1 rfl rfl ?_
  have e : ((l.length : Int) - 1).toNat = l.length - 1 := by omega
  refine aB ?_
  rw [← hv, oD hl (.inr (by rw [← e]; omega))]
 have hg1_ := dF0 hg1
 iterate 7 refine a6 hg1 ?_
 refine aa (aP rfl hg1 (rfl : _ = AV.p (.c _)))<|ae<|aI rfl rfl<|aV<|ab hP<|aj rfl<|ai rfl<|ae<|am<|E1 rfl rfl ?_
 refine aB ?_
 rw [← hv, oD hl (.inl (by omega))]
theorem ur (neg : Bool) (ws : List Nat) (h : okW ws) :
  aG Tryz.prog 51 [B neg, .p (.c (W ws))] (I (sg neg (wv ws))) := by
 refine aH Tryz.func51 rfl rfl rfl rfl ?_
 refine ab hP<|an ag (az hT rfl rfl)<|ae<|ab hP<|aj rfl<|aa (ah (C3 _ h)) ?_
 refine ai rfl<|ae<|ak<|ab hP<|aj rfl<|aa (aZ hT rfl rfl rfl rfl)<|aa (bd rfl rfl)<|ae ?_
 refine aA rfl (fun hb1 => ?_) (fun hb1 => ?_)
 ·have hb1_ := bT hb1
  refine ab hP<|aa (aS hT rfl rfl rfl (es := [_, _]) rfl)<|aE hT rfl<|ae<|am<|E2 hT rfl rfl rfl rfl rfl rfl rfl ?_
  have h0 : wv ws = 0 := mI (by omega)
  rw [h0, rE]
  exact .refl _
 have hb1_ := bF hb1
 refine ao<|ab hP<|aj rfl<|aj rfl<|aa (aS hT rfl rfl rfl (es := [_, _]) rfl)<|aE hT rfl<|ae<|am<|E2 hT rfl rfl rfl rfl rfl rfl rfl ?_
 have h0 : 0 < wv ws := by
  rcases Nat.eq_zero_or_pos (wv ws) with e | e
  ·rw [e] at hb1_; exact absurd rfl hb1_
  exact e
 exact aB (by show _ = AV.p (.a [zn _, zm _]); rw [xY h0, xZ])
theorem pA (z : Int) (hz : a7 z) :
  aG Tryz.prog 10 [.p (.c (.v (.int .i64 z)))] (I z) := by
 have hz1 : z.natAbs < 18446744073709551616 := by unfold a7 at hz; omega
 refine aH Tryz.func10 rfl rfl rfl rfl ?_
 refine ab hP<|an ag (az hT rfl rfl)<|ae<|ab hP<|aj rfl<|aa (aY hT rfl rfl rfl rfl sN) ?_
 refine ai rfl<|ae<|ak<|ab hP<|aj rfl<|aa (aU rfl rfl)<|ae ?_
 refine aA rfl (fun hb1 => ?_) (fun hb1 => ?_)
 ·have hb1_ := dT0 hb1
  refine au hP<|aj rfl<|aa (eO rfl (vN hz hb1_)) ?_
  refine ai rfl<|ae<|ab hP<|aj rfl<|aa (aU rfl rfl)<|aj rfl<|aa (aY hT rfl rfl rfl rfl (c := ((z.natAbs % 4294967296 : Nat) : Int)) (by first | exact jh _ | exact yM hz hb1_)) ?_
  refine aj rfl<|aa (dJ (j := 32) rfl rfl (by decide)) ?_
  refine aa (aY hT rfl rfl rfl rfl (c := ((z.natAbs / 2 ^ 32 : Nat) : Int)) (by first | exact uI hz | exact yN hz hb1_)) ?_
  refine aa (aW hT rfl rfl rfl (es := [_, _]) rfl rfl rfl)<|aa (ah (ur _ [z.natAbs % 4294967296, z.natAbs / 2 ^ 32] (mT (by omega)))) ?_
  refine aE hT rfl<|ae<|am<|E2 hT rfl rfl rfl rfl rfl rfl rfl ?_
  exact Sub.I (by rw [oP]; exact tf)
 have hb1_ := dF0 hb1
 refine ao<|ab hP<|aj rfl<|aa (aU rfl rfl)<|aj rfl<|aa (aY hT rfl rfl rfl rfl (c := ((z.natAbs % 4294967296 : Nat) : Int)) (by first | exact jh _ | exact yM hz hb1_)) ?_
 refine aj rfl<|aa (dJ (j := 32) rfl rfl (by decide)) ?_
 refine aa (aY hT rfl rfl rfl rfl (c := ((z.natAbs / 2 ^ 32 : Nat) : Int)) (by first | exact uI hz | exact yN hz hb1_)) ?_
 refine aa (aW hT rfl rfl rfl (es := [_, _]) rfl rfl rfl)<|aa (ah (ur _ [z.natAbs % 4294967296, z.natAbs / 2 ^ 32] (mT (by omega)))) ?_
 refine aE hT rfl<|ae<|am<|E2 hT rfl rfl rfl rfl rfl rfl rfl ?_
 exact Sub.I (by rw [oP]; exact tf)
end
section
open Go Go.AM
end
section
open Go Go.AM
end
section
open Go Go.AM
end
section
open Go Go.AM
end
section
open Go Go.AM
end
section
open Go Go.AM
theorem kE (N : Int) (h1 : 0 ≤ N) (h2 : N ≤ 4194304) :
  Iter Tryz.prog 176 [[.v (.int .i64 N)]] (trI N) := by
 refine sf Tryz.func176 (by kernel_rfl) rfl rfl (bL0 rfl) rfl ?_
 intro l n0 J hK
 refine db ?_
 refine cB hP ?_
 refine ai rfl<|ae<|fV ?_
 refine nD (ι := Int × Nat) (fun p => stL [(0, .p (.c (.v (.func (.yield l) #[] #[])))), (1, .ip [.v (.int .i64 N)]), (3, Z p.1)] []) (fun p => p.2) (fun p => (trs N).drop p.2 = dG N (2001 - p.1).toNat p.1 ∧ 1 ≤ p.1 ∧ p.1 ≤ 1184 ∧ p.2 ≤ (trs N).length) (fun p => (2000 - p.1).toNat) (1, 0) ⟨wy N, by decide, by decide, by simp⟩ rfl (aC ⟨.refl _, .refl _, .refl _, trivial⟩ trivial) ?_
 rintro p ⟨hI, ha1, ha2, hpk⟩
 have hsq := Gp ⟨ha1, ha2⟩
 refine db ?_
 refine db ?_
 refine cB hP ?_
 refine aj rfl<|aa (bH rfl rfl (by first | exact iW0 _ (by omega) | rfl)) ?_
 refine aj rfl<|aa (bH rfl rfl (by first | exact iW0 _ (by omega) | rfl)) ?_
 refine cz hT rfl rfl rfl ?_
 refine aa (ie rfl rfl)<|ae ?_
 refine gR rfl (fun hb1 => ?_) (fun hb1 => ?_)
 ·have hb1_ := dT0 hb1
  have ha3 := y5 ha1 hb1_ h2
  refine fw ?_
  refine db ?_
  refine fV ?_
  refine db ?_
  refine cB hP ?_
  refine aj rfl<|aa (bA rfl rfl (by first | exact iW0 _ (by omega) | rfl)) ?_
  refine ai rfl<|ae<|fV ?_
  refine nD (ι := Int × Nat) (fun q => stL [(0, .p (.c (.v (.func (.yield l) #[] #[])))), (1, .ip [.v (.int .i64 N)]), (3, Z p.1), (4, Z q.1)] []) (fun q => q.2) (fun q => (trs N).drop q.2 = dO N p.1 (p.1 + 1 - q.1).toNat q.1 ++ dG N (2000 - p.1).toNat (p.1 + 1) ∧ 1 - p.1 ≤ q.1 ∧ q.1 ≤ p.1 + 1 ∧ q.2 ≤ (trs N).length) (fun q => (p.1 + 1 - q.1).toNat) (1 - p.1, p.2) ⟨EI hI ⟨ha1, ha2⟩ hb1_, by simp only; omega, by simp only; omega, hpk⟩ rfl (aC ⟨.refl _, .refl _, .refl _, .refl _, trivial⟩ trivial) ?_
  rintro q ⟨hJ, hq1, hq2, hqk⟩
  refine db ?_
  refine db ?_
  refine cB hP ?_
  refine aj rfl<|aj rfl<|aa (ie rfl rfl)<|ae ?_
  refine gR rfl (fun hb2 => ?_) (fun hb2 => ?_)
  ·have hb2_ := dT0 hb2
   have qs := ki (x := q.1) (m := 1184) (by omega)
   have qc := Ha (x := q.1 * q.1 + N) (y := 4 * p.1) (by omega) (by omega)
   refine fw ?_
   refine db ?_
   refine fV ?_
   refine db ?_
   refine cB hP ?_
   refine aj rfl<|aj rfl<|aa (bH rfl rfl (by first | exact iW0 _ (by omega) | rfl)) ?_
   refine cz hT rfl rfl rfl ?_
   refine bp rfl rfl ?_
   refine aj rfl<|aa (bH rfl rfl (by first | exact iW0 _ (by omega) | rfl)) ?_
   refine aa (dU rfl rfl (by omega) (c := ((q.1 * q.1 + N) / (4 * p.1))) (by rw [Int.tdiv_eq_ediv_of_nonneg (by omega), iW0 _ (by omega)])) ?_
   refine ai rfl<|ae<|db ?_
   refine db ?_
   refine cB hP ?_
   refine aj rfl<|aj rfl<|aa (bH rfl rfl (by first | exact iW0 _ (by omega) | rfl)) ?_
   refine cz hT rfl rfl rfl ?_
   refine bp rfl rfl ?_
   refine aj rfl<|aa (bH rfl rfl (by first | exact iW0 _ (by omega) | rfl)) ?_
   refine aa (cr rfl rfl (by omega) (c := ((q.1 * q.1 + N) % (4 * p.1))) (Int.tmod_eq_emod_of_nonneg (by omega))) ?_
   refine aa (bh rfl rfl)<|aj rfl ?_
   refine a8 (t := 38) rfl (fun hg3 => ?_) (fun hg3 => ?_)
   ·have hg3_ := b9 hg3
    iterate 3 refine a6 hg3 ?_
    refine aa (aQ rfl hg3 (rfl : _ = AV.p (.c _)))<|aj rfl<|a6 rfl ?_
    refine a6 rfl ?_
    refine a6 rfl ?_
    iterate 3 refine eB ?_
    refine a6 rfl ?_
    refine aa (aQ rfl rfl (rfl : _ = AV.p (.c _)))<|ae<|kN rfl rfl ?_
    refine gQ ?_
    refine cB hP ?_
    refine aj rfl<|bp rfl rfl ?_
    refine ai rfl<|ae ?_
    refine ⟨(q.1 + 1, q.2), ⟨sO hJ hb2_ (FD hg3_), by simp only; omega, by simp only; omega, hqk⟩, by simp only; omega, rfl, aC ⟨.refl _, .refl _, .refl _, .refl _, trivial⟩ trivial⟩
   have hg3_ := bY hg3
   have hz : ((q.1 * q.1 + N) % (4 * p.1)) = 0 := hg3_
   refine aD hg3 (aw (rfl : _ = AV.p (.c _))) ?_
   refine aD hg3 (aw (rfl : _ = AV.p (.c _))) ?_
   refine aD hg3 (aU rfl rfl) ?_
   refine aa (aP rfl hg3 (rfl : _ = AV.p (.c _)))<|aj rfl ?_
   refine a8 (t := 43) rfl (fun hg4 => ?_) (fun hg4 => ?_)
   ·have hg4_ := dT0 hg4
    iterate 3 refine a6 hg4 ?_
    iterate 3 refine eB ?_
    refine a6 hg4 ?_
    refine aa (aQ rfl hg4 (rfl : _ = AV.p (.c _)))<|ae<|kN rfl rfl ?_
    refine gQ ?_
    refine cB hP ?_
    refine aj rfl<|bp rfl rfl ?_
    refine ai rfl<|ae ?_
    refine ⟨(q.1 + 1, q.2), ⟨sO hJ hb2_ (Fz hz hg4_), by simp only; omega, by simp only; omega, hqk⟩, by simp only; omega, rfl, aC ⟨.refl _, .refl _, .refl _, .refl _, trivial⟩ trivial⟩
   have hg4_ := dF0 hg4
   refine aD hg4 (aw (rfl : _ = AV.p (.c _))) ?_
   refine aD hg4 (aU rfl rfl) ?_
   refine aD hg4 (aw (rfl : _ = AV.p (.c _))) ?_
   refine a8 (t := 46) rfl (fun hg5 => ?_) (fun hg5 => ?_)
   ·have hg5_ := dT0 hg5
    refine aD hg5 (aw (rfl : _ = AV.p (.c _))) ?_
    refine aD hg5 (aw (rfl : _ = AV.p (.c _))) ?_
    refine aD hg5 (bd rfl rfl) ?_
    refine aD hg4 (aQ rfl hg5 (rfl : _ = AV.p (.c _))) ?_
    refine aa (aP rfl hg4 (rfl : _ = AV.p (.c _)))<|ae ?_
    refine gR rfl (fun hb6 => ?_) (fun hb6 => ?_)
    ·have hb6_ := bT hb6
     refine gQ ?_
     refine cB hP ?_
     refine aj rfl<|bp rfl rfl ?_
     refine ai rfl<|ae ?_
     refine ⟨(q.1 + 1, q.2), ⟨sO hJ hb2_ (Fy hz hg4_ hg5_ hb6_), by simp only; omega, by simp only; omega, hqk⟩, by simp only; omega, rfl, aC ⟨.refl _, .refl _, .refl _, .refl _, trivial⟩ trivial⟩
    have hb6_ := bF hb6
    have hy := tZ hJ hb2_ (Fx hz hg4_ hb6_)
    refine fw ?_
    refine db ?_
    refine j0 ?_
    iterate 4 refine RJ.val ag (aw (rfl : _ = AV.p (.c _))) ?_
    refine RJ.val ag (aS hT rfl rfl rfl (es := [_, _, _]) rfl) ?_
    refine RJ.yield hK ag rfl rfl (ua hy) ?_
    refine RJ.val ag (bM rfl) ?_
    refine RJ.done ?_
    refine fe rfl rfl ?_
    refine fw ?_
    refine cB hP ?_
    refine aj rfl<|bp rfl rfl ?_
    refine ai rfl<|ae ?_
    refine ⟨(q.1 + 1, q.2 + 1), ⟨rp hy, by simp only; omega, by simp only; omega, yE hy⟩, by simp only; omega, rfl, aC ⟨.refl _, .refl _, .refl _, .refl _, trivial⟩ trivial⟩
   have hg5_ := dF0 hg5
   have hy := tZ hJ hb2_ (Fw hz hg4_ hg5_)
   iterate 3 refine a6 hg5 ?_
   refine aD hg4 (aP rfl hg5 (rfl : _ = AV.p (.c _))) ?_
   refine aa (aP rfl hg4 (rfl : _ = AV.p (.c _)))<|ae<|fe rfl rfl ?_
   refine fw ?_
   refine db ?_
   refine j0 ?_
   iterate 4 refine RJ.val ag (aw (rfl : _ = AV.p (.c _))) ?_
   refine RJ.val ag (aS hT rfl rfl rfl (es := [_, _, _]) rfl) ?_
   refine RJ.yield hK ag rfl rfl (ua hy) ?_
   refine RJ.val ag (bM rfl) ?_
   refine RJ.done ?_
   refine fe rfl rfl ?_
   refine fw ?_
   refine cB hP ?_
   refine aj rfl<|bp rfl rfl ?_
   refine ai rfl<|ae ?_
   refine ⟨(q.1 + 1, q.2 + 1), ⟨rp hy, by simp only; omega, by simp only; omega, yE hy⟩, by simp only; omega, rfl, aC ⟨.refl _, .refl _, .refl _, .refl _, trivial⟩ trivial⟩
  have hb2_ := dF0 hb2
  refine gQ ?_
  refine cB hP ?_
  refine aj rfl<|bp rfl rfl ?_
  refine ai rfl<|ae ?_
  refine ⟨(p.1 + 1, q.2), ⟨CA hJ hb2_, by simp only; omega, by simp only; omega, hqk⟩, by simp only; omega, rfl, aC ⟨.refl _, .refl _, .refl _, trivial⟩ trivial⟩
 have hb1_ := dF0 hb1
 refine gQ ?_
 refine ⟨.inl rfl, ?_⟩
 exact CC hI hb1_ hpk
end
section
open Go Go.AM
theorem iK (z : Int) (hz : a7 z) :
  aG Tryz.prog 175 [Z z] (I z) := by
 refine aH Tryz.func175 rfl rfl rfl rfl ?_
 refine ab hP<|an ag (az hT rfl rfl)<|ae<|ab hP<|aj rfl<|aa (ah (dm _ (by first | assumption | decide))) ?_
 refine aE hT rfl<|ae<|am<|E2 hT rfl rfl rfl rfl rfl rfl rfl ?_
 exact .refl _
theorem Dr (z : Int) (hz : a7 z) :
  aG Tryz.prog 247 [Z z] (I z) := by
 refine aH Tryz.func247 rfl rfl rfl rfl ?_
 refine ab hP<|an ag (az hT rfl rfl)<|ae<|ab hP<|aj rfl<|aa (ah (dm _ (by first | assumption | decide))) ?_
 refine aE hT rfl<|ae<|am<|E2 hT rfl rfl rfl rfl rfl rfl rfl ?_
 exact .refl _
theorem Ee (a b c : Int) (ha : a7 a) (hb : a7 b) (hc : a7 c) :
  aG Tryz.prog 124 [.p (.a [.v (.int .i64 a), .v (.int .i64 b), .v (.int .i64 c)])] (FA a b c) := by
 refine aH Tryz.func124 rfl rfl rfl rfl ?_
 refine ab hP<|an ag (aK rfl rfl)<|an ag (az hT rfl rfl)<|ae<|ab hP<|aM hT rfl<|bn hT rfl rfl rfl rfl ?_
 refine aa (ah (iK _ (by first | assumption | decide))) ?_
 refine aM hT rfl<|bn hT rfl rfl rfl rfl ?_
 refine aa (ah (iK _ (by first | assumption | decide))) ?_
 refine aM hT rfl<|bn hT rfl rfl rfl rfl ?_
 refine aa (ah (iK _ (by first | assumption | decide))) ?_
 refine aa (aS hT rfl rfl rfl (es := [_, _, _, _, _, _]) rfl)<|aE hT rfl<|ae<|am ?_
 refine dl rfl (.inr rfl) (aO hT rfl rfl rfl rfl (cs := [_, _, _, _, _, _]) rfl rfl) ?_ bv
 exact .refl _
theorem yP (x : Int) :
  aG Tryz.prog 218 [I x] (B (decide (x = 1))) := by
 refine aH Tryz.func218 rfl rfl rfl rfl ?_
 refine ab hP<|an ag (aK rfl rfl)<|ai rfl<|ae<|ab hP<|av hT rfl<|aa (ah (Dr _ (by first | assumption | decide))) ?_
 refine aa (ah (cY _ _)) ?_
 refine aa (bd rfl rfl)<|ai rfl<|ae<|am<|E1 rfl rfl ?_
 exact bU (by rw [Bool.eq_iff_iff]; simp [cmpI_eq_zero])
theorem tr (x : Int) :
  aG Tryz.prog 219 [I x] (B (cH x)) := by
 refine aH Tryz.func219 rfl rfl rfl rfl ?_
 refine ab hP<|an ag (aK rfl rfl)<|ai rfl<|ae<|ab hP<|aM hT rfl<|bn hT rfl rfl rfl rfl ?_
 refine aa (aZ hT rfl rfl rfl rfl)<|aa (bK rfl rfl)<|aj rfl ?_
 refine a8 (t := 7) rfl (fun hg1 => ?_) (fun hg1 => ?_)
 ·have hg1_ := dT0 hg1
  refine aD hg1 (bw hT rfl rfl rfl rfl rfl rfl) ?_
  refine aD hg1 (de hT rfl rfl rfl rfl (by first | rfl | exact jC (by omega))) ?_
  refine aD hg1 (by first | exact eW hT rfl rfl rfl rfl rfl rfl (by omega) | exact ce hT rfl rfl rfl rfl rfl rfl (by omega) (by first | exact jW (by omega) | simp)) ?_
  refine aD hg1 (bJ hT rfl rfl rfl (by first | rfl | exact lL (by omega))) ?_
  refine aD hg1 (mS (m := (wl x.natAbs).getD 0 0) (n := 1) rfl rfl rfl (gA ((bR x.natAbs).getD 0)) (by decide)) ?_
  refine aD hg1 (bd rfl rfl) ?_
  refine aa (aQ rfl hg1 (rfl : _ = AV.p (.c _)))<|ai rfl<|ae<|am<|E1 rfl rfl ?_
  exact bU (AG hg1_)
 have hg1_ := dF0 hg1
 iterate 6 refine a6 hg1 ?_
 refine aa (aP rfl hg1 (rfl : _ = AV.p (.c _)))<|ai rfl<|ae<|am<|E1 rfl rfl ?_
 exact bU (Dl hg1_)
theorem ms (x y : Int) (hx : L 44 x) (hy : L 44 y) (h0 : y ≠ 0) :
  aG Tryz.prog 213 [I x, I y] (I (x % y)) := by
 have ix : LB x 44 := ⟨hx⟩
 have iy : LB y 44 := ⟨hy⟩
 refine aH Tryz.func213 rfl rfl rfl rfl ?_
 refine ab hP<|an ag (aK rfl rfl)<|an ag (aK rfl rfl)<|an ag (az hT rfl rfl)<|ae<|ab hP<|av hT rfl<|av hT rfl<|aa (ah (cU _ _ lz lz h0)) ?_
 refine aa (aw (rfl : _ = AV.t _))<|aa (aq rfl (v := .a _) rfl)<|aa (aq rfl (v := .a _) rfl)<|aa (aq rfl (v := .c _) rfl)<|an ag (az hT rfl rfl)<|an ag (az hT rfl rfl)<|aE hT rfl<|aE hT rfl<|ai rfl<|ae<|ab hP<|av hT rfl<|aE hT rfl<|ae<|am<|E2 hT rfl rfl rfl rfl rfl rfl rfl ?_
 exact .refl _
theorem FG (x y : Int) (hx : L 44 x) (hy : L 44 y) (h0 : y ≠ 0) :
  aG Tryz.prog 248 [I x, I y] (I (x / y)) := by
 have ix : LB x 44 := ⟨hx⟩
 have iy : LB y 44 := ⟨hy⟩
 refine aH Tryz.func248 rfl rfl rfl rfl ?_
 refine ab hP<|an ag (aK rfl rfl)<|an ag (aK rfl rfl)<|an ag (az hT rfl rfl)<|ae<|ab hP<|av hT rfl<|av hT rfl<|aa (ah (cU _ _ lz lz h0)) ?_
 refine aa (aw (rfl : _ = AV.t _))<|aa (aq rfl (v := .a _) rfl)<|aa (aq rfl (v := .a _) rfl)<|aa (aq rfl (v := .c _) rfl)<|an ag (az hT rfl rfl)<|an ag (az hT rfl rfl)<|aE hT rfl<|aE hT rfl<|ai rfl<|ae<|ab hP<|av hT rfl<|aE hT rfl<|ae<|am<|E2 hT rfl rfl rfl rfl rfl rfl rfl ?_
 exact .refl _
theorem oF (x m : Int) (hm : m = 4 ∨ m = 8) :
  aG Tryz.prog 221 [I x, .p (.c (.v (.int .u32 m)))] (.p (.c (.v (.int .u32 (x % m))))) := by
 have hm0 : 0 < m ∧ m < 10 := by omega
 have hb := Int.emod_nonneg (x.natAbs : Int) (show m ≠ 0 by omega)
 have hb2 := Int.emod_lt_of_pos (x.natAbs : Int) hm0.1
 refine aH Tryz.func221 rfl rfl rfl rfl ?_
 refine ab hP<|an ag (aK rfl rfl)<|ai rfl<|ae<|ak<|ab hP<|aM hT rfl<|bn hT rfl rfl rfl rfl ?_
 refine aa (aZ hT rfl rfl rfl rfl)<|aa (bd rfl rfl)<|ae ?_
 refine aA rfl (fun hb1 => ?_) (fun hb1 => ?_)
 ·have hb1_ := bT hb1
  refine ab hP<|ai rfl<|ae<|am<|E1 rfl rfl ?_
  exact aB (by rw [xi hb1_])
 have hb1_ := bF hb1
 refine ao<|ab hP<|aM hT rfl<|bn hT rfl rfl rfl rfl ?_
 refine cI ?_
 refine cz hT rfl rfl rfl ?_
 refine aj rfl<|aa (cr rfl rfl (by omega) (c := (x.natAbs : Int) % m) (by rw [Int.tmod_eq_emod_of_nonneg (by omega)]; exact AZ hm hb1_)) ?_
 refine ai rfl<|ae<|ak<|ab hP<|aM hT rfl<|bn hT rfl rfl rfl rfl ?_
 refine aj rfl ?_
 refine a8 (t := 18) rfl (fun hg2 => ?_) (fun hg2 => ?_)
 ·refine aD hg2 (aw (rfl : _ = AV.p (.c _))) ?_
  refine aD hg2 (bK rfl rfl) ?_
  refine aa (aQ rfl hg2 (rfl : _ = AV.p (.c _)))<|ae ?_
  refine aA rfl (fun hb3 => ?_) (fun hb3 => ?_)
  ·have hb3_ := dT0 hb3
   refine au hP<|aj rfl<|aj rfl<|aa (bA rfl rfl (by first | exact IntWalk.u32_in _ (by omega) | rfl)) ?_
   refine ai rfl<|ae<|ab hP<|aj rfl<|ai rfl<|ae<|am<|E1 rfl rfl ?_
   exact aB (by rw [AY hm (dT0 hg2) hb3_])
  have hb3_ := dF0 hb3
  refine ao<|ab hP<|aj rfl<|ai rfl<|ae<|am<|E1 rfl rfl ?_
  exact aB (by rw [xj hm (dT0 hg2) hb3_])
 refine a6 hg2 ?_
 refine a6 hg2 ?_
 refine aa (aP rfl hg2 (rfl : _ = AV.p (.c _)))<|ae<|aI rfl rfl<|ao<|ab hP<|aj rfl<|ai rfl<|ae<|am<|E1 rfl rfl ?_
 exact aB (by rw [AX (dF0 hg2)])
theorem yZ (x y : Int) (hx : -9223372036854775807 ≤ x ∧ x ≤ 9223372036854775807) (hy : -9223372036854775807 ≤ y ∧ y ≤ 9223372036854775807) :
  aG Tryz.prog 185 [Z x, Z y] (Z (Int.gcd x y : Nat)) := by
 refine aH Tryz.func185 rfl rfl rfl rfl ?_
 refine ab hP<|ai rfl<|ae<|ak<|ay<|bj (ι := Int × Int) (fun p => stL [(0, Z p.1), (1, Z p.2)] []) (fun p => Int.gcd p.1 p.2 = Int.gcd x y ∧ (-9223372036854775807 ≤ p.1 ∧ p.1 ≤ 9223372036854775807) ∧ (-9223372036854775807 ≤ p.2 ∧ p.2 ≤ 9223372036854775807)) (fun p => p.2.natAbs) (x, y) ⟨rfl, hx, hy⟩ (aC ⟨.refl _, .refl _, trivial⟩ trivial) ?_
 rintro p ⟨hG, hp1, hp2⟩
 refine ak<|ab hP<|aj rfl<|aa (bh rfl rfl)<|ae ?_
 refine aA rfl (fun hb1 => ?_) (fun hb1 => ?_)
 ·have hb1_ := b9 hb1
  refine ao<|ay<|au hP<|aj rfl<|aj rfl<|aj rfl<|aa (cr rfl rfl hb1_ (c := p.1.tmod p.2) rfl) ?_
  refine ai rfl<|ai rfl<|ae ?_
  obtain ⟨k1, k2, k3⟩ := xv hb1_ hp1 hp2
  refine ⟨(p.2, p.1.tmod p.2), ⟨k1.trans hG, hp2, k2⟩, k3, aC ⟨.refl _, .refl _, trivial⟩ trivial⟩
 have hb1_ := bY hb1
 refine aV<|ab hP<|aj rfl<|aj rfl<|aa (eO rfl (by first | exact iW0 _ (by omega) | rfl)) ?_
 refine aa (pL rfl rfl)<|ai rfl<|ae<|am<|E1 rfl rfl ?_
 exact aB (by rw [Bf hb1_ hG])
end
section
open Go Go.AM
theorem uO (x : Int) (hx : L 40 x) (h0 : x ≠ 0) :
  aG Tryz.prog 220 [I x] (.t [PI (tw x).1, PE (tw x).2]) := by
 refine aH Tryz.func220 rfl rfl rfl rfl ?_
 refine ab hP<|an ag (aK rfl rfl)<|an ag (az hT rfl rfl)<|ai rfl<|ae<|ab hP<|ai rfl<|ae<|ak<|ay<|bj (ι := Int × Int) (fun p => stL [(1, .loc 1 0), (2, .loc 2 0), (4, Z p.2)] [(1, ⟨false, 1, 29, [zn (p.1), zm (p.1)]⟩), (2, ⟨false, 1, 29, [zn (0), zm (0)]⟩)]) (fun p => TwI x p.1 p.2) (fun p => p.1.natAbs) (x, 0) (TwI.start hx h0) (aC ⟨.refl _, .refl _, .refl _, trivial⟩ ⟨rfl, rfl, trivial⟩) ?_
 rintro p hI
 have hlt := hI.lt hx
 have hk0 := hI.k0
 have ib : LB p.1 40 := ⟨hI.lb⟩
 refine ak<|ab hP<|av hT rfl<|aa (ah (tr _)) ?_
 refine aa (bM rfl)<|ae ?_
 refine aA rfl (fun hb1 => ?_) (fun hb1 => ?_)
 ·have hb1_ := (dF hb1)
  refine ao<|ay<|ab hP<|av hT rfl<|aa (ah (Dr _ (by first | assumption | decide))) ?_
  refine aa (ah (FG _ _ lz lz (by first | assumption | decide))) ?_
  refine aE hT rfl<|ae<|au hP<|aj rfl<|bp rfl rfl ?_
  refine ai rfl<|ae ?_
  refine ⟨(p.1 / 2, p.2 + 1), (hI.next (by simpa using hb1)).1, (hI.next (by simpa using hb1)).2, aC ⟨.refl _, .refl _, .refl _, trivial⟩ ⟨rfl, rfl, trivial⟩⟩
 have hb1_ := (du hb1)
 refine aV<|ab hP<|av hT rfl<|aj rfl<|aE hT rfl<|ai rfl<|ae<|am ?_
 refine bS rfl (.inr rfl) (aO hT rfl rfl rfl rfl (cs := [_, _]) rfl rfl) (bC rfl) ?_ bv
 exact aB (by rw [zT (by simpa using hb1) hI.tw])
theorem fY (a m : Int) (ha : L 40 a) (hm : L 40 m) :
  aG Tryz.prog 184 [I a, I m] (Z (kr a m)) := by
 have ia : LB a 40 := ⟨ha⟩
 have im : LB m 40 := ⟨hm⟩
 have hkb := tz a m
 have hsg := p6 (x := a) hkb
 have hsg0 := Int.emod_nonneg a (show (8 : Int) ≠ 0 by omega)
 have hsg1 := Int.emod_lt_of_pos a (show (0 : Int) < 8 by omega)
 refine aH Tryz.func184 rfl rfl rfl rfl ?_
 refine ab hP<|an ag (aK rfl rfl)<|an ag (aK rfl rfl)<|ai rfl<|ae<|ak<|ab hP<|av hT rfl<|aa (ah (cn _)) ?_
 refine aa (bd rfl rfl)<|ae ?_
 refine aA rfl (fun hb1 => ?_) (fun hb1 => ?_)
 ·have hb1_ := bT hb1
  refine ak<|ab hP<|av hT rfl<|aa (ah (lh _)) ?_
  refine aa (ah (yP _)) ?_
  refine ae ?_
  refine aA rfl (fun hb2 => ?_) (fun hb2 => ?_)
  ·refine ab hP<|ai rfl<|ae<|am<|E1 rfl rfl ?_
   exact aL (GQ (sgn_zero_iff.1 hb1_) (dT0 hb2))
  refine ao<|ab hP<|ai rfl<|ae<|am<|E1 rfl rfl ?_
  exact aL (FP (sgn_zero_iff.1 hb1_) (dF0 hb2))
 have hb1_ := bF hb1
 refine ao<|cf (ι := Unit) (fun _ => stL [(2, .loc 2 0), (3, .loc 3 0)] [(2, ⟨false, 1, 29, [zn (a), zm (a)]⟩), (3, ⟨false, 1, 29, [zn (m), zm (m)]⟩)]) (fun _ => ¬ (cH a = false ∧ cH m = false)) ?_ ?_
 ·refine ab hP<|av hT rfl<|aa (ah (tr _)) ?_
  refine aa (bM rfl)<|aj rfl ?_
  refine a8 (t := 16) rfl (fun hg3 => ?_) (fun hg3 => ?_)
  ·have hg3_ := (dF hg3)
   refine aD hg3 (aT hT rfl rfl rfl rfl (cs := [_, _]) rfl rfl) ?_
   refine aD hg3 (ah (tr _)) ?_
   refine aD hg3 (bM rfl) ?_
   refine aa (aQ rfl hg3 (rfl : _ = AV.p (.c _)))<|ae ?_
   refine aA rfl (fun hb4 => ?_) (fun hb4 => ?_)
   ·have hb4_ := (dF hb4)
    refine ab hP<|ai rfl<|ae<|am<|E1 rfl rfl ?_
    exact aL (A2 (fun e => hb1_ (sgn_zero_iff.2 e)) hg3_ hb4_)
   have hb4_ := (du hb4)
   refine ao ?_
   refine ⟨(), fun x => (by rw [x.2] at hb4_; cases hb4_), aC ⟨.refl _, .refl _, trivial⟩ ⟨rfl, rfl, trivial⟩⟩
  have hg3_ := (du hg3)
  iterate 3 refine a6 hg3 ?_
  refine aa (aP rfl hg3 (rfl : _ = AV.p (.c _)))<|ae<|aI rfl rfl<|ao ?_
  refine ⟨(), fun x => (by rw [x.1] at hg3_; cases hg3_), aC ⟨.refl _, .refl _, trivial⟩ ⟨rfl, rfl, trivial⟩⟩
 intro _ hpar
 refine ab hP<|ai rfl<|ae<|cf (ι := Unit) (fun _ => stL [(2, .loc 2 0), (3, .loc 3 0), (5, Z (k0K a m))] [(2, ⟨false, 1, 29, [zn (a), zm (a)]⟩), (3, ⟨false, 1, 29, [zn ((m.natAbs : Int)), zm ((m.natAbs : Int))]⟩)]) (fun _ => True) ?_ ?_
 ·refine ab hP<|aM hT rfl<|bn hT rfl rfl rfl rfl ?_
  refine ae ?_
  refine aA rfl (fun hb5 => ?_) (fun hb5 => ?_)
  ·refine ak<|ab hP<|aM hT rfl<|bn hT rfl rfl rfl rfl ?_
   refine ae ?_
   refine aA rfl (fun hb6 => ?_) (fun hb6 => ?_)
   ·refine au hP<|ai rfl<|ae<|au hP<|av hT rfl<|aa (ah (fQ _)) ?_
    refine aE hT rfl<|ae ?_
    refine ⟨(), trivial, aC ⟨.refl _, .refl _, aL (by unfold k0K; rw [if_pos ⟨dT0 hb5, dT0 hb6⟩]), trivial⟩ ⟨rfl, by rw [rY (dT0 hb5)]; rfl, trivial⟩⟩
   refine ao<|au hP<|av hT rfl<|aa (ah (fQ _)) ?_
   refine aE hT rfl<|ae ?_
   refine ⟨(), trivial, aC ⟨.refl _, .refl _, aL (by unfold k0K; rw [if_neg (fun x => dF0 hb6 x.2)]), trivial⟩ ⟨rfl, by rw [rY (dT0 hb5)]; rfl, trivial⟩⟩
  refine ao ?_
  refine ⟨(), trivial, aC ⟨.refl _, .refl _, aL (by unfold k0K; rw [if_neg (fun x => dF0 hb5 x.1)]), trivial⟩ ⟨rfl, by rw [Au (dF0 hb5)]; rfl, trivial⟩⟩
 intro _ _
 have hn0 : (m.natAbs : Int) ≠ 0 := fun e => hb1_ (sgn_zero_iff.2 (by omega))
 refine ab hP<|av hT rfl<|aa (ah (uO _ lz hn0)) ?_
 refine aa (aw (rfl : _ = AV.t _))<|aa (aq rfl (v := .a _) rfl)<|aa (aq rfl (v := .c _) rfl)<|aE hT rfl<|ai rfl<|ae<|cf (ι := Unit) (fun _ => stL [(2, .loc 2 0), (3, .loc 3 0), (5, Z (k1K a m))] [(2, ⟨false, 1, 29, [zn (a), zm (a)]⟩), (3, ⟨false, 1, 29, [zn ((tw (m.natAbs : Int)).1), zm ((tw (m.natAbs : Int)).1)]⟩)]) (fun _ => True) ?_ ?_
 ·refine ab hP<|aj rfl<|aa (cr rfl rfl (by decide) (c := (tw (m.natAbs : Int)).2 % 2) (Int.tmod_eq_emod_of_nonneg (by have := Cy (x := (m.natAbs : Int)) lz hn0; omega))) ?_
  refine aa (bd rfl rfl)<|ae ?_
  refine aA rfl (fun hb7 => ?_) (fun hb7 => ?_)
  ·have hb7_ := bT hb7
   refine au hP<|aj rfl<|av hT rfl<|aa (ah (oF _ _ (by simp))) ?_
   refine aa (j8 hT rfl rfl rfl rfl (.head _) rfl rfl (by omega)) ?_
   refine aa (bJ hT rfl rfl rfl (rG a)) ?_
   refine aa (bH rfl rfl (by first | exact iW0 _ (by omega) | rfl)) ?_
   refine ai rfl<|ae ?_
   refine ⟨(), trivial, aC ⟨.refl _, .refl _, aL (by unfold k1K; rw [if_pos hb7_]), trivial⟩ ⟨rfl, rfl, trivial⟩⟩
  have hb7_ := bF hb7
  refine ao ?_
  refine ⟨(), trivial, aC ⟨.refl _, .refl _, aL (by unfold k1K; rw [if_neg hb7_]), trivial⟩ ⟨rfl, rfl, trivial⟩⟩
 intro _ _
 have htw : LB (tw (m.natAbs : Int)).1 40 := Cz lz hn0
 have ht0 : (tw (m.natAbs : Int)).1 ≠ 0 := (eR _ _ (Nat.le_refl _) hn0).2.1
 refine ab hP<|av hT rfl<|av hT rfl<|aa (ah (ms _ _ lz lz ht0)) ?_
 refine aE hT rfl<|ae<|ak<|ay<|bj (ι := (Int × Int × Int) × Nat) (fun i => stL [(2, .loc 2 0), (3, .loc 3 0), (5, Z (i.1.1))] [(2, ⟨false, 1, 29, [zn (i.1.2.1), zm (i.1.2.1)]⟩), (3, ⟨false, 1, 29, [zn (i.1.2.2), zm (i.1.2.2)]⟩)]) (fun i => KrI (RK_ a m) i.2 i.1.1 i.1.2.1 i.1.2.2) (fun i => i.1.2.1.natAbs) ((k1K a m, a % (tw (m.natAbs : Int)).1, (tw (m.natAbs : Int)).1), _) (KrI.start (fun e => hb1_ (sgn_zero_iff.2 e)) ha hm) (aC ⟨.refl _, .refl _, .refl _, trivial⟩ ⟨rfl, rfl, trivial⟩) ?_
 rintro i hI
 have h5 := hI.hk
 have j1 : LB i.1.2.1 40 := ⟨hI.la⟩
 have j2 : LB i.1.2.2 40 := ⟨hI.ln⟩
 refine ak<|ab hP<|av hT rfl<|aa (ah (cn _)) ?_
 refine aa (bK rfl rfl)<|ae ?_
 refine aA rfl (fun hb8 => ?_) (fun hb8 => ?_)
 ·have hb8_ := dT0 hb8
  have hapos : 0 < i.1.2.1 := sgn_gt_iff.1 hb8_
  have hne : i.1.2.1 ≠ 0 := by omega
  have hsg2 := p6 (x := i.1.2.2) h5
  have hkk := KrI.next hI hapos
  have hw : LB (tw i.1.2.1).1 40 := Cz hI.la hne
  have hw0 : (tw i.1.2.1).1 ≠ 0 := (eR _ _ (Nat.le_refl _) hne).2.1
  have hk1b := FU (a := i.1.2.1) (n := i.1.2.2) h5
  have hsg0 := Int.emod_nonneg i.1.2.2 (show (8 : Int) ≠ 0 by omega)
  have hsg1 := Int.emod_lt_of_pos i.1.2.2 (show (0 : Int) < 8 by omega)
  refine ao<|ay<|ab hP<|av hT rfl<|aa (ah (uO _ lz hne)) ?_
  refine aa (aw (rfl : _ = AV.t _))<|aa (aq rfl (v := .a _) rfl)<|aa (aq rfl (v := .c _) rfl)<|aE hT rfl<|ai rfl<|ae<|cf (ι := Unit) (fun _ => stL [(2, .loc 2 0), (3, .loc 3 0), (5, Z ((k1F i.1.1 i.1.2.1 i.1.2.2)))] [(2, ⟨false, 1, 29, [zn ((tw i.1.2.1).1), zm ((tw i.1.2.1).1)]⟩), (3, ⟨false, 1, 29, [zn (i.1.2.2), zm (i.1.2.2)]⟩)]) (fun _ => True) ?_ ?_
  ·refine ab hP<|aj rfl<|aa (cr rfl rfl (by decide) (c := (tw i.1.2.1).2 % 2) (Int.tmod_eq_emod_of_nonneg (by have := Cy (x := i.1.2.1) lz hne; omega))) ?_
   refine aa (bd rfl rfl)<|ae ?_
   refine aA rfl (fun hb9 => ?_) (fun hb9 => ?_)
   ·have hb9_ := bT hb9
    refine au hP<|aj rfl<|av hT rfl<|aa (ah (oF _ _ (by simp))) ?_
    refine aa (j8 hT rfl rfl rfl rfl (.head _) rfl rfl (by omega)) ?_
    refine aa (bJ hT rfl rfl rfl (rG i.1.2.2)) ?_
    refine aa (bH rfl rfl (by first | exact iW0 _ (by omega) | rfl)) ?_
    refine ai rfl<|ae ?_
    refine ⟨(), trivial, aC ⟨.refl _, .refl _, aL (by unfold k1F; rw [if_pos hb9_]), trivial⟩ ⟨rfl, rfl, trivial⟩⟩
   have hb9_ := bF hb9
   refine ao ?_
   refine ⟨(), trivial, aC ⟨.refl _, .refl _, aL (by unfold k1F; rw [if_neg hb9_]), trivial⟩ ⟨rfl, rfl, trivial⟩⟩
  intro _ _
  refine ak<|ab hP<|av hT rfl<|aa (ah (oF _ _ (by simp))) ?_
  refine aa (bd rfl rfl)<|aj rfl ?_
  refine a8 (t := 64) rfl (fun hg10 => ?_) (fun hg10 => ?_)
  ·have hg10_ := bT hg10
   refine aD hg10 (aT hT rfl rfl rfl rfl (cs := [_, _]) rfl rfl) ?_
   refine aD hg10 (ah (oF _ _ (by simp))) ?_
   refine aD hg10 (bd rfl rfl) ?_
   refine aa (aQ rfl hg10 (rfl : _ = AV.p (.c _)))<|ae ?_
   refine aA rfl (fun hb11 => ?_) (fun hb11 => ?_)
   ·have hb11_ := bT hb11
    refine au hP<|aj rfl<|aa (eO rfl (by first | exact iW0 _ (by omega) | rfl)) ?_
    refine ai rfl<|ae<|au hP<|av hT rfl<|av hT rfl<|aa (ah (ms _ _ lz lz hw0)) ?_
    refine av hT rfl<|aE hT rfl<|aE hT rfl<|ae ?_
    refine ⟨((k2F (k1F i.1.1 i.1.2.1 i.1.2.2) i.1.2.1 i.1.2.2, i.1.2.2 % (tw i.1.2.1).1, (tw i.1.2.1).1), i.2 - 1), (hI.next hapos).1, (hI.next hapos).2, aC ⟨.refl _, .refl _, aL (by show _ = k2F _ _ _; unfold k2F; rw [if_pos ⟨hg10_, hb11_⟩]; omega), trivial⟩ ⟨rfl, rfl, trivial⟩⟩
   have hb11_ := bF hb11
   refine ao<|au hP<|av hT rfl<|av hT rfl<|aa (ah (ms _ _ lz lz hw0)) ?_
   refine av hT rfl<|aE hT rfl<|aE hT rfl<|ae ?_
   refine ⟨((k2F (k1F i.1.1 i.1.2.1 i.1.2.2) i.1.2.1 i.1.2.2, i.1.2.2 % (tw i.1.2.1).1, (tw i.1.2.1).1), i.2 - 1), (hI.next hapos).1, (hI.next hapos).2, aC ⟨.refl _, .refl _, aL (by show _ = k2F _ _ _; unfold k2F; rw [if_neg (fun x => hb11_ x.2)]), trivial⟩ ⟨rfl, rfl, trivial⟩⟩
  have hg10_ := bF hg10
  iterate 3 refine a6 hg10 ?_
  refine aa (aP rfl hg10 (rfl : _ = AV.p (.c _)))<|ae<|aI rfl rfl<|ao<|au hP<|av hT rfl<|av hT rfl<|aa (ah (ms _ _ lz lz hw0)) ?_
  refine av hT rfl<|aE hT rfl<|aE hT rfl<|ae ?_
  refine ⟨((k2F (k1F i.1.1 i.1.2.1 i.1.2.2) i.1.2.1 i.1.2.2, i.1.2.2 % (tw i.1.2.1).1, (tw i.1.2.1).1), i.2 - 1), (hI.next hapos).1, (hI.next hapos).2, aC ⟨.refl _, .refl _, aL (by show _ = k2F _ _ _; unfold k2F; rw [if_neg (fun x => hg10_ x.1)]), trivial⟩ ⟨rfl, rfl, trivial⟩⟩
 have hb8_ := dF0 hb8
 refine aV<|ak<|ab hP<|av hT rfl<|aa (ah (yP _)) ?_
 refine aa (bM rfl)<|ae ?_
 refine aA rfl (fun hb12 => ?_) (fun hb12 => ?_)
 ·have hb12_ := (dF hb12)
  refine ab hP<|ai rfl<|ae<|am<|E1 rfl rfl ?_
  exact aL (by rw [tx (fun e => hb1_ (sgn_zero_iff.2 e)) hpar, hI.stop (fun h => hb8_ (sgn_gt_iff.2 h)), if_neg (dF0 hb12_)])
 have hb12_ := (du hb12)
 refine ao<|ab hP<|aj rfl<|ai rfl<|ae<|am<|E1 rfl rfl ?_
 exact aL (by rw [tx (fun e => hb1_ (sgn_zero_iff.2 e)) hpar, hI.stop (fun h => hb8_ (sgn_gt_iff.2 h)), if_pos (dT0 hb12_)])
end
section
open Go Go.AM
end
section
open Go Go.AM
theorem FH (a m : Int) (ha : L 40 a) (hm : L 40 m) (h0 : 0 < m) :
  aG Tryz.prog 180 [I a, I m] (.t [PI (a % m), PE 0]) := by
 have ia : LB a 40 := ⟨ha⟩
 have im : LB m 40 := ⟨hm⟩
 refine aH Tryz.func180 rfl rfl rfl rfl ?_
 refine ab hP<|an ag (aK rfl rfl)<|an ag (aK rfl rfl)<|an ag (az hT rfl rfl)<|ai rfl<|ae<|ak<|ab hP<|av hT rfl<|aa (ah (cn _)) ?_
 refine aa (aU rfl rfl)<|ae<|aI rfl (decide_eq_false (by have := sgn_gt_iff.2 h0; omega)) ?_
 refine ao<|ab hP<|av hT rfl<|av hT rfl<|aa (ah (ms _ _ lz lz (by omega))) ?_
 refine aE hT rfl<|ai rfl<|ae<|am ?_
 refine bS rfl (.inr rfl) (aO hT rfl rfl rfl rfl (cs := [_, _]) rfl rfl) (bC rfl) ?_ bv
 exact .refl _
theorem tG (a b c : Int) (ha : L 20 a) (hb : L 20 b) (hc : L 20 c) :
  aG Tryz.prog 182 [FA a b c] (.p (PE (rfE ⟨a, b, c⟩))) := by
 have ia : LB a 20 := ⟨ha⟩
 have ib : LB b 20 := ⟨hb⟩
 have ic : LB c 20 := ⟨hc⟩
 refine aH Tryz.func182 rfl rfl rfl rfl ?_
 refine ab hP<|an ag (aK rfl rfl)<|ai rfl<|ae<|ab hP<|bO hT rfl rfl rfl rfl rfl rfl<|aa (ah (kR _ _ _ lz lz lz)) ?_
 refine ai rfl<|ae<|ak<|ay<|ab hP<|aj rfl<|aa (bh rfl rfl)<|ai rfl<|ae ?_
 refine aA rfl (fun hb1 => ?_) (fun hb1 => ?_)
 ·have hb1_ := b9 hb1
  refine ab hP<|aj rfl<|ai rfl<|ae<|am<|E1 rfl rfl ?_
  exact aB (congrArg (fun x => AV.p (PE x)) (E7 (f := ⟨a, b, c⟩) (Hb hb1)))
 have hb1_ := bY hb1
 refine ab hP<|bO hT rfl rfl rfl rfl rfl rfl<|aa (ah (fz _ _ _ lz lz lz)) ?_
 refine aa (ah (cn _)) ?_
 refine aa (bK rfl rfl)<|ai rfl<|ae ?_
 refine aA rfl (fun hb2 => ?_) (fun hb2 => ?_)
 ·have hb2_ := dT0 hb2
  refine ab hP<|ai rfl<|ae<|am<|E1 rfl rfl ?_
  exact aB (congrArg (fun x => AV.p (PE x)) (E6 (f := ⟨a, b, c⟩) (tM hb1) hb2_))
 have hb2_ := dF0 hb2
 refine ab hP<|bO hT rfl rfl rfl rfl rfl rfl<|aa (ah (fX _ _ _ lz lz lz)) ?_
 refine aa (bM rfl)<|ai rfl<|ae ?_
 refine aA rfl (fun hb3 => ?_) (fun hb3 => ?_)
 ·have hb3_ := (dF hb3)
  refine ab hP<|ai rfl<|ae<|am<|E1 rfl rfl ?_
  exact aB (congrArg (fun x => AV.p (PE x)) (E5 (f := ⟨a, b, c⟩) (tM hb1) hb2_ (dF hb3)))
 have hb3_ := (du hb3)
 refine ao<|ab hP<|ai rfl<|ae<|am<|E1 rfl rfl ?_
 exact aB (congrArg (fun x => AV.p (PE x)) (E0 (f := ⟨a, b, c⟩) (tM hb1) hb2_ (du hb3)))
theorem tH (a b c : Int) (ha : L 26 a) (hb : L 26 b) (hc : L 26 c) :
  aG Tryz.prog 216 [FA a b c] (FA (rdF a b c).a (rdF a b c).b (rdF a b c).c) := by
 have ia : LB a 26 := ⟨ha⟩
 have ib : LB b 26 := ⟨hb⟩
 have ic : LB c 26 := ⟨hc⟩
 refine aH Tryz.func216 rfl rfl rfl rfl ?_
 refine ab hP<|an ag (aK rfl rfl)<|an ag (az hT rfl rfl)<|ae<|ab hP<|bO hT rfl rfl rfl rfl rfl rfl<|aa (ah (gZ _ _ _ lz lz lz)) ?_
 refine aa (aw (rfl : _ = AV.t _))<|aa (aq rfl (v := .a _) rfl)<|aa (aq rfl (v := .a _) rfl)<|aa (aq rfl (v := .c _) rfl)<|an ag (az hT rfl rfl)<|an ag (az hT rfl rfl)<|aE hT rfl<|aE hT rfl<|ai rfl<|ae<|ab hP<|bO hT rfl rfl rfl rfl rfl rfl<|aE hT rfl<|ae<|am ?_
 refine dl rfl (.inr rfl) (aO hT rfl rfl rfl rfl (cs := [_, _, _, _, _, _]) rfl rfl) ?_ bv
 exact .refl _
theorem qz (a b c : Int) (ha : L 20 a) (hb : L 20 b) (hc : L 20 c) :
  aG Tryz.prog 215 [FA a b c] (FA (prF (dsc a b c)).a (prF (dsc a b c)).b (prF (dsc a b c)).c) := by
 have ia : LB a 20 := ⟨ha⟩
 have ib : LB b 20 := ⟨hb⟩
 have ic : LB c 20 := ⟨hc⟩
 refine aH Tryz.func215 rfl rfl rfl rfl ?_
 refine ab hP<|an ag (aK rfl rfl)<|an ag (az hT rfl rfl)<|ae<|ab hP<|bO hT rfl rfl rfl rfl rfl rfl<|aa (ah (fz _ _ _ lz lz lz)) ?_
 refine aa (ah (lx _ lz)) ?_
 refine aa (aw (rfl : _ = AV.t _))<|aa (aq rfl (v := .a _) rfl)<|aa (aq rfl (v := .c _) rfl)<|an ag (az hT rfl rfl)<|aE hT rfl<|ai rfl<|ae<|ab hP<|bO hT rfl rfl rfl rfl rfl rfl<|aE hT rfl<|ae<|am ?_
 refine dl rfl (.inr rfl) (aO hT rfl rfl rfl rfl (cs := [_, _, _, _, _, _]) rfl rfl) ?_ bv
 exact .refl _
end
section
open Go Go.AM
theorem xq (x : Int) (hx : 9223372036854775808 ≤ x.natAbs ∧ x.natAbs < 18446744073709551616) : aG Tryz.prog 125 [I x] (.t [.c (.v (.int .i64 (lwV x))), PB (lwO x)]) := p9 x hx.2
end
section
open Go Go.AM
theorem ew (z : Int) (jz : a7 z) :
  aG Tryz.prog 70 [Z z] (I z) := by
 refine aH Tryz.func70 rfl rfl rfl rfl ?_
 refine ab hP<|an ag (az hT rfl rfl)<|ae<|ab hP<|aj rfl<|aa (ah (dm z jz)) ?_
 refine aE hT rfl<|ae<|am<|E2 hT rfl rfl rfl rfl rfl rfl rfl ?_
 exact .refl _
theorem jH (D : Int) (m : Nat) (hD : -4194304 ≤ D ∧ D < 0) (hm : 1 ≤ m ∧ m ≤ 65536) :
  Iter2 Tryz.prog 179 [[.v (.int .i64 (m : Int))], [zn D, zm D]] ((rbL D m).map fun b => [PI b, PF (frq D m b)]) := by
 have hDL : L 40 D := (show L 6 D by unfold L; omega).mono (by decide)
 have iD : LB D 6 := ⟨by unfold L; omega⟩
 have i4 : LB (4 * (m : Int)) 6 := ⟨by unfold L; omega⟩
 have im : LB (m : Int) 6 := ⟨by unfold L; omega⟩
 have r1 := Int.emod_nonneg D (show 4 * (m : Int) ≠ 0 by omega)
 have r2 := Int.emod_lt_of_pos D (show (0 : Int) < 4 * (m : Int) by omega)
 have cMd := FH D (4 * (m : Int)) hDL ((show L 6 (4 * (m : Int)) by unfold L; omega).mono (by decide)) (by omega)
 have cLw := fR (D % (4 * (m : Int))) (by omega) (by omega)
 have c4 := dm (4 * (m : Int)) (by unfold a7; omega)
 have cm := ew (m : Int) (by unfold a7; omega)
 generalize hxs : ((rbL D m).map fun b => [PI b, PF (frq D m b)]) = xs
 refine lR Tryz.func179 (by kernel_rfl) rfl rfl (bL0 rfl) rfl ?_
 intro l n0 J hK
 refine tU hK.toKeepsB ?_
 refine bl ?_
 refine aX hP ?_
 refine cz hT rfl rfl rfl ?_
 refine aa (bH rfl rfl (by first | exact iW0 _ (by omega) | rfl)) ?_
 refine ai rfl<|ae<|bl ?_
 refine aX hP ?_
 refine aa (br hT rfl rfl rfl (cs := [_, _]) rfl rfl)<|aj rfl<|aa (ah c4) ?_
 refine aa (ah cMd) ?_
 refine aa (aw (rfl : _ = AV.t _))<|aa (aq rfl (v := .a _) rfl)<|aa (aq rfl (v := .c _) rfl)<|an ag (az hT rfl rfl)<|aE hT rfl<|ai rfl<|ae<|bl ?_
 refine aX hP ?_
 refine av hT rfl<|aa (ah cLw) ?_
 refine aa (aw (rfl : _ = AV.t _))<|aa (aq rfl (v := .c _) rfl)<|aa (aq rfl (v := .c _) rfl)<|ai rfl<|ai rfl<|ae<|bl ?_
 refine aX hP ?_
 refine cz hT rfl rfl rfl ?_
 refine aa (bH rfl rfl (by first | exact iW0 _ (by omega) | rfl)) ?_
 refine aj rfl<|ae<|dI ?_
 refine jy (ι := Nat) (fun i => stL [(0, .p (.c (.v (.func (.yield l) #[] #[])))), (1, .ip [.v (.int .i64 (m : Int))]), (2, .ip [zn D, zm D]), (4, Z (4 * (m : Int))), (7, Z (D % (4 * (m : Int)))), (29, Z (2 * (m : Int))), (30, Z (i : Int))] []) (fun i => (rbT D m i).length) (fun i => (i : Int) ≤ 2 * (m : Int)) (fun i => (2 * m) - i) 0 (by omega) rfl (aC ⟨.refl _, .refl _, .refl _, .refl _, .refl _, .refl _, .refl _, trivial⟩ trivial) ?_
 intro i hi
 refine bl ?_
 refine aX hP ?_
 refine aa (aU rfl rfl)<|ae<|bl ?_
 refine dC rfl (fun hb1 => ?_) (fun hb1 => ?_)
 ·have hb1_ := dT0 hb1
  have hsq := ki (x := (i : Int)) (m := 131073) (by omega)
  have isq : LB ((i : Int) * (i : Int)) 6 := ⟨by unfold L; omega⟩
  have ii : LB (i : Int) 6 := ⟨by unfold L; omega⟩
  refine dc ?_
  refine bl ?_
  refine dI ?_
  refine bl ?_
  refine aX hP ?_
  refine aj rfl<|ai rfl<|ae<|bl ?_
  refine bl ?_
  refine aX hP ?_
  refine aj rfl<|aj rfl<|aa (bH rfl rfl (by first | exact iW0 _ (by omega) | rfl)) ?_
  refine aj rfl<|aa (cr rfl rfl (by omega) (c := (i : Int) * (i : Int) % (4 * (m : Int))) (Int.tmod_eq_emod_of_nonneg (by omega))) ?_
  refine aj rfl<|aa (bh rfl rfl)<|ae ?_
  refine dC rfl (fun hb2 => ?_) (fun hb2 => ?_)
  ·have hb2_ := b9 hb2
   refine fU ?_
   refine aX hP ?_
   refine bp rfl rfl ?_
   refine aj rfl<|ae ?_
   refine ⟨i + 1, by omega, by omega, uq (Ba hb2_), aC ⟨.refl _, .refl _, .refl _, .refl _, .refl _, .refl _, aL (by omega), trivial⟩ trivial⟩
  have hb2_ := bY hb2
  refine dc ?_
  refine bl ?_
  refine aX hP ?_
  refine aj rfl<|aj rfl<|aa (bH rfl rfl (by first | exact iW0 _ (by omega) | rfl)) ?_
  refine aa (ah (dm ((i : Int) * (i : Int)) (by unfold a7; omega))) ?_
  refine aa (br hT rfl rfl rfl (cs := [_, _]) rfl rfl)<|aa (ah (gK ((i : Int) * (i : Int)) D lz lz)) ?_
  refine aj rfl<|aa (ah c4) ?_
  refine aa (ah (cU ((i : Int) * (i : Int) - D) (4 * (m : Int)) lz lz (by omega))) ?_
  refine aa (aw (rfl : _ = AV.t _))<|aa (aq rfl (v := .a _) rfl)<|aa (aq rfl (v := .a _) rfl)<|aa (aq rfl (v := .c _) rfl)<|an ag (az hT rfl rfl)<|an ag (az hT rfl rfl)<|aE hT rfl<|aE hT rfl<|ai rfl<|ae<|bl ?_
  refine aX hP ?_
  refine cz hT rfl rfl rfl ?_
  refine aa (ah cm) ?_
  refine aj rfl<|aa (ah (dm (i : Int) (by unfold a7; omega))) ?_
  refine av hT rfl<|aa (aS hT rfl rfl rfl (es := [_, _, _, _, _, _]) rfl)<|an ag (az hT rfl rfl)<|aE hT rfl<|ae<|bl ?_
  refine jZ ?_
  refine RY.val ag (aT hT rfl rfl rfl rfl (cs := [_, _, _, _, _, _]) rfl rfl) ?_
  refine RY.val ag (ah (fX (m : Int) (i : Int) (((i : Int) * (i : Int) - D) / (4 * (m : Int))) lz lz lz)) ?_
  refine RY.val ag (aw (rfl : _ = AV.p (.c _))) ?_
  refine RY.split (t := 61) rfl (fun hg3 => ?_) (fun hg3 => ?_)
  ·have hyes := A8 hb2_ hg3
   have hgt : xs[(rbT D m i).length]? = some [PI (i : Int), PF (frq D m (i : Int))] := by rw [← hxs, List.getElem?_map, Ah hyes (by omega)]; rfl
   refine RY.val (bX rfl rfl hg3) (aw (rfl : _ = AV.p (.c _))) ?_
   refine RY.val (bX rfl rfl hg3) (bw hT rfl rfl rfl rfl rfl rfl) ?_
   refine RY.val (bX rfl rfl hg3) (aT hT rfl rfl rfl rfl (cs := [_, _]) rfl rfl) ?_
   refine RY.val (bX rfl rfl hg3) (aT hT rfl rfl rfl rfl (cs := [_, _, _, _, _, _]) rfl rfl) ?_
   refine RY.yield hK (bX rfl rfl hg3) rfl rfl hgt ?_
   intro b
   refine RY.val (bX rfl rfl hg3) (bM rfl) ?_
   refine RY.val ag (aQ rfl hg3 (rfl : _ = AV.p (.c _))) ?_
   refine RY.done ?_
   refine dC rfl (fun hb4 => ?_) (fun hb4 => ?_)
   ·have hb4_ := (dF hb4)
    refine kM ?_
    refine ⟨.inr rfl, ?_⟩
    exact th (dF hb4)
   have hb4_ := (du hb4)
   refine dc ?_
   refine aX hP ?_
   refine bp rfl rfl ?_
   refine aj rfl<|ae ?_
   refine ⟨i + 1, by omega, by omega, (Af hyes).trans (tg (du hb4)).symm, aC ⟨.refl _, .refl _, .refl _, .refl _, .refl _, .refl _, aL (by omega), trivial⟩ trivial⟩
  iterate 6 refine RY.skip (iG rfl rfl hg3) ?_
  refine RY.val ag (aP rfl hg3 (rfl : _ = AV.p (.c _))) ?_
  refine RY.done ?_
  refine gD rfl rfl ?_
  refine dc ?_
  refine aX hP ?_
  refine bp rfl rfl ?_
  refine aj rfl<|ae ?_
  refine ⟨i + 1, by omega, by omega, uq (A9 hg3), aC ⟨.refl _, .refl _, .refl _, .refl _, .refl _, .refl _, aL (by omega), trivial⟩ trivial⟩
 have hb1_ := dF0 hb1
 refine fU ?_
 refine ⟨.inl rfl, ?_⟩
 have e : i = 2 * m := by omega
 subst e
 rw [← hxs, List.length_map, ← rN, show (2 * (m : Int)).toNat = 2 * m by omega]
 exact Nat.le_refl _
theorem kY (D : Int) (m : Nat) :
  aG Tryz.prog 127 [I D, Z (m : Int)] (.fn 179 [[.v (.int .i64 (m : Int))], [zn D, zm D]]) := by
 refine iJ Tryz.func127 (by kernel_rfl) rfl rfl (bL0 rfl) rfl ?_
 refine ab hP<|an ag (aK rfl rfl)<|an ag (aK rfl rfl)<|ai rfl<|ae<|cE (t := 2) rfl rfl ?_
 refine cE (t := 3) rfl rfl ?_
 refine ab hP<|aa (hZ rfl rfl)<|aa (bf (rfl : _ = AV.fn _ _))<|ae<|am ?_
 exact ⟨.inr rfl, 4, rfl, rfl⟩
theorem uD (D : Int) (m : Nat) (hD : -4194304 ≤ D ∧ D < 0) (hm : 1 ≤ m ∧ m ≤ 65536) :
  aG Tryz.prog 69 [I D, Z (m : Int)] (B (decide (rbL D (m : Int) = []))) := by
 refine aH Tryz.func69 rfl rfl rfl rfl ?_
 refine ab hP<|an ag (aK rfl rfl)<|an ag (az hT rfl rfl)<|ae<|ak<|ab hP<|av hT rfl<|aj rfl<|aa (ah (kY D m)) ?_
 refine ae<|ay<|dH (t := stL [(4, .loc 4 0), (7, .fn 179 [[.v (.int .i64 (m : Int))], [zn D, zm D]])] [(4, ⟨false, 1, 4, [.v (.bool false)]⟩)]) (aC ⟨.refl _, .refl _, trivial⟩ ⟨rfl, trivial⟩) ?_
 refine fH 5 (fun _ => bZ [(4, ⟨false, 1, 4, [.v (.bool false)]⟩)]) (fun k => k = 0) rfl (jH D m hD hm) me rfl rfl rfl rfl (fun k x hx hk => ?_) (fun hk => ?_)
 ·have hne := Fi hx
  obtain ⟨b, hb, rfl⟩ := mf hx
  refine ao<|ay<|ab hP<|aE hT rfl<|ae<|am ?_
  refine ⟨_, GW.forget fun _ => .inl rfl, ?_⟩
  refine dl rfl (.inr rfl) (dR hT rfl rfl rfl rfl rfl) ?_ bv
  exact bU hne.symm
 refine ab hP<|aE hT rfl<|ae<|am ?_
 refine dl rfl (.inr rfl) (dR hT rfl rfl rfl rfl rfl) ?_ bv
 exact bU (CY hk).symm
theorem pG (m : Int) :
  aG Tryz.prog 55 [Z m] (Z (rgE m)) := by
 refine aH Tryz.func55 rfl rfl rfl rfl ?_
 refine ab hP<|ai rfl<|ae<|ak<|ay<|ab hP<|aj rfl<|aa (aU rfl rfl)<|ai rfl<|ae ?_
 refine aA rfl (fun hb1 => ?_) (fun hb1 => ?_)
 ·have hb1_ := dT0 hb1
  refine ab hP<|ai rfl<|ae<|am<|E1 rfl rfl ?_
  exact aL (EZ hb1_).symm
 have hb1_ := dF0 hb1
 refine ab hP<|aj rfl<|aa (bK rfl rfl)<|ai rfl<|ae ?_
 refine aA rfl (fun hb2 => ?_) (fun hb2 => ?_)
 ·have hb2_ := dT0 hb2
  refine ab hP<|ai rfl<|ae<|am<|E1 rfl rfl ?_
  exact aL (EY hb2_).symm
 have hb2_ := dF0 hb2
 refine ao<|ab hP<|ai rfl<|ae<|am<|E1 rfl rfl ?_
 exact aL (sW hb1_ hb2_).symm
theorem uB (D : Int) (m : Nat) (hD : -4194304 ≤ D ∧ D < 0) (hm : 1 ≤ m ∧ m ≤ 65536) :
  aG Tryz.prog 56 [I D, Z (m : Int)] (.p (.c (SL enI (rbL D (m : Int))))) := by
 refine aH Tryz.func56 rfl rfl rfl rfl ?_
 refine ab hP<|an ag (aK rfl rfl)<|ai rfl<|ae<|ab hP<|an ag (iA hT rfl rfl)<|ae<|ak<|ab hP<|av hT rfl<|aj rfl<|aa (ah (kY D m)) ?_
 refine ae<|ay<|jY 5 1000 2 29 rfl rfl rfl rfl ?_
 refine dH (t := stL [(5, .loc 5 0), (9, .fn 179 [[.v (.int .i64 (m : Int))], [zn D, zm D]])] [(5, ⟨false, 1002, 36, [.sl (((rbL D (m : Int)).take 0)).length []]⟩), (1000, VB 2 29 enI (((rbL D (m : Int)).take 0)))]) (aC ⟨.refl _, .refl _, trivial⟩ ⟨rfl, rfl, trivial⟩) ?_
 refine fH 6 (fun k => bZ [(5, ⟨false, 1002, 36, [.sl (((rbL D (m : Int)).take k)).length []]⟩), (1000, VB 2 29 enI (((rbL D (m : Int)).take k)))]) (fun _ => True) rfl (jH D m hD hm) me rfl rfl rfl trivial (fun k x hx _ => ?_) (fun _ => ?_)
 ·obtain ⟨b, hb, rfl⟩ := mf hx
  refine au hP<|an ag (az hT rfl rfl)<|aE hT rfl<|ae<|ay<|au hP<|aa (fq hT rfl rfl rfl rfl rfl)<|av hT rfl<|aa (aW hT rfl rfl rfl (es := [_, _]) rfl rfl rfl)<|RK.app ag (td (encD := enI) hT li (by decide) rfl rfl rfl rfl rfl rfl rfl (b := b) rfl (by have := pz D m hm.2; rw [List.length_take]; omega) (by decide) (by decide)) ?_
  refine dj ag (jI hT rfl rfl rfl rfl rfl rfl rfl (iH li _).symm (Nat.zero_lt_succ 1)) ?_
  refine ae ?_
  refine ⟨GW.rnL 5 15 1000 (((rbL D (m : Int)).take k) ++ [b]).length rfl rfl rfl (iH li _).symm (Nat.zero_lt_succ 1) rfl rfl rfl rfl ?_, trivial⟩
  show ∀ m, bZ _ m = _ ∨ bZ _ m = none
  rw [yI hb]
  exact SubO.own ⟨rfl, rfl, trivial⟩
 refine ab hP<|aa (fq hT rfl rfl rfl rfl rfl)<|aa (bf (rfl : _ = AV.vec _))<|ae<|q6 (encD := enI) li rfl (t := 4) rfl rfl ?_
 refine am<|E1 rfl rfl ?_
 exact aB (by rw [CZ])
theorem mR (a b : Int) :
  aG Tryz.prog 138 [I a, I b] (B (decide (a = b))) := by
 refine aH Tryz.func138 rfl rfl rfl rfl ?_
 refine ab hP<|an ag (aK rfl rfl)<|an ag (aK rfl rfl)<|ai rfl<|ae<|ab hP<|av hT rfl<|av hT rfl<|aa (ah (cY _ _)) ?_
 refine aa (bd rfl rfl)<|ai rfl<|ae<|am<|E1 rfl rfl ?_
 exact bU (Bt a b)
theorem wS (a : Int) :
  aG Tryz.prog 67 [I a] (B (decide (a = 0))) := by
 refine aH Tryz.func67 rfl rfl rfl rfl ?_
 refine ab hP<|an ag (aK rfl rfl)<|ai rfl<|ae<|ab hP<|av hT rfl<|aa (ah (cn _)) ?_
 refine aa (bd rfl rfl)<|ai rfl<|ae<|am<|E1 rfl rfl ?_
 exact bU (z8 a)
theorem uC (D : Int) (m : Nat) (hD : -4194304 ≤ D ∧ D < 0) (hm : 1 ≤ m ∧ m ≤ 65536) :
  aG Tryz.prog 72 [I D, Z (m : Int)] (.p (.c (FS (fmL D (m : Int))))) := by
 have iD : LB D 6 := ⟨by unfold L; omega⟩
 have i4 : LB (4 * (m : Int)) 6 := ⟨by unfold L; omega⟩
 have im : LB (m : Int) 6 := ⟨by unfold L; omega⟩
 refine aH Tryz.func72 rfl rfl rfl rfl ?_
 refine ab hP<|an ag (aK rfl rfl)<|ai rfl<|ae<|ab hP<|an ag (iA hT rfl rfl)<|ae<|ak<|ab hP<|av hT rfl<|aj rfl<|aa (ah (kY D m)) ?_
 refine ae<|ay<|jY 5 1000 6 46 rfl rfl rfl rfl ?_
 refine dH (t := stL [(5, .loc 5 0), (13, .fn 179 [[.v (.int .i64 (m : Int))], [zn D, zm D]])] [(5, ⟨false, 1002, 32, [.sl (((fmL D (m : Int)).take 0)).length []]⟩), (1000, FB 46 (((fmL D (m : Int)).take 0)))]) (aC ⟨.refl _, .refl _, trivial⟩ ⟨rfl, rfl, trivial⟩) ?_
 refine fH 6 (fun k => bZ [(5, ⟨false, 1002, 32, [.sl (((fmL D (m : Int)).take k)).length []]⟩), (1000, FB 46 (((fmL D (m : Int)).take k)))]) (fun _ => True) rfl (jH D m hD hm) me rfl rfl rfl trivial (fun k x hx _ => ?_) (fun _ => ?_)
 ·obtain ⟨b, hb, rfl⟩ := mf hx
  have hb2 := (rbL_mem.1 (List.mem_of_getElem? hb)).1
  have hsq := ki (x := b) (m := 131073) (by omega)
  have ib : LB b 6 := ⟨by unfold L; omega⟩
  have isq : LB (b * b) 6 := ⟨by unfold L; omega⟩
  have cRd : aG Tryz.prog 41 [FA (m : Int) b ((b * b - D) / (4 * (m : Int)))] (.t [PF (frq D m b).rd, PM (rdM (m : Int) b ((b * b - D) / (4 * (m : Int)))), PE (rdE (m : Int) b ((b * b - D) / (4 * (m : Int))))]) := gZ (m : Int) b ((b * b - D) / (4 * (m : Int))) lz lz lz
  have htk := FZ hb
  generalize (frq D m b).rd = g at cRd htk
  generalize rdM (m : Int) b ((b * b - D) / (4 * (m : Int))) = M0 at cRd
  generalize rdE (m : Int) b ((b * b - D) / (4 * (m : Int))) = e0 at cRd
  refine au hP<|an ag (az hT rfl rfl)<|aE hT rfl<|ae<|ay<|ab hP<|bO hT rfl rfl rfl rfl rfl rfl<|aa (ah cRd) ?_
  refine aa (aw (rfl : _ = AV.t _))<|aa (aq rfl (v := .a _) rfl)<|aa (aq rfl (v := .a _) rfl)<|aa (aq rfl (v := .c _) rfl)<|an ag (az hT rfl rfl)<|an ag (az hT rfl rfl)<|aE hT rfl<|aE hT rfl<|ai rfl<|ae<|au hP<|aa (fq hT rfl rfl rfl rfl rfl)<|bO hT rfl rfl rfl rfl rfl rfl<|aa (aW hT rfl rfl rfl (es := [_, _, _, _, _, _]) rfl rfl rfl)<|RK.app ag (mp hT rfl rfl rfl rfl rfl rfl rfl (f := g) rfl (by have := DX D m hm.2; rw [List.length_take]; omega) (by decide)) ?_
  refine dj ag (jI hT rfl rfl rfl rfl rfl rfl rfl (iM _).symm (Nat.zero_lt_succ 5)) ?_
  refine ae ?_
  refine ⟨GW.rnL 5 25 1000 (((fmL D (m : Int)).take k) ++ [g]).length rfl rfl rfl (iM _).symm (Nat.zero_lt_succ 5) rfl rfl rfl rfl ?_, trivial⟩
  show ∀ m, bZ _ m = _ ∨ bZ _ m = none
  rw [htk]
  exact SubO.own ⟨rfl, rfl, trivial⟩
 refine ab hP<|aa (fq hT rfl rfl rfl rfl rfl)<|aa (bf (rfl : _ = AV.vec _))<|ae<|lK (t := 4) rfl rfl ?_
 refine am<|E1 rfl rfl ?_
 exact aB (by rw [DZ])
end
section
open Go Go.AM
theorem Ax (D : Int) :
  aG Tryz.prog 134 [I D] (.p (.c (SL enU (unL D)))) := by
 refine aH Tryz.func134 rfl rfl rfl rfl ?_
 refine ab hP<|an ag (aK rfl rfl)<|ai rfl<|ae<|ak<|ay<|ab hP<|av hT rfl<|aa (ah (ew _ (by decide))) ?_
 refine aa (ah (mR _ _)) ?_
 refine ai rfl<|ae ?_
 refine aA rfl (fun hb1 => ?_) (fun hb1 => ?_)
 ·refine ab hP<|aa (cK hT rfl rfl rfl (es := [_, _]) rfl) ?_
  iterate 5 refine aa (cK hT rfl rfl rfl (es := [_, _]) rfl) ?_
  refine aa (aW hT rfl rfl rfl (es := [_, _, _, _, _, _, _, _, _, _, _, _]) rfl rfl rfl)<|ai rfl<|ae<|am<|E1 rfl rfl ?_
  exact aB (by rw [← Gx (dT0 hb1)]; rfl)
 refine ab hP<|av hT rfl<|aa (ah (ew _ (by unfold a7; omega))) ?_
 refine aa (ah (mR _ _)) ?_
 refine ai rfl<|ae ?_
 refine aA rfl (fun hb2 => ?_) (fun hb2 => ?_)
 ·refine ab hP<|aa (cK hT rfl rfl rfl (es := [_, _]) rfl) ?_
  iterate 3 refine aa (cK hT rfl rfl rfl (es := [_, _]) rfl) ?_
  refine aa (aW hT rfl rfl rfl (es := [_, _, _, _, _, _, _, _]) rfl rfl rfl)<|ai rfl<|ae<|am<|E1 rfl rfl ?_
  exact aB (by rw [← Gw (dF0 hb1) (dT0 hb2)]; rfl)
 refine ao<|ab hP<|aa (cK hT rfl rfl rfl (es := [_, _]) rfl)<|aa (cK hT rfl rfl rfl (es := [_, _]) rfl)<|aa (aW hT rfl rfl rfl (es := [_, _, _, _]) rfl rfl rfl)<|ai rfl<|ae<|am<|E1 rfl rfl ?_
 exact aB (by rw [← Gy (dF0 hb1) (dF0 hb2)]; rfl)
theorem wR (f : Fm) (D : Int) (m : Nat) (hfa : L 6 f.a) (hfb : L 6 f.b) (hfc : L 6 f.c) (hf : dsc f.a f.b f.c = D) (hD : -4194304 ≤ D ∧ D < 0) (hm : 1 ≤ m ∧ m ≤ 65536) :
  Iter2 Tryz.prog 132 [[zn f.a, zm f.a, zn f.b, zm f.b, zn f.c, zm f.c], [.v (.int .i64 (m : Int))]] ((prL D m f).map fun p => [PA p]) := by
 have iD : LB D 6 := ⟨by unfold L; omega⟩
 have i4 : LB (4 * (m : Int)) 6 := ⟨by unfold L; omega⟩
 have im : LB (m : Int) 6 := ⟨by unfold L; omega⟩
 have fa : LB f.a 6 := ⟨hfa⟩
 have fb : LB f.b 6 := ⟨hfb⟩
 have fc : LB f.c 6 := ⟨hfc⟩
 have cDs : aG Tryz.prog 40 [FA f.a f.b f.c] (I D) := by rw [← hf]; exact fz f.a f.b f.c lz lz lz
 have cUn := Ax D
 have hus : ∀ p ∈ unL D, (-2 ≤ p.1 ∧ p.1 ≤ 2) ∧ (-1 ≤ p.2 ∧ p.2 ≤ 1) := fun p hp => EH hp
 have hul := BR D
 have hget := fun (i j : Nat) (b : Int) (hb : (rbL D m)[i]? = some b) (hs : smf f (frq D m b) = true) (hj : j < (unL D).length) => Db (f := f) (j := j) hb hs hj
 have hkY := fun (i : Nat) (b : Int) (hb : (rbL D m)[i]? = some b) (hs : smf f (frq D m b) = true) => GI (f := f) hb hs
 have hkN := fun (i : Nat) (b : Int) (hb : (rbL D m)[i]? = some b) (hs : smf f (frq D m b) = false) => GJ (f := f) hb hs
 have hall := Dc (D := D) (m := m) (f := f)
 have hk0 : 0 = (fmN (prQ D m f) (rbL D m)) 0 := fmN_0.symm
 generalize unL D = us at *
 generalize hxs : ((prL D m f).map fun p => ([PA p] : List PV)) = xs at *
 generalize fmN (prQ D m f) (rbL D m) = κ at *
 refine lR Tryz.func132 (by kernel_rfl) rfl rfl (bL0 rfl) rfl ?_
 intro l n0 J hK
 refine qO hK.toKeepsB ?_
 refine aX hP ?_
 refine an ag (aK rfl rfl)<|ae<|qO hK.toKeepsB ?_
 refine aX hP ?_
 refine aa (br hT rfl rfl rfl (cs := [_, _, _, _, _, _]) rfl rfl)<|aa (ah cDs) ?_
 refine an ag (az hT rfl rfl)<|aE hT rfl<|ae<|qO hK.toKeepsB ?_
 refine aX hP ?_
 refine av hT rfl<|cz hT rfl rfl rfl ?_
 refine aa (ah (kY D m)) ?_
 refine ae<|xX ?_
 refine Gv (t := stL [(1, .ip [zn f.a, zm f.a, zn f.b, zm f.b, zn f.c, zm f.c]), (2, .ip [.v (.int .i64 (m : Int))]), (3, .loc 3 0), (4, .loc 4 0), (21, .fn 179 [[.v (.int .i64 (m : Int))], [zn D, zm D]])] [(3, ⟨false, 1, 187, [.v (.func (.yield l) #[] #[])]⟩), (4, ⟨false, 1, 29, [zn D, zm D]⟩)]) (aC ⟨.refl _, .refl _, .refl _, .refl _, .refl _, trivial⟩ ⟨rfl, rfl, trivial⟩) ?_
 refine xW 5 κ (bZ [(3, ⟨false, 1, 187, [.v (.func (.yield l) #[] #[])]⟩), (4, ⟨false, 1, 29, [zn D, zm D]⟩)]) hK rfl (jH D m hD hm) me rfl rfl (fun i y hy => ?_) hall hk0
 obtain ⟨b, hb, rfl⟩ := mf hy
 have hb2 := (rbL_mem.1 (List.mem_of_getElem? hb)).1
 have hsq := ki (x := b) (m := 131073) (by omega)
 have ib : LB b 6 := ⟨by unfold L; omega⟩
 have isq : LB (b * b) 6 := ⟨by unfold L; omega⟩
 have cSm : aG Tryz.prog 133 [FA f.a f.b f.c, FA (m : Int) b ((b * b - D) / (4 * (m : Int)))] (.t [PM (smm f (frq D m b)), PB (smf f (frq D m b))]) := C4 f.a f.b f.c (m : Int) b ((b * b - D) / (4 * (m : Int))) lz lz lz lz lz lz
 obtain ⟨m1, m2, m3, m4⟩ : LB (smm f (frq D m b)).a 23 ∧ LB (smm f (frq D m b)).b 23 ∧ LB (smm f (frq D m b)).c 23 ∧ LB (smm f (frq D m b)).d 23 := GB (a := f.a) (b := f.b) (c := f.c) (p := (m : Int)) (q := b) (r := (b * b - D) / (4 * (m : Int))) ⟨lz⟩ ⟨lz⟩ ⟨lz⟩ ⟨lz⟩ ⟨lz⟩ ⟨lz⟩
 have hgj := fun j => hget i j b hb
 have hY := hkY i b hb
 have hN := hkN i b hb
 generalize smm f (frq D m b) = M at cSm m1 m2 m3 m4 hgj
 generalize smf f (frq D m b) = sb at cSm hgj hY hN
 show AK _ _ _ _ _ _ _ (κ i) ⟨gG _ _ [PI b, .a [zn (m : Int), zm (m : Int), zn b, zm b, zn ((b * b - D) / (4 * (m : Int))), zm ((b * b - D) / (4 * (m : Int)))]], _⟩
 generalize (b * b - D) / (4 * (m : Int)) = C0 at cSm ⊢
 refine bl ?_
 refine aX hP ?_
 refine an ag (az hT rfl rfl)<|aE hT rfl<|ae<|aX hP ?_
 refine an ag (az hT rfl rfl)<|aE hT rfl<|ae<|dI ?_
 refine bl ?_
 refine aX hP ?_
 refine aa (br hT rfl rfl rfl (cs := [_, _, _, _, _, _]) rfl rfl)<|bO hT rfl rfl rfl rfl rfl rfl<|aa (ah cSm) ?_
 refine aa (aw (rfl : _ = AV.t _))<|aa (aq rfl (v := .a _) rfl)<|aa (aq rfl (v := .c _) rfl)<|an ag (az hT rfl rfl)<|aE hT rfl<|ai rfl<|ae<|bl ?_
 refine bl ?_
 refine aX hP ?_
 refine aj rfl<|aa (bM rfl)<|ae ?_
 refine dC rfl (fun hb1 => ?_) (fun hb1 => ?_)
 ·have hb1_ := (dF hb1)
  refine fU ?_
  exact .inl ⟨rfl, (hN (dF hb1)).symm, GW.forget fun x => SubO.own (l := [(3, ⟨false, 1, 187, [.v (.func (.yield l) #[] #[])]⟩), (4, ⟨false, 1, 29, [zn D, zm D]⟩)]) ⟨rfl, rfl, trivial⟩ x⟩
 have hb1_ := (du hb1)
 have hsb := du hb1
 refine dc ?_
 refine bl ?_
 refine aX hP ?_
 refine av hT rfl<|aa (ah cUn) ?_
 refine aa (aZ hT rfl rfl rfl (by rfl)) ?_
 refine aj rfl<|ae<|dI ?_
 refine jy (ι := Nat) (fun j => stL [(3, .loc 3 0), (5, .loc 5 0), (6, .loc 6 0), (7, .loc 7 0), (33, .p (.c (SL enU us))), (34, Z (us.length : Int)), (35, Z (j : Int))] [(3, ⟨false, 1, 187, [.v (.func (.yield l) #[] #[])]⟩), (4, ⟨false, 1, 29, [zn D, zm D]⟩), (5, ⟨false, 1, 29, [zn b, zm b]⟩), (6, ⟨false, 1, 46, [zn (m : Int), zm (m : Int), zn b, zm b, zn C0, zm C0]⟩), (7, ⟨false, 1, 87, [zn M.a, zm M.a, zn M.b, zm M.b, zn M.c, zm M.c, zn M.d, zm M.d]⟩)]) (fun j => κ i + j) (fun j => j ≤ us.length) (fun j => us.length - j) 0 (Nat.zero_le _) rfl (aC ⟨.refl _, .refl _, .refl _, .refl _, .refl _, .refl _, .refl _, trivial⟩ ⟨rfl, rfl, rfl, rfl, rfl, trivial⟩) ?_
 intro j hj
 refine bl ?_
 refine aX hP ?_
 refine aa (aU rfl rfl)<|ae<|bl ?_
 refine dC rfl (fun hb2 => ?_) (fun hb2 => ?_)
 ·have hb2_ := dT0 hb2
  have hjn : j < us.length := by omega
  have hgt := hgj j hsb hjn
  obtain ⟨⟨u1, u2⟩, u3, u4⟩ := hus _ (iU (d := (0, 0)) hjn)
  have iu1 : LB (us.getD j (0, 0)).1 3 := ⟨by unfold L; omega⟩
  have iu2 : LB (us.getD j (0, 0)).2 3 := ⟨by unfold L; omega⟩
  refine dc ?_
  refine bl ?_
  refine dI ?_
  refine bl ?_
  refine aX hP ?_
  refine aa (uH hT Bk (by decide) (0, 0) (n := (j : Int)) (l := us) rfl rfl rfl rfl rfl rfl (by omega)) ?_
  refine aa (br hT rfl rfl rfl (cs := enU (us.getD j (0, 0))) rfl rfl) ?_
  refine an ag (az hT rfl rfl)<|aE hT rfl<|ae<|bl ?_
  refine aX hP ?_
  refine aa (aJ hT rfl rfl rfl rfl rfl (by first | decide | omega)) ?_
  refine bn hT rfl rfl rfl rfl ?_
  refine aa (ah (ew _ (by unfold a7; omega))) ?_
  refine av hT rfl<|aa (aJ hT rfl rfl rfl rfl rfl (by first | decide | omega)) ?_
  refine bn hT rfl rfl rfl rfl ?_
  refine aa (ah (ew _ (by unfold a7; omega))) ?_
  refine aa (ah (cX b (us.getD j (0, 0)).2 lz lz)) ?_
  refine aa (ah (gK (us.getD j (0, 0)).1 (b * (us.getD j (0, 0)).2) lz lz)) ?_
  refine aa (ah (ew 2 (by decide))) ?_
  refine aa (ah (cU ((us.getD j (0, 0)).1 - b * (us.getD j (0, 0)).2) 2 lz lz (by omega))) ?_
  refine aa (aw (rfl : _ = AV.t _))<|aa (aq rfl (v := .a _) rfl)<|aa (aq rfl (v := .a _) rfl)<|aa (aq rfl (v := .c _) rfl)<|an ag (az hT rfl rfl)<|an ag (az hT rfl rfl)<|aE hT rfl<|aE hT rfl<|ai rfl<|ae<|bl ?_
  refine aX hP ?_
  refine aM hT rfl<|av hT rfl<|aa (aJ hT rfl rfl rfl rfl rfl (by first | decide | omega)) ?_
  refine bn hT rfl rfl rfl rfl ?_
  refine aa (ah (ew _ (by unfold a7; omega))) ?_
  refine aa (ah (cX (m : Int) (us.getD j (0, 0)).2 lz lz)) ?_
  refine an ag (az hT rfl rfl)<|aE hT rfl<|ae<|bl ?_
  refine aX hP ?_
  refine aM hT rfl<|av hT rfl<|av hT rfl<|aa (ah (cX M.a (((us.getD j (0, 0)).1 - b * (us.getD j (0, 0)).2) / 2) lz lz)) ?_
  refine aM hT rfl<|av hT rfl<|av hT rfl<|aa (ah (cX M.b ((m : Int) * (us.getD j (0, 0)).2) lz lz)) ?_
  refine aa (ah (dk (M.a * (((us.getD j (0, 0)).1 - b * (us.getD j (0, 0)).2) / 2)) (M.b * ((m : Int) * (us.getD j (0, 0)).2)) lz lz)) ?_
  refine an ag (az hT rfl rfl)<|aE hT rfl<|ae<|bl ?_
  refine aX hP ?_
  refine aM hT rfl<|av hT rfl<|av hT rfl<|aa (ah (cX M.c (((us.getD j (0, 0)).1 - b * (us.getD j (0, 0)).2) / 2) lz lz)) ?_
  refine aM hT rfl<|av hT rfl<|av hT rfl<|aa (ah (cX M.d ((m : Int) * (us.getD j (0, 0)).2) lz lz)) ?_
  refine aa (ah (dk (M.c * (((us.getD j (0, 0)).1 - b * (us.getD j (0, 0)).2) / 2)) (M.d * ((m : Int) * (us.getD j (0, 0)).2)) lz lz)) ?_
  refine an ag (az hT rfl rfl)<|aE hT rfl<|ae<|bl ?_
  refine jZ ?_
  refine RY.val ag (de hT rfl rfl rfl rfl (by first | rfl | exact jC (by omega))) ?_
  refine RY.val ag (aT hT rfl rfl rfl rfl (cs := [_, _]) rfl rfl) ?_
  refine RY.val ag (aT hT rfl rfl rfl rfl (cs := [_, _]) rfl rfl) ?_
  refine RY.val ag (cK hT rfl rfl rfl (es := [_, _, _, _]) rfl) ?_
  refine RY.yield hK ag rfl rfl hgt ?_
  intro bb
  refine RY.val ag (bM rfl) ?_
  refine RY.done ?_
  refine dC rfl (fun hb3 => ?_) (fun hb3 => ?_)
  ·have hb3_ := (dF hb3)
   refine kM ?_
   exact .inr ⟨rfl, th (dF hb3)⟩
  have hb3_ := (du hb3)
  refine dc ?_
  refine aX hP ?_
  refine bp rfl rfl ?_
  refine aj rfl<|ae ?_
  refine ⟨j + 1, by omega, by omega, (tg (du hb3)).symm, aC ⟨.refl _, .refl _, .refl _, .refl _, .refl _, .refl _, aL (by omega), trivial⟩ ⟨rfl, rfl, rfl, rfl, rfl, trivial⟩⟩
 have hb2_ := dF0 hb2
 have hjl : us.length = j := by omega
 refine fU ?_
 exact .inl ⟨rfl, by rw [hY hsb, hjl], GW.forget fun x => SubO.own (l := [(3, ⟨false, 1, 187, [.v (.func (.yield l) #[] #[])]⟩), (4, ⟨false, 1, 29, [zn D, zm D]⟩)]) ⟨rfl, rfl, trivial⟩ x⟩
end
section
open Go Go.AM
theorem vm (o x : Fm) (u : Value) :
  aG Tryz.prog 214 [FA (o).a (o).b (o).c, FA (x).a (x).b (x).c, I 0, .p (.c (.v u))] (FA (o).a (o).b (o).c) := by
 refine aH Tryz.func214 rfl rfl rfl rfl ?_
 refine ab hP<|an ag (aK rfl rfl)<|an ag (aK rfl rfl)<|an ag (aK rfl rfl)<|an ag (az hT rfl rfl)<|ae<|ak<|ab hP<|av hT rfl<|aa (ah (qb _)) ?_
 refine aj rfl<|ae<|ay<|dy 1 ?_
 refine ab hP<|aa (aU rfl rfl)<|ae<|ak<|aI rfl (by decide) ?_
 refine aV<|ab hP<|bO hT rfl rfl rfl rfl rfl rfl<|aE hT rfl<|ae<|am ?_
 refine dl rfl (.inr rfl) (aO hT rfl rfl rfl rfl (cs := [_, _, _, _, _, _]) rfl rfl) ?_ bv
 exact .refl _
theorem vn (f : Fm) (hfa : L 6 f.a) (hfb : L 6 f.b) (hfc : L 6 f.c) :
  aG Tryz.prog 183 [FA f.a f.b f.c, I 0] (FA ((prF (dsc f.a f.b f.c))).a ((prF (dsc f.a f.b f.c))).b ((prF (dsc f.a f.b f.c))).c) := by
 have fa : LB f.a 6 := ⟨hfa⟩
 have fb : LB f.b 6 := ⟨hfb⟩
 have fc : LB f.c 6 := ⟨hfc⟩
 refine aH Tryz.func183 rfl rfl rfl rfl ?_
 refine ab hP<|an ag (aK rfl rfl)<|an ag (aK rfl rfl)<|an ag (az hT rfl rfl)<|ae<|ak<|ab hP<|aM hT rfl<|bn hT rfl rfl rfl rfl ?_
 refine ae<|aI rfl rfl<|ao<|ab hP<|bO hT rfl rfl rfl rfl rfl rfl<|aa (ah (qz _ _ _ lz lz lz)) ?_
 refine bO hT rfl rfl rfl rfl rfl rfl<|aa (ah (tH _ _ _ lz lz lz)) ?_
 refine av hT rfl<|aa (ah (vm _ _ _)) ?_
 refine aE hT rfl<|ae<|am ?_
 refine dl rfl (.inr rfl) (aO hT rfl rfl rfl rfl (cs := [_, _, _, _, _, _]) rfl rfl) ?_ bv
 exact .refl _
theorem vo (f : Fm) (hfa : L 6 f.a) (hfb : L 6 f.b) (hfc : L 6 f.c) :
  aG Tryz.prog 131 [FA f.a f.b f.c, I 0] (.t [PF (pz0 f), PE (rfE f)]) := by
 have fa : LB f.a 6 := ⟨hfa⟩
 have fb : LB f.b 6 := ⟨hfb⟩
 have fc : LB f.c 6 := ⟨hfc⟩
 refine aH Tryz.func131 rfl rfl rfl rfl ?_
 refine ab hP<|an ag (aK rfl rfl)<|an ag (aK rfl rfl)<|an ag (az hT rfl rfl)<|ai rfl<|ae<|ak<|ab hP<|bO hT rfl rfl rfl rfl rfl rfl<|aa (ah (tG _ _ _ lz lz lz)) ?_
 refine ai rfl<|ae<|ab hP<|aj rfl<|aa (bh rfl rfl)<|ae ?_
 refine aA rfl (fun hb1 => ?_) (fun hb1 => ?_)
 ·have hb1_ := b9 hb1
  refine ab hP<|aa (aS hT rfl rfl rfl (es := [_, _, _, _, _, _]) rfl)<|aj rfl<|aE hT rfl<|ai rfl<|ae<|am ?_
  refine bS rfl (.inr rfl) (aO hT rfl rfl rfl rfl (cs := [_, _, _, _, _, _]) rfl rfl) (bC rfl) ?_ bv
  exact aB (GH hb1_)
 have hb1_ := bY hb1
 refine ao<|ab hP<|bO hT rfl rfl rfl rfl rfl rfl<|av hT rfl<|aa (ah (vn f hfa hfb hfc)) ?_
 refine aE hT rfl<|ai rfl<|ae<|am ?_
 refine bS rfl (.inr rfl) (aO hT rfl rfl rfl rfl (cs := [_, _, _, _, _, _]) rfl rfl) (bC rfl) ?_ bv
 exact aB (GG hb1_)
end
end Go.Proofs.YthaiejfjnllglaaGreatDoor
section
end
namespace Go.Proofs.YthaiejfjnllglaaGreatDoor
section
open Go Go.AM
theorem Aj (D i0 i1 i2 i3 m0 m1 m2 m3 : Nat) (_hD : D < 65536) (_g0 : i0 < 65536) (_g1 : i1 < 65536) (_g2 : i2 < 65536) (_g3 : i3 < 65536) (_k0 : m0 < 256) (_k1 : m1 < 256) (_k2 : m2 < 256) (_k3 : m3 < 256) :
  aG Tryz.prog 11 [.p (.a [.v (.int .u16 (D : Int)), .v (.int .u16 (i0 : Int)), .v (.int .u16 (i1 : Int)), .v (.int .u16 (i2 : Int)), .v (.int .u16 (i3 : Int)), .v (.int .u8 (m0 : Int)), .v (.int .u8 (m1 : Int)), .v (.int .u8 (m2 : Int)), .v (.int .u8 (m3 : Int))])] (Z (szz D)) := by
 obtain ⟨s1, s2, s3, s4, s5⟩ := dN D
 have d1 := Int.emod_nonneg (D : Int) (show (2000 : Int) ≠ 0 by omega)
 have d2 := Int.emod_lt_of_pos (D : Int) (show (0 : Int) < 2000 by omega)
 refine aH Tryz.func11 rfl rfl rfl rfl ?_
 refine ab hP<|an ag (aK rfl rfl)<|ai rfl<|ae<|ab hP<|aM hT rfl<|bn hT rfl rfl rfl rfl ?_
 refine aa (cr rfl rfl (by decide) (c := (D : Int) % 2000) (Int.tmod_eq_emod_of_nonneg (by omega))) ?_
 refine aa (aY hT rfl rfl rfl rfl (iW0 _ (by omega))) ?_
 refine bp rfl rfl ?_
 refine ai rfl<|ae<|ak<|ay<|bj (ι := Int) (fun n => stL [(3, Z n)] []) (fun n => 3 + (D : Int) % 2000 ≤ n ∧ n ≤ szz D) (fun n => (szz D - n).toNat) (3 + (D : Int) % 2000) ⟨Int.le_refl _, s1⟩ (aC ⟨.refl _, trivial⟩ trivial) ?_
 rintro n ⟨hn1, hn2⟩
 refine ak<|ab hP<|aj rfl<|aa (cr rfl rfl (by decide) (c := n % 4) (Int.tmod_eq_emod_of_nonneg (by omega))) ?_
 refine aa (bh rfl rfl)<|aj rfl ?_
 refine a8 (t := 12) rfl (fun hg1 => ?_) (fun hg1 => ?_)
 ·have hg1_ := b9 hg1
  refine aD hg1 (aw (rfl : _ = AV.p (.c _))) ?_
  refine aD hg1 (cr rfl rfl (by decide) (c := n % 4) (Int.tmod_eq_emod_of_nonneg (by omega))) ?_
  refine aD hg1 (bh rfl rfl) ?_
  refine aa (aQ rfl hg1 (rfl : _ = AV.p (.c _)))<|ae ?_
  refine aA rfl (fun hb2 => ?_) (fun hb2 => ?_)
  ·have hb2_ := b9 hb2
   refine ao<|ay<|au hP<|aj rfl<|bp rfl rfl ?_
   refine ai rfl<|ae ?_
   have hne : n ≠ szz D := by
    rintro rfl
    have := b9 hg1
    have := b9 hb2
    omega
   refine ⟨n + 1, ⟨by omega, by omega⟩, by omega, aC ⟨.refl _, trivial⟩ trivial⟩
  have hb2_ := bY hb2
  refine aV<|ab hP<|aj rfl<|ai rfl<|ae<|am<|E1 rfl rfl ?_
  exact aL (s5 n hn1 hn2 (.inr (bY hb2)))
 have hg1_ := bY hg1
 iterate 3 refine a6 hg1 ?_
 refine aa (aP rfl hg1 (rfl : _ = AV.p (.c _)))<|ae<|aI rfl rfl<|aV<|ab hP<|aj rfl<|ai rfl<|ae<|am<|E1 rfl rfl ?_
 exact aL (s5 n hn1 hn2 (.inl (bY hg1)))
end
section
open Go Go.AM
theorem DO (b : Bool) :
  aG Tryz.prog 188 [.p (.c (.v (.bool b)))] (Z (sgB b)) := by
 refine aH Tryz.func188 rfl rfl rfl rfl ?_
 refine ab hP<|ai rfl<|ae<|ak<|ab hP<|aj rfl<|ae ?_
 refine aA rfl (fun hb1 => ?_) (fun hb1 => ?_)
 ·refine ab hP<|ai rfl<|ae<|am<|E1 rfl rfl ?_
  exact aL (ET hb1)
 refine ao<|ab hP<|ai rfl<|ae<|am<|E1 rfl rfl ?_
 exact aL (EU hb1)
theorem sS (l : List Int) (x : Int) (hl : (l.length : Int) ≤ 1000000) :
  aG Tryz.prog 222 [.p (.c (IS l)), Z x] (Z (ixV l x)) := by
 refine aH Tryz.func222 rfl rfl rfl rfl ?_
 refine ab hP<|ai rfl<|ae<|ak<|ab hP<|aj rfl<|aa (aZ hT rfl rfl rfl (by rfl)) ?_
 refine aj rfl<|ae<|ay<|bj (ι := Nat) (fun k => stL [(0, .p (.c (IS l))), (1, Z x), (7, Z (l.length : Int)), (8, Z (k : Int))] []) (fun k => k ≤ l.length ∧ k ≤ l.findIdx (· == x)) (fun k => l.length - k) 0 ⟨Nat.zero_le _, Nat.zero_le _⟩ (aC ⟨.refl _, .refl _, .refl _, .refl _, trivial⟩ trivial) ?_
 rintro k ⟨hk1, hk2⟩
 refine ab hP<|aa (aU rfl rfl)<|ae<|ak ?_
 refine aA rfl (fun hb1 => ?_) (fun hb1 => ?_)
 ·have hb1_ := dT0 hb1
  refine ao<|ak<|ay<|ab hP<|aj rfl<|ai rfl<|ae<|ab hP<|aj rfl<|aj rfl<|aj rfl<|aa (gj hT (n := k) rfl rfl rfl rfl rfl rfl (by omega)) ?_
  refine aa (bJ hT rfl rfl rfl rfl)<|aa (bd rfl rfl)<|ae ?_
  refine aA rfl (fun hb2 => ?_) (fun hb2 => ?_)
  ·have hb2_ := bT hb2
   refine ab hP<|aj rfl<|ai rfl<|ae<|am<|E1 rfl rfl ?_
   exact aL (DF hk2 hb1_ hb2_).symm
  have hb2_ := bF hb2
  refine ao<|au hP<|bp rfl rfl ?_
  refine aj rfl<|ae ?_
  have hn2 := tE hk2 hb1_ hb2_
  refine ⟨k + 1, ⟨by omega, hn2⟩, by omega, aC ⟨.refl _, .refl _, .refl _, aL (by omega), trivial⟩ trivial⟩
 have hb1_ := dF0 hb1
 refine aV<|ab hP<|ai rfl<|ae<|am<|E1 rfl rfl ?_
 exact aL (DG hk2 hb1_).symm
theorem ou (l : List Int) (x : Int) (hl : (l.length : Int) ≤ 1000000) :
  aG Tryz.prog 189 [.p (.c (IS l)), Z x] (B (mZ l x)) := by
 refine aH Tryz.func189 rfl rfl rfl rfl ?_
 refine ab hP<|ai rfl<|ae<|ab hP<|aj rfl<|aj rfl<|aa (ah (sS l x hl)) ?_
 refine aa (dL rfl rfl)<|ai rfl<|ae<|am<|E1 rfl rfl ?_
 exact .refl _
theorem tC (m : Int) (l : List Int) (hm : 0 ≤ m) (hl : (l.length : Int) ≤ 1000000) :
  aG Tryz.prog 187 [Z m, .ip [IS l]] (Z (sgB (mZ l (m % 8)))) := by
 refine aH Tryz.func187 rfl rfl rfl rfl ?_
 refine ab hP<|ai rfl<|ae<|ab hP<|cz hT rfl rfl rfl ?_
 refine aj rfl<|aa (cr rfl rfl (by decide) (c := m % 8) (Int.tmod_eq_emod_of_nonneg hm)) ?_
 refine aa (ah (ou l (m % 8) hl)) ?_
 refine aa (ah (DO _)) ?_
 refine ai rfl<|ae<|am<|E1 rfl rfl ?_
 exact .refl _
theorem DP (m p : Int) (hm : a7 m) (hp : a7 p) :
  aG Tryz.prog 186 [Z m, .ip [IC p]] (Z (kr m p)) := by
 have im : LB m 6 := ⟨by unfold L; unfold a7 at hm; omega⟩
 have ip : LB p 6 := ⟨by unfold L; unfold a7 at hp; omega⟩
 refine aH Tryz.func186 rfl rfl rfl rfl ?_
 refine ab hP<|ai rfl<|ae<|ab hP<|aj rfl<|aa (ah (dm m hm)) ?_
 refine cz hT rfl rfl rfl ?_
 refine aa (ah (dm p hp)) ?_
 refine aa (ah (fY _ _ lz lz)) ?_
 refine ai rfl<|ae<|am<|E1 rfl rfl ?_
 exact .refl _
theorem kz (c : Int) (l : List Int) :
  aG Tryz.prog 144 [Z c, .p (.c (IS l))] (.p (.a [IC c, .fn 187 [.ip [IS l]]])) := by
 refine aH Tryz.func144 rfl rfl rfl rfl ?_
 refine ab hP<|an ag (aK rfl rfl)<|an ag (az hT rfl rfl)<|ae<|cE (t := 3) rfl rfl ?_
 refine ab hP<|aj rfl<|aa (ku rfl)<|aa (aS hT rfl rfl rfl (es := [_, _]) rfl)<|aE hT rfl<|ae<|am<|E2 hT rfl rfl rfl rfl rfl rfl rfl ?_
 exact .refl _
theorem FX (p : Int) (h : 3 ≤ p) (ho : p % 2 = 1) :
  aG Tryz.prog 143 [Z p] (.p (.a (chC 186 187 p))) := by
 refine aH Tryz.func143 rfl rfl rfl rfl ?_
 refine ab hP<|an ag (aK rfl rfl)<|an ag (az hT rfl rfl)<|ae<|cE (t := 1) rfl rfl ?_
 refine ab hP<|cz hT rfl rfl rfl ?_
 refine aa (ku rfl)<|aa (aS hT rfl rfl rfl (es := [_, _]) rfl)<|aE hT rfl<|ae<|am<|E2 hT rfl rfl rfl rfl rfl rfl rfl ?_
 exact aB (by rw [← AH h ho]; rfl)
end
section
open Go Go.AM
theorem mz (d : Int) (h0 : d < 0) (h1 : -4194304 ≤ d) :
  aG Tryz.prog 78 [Z d] (.p (.c (CS 186 187 (chs d)))) := by
 refine aH Tryz.func78 rfl rfl rfl rfl ?_
 refine ab hP<|ai rfl<|ae<|ab hP<|ai rfl<|ae<|lZ 3 1000 2 142 rfl rfl ?_
 refine ab hP<|aj rfl<|aa (eO rfl (c := -d) (by rw [iW0 _ (by omega)]; omega)) ?_
 refine ai rfl<|ae<|ak<|ay<|bj (ι := Int) (fun m => stL [(0, Z d), (3, .vec 1000), (4, Z m)] [(1000, CB 186 187 142 [])]) (fun m => (0 < m ∧ m ≤ 4194304) ∧ rmp m 2 = (rmp (-d) 2)) (fun m => m.toNat) (-d) ⟨by omega, rfl⟩ (aC ⟨.refl _, .refl _, .refl _, trivial⟩ ⟨rfl, trivial⟩) ?_
 rintro m ⟨hm, hr⟩
 refine ak<|ab hP<|aj rfl<|aa (cr rfl rfl (by omega) (c := m % 2) (Int.tmod_eq_emod_of_nonneg (by omega))) ?_
 refine aa (bd rfl rfl)<|ae ?_
 refine aA rfl (fun hb1 => ?_) (fun hb1 => ?_)
 ·have hb1_ := bT hb1
  refine ao<|ay<|au hP<|aj rfl<|aa (dU rfl rfl (by omega) (c := m / 2) (by rw [Int.tdiv_eq_ediv_of_nonneg (by omega), iW0 _ (by omega)])) ?_
  refine ai rfl<|ae ?_
  have hdd := fS hm.1 (by decide) hb1_
  refine ⟨m / 2, ⟨by omega, by rw [gI (by decide) hm.1 hb1_, hr]⟩, by omega, aC ⟨.refl _, .refl _, .refl _, trivial⟩ ⟨rfl, trivial⟩⟩
 have hb1_ := bF hb1
 refine aV<|ak<|ab hP<|ai rfl<|ae<|ay ?_
 have hm2 : m = (rmp (-d) 2) := by rw [← hr, jo hb1_]
 refine bj (ι := Int × Int × List Int) (fun q => stL [(0, Z d), (3, .vec 1000), (4, Z q.1), (5, Z q.2.1)] [(1000, CB 186 187 142 q.2.2)]) (fun q => OcI (rmp (-d) 2) q.1 q.2.1 q.2.2) (fun q => ocM q.1 q.2.1) (m, 3, []) (by have := OcI.start (n := m) (by omega) (by omega) (by omega); rw [hm2] at this ⊢; exact this) (aC ⟨.refl _, .refl _, .refl _, .refl _, trivial⟩ ⟨rfl, trivial⟩) ?_
 intro q i
 have in1 := i.n1
 have inb := i.nb
 have ip3 := i.p3
 have il := i.len.1
 refine ak<|ab hP<|aj rfl<|aa (bK rfl rfl)<|ae ?_
 refine aA rfl (fun hb2 => ?_) (fun hb2 => ?_)
 ·have hb2_ := dT0 hb2
  have ipb := i.pb hb2_
  have hsq := ki (x := q.2.1) (m := 2051) (by omega)
  refine ao<|ak<|ay<|cf (ι := Int) (fun r => stL [(0, Z d), (3, .vec 1000), (4, Z q.1), (5, Z r)] [(1000, CB 186 187 142 q.2.2)]) (fun r => QI q.1 q.2.1 r) ?_ ?_
  ·refine ab hP<|aj rfl<|aj rfl<|aa (bH rfl rfl (by first | exact iW0 _ (by omega) | rfl)) ?_
   refine aj rfl<|aa (bK rfl rfl)<|ae ?_
   refine aA rfl (fun hb3 => ?_) (fun hb3 => ?_)
   ·have hb3_ := dT0 hb3
    refine au hP<|aj rfl<|ai rfl<|ae ?_
    refine ⟨q.1, .inl ⟨rfl, hb3_⟩, aC ⟨.refl _, .refl _, .refl _, .refl _, trivial⟩ ⟨rfl, trivial⟩⟩
   have hb3_ := dF0 hb3
   refine ao ?_
   refine ⟨q.2.1, .inr ⟨rfl, hb3_⟩, aC ⟨.refl _, .refl _, .refl _, .refl _, trivial⟩ ⟨rfl, trivial⟩⟩
  intro r hQ
  obtain ⟨hq3, hqo, hqb⟩ := i.q3 hb2_ hQ
  refine ak<|ab hP<|aj rfl<|aj rfl<|aa (cr rfl rfl (by omega) (c := q.1 % r) (Int.tmod_eq_emod_of_nonneg (by omega))) ?_
  refine aa (bd rfl rfl)<|ae ?_
  refine aA rfl (fun hb4 => ?_) (fun hb4 => ?_)
  ·have hb4_ := bT hb4
   obtain ⟨out', ho', hR⟩ : ∃ o, o = q.2.2 ++ [r] ∧ RI q.1 q.2.1 r q.2.2 o := ⟨_, rfl, hQ.yes hb4_⟩
   refine au hP<|aa (aw (rfl : _ = AV.vec _))<|aj rfl<|aa (ah (FX r hq3 hqo)) ?_
   refine aa (aW hT rfl rfl rfl (es := [_, _]) rfl rfl rfl)<|RK.app ag (ed (fo := 186) (fs := 187) (c := [r]) hT rfl rfl rfl rfl rfl rfl rfl rfl rfl (by simp only [List.length_cons, List.length_nil]; omega) (by decide)) ?_
   refine aa (bf (rfl : _ = AV.vec _))<|ae<|fG 34 1000 rfl rfl rfl ?_
   refine ay<|bj (ι := Int) (fun m => stL [(0, Z d), (3, .vec 1000), (4, Z m), (5, Z r)] [(1000, CB 186 187 142 out')]) (fun m => (0 < m ∧ m ≤ 4194304) ∧ rmp m r = rmp q.1 r) (fun m => m.toNat) q.1 ⟨by omega, rfl⟩ (aC ⟨.refl _, .refl _, .refl _, .refl _, trivial⟩ ⟨Eq.trans rfl (congrArg (fun x => some (CB 186 187 142 x)) ho'.symm), trivial⟩) ?_
   rintro m ⟨hm, hrm⟩
   refine ak<|ab hP<|aj rfl<|aj rfl<|aa (cr rfl rfl (by omega) (c := m % r) (Int.tmod_eq_emod_of_nonneg (by omega))) ?_
   refine aa (bd rfl rfl)<|ae ?_
   refine aA rfl (fun hb5 => ?_) (fun hb5 => ?_)
   ·have hb5_ := bT hb5
    have hdd := fS hm.1 (by omega) ‹m % r = 0›
    refine ao<|ay<|au hP<|aj rfl<|aj rfl<|aa (dU rfl rfl (by omega) (c := m / r) (by rw [Int.tdiv_eq_ediv_of_nonneg (by omega), iW0 _ (by omega)])) ?_
    refine ai rfl<|ae ?_
    refine ⟨m / r, ⟨by omega, by rw [gI (by omega) hm.1 ‹m % r = 0›, hrm]⟩, by omega, aC ⟨.refl _, .refl _, .refl _, .refl _, trivial⟩ ⟨rfl, trivial⟩⟩
   have hb5_ := bF hb5
   refine aV<|au hP<|aj rfl<|bp rfl rfl ?_
   refine ai rfl<|ae ?_
   have hcl := i.close hb2_ hR
   have em : m = rmp q.1 r := by rw [← hrm, jo ‹m % r ≠ 0›]
   refine ⟨(rmp q.1 r, r + 2, out'), hcl.1, hcl.2, aC ⟨.refl _, .refl _, aL em, .refl _, trivial⟩ ⟨rfl, trivial⟩⟩
  have hb4_ := bF hb4
  obtain ⟨out', ho', hR⟩ : ∃ o, o = q.2.2 ∧ RI q.1 q.2.1 r q.2.2 o := ⟨_, rfl, hQ.no hb2_ hb4_⟩
  refine ao<|ay<|bj (ι := Int) (fun m => stL [(0, Z d), (3, .vec 1000), (4, Z m), (5, Z r)] [(1000, CB 186 187 142 out')]) (fun m => (0 < m ∧ m ≤ 4194304) ∧ rmp m r = rmp q.1 r) (fun m => m.toNat) q.1 ⟨by omega, rfl⟩ (aC ⟨.refl _, .refl _, .refl _, .refl _, trivial⟩ ⟨Eq.trans rfl (congrArg (fun x => some (CB 186 187 142 x)) ho'.symm), trivial⟩) ?_
  rintro m ⟨hm, hrm⟩
  refine ak<|ab hP<|aj rfl<|aj rfl<|aa (cr rfl rfl (by omega) (c := m % r) (Int.tmod_eq_emod_of_nonneg (by omega))) ?_
  refine aa (bd rfl rfl)<|ae ?_
  refine aA rfl (fun hb6 => ?_) (fun hb6 => ?_)
  ·have hb6_ := bT hb6
   have hdd := fS hm.1 (by omega) ‹m % r = 0›
   refine ao<|ay<|au hP<|aj rfl<|aj rfl<|aa (dU rfl rfl (by omega) (c := m / r) (by rw [Int.tdiv_eq_ediv_of_nonneg (by omega), iW0 _ (by omega)])) ?_
   refine ai rfl<|ae ?_
   refine ⟨m / r, ⟨by omega, by rw [gI (by omega) hm.1 ‹m % r = 0›, hrm]⟩, by omega, aC ⟨.refl _, .refl _, .refl _, .refl _, trivial⟩ ⟨rfl, trivial⟩⟩
  have hb6_ := bF hb6
  refine aV<|au hP<|aj rfl<|bp rfl rfl ?_
  refine ai rfl<|ae ?_
  have hcl := i.close hb2_ hR
  have em : m = rmp q.1 r := by rw [← hrm, jo ‹m % r ≠ 0›]
  refine ⟨(rmp q.1 r, r + 2, out'), hcl.1, hcl.2, aC ⟨.refl _, .refl _, aL em, .refl _, trivial⟩ ⟨rfl, trivial⟩⟩
 have hb2_ := dF0 hb2
 refine aV<|ak<|ab hP<|aj rfl<|aa (cr rfl rfl (by decide) (c := d.tmod 4) rfl) ?_
 refine aa (bh rfl rfl)<|ae ?_
 refine aA rfl (fun hb7 => ?_) (fun hb7 => ?_)
 ·have hb7_ := b9 hb7
  refine ab hP<|aa (aw (rfl : _ = AV.vec _))<|aa (bf (rfl : _ = AV.vec _))<|ae<|dB (t := 2) rfl rfl ?_
  refine am<|E1 rfl rfl ?_
  exact aB (by rw [i.fin hb2_, Gc hb7_])
 have hb7_ := bY hb7
 refine ao<|ab hP<|aa (aW hT rfl rfl rfl (es := [_, _]) rfl rfl rfl)<|aa (ah (kz (-4) [1, 5])) ?_
 refine aa (aW hT rfl rfl rfl (es := [_, _]) rfl rfl rfl)<|aa (ah (kz 8 [1, 7])) ?_
 refine aa (aW hT rfl rfl rfl (es := [_, _]) rfl rfl rfl)<|aa (ah (kz (-8) [1, 3])) ?_
 refine an ag (az hT rfl rfl)<|an ag (az hT rfl rfl)<|an ag (az hT rfl rfl)<|aE hT rfl<|aE hT rfl<|aE hT rfl<|ae<|ak<|ab hP<|aj rfl<|aa (eO rfl (c := -d) (by rw [iW0 _ (by omega)]; omega)) ?_
 refine aa (dU rfl rfl (by omega) (c := -d / 4) (by rw [Int.tdiv_eq_ediv_of_nonneg (by omega), iW0 _ (by omega)])) ?_
 refine aa (cr rfl rfl (by omega) (c := -d / 4 % 8) (Int.tmod_eq_emod_of_nonneg (by omega))) ?_
 refine ae<|ay<|ab hP<|aa (bd rfl rfl)<|ai rfl<|ae ?_
 refine aA rfl (fun hb8 => ?_) (fun hb8 => ?_)
 ·have hb8_ := bT hb8
  refine au hP<|aa (aw (rfl : _ = AV.vec _))<|av hT rfl<|av hT rfl<|aa (aW hT rfl rfl rfl (es := [_, _, _, _]) rfl rfl rfl)<|RK.app ag (ed (fo := 186) (fs := 187) (c := [-4, 8]) hT rfl rfl rfl rfl rfl rfl rfl rfl rfl (by simp only [List.length_cons, List.length_nil]; omega) (by decide)) ?_
  refine aa (bf (rfl : _ = AV.vec _))<|ae<|fG 62 1000 rfl rfl rfl ?_
  refine ab hP<|aa (aw (rfl : _ = AV.vec _))<|aa (bf (rfl : _ = AV.vec _))<|ae<|dB (t := 2) rfl rfl ?_
  refine am<|E1 rfl rfl ?_
  exact aB (by rw [i.fin hb2_, lp hb7_ (ER hb7_ hb8_)])
 have hb8_ := bF hb8
 refine ak<|ab hP<|aa (bd rfl rfl)<|ai rfl<|ae ?_
 refine aA rfl (fun hb9 => ?_) (fun hb9 => ?_)
 ·have hb9_ := bT hb9
  refine ao<|aN rfl hb9<|au hP<|aa (aw (rfl : _ = AV.vec _))<|av hT rfl<|aa (aW hT rfl rfl rfl (es := [_, _]) rfl rfl rfl)<|RK.app ag (ed (fo := 186) (fs := 187) (c := [-4]) hT rfl rfl rfl rfl rfl rfl rfl rfl rfl (by simp only [List.length_cons, List.length_nil]; omega) (by decide)) ?_
  refine aa (bf (rfl : _ = AV.vec _))<|ae<|fG 70 1000 rfl rfl rfl ?_
  refine ab hP<|aa (aw (rfl : _ = AV.vec _))<|aa (bf (rfl : _ = AV.vec _))<|ae<|dB (t := 2) rfl rfl ?_
  refine am<|E1 rfl rfl ?_
  exact aB (by rw [i.fin hb2_, lp hb7_ (sR hb7_ hb8_ (.inl hb9_))])
 have hb9_ := bF hb9
 refine ab hP<|aa (bd rfl rfl)<|ai rfl<|ae ?_
 refine aA rfl (fun hb10 => ?_) (fun hb10 => ?_)
 ·have hb10_ := bT hb10
  refine ao<|aN rfl hb10<|au hP<|aa (aw (rfl : _ = AV.vec _))<|av hT rfl<|aa (aW hT rfl rfl rfl (es := [_, _]) rfl rfl rfl)<|RK.app ag (ed (fo := 186) (fs := 187) (c := [-4]) hT rfl rfl rfl rfl rfl rfl rfl rfl rfl (by simp only [List.length_cons, List.length_nil]; omega) (by decide)) ?_
  refine aa (bf (rfl : _ = AV.vec _))<|ae<|fG 70 1000 rfl rfl rfl ?_
  refine ab hP<|aa (aw (rfl : _ = AV.vec _))<|aa (bf (rfl : _ = AV.vec _))<|ae<|dB (t := 2) rfl rfl ?_
  refine am<|E1 rfl rfl ?_
  exact aB (by rw [i.fin hb2_, lp hb7_ (sR hb7_ hb8_ (.inr (.inl hb10_)))])
 have hb10_ := bF hb10
 refine au hP<|aa (bd rfl rfl)<|ai rfl<|ae ?_
 refine aA rfl (fun hb11 => ?_) (fun hb11 => ?_)
 ·have hb11_ := bT hb11
  refine au hP<|aa (aw (rfl : _ = AV.vec _))<|av hT rfl<|aa (aW hT rfl rfl rfl (es := [_, _]) rfl rfl rfl)<|RK.app ag (ed (fo := 186) (fs := 187) (c := [-4]) hT rfl rfl rfl rfl rfl rfl rfl rfl rfl (by simp only [List.length_cons, List.length_nil]; omega) (by decide)) ?_
  refine aa (bf (rfl : _ = AV.vec _))<|ae<|fG 70 1000 rfl rfl rfl ?_
  refine ab hP<|aa (aw (rfl : _ = AV.vec _))<|aa (bf (rfl : _ = AV.vec _))<|ae<|dB (t := 2) rfl rfl ?_
  refine am<|E1 rfl rfl ?_
  exact aB (by rw [i.fin hb2_, lp hb7_ (sR hb7_ hb8_ (.inr (.inr hb11_)))])
 have hb11_ := bF hb11
 refine ab hP<|aa (bd rfl rfl)<|ai rfl<|ae ?_
 refine aA rfl (fun hb12 => ?_) (fun hb12 => ?_)
 ·have hb12_ := bT hb12
  refine au hP<|aa (aw (rfl : _ = AV.vec _))<|av hT rfl<|aa (aW hT rfl rfl rfl (es := [_, _]) rfl rfl rfl)<|RK.app ag (ed (fo := 186) (fs := 187) (c := [-8]) hT rfl rfl rfl rfl rfl rfl rfl rfl rfl (by simp only [List.length_cons, List.length_nil]; omega) (by decide)) ?_
  refine aa (bf (rfl : _ = AV.vec _))<|ae<|fG 76 1000 rfl rfl rfl ?_
  refine ab hP<|aa (aw (rfl : _ = AV.vec _))<|aa (bf (rfl : _ = AV.vec _))<|ae<|dB (t := 2) rfl rfl ?_
  refine am<|E1 rfl rfl ?_
  exact aB (by rw [i.fin hb2_, lp hb7_ (EQ hb7_ hb12_)])
 have hb12_ := bF hb12
 refine ab hP<|aa (bd rfl rfl)<|ai rfl<|ae ?_
 refine aA rfl (fun hb13 => ?_) (fun hb13 => ?_)
 ·have hb13_ := bT hb13
  refine au hP<|aa (aw (rfl : _ = AV.vec _))<|av hT rfl<|aa (aW hT rfl rfl rfl (es := [_, _]) rfl rfl rfl)<|RK.app ag (ed (fo := 186) (fs := 187) (c := [8]) hT rfl rfl rfl rfl rfl rfl rfl rfl rfl (by simp only [List.length_cons, List.length_nil]; omega) (by decide)) ?_
  refine aa (bf (rfl : _ = AV.vec _))<|ae<|fG 82 1000 rfl rfl rfl ?_
  refine ab hP<|aa (aw (rfl : _ = AV.vec _))<|aa (bf (rfl : _ = AV.vec _))<|ae<|dB (t := 2) rfl rfl ?_
  refine am<|E1 rfl rfl ?_
  exact aB (by rw [i.fin hb2_, lp hb7_ (EP hb7_ hb13_)])
 have hb13_ := bF hb13
 refine ao<|ab hP<|aa (aw (rfl : _ = AV.vec _))<|aa (bf (rfl : _ = AV.vec _))<|ae<|dB (t := 2) rfl rfl ?_
 refine am<|E1 rfl rfl ?_
 exact aB (by rw [i.fin hb2_, EO hb7_ hb8_ hb9_ hb10_ hb11_ hb12_ hb13_])
end
section
open Go Go.AM
theorem xr (x : Int) (hx : 18446744073709551616 ≤ x.natAbs) :
  aG Tryz.prog 125 [I x] (.t [.c (.v (.int .i64 (lwV x))), PB (lwO x)]) := by
 have hl : ¬ (wl x.natAbs).length ≤ 2 := fun h => by have := Ds h; omega
 refine aH Tryz.func125 rfl rfl rfl rfl ?_
 refine ab hP<|an ag (aK rfl rfl)<|ai rfl<|ai rfl<|ae<|ak<|ab hP<|aM hT rfl<|bn hT rfl rfl rfl rfl ?_
 refine aa (aZ hT rfl rfl rfl rfl)<|aa (bK rfl rfl)<|ae<|aN rfl (decide_eq_true (by omega)) ?_
 refine ab hP<|ai rfl<|ai rfl<|ae<|am<|E11 rfl rfl rfl ?_
 exact aB (FI (by omega))
theorem xt (x : Int) : aG Tryz.prog 125 [I x] (.t [.c (.v (.int .i64 (lwV x))), PB (lwO x)]) := by
 by_cases h : x.natAbs < 9223372036854775808
 ·have h1 := fR x (by omega) (by omega)
  have h2 := r9 (a := x) (by omega)
  rw [h2.1, h2.2]; exact h1
 by_cases h1 : x.natAbs < 18446744073709551616
 ·exact xq x (by omega)
 exact xr x (by omega)
theorem sn (d : Int) (hd : L 40 d) :
  aG Tryz.prog 142 [I d] (.t [PE (gnV d), PE (szE d)]) := by
 have id0 : LB d 40 := ⟨hd⟩
 have hm0 := Int.emod_nonneg d (show (4 : Int) ≠ 0 by omega)
 have hm1 := Int.emod_lt_of_pos d (show (0 : Int) < 4 by omega)
 refine aH Tryz.func142 rfl rfl rfl rfl ?_
 refine ab hP<|an ag (aK rfl rfl)<|ai rfl<|ai rfl<|ae<|ab hP<|av hT rfl<|aa (ah (dm 4 (by decide))) ?_
 refine aa (ah (cU d 4 lz lz (by decide))) ?_
 refine aa (aw (rfl : _ = AV.t _))<|aa (aq rfl (v := .a _) rfl)<|aa (aq rfl (v := .a _) rfl)<|aa (aq rfl (v := .c _) rfl)<|an ag (az hT rfl rfl)<|an ag (az hT rfl rfl)<|aE hT rfl<|aE hT rfl<|ai rfl<|ae<|ab hP<|av hT rfl<|aa (ah (xt d)) ?_
 refine aa (aw (rfl : _ = AV.t _))<|aa (aq rfl (v := .c _) rfl)<|aa (aq rfl (v := .c _) rfl)<|ai rfl<|ai rfl<|ae<|ak<|ay<|ab hP<|av hT rfl<|aa (ah (cn _)) ?_
 refine aa (dL rfl rfl)<|aj rfl ?_
 refine a8 (t := 25) rfl (fun hg1 => ?_) (fun hg1 => ?_)
 ·have hg1_ := dT0 hg1
  iterate 4 refine a6 hg1 ?_
  refine aa (aQ rfl hg1 (rfl : _ = AV.p (.c _)))<|ai rfl<|ae<|aN rfl rfl<|ab hP<|ai rfl<|ai rfl<|ae<|am<|E11 rfl rfl rfl ?_
  exact aB (DK (.inl (sgn_ge_iff.1 hg1_)))
 have hg1_ := dF0 hg1
 refine aD hg1 (aT hT rfl rfl rfl rfl (cs := [_, _]) rfl rfl) ?_
 refine aD hg1 (ah (dm 1 (by decide))) ?_
 refine aD hg1 (ah (cY _ _)) ?_
 refine aD hg1 (bK rfl rfl) ?_
 refine aa (aP rfl hg1 (rfl : _ = AV.p (.c _)))<|ai rfl<|ae ?_
 refine aA rfl (fun hb2 => ?_) (fun hb2 => ?_)
 ·have hb2_ := dT0 hb2
  refine ab hP<|ai rfl<|ai rfl<|ae<|am<|E11 rfl rfl rfl ?_
  exact aB (DK (.inr (cmpI_gt_zero.1 hb2_)))
 have hb2_ := dF0 hb2
 have hn : ¬ (0 ≤ d ∨ d % 4 > 1) := fun h => h.elim (fun x => hg1_ (sgn_ge_iff.2 x)) (fun x => hb2_ (cmpI_gt_zero.2 x))
 refine ab hP<|aj rfl<|aa (bM rfl)<|aj rfl ?_
 refine a8 (t := 34) rfl (fun hg3 => ?_) (fun hg3 => ?_)
 ·have hg3_ := (dF hg3)
  refine a6 hg3 ?_
  refine a6 hg3 ?_
  refine aa (aQ rfl hg3 (rfl : _ = AV.p (.c _)))<|ai rfl<|ae<|aN rfl rfl<|ab hP<|ai rfl<|ai rfl<|ae<|am<|E11 rfl rfl rfl ?_
  exact aB (DL hn (by have := FM hg3_; omega))
 have hg3_ := (du hg3)
 have hly := r9 (lwO_iff.1 hg3_)
 refine aD hg3 (aw (rfl : _ = AV.p (.c _))) ?_
 refine aD hg3 (aU rfl rfl) ?_
 refine aa (aP rfl hg3 (rfl : _ = AV.p (.c _)))<|ai rfl<|ae ?_
 refine aA rfl (fun hb4 => ?_) (fun hb4 => ?_)
 ·have hb4_ := dT0 hb4
  refine ab hP<|ai rfl<|ai rfl<|ae<|am<|E11 rfl rfl rfl ?_
  exact aB (DL hn (by have := hly.2; omega))
 have hb4_ := dF0 hb4
 refine ao<|ab hP<|aj rfl<|ai rfl<|ai rfl<|ae<|am<|E11 rfl rfl rfl ?_
 exact aB (by rw [hly.2]; exact GX hn (by have := hly.2; omega))
theorem qj (d : Int) (hd : L 40 d) :
  aG Tryz.prog 139 [I d] (.t [.c (IS (chE d)), PE (szE d)]) := by
 have id0 : LB d 40 := ⟨hd⟩
 refine aH Tryz.func139 rfl rfl rfl rfl ?_
 refine ab hP<|an ag (aK rfl rfl)<|ai rfl<|ai rfl<|ae<|ab hP<|av hT rfl<|aa (ah (sn _ hd)) ?_
 refine aa (aw (rfl : _ = AV.t _))<|aa (aq rfl (v := .c _) rfl)<|aa (aq rfl (v := .c _) rfl)<|ai rfl<|ai rfl<|ae<|ak<|ab hP<|aj rfl<|aa (bh rfl rfl)<|ae ?_
 refine aA rfl (fun hb1 => ?_) (fun hb1 => ?_)
 ·have hb1_ := b9 hb1
  refine ab hP<|aj rfl<|ai rfl<|ai rfl<|ae<|am<|E11 rfl rfl rfl ?_
  exact (by rw [Gd hb1_]; exact Sub.tup ⟨DSub.nil_sl, DSub.refl _, trivial⟩)
 have hb1_ := bY hb1
 have he : szE d = 0 := hb1_
 obtain ⟨e1, e2, e3⟩ := oH he
 have cAs : aG Tryz.prog 78 [Z (gnV d)] (.p (.c (CS 186 187 (chs d)))) := by rw [e1]; exact mz d e2 e3
 have hcl := lq e2 e3
 generalize hl : chs d = l at cAs hcl
 refine ao<|ab hP<|ai rfl<|ae<|lZ 6 1000 1 3 rfl rfl ?_
 refine ak<|ab hP<|aj rfl<|aa (ah cAs) ?_
 refine aa (aZ hT rfl rfl rfl (by rfl)) ?_
 refine aj rfl<|ae<|ay<|bj (ι := Nat) (fun k => stL [(6, .vec 1000), (18, .p (.c (CS 186 187 l))), (19, Z (l.length : Int)), (20, Z (k : Int))] [(1000, IB 3 (l.take k))]) (fun k => k ≤ l.length) (fun k => l.length - k) 0 (Nat.zero_le _) (aC ⟨.refl _, .refl _, .refl _, .refl _, trivial⟩ ⟨rfl, trivial⟩) ?_
 intro k hk
 refine ab hP<|aa (aU rfl rfl)<|ae<|ak ?_
 refine aA rfl (fun hb2 => ?_) (fun hb2 => ?_)
 ·have hb2_ := dT0 hb2
  refine ao<|ak<|ay<|ab hP<|aa (nW (fo := 186) (fs := 187) (n := (k : Int)) hT rfl rfl rfl rfl rfl rfl (by omega)) ?_
  refine aa (br hT rfl rfl rfl (cs := chC 186 187 (l.getD k 0)) rfl rfl) ?_
  refine an ag (az hT rfl rfl)<|aE hT rfl<|ae<|au hP<|aa (aw (rfl : _ = AV.vec _))<|aM hT rfl<|bn hT rfl rfl rfl rfl ?_
  refine aa (aW hT rfl rfl rfl (es := [_]) rfl rfl rfl)<|RK.app ag (mn (z := l.getD k 0) hT rfl rfl rfl rfl rfl rfl rfl rfl (by rw [List.length_take]; omega) (by decide)) ?_
  refine aa (bf (rfl : _ = AV.vec _))<|ae<|fG 28 1000 rfl rfl rfl ?_
  refine au hP<|bp rfl rfl ?_
  refine aj rfl<|ae ?_
  refine ⟨k + 1, by omega, by omega, aC ⟨.refl _, .refl _, .refl _, aL (by omega), trivial⟩ ⟨Eq.trans rfl (congrArg (fun x => some (IB 3 x)) (nG hb2_)), trivial⟩⟩
 have hb2_ := dF0 hb2
 refine aV<|lJ (t := 6) rfl rfl ?_
 refine ab hP<|aj rfl<|ai rfl<|ai rfl<|ae<|am<|E11 rfl rfl rfl ?_
 exact aB (by rw [oX hb2_, he, yY he, hl])
end
section
open Go Go.AM
theorem oI (a b : Int) (ha : a7 a) (hb : a7 b) :
  aG Tryz.prog 76 [Z a, Z b] (Z (gg a b)) := by
 refine aH Tryz.func76 rfl rfl rfl rfl ?_
 refine ab hP<|ai rfl<|ae<|ak<|ay<|bj (ι := Int × Int) (fun p => stL [(0, Z p.1), (1, Z p.2)] []) (fun p => gg p.1 p.2 = gg a b ∧ a7 p.1 ∧ a7 p.2) (fun p => p.2.natAbs) (a, b) ⟨rfl, ha, hb⟩ (aC ⟨.refl _, .refl _, trivial⟩ trivial) ?_
 rintro p ⟨hG, hp1, hp2⟩
 refine ak<|ab hP<|aj rfl<|aa (bh rfl rfl)<|ae ?_
 refine aA rfl (fun hb1 => ?_) (fun hb1 => ?_)
 ·have hb1_ := b9 hb1
  refine ao<|ay<|au hP<|aj rfl<|aj rfl<|aj rfl<|aa (cr rfl rfl hb1_ (c := p.1.tmod p.2) rfl) ?_
  refine ai rfl<|ai rfl<|ae ?_
  have ht := CE hp1 hp2 hb1_
  refine ⟨(p.2, p.1.tmod p.2), ⟨(Be hb1_).trans hG, hp2, ht.1⟩, ht.2, aC ⟨.refl _, .refl _, trivial⟩ trivial⟩
 have hb1_ := bY hb1
 refine aV<|ab hP<|aj rfl<|ai rfl<|ae<|am<|E1 rfl rfl ?_
 exact aL (by rw [← hG, GY hb1_])
theorem yV (x : Int) (h : -9223372036854775808 < x ∧ x ≤ 9223372036854775807) :
  aG Tryz.prog 77 [Z x] (Z (x.natAbs : Int)) := by
 refine aH Tryz.func77 rfl rfl rfl rfl ?_
 refine ab hP<|ai rfl<|ae<|ab hP<|aj rfl<|aj rfl<|aa (eO rfl (by first | exact iW0 _ (by omega) | rfl)) ?_
 refine aa (pL rfl rfl)<|ai rfl<|ae<|am<|E1 rfl rfl ?_
 exact aL (by split <;> omega)
theorem qW (f : Fm) (hfa : L 6 f.a) (hfb : L 6 f.b) (hfc : L 6 f.c) :
  aG Tryz.prog 74 [FA f.a f.b f.c] (.t [PE (gpV f), PE (gpE f)]) := by
 have ifa : LB f.a 6 := ⟨hfa⟩
 have ifb : LB f.b 6 := ⟨hfb⟩
 have ifc : LB f.c 6 := ⟨hfc⟩
 refine aH Tryz.func74 rfl rfl rfl rfl ?_
 refine ab hP<|an ag (aK rfl rfl)<|ai rfl<|ai rfl<|ae<|ak<|ab hP<|bO hT rfl rfl rfl rfl rfl rfl<|aa (ah (kR f.a f.b f.c lz lz lz)) ?_
 refine ai rfl<|ae<|ab hP<|aj rfl<|aa (bh rfl rfl)<|ae ?_
 refine aA rfl (fun hb1 => ?_) (fun hb1 => ?_)
 ·have hb1_ := b9 hb1
  refine ab hP<|aj rfl<|ai rfl<|ai rfl<|ae<|am<|E11 rfl rfl rfl ?_
  exact aB (GV hb1_)
 have hb1_ := bY hb1
 refine ao<|ab hP<|bO hT rfl rfl rfl rfl rfl rfl<|aa (ah (fz f.a f.b f.c lz lz lz)) ?_
 refine aa (ah (sn _ lz)) ?_
 refine aa (aw (rfl : _ = AV.t _))<|aa (aq rfl (v := .c _) rfl)<|aa (aq rfl (v := .c _) rfl)<|ai rfl<|ai rfl<|ae<|ak<|ab hP<|aj rfl<|aa (bd rfl rfl)<|aj rfl ?_
 refine a8 (t := 20) rfl (fun hg2 => ?_) (fun hg2 => ?_)
 ·have hg2_ := bT hg2
  refine aD hg2 (aT hT rfl rfl rfl rfl (cs := [_, _, _, _, _, _]) rfl rfl) ?_
  refine aD hg2 (ah (fX f.a f.b f.c lz lz lz)) ?_
  refine aD hg2 (bM rfl) ?_
  refine aa (aQ rfl hg2 (rfl : _ = AV.p (.c _)))<|ae ?_
  refine aA rfl (fun hb3 => ?_) (fun hb3 => ?_)
  ·have hb3_ := (dF hb3)
   refine ab hP<|ai rfl<|ai rfl<|ae<|am<|E11 rfl rfl rfl ?_
   exact aB (GU hb1_ hg2_ hb3_)
  have hb3_ := (du hb3)
  refine ao<|ab hP<|aj rfl<|aj rfl<|ai rfl<|ai rfl<|ae<|am<|E11 rfl rfl rfl ?_
  exact aB (GT hb1_ hg2_ hb3_)
 have hg2_ := bF hg2
 iterate 3 refine a6 hg2 ?_
 refine aa (aP rfl hg2 (rfl : _ = AV.p (.c _)))<|ae<|aI rfl rfl<|ao<|ab hP<|aj rfl<|aj rfl<|ai rfl<|ai rfl<|ae<|am<|E11 rfl rfl rfl ?_
 exact aB (GS hb1_ hg2_)
theorem Bg (f : Fm) (d : Int) (hf : Cl d f) (hd : -4194304 ≤ d) (hfa : L 6 f.a) (hfb : L 6 f.b) (hfc : L 6 f.c) :
  aG Tryz.prog 75 [FA f.a f.b f.c] (.t [PE f.rd.a, PE f.rd.b, PE f.rd.c]) := by
 have ifa : LB f.a 6 := ⟨hfa⟩
 have ifb : LB f.b 6 := ⟨hfb⟩
 have ifc : LB f.c 6 := ⟨hfc⟩
 have cR : aG Tryz.prog 41 [FA f.a f.b f.c] (.t [PF f.rd, PM (rdM f.a f.b f.c), PE (rdE f.a f.b f.c)]) := gZ f.a f.b f.c lz lz lz
 rw [gJ hf.pos] at cR
 obtain ⟨⟨s1, s2⟩, ⟨s3, s4⟩, s5, s6⟩ := pq hf.rd hf.rd_rd hd
 generalize rdM f.a f.b f.c = M at cR
 generalize f.rd = g at *
 have l1 := fR g.a (by omega) (by omega)
 have l2 := fR g.b (by omega) (by omega)
 have l3 := fR g.c (by omega) (by omega)
 refine aH Tryz.func75 rfl rfl rfl rfl ?_
 refine ab hP<|an ag (aK rfl rfl)<|ai rfl<|ai rfl<|ai rfl<|ae<|ab hP<|bO hT rfl rfl rfl rfl rfl rfl<|aa (ah cR) ?_
 refine aa (aw (rfl : _ = AV.t _))<|aa (aq rfl (v := .a _) rfl)<|aa (aq rfl (v := .a _) rfl)<|aa (aq rfl (v := .c _) rfl)<|an ag (az hT rfl rfl)<|an ag (az hT rfl rfl)<|aE hT rfl<|aE hT rfl<|ai rfl<|ae<|ab hP<|aM hT rfl<|av hT rfl<|aa (ah l1) ?_
 refine aa (aw (rfl : _ = AV.t _))<|aa (aq rfl (v := .c _) rfl)<|aa (aq rfl (v := .c _) rfl)<|ai rfl<|ae<|ab hP<|aM hT rfl<|av hT rfl<|aa (ah l2) ?_
 refine aa (aw (rfl : _ = AV.t _))<|aa (aq rfl (v := .c _) rfl)<|aa (aq rfl (v := .c _) rfl)<|ai rfl<|ae<|ab hP<|aM hT rfl<|av hT rfl<|aa (ah l3) ?_
 refine aa (aw (rfl : _ = AV.t _))<|aa (aq rfl (v := .c _) rfl)<|aa (aq rfl (v := .c _) rfl)<|ai rfl<|ae<|ab hP<|aj rfl<|aj rfl<|aj rfl<|ai rfl<|ai rfl<|ai rfl<|ae<|am ?_
 refine dM rfl (.inr rfl) (bC rfl) (bC rfl) (bC rfl) ?_ bv
 exact .refl _
theorem qi (f : Fm) (hfa : L 6 f.a) (hfb : L 6 f.b) (hfc : L 6 f.c) (hx : gpE f = 0 → ∃ x y : Int, 0 ≤ x ∧ x ≤ 1400000 ∧ 0 ≤ y ∧ y ≤ 1400000 ∧ Int.gcd (vl f.rd.a f.rd.b f.rd.c x y) (2 * dsc f.a f.b f.c) = 1) :
  aG Tryz.prog 19 [FA f.a f.b f.c] (.t [.c (IS (gvL f)), PE (gpE f)]) := by
 have ifa : LB f.a 6 := ⟨hfa⟩
 have ifb : LB f.b 6 := ⟨hfb⟩
 have ifc : LB f.c 6 := ⟨hfc⟩
 have cP := qW f hfa hfb hfc
 refine aH Tryz.func19 rfl rfl rfl rfl ?_
 refine ab hP<|an ag (aK rfl rfl)<|ai rfl<|ai rfl<|ae<|ab hP<|bO hT rfl rfl rfl rfl rfl rfl<|aa (ah cP) ?_
 refine aa (aw (rfl : _ = AV.t _))<|aa (aq rfl (v := .c _) rfl)<|aa (aq rfl (v := .c _) rfl)<|ai rfl<|ai rfl<|ae<|ak<|ab hP<|aj rfl<|aa (bh rfl rfl)<|ae ?_
 refine aA rfl (fun hb1 => ?_) (fun hb1 => ?_)
 ·have hb1_ := b9 hb1
  refine ab hP<|aj rfl<|ai rfl<|ai rfl<|ae<|am<|E11 rfl rfl rfl ?_
  exact (by rw [FV hb1_]; exact Sub.tup ⟨DSub.nil_sl, DSub.refl _, trivial⟩)
 have hb1_ := bY hb1
 have he : gpE f = 0 := hb1_
 obtain ⟨hf, hE⟩ := qd he
 obtain ⟨hgn, hd0, hd1⟩ := oH hE
 have hxx := hx he
 have eV : gpV f = dsc f.a f.b f.c := by unfold gpV; rw [if_pos he]
 have cS := Bg f _ hf hd1 hfa hfb hfc
 have cA0 := mz _ hd0 hd1
 have hmap := fun (N : Int) (h1 : RpN f.rd N) (h2 : Int.gcd N (2 * dsc f.a f.b f.c) = 1) => u6 hf hd1 hd0 hE h1 h2
 have hcb := fun (c : Int) (h : c ∈ chs (dsc f.a f.b f.c)) => tI hd0 hd1 h
 have hcl := lq hd0 hd1
 obtain ⟨⟨s1, s2⟩, ⟨s3, s4⟩, s5, s6⟩ := pq hf.rd hf.rd_rd hd1
 have hg := hf.rd
 rw [eV]
 generalize dsc f.a f.b f.c = d at *
 generalize f.rd = g at *
 have j2 : a7 (2 * d) := by unfold a7; omega
 refine ao<|ab hP<|bO hT rfl rfl rfl rfl rfl rfl<|aa (ah cS) ?_
 refine aa (aw (rfl : _ = AV.t _))<|aa (aq rfl (v := .c _) rfl)<|aa (aq rfl (v := .c _) rfl)<|aa (aq rfl (v := .c _) rfl)<|ai rfl<|ai rfl<|ai rfl<|ae<|ab hP<|aj rfl<|ai rfl<|ae<|cf (ι := Int) (fun N => stL [(4, Z d), (9, Z N)] []) (fun N => RpN g N ∧ (-9000000000000000000 ≤ N ∧ N ≤ 9000000000000000000) ∧ Int.gcd N (2 * d) = 1) ?_ ?_
 ·refine ab hP<|ai rfl<|ae<|ay<|bj (ι := Int × Int) (fun q => stL [(4, Z d), (6, Z g.a), (7, Z g.b), (8, Z g.c), (9, Z q.1), (10, Z q.2)] []) (fun q => (RpN g q.1 ∧ (-9000000000000000000 ≤ q.1 ∧ q.1 ≤ 9000000000000000000) ∧ (1 ≤ q.2 ∧ q.2 ≤ 1400001) ∧ (Int.gcd q.1 (2 * d) = 1 ∨ NoP g d q.2))) (fun q => (1400001 - q.2).toNat) (g.a, 1) ⟨⟨1, 0, by unfold vl; simp⟩, by simp only; omega, by simp only; omega, .inr (NoP.start hd0)⟩ (aC ⟨.refl _, .refl _, .refl _, .refl _, .refl _, .refl _, trivial⟩ trivial) ?_
  rintro q ⟨hq1, hq2, hq3, hq4⟩
  have jn : a7 q.1 := by unfold a7; omega
  refine ak<|ab hP<|aj rfl<|aj rfl<|aa (bH rfl rfl (by first | exact iW0 _ (by omega) | rfl)) ?_
  refine aa (ah (oI _ _ jn j2)) ?_
  refine aa (bh rfl rfl)<|aj rfl ?_
  refine a8 (t := 35) rfl (fun hg2 => ?_) (fun hg2 => ?_)
  ·have hg2_ := b9 hg2
   refine aD hg2 (aw (rfl : _ = AV.p (.c _))) ?_
   refine aD hg2 (aw (rfl : _ = AV.p (.c _))) ?_
   refine aD hg2 (bH rfl rfl (by first | exact iW0 _ (by omega) | rfl)) ?_
   refine aD hg2 (ah (oI _ _ jn j2)) ?_
   refine aD hg2 (bh rfl rfl) ?_
   refine aa (aQ rfl hg2 (rfl : _ = AV.p (.c _)))<|ae ?_
   refine aA rfl (fun hb3 => ?_) (fun hb3 => ?_)
   ·have hb3_ := b9 hb3
    have hNP : NoP g d q.2 := hq4.resolve_left (fun e => (gg_one.1 e).elim hg2_ hb3_)
    have hle := hNP.le hxx
    refine ao<|cf (ι := Int) (fun m => stL [(4, Z d), (6, Z g.a), (7, Z g.b), (8, Z g.c), (9, Z m), (10, Z q.2)] []) (fun m => (RpN g m ∧ (-9000000000000000000 ≤ m ∧ m ≤ 9000000000000000000) ∧ (Int.gcd m (2 * d) = 1 ∨ NoX g d q.2 (q.2 + 1)))) ?_ ?_
    ·refine ay<|ab hP<|ai rfl<|ae<|ay<|bj (ι := Int × Int) (fun r => stL [(4, Z d), (6, Z g.a), (7, Z g.b), (8, Z g.c), (9, Z r.2), (10, Z q.2), (11, Z r.1)] []) (fun r => (0 ≤ r.1 ∧ r.1 ≤ q.2 + 1) ∧ RpN g r.2 ∧ (-9000000000000000000 ≤ r.2 ∧ r.2 ≤ 9000000000000000000) ∧ NoX g d q.2 r.1) (fun r => (q.2 + 1 - r.1).toNat) (0, q.1) ⟨by simp only; omega, hq1, hq2, NoX.start⟩ (aC ⟨.refl _, .refl _, .refl _, .refl _, .refl _, .refl _, .refl _, trivial⟩ trivial) ?_
     rintro r ⟨hr1, hr2, hr3, hr4⟩
     refine ak<|ab hP<|aj rfl<|aj rfl<|aa (ie rfl rfl)<|ae ?_
     refine aA rfl (fun hb4 => ?_) (fun hb4 => ?_)
     ·have hb4_ := dT0 hb4
      have hG := gb (a := g.a) (b := g.b) (c := g.c) (x := r.1) (y := q.2) (by omega) (by omega) (by omega) (by omega) (by omega)
      have hH := gb (a := g.a) (b := g.b) (c := g.c) (x := q.2) (y := r.1) (by omega) (by omega) (by omega) (by omega) (by omega)
      have ev1 : g.a * r.1 * r.1 + g.b * r.1 * q.2 + g.c * q.2 * q.2 = (vl g.a g.b g.c r.1 q.2) := rfl
      have ev2 : g.a * q.2 * q.2 + g.b * r.1 * q.2 + g.c * r.1 * r.1 = (vl g.a g.b g.c q.2 r.1) := EG g.a g.b g.c r.1 q.2
      have jv1 : a7 (g.a * r.1 * r.1 + g.b * r.1 * q.2 + g.c * q.2 * q.2) := by unfold a7; omega
      have jv2 : a7 (g.a * q.2 * q.2 + g.b * r.1 * q.2 + g.c * r.1 * r.1) := by unfold a7; omega
      have hv1b : -9000000000000000000 ≤ (vl g.a g.b g.c r.1 q.2) ∧ (vl g.a g.b g.c r.1 q.2) ≤ 9000000000000000000 := by rw [← ev1]; omega
      have hv2b : -9000000000000000000 ≤ (vl g.a g.b g.c q.2 r.1) ∧ (vl g.a g.b g.c q.2 r.1) ≤ 9000000000000000000 := by rw [← ev2]; omega
      have hab1 := DM (n := g.a * r.1 * r.1 + g.b * r.1 * q.2 + g.c * q.2 * q.2) hd0 hd1
      have hab2 := DM (n := g.a * q.2 * q.2 + g.b * r.1 * q.2 + g.c * r.1 * r.1) hd0 hd1
      refine ao<|ak<|ay<|ak<|ab hP<|aj rfl<|aj rfl<|aa (bH rfl rfl (by first | exact iW0 _ (by omega) | rfl)) ?_
      refine aj rfl<|aa (bH rfl rfl (by first | exact iW0 _ (by omega) | rfl)) ?_
      refine aj rfl<|aj rfl<|aa (bH rfl rfl (by first | exact iW0 _ (by omega) | rfl)) ?_
      refine aj rfl<|aa (bH rfl rfl (by first | exact iW0 _ (by omega) | rfl)) ?_
      refine bp rfl rfl ?_
      refine aj rfl<|aj rfl<|aa (bH rfl rfl (by first | exact iW0 _ (by omega) | rfl)) ?_
      refine aj rfl<|aa (bH rfl rfl (by first | exact iW0 _ (by omega) | rfl)) ?_
      refine bp rfl rfl ?_
      refine ai rfl<|ae<|ab hP<|aj rfl<|aj rfl<|aa (bH rfl rfl (by first | exact iW0 _ (by omega) | rfl)) ?_
      refine aa (ah (oI _ _ jv1 j2)) ?_
      refine aa (ah (yV _ hab1)) ?_
      refine aa (bd rfl rfl)<|ae ?_
      refine aA rfl (fun hb5 => ?_) (fun hb5 => ?_)
      ·have hb5_ := bT hb5
       refine aV ?_
       refine ⟨(vl g.a g.b g.c r.1 q.2), ⟨⟨r.1, q.2, rfl⟩, hv1b, .inl (gg1 (n := (vl g.a g.b g.c r.1 q.2)) hb5_)⟩, aC ⟨.refl _, .refl _, .refl _, .refl _, .refl _, .refl _, trivial⟩ trivial⟩
      have hb5_ := bF hb5
      refine ao<|ab hP<|aj rfl<|aj rfl<|aa (bH rfl rfl (by first | exact iW0 _ (by omega) | rfl)) ?_
      refine aj rfl<|aa (bH rfl rfl (by first | exact iW0 _ (by omega) | rfl)) ?_
      refine aj rfl<|aj rfl<|aa (bH rfl rfl (by first | exact iW0 _ (by omega) | rfl)) ?_
      refine aj rfl<|aa (bH rfl rfl (by first | exact iW0 _ (by omega) | rfl)) ?_
      refine bp rfl rfl ?_
      refine aj rfl<|aj rfl<|aa (bH rfl rfl (by first | exact iW0 _ (by omega) | rfl)) ?_
      refine aj rfl<|aa (bH rfl rfl (by first | exact iW0 _ (by omega) | rfl)) ?_
      refine bp rfl rfl ?_
      refine ai rfl<|ae<|ab hP<|aj rfl<|aj rfl<|aa (bH rfl rfl (by first | exact iW0 _ (by omega) | rfl)) ?_
      refine aa (ah (oI _ _ jv2 j2)) ?_
      refine aa (ah (yV _ hab2)) ?_
      refine aa (bd rfl rfl)<|ae ?_
      refine aA rfl (fun hb6 => ?_) (fun hb6 => ?_)
      ·have hb6_ := bT hb6
       refine aV ?_
       refine ⟨(vl g.a g.b g.c q.2 r.1), ⟨⟨q.2, r.1, rfl⟩, hv2b, .inl (by rw [← ev2]; exact gg1 hb6_)⟩, aC ⟨.refl _, .refl _, .refl _, .refl _, aL ev2, .refl _, trivial⟩ trivial⟩
      have hb6_ := bF hb6
      refine ao<|au hP<|aj rfl<|bp rfl rfl ?_
      refine ai rfl<|ae ?_
      refine ⟨(r.1 + 1, (vl g.a g.b g.c q.2 r.1)), ⟨by simp only; omega, ⟨q.2, r.1, rfl⟩, hv2b, hr4.next (DN (n := (vl g.a g.b g.c r.1 q.2)) hb5_) (by rw [← ev2]; exact DN hb6_)⟩, by simp only; omega, aC ⟨.refl _, .refl _, .refl _, .refl _, aL ev2, .refl _, .refl _, trivial⟩ trivial⟩
     have hb4_ := dF0 hb4
     refine aV ?_
     refine ⟨r.2, ⟨hr2, hr3, .inr ((show r.1 = q.2 + 1 by omega) ▸ hr4)⟩, aC ⟨.refl _, .refl _, .refl _, .refl _, .refl _, .refl _, trivial⟩ trivial⟩
    rintro m ⟨hm1, hm2, hm3⟩
    refine au hP<|aj rfl<|bp rfl rfl ?_
    refine ai rfl<|ae ?_
    refine ⟨(m, q.2 + 1), ⟨hm1, hm2, by simp only; omega, hm3.imp id (fun h => hNP.next h)⟩, by simp only; omega, aC ⟨.refl _, .refl _, .refl _, .refl _, .refl _, .refl _, trivial⟩ trivial⟩
   have hb3_ := bY hb3
   refine aV ?_
   refine ⟨q.1, ⟨hq1, hq2, gg_one.2 (.inr hb3_)⟩, aC ⟨.refl _, .refl _, trivial⟩ trivial⟩
  have hg2_ := bY hg2
  iterate 5 refine a6 hg2 ?_
  refine aa (aP rfl hg2 (rfl : _ = AV.p (.c _)))<|ae<|aI rfl rfl<|aV ?_
  refine ⟨q.1, ⟨hq1, hq2, gg_one.2 (.inl hg2_)⟩, aC ⟨.refl _, .refl _, trivial⟩ trivial⟩
 rintro N ⟨hN1, hN2, hN3⟩
 have hN0 := EW hg hN1 hd0
 have jN : a7 N := by unfold a7; omega
 have hfin := hmap N hN1 hN3
 have cAs := cA0
 generalize chs d = l at cAs hcl hcb hfin
 refine ab hP<|ai rfl<|ae<|lZ 12 1000 1 3 rfl rfl ?_
 refine ak<|ab hP<|aj rfl<|aa (ah cAs) ?_
 refine aa (aZ hT rfl rfl rfl (by rfl)) ?_
 refine aj rfl<|ae<|ay<|bj (ι := Nat) (fun k => stL [(9, Z N), (12, .vec 1000), (96, .p (.c (CS 186 187 l))), (97, Z (l.length : Int)), (98, Z (k : Int))] [(1000, IB 3 ((l.take k).map fun c => cv c N))]) (fun k => k ≤ l.length) (fun k => l.length - k) 0 (Nat.zero_le _) (aC ⟨.refl _, .refl _, .refl _, .refl _, .refl _, trivial⟩ ⟨rfl, trivial⟩) ?_
 intro k hk
 refine ab hP<|aa (aU rfl rfl)<|ae<|ak ?_
 refine aA rfl (fun hb7 => ?_) (fun hb7 => ?_)
 ·have hb7_ := dT0 hb7
  have hmm := hcb _ (oj hb7_)
  have jc : a7 (l.getD k 0) := by unfold a7; omega
  refine ao<|ak<|ay<|ab hP<|aa (nW (fo := 186) (fs := 187) (n := (k : Int)) hT rfl rfl rfl rfl rfl rfl (by omega)) ?_
  refine aa (br hT rfl rfl rfl (cs := chC 186 187 (l.getD k 0)) rfl rfl) ?_
  refine an ag (az hT rfl rfl)<|aE hT rfl<|ae<|au hP<|aa (aw (rfl : _ = AV.vec _))<|aM hT rfl<|bn hT rfl rfl rfl rfl ?_
  refine aj rfl<|aa (Eff.callCh rfl rfl (tC N _ hN0 (by unfold spR; split <;> (try split) <;> decide)) (DP N (l.getD k 0) jN jc)) ?_
  refine aa (aW hT rfl rfl rfl (es := [_]) rfl rfl rfl)<|RK.app ag (mn (z := cv (l.getD k 0) N) hT rfl rfl rfl rfl rfl rfl rfl rfl (by rw [List.length_map, List.length_take]; omega) (by decide)) ?_
  refine aa (bf (rfl : _ = AV.vec _))<|ae<|fG 108 1000 rfl rfl rfl ?_
  refine au hP<|bp rfl rfl ?_
  refine aj rfl<|ae ?_
  refine ⟨k + 1, by omega, by omega, aC ⟨.refl _, .refl _, .refl _, .refl _, aL (by omega), trivial⟩ ⟨Eq.trans rfl (congrArg (fun x => some (IB 3 x)) (w6 hb7_)), trivial⟩⟩
 have hb7_ := dF0 hb7
 refine aV<|lJ (t := 12) rfl rfl ?_
 refine ab hP<|aj rfl<|ai rfl<|ai rfl<|ae<|am<|E11 rfl rfl rfl ?_
 exact aB (by rw [oX hb7_, hfin, he])
end
section
open Go Go.AM
end
section
open Go Go.AM
theorem uA (f : Fm) (m : Int) (hfa : L 6 f.a) (hfb : L 6 f.b) (hfc : L 6 f.c) :
  aG Tryz.prog 65 [FA f.a f.b f.c, Z m] (Z (alE f m)) := by
 have fa : LB f.a 6 := ⟨hfa⟩
 have fb : LB f.b 6 := ⟨hfb⟩
 have fc : LB f.c 6 := ⟨hfc⟩
 refine aH Tryz.func65 rfl rfl rfl rfl ?_
 refine ab hP<|an ag (aK rfl rfl)<|ai rfl<|ae<|ak<|ab hP<|bO hT rfl rfl rfl rfl rfl rfl<|aa (aS hT rfl rfl rfl (es := [_, _]) rfl)<|aa (ah (vo f hfa hfb hfc)) ?_
 refine aa (aw (rfl : _ = AV.t _))<|aa (aq rfl (v := .a _) rfl)<|aa (aq rfl (v := .c _) rfl)<|an ag (az hT rfl rfl)<|aE hT rfl<|ai rfl<|ae<|ab hP<|aj rfl<|aa (bh rfl rfl)<|ae ?_
 refine aA rfl (fun hb1 => ?_) (fun hb1 => ?_)
 ·have hb1_ := b9 hb1
  refine ab hP<|aj rfl<|ai rfl<|ae<|am<|E1 rfl rfl ?_
  exact aL (Gl hb1_)
 have hb1_ := bY hb1
 refine ao<|ab hP<|aj rfl<|aa (ah (pG _)) ?_
 refine ai rfl<|ae<|am<|E1 rfl rfl ?_
 exact aL (y0 hb1_)
theorem Az (f : Fm) (m : Int) :
  aG Tryz.prog 66 [FA f.a f.b f.c, Z m] (.fn 132 [[zn f.a, zm f.a, zn f.b, zm f.b, zn f.c, zm f.c], [.v (.int .i64 m)]]) := by
 refine iJ Tryz.func66 (by kernel_rfl) rfl rfl (bL0 rfl) rfl ?_
 refine ab hP<|an ag (aK rfl rfl)<|an ag (aK rfl rfl)<|ai rfl<|ae<|cE (t := 2) rfl rfl ?_
 refine cE (t := 3) rfl rfl ?_
 refine ab hP<|aa (hZ rfl rfl)<|aa (bf (rfl : _ = AV.fn _ _))<|ae<|am ?_
 exact ⟨.inr rfl, 4, rfl, rfl⟩
theorem AA (D : Int) (m : Nat) (hD : -4194304 ≤ D ∧ D < 0) (h4 : D % 4 = 0 ∨ D % 4 = 1) (hm : 1 ≤ m ∧ m ≤ 65536) :
  aG Tryz.prog 13 [I D, Z (m : Int)] (.t [.c (SL enI (rbL D (m : Int))), PE 0]) := by
 have iD : LB D 6 := ⟨by unfold L; omega⟩
 have cPr : aG Tryz.prog 54 [I D] (.t [PF (prF D), PE 0]) := by
  have h := lx D lz
  rwa [Ft hD.2 h4] at h
 have cRg : aG Tryz.prog 55 [Z (m : Int)] (Z 0) := by
  have h := pG m
  rwa [sW (by omega) (by omega)] at h
 refine aH Tryz.func13 rfl rfl rfl rfl ?_
 refine ab hP<|an ag (aK rfl rfl)<|ai rfl<|ai rfl<|ae<|ak<|ab hP<|av hT rfl<|aa (ah cPr) ?_
 refine aa (aw (rfl : _ = AV.t _))<|aa (aq rfl (v := .a _) rfl)<|aa (aq rfl (v := .c _) rfl)<|an ag (az hT rfl rfl)<|aE hT rfl<|ai rfl<|ae<|ab hP<|aj rfl<|aa (bh rfl rfl)<|aj rfl<|aD rfl (bw hT rfl rfl rfl rfl rfl rfl) ?_
 refine aD rfl (de hT rfl rfl rfl rfl (by first | rfl | exact jC (by omega))) ?_
 refine aD rfl (bM rfl) ?_
 refine aa (aP rfl rfl (rfl : _ = AV.p (.c _)))<|ae<|aI rfl (by simpa using hD.2) ?_
 refine ao<|ak<|ab hP<|aj rfl<|aa (ah cRg) ?_
 refine ai rfl<|ae<|ab hP<|aj rfl<|aa (bh rfl rfl)<|ae<|aI rfl rfl<|ao<|ab hP<|av hT rfl<|aj rfl<|aa (ah (uB D m hD hm)) ?_
 refine ai rfl<|ai rfl<|ae<|am<|E11 rfl rfl rfl ?_
 exact .refl _
theorem wQ (n : Nat) (hn : 1 ≤ n ∧ n ≤ 65536) :
  Iter3 Tryz.prog 135 (⟨false, 1, 3, [.v (.int .i64 ((n : Nat) : Int))]⟩) ((parts n).map fun (q : Nat) => [PE (q : Int)]) := by
 generalize hxs : ((parts n).map fun (q : Nat) => ([PE (q : Int)] : List PV)) = xs
 refine xl Tryz.func135 (by kernel_rfl) rfl rfl (bL0 rfl) rfl rfl ?_
 intro l n0 J hK
 refine tU hK.toKeepsB ?_
 refine bl ?_
 refine aX hP ?_
 refine ai rfl<|ae<|dI ?_
 refine jy (ι := Nat × Nat × Nat) (fun i => stL [(0, .p (.c (.v (.func (.yield l) #[] #[])))), (1, .loc 1 0), (3, Z ((i.2.1 : Nat) : Int))] [(1, ⟨false, 1, 3, [.v (.int .i64 ((i.1 : Nat) : Int))]⟩)]) (fun i => i.2.2) (fun i => PaI n i.1 i.2.1 i.2.2) (fun i => n + 2 - i.2.1) (n, 2, 0) (PaI.start (by omega)) rfl (aC ⟨.refl _, .refl _, .refl _, trivial⟩ ⟨rfl, trivial⟩) ?_
 intro i hI
 have h2p := hI.two
 have hmn := hI.le
 have hm0 := hI.pos
 refine bl ?_
 refine bl ?_
 refine aX hP ?_
 refine bn hT rfl rfl rfl rfl ?_
 refine aa (bK rfl rfl)<|ae ?_
 refine dC rfl (fun hb1 => ?_) (fun hb1 => ?_)
 ·have hb1_ := dT0 hb1
  have hm1 : 1 < i.1 := by omega
  have hpm := hI.ple hm1
  refine dc ?_
  refine bl ?_
  refine dI ?_
  refine bl ?_
  refine aX hP ?_
  refine ai rfl<|ae<|bl ?_
  refine dI ?_
  refine jy (ι := Nat × Nat) (fun q => stL [(0, .p (.c (.v (.func (.yield l) #[] #[])))), (1, .loc 1 0), (3, Z ((i.2.1 : Nat) : Int)), (4, Z ((q.2 : Nat) : Int))] [(1, ⟨false, 1, 3, [.v (.int .i64 ((q.1 : Nat) : Int))]⟩)]) (fun _ => i.2.2) (fun q => PtI i.2.1 i.1 q.1 q.2) (fun q => q.1) (i.1, 1) (PtI.start hm0) rfl (aC ⟨.refl _, .refl _, .refl _, .refl _, trivial⟩ ⟨rfl, trivial⟩) ?_
  intro q hq
  obtain ⟨b1, b2, b3, b4⟩ := hq.b
  refine bl ?_
  refine bl ?_
  refine aX hP ?_
  refine bn hT rfl rfl rfl rfl ?_
  refine aj rfl<|aa (cr rfl rfl (by omega) (c := ((q.1 % i.2.1 : Nat) : Int)) GD) ?_
  refine aa (bd rfl rfl)<|ae ?_
  refine dC rfl (fun hb2 => ?_) (fun hb2 => ?_)
  ·have hb2_ := bT hb2
   have hnx := hq.next h2p (by omega)
   have hqp : q.2 * i.2.1 ≤ 1000000000 := by have := hnx.2.2; omega
   refine dc ?_
   refine dI ?_
   refine aX hP ?_
   refine bn hT rfl rfl rfl rfl ?_
   refine aj rfl<|aa (dU rfl rfl (by omega) (c := ((q.1 / i.2.1 : Nat) : Int)) (GE (by omega) (by omega))) ?_
   refine aj rfl<|aj rfl<|aa (bH rfl rfl (c := ((q.2 * i.2.1 : Nat) : Int)) (GN hqp)) ?_
   refine aE hT rfl<|ai rfl<|ae ?_
   refine ⟨(q.1 / i.2.1, q.2 * i.2.1), hnx.1, hnx.2.1, rfl, aC ⟨.refl _, .refl _, .refl _, .refl _, trivial⟩ ⟨rfl, trivial⟩⟩
  have hb2_ := bF hb2
  have hpt := hq.done (by omega)
  refine fU ?_
  refine bl ?_
  refine jZ ?_
  refine RY.val ag (aw (rfl : _ = AV.p (.c _))) ?_
  refine RY.val ag (bK rfl rfl) ?_
  refine RY.val ag (aw (rfl : _ = AV.p (.c _))) ?_
  refine RY.split (t := 21) rfl (fun hg3 => ?_) (fun hg3 => ?_)
  ·have hg3_ := dT0 hg3
   have hq1 : 1 < (ptN i.2.1 i.1).2 := by have := dT0 hg3; have := hpt.2; omega
   have hgt : xs[i.2.2]? = some [PE ((q.2 : Nat) : Int)] := by rw [← hxs, List.getElem?_map, (hI.yes hm1 hq1).1, hpt.2]; rfl
   refine RY.val (bX rfl rfl hg3) (aw (rfl : _ = AV.p (.c _))) ?_
   refine RY.val (bX rfl rfl hg3) (aw (rfl : _ = AV.p (.c _))) ?_
   refine RY.yield hK (bX rfl rfl hg3) rfl rfl hgt ?_
   intro bb
   refine RY.val (bX rfl rfl hg3) (bM rfl) ?_
   refine RY.val ag (aQ rfl hg3 (rfl : _ = AV.p (.c _))) ?_
   refine RY.done ?_
   refine dC rfl (fun hb4 => ?_) (fun hb4 => ?_)
   ·have hb4_ := (dF hb4)
    refine kM ?_
    refine ⟨.inr rfl, ?_⟩
    exact th (dF hb4)
   have hb4_ := (du hb4)
   refine dc ?_
   refine aX hP ?_
   refine aj rfl<|bp rfl rfl ?_
   refine ai rfl<|ae ?_
   refine ⟨((ptN i.2.1 i.1).1, i.2.1 + 1, i.2.2 + 1), (hI.yes hm1 hq1).2, (by show n + 2 - (i.2.1 + 1) < n + 2 - i.2.1; omega), (tg (du hb4)).symm, aC ⟨.refl _, .refl _, aL (by show ((i.2.1 : Nat) : Int) + 1 = ((i.2.1 + 1 : Nat) : Int); omega), trivial⟩ ⟨Eq.trans rfl (congrArg (fun x : Nat => some (⟨false, 1, 3, [.v (.int .i64 (x : Int))]⟩ : Blk)) hpt.1), trivial⟩⟩
  have hg3_ := dF0 hg3
  have hq1 : ¬ 1 < (ptN i.2.1 i.1).2 := by have := dF0 hg3; have := hpt.2; omega
  iterate 4 refine RY.skip (iG rfl rfl hg3) ?_
  refine RY.val ag (aP rfl hg3 (rfl : _ = AV.p (.c _))) ?_
  refine RY.done ?_
  refine gD rfl rfl ?_
  refine dc ?_
  refine aX hP ?_
  refine aj rfl<|bp rfl rfl ?_
  refine ai rfl<|ae ?_
  refine ⟨((ptN i.2.1 i.1).1, i.2.1 + 1, i.2.2), hI.no hm1 hq1, (by show n + 2 - (i.2.1 + 1) < n + 2 - i.2.1; omega), rfl, aC ⟨.refl _, .refl _, aL (by show ((i.2.1 : Nat) : Int) + 1 = ((i.2.1 + 1 : Nat) : Int); omega), trivial⟩ ⟨Eq.trans rfl (congrArg (fun x : Nat => some (⟨false, 1, 3, [.v (.int .i64 (x : Int))]⟩ : Blk)) hpt.1), trivial⟩⟩
 have hb1_ := dF0 hb1
 have hdn := hI.done (by omega)
 refine fU ?_
 refine ⟨.inl rfl, ?_⟩
 rw [← hxs, List.length_map, hdn]
 exact Nat.le_refl _
theorem Ay (m : Nat) :
  CallG Tryz.prog 68 [Z (m : Int)] 135 (⟨false, 1, 3, [.v (.int .i64 ((m : Nat) : Int))]⟩) := by
 refine xL Tryz.func68 (by kernel_rfl) rfl rfl (bL0 rfl) ?_
 refine ab hP<|an ag (aK rfl rfl)<|ai rfl<|ae<|ab hP<|aa (pM rfl)<|aa (bf (rfl : _ = AV.fnl _ _))<|ae<|am ?_
 exact ⟨.inr rfl, 2, 1, rfl, rfl, rfl⟩
theorem GK (c x : Int) (hc : L 5 c) (hx : 1 ≤ x ∧ x ≤ 65536) :
  aG Tryz.prog 140 [Z c, Z x] (Z (atV c x)) := by
 have ic : LB c 6 := ⟨hc.mono (by decide)⟩
 have ix : LB x 6 := ⟨by unfold L; omega⟩
 have jc : a7 c := by unfold L at hc; unfold a7; omega
 refine aH Tryz.func140 rfl rfl rfl rfl ?_
 refine ab hP<|ai rfl<|ae<|ak<|ab hP<|aj rfl<|ae<|ay<|ab hP<|aa (bd rfl rfl)<|ai rfl<|ae ?_
 refine aA rfl (fun hb1 => ?_) (fun hb1 => ?_)
 ·have hb1_ := bT hb1
  refine ab hP<|aj rfl<|aa (cr rfl rfl (by omega) (c := x % 4) (Int.tmod_eq_emod_of_nonneg (by omega))) ?_
  refine aa (bA rfl rfl (by first | exact iW0 _ (by omega) | rfl)) ?_
  refine ai rfl<|ae<|am<|E1 rfl rfl ?_
  exact aL (Gj hb1_)
 have hb1_ := bF hb1
 refine ab hP<|aa (bd rfl rfl)<|ai rfl<|ae ?_
 refine aA rfl (fun hb2 => ?_) (fun hb2 => ?_)
 ·have hb2_ := bT hb2
  refine ab hP<|aa (ah (ew 2 (by decide))) ?_
  refine aj rfl<|aa (ah (ew x (by unfold a7; omega))) ?_
  refine aa (ah (fY _ _ lz lz)) ?_
  refine ai rfl<|ae<|am<|E1 rfl rfl ?_
  exact aL (Gi hb2_)
 have hb2_ := bF hb2
 refine ab hP<|aa (bd rfl rfl)<|ai rfl<|ae ?_
 refine aA rfl (fun hb3 => ?_) (fun hb3 => ?_)
 ·have hb3_ := bT hb3
  refine ab hP<|aa (ah (ew (-2) (by decide))) ?_
  refine aj rfl<|aa (ah (ew x (by unfold a7; omega))) ?_
  refine aa (ah (fY _ _ lz lz)) ?_
  refine ai rfl<|ae<|am<|E1 rfl rfl ?_
  exact aL (Gh hb3_)
 have hb3_ := bF hb3
 refine ao<|ab hP<|aj rfl<|aa (ah (ew x (by unfold a7; omega))) ?_
 refine aj rfl<|aa (ah (ew c jc)) ?_
 refine aa (ah (fY _ _ lz lz)) ?_
 refine ai rfl<|ae<|am<|E1 rfl rfl ?_
 exact aL (Gg hb1_ hb2_ hb3_)
theorem s8 (f : Fm) (D : Int) (m : Nat) (hfa : L 6 f.a) (hfb : L 6 f.b) (hfc : L 6 f.c) (hf : Cl D f) (hD : -4194304 ≤ D ∧ D < 0) (hm : 1 ≤ m ∧ m ≤ 65536) (hE : szE D = 0) :
  Iter2 Tryz.prog 137 [[zn f.a, zm f.a, zn f.b, zm f.b, zn f.c, zm f.c], [.v (.int .i64 (m : Int))]] ((agL D m f).map fun c => [PE c]) := by
 have fa : LB f.a 6 := ⟨hfa⟩
 have fb : LB f.b 6 := ⟨hfb⟩
 have fc : LB f.c 6 := ⟨hfc⟩
 have iD : LB D 6 := ⟨by unfold L; omega⟩
 have im : LB (m : Int) 6 := ⟨by unfold L; omega⟩
 have hdf : dsc f.a f.b f.c = D := hf.disc
 have cDs : aG Tryz.prog 40 [FA f.a f.b f.c] (I D) := by rw [← hdf]; exact fz f.a f.b f.c lz lz lz
 have cCh : aG Tryz.prog 139 [I D] (.t [.c (IS (chs D)), PE 0]) := by
  have h := qj D lz
  rwa [yY hE, hE] at h
 have cVa : aG Tryz.prog 19 [FA f.a f.b f.c] (.t [.c (IS (gvL f)), PE 0]) := by
  have h := qi f hfa hfb hfc yS
  rwa [mE hf hD.1 hE] at h
 have hln := u7 hf hD.1 hE
 have hcb := fun c hc => tI (c := c) hD.2 hD.1 hc
 have hlc := lq hD.2 hD.1
 have hgt_ := fun (h : Int.gcd (2 * D) m = 1) (k : Nat) (hk : k < (chs D).length) (hne) => Eo (f := f) h hln hk hne
 have hyy := fun (k : Nat) (hk : k < (chs D).length) (hne) => Hd (n := (m : Int)) (f := f) hln hk hne
 have hnn := fun (k : Nat) (hk : k < (chs D).length) (he) => He (n := (m : Int)) (f := f) hln hk he
 have hall := fun (h : Int.gcd (2 * D) m = 1) (k : Nat) (hk : (chs D).length ≤ k) => Ep (f := f) h hln hk
 have hnone := fun (h : ¬ Int.gcd (2 * D) m = 1) (k : Nat) => BH (f := f) h k
 have hk0 : 0 = cZ (agP m) (agZ D f) 0 := by unfold cZ; simp
 generalize chs D = ls at *
 generalize gvL f = vs at *
 generalize cZ (agP m) (agZ D f) = κ at *
 generalize ((agL D m f).map fun c => ([PE c] : List PV)) = xs at *
 refine lR Tryz.func137 (by kernel_rfl) rfl rfl (bL0 rfl) rfl ?_
 intro l n0 J hK
 refine tU hK.toKeepsB ?_
 refine bl ?_
 refine aX hP ?_
 refine aa (br hT rfl rfl rfl (cs := [_, _, _, _, _, _]) rfl rfl)<|aa (ah cDs) ?_
 refine an ag (az hT rfl rfl)<|aE hT rfl<|ae<|bl ?_
 refine bl ?_
 refine aX hP ?_
 refine aa (ah (ew 2 (by decide))) ?_
 refine av hT rfl<|aa (ah (cX 2 D lz lz)) ?_
 refine cz hT rfl rfl rfl ?_
 refine aa (ah (ew (m : Int) (by unfold a7; omega))) ?_
 refine aa (ah (lg (2 * D) (m : Int) lz lz)) ?_
 refine aa (ah (ew 1 (by decide))) ?_
 refine aa (ah (mR _ _)) ?_
 refine aa (bM rfl)<|ae ?_
 refine dC rfl (fun hb1 => ?_) (fun hb1 => ?_)
 ·have hb1_ := (dF hb1)
  refine kM ?_
  refine ⟨.inr rfl, ?_⟩
  exact hnone (fun e => dF0 (dF hb1) (by rw [e]; rfl)) _
 have hb1_ := (du hb1)
 have hgc : Int.gcd (2 * D) m = 1 := by have := dT0 (du hb1); omega
 have hmo : (m : Int) % 2 = 1 := xz hgc
 refine dc ?_
 refine bl ?_
 refine aX hP ?_
 refine av hT rfl<|aa (ah cCh) ?_
 refine aa (aw (rfl : _ = AV.t _))<|aa (aq rfl (v := .c _) rfl)<|aa (aq rfl (v := .c _) rfl)<|ai rfl<|ai rfl<|ae<|bl ?_
 refine aX hP ?_
 refine aa (br hT rfl rfl rfl (cs := [_, _, _, _, _, _]) rfl rfl)<|aa (ah cVa) ?_
 refine aa (aw (rfl : _ = AV.t _))<|aa (aq rfl (v := .c _) rfl)<|aa (aq rfl (v := .c _) rfl)<|ai rfl<|ai rfl<|ae<|bl ?_
 refine aX hP ?_
 refine aj rfl<|aa (aZ hT rfl rfl rfl (by rfl)) ?_
 refine aj rfl<|ae<|dI ?_
 refine jy (ι := Nat) (fun j => stL [(0, .p (.c (.v (.func (.yield l) #[] #[])))), (2, .ip [.v (.int .i64 (m : Int))]), (7, .p (.c (IS vs))), (32, .p (.c (IS ls))), (33, Z (ls.length : Int)), (34, Z (j : Int))] []) κ (fun j => j ≤ ls.length) (fun j => ls.length - j) 0 (Nat.zero_le _) hk0.symm (aC ⟨.refl _, .refl _, .refl _, .refl _, .refl _, .refl _, trivial⟩ trivial) ?_
 intro j hj
 refine bl ?_
 refine aX hP ?_
 refine aa (aU rfl rfl)<|ae<|bl ?_
 refine dC rfl (fun hb2 => ?_) (fun hb2 => ?_)
 ·have hb2_ := dT0 hb2
  have hjn : j < ls.length := by omega
  have hcm := oj (l := ls) (k := j) hb2_
  have hcL : L 5 (ls.getD j 0) := by have := hcb _ hcm; unfold L; omega
  have hav : atV (ls.getD j 0) m = cv (ls.getD j 0) m := Ek (by omega) hmo
  refine dc ?_
  refine bl ?_
  refine dI ?_
  refine bl ?_
  refine aX hP ?_
  refine aj rfl<|aa (gj hT (n := (j : Int)) (l := ls) rfl rfl rfl rfl rfl rfl (by omega)) ?_
  refine aa (bJ hT rfl rfl rfl (dv := .v (.int .i64 (ls.getD j 0))) rfl) ?_
  refine ai rfl<|ai rfl<|ae<|bl ?_
  refine q7 hP 11 (by kernel_rfl) ?_
  refine aj rfl<|cz hT rfl rfl rfl ?_
  refine aa (ah (GK (ls.getD j 0) (m : Int) hcL (by omega))) ?_
  refine aj rfl<|aj rfl<|aa (gj hT (n := (j : Int)) (l := vs) rfl rfl rfl rfl rfl rfl (by omega)) ?_
  refine aa (bJ hT rfl rfl rfl (dv := .v (.int .i64 (vs.getD j 0))) rfl) ?_
  refine aa (bh rfl rfl)<|aj rfl ?_
  refine a8 (t := 47) rfl (fun hg3 => ?_) (fun hg3 => ?_)
  ·have hg3_ := b9 hg3
   have hne : ¬ cv (ls.getD j 0) m = (vs.getD j 0) := fun e => b9 hg3 (hav.trans e)
   refine aD hg3 (aw (rfl : _ = AV.p (.c _))) ?_
   refine aD hg3 (aw (rfl : _ = AV.p (.c _))) ?_
   refine ae<|RY.yield hK (bX rfl rfl hg3) rfl rfl (hgt_ hgc j hjn hne) ?_
   intro bb
   refine RY.val (bX rfl rfl hg3) (bM rfl) ?_
   refine RY.val ag (aQ rfl hg3 (rfl : _ = AV.p (.c _))) ?_
   refine RY.done ?_
   refine dC rfl (fun hb4 => ?_) (fun hb4 => ?_)
   ·have hb4_ := (dF hb4)
    refine kM ?_
    refine ⟨.inr rfl, ?_⟩
    exact th (dF hb4)
   have hb4_ := (du hb4)
   refine dc ?_
   refine aX hP ?_
   refine bp rfl rfl ?_
   refine aj rfl<|ae ?_
   refine ⟨j + 1, by omega, by omega, (hyy j hjn hne).trans (tg (du hb4)).symm, aC ⟨.refl _, .refl _, .refl _, .refl _, .refl _, aL (by omega), trivial⟩ trivial⟩
  have hg3_ := bY hg3
  have heq : cv (ls.getD j 0) m = (vs.getD j 0) := hav.symm.trans (bY hg3)
  refine a6 hg3 ?_
  refine a6 hg3 ?_
  refine ae<|RY.skip (iG rfl rfl hg3) ?_
  refine RY.skip (iG rfl rfl hg3) ?_
  refine RY.val ag (aP rfl hg3 (rfl : _ = AV.p (.c _))) ?_
  refine RY.done ?_
  refine gD rfl rfl ?_
  refine dc ?_
  refine aX hP ?_
  refine bp rfl rfl ?_
  refine aj rfl<|ae ?_
  refine ⟨j + 1, by omega, by omega, hnn j hjn heq, aC ⟨.refl _, .refl _, .refl _, .refl _, .refl _, aL (by omega), trivial⟩ trivial⟩
 have hb2_ := dF0 hb2
 refine fU ?_
 refine ⟨.inl rfl, ?_⟩
 exact hall hgc j (by omega)
theorem uE (f : Fm) (m : Int) :
  aG Tryz.prog 71 [FA f.a f.b f.c, Z m] (.fn 137 [[zn f.a, zm f.a, zn f.b, zm f.b, zn f.c, zm f.c], [.v (.int .i64 m)]]) := by
 refine iJ Tryz.func71 (by kernel_rfl) rfl rfl (bL0 rfl) rfl ?_
 refine ab hP<|an ag (aK rfl rfl)<|an ag (aK rfl rfl)<|ai rfl<|ae<|cE (t := 2) rfl rfl ?_
 refine cE (t := 3) rfl rfl ?_
 refine ab hP<|aa (hZ rfl rfl)<|aa (bf (rfl : _ = AV.fn _ _))<|ae<|am ?_
 exact ⟨.inr rfl, 4, rfl, rfl⟩
end
end Go.Proofs.YthaiejfjnllglaaGreatDoor
