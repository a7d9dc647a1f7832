import Derived.Test.YthaiejfjnllglaaGreatDoorMBF
import Derived.Test.YthaiejfjnllglaaGreatDoorMBB
import Derived.Test.YthaiejfjnllglaaGreatDoorMBE
import Derived.Test.YthaiejfjnllglaaGreatDoorMBC
set_option maxRecDepth 100000
set_option maxHeartbeats 6000000
namespace Go.Proofs.YthaiejfjnllglaaGreatDoor
section
open Go Go.AM
theorem DJ (a b c p q r s t u v w : Int) (ha : L 34 a) (hb : L 34 b) (hc : L 34 c) (hp : L 34 p) (hq : L 34 q) (hr : L 34 r) (hs : L 34 s) (ht : L 34 t) (hu : L 34 u) (hv : L 34 v) (hw : L 34 w) :
  CallM Tryz.prog 114 [.loc 0 0, I t, I u, I v, I w] (upd O 0 (some ⟨false, 1, 163, [zn (a), zm (a), zn (b), zm (b), zn (c), zm (c), zn (p), zm (p), zn (q), zm (q), zn (r), zm (r), zn (s), zm (s)]⟩)) (.t []) (upd O 0 (some ⟨false, 1, 163, [zn (vl a b c t v), zm (vl a b c t v), zn (apB a b c t u v w), zm (apB a b c t u v w), zn (vl a b c u w), zm (vl a b c u w), zn (p * t + q * v), zm (p * t + q * v), zn (p * u + q * w), zm (p * u + q * w), zn (r * t + s * v), zm (r * t + s * v), zn (r * u + s * w), zm (r * u + s * w)]⟩)) := by
 have ia : LB a 34 := ⟨ha⟩
 have ib : LB b 34 := ⟨hb⟩
 have ic : LB c 34 := ⟨hc⟩
 have ip : LB p 34 := ⟨hp⟩
 have iq : LB q 34 := ⟨hq⟩
 have ir : LB r 34 := ⟨hr⟩
 have is : LB s 34 := ⟨hs⟩
 have it : LB t 34 := ⟨ht⟩
 have iu : LB u 34 := ⟨hu⟩
 have iv : LB v 34 := ⟨hv⟩
 have iw : LB w 34 := ⟨hw⟩
 refine lg (np := 1) Tryz.func114 (by kernel_rfl) rfl rfl (bL0 rfl) oB mZ rfl ?_
 refine ae hP<|an ai (aK rfl rfl)<|an ai (aK rfl rfl)<|an ai (aK rfl rfl)<|an ai (aK rfl rfl)<|ag<|ae hP<|au hT rfl<|au hT rfl<|au hT rfl<|au hT rfl<|ab (aV hT rfl rfl rfl (es := [_, _, _, _, _, _, _, _]) rfl)<|an ai (ay hT rfl rfl)<|aE hT rfl<|ag<|av hP<|ab (az (rfl : _ = AV.loc _ _))<|ab (az (rfl : _ = AV.loc _ _))<|ab (az (rfl : _ = AV.loc _ _))<|ab (cr rfl)<|aD hT rfl<|bD hT rfl rfl rfl rfl rfl rfl<|ab (aI hT rfl rfl rfl rfl (cs := [_, _, _, _, _, _, _, _]) rfl rfl)<|ab (ah (oO _ _ _ _ _ _ _ lz lz lz lz lz lz lz)) ?_
 refine ab (az (rfl : _ = AV.loc _ _))<|ab (cr rfl)<|aD hT rfl<|ab (aI hT rfl rfl rfl rfl (cs := [_, _, _, _, _, _, _, _]) rfl rfl)<|ab (aI hT rfl rfl rfl rfl (cs := [_, _, _, _, _, _, _, _]) rfl rfl)<|ab (ah (uC _ _ _ _ _ _ _ _ lz lz lz lz lz lz lz lz)) ?_
 refine ab (cr rfl)<|aD hT rfl<|aE hT rfl<|ab (cr rfl)<|aD hT rfl<|aE hT rfl<|ag ?_
 refine lX rfl (.inl rfl)  ?_ (nj rfl)
 exact .refl _
theorem xt (m : Nat) (a b c p q r s t u v w : Int) (ha : L 34 a) (hb : L 34 b) (hc : L 34 c) (hp : L 34 p) (hq : L 34 q) (hr : L 34 r) (hs : L 34 s) (ht : L 34 t) (hu : L 34 u) (hv : L 34 v) (hw : L 34 w) :
  CallM Tryz.prog 114 [.loc m 0, I t, I u, I v, I w] (upd O m (some ⟨false, 1, 163, [zn (a), zm (a), zn (b), zm (b), zn (c), zm (c), zn (p), zm (p), zn (q), zm (q), zn (r), zm (r), zn (s), zm (s)]⟩)) (.t []) (upd O m (some ⟨false, 1, 163, [zn (vl a b c t v), zm (vl a b c t v), zn (apB a b c t u v w), zm (apB a b c t u v w), zn (vl a b c u w), zm (vl a b c u w), zn (p * t + q * v), zm (p * t + q * v), zn (p * u + q * w), zm (p * u + q * w), zn (r * t + s * v), zm (r * t + s * v), zn (r * u + s * w), zm (r * u + s * w)]⟩)) := CallM.ren1 m (DJ a b c p q r s t u v w ha hb hc hp hq hr hs ht hu hv hw) rfl rfl
theorem gZ (a b c : Int) (ha : L 26 a) (hb : L 26 b) (hc : L 26 c) :
  aF Tryz.prog 41 [FA a b c] (.t [PF (rdF a b c), PM (rdM a b c), PE (rdE a b c)]) := by
 have ia : LB a 26 := ⟨ha⟩
 have ib : LB b 26 := ⟨hb⟩
 have ic : LB c 26 := ⟨hc⟩
 obtain ⟨M, hMa, hMc, hM0, hML⟩ := ha.max2 hc
 refine aL Tryz.func41 rfl rfl rfl rfl ?_
 refine ae hP<|an ai (aK rfl rfl)<|an ai (ay hT rfl rfl)<|an ai (ay hT rfl rfl)<|ak rfl<|ag<|ae hP<|bD hT rfl rfl rfl rfl rfl rfl<|ab (ah (mn _ _ _ lz lz lz)) ?_
 refine ak rfl<|ag<|ao<|ae hP<|aj rfl<|ab (bp rfl rfl)<|aj rfl ?_
 refine bd (t := 16) rfl (fun hg1 => ?_) (fun hg1 => ?_)
 ·have hg1_ := bT hg1
  refine aB hg1 (aI hT rfl rfl rfl rfl (cs := [_, _, _, _, _, _]) rfl rfl) ?_
  refine aB hg1 (ah (fE _ _ _ lz lz lz)) ?_
  refine aB hg1 (ah (db _)) ?_
  refine aB hg1 (bV rfl rfl) ?_
  refine ab (aN rfl hg1 (rfl : _ = AV.p (.c _)))<|ag ?_
  refine aw rfl (fun hb2 => ?_) (fun hb2 => ?_)
  ·have hb2_ := dT0 hb2
   refine av hP<|ak rfl<|ag<|ao<|ae hP<|aj rfl<|ab (bw rfl rfl)<|ag<|aX rfl rfl<|ae hP<|ab (aV hT rfl rfl rfl (es := [_, _, _, _, _, _]) rfl)<|ab (aV hT rfl rfl rfl (es := [_, _, _, _, _, _, _, _]) rfl)<|aj rfl<|aE hT rfl<|aE hT rfl<|ak rfl<|ag<|am ?_
   refine cZ rfl (.inr rfl) (aQ hT rfl rfl rfl rfl (cs := [_, _, _, _, _, _]) rfl rfl) (aQ hT rfl rfl rfl rfl (cs := [_, _, _, _, _, _, _, _]) rfl rfl) (bO rfl) ?_ bt
   exact aH (ur (I9 hg1 hb2_) (by decide))
  have hb2_ := dF0 hb2
  refine aq<|ao<|ae hP<|aj rfl<|ab (bw rfl rfl)<|ag<|aT rfl (by rw [bne, hg1]; rfl) ?_
  refine aq<|ae hP<|ab (ah (ef _ (by first | assumption | decide))) ?_
  refine ab (ah (ef _ (by first | assumption | decide))) ?_
  refine an ai (ay hT rfl rfl)<|an ai (ay hT rfl rfl)<|aE hT rfl<|aE hT rfl<|ag<|ae hP<|bD hT rfl rfl rfl rfl rfl rfl<|au hT rfl<|au hT rfl<|au hT rfl<|au hT rfl<|ab (aV hT rfl rfl rfl (es := [_, _, _, _, _, _, _, _]) rfl)<|ab (aV hT rfl rfl rfl (es := [_, _, _, _, _, _, _, _, _, _, _, _, _, _]) rfl)<|an ai (aK rfl rfl)<|ab (bl (rfl : _ = AV.loc _ _))<|ag<|ao<|aA ?_
  have he0 := Ja hg1 hb2_
  have hp0 := mm he0
  refine bq (ι := (Fm × Mt) × Nat) (fun i => stL [(2, .loc 2 0), (3, .loc 3 0), (6, .loc 6 0), (7, .loc 7 0), (8, .loc 36 0)] [(2, ⟨false, 1, 46, FL 0 0 0⟩), (3, ⟨false, 1, 87, ML 0 0 0 0⟩), (6, ⟨false, 1, 29, [zn 1, zm 1]⟩), (7, ⟨false, 1, 29, [zn 0, zm 0]⟩), (36, ⟨false, 1, 163, [zn (i.1.1.a), zm (i.1.1.a), zn (i.1.1.b), zm (i.1.1.b), zn (i.1.1.c), zm (i.1.1.c), zn (i.1.2.a), zm (i.1.2.a), zn (i.1.2.b), zm (i.1.2.b), zn (i.1.2.c), zm (i.1.2.c), zn (i.1.2.d), zm (i.1.2.d)]⟩)]) (fun i => AM.Good ⟨a, b, c⟩ M i.1 ∧ i.1.1.mu ≤ i.2 ∧ eS i.2 i.1 = eS (Fm.mu ⟨a, b, c⟩) (⟨a, b, c⟩, .one)) (fun i => i.2) ((⟨a, b, c⟩, .one), Fm.mu ⟨a, b, c⟩) ⟨sH hp0 hMa hMc, Nat.le_refl _, rfl⟩ (aG ⟨.refl _, .refl _, .refl _, .refl _, .refl _, trivial⟩ ⟨rfl, rfl, rfl, rfl, rfl, trivial⟩) ?_
  rintro ⟨s, k⟩ ⟨hG, hk, hR⟩
  have hL := hG.L hp0 hMa hMc hML
  have i1 : LB s.1.a 27 := ⟨hL.1.a⟩
  have i2 : LB s.1.b 27 := ⟨hL.1.b⟩
  have i3 : LB s.1.c 27 := ⟨hL.1.c⟩
  have i4 : LB s.2.a 27 := ⟨hL.2.a⟩
  have i5 : LB s.2.b 27 := ⟨hL.2.b⟩
  have i6 : LB s.2.c 27 := ⟨hL.2.c⟩
  have i7 : LB s.2.d 27 := ⟨hL.2.d⟩
  have hs0 : 2 * s.1.a ≠ 0 := by
   have h9 : 0 < s.1.a := hG.pos.1
   omega
  have i8 : LB s.1.k 28 := ⟨by unfold Fm.k; exact lz⟩
  refine ao<|ae hP<|ab (az (rfl : _ = AV.loc _ _))<|ab (cr rfl)<|aD hT rfl<|bD hT rfl rfl rfl rfl rfl rfl<|ab (ah (pK _ _ _ lz lz lz)) ?_
  refine ab (bA rfl)<|ag ?_
  refine aw rfl (fun hb3 => ?_) (fun hb3 => ?_)
  ·have hb3_ := (cy hb3)
   refine aq<|aA<|ae hP<|ab (az (rfl : _ = AV.loc _ _))<|ab (cr rfl)<|aD hT rfl<|aD hT rfl<|au hT rfl<|ab (az (rfl : _ = AV.loc _ _))<|ab (cr rfl)<|aD hT rfl<|aD hT rfl<|au hT rfl<|ab (ah (js _ _ lz lz)) ?_
   refine ab (ah (ef _ (by first | assumption | decide))) ?_
   refine ab (az (rfl : _ = AV.loc _ _))<|ab (cr rfl)<|aD hT rfl<|aD hT rfl<|au hT rfl<|ab (bj hT rfl rfl rfl (es := [_, _, _, _]) rfl rfl rfl)<|ab (ah (cX _ _ lz lz)) ?_
   refine ab (ah (dJ _ _ lz lz hs0)) ?_
   refine ab (az (rfl : _ = AV.t _))<|ab (aC rfl (v := .a _) rfl)<|ab (aC rfl (v := .a _) rfl)<|ab (aC rfl (v := .c _) rfl)<|an ai (ay hT rfl rfl)<|an ai (ay hT rfl rfl)<|aE hT rfl<|aE hT rfl<|ak rfl<|ag<|ae hP<|ab (az (rfl : _ = AV.loc _ _))<|au hT rfl<|au hT rfl<|au hT rfl<|au hT rfl<|RK.mut ai (Eff.call (rd := [36]) (xt 36 (s.1.a) (s.1.b) (s.1.c) (s.2.a) (s.2.b) (s.2.c) (s.2.d) _ _ _ _ lz lz lz lz lz lz lz lz lz lz lz) (j8 rfl) gU) ?_
   refine ag<|ae hP<|ab (az (rfl : _ = AV.loc _ _))<|ab (cr rfl)<|aD hT rfl<|bD hT rfl rfl rfl rfl rfl rfl<|ab (ah (pK _ _ _ lz lz lz)) ?_
   refine ab (bA rfl)<|ag ?_
   refine aw rfl (fun hb4 => ?_) (fun hb4 => ?_)
   ·have hb4_ := (cy hb4)
    refine av hP<|ab (az (rfl : _ = AV.loc _ _))<|au hT rfl<|ab (ah (ef _ (by first | assumption | decide))) ?_
    refine au hT rfl<|au hT rfl<|RK.mut ai (Eff.call (rd := [36]) (xt 36 (vl s.1.a s.1.b s.1.c 1 0) (apB s.1.a s.1.b s.1.c 1 s.1.k 0 1) (vl s.1.a s.1.b s.1.c s.1.k 1) (s.2.a * 1 + s.2.b * 0) (s.2.a * s.1.k + s.2.b * 1) (s.2.c * 1 + s.2.d * 0) (s.2.c * s.1.k + s.2.d * 1) _ _ _ _ lz lz lz lz lz lz lz lz lz lz lz) (j8 rfl) gU) ?_
    refine ag ?_
    have hx := ut hG hk hR hb3 (Iy hb4)
    refine ⟨(((s.1.app (.T s.1.k)).app .S, (s.2.mul (.T s.1.k)).mul .S), k - 1), hx.1, hx.2, aG ⟨.refl _, .refl _, .refl _, .refl _, .refl _, trivial⟩ ⟨rfl, rfl, rfl, rfl, rfl, trivial⟩⟩
   have hb4_ := (cn hb4)
   refine aq ?_
   have hx := ut hG hk hR hb3 (Iw hb4)
   refine ⟨((s.1.app (.T s.1.k), s.2.mul (.T s.1.k)), k - 1), hx.1, hx.2, aG ⟨.refl _, .refl _, .refl _, .refl _, .refl _, trivial⟩ ⟨rfl, rfl, rfl, rfl, rfl, trivial⟩⟩
  have hb3_ := (cn hb3)
  refine aZ<|ae hP<|ab (az (rfl : _ = AV.loc _ _))<|ab (cr rfl)<|aD hT rfl<|bD hT rfl rfl rfl rfl rfl rfl<|ab (az (rfl : _ = AV.loc _ _))<|ab (cr rfl)<|aD hT rfl<|ab (aI hT rfl rfl rfl rfl (cs := [_, _, _, _, _, _, _, _]) rfl rfl)<|aE hT rfl<|aE hT rfl<|ak rfl<|ag<|am ?_
  refine cZ rfl (.inr rfl) (aQ hT rfl rfl rfl rfl (cs := [_, _, _, _, _, _]) rfl rfl) (aQ hT rfl rfl rfl rfl (cs := [_, _, _, _, _, _, _, _]) rfl rfl) (bO rfl) ?_ bt
  exact aH (Gu he0 (Dr hR hb3))
 have hg1_ := bF hg1
 iterate 4 refine a7 hg1 ?_
 refine ab (aP rfl hg1 (rfl : _ = AV.p (.c _)))<|ag<|aT rfl rfl<|aq<|ao<|ae hP<|aj rfl<|ab (bw rfl rfl)<|ag<|aX rfl (by rw [bne, hg1]; rfl) ?_
 refine ae hP<|ab (aV hT rfl rfl rfl (es := [_, _, _, _, _, _]) rfl)<|ab (aV hT rfl rfl rfl (es := [_, _, _, _, _, _, _, _]) rfl)<|aj rfl<|aE hT rfl<|aE hT rfl<|ak rfl<|ag<|am ?_
 refine cZ rfl (.inr rfl) (aQ hT rfl rfl rfl rfl (cs := [_, _, _, _, _, _]) rfl rfl) (aQ hT rfl rfl rfl rfl (cs := [_, _, _, _, _, _, _, _]) rfl rfl) (bO rfl) ?_ bt
 exact aH (ur (Gx hg1).1 (fun e => by rw [e] at hg1; cases hg1))
theorem GM (a b c p q r : Int) (ha : L 26 a) (hb : L 26 b) (hc : L 26 c) (hp : L 26 p) (hq : L 26 q) (hr : L 26 r) :
  aF Tryz.prog 133 [FA a b c, FA p q r] (.t [PM (smM a b c p q r), PB (smB a b c p q r)]) := by
 have ia : LB a 26 := ⟨ha⟩
 have ib : LB b 26 := ⟨hb⟩
 have ic : LB c 26 := ⟨hc⟩
 have ip : LB p 26 := ⟨hp⟩
 have iq : LB q 26 := ⟨hq⟩
 have ir : LB r 26 := ⟨hr⟩
 refine aL Tryz.func133 rfl rfl rfl rfl ?_
 refine ae hP<|an ai (aK rfl rfl)<|an ai (aK rfl rfl)<|an ai (ay hT rfl rfl)<|ak rfl<|ag<|ae hP<|bD hT rfl rfl rfl rfl rfl rfl<|ab (ah (gZ _ _ _ lz lz lz)) ?_
 refine ab (az (rfl : _ = AV.t _))<|ab (aC rfl (v := .a _) rfl)<|ab (aC rfl (v := .a _) rfl)<|ab (aC rfl (v := .c _) rfl)<|an ai (ay hT rfl rfl)<|an ai (ay hT rfl rfl)<|aE hT rfl<|aE hT rfl<|ak rfl<|ag<|ae hP<|bD hT rfl rfl rfl rfl rfl rfl<|ab (ah (gZ _ _ _ lz lz lz)) ?_
 refine ab (az (rfl : _ = AV.t _))<|ab (aC rfl (v := .a _) rfl)<|ab (aC rfl (v := .a _) rfl)<|ab (aC rfl (v := .c _) rfl)<|an ai (ay hT rfl rfl)<|an ai (ay hT rfl rfl)<|aE hT rfl<|aE hT rfl<|ak rfl<|ag<|ao<|ae hP<|aj rfl<|ab (bw rfl rfl)<|aj rfl ?_
 refine bd (t := 27) rfl (fun hg1 => ?_) (fun hg1 => ?_)
 ·have hg1_ := cw hg1
  refine a7 hg1 ?_
  refine a7 hg1 ?_
  refine ab (aN rfl hg1 (rfl : _ = AV.p (.c _)))<|aj rfl<|a7 rfl ?_
  iterate 5 refine a7 rfl ?_
  refine ab (aN rfl rfl (rfl : _ = AV.p (.c _)))<|aj rfl<|a7 rfl ?_
  iterate 5 refine a7 rfl ?_
  refine ab (aN rfl rfl (rfl : _ = AV.p (.c _)))<|aj rfl<|a7 rfl ?_
  iterate 5 refine a7 rfl ?_
  refine ab (aN rfl rfl (rfl : _ = AV.p (.c _)))<|ag<|aX rfl rfl<|ae hP<|ab (aV hT rfl rfl rfl (es := [_, _, _, _, _, _, _, _]) rfl)<|aE hT rfl<|ak rfl<|ag<|am ?_
  refine cp rfl (.inr rfl) (aQ hT rfl rfl rfl rfl (cs := [_, _, _, _, _, _, _, _]) rfl rfl) (bO rfl) ?_ bt
  exact aH (nH (fun x => hg1_ x.1))
 have hg1_ := b9 hg1
 refine aB hg1 (az (rfl : _ = AV.p (.c _))) ?_
 refine aB hg1 (bw rfl rfl) ?_
 refine ab (aP rfl hg1 (rfl : _ = AV.p (.c _)))<|aj rfl ?_
 refine bd (t := 31) rfl (fun hg2 => ?_) (fun hg2 => ?_)
 ·have hg2_ := cw hg2
  iterate 6 refine a7 hg2 ?_
  refine ab (aN rfl hg2 (rfl : _ = AV.p (.c _)))<|aj rfl<|a7 rfl ?_
  iterate 5 refine a7 rfl ?_
  refine ab (aN rfl rfl (rfl : _ = AV.p (.c _)))<|aj rfl<|a7 rfl ?_
  iterate 5 refine a7 rfl ?_
  refine ab (aN rfl rfl (rfl : _ = AV.p (.c _)))<|ag<|aX rfl rfl<|ae hP<|ab (aV hT rfl rfl rfl (es := [_, _, _, _, _, _, _, _]) rfl)<|aE hT rfl<|ak rfl<|ag<|am ?_
  refine cp rfl (.inr rfl) (aQ hT rfl rfl rfl rfl (cs := [_, _, _, _, _, _, _, _]) rfl rfl) (bO rfl) ?_ bt
  exact aH (nH (fun x => hg2_ x.2.1))
 have hg2_ := b9 hg2
 refine aB hg2 (aJ hT rfl rfl rfl rfl rfl rfl) ?_
 refine aB hg2 (aI hT rfl rfl rfl rfl (cs := [_, _]) rfl rfl) ?_
 refine aB hg2 (aJ hT rfl rfl rfl rfl rfl rfl) ?_
 refine aB hg2 (aI hT rfl rfl rfl rfl (cs := [_, _]) rfl rfl) ?_
 refine aB hg2 (ah (dy _ _)) ?_
 refine aB hg2 (bw rfl rfl) ?_
 refine ab (aP rfl hg2 (rfl : _ = AV.p (.c _)))<|aj rfl ?_
 refine bd (t := 39) rfl (fun hg3 => ?_) (fun hg3 => ?_)
 ·have hg3_ := cw hg3
  iterate 6 refine a7 hg3 ?_
  refine ab (aN rfl hg3 (rfl : _ = AV.p (.c _)))<|aj rfl<|a7 rfl ?_
  iterate 5 refine a7 rfl ?_
  refine ab (aN rfl rfl (rfl : _ = AV.p (.c _)))<|ag<|aX rfl rfl<|ae hP<|ab (aV hT rfl rfl rfl (es := [_, _, _, _, _, _, _, _]) rfl)<|aE hT rfl<|ak rfl<|ag<|am ?_
  refine cp rfl (.inr rfl) (aQ hT rfl rfl rfl rfl (cs := [_, _, _, _, _, _, _, _]) rfl rfl) (bO rfl) ?_ bt
  exact aH (nH (fun x => th hg3 (congrArg Fm.a x.2.2)))
 have hg3_ := b9 hg3
 refine aB hg3 (aJ hT rfl rfl rfl rfl rfl rfl) ?_
 refine aB hg3 (aI hT rfl rfl rfl rfl (cs := [_, _]) rfl rfl) ?_
 refine aB hg3 (aJ hT rfl rfl rfl rfl rfl rfl) ?_
 refine aB hg3 (aI hT rfl rfl rfl rfl (cs := [_, _]) rfl rfl) ?_
 refine aB hg3 (ah (dy _ _)) ?_
 refine aB hg3 (bw rfl rfl) ?_
 refine ab (aP rfl hg3 (rfl : _ = AV.p (.c _)))<|aj rfl ?_
 refine bd (t := 47) rfl (fun hg4 => ?_) (fun hg4 => ?_)
 ·have hg4_ := cw hg4
  iterate 6 refine a7 hg4 ?_
  refine ab (aN rfl hg4 (rfl : _ = AV.p (.c _)))<|ag<|aX rfl rfl<|ae hP<|ab (aV hT rfl rfl rfl (es := [_, _, _, _, _, _, _, _]) rfl)<|aE hT rfl<|ak rfl<|ag<|am ?_
  refine cp rfl (.inr rfl) (aQ hT rfl rfl rfl rfl (cs := [_, _, _, _, _, _, _, _]) rfl rfl) (bO rfl) ?_ bt
  exact aH (nH (fun x => th hg4 (congrArg Fm.b x.2.2)))
 have hg4_ := b9 hg4
 refine aB hg4 (aJ hT rfl rfl rfl rfl rfl rfl) ?_
 refine aB hg4 (aI hT rfl rfl rfl rfl (cs := [_, _]) rfl rfl) ?_
 refine aB hg4 (aJ hT rfl rfl rfl rfl rfl rfl) ?_
 refine aB hg4 (aI hT rfl rfl rfl rfl (cs := [_, _]) rfl rfl) ?_
 refine aB hg4 (ah (dy _ _)) ?_
 refine aB hg4 (bw rfl rfl) ?_
 refine ab (aP rfl hg4 (rfl : _ = AV.p (.c _)))<|ag ?_
 refine aw rfl (fun hb5 => ?_) (fun hb5 => ?_)
 ·have hb5_ := cw hb5
  refine ae hP<|ab (aV hT rfl rfl rfl (es := [_, _, _, _, _, _, _, _]) rfl)<|aE hT rfl<|ak rfl<|ag<|am ?_
  refine cp rfl (.inr rfl) (aQ hT rfl rfl rfl rfl (cs := [_, _, _, _, _, _, _, _]) rfl rfl) (bO rfl) ?_ bt
  exact aH (nH (fun x => th hb5 (congrArg Fm.c x.2.2)))
 have hb5_ := b9 hb5
 refine aq<|ae hP<|aD hT rfl<|au hT rfl<|aD hT rfl<|au hT rfl<|ab (ah (jt _)) ?_
 refine aD hT rfl<|au hT rfl<|ab (ah (jt _)) ?_
 refine aD hT rfl<|au hT rfl<|ab (aV hT rfl rfl rfl (es := [_, _, _, _, _, _, _, _]) rfl)<|an ai (ay hT rfl rfl)<|aE hT rfl<|ag<|ae hP<|ab (aI hT rfl rfl rfl rfl (cs := [_, _, _, _, _, _, _, _]) rfl rfl)<|ab (aI hT rfl rfl rfl rfl (cs := [_, _, _, _, _, _, _, _]) rfl rfl)<|ab (ah (uC _ _ _ _ _ _ _ _ lz lz lz lz lz lz lz lz)) ?_
 refine aE hT rfl<|ak rfl<|ag<|am ?_
 refine cp rfl (.inr rfl) (aQ hT rfl rfl rfl rfl (cs := [_, _, _, _, _, _, _, _]) rfl rfl) (bO rfl) ?_ bt
 exact aH (Gi hg1 hg2 hg3 hg4 hb5)
end
section
open Go Go.AM
theorem zz (zs : List Nat) (hz : zs.length ≤ 1000000) :
  Iter Tryz.prog 211 [[W zs]] (bkL zs) := by
 refine Ep Tryz.func211 (by kernel_rfl) rfl rfl (bL0 rfl) rfl ?_
 intro l n0 J hK
 refine mc ?_
 refine me hP ?_
 refine cC hT rfl rfl rfl ?_
 refine ab (aU hT rfl rfl rfl (l := zs.length) rfl) ?_
 refine ab (bC rfl rfl (by first | exact iW0 _ (by omega) | rfl)) ?_
 refine ak rfl<|ag<|tD ?_
 refine Fa (ι := Nat) (fun k => stL [(0, .p (.c (.v (.func (.yield l) #[] #[])))), (1, .ip [W zs]), (3, Z ((zs.length : Int) - 1 - (k : Int)))] []) (fun k => k) (fun k => k ≤ zs.length) (fun k => zs.length - k) 0 (Nat.zero_le _) rfl (aG ⟨.refl _, .refl _, aO (by simp), trivial⟩ trivial) ?_
 intro k hk
 refine mc ?_
 refine mc ?_
 refine me hP ?_
 refine aj rfl<|ab (dc rfl rfl)<|ag ?_
 refine vk rfl (fun hb1 => ?_) (fun hb1 => ?_)
 ·have hb1_ := dT0 hb1
  refine vj ?_
  refine mc ?_
  refine tD ?_
  refine mc ?_
  refine wR ?_
  refine RJ.val ai (az (rfl : _ = AV.p (.c _))) ?_
  refine RJ.val ai (az (rfl : _ = AV.p (.c _))) ?_
  refine RJ.val ai (ce hT rfl rfl rfl (by first | rfl | exact ly (by omega))) ?_
  refine RJ.val ai (az (rfl : _ = AV.p (.c _))) ?_
  refine RJ.val ai (b6 hT (l := zs.length) (n := ((zs.length : Int) - 1 - (k : Int))) rfl rfl rfl rfl rfl rfl (by omega) (gQ (by omega))) ?_
  refine RJ.val ai (ce hT rfl rfl rfl (dv := w32 (zs.getD (zs.length - 1 - k) 0)) (by show ((zs.map w32).drop ((((zs.length : Int) - 1 - (k : Int))).toNat * 1))[0]? = _; rw [show (((zs.length : Int) - 1 - (k : Int))).toNat = zs.length - 1 - k by omega]; exact ly (by omega))) ?_
  refine RJ.yield hK ai rfl rfl (yq (by omega)) ?_
  refine RJ.val ai (bA rfl) ?_
  refine RJ.done ?_
  refine qx rfl rfl ?_
  refine vj ?_
  refine me hP ?_
  refine aj rfl<|ab (bC rfl rfl (by first | exact iW0 _ (by omega) | rfl)) ?_
  refine ak rfl<|ag ?_
  refine ⟨k + 1, by omega, by omega, rfl, aG ⟨.refl _, .refl _, aO (by omega), trivial⟩ trivial⟩
 have hb1_ := dF0 hb1
 refine Fc ?_
 refine ⟨.inl rfl, ?_⟩
 exact (px zs).symm ▸ (by omega)
theorem Df (zs : List Nat) :
  aF Tryz.prog 177 [.p (.c (W zs))] (.fn 211 [[W zs]]) := by
 refine lh Tryz.func177 (by kernel_rfl) rfl rfl (bL0 rfl) rfl ?_
 refine ae hP<|an ai (aK rfl rfl)<|ak rfl<|ag<|cL (t := 1) rfl rfl ?_
 refine ae hP<|ab (mQ rfl)<|ab (bl (rfl : _ = AV.fn _ _))<|ag<|am ?_
 exact ⟨.inr rfl, 2, rfl, rfl⟩
theorem sB (x : Int) (hx : x.natAbs < 18446744073709551616) :
  aF Tryz.prog 125 [I x] (.t [PE (lwV x), PB (lwO x)]) := by
 have hlen : (wl x.natAbs).length ≤ 2 := gq (k := 2) (by omega)
 have hok := bI x.natAbs
 refine aL Tryz.func125 rfl rfl rfl rfl ?_
 refine ae hP<|an ai (aK rfl rfl)<|ak rfl<|ak rfl<|ag<|ao<|ae hP<|aD hT rfl<|aY hT rfl rfl rfl rfl ?_
 refine ab (aU hT rfl rfl rfl (l := (wl x.natAbs).length) rfl) ?_
 refine ab (bV rfl rfl)<|ag<|aT rfl (decide_eq_false (by omega)) ?_
 refine aq<|ae hP<|an ai (ay hT rfl rfl)<|ag<|ao<|ae hP<|aD hT rfl<|aY hT rfl rfl rfl rfl ?_
 refine ab (ah (Df (wl x.natAbs))) ?_
 refine ag<|aA<|dF (t := stL [(1, .loc 1 0), (4, .loc 4 0), (14, .fn 211 [[W (wl x.natAbs)]])] [(1, ⟨false, 1, 29, [zn x, zm x]⟩), (4, ⟨false, 1, 103, [.v (.int .u64 ((lwA (wl x.natAbs) 0 : Nat) : Int))]⟩)]) (aG ⟨.refl _, .refl _, .refl _, trivial⟩ ⟨rfl, by rw [wc]; rfl, trivial⟩) ?_
 refine yJ 5 (fun k => cO [(1, ⟨false, 1, 29, [zn x, zm x]⟩), (4, ⟨false, 1, 103, [.v (.int .u64 ((lwA (wl x.natAbs) k : Nat) : Int))]⟩)]) rfl (zz (wl x.natAbs) (by omega)) (EX _) rfl rfl rfl (fun k xx hxx => ?_) ?_
 ·obtain ⟨hk, rfl⟩ := EY hxx
  have hv := Jx hok hlen hk
  have hw := hok.getD ((wl x.natAbs).length - 1 - k)
  refine av hP<|ak rfl<|ag<|aA<|av hP<|aY hT rfl rfl rfl rfl ?_
  refine ab (ku rfl rfl (by decide) (c := ((lwA (wl x.natAbs) k * 4294967296 : Nat) : Int)) (by rw [show (2 : Int) ^ (min (32 : Int).toNat IntKind.u64.bits) = 4294967296 from rfl, IntWalk.u64_in _ (by omega)]; omega)) ?_
  refine aj rfl<|ab (a8 hT rfl rfl rfl rfl (IntWalk.u64_in _ (by omega))) ?_
  refine ab (jW rfl rfl (Kw hv hw)) ?_
  refine aE hT rfl<|ag ?_
  refine ⟨rfl, GW.forget_as (congrArg (fun y => cO [(1, ⟨false, 1, 29, [zn x, zm x]⟩), (4, ⟨false, 1, 103, [.v (.int .u64 ((y : Nat) : Int))]⟩)]) (se hk).symm) (SubO.own ⟨rfl, rfl, trivial⟩)⟩
 rw [px, Ec, bE]
 refine ae hP<|aY hT rfl rfl rfl rfl ?_
 refine ab (a8 hT rfl rfl rfl rfl (Gg hx)) ?_
 refine ak rfl<|ag<|ao<|ae hP<|aD hT rfl<|aY hT rfl rfl rfl rfl ?_
 refine ag ?_
 refine aw rfl (fun hb1 => ?_) (fun hb1 => ?_)
 ·have hn : x < 0 := dT0 hb1
  refine av hP<|aj rfl<|ab (gx rfl (Fg hn)) ?_
  refine ak rfl<|ag<|ao<|ae hP<|aj rfl<|ab (bw rfl rfl)<|aj rfl ?_
  refine bd (t := 30) rfl (fun hg2 => ?_) (fun hg2 => ?_)
  ·have hg2_ := cw hg2
   refine aB hg2 (aJ hT rfl rfl rfl rfl rfl rfl) ?_
   refine aB hg2 (bG hT rfl rfl rfl rfl (by first | rfl | exact dz (by omega))) ?_
   refine aB hg2 (az (rfl : _ = AV.p (.c _))) ?_
   refine aB hg2 (bi rfl rfl) ?_
   refine aB hg2 (iQ hT rfl rfl rfl rfl) ?_
   refine ab (aN rfl hg2 (rfl : _ = AV.p (.c _)))<|ag ?_
   refine aw rfl (fun hb3 => ?_) (fun hb3 => ?_)
   ·refine ae hP<|ak rfl<|ak rfl<|ag<|am<|E11 rfl rfl rfl ?_
    exact aH (uS hx (by assumption))
   refine aq<|ae hP<|aj rfl<|ak rfl<|ak rfl<|ag<|am<|E11 rfl rfl rfl ?_
   exact aH (sf hx (by assumption))
  have hg2_ := b9 hg2
  iterate 5 refine a7 hg2 ?_
  refine ab (aP rfl hg2 (rfl : _ = AV.p (.c _)))<|ag<|aT rfl rfl<|aq<|ae hP<|aj rfl<|ak rfl<|ak rfl<|ag<|am<|E11 rfl rfl rfl ?_
  exact aH (p5 hx (by assumption))
 have hn : ¬ x < 0 := dF0 hb1
 rw [Ff hn]
 refine aq<|ao<|ae hP<|aj rfl<|ab (bw rfl rfl)<|aj rfl ?_
 refine bd (t := 30) rfl (fun hg4 => ?_) (fun hg4 => ?_)
 ·have hg4_ := cw hg4
  refine aB hg4 (aJ hT rfl rfl rfl rfl rfl rfl) ?_
  refine aB hg4 (bG hT rfl rfl rfl rfl (by first | rfl | exact dz (by omega))) ?_
  refine aB hg4 (az (rfl : _ = AV.p (.c _))) ?_
  refine aB hg4 (bi rfl rfl) ?_
  refine aB hg4 (iQ hT rfl rfl rfl rfl) ?_
  refine ab (aN rfl hg4 (rfl : _ = AV.p (.c _)))<|ag ?_
  refine aw rfl (fun hb5 => ?_) (fun hb5 => ?_)
  ·refine ae hP<|ak rfl<|ak rfl<|ag<|am<|E11 rfl rfl rfl ?_
   exact aH (uS hx (by assumption))
  refine aq<|ae hP<|aj rfl<|ak rfl<|ak rfl<|ag<|am<|E11 rfl rfl rfl ?_
  exact aH (sf hx (by assumption))
 have hg4_ := b9 hg4
 iterate 5 refine a7 hg4 ?_
 refine ab (aP rfl hg4 (rfl : _ = AV.p (.c _)))<|ag<|aT rfl rfl<|aq<|ae hP<|aj rfl<|ak rfl<|ak rfl<|ag<|am<|E11 rfl rfl rfl ?_
 exact aH (p5 hx (by assumption))
theorem Jv {x : Int} (h1 : -9223372036854775808 < x) (h2 : x < 9223372036854775808) : AV.t [PE (lwV x), PB (lwO x)] = .t [PE x, PB true] := by
 have e : lwO x = true := decide_eq_true ⟨by omega, h2⟩
 unfold lwV; rw [e]; rfl
theorem ju (x : Int) (h1 : -9223372036854775808 < x) (h2 : x < 9223372036854775808) : aF Tryz.prog 125 [I x] (.t [.c (.v (.int .i64 x)), PB true]) := Jv h1 h2 ▸ sB x (by omega)
end
section
open Go Go.AM
theorem mO (d : Int) (hd : L 40 d) :
  aF Tryz.prog 54 [I d] (.t [PF (prF d), PE (prE d)]) := by
 have id : LB d 40 := ⟨hd⟩
 have h4a := Int.emod_nonneg d (show (4 : Int) ≠ 0 by decide)
 have h4b := Int.emod_lt_of_pos d (show (0 : Int) < 4 by decide)
 refine aL Tryz.func54 rfl rfl rfl rfl ?_
 refine ae hP<|an ai (aK rfl rfl)<|an ai (ay hT rfl rfl)<|ak rfl<|ag<|ae hP<|au hT rfl<|ab (ah (ef _ (by first | assumption | decide))) ?_
 refine ab (ah (dJ _ 4 lz lz (by decide))) ?_
 refine ab (az (rfl : _ = AV.t _))<|ab (aC rfl (v := .a _) rfl)<|ab (aC rfl (v := .a _) rfl)<|ab (aC rfl (v := .c _) rfl)<|an ai (ay hT rfl rfl)<|an ai (ay hT rfl rfl)<|aE hT rfl<|aE hT rfl<|ak rfl<|ag<|ae hP<|au hT rfl<|ab (ah (ju (d % 4) (by omega) (by omega))) ?_
 refine ab (az (rfl : _ = AV.t _))<|ab (aC rfl (v := .c _) rfl)<|ab (aC rfl (v := .c _) rfl)<|ak rfl<|ak rfl<|ag<|ao<|ae hP<|aj rfl<|ab (bA rfl)<|aj rfl<|aB rfl (az (rfl : _ = AV.p (.c _))) ?_
 refine aB rfl (bV rfl rfl) ?_
 refine ab (aP rfl rfl (rfl : _ = AV.p (.c _)))<|aj rfl ?_
 refine bd (t := 27) rfl (fun hg2 => ?_) (fun hg2 => ?_)
 ·have hg2_ := dT0 hg2
  refine a7 hg2 ?_
  refine a7 hg2 ?_
  refine ab (aN rfl hg2 (rfl : _ = AV.p (.c _)))<|ag<|aX rfl rfl<|ae hP<|ab (aV hT rfl rfl rfl (es := [_, _, _, _, _, _]) rfl)<|aE hT rfl<|ak rfl<|ag<|am ?_
  refine cp rfl (.inr rfl) (aQ hT rfl rfl rfl rfl (cs := [_, _, _, _, _, _]) rfl rfl) (bO rfl) ?_ bt
  exact aH (BW (.inl hg2_))
 have hg2_ := dF0 hg2
 refine aB hg2 (aI hT rfl rfl rfl rfl (cs := [_, _]) rfl rfl) ?_
 refine aB hg2 (ah (nY _ lz)) ?_
 refine ab (aP rfl hg2 (rfl : _ = AV.p (.c _)))<|ag ?_
 refine aw rfl (fun hb3 => ?_) (fun hb3 => ?_)
 ·refine ae hP<|ab (aV hT rfl rfl rfl (es := [_, _, _, _, _, _]) rfl)<|aE hT rfl<|ak rfl<|ag<|am ?_
  refine cp rfl (.inr rfl) (aQ hT rfl rfl rfl rfl (cs := [_, _, _, _, _, _]) rfl rfl) (bO rfl) ?_ bt
  exact aH (BW (.inr hb3))
 refine aq<|ae hP<|ab (ah (ef _ (by first | assumption | decide))) ?_
 refine au hT rfl<|au hT rfl<|ab (ah (jt _)) ?_
 refine ab (aV hT rfl rfl rfl (es := [_, _, _, _, _, _]) rfl)<|aE hT rfl<|ak rfl<|ag<|am ?_
 refine cp rfl (.inr rfl) (aQ hT rfl rfl rfl rfl (cs := [_, _, _, _, _, _]) rfl rfl) (bO rfl) ?_ bt
 exact aH (GQ hg2_ hb3)
theorem GD (ws : List Nat) (hok : okW ws) :
  aF Tryz.prog 121 [.p (.c (W ws))] (.p (.c (nt (wv ws)))) := by
 refine aL Tryz.func121 rfl rfl rfl rfl ?_
 refine iJ (t := 0) rfl rfl (fun hlen => ?_)
 refine ae hP<|ak rfl<|ag<|ao<|aA<|bq (ι := List Nat) (fun l => stL [(0, .p (.c (W l)))] []) (fun l => okW l ∧ wv l = wv ws ∧ l.length ≤ 140737488355328) (fun l => l.length) ws ⟨hok, rfl, hlen⟩ (aG ⟨.refl _, trivial⟩ trivial) ?_
 rintro l ⟨hl, hv, hn⟩
 refine ao<|ae hP<|aj rfl<|ab (aU hT rfl rfl rfl rfl)<|ab (bV rfl rfl)<|aj rfl ?_
 refine bd (t := 6) rfl (fun hg1 => ?_) (fun hg1 => ?_)
 ·have hg1_ := dT0 hg1
  refine aB hg1 (az (rfl : _ = AV.p (.c _))) ?_
  refine aB hg1 (az (rfl : _ = AV.p (.c _))) ?_
  refine aB hg1 (aU hT rfl rfl rfl rfl) ?_
  refine aB hg1 (bC rfl rfl (by first | exact iW0 _ (by omega) | rfl)) ?_
  refine aB hg1 (by first | exact fp hT rfl rfl rfl rfl rfl rfl (by omega) | exact b6 hT rfl rfl rfl rfl rfl rfl (by omega) (by first | exact gQ (by omega) | simp)) ?_
  refine aB hg1 (ce hT rfl rfl rfl (by first | rfl | exact ly (by omega))) ?_
  refine aB hg1 (bp rfl rfl) ?_
  refine ab (aN rfl hg1 (rfl : _ = AV.p (.c _)))<|ag ?_
  refine aw rfl (fun hb2 => ?_) (fun hb2 => ?_)
  ·have hb2_ := bT hb2
   refine aq<|aA<|av hP<|aj rfl<|aj rfl<|ab (aU hT rfl rfl rfl rfl)<|ab (bC rfl rfl (by first | exact iW0 _ (by omega) | rfl)) ?_
   refine ab (kb hT rfl rfl rfl rfl rfl rfl (by omega)) ?_
   refine ak rfl<|ag ?_
   have e : ((l.length : Int) - 1).toNat = l.length - 1 := by omega
   refine ⟨l.take (l.length - 1), ⟨hl.take _, ?_, ?_⟩, ?_, aG ⟨aH ?_, trivial⟩ trivial⟩
   ·rw [qN (by omega) (by rw [← e]; omega), hv]
   ·rw [List.length_take]; omega
   ·rw [List.length_take]; omega
   show AV.p (.c (W (l.take ((l.length : Int) - 1).toNat))) = _
   rw [e]
  have hb2_ := bF hb2
  refine aZ<|ae hP<|aj rfl<|ak rfl<|ag<|am<|E1 rfl rfl ?_
  have e : ((l.length : Int) - 1).toNat = l.length - 1 := by omega
  refine aH ?_
  rw [← hv, qD hl (.inr (by rw [← e]; omega))]
 have hg1_ := dF0 hg1
 iterate 7 refine a7 hg1 ?_
 refine ab (aP rfl hg1 (rfl : _ = AV.p (.c _)))<|ag<|aT rfl rfl<|aZ<|ae hP<|aj rfl<|ak rfl<|ag<|am<|E1 rfl rfl ?_
 refine aH ?_
 rw [← hv, qD hl (.inl (by omega))]
theorem fD (neg : Bool) (ws : List Nat) (h : okW ws) :
  aF Tryz.prog 51 [B neg, .p (.c (W ws))] (I (sg neg (wv ws))) := by
 refine aL Tryz.func51 rfl rfl rfl rfl ?_
 refine ae hP<|an ai (ay hT rfl rfl)<|ag<|ae hP<|aj rfl<|ab (ah (GD _ h)) ?_
 refine ak rfl<|ag<|ao<|ae hP<|aj rfl<|ab (aU hT rfl rfl rfl rfl)<|ab (bp rfl rfl)<|ag ?_
 refine aw rfl (fun hb1 => ?_) (fun hb1 => ?_)
 ·have hb1_ := bT hb1
  refine ae hP<|ab (aV hT rfl rfl rfl (es := [_, _]) rfl)<|aE hT rfl<|ag<|am<|E2 hT rfl rfl rfl rfl rfl rfl rfl ?_
  have h0 : wv ws = 0 := mf (by omega)
  rw [h0, ul]
  exact .refl _
 have hb1_ := bF hb1
 refine aq<|ae hP<|aj rfl<|aj rfl<|ab (aV hT rfl rfl rfl (es := [_, _]) rfl)<|aE hT rfl<|ag<|am<|E2 hT rfl rfl rfl rfl rfl rfl rfl ?_
 have h0 : 0 < wv ws := by
  rcases Nat.eq_zero_or_pos (wv ws) with e | e
  ·rw [e] at hb1_; exact absurd rfl hb1_
  exact e
 exact aH (by show _ = AV.p (.a [zn _, zm _]); rw [Be h0, Bf])
theorem dL (ws : List Nat) (i : Int) (hok : okW ws) :
  aF Tryz.prog 197 [.p (.c (W ws)), Z i] (.p (.c (.v (.int .u64 ((wd ws i : Nat) : Int))))) := by
 refine aL Tryz.func197 rfl rfl rfl rfl ?_
 refine ae hP<|ak rfl<|ag<|ao<|ae hP<|aj rfl<|ab (bi rfl rfl)<|aj rfl ?_
 refine bd (t := 7) rfl (fun hg1 => ?_) (fun hg1 => ?_)
 ·have hg1_ := dT0 hg1
  iterate 4 refine a7 hg1 ?_
  refine ab (aN rfl hg1 (rfl : _ = AV.p (.c _)))<|ag<|aX rfl rfl<|ae hP<|ak rfl<|ag<|am<|E1 rfl rfl ?_
  exact aO (by rw [nE (.inl hg1_)]; rfl)
 have hg1_ := dF0 hg1
 have hi0 := dF0 hg1
 refine aB hg1 (az (rfl : _ = AV.p (.c _))) ?_
 refine aB hg1 (az (rfl : _ = AV.p (.c _))) ?_
 refine aB hg1 (aU hT rfl rfl rfl rfl) ?_
 refine aB hg1 (dc rfl rfl) ?_
 refine ab (aP rfl hg1 (rfl : _ = AV.p (.c _)))<|ag ?_
 refine aw rfl (fun hb2 => ?_) (fun hb2 => ?_)
 ·have hb2_ := dT0 hb2
  refine ae hP<|ak rfl<|ag<|am<|E1 rfl rfl ?_
  exact aO (by rw [nE (.inr hb2_)]; rfl)
 have hb2_ := dF0 hb2
 refine aq<|ae hP<|aj rfl<|aj rfl<|cI ?_
 refine cC hT rfl rfl rfl ?_
 refine ab (a8 hT rfl rfl rfl rfl (IntWalk.u64_in _ (by have := hok.getD i.toNat; omega))) ?_
 refine ak rfl<|ag<|am<|E1 rfl rfl ?_
 exact aO (by rw [Bg (by omega)])
theorem eT (z : Int) (hz : bv z) :
  aF Tryz.prog 10 [.p (.c (.v (.int .i64 z)))] (I z) := by
 have hz1 : z.natAbs < 18446744073709551616 := by unfold bv at hz; omega
 refine aL Tryz.func10 rfl rfl rfl rfl ?_
 refine ae hP<|an ai (ay hT rfl rfl)<|ag<|ae hP<|aj rfl<|ab (a8 hT rfl rfl rfl rfl vo) ?_
 refine ak rfl<|ag<|ao<|ae hP<|aj rfl<|ab (bi rfl rfl)<|ag ?_
 refine aw rfl (fun hb1 => ?_) (fun hb1 => ?_)
 ·have hb1_ := dT0 hb1
  refine av hP<|aj rfl<|ab (gx rfl (yR hz hb1_)) ?_
  refine ak rfl<|ag<|ae hP<|aj rfl<|ab (bi rfl rfl)<|aj rfl<|ab (a8 hT rfl rfl rfl rfl (c := ((z.natAbs % 4294967296 : Nat) : Int)) (by first | exact ee _ | exact BZ hz hb1_)) ?_
  refine aj rfl<|ab (c8 (j := 32) rfl rfl (by decide)) ?_
  refine ab (a8 hT rfl rfl rfl rfl (c := ((z.natAbs / 2 ^ 32 : Nat) : Int)) (by first | exact xE hz | exact B0 hz hb1_)) ?_
  refine ab (bj hT rfl rfl rfl (es := [_, _]) rfl rfl rfl)<|ab (ah (fD _ [z.natAbs % 4294967296, z.natAbs / 2 ^ 32] (oT (by omega)))) ?_
  refine aE hT rfl<|ag<|am<|E2 hT rfl rfl rfl rfl rfl rfl rfl ?_
  exact Sub.I (by rw [qM]; exact vU)
 have hb1_ := dF0 hb1
 refine aq<|ae hP<|aj rfl<|ab (bi rfl rfl)<|aj rfl<|ab (a8 hT rfl rfl rfl rfl (c := ((z.natAbs % 4294967296 : Nat) : Int)) (by first | exact ee _ | exact BZ hz hb1_)) ?_
 refine aj rfl<|ab (c8 (j := 32) rfl rfl (by decide)) ?_
 refine ab (a8 hT rfl rfl rfl rfl (c := ((z.natAbs / 2 ^ 32 : Nat) : Int)) (by first | exact xE hz | exact B0 hz hb1_)) ?_
 refine ab (bj hT rfl rfl rfl (es := [_, _]) rfl rfl rfl)<|ab (ah (fD _ [z.natAbs % 4294967296, z.natAbs / 2 ^ 32] (oT (by omega)))) ?_
 refine aE hT rfl<|ag<|am<|E2 hT rfl rfl rfl rfl rfl rfl rfl ?_
 exact Sub.I (by rw [qM]; exact vU)
theorem Je (x : Int) :
  aF Tryz.prog 174 [I x] (I (-x)) := by
 refine aL Tryz.func174 rfl rfl rfl rfl ?_
 refine ae hP<|an ai (aK rfl rfl)<|an ai (ay hT rfl rfl)<|ag<|ae hP<|aD hT rfl<|aY hT rfl rfl rfl rfl ?_
 refine ab (bA rfl)<|aD hT rfl<|aY hT rfl rfl rfl rfl ?_
 refine ab (ah (fD _ (wl x.natAbs) (bI _))) ?_
 refine aE hT rfl<|ag<|am<|E2 hT rfl rfl rfl rfl rfl rfl rfl ?_
 exact Sub.I (xG x)
theorem nV (x : Int) :
  aF Tryz.prog 191 [I x] (I x.natAbs) := by
 refine aL Tryz.func191 rfl rfl rfl rfl ?_
 refine ae hP<|an ai (aK rfl rfl)<|an ai (ay hT rfl rfl)<|ag<|ae hP<|aD hT rfl<|aY hT rfl rfl rfl rfl ?_
 refine ab (ah (fD _ (wl x.natAbs) (bI _))) ?_
 refine aE hT rfl<|ag<|am<|E2 hT rfl rfl rfl rfl rfl rfl rfl ?_
 exact Sub.I (yD x)
theorem jF (x : Int) :
  aF Tryz.prog 86 [I x] (Z (sgn x)) := by
 refine aL Tryz.func86 rfl rfl rfl rfl ?_
 refine ae hP<|an ai (aK rfl rfl)<|ak rfl<|ag<|ao<|ae hP<|aD hT rfl<|aY hT rfl rfl rfl rfl ?_
 refine ab (aU hT rfl rfl rfl rfl)<|ab (bp rfl rfl)<|ag ?_
 refine aw rfl (fun hb1 => ?_) (fun hb1 => ?_)
 ·have hb1_ := bT hb1
  refine ae hP<|ak rfl<|ag<|am<|E1 rfl rfl ?_
  have h0 := wl_len_zero.1 hb1_
  exact aO (by rw [h0]; rfl)
 have hb1_ := bF hb1
 refine aq<|ao<|ae hP<|aD hT rfl<|aY hT rfl rfl rfl rfl ?_
 refine ag ?_
 refine aw rfl (fun hb2 => ?_) (fun hb2 => ?_)
 ·refine ae hP<|ak rfl<|ag<|am<|E1 rfl rfl ?_
  exact aO (jp hb2).symm
 refine aq<|ae hP<|ak rfl<|ag<|am<|E1 rfl rfl ?_
 have h0 : x ≠ 0 := fun e => hb1_ (wl_len_zero.2 e)
 exact aO (oD h0 hb2).symm
theorem nT (m n : Nat) :
  aF Tryz.prog 119 [.p (.c (nt m)), .p (.c (nt n))] (Z (bu m n)) := by
 refine aL Tryz.func119 rfl rfl rfl rfl ?_
 refine iJ (t := 0) rfl rfl (fun hlen => ?_)
 refine iJ (t := 1) rfl rfl (fun hlen2 => ?_)
 refine ae hP<|ak rfl<|ag<|ao<|ae hP<|aj rfl<|ab (aU hT rfl rfl rfl rfl)<|aj rfl<|ab (aU hT rfl rfl rfl rfl)<|ab (bw rfl rfl)<|ag ?_
 refine aw rfl (fun hb1 => ?_) (fun hb1 => ?_)
 ·have hb1_ := cw hb1
  refine ao<|ae hP<|aj rfl<|ab (aU hT rfl rfl rfl rfl)<|aj rfl<|ab (aU hT rfl rfl rfl rfl)<|ab (bi rfl rfl)<|ag ?_
  refine aw rfl (fun hb2 => ?_) (fun hb2 => ?_)
  ·have hb2_ := dT0 hb2
   refine ae hP<|ak rfl<|ag<|am<|E1 rfl rfl ?_
   exact aO (wC hb1_ hb2_)
  have hb2_ := dF0 hb2
  refine aq<|ae hP<|ak rfl<|ag<|am<|E1 rfl rfl ?_
  exact aO (wD hb1_ hb2_)
 have hb1_ := b9 hb1
 refine aq<|ao<|ae hP<|aj rfl<|ab (aU hT rfl rfl rfl rfl)<|ab (bC rfl rfl (by first | exact iW0 _ (by omega) | rfl)) ?_
 refine ak rfl<|ag<|aA ?_
 have hll : (wl m).length = (wl n).length := by omega
 refine bq (ι := Nat) (fun k => stL [(0, .p (.c (nt m))), (1, .p (.c (nt n))), (5, Z ((k : Int) - 1))] []) (fun k => k ≤ (wl m).length ∧ (wl m).drop k = (wl n).drop k) (fun k => k) (wl m).length ⟨Nat.le_refl _, by rw [List.drop_length, hll, List.drop_length]⟩ (aG ⟨.refl _, .refl _, .refl _, trivial⟩ trivial) ?_
 rintro k ⟨hk, he⟩
 refine ao<|ae hP<|aj rfl<|ab (dc rfl rfl)<|ag ?_
 refine aw rfl (fun hb3 => ?_) (fun hb3 => ?_)
 ·have hb3_ := dT0 hb3
  refine aq<|ao<|aA<|ao<|ae hP<|aj rfl<|aj rfl<|ab (b6 hT rfl rfl rfl rfl rfl rfl (l := (wl m).length) (xs := (wl m).map w32) (by omega) (gQ (by omega))) ?_
  refine cC hT rfl rfl rfl ?_
  refine aj rfl<|aj rfl<|ab (b6 hT rfl rfl rfl rfl rfl rfl (l := (wl n).length) (xs := (wl n).map w32) (by omega) (gQ (by omega))) ?_
  refine cC hT rfl rfl rfl ?_
  refine ab (bi rfl rfl)<|ag ?_
  refine aw rfl (fun hb4 => ?_) (fun hb4 => ?_)
  ·have hb4_ := dT0 hb4
   refine ae hP<|ak rfl<|ag<|am<|E1 rfl rfl ?_
   have hkk : ((k : Int) - 1).toNat = k - 1 := by omega
   rw [hkk] at hb4_
   have h2 := qg hll (k := k - 1) (by omega) (by rw [show k - 1 + 1 = k by omega]; exact he) (by rw [fw hb4_]; decide)
   exact aO (by rw [← h2, fw hb4_])
  have hb4_ := dF0 hb4
  refine aq<|ae hP<|aj rfl<|aj rfl<|ab (b6 hT rfl rfl rfl rfl rfl rfl (l := (wl m).length) (xs := (wl m).map w32) (by omega) (gQ (by omega))) ?_
  refine cC hT rfl rfl rfl ?_
  refine aj rfl<|aj rfl<|ab (b6 hT rfl rfl rfl rfl rfl rfl (l := (wl n).length) (xs := (wl n).map w32) (by omega) (gQ (by omega))) ?_
  refine cC hT rfl rfl rfl ?_
  refine ab (bV rfl rfl)<|ag ?_
  refine aw rfl (fun hb5 => ?_) (fun hb5 => ?_)
  ·have hb5_ := dT0 hb5
   refine ae hP<|ak rfl<|ag<|am<|E1 rfl rfl ?_
   have hkk : ((k : Int) - 1).toNat = k - 1 := by omega
   rw [hkk] at hb5_
   have h2 := qg hll (k := k - 1) (by omega) (by rw [show k - 1 + 1 = k by omega]; exact he) (by rw [fx hb5_]; decide)
   exact aO (by rw [← h2, fx hb5_])
  have hb5_ := dF0 hb5
  refine aq<|av hP<|aj rfl<|ab (bC rfl rfl (by first | exact iW0 _ (by omega) | rfl)) ?_
  refine ak rfl<|ag ?_
  have hkk : ((k : Int) - 1).toNat = k - 1 := by omega
  rw [hkk] at hb4_ hb5_
  refine ⟨k - 1, ⟨by omega, ?_⟩, by omega, aG ⟨.refl _, .refl _, aO (by omega), trivial⟩ trivial⟩
  have e1 := dN (ws := wl m) (k := k - 1) (by omega)
  have e2 := dN (ws := wl n) (k := k - 1) (by omega)
  rw [e1, e2, show k - 1 + 1 = k by omega, he]
  congr 1
  omega
 have hb3_ := dF0 hb3
 refine aZ<|ae hP<|ak rfl<|ag<|am<|E1 rfl rfl ?_
 have h0 : k = 0 := by omega
 subst h0
 have : m = n := by rw [← bE m, ← bE n]; exact congrArg wv he
 exact aO (by rw [this, gB])
theorem nU (x y : Int) :
  aF Tryz.prog 149 [I x, I y] (Z (bu x y)) := by
 refine aL Tryz.func149 rfl rfl rfl rfl ?_
 refine ae hP<|an ai (aK rfl rfl)<|an ai (aK rfl rfl)<|ak rfl<|ag<|ao<|ae hP<|aD hT rfl<|aY hT rfl rfl rfl rfl ?_
 refine aD hT rfl<|aY hT rfl rfl rfl rfl ?_
 refine ab (iQ hT rfl rfl rfl rfl)<|ag ?_
 refine aw rfl (fun hb1 => ?_) (fun hb1 => ?_)
 ·refine ao<|ae hP<|aD hT rfl<|aY hT rfl rfl rfl rfl ?_
  refine ag ?_
  refine aw rfl (fun hb2 => ?_) (fun hb2 => ?_)
  ·refine ae hP<|ak rfl<|ag<|am<|E1 rfl rfl ?_
   exact aO (by rw [uq hb1, if_pos (dT0 hb2)])
  refine aq<|ae hP<|ak rfl<|ag<|am<|E1 rfl rfl ?_
  exact aO (by rw [uq hb1, if_neg (dF0 hb2)])
 refine aq<|ao<|ae hP<|aD hT rfl<|aY hT rfl rfl rfl rfl ?_
 refine ag ?_
 refine aw rfl (fun hb3 => ?_) (fun hb3 => ?_)
 ·refine ae hP<|aD hT rfl<|aY hT rfl rfl rfl rfl ?_
  refine aD hT rfl<|aY hT rfl rfl rfl rfl ?_
  refine ab (ah (nT y.natAbs x.natAbs)) ?_
  refine ak rfl<|ag<|am<|E1 rfl rfl ?_
  exact aO (tJ hb1 (dT0 hb3))
 refine aq<|ae hP<|aD hT rfl<|aY hT rfl rfl rfl rfl ?_
 refine aD hT rfl<|aY hT rfl rfl rfl rfl ?_
 refine ab (ah (nT x.natAbs y.natAbs)) ?_
 refine ak rfl<|ag<|am<|E1 rfl rfl ?_
 exact aO (tI hb1 (dF0 hb3))
theorem ff (x y : Int) :
  aF Tryz.prog 48 [I x, I y] (B (decide (x = y))) := by
 refine aL Tryz.func48 rfl rfl rfl rfl ?_
 refine ae hP<|an ai (aK rfl rfl)<|an ai (aK rfl rfl)<|ak rfl<|ag<|ae hP<|aD hT rfl<|aY hT rfl rfl rfl rfl ?_
 refine aD hT rfl<|aY hT rfl rfl rfl rfl ?_
 refine ab (r6 hT rfl rfl rfl rfl)<|aj rfl ?_
 refine bd (t := 10) rfl (fun hg1 => ?_) (fun hg1 => ?_)
 ·refine aB hg1 (aJ hT rfl rfl rfl rfl rfl rfl) ?_
  refine aB hg1 (bG hT rfl rfl rfl rfl (by first | rfl | exact dz (by omega))) ?_
  refine aB hg1 (aJ hT rfl rfl rfl rfl rfl rfl) ?_
  refine aB hg1 (bG hT rfl rfl rfl rfl (by first | rfl | exact dz (by omega))) ?_
  refine aB hg1 (ah (nT x.natAbs y.natAbs)) ?_
  refine aB hg1 (bp rfl rfl) ?_
  refine ab (aN rfl hg1 (rfl : _ = AV.p (.c _)))<|ak rfl<|ag<|am<|E1 rfl rfl ?_
  exact aW (Dn hg1)
 iterate 6 refine a7 hg1 ?_
 refine ab (aP rfl hg1 (rfl : _ = AV.p (.c _)))<|ak rfl<|ag<|am<|E1 rfl rfl ?_
 exact aW (Dm hg1)
end
section
open Go Go.AM
theorem GG (a b : List Nat) (ha : okW a) (hb : okW b) (hla : a.length ≤ 1099511627776) (hlb : b.length ≤ 1099511627776) :
  aF Tryz.prog 155 [.p (.c (W a)), .p (.c (W b))] (.p (.c (W (dgs ((if (b.length : Int) > a.length then (b.length : Int) else a.length).toNat + 1) (wv a + wv b))))) := by
 obtain ⟨mx, hmx⟩ : ∃ mx : Int, mx = (if (b.length : Int) > a.length then (b.length : Int) else a.length) := ⟨_, rfl⟩
 have hm1 : (a.length : Int) ≤ mx ∧ (b.length : Int) ≤ mx ∧ mx ≤ 1099511627776 := by rw [hmx]; split <;> omega
 refine aL Tryz.func155 rfl rfl rfl rfl ?_
 refine ae hP<|ak rfl<|ag<|ae hP<|an ai (ie hT rfl rfl rfl rfl (ws := []) rfl rfl rfl) ?_
 refine ab (bl (rfl : _ = AV.vec _))<|ag<|ae hP<|ak rfl<|ag<|dx 8 1000 rfl rfl rfl ?_
 refine ao<|ae hP<|ak rfl<|ag<|aA<|bq (ι := List Nat × Nat) (fun p => stL [(0, .p (.c (W a))), (1, .p (.c (W b))), (5, .vec 1000), (6, .p (.c (.v (.int .u64 ((p.2 : Nat) : Int))))), (7, Z ((p.1.length : Nat) : Int))] [(1000, WB 105 p.1)]) (fun p => okW p.1 ∧ (p.1.length : Int) ≤ mx ∧ p.2 ≤ 1 ∧ wv p.1 + 4294967296 ^ p.1.length * p.2 = wv (a.take p.1.length) + wv (b.take p.1.length)) (fun p => (mx - p.1.length).toNat) ([], 0) ⟨okW.nil, by simp only [List.length_nil]; omega, by decide, by simp [wv]⟩ (aG ⟨.refl _, .refl _, .refl _, .refl _, .refl _, trivial⟩ ⟨rfl, trivial⟩) ?_
 rintro p ⟨ho, hl, hc, hv⟩
 have hwa := eF ha (p.1.length : Nat)
 have hwb := eF hb (p.1.length : Nat)
 refine ao<|ae hP<|aj rfl<|aj rfl<|ab (aU hT rfl rfl rfl rfl)<|aj rfl<|ab (aU hT rfl rfl rfl rfl)<|ab (oa rfl rfl)<|ab (bi rfl rfl)<|ag ?_
 refine aw rfl (fun hb1 => ?_) (fun hb1 => ?_)
 ·have hb1_ := dT0 hb1
  have hlt : (p.1.length : Int) < mx := by rw [hmx]; exact hb1_
  refine aq<|ao<|aA<|ae hP<|aj rfl<|aj rfl<|aj rfl<|ab (ah (dL _ _ (by assumption))) ?_
  refine aj rfl<|aj rfl<|ab (ah (dL _ _ (by assumption))) ?_
  refine ab (bJ rfl rfl (c := ((wd a p.1.length + wd b p.1.length : Nat) : Int)) (by rw [← Int.natCast_add, cU (by omega)])) ?_
  refine ab (bJ rfl rfl (c := ((p.2 + (wd a p.1.length + wd b p.1.length) : Nat) : Int)) (by rw [← Int.natCast_add, cU (by omega)])) ?_
  refine ak rfl<|ag<|ae hP<|ab (az (rfl : _ = AV.vec _))<|aj rfl<|ab (a8 hT rfl rfl rfl rfl (ee _)) ?_
  refine ab (bj hT rfl rfl rfl (es := [_]) rfl rfl rfl)<|RK.app ai (gH hT rfl rfl rfl rfl rfl rfl rfl (xs := [(p.2 + (wd a p.1.length + wd b p.1.length)) % 4294967296]) rfl (by simp only [List.length_cons, List.length_nil]; omega) (by decide)) ?_
  refine ab (bl (rfl : _ = AV.vec _))<|ag<|dx 31 1000 rfl rfl rfl ?_
  refine av hP<|aj rfl<|ab (c8 (j := 32) rfl rfl (by decide)) ?_
  refine ak rfl<|ag<|av hP<|aj rfl<|bH rfl rfl ?_
  refine ak rfl<|ag ?_
  have hr := vM hv
  have hq : (p.2 + (wd a p.1.length + wd b p.1.length)) / 4294967296 ≤ 1 := by omega
  refine ⟨(p.1 ++ [(p.2 + (wd a p.1.length + wd b p.1.length)) % 4294967296], (p.2 + (wd a p.1.length + wd b p.1.length)) / 4294967296), ⟨ho.snoc (Nat.mod_lt _ (by decide)), ?_, hq, by simpa using hr⟩, ?_, aG ⟨.refl _, .refl _, .refl _, .refl _, aO (by simp), trivial⟩ ⟨rfl, trivial⟩⟩
  ·simp only [List.length_append, List.length_cons, List.length_nil]; omega
  simp only [List.length_append, List.length_cons, List.length_nil]; omega
 have hb1_ := dF0 hb1
 have hge : (p.1.length : Int) = mx := by
  have : ¬ (p.1.length : Int) < mx := by rw [hmx]; exact hb1_
  omega
 refine aZ<|ae hP<|ab (az (rfl : _ = AV.vec _))<|aj rfl<|ab (a8 hT rfl rfl rfl rfl (ee _)) ?_
 refine ab (bj hT rfl rfl rfl (es := [_]) rfl rfl rfl)<|RK.app ai (gH hT rfl rfl rfl rfl rfl rfl rfl (xs := [p.2 % 4294967296]) rfl (by simp only [List.length_cons, List.length_nil]; omega) (by decide)) ?_
 refine ab (bl (rfl : _ = AV.vec _))<|ag<|cH (t := 4) rfl rfl ?_
 refine am<|E1 rfl rfl ?_
 have e : mx.toNat = p.1.length := by omega
 exact aH (by rw [zX ho (by omega) (by omega) (by omega) hv, ← hmx, e])
theorem uy (a b : List Nat) (ha : okW a) (hb : okW b) (hla : a.length ≤ 1099511627776) (hlb : b.length ≤ a.length) (hab : wv b ≤ wv a) :
  aF Tryz.prog 156 [.p (.c (W a)), .p (.c (W b))] (.p (.c (W (dgs a.length (wv a - wv b))))) := by
 refine aL Tryz.func156 rfl rfl rfl rfl ?_
 refine ae hP<|ak rfl<|ag<|ae hP<|an ai (ie hT rfl rfl rfl rfl (ws := []) rfl rfl rfl) ?_
 refine ab (bl (rfl : _ = AV.vec _))<|ag<|ae hP<|ak rfl<|ag<|dx 9 1000 rfl rfl rfl ?_
 refine ao<|ae hP<|ak rfl<|ag<|aA<|bq (ι := List Nat × Nat) (fun p => stL [(0, .p (.c (W a))), (1, .p (.c (W b))), (5, .vec 1000), (6, .p (.c (.v (.int .u64 ((p.2 : Nat) : Int))))), (7, Z ((p.1.length : Nat) : Int))] [(1000, WB 105 p.1)]) (fun p => okW p.1 ∧ p.1.length ≤ a.length ∧ p.2 ≤ 1 ∧ wv p.1 + wv (b.take p.1.length) = wv (a.take p.1.length) + 4294967296 ^ p.1.length * p.2) (fun p => a.length - p.1.length) ([], 0) ⟨okW.nil, by simp, by decide, by simp [wv]⟩ (aG ⟨.refl _, .refl _, .refl _, .refl _, .refl _, trivial⟩ ⟨rfl, trivial⟩) ?_
 rintro p ⟨ho, hl, hc, hv⟩
 have hwa := eF ha (p.1.length : Nat)
 have hwb := eF hb (p.1.length : Nat)
 refine ao<|ae hP<|aj rfl<|aj rfl<|ab (aU hT rfl rfl rfl rfl)<|ab (bi rfl rfl)<|ag ?_
 refine aw rfl (fun hb1 => ?_) (fun hb1 => ?_)
 ·have hb1_ := dT0 hb1
  refine aq<|ao<|aA<|ae hP<|aj rfl<|aj rfl<|ab (ah (dL _ _ (by assumption))) ?_
  refine ab (bJ rfl rfl (c := ((4294967296 + wd a p.1.length : Nat) : Int)) (by rw [IntWalk.u64_in _ (by omega)]; omega)) ?_
  refine aj rfl<|aj rfl<|ab (ah (dL _ _ (by assumption))) ?_
  refine ab (bC rfl rfl (c := ((4294967296 + wd a p.1.length - wd b p.1.length : Nat) : Int)) (by rw [IntWalk.u64_in _ (by omega)]; omega)) ?_
  refine aj rfl<|ab (bC rfl rfl (c := ((4294967296 + wd a p.1.length - wd b p.1.length - p.2 : Nat) : Int)) (by rw [IntWalk.u64_in _ (by omega)]; omega)) ?_
  refine ak rfl<|ag<|ae hP<|ab (az (rfl : _ = AV.vec _))<|aj rfl<|ab (a8 hT rfl rfl rfl rfl (ee _)) ?_
  refine ab (bj hT rfl rfl rfl (es := [_]) rfl rfl rfl)<|RK.app ai (gH hT rfl rfl rfl rfl rfl rfl rfl (xs := [(4294967296 + wd a p.1.length - wd b p.1.length - p.2) % 4294967296]) rfl (by simp only [List.length_cons, List.length_nil]; omega) (by decide)) ?_
  refine ab (bl (rfl : _ = AV.vec _))<|ag<|dx 30 1000 rfl rfl rfl ?_
  refine av hP<|aj rfl<|ab (c8 (j := 32) rfl rfl (by decide)) ?_
  refine ab (bC rfl rfl (c := ((1 - (4294967296 + wd a p.1.length - wd b p.1.length - p.2) / 4294967296 : Nat) : Int)) (by rw [IntWalk.u64_in _ (by omega)]; omega)) ?_
  refine ak rfl<|ag<|av hP<|aj rfl<|bH rfl rfl ?_
  refine ak rfl<|ag ?_
  have hr := mR ha hb hc hv
  have hq : 1 - (4294967296 + wd a p.1.length - wd b p.1.length - p.2) / 4294967296 ≤ 1 := by omega
  refine ⟨(p.1 ++ [(4294967296 + wd a p.1.length - wd b p.1.length - p.2) % 4294967296], 1 - (4294967296 + wd a p.1.length - wd b p.1.length - p.2) / 4294967296), ⟨ho.snoc (Nat.mod_lt _ (by decide)), ?_, hq, by simpa using hr⟩, ?_, aG ⟨.refl _, .refl _, .refl _, .refl _, aO (by simp), trivial⟩ ⟨rfl, trivial⟩⟩
  ·simp only [List.length_append, List.length_cons, List.length_nil]; omega
  simp only [List.length_append, List.length_cons, List.length_nil]; omega
 have hb1_ := dF0 hb1
 refine aZ<|ae hP<|ab (az (rfl : _ = AV.vec _))<|ab (bl (rfl : _ = AV.vec _))<|ag<|cH (t := 4) rfl rfl ?_
 refine am<|E1 rfl rfl ?_
 have e : p.1.length = a.length := by omega
 exact aH (by rw [xK ho e hlb hab hv])
theorem jS (x y : Int) (hx : L 45 x) (hy : L 45 y) :
  aF Tryz.prog 93 [I x, I y] (I (x + y)) := by
 refine aL Tryz.func93 rfl rfl rfl rfl ?_
 refine ae hP<|an ai (aK rfl rfl)<|an ai (aK rfl rfl)<|an ai (ay hT rfl rfl)<|ag<|ao<|ae hP<|aD hT rfl<|aY hT rfl rfl rfl rfl ?_
 refine aD hT rfl<|aY hT rfl rfl rfl rfl ?_
 refine ab (r6 hT rfl rfl rfl rfl)<|ag ?_
 refine aw rfl (fun hb1 => ?_) (fun hb1 => ?_)
 ·refine ae hP<|aD hT rfl<|aY hT rfl rfl rfl rfl ?_
  refine aD hT rfl<|aY hT rfl rfl rfl rfl ?_
  refine aD hT rfl<|aY hT rfl rfl rfl rfl ?_
  refine ab (ah (GG (wl x.natAbs) (wl y.natAbs) (bI _) (bI _) (sz hx) (sz hy))) ?_
  refine ab (ah (fD _ _ (dQ _ _))) ?_
  refine aE hT rfl<|ag<|am<|E2 hT rfl rfl rfl rfl rfl rfl rfl ?_
  exact Sub.I (by rw [zW]; exact yy hb1)
 refine aq<|ao<|ae hP<|aD hT rfl<|aY hT rfl rfl rfl rfl ?_
 refine aD hT rfl<|aY hT rfl rfl rfl rfl ?_
 refine ab (ah (nT x.natAbs y.natAbs)) ?_
 refine ab (dc rfl rfl)<|ag ?_
 refine aw rfl (fun hb2 => ?_) (fun hb2 => ?_)
 ·have hb2_ := dT0 hb2
  have hc : y.natAbs ≤ x.natAbs := by have := kg hb2_; omega
  refine ae hP<|aD hT rfl<|aY hT rfl rfl rfl rfl ?_
  refine aD hT rfl<|aY hT rfl rfl rfl rfl ?_
  refine aD hT rfl<|aY hT rfl rfl rfl rfl ?_
  refine ab (ah (uy (wl x.natAbs) (wl y.natAbs) (bI _) (bI _) (sz hx) (fk hc) (by rw [bE, bE]; exact hc))) ?_
  refine ab (ah (fD _ _ (dQ _ _))) ?_
  refine aE hT rfl<|ag<|am<|E2 hT rfl rfl rfl rfl rfl rfl rfl ?_
  exact Sub.I (by rw [pW]; exact E8 hb1 hc)
 have hb2_ := dF0 hb2
 have hc : x.natAbs < y.natAbs := by have := jd hb2_; omega
 refine aq<|ae hP<|aD hT rfl<|aY hT rfl rfl rfl rfl ?_
 refine aD hT rfl<|aY hT rfl rfl rfl rfl ?_
 refine aD hT rfl<|aY hT rfl rfl rfl rfl ?_
 refine ab (ah (uy (wl y.natAbs) (wl x.natAbs) (bI _) (bI _) (sz hy) (fk (by omega)) (by rw [bE, bE]; omega))) ?_
 refine ab (ah (fD _ _ (dQ _ _))) ?_
 refine aE hT rfl<|ag<|am<|E2 hT rfl rfl rfl rfl rfl rfl rfl ?_
 exact Sub.I (by rw [pW]; exact E7 hb1 hc)
theorem BS (x y : Int) (hx : L 45 x) (hy : L 45 y) :
  aF Tryz.prog 116 [I x, I y] (I (x - y)) := by
 have ix : LB x 45 := ⟨hx⟩
 have iy : LB y 45 := ⟨hy⟩
 refine aL Tryz.func116 rfl rfl rfl rfl ?_
 refine ae hP<|an ai (aK rfl rfl)<|an ai (aK rfl rfl)<|an ai (ay hT rfl rfl)<|ag<|ae hP<|au hT rfl<|au hT rfl<|ab (ah (Je _)) ?_
 refine ab (ah (jS _ _ lz lz)) ?_
 refine aE hT rfl<|ag<|am<|E2 hT rfl rfl rfl rfl rfl rfl rfl ?_
 exact Sub.I (by omega)
theorem fA (x y : Int) (hx : L 45 x) (hy : L 45 y) :
  aF Tryz.prog 84 [I x, I y] (I (x * y)) := by
 have ha := bI x.natAbs
 have hb := bI y.natAbs
 have hla := sz hx
 have hlb := sz hy
 refine aL Tryz.func84 rfl rfl rfl rfl ?_
 refine ae hP<|an ai (aK rfl rfl)<|an ai (aK rfl rfl)<|an ai (ay hT rfl rfl)<|ag<|ae hP<|aD hT rfl<|aY hT rfl rfl rfl rfl ?_
 refine ab (aU hT rfl rfl rfl rfl)<|aD hT rfl<|aY hT rfl rfl rfl rfl ?_
 refine ab (aU hT rfl rfl rfl rfl)<|bH rfl rfl ?_
 refine an ai (eh hT rfl rfl rfl rfl rfl rfl rfl rfl (by omega)) ?_
 refine ab (bl (rfl : _ = AV.vec _))<|ag<|ao<|ae hP<|ak rfl<|ag<|aA<|bq (ι := List Nat × Nat) (fun ⟨o, i⟩ => stL [(2, .loc 2 0), (3, .loc 3 0), (4, .loc 4 0), (5, .vec 16), (6, Z (i : Int))] [(2, ⟨false, 1, 29, [zn (x), zm (x)]⟩), (3, ⟨false, 1, 29, [zn (y), zm (y)]⟩), (4, ⟨false, 1, 29, [zn (0), zm (0)]⟩), (16, WB 105 o)]) (fun ⟨o, i⟩ => i ≤ (wl x.natAbs).length ∧ o.length = (wl x.natAbs).length + (wl y.natAbs).length ∧ okW o ∧ wv o = wv ((wl x.natAbs).take i) * wv (wl y.natAbs) ∧ ∀ j, i + (wl y.natAbs).length ≤ j → o.getD j 0 = 0) (fun ⟨_, i⟩ => (wl x.natAbs).length - i) (List.replicate (((wl x.natAbs).length : Int) + ((wl y.natAbs).length : Int)).toNat 0, 0) ⟨Nat.zero_le _, by simp; omega, okW.rep _, by rw [kl]; simp [wv], fun j _ => kW _ _⟩ (aG ⟨.refl _, .refl _, .refl _, .refl _, .refl _, trivial⟩ ⟨rfl, rfl, rfl, rfl, trivial⟩) ?_
 rintro ⟨o, i⟩ ⟨hi, hlo, ho, hv, hz⟩
 refine ao<|ae hP<|aj rfl<|aD hT rfl<|aY hT rfl rfl rfl rfl ?_
 refine ab (aU hT rfl rfl rfl rfl)<|ab (bi rfl rfl)<|ag ?_
 refine aw rfl (fun hb1 => ?_) (fun hb1 => ?_)
 ·have hb1_ := dT0 hb1
  have hlt0 : i < (wl x.natAbs).length := by omega
  refine aq<|ao<|aA<|ae hP<|ak rfl<|ag<|ao<|ae hP<|ak rfl<|ag<|aA ?_
  obtain ⟨o0, ho0⟩ : ∃ o0, o0 = o := ⟨_, rfl⟩
  have hv0 := hv
  rw [← ho0] at hv
  refine bq (ι := List Nat × Nat × Nat) (fun ⟨o, k, c⟩ => stL [(2, .loc 2 0), (3, .loc 3 0), (4, .loc 4 0), (5, .vec 16), (6, Z (i : Int)), (7, .p (.c (.v (.int .u64 (c : Nat))))), (8, Z (k : Int))] [(2, ⟨false, 1, 29, [zn (x), zm (x)]⟩), (3, ⟨false, 1, 29, [zn (y), zm (y)]⟩), (4, ⟨false, 1, 29, [zn (0), zm (0)]⟩), (16, WB 105 o)]) (fun ⟨o, k, c⟩ => k ≤ (wl y.natAbs).length ∧ o.length = (wl x.natAbs).length + (wl y.natAbs).length ∧ okW o ∧ c < 4294967296 ∧ wv o + 4294967296 ^ (i + k) * c = wv o0 + 4294967296 ^ i * ((wl x.natAbs).getD i 0 * wv ((wl y.natAbs).take k)) ∧ ∀ j, i + (wl y.natAbs).length ≤ j → o.getD j 0 = 0) (fun ⟨_, k, _⟩ => (wl y.natAbs).length - k) (o, 0, 0) ⟨Nat.zero_le _, hlo, ho, by omega, by rw [ho0]; simp [wv], hz⟩ (aG ⟨.refl _, .refl _, .refl _, .refl _, .refl _, .refl _, .refl _, trivial⟩ ⟨rfl, rfl, rfl, rfl, trivial⟩) ?_
  clear hlo ho hz hv0 ho0
  rintro ⟨o, k, c⟩ ⟨hk, hlo, ho, hc, hkv, hz⟩
  refine ao<|ae hP<|aj rfl<|aD hT rfl<|aY hT rfl rfl rfl rfl ?_
  refine ab (aU hT rfl rfl rfl rfl)<|ab (bi rfl rfl)<|ag ?_
  refine aw rfl (fun hb2 => ?_) (fun hb2 => ?_)
  ·have hb2_ := dT0 hb2
   have hlt : k < (wl y.natAbs).length := by omega
   have ha1 := ha.getD i
   have hb1v := hb.getD k
   have hp1 := Nat.mul_le_mul (Nat.le_sub_one_of_lt (ha.getD i)) (Nat.le_sub_one_of_lt (hb.getD k))
   have ho1 := ho.getD (i + k)
   refine aq<|ao<|aA<|ae hP<|aj rfl<|aD hT rfl<|aY hT rfl rfl rfl rfl ?_
   refine aj rfl<|cI ?_
   refine cC hT rfl rfl rfl ?_
   refine ab (a8 hT rfl rfl rfl rfl (cU (by omega))) ?_
   refine aD hT rfl<|aY hT rfl rfl rfl rfl ?_
   refine aj rfl<|cI ?_
   refine cC hT rfl rfl rfl ?_
   refine ab (a8 hT rfl rfl rfl rfl (cU (by omega))) ?_
   refine ab (bU rfl rfl (c := (((wl x.natAbs).getD i 0 * (wl y.natAbs).getD k 0 : Nat) : Int)) (by rw [← Int.natCast_mul, cU (by omega)])) ?_
   refine ab (az (rfl : _ = AV.vec _))<|aj rfl<|aj rfl<|ab (bJ rfl rfl (c := ((i + k : Nat) : Int)) (by rw [iW0 _ (by omega)]; omega)) ?_
   refine c7 ?_
   refine ab (dj hT rfl rfl rfl rfl (by first | omega | (simp; omega)) rfl) ?_
   refine ab (a8 hT rfl rfl rfl rfl (cU (by omega))) ?_
   refine ab (bJ rfl rfl (c := (((wl x.natAbs).getD i 0 * (wl y.natAbs).getD k 0 + o.getD (i + k) 0 : Nat) : Int)) (by rw [← Int.natCast_add, cU (by omega)])) ?_
   refine ab (bJ rfl rfl (c := (((wl x.natAbs).getD i 0 * (wl y.natAbs).getD k 0 + o.getD (i + k) 0 + c : Nat) : Int)) (by rw [← Int.natCast_add, Nat.add_comm, cU (by omega)])) ?_
   refine ak rfl<|ag<|ae hP<|ab (az (rfl : _ = AV.vec _))<|aj rfl<|aj rfl<|ab (bJ rfl rfl (c := ((i + k : Nat) : Int)) (by rw [iW0 _ (by omega)]; omega)) ?_
   refine aj rfl<|ab (a8 hT rfl rfl rfl rfl (ee _)) ?_
   refine c7 ?_
   refine de ai (ci hT rfl rfl rfl rfl rfl (by first | omega | (simp; omega)) rfl) ?_
   refine ag<|av hP<|aj rfl<|ab (c8 (j := 32) rfl rfl (by first | decide | omega)) ?_
   refine ak rfl<|ag<|av hP<|aj rfl<|bH rfl rfl ?_
   refine ak rfl<|ag ?_
   have hr := pU (b := (wl y.natAbs)) (x := (wl x.natAbs).getD i 0) (i := i) (k := k) (t := (wl x.natAbs).getD i 0 * (wl y.natAbs).getD k 0 + o.getD (i + k) 0 + c) (by omega) rfl hkv
   refine ⟨(o.set (i + k) (((wl x.natAbs).getD i 0 * (wl y.natAbs).getD k 0 + o.getD (i + k) 0 + c) % 4294967296), k + 1, ((wl x.natAbs).getD i 0 * (wl y.natAbs).getD k 0 + o.getD (i + k) 0 + c) / 4294967296), ⟨by omega, by simpa using hlo, ho.set (Nat.mod_lt _ (by omega)), (Nat.div_lt_iff_lt_mul (by omega)).2 (by omega), hr, fun j hj => ?_⟩, by show (wl y.natAbs).length - (k + 1) < (wl y.natAbs).length - k; omega, aG ⟨.refl _, .refl _, .refl _, .refl _, .refl _, .refl _, aO (by omega), trivial⟩ ⟨rfl, rfl, rfl, rfl, trivial⟩⟩
   rw [eX _ _ _ _ (by omega), if_neg (by omega)]
   exact hz j (by omega)
  have hb2_ := dF0 hb2
  have hke : k = (wl y.natAbs).length := by omega
  subst hke
  refine aZ<|av hP<|ab (az (rfl : _ = AV.vec _))<|aj rfl<|aD hT rfl<|aY hT rfl rfl rfl rfl ?_
  refine ab (aU hT rfl rfl rfl rfl)<|ab (bJ rfl rfl (c := ((i + (wl y.natAbs).length : Nat) : Int)) (by rw [iW0 _ (by omega)]; omega)) ?_
  refine aj rfl<|ab (a8 hT rfl rfl rfl rfl (j0 (by omega))) ?_
  refine c7 ?_
  refine de ai (ci hT rfl rfl rfl rfl rfl (by first | omega | (simp; omega)) rfl) ?_
  refine ag<|av hP<|aj rfl<|bH rfl rfl ?_
  refine ak rfl<|ag ?_
  have hov := pV (o := o0) (a := (wl x.natAbs)) (by omega) (hz _ (Nat.le_refl _)) rfl hv hkv
  refine ⟨(o.set (i + (wl y.natAbs).length) c, i + 1), ⟨by omega, by simpa using hlo, ho.set (by omega), hov, fun j hj => ?_⟩, by show (wl x.natAbs).length - (i + 1) < (wl x.natAbs).length - i; omega, aG ⟨.refl _, .refl _, .refl _, .refl _, aO (by omega), trivial⟩ ⟨rfl, rfl, rfl, rfl, trivial⟩⟩
  rw [eX _ _ _ _ (by omega), if_neg (by omega)]
  exact hz j (by omega)
 have hb1_ := dF0 hb1
 have hie : i = (wl x.natAbs).length := by omega
 refine aZ<|cH (t := 5) rfl rfl ?_
 refine ae hP<|aD hT rfl<|aY hT rfl rfl rfl rfl ?_
 refine aD hT rfl<|aY hT rfl rfl rfl rfl ?_
 refine ab (iQ hT rfl rfl rfl rfl)<|aj rfl<|ab (ah (fD _ _ ho)) ?_
 refine aE hT rfl<|ag<|am<|E2 hT rfl rfl rfl rfl rfl rfl rfl ?_
 exact Sub.I (by rw [hv, hie, List.take_length, bE, bE]; exact D8 x y)
end
section
open Go Go.AM
theorem xp (x : Int) (hx : L 45 x) :
  aF Tryz.prog 224 [I x] (Z (a6 x.natAbs)) := by
 have hlen := sz hx
 refine aL Tryz.func224 rfl rfl rfl rfl ?_
 refine ae hP<|an ai (aK rfl rfl)<|ak rfl<|ag<|ao<|ae hP<|aD hT rfl<|aY hT rfl rfl rfl rfl ?_
 refine ab (aU hT rfl rfl rfl rfl)<|ab (bp rfl rfl)<|ag ?_
 refine aw rfl (fun hb1 => ?_) (fun hb1 => ?_)
 ·have hb1_ := bT hb1
  refine ae hP<|ak rfl<|ag<|am<|E1 rfl rfl ?_
  have h0 := wl_len_zero.1 hb1_
  exact aO (by rw [h0]; rfl)
 have hb1_ := bF hb1
 have h1 : (wl x.natAbs).length ≠ 0 := fun e => hb1_ (by rw [e]; rfl)
 have hbt := tn (m := x.natAbs) (n := (wl x.natAbs).length - 1) (by omega)
 have htl := (bI x.natAbs).getD ((wl x.natAbs).length - 1)
 have hb32 := fO (k := 32) htl
 refine aq<|ae hP<|aD hT rfl<|aY hT rfl rfl rfl rfl ?_
 refine ab (aU hT rfl rfl rfl rfl)<|ab (bC rfl rfl (c := (((wl x.natAbs).length - 1 : Nat) : Int)) (by rw [iW0 _ (by omega)]; omega)) ?_
 refine ab (bU rfl rfl (c := ((32 * ((wl x.natAbs).length - 1) : Nat) : Int)) (by rw [iW0 _ (by omega)]; omega)) ?_
 refine ak rfl<|ag<|ao<|ae hP<|aD hT rfl<|aY hT rfl rfl rfl rfl ?_
 refine aD hT rfl<|aY hT rfl rfl rfl rfl ?_
 refine ab (aU hT rfl rfl rfl rfl)<|ab (bC rfl rfl (c := (((wl x.natAbs).length - 1 : Nat) : Int)) (by rw [iW0 _ (by omega)]; omega)) ?_
 refine cI ?_
 refine cC hT rfl rfl rfl ?_
 refine ak rfl<|ag<|aA<|bq (ι := Nat × Nat) (fun p => stL [(3, Z ((p.1 : Nat) : Int)), (4, .p (.c (w32 p.2)))] []) (fun p => p.1 + a6 p.2 = a6 x.natAbs ∧ p.2 < 4294967296 ∧ p.1 ≤ a6 x.natAbs) (fun p => p.2) (32 * ((wl x.natAbs).length - 1), (wl x.natAbs).getD ((wl x.natAbs).length - 1) 0) ⟨hbt.symm, htl, show 32 * ((wl x.natAbs).length - 1) ≤ a6 x.natAbs by omega⟩ (aG ⟨.refl _, .refl _, trivial⟩ trivial) ?_
 rintro p ⟨hp1, hp2, hp3⟩
 refine ao<|ae hP<|aj rfl<|ab (bV rfl rfl)<|ag ?_
 refine aw rfl (fun hb2 => ?_) (fun hb2 => ?_)
 ·have hb2_ := dT0 hb2
  refine aq<|ao<|aA<|av hP<|aj rfl<|ab (bJ rfl rfl (c := ((p.1 + 1 : Nat) : Int)) (by rw [iW0 _ (by omega)]; omega)) ?_
  refine ak rfl<|ag<|av hP<|aj rfl<|ab (dl rfl rfl (by decide) (c := ((p.2 / 2 ^ 1 : Nat) : Int)) (by rw [Int.tdiv_eq_ediv_of_nonneg (by omega), IntWalk.u32_in _ (by omega)]; omega)) ?_
  refine ak rfl<|ag ?_
  have hd := yo (n := p.2) (by omega)
  refine ⟨(p.1 + 1, p.2 / 2 ^ 1), ⟨show p.1 + 1 + a6 (p.2 / 2 ^ 1) = a6 x.natAbs by omega, show p.2 / 2 ^ 1 < 4294967296 by omega, show p.1 + 1 ≤ a6 x.natAbs by omega⟩, by show p.2 / 2 ^ 1 < p.2; omega, aG ⟨.refl _, .refl _, trivial⟩ trivial⟩
 have hb2_ := dF0 hb2
 refine aZ<|ae hP<|aj rfl<|ak rfl<|ag<|am<|E1 rfl rfl ?_
 have h0 : p.2 = 0 := by omega
 rw [h0] at hp1
 exact aO (by rw [← hp1]; rfl)
theorem uz (l : List Nat) (n : Nat) (hl : okW l) (hll : l.length ≤ 1099511627776) (hn : n ≤ 35184372088832) :
  CallV Tryz.prog 223 [.p (.c (W l)), Z (n : Int)] (WB 105 (dgs (n / 32 + l.length + 1) (wv l * 2 ^ n))) := by
 obtain ⟨q, hq⟩ : ∃ q, q = n / 32 := ⟨_, rfl⟩
 obtain ⟨k, hk⟩ : ∃ k, k = n % 32 := ⟨_, rfl⟩
 have hks : n = 32 * q + k := by omega
 have hk32 : k < 32 := by omega
 refine nv Tryz.func223 (by kernel_rfl) rfl rfl (bL0 rfl) ?_
 refine ae hP<|ak rfl<|ag<|ae hP<|aj rfl<|ab (dl rfl rfl (by decide) (c := ((q : Nat) : Int)) (by rw [Int.tdiv_eq_ediv_of_nonneg (by omega), iW0 _ (by omega)]; omega)) ?_
 refine an ai (eh hT rfl rfl rfl rfl rfl rfl rfl rfl (by omega)) ?_
 refine ab (bl (rfl : _ = AV.vec _))<|ag<|ae hP<|aj rfl<|ab (b5 rfl rfl (by decide) (c := ((k : Nat) : Int)) (by rw [Int.tmod_eq_emod_of_nonneg (by omega)]; omega)) ?_
 refine ab (a8 hT rfl rfl rfl rfl (cU (by omega))) ?_
 refine ak rfl<|ag<|dx 10 1000 rfl rfl rfl ?_
 refine ao<|ae hP<|ak rfl<|ag<|aA<|bq (ι := List Nat × Nat) (fun ⟨o, i⟩ => stL [(0, .p (.c (W l))), (5, .vec 1000), (6, .p (.c (.v (.int .u64 ((k : Nat) : Int))))), (7, Z (i : Int))] [(1000, WB 105 o)]) (fun ⟨o, i⟩ => i ≤ l.length + 1 ∧ okW o ∧ o.length = q + i ∧ wv o + 4294967296 ^ o.length * (wd l ((i : Int) - 1) * 2 ^ k / 2 ^ 32) = wv (l.take i) * 2 ^ (32 * q + k)) (fun ⟨_, i⟩ => l.length + 1 - i) (List.replicate ((q : Nat) : Int).toNat 0, 0) ⟨Nat.zero_le _, okW.rep _, by simp, by rw [kl, nE (.inl (by decide))]; simp [wv]⟩ (aG ⟨.refl _, .refl _, .refl _, .refl _, trivial⟩ ⟨rfl, trivial⟩) ?_
 rintro ⟨o, i⟩ ⟨hi, hok, hol, hv⟩
 have hwi := eF hl (i : Int)
 have hwj := eF hl ((i : Int) - 1)
 refine ao<|ae hP<|aj rfl<|aj rfl<|ab (aU hT rfl rfl rfl rfl)<|ab (fU rfl rfl)<|ag ?_
 refine aw rfl (fun hb1 => ?_) (fun hb1 => ?_)
 ·have hb1_ := dT0 hb1
  have hlt : i ≤ l.length := by omega
  refine aq<|ao<|aA<|av hP<|ab (az (rfl : _ = AV.vec _))<|aj rfl<|aj rfl<|ab (ah (dL _ _ hl)) ?_
  refine aj rfl<|ab (ku rfl rfl (by omega) (c := ((wd l i * 2 ^ k : Nat) : Int)) (vv hwi hk32)) ?_
  refine aj rfl<|aj rfl<|ab (bC rfl rfl (by first | exact iW0 _ (by omega) | rfl)) ?_
  refine ab (ah (dL _ _ hl)) ?_
  refine aj rfl<|ab (ku rfl rfl (by omega) (c := ((wd l ((i : Int) - 1) * 2 ^ k : Nat) : Int)) (vv hwj hk32)) ?_
  refine ab (c8 (j := 32) rfl rfl (by decide)) ?_
  refine ab (lL rfl rfl rfl (fG (rf hwi hk32)) (fG (Nat.lt_of_le_of_lt (Nat.div_le_self _ _) (rf hwj hk32)))) ?_
  refine ab (a8 hT rfl rfl rfl rfl (ee _)) ?_
  refine ab (bj hT rfl rfl rfl (es := [_]) rfl rfl rfl)<|RK.app ai (gH hT rfl rfl rfl rfl rfl rfl rfl (xs := [(wd l i * 2 ^ k ||| wd l ((i : Int) - 1) * 2 ^ k / 2 ^ 32) % 4294967296]) rfl (by simp only [List.length_cons, List.length_nil]; omega) (by decide)) ?_
  refine ab (bl (rfl : _ = AV.vec _))<|ag<|dx 36 1000 rfl rfl rfl ?_
  refine av hP<|aj rfl<|bH rfl rfl ?_
  refine ak rfl<|ag ?_
  have hr := wi hl hk32 hol hv
  refine ⟨(o ++ [(wd l i * 2 ^ k ||| wd l ((i : Int) - 1) * 2 ^ k / 2 ^ 32) % 4294967296], i + 1), ⟨by omega, hok.snoc (Nat.mod_lt _ (by decide)), by simp; omega, ?_⟩, by show l.length + 1 - (i + 1) < l.length + 1 - i; omega, aG ⟨.refl _, .refl _, .refl _, .refl _, trivial⟩ ⟨rfl, trivial⟩⟩
  rw [List.length_append, List.length_cons, List.length_nil, show (((i + 1 : Nat) : Int) - 1) = (i : Int) by omega]
  exact hr
 have hb1_ := dF0 hb1
 have hge : i = l.length + 1 := by omega
 refine aZ<|ae hP<|ab (az (rfl : _ = AV.vec _))<|ab (bl (rfl : _ = AV.vec _))<|ag<|am ?_
 refine ⟨.inr rfl, _, _, rfl, rfl, ?_⟩
 rw [← hq]
 exact congrArg (fun z => some (WB 105 z)) (by rw [Am hok hol hge hv, hks])
theorem GH (l : List Nat) (n : Nat) (hl : okW l) (hll : l.length ≤ 1099511627776) (hn : n ≤ 35184372088832) : aF Tryz.prog 223 [.p (.c (W l)), Z (n : Int)] (.p (.c (W (dgs (n / 32 + l.length + 1) (wv l * 2 ^ n))))) := (uz l n hl hll hn).call0W
theorem xn (a b : List Nat) (ha : okW a) (hb : okW b) (hla : a.length ≤ 4398046511104) (hlb : b.length ≤ 4398046511104) :
  aF Tryz.prog 239 [.p (.c (W a)), .p (.c (W b))] (B (decide (wv b ≤ wv a))) := by
 obtain ⟨mx, hmx⟩ : ∃ mx : Int, mx = (if (b.length : Int) > a.length then (b.length : Int) else a.length) := ⟨_, rfl⟩
 have hm1 : (a.length : Int) ≤ mx ∧ (b.length : Int) ≤ mx ∧ mx ≤ 4398046511104 := by rw [hmx]; split <;> omega
 refine aL Tryz.func239 rfl rfl rfl rfl ?_
 refine ae hP<|ak rfl<|ag<|ao<|ae hP<|aj rfl<|ab (aU hT rfl rfl rfl rfl)<|aj rfl<|ab (aU hT rfl rfl rfl rfl)<|ab (oa rfl rfl)<|ab (bC rfl rfl (c := (mx.toNat : Int) - 1) (by rw [← hmx, iW0 _ (by omega)]; omega)) ?_
 refine ak rfl<|ag<|aA<|bq (ι := Nat) (fun k => stL [(0, .p (.c (W a))), (1, .p (.c (W b))), (5, Z ((k : Int) - 1))] []) (fun k => k ≤ mx.toNat ∧ wv a / 4294967296 ^ k = wv b / 4294967296 ^ k) (fun k => k) mx.toNat ⟨Nat.le_refl _, by rw [mM ha (by omega), mM hb (by omega)]⟩ (aG ⟨.refl _, .refl _, .refl _, trivial⟩ trivial) ?_
 rintro k ⟨hk, he⟩
 refine ao<|ae hP<|aj rfl<|ab (dc rfl rfl)<|ag ?_
 refine aw rfl (fun hb1 => ?_) (fun hb1 => ?_)
 ·have hb1_ := dT0 hb1
  refine aq<|ao<|aA<|ae hP<|aj rfl<|aj rfl<|ab (ah (dL _ _ (by assumption))) ?_
  refine aj rfl<|aj rfl<|ab (ah (dL _ _ (by assumption))) ?_
  refine ab (bw rfl rfl)<|ag ?_
  refine aw rfl (fun hb2 => ?_) (fun hb2 => ?_)
  ·have hb2_ := cw hb2
   refine ae hP<|aj rfl<|aj rfl<|ab (ah (dL _ _ (by assumption))) ?_
   refine aj rfl<|aj rfl<|ab (ah (dL _ _ (by assumption))) ?_
   refine ab (bV rfl rfl)<|ak rfl<|ag<|am<|E1 rfl rfl ?_
   exact aW (xi ha hb hb1_ he hb2_)
  have hb2_ := b9 hb2
  refine aq<|av hP<|aj rfl<|ab (bC rfl rfl (by first | exact iW0 _ (by omega) | rfl)) ?_
  refine ak rfl<|ag ?_
  exact ⟨k - 1, ⟨by omega, vE ha hb hb1_ he hb2_⟩, by omega, aG ⟨.refl _, .refl _, aO (by omega), trivial⟩ trivial⟩
 have hb1_ := dF0 hb1
 refine aZ<|ae hP<|ak rfl<|ag<|am<|E1 rfl rfl ?_
 have h0 : k = 0 := by omega
 subst h0
 exact aW (decide_eq_true (by simpa using Nat.le_of_eq he.symm)).symm
theorem DE (l : List Nat) (hl : okW l) (hll : l.length ≤ 4398046511104) :
  CallM Tryz.prog 241 [.vec 0] (upd O 0 (some (WB 105 l))) (.t []) (upd O 0 (some (WB 105 (dgs l.length (wv l / 2))))) := by
 refine lg (np := 1) Tryz.func241 (by kernel_rfl) rfl rfl (bL0 rfl) oB mZ rfl ?_
 refine ae hP<|ak rfl<|ag<|aA<|bq (ι := Nat) (fun i => stL [(0, .vec 0), (2, Z (i : Int))] [(0, WB 105 (hlf l i))]) (fun i => i ≤ l.length) (fun i => l.length - i) 0 (Nat.zero_le _) (aG ⟨.refl _, .refl _, trivial⟩ ⟨congrArg (fun z => some (WB 105 z)) (Av l).symm, trivial⟩) ?_
 intro i hi
 have hlen := Ey l hi
 have hok := HB hl i
 have hwi := eF hok (i : Int)
 have hwj := eF hok ((i : Int) + 1)
 refine ao<|ae hP<|aj rfl<|ab (az (rfl : _ = AV.vec _))<|ab (eC hT rfl rfl rfl rfl)<|ab (bi rfl rfl)<|ag ?_
 refine aw rfl (fun hb1 => ?_) (fun hb1 => ?_)
 ·have hb1_ := dT0 hb1
  have hlt : i < l.length := by omega
  refine aq<|ao<|aA<|av hP<|ab (az (rfl : _ = AV.vec _))<|aj rfl<|ab (az (rfl : _ = AV.vec _))<|aj rfl<|ab (Eff.borrow (.vecW rfl (.same .nil)) (dL (hlf l i) _ hok)) ?_
  refine ab (c8 (j := 1) rfl rfl (by decide)) ?_
  refine ab (az (rfl : _ = AV.vec _))<|aj rfl<|bH rfl rfl ?_
  refine ab (Eff.borrow (.vecW rfl (.same .nil)) (dL (hlf l i) _ hok)) ?_
  refine ab (hZ (j := 31) rfl rfl (by decide) rfl) ?_
  refine ab (lL rfl rfl rfl (fG (by omega)) (fG (Nat.mod_lt _ (by decide)))) ?_
  refine ab (a8 hT rfl rfl rfl rfl (ee _)) ?_
  refine c7 ?_
  refine de ai (ci hT rfl rfl rfl rfl rfl (by first | omega | (simp; omega)) (show (hlf l i).set i _ = hlf l (i + 1) by rw [xW (Int.le_refl _) (by omega), xW (by omega) (by omega), xX hl]; exact Ex hlt)) ?_
  refine ag<|av hP<|aj rfl<|bH rfl rfl ?_
  refine ak rfl<|ag ?_
  exact ⟨i + 1, by show i + 1 ≤ l.length; omega, by show l.length - (i + 1) < l.length - i; omega, aG ⟨.refl _, aO (by omega), trivial⟩ ⟨rfl, trivial⟩⟩
 have hb1_ := dF0 hb1
 have hie : i = l.length := by omega
 refine aZ ?_
 refine lX rfl (.inl rfl)  ?_ (nj ?_)
 exact .refl _
 exact congrArg (fun z => some (WB 105 z)) (by rw [hie, EA])
theorem Dx (a b : List Nat) (ha : okW a) (hb : okW b) (hla : a.length ≤ 4398046511104) (hab : wv b ≤ wv a) :
  CallM Tryz.prog 240 [.vec 0, .vec 1] (upd (upd O 0 (some (WB 105 a))) 1 (some (WB 105 b))) (.t []) (upd (upd O 0 (some (WB 105 (dgs a.length (wv a - wv b))))) 1 (some (WB 105 b))) := by
 refine lg (np := 2) Tryz.func240 (by kernel_rfl) rfl rfl (bL0 rfl) Cq yP rfl ?_
 refine ae hP<|ak rfl<|ag<|ae hP<|ak rfl<|ag<|aA<|bq (ι := List Nat × Nat) (fun p => stL [(0, .vec 0), (1, .vec 1), (4, .p (.c (.v (.int .u64 ((p.2 : Nat) : Int))))), (5, Z ((p.1.length : Nat) : Int))] [(0, WB 105 (p.1 ++ a.drop p.1.length)), (1, WB 105 b)]) (fun p => p.1.length ≤ a.length ∧ okW p.1 ∧ p.2 ≤ 1 ∧ wv p.1 + wv (b.take p.1.length) = wv (a.take p.1.length) + 4294967296 ^ p.1.length * p.2) (fun p => a.length - p.1.length) ([], 0) ⟨Nat.zero_le _, okW.nil, by decide, by simp [wv]⟩ (aG ⟨.refl _, .refl _, .refl _, .refl _, trivial⟩ ⟨rfl, rfl, trivial⟩) ?_
 rintro p ⟨hll, hol, hc, hv⟩
 have hmid := oX hll
 have hwb := eF hb (p.1.length : Nat)
 refine ao<|ae hP<|aj rfl<|ab (az (rfl : _ = AV.vec _))<|ab (eC hT rfl rfl rfl rfl)<|ab (bi rfl rfl)<|ag ?_
 refine aw rfl (fun hb1 => ?_) (fun hb1 => ?_)
 ·have hb1_ := dT0 hb1
  have hlt : p.1.length < a.length := by omega
  have hal := ha.getD p.1.length
  have htx := (wZ ha hb hc hlt).1
  refine aq<|ao<|aA<|ae hP<|ab (az (rfl : _ = AV.vec _))<|aj rfl<|c7 ?_
  refine ab (dj hT rfl rfl rfl rfl (by first | omega | (simp; omega)) (oY hlt)) ?_
  refine ab (a8 hT rfl rfl rfl rfl (cU (by omega))) ?_
  refine ab (bJ rfl rfl (c := ((4294967296 + a.getD p.1.length 0 : Nat) : Int)) (by rw [IntWalk.u64_in _ (by omega)]; omega)) ?_
  refine ab (az (rfl : _ = AV.vec _))<|aj rfl<|ab (Eff.borrow (.vecW rfl (.same .nil)) (dL b _ hb)) ?_
  refine ab (bC rfl rfl (c := ((4294967296 + a.getD p.1.length 0 - wd b (p.1.length : Nat) : Nat) : Int)) (by rw [IntWalk.u64_in _ (by omega)]; omega)) ?_
  refine aj rfl<|ab (bC rfl rfl (c := ((4294967296 + a.getD p.1.length 0 - wd b (p.1.length : Nat) - p.2 : Nat) : Int)) (by rw [IntWalk.u64_in _ (by omega)]; omega)) ?_
  refine ak rfl<|ag<|ae hP<|ab (az (rfl : _ = AV.vec _))<|aj rfl<|aj rfl<|ab (a8 hT rfl rfl rfl rfl (ee _)) ?_
  refine c7 ?_
  refine de ai (ci hT rfl rfl rfl rfl rfl (by first | omega | (simp; omega)) (oW hlt)) ?_
  refine ag<|av hP<|aj rfl<|ab (c8 (j := 32) rfl rfl (by decide)) ?_
  refine ab (bC rfl rfl (c := ((1 - (4294967296 + a.getD p.1.length 0 - wd b (p.1.length : Nat) - p.2) / 4294967296 : Nat) : Int)) (by rw [IntWalk.u64_in _ (by omega)]; omega)) ?_
  refine ak rfl<|ag<|av hP<|aj rfl<|bH rfl rfl ?_
  refine ak rfl<|ag ?_
  have hx := (wZ ha hb hc hlt).2
  have hr := mR ha hb hc hv
  rw [← hx] at hr
  refine ⟨(p.1 ++ [(4294967296 + a.getD p.1.length 0 - wd b (p.1.length : Nat) - p.2) % 4294967296], 1 - (4294967296 + a.getD p.1.length 0 - wd b (p.1.length : Nat) - p.2) / 4294967296), ⟨?_, hol.snoc (Nat.mod_lt _ (by decide)), Nat.sub_le _ _, by simpa using hr⟩, ?_, aG ⟨.refl _, .refl _, .refl _, aO (by simp), trivial⟩ ⟨rfl, rfl, trivial⟩⟩
  ·simp only [List.length_append, List.length_cons, List.length_nil]; omega
  simp only [List.length_append, List.length_cons, List.length_nil]; omega
 have hb1_ := dF0 hb1
 have hge : p.1.length = a.length := by omega
 refine aZ ?_
 refine lX rfl (.inl rfl)  ?_ (z6 ?_ rfl)
 exact .refl _
 exact congrArg (fun z => some (WB 105 z)) (zw ha hb hol hge hab hv)
theorem xo (m : Nat) (l : List Nat) (hl : okW l) (hll : l.length ≤ 4398046511104) : CallM Tryz.prog 241 [.vec m] (upd O m (some (WB 105 l))) (.t []) (upd O m (some (WB 105 (dgs l.length (wv l / 2))))) := CallM.ren1 m (DE l hl hll) rfl rfl
theorem GE (m k : Nat) (hmk : Nat.beq m k = false) (a b : List Nat) (ha : okW a) (hb : okW b) (hla : a.length ≤ 4398046511104) (hab : wv b ≤ wv a) : CallM Tryz.prog 240 [.vec m, .vec k] (upd (upd O m (some (WB 105 a))) k (some (WB 105 b))) (.t []) (upd (upd O m (some (WB 105 (dgs a.length (wv a - wv b))))) k (some (WB 105 b))) := CallM.ren2 m k hmk (Dx a b ha hb hla hab) rfl rfl
end
section
open Go Go.AM
theorem uA (a : Nat) (h : (wl a).length ≤ 1099511627776) : aF Tryz.prog 224 [.p (.a [zn 0, nt a])] (Z (a6 a)) := by
 have h : aF Tryz.prog 224 [.p (.a [zn (a : Int), nt a])] (Z (a6 a)) := xp (a : Int) (Bb h)
 rw [Fe] at h
 exact h
theorem zM (a b : Nat) (hla : (wl a).length ≤ 1099511627776) (hlb : (wl b).length ≤ 1099511627776) (hb : 0 < b) :
  aF Tryz.prog 210 [.p (.c (nt a)), .p (.c (nt b))] (.p (.a [W (qL a b), W (rL a b)])) := by
 have hba := tq hla
 have hbb := tq hlb
 refine aL Tryz.func210 rfl rfl rfl rfl ?_
 refine ae hP<|an ai (ay hT rfl rfl)<|ag<|cz (ι := Unit) (fun _ => stL [(0, .p (.c (nt a))), (1, .p (.c (nt b))), (4, .loc 4 0)] [(4, ⟨false, 1, 236, [.sl 0 [], .sl 0 []]⟩)]) (fun _ => ¬ ((wl a).length ≤ 2 ∧ (wl b).length ≤ 2)) ?_ ?_
 ·refine ae hP<|aj rfl<|ab (aU hT rfl rfl rfl rfl)<|ab (fU rfl rfl)<|aj rfl ?_
  refine bd (t := 15) rfl (fun hg1 => ?_) (fun hg1 => ?_)
  ·have hg1_ := dT0 hg1
   have hl1 : (wl a).length ≤ 2 := by have := dT0 hg1; omega
   refine aB hg1 (az (rfl : _ = AV.p (.c _))) ?_
   refine aB hg1 (aU hT rfl rfl rfl rfl) ?_
   refine aB hg1 (fU rfl rfl) ?_
   refine ab (aN rfl hg1 (rfl : _ = AV.p (.c _)))<|ag ?_
   refine aw rfl (fun hb2 => ?_) (fun hb2 => ?_)
   ·have hb2_ := dT0 hb2
    have hl2 : (wl b).length ≤ 2 := by have := dT0 hb2; omega
    have ha64 := kw hl1
    have hb64 := kw hl2
    have hdv := Nat.div_le_self a b
    have hmd := Nat.mod_le a b
    refine ae hP<|aj rfl<|ab (ah (dL _ _ (bI _))) ?_
    refine aj rfl<|ab (ah (dL _ _ (bI _))) ?_
    refine ab (hZ (j := 32) rfl rfl (by decide) rfl) ?_
    refine ab (jW rfl rfl (Hl hl1)) ?_
    refine ak rfl<|ag<|ae hP<|aj rfl<|ab (ah (dL _ _ (bI _))) ?_
    refine aj rfl<|ab (ah (dL _ _ (bI _))) ?_
    refine ab (hZ (j := 32) rfl rfl (by decide) rfl) ?_
    refine ab (jW rfl rfl (Hl hl2)) ?_
    refine ak rfl<|ag<|ae hP<|aj rfl<|aj rfl<|ab (dl rfl rfl (by omega) (c := ((a / b : Nat) : Int)) (by rw [Int.tdiv_eq_ediv_of_nonneg (by omega), ← Int.natCast_ediv, cU (by omega)])) ?_
    refine ab (a8 hT rfl rfl rfl rfl (ee _)) ?_
    refine aj rfl<|aj rfl<|ab (dl rfl rfl (by omega) (c := ((a / b : Nat) : Int)) (by rw [Int.tdiv_eq_ediv_of_nonneg (by omega), ← Int.natCast_ediv, cU (by omega)])) ?_
    refine ab (c8 (j := 32) rfl rfl (by decide)) ?_
    refine ab (a8 hT rfl rfl rfl rfl (j0 (by omega))) ?_
    refine ab (bj hT rfl rfl rfl (es := [_, _]) rfl rfl rfl)<|aj rfl<|aj rfl<|ab (b5 rfl rfl (by omega) (c := ((a % b : Nat) : Int)) (by rw [Int.tmod_eq_emod_of_nonneg (by omega), ← Int.natCast_emod])) ?_
    refine ab (a8 hT rfl rfl rfl rfl (ee _)) ?_
    refine aj rfl<|aj rfl<|ab (b5 rfl rfl (by omega) (c := ((a % b : Nat) : Int)) (by rw [Int.tmod_eq_emod_of_nonneg (by omega), ← Int.natCast_emod])) ?_
    refine ab (c8 (j := 32) rfl rfl (by decide)) ?_
    refine ab (a8 hT rfl rfl rfl rfl (j0 (by omega))) ?_
    refine ab (bj hT rfl rfl rfl (es := [_, _]) rfl rfl rfl)<|ab (aV hT rfl rfl rfl (es := [_, _]) rfl)<|aE hT rfl<|ag<|am<|E2 hT rfl rfl rfl rfl rfl rfl rfl ?_
    exact aH (by unfold qL rL; rw [if_pos ⟨hl1, hl2⟩, if_pos ⟨hl1, hl2⟩]; rfl)
   have hb2_ := dF0 hb2
   have hl2 : ¬ (wl b).length ≤ 2 := by have := dF0 hb2; omega
   have hsm : ¬ ((wl a).length ≤ 2 ∧ (wl b).length ≤ 2) := fun x => hl2 x.2
   refine aq ?_
   exact ⟨(), hsm, aG ⟨.refl _, .refl _, .refl _, trivial⟩ ⟨rfl, trivial⟩⟩
  have hg1_ := dF0 hg1
  have hl1 : ¬ (wl a).length ≤ 2 := by have := dF0 hg1; omega
  have hsm : ¬ ((wl a).length ≤ 2 ∧ (wl b).length ≤ 2) := fun x => hl1 x.1
  iterate 3 refine a7 hg1 ?_
  refine ab (aP rfl hg1 (rfl : _ = AV.p (.c _)))<|ag<|aT rfl rfl<|aq ?_
  exact ⟨(), hsm, aG ⟨.refl _, .refl _, .refl _, trivial⟩ ⟨rfl, trivial⟩⟩
 rintro _ hsm
 refine ae hP<|an ai (ie hT rfl rfl rfl rfl (ws := []) rfl rfl rfl) ?_
 refine aj rfl<|RK.app ai (gH hT rfl rfl rfl rfl rfl rfl rfl (xs := wl a) rfl (by simp only [List.length_nil]; omega) (by decide)) ?_
 refine ab (bl (rfl : _ = AV.vec _))<|ag<|ae hP<|aj rfl<|ab (aV hT rfl rfl rfl (es := [_, _]) rfl)<|ab (ah (uA a hla)) ?_
 refine aj rfl<|ab (aV hT rfl rfl rfl (es := [_, _]) rfl)<|ab (ah (uA b hlb)) ?_
 refine ab (bC rfl rfl (by first | exact iW0 _ (by omega) | rfl)) ?_
 refine ak rfl<|ag<|ao<|ae hP<|aj rfl<|ab (bi rfl rfl)<|ag ?_
 refine aw rfl (fun hb3 => ?_) (fun hb3 => ?_)
 ·have hb3_ := dT0 hb3
  have hneg : a6 a < a6 b := by omega
  refine cH (t := 7) rfl rfl ?_
  refine ae hP<|aj rfl<|ab (aV hT rfl rfl rfl (es := [_, _]) rfl)<|aE hT rfl<|ag<|am<|E2 hT rfl rfl rfl rfl rfl rfl rfl ?_
  exact AP hsm hneg
 have hb3_ := dF0 hb3
 have hnn : a6 b ≤ a6 a := by omega
 obtain ⟨N, hN⟩ : ∃ N, N = a6 a - a6 b := ⟨_, rfl⟩
 refine aq<|dF (t := stL [(0, .p (.c (nt a))), (1, .p (.c (nt b))), (4, .loc 4 0), (7, .vec 55), (8, Z (N : Int))] [(4, ⟨false, 1, 236, [.sl 0 [], .sl 0 []]⟩), (55, WB 105 (wl a))]) (aG ⟨.refl _, .refl _, .refl _, .refl _, aO (by omega), trivial⟩ ⟨rfl, rfl, trivial⟩) ?_
 refine ae hP<|aj rfl<|ab (dl rfl rfl (by decide) (c := ((N / 32 : Nat) : Int)) (by rw [Int.tdiv_eq_ediv_of_nonneg (by omega), iW0 _ (by omega)]; omega)) ?_
 refine ab (bJ rfl rfl (c := ((N / 32 + 1 : Nat) : Int)) (by rw [iW0 _ (by omega)]; omega)) ?_
 refine an ai (eh hT rfl rfl rfl rfl rfl rfl rfl rfl (by omega)) ?_
 refine ab (bl (rfl : _ = AV.vec _))<|ag<|ae hP<|aj rfl<|aj rfl<|an ai (Eff.callV (uz (wl b) N (bI _) hlb (by omega))) ?_
 refine ab (bl (rfl : _ = AV.vec _))<|ag<|ao<|ae hP<|aj rfl<|ak rfl<|ag<|aA<|bq (ι := Nat × Nat × Nat) (fun ⟨j, Q, R⟩ => stL [(4, .loc 4 0), (7, .vec 55), (9, .vec 70), (10, .vec 73), (11, Z ((j : Int) - 1))] [(4, ⟨false, 1, 236, [.sl 0 [], .sl 0 []]⟩), (55, WB 105 (dgs (wl a).length R)), (70, WB 105 (dgs (N / 32 + 1) Q)), (73, WB 105 (dgs (N / 32 + (wl b).length + 1) (b * 2 ^ j / 2)))]) (fun ⟨j, Q, R⟩ => j ≤ N + 1 ∧ Q < 4294967296 ^ (N / 32 + 1) ∧ Dv a b j Q R) (fun ⟨j, _, _⟩ => j) (N + 1, 0, a) ⟨Nat.le_refl _, Nat.pow_pos (by decide), hN ▸ Dv.start hb hnn⟩ (aG ⟨.refl _, .refl _, .refl _, .refl _, aO (by omega), trivial⟩ ⟨rfl, congrArg (fun z => some (WB 105 z)) (ye a).symm, congrArg (fun z => some (WB 105 z)) (by rw [AS]; rfl), congrArg (fun z => some (WB 105 z)) (by rw [bE, gm (by omega), Nat.add_sub_cancel]), trivial⟩) ?_
 rintro ⟨j, Q, R⟩ ⟨hj, hQ, hD⟩
 have hRa : R < 4294967296 ^ (wl a).length := Nat.lt_of_le_of_lt hD.le (di a)
 have hDl := KX hb hj
 refine ao<|ae hP<|aj rfl<|ab (dc rfl rfl)<|ag ?_
 refine aw rfl (fun hb4 => ?_) (fun hb4 => ?_)
 ·have hb4_ := dT0 hb4
  have hj0 : 0 < j := by omega
  have hset := Dl (m := (N / 32 + 1)) (Q := Q) (i := j - 1) (by omega) (by rw [show j - 1 + 1 = j by omega]; exact hD.mul) hQ
  have hkk : ((j : Int) - 1) = ((j - 1 : Nat) : Int) := by omega
  refine aq<|ao<|aA<|ao<|ae hP<|ab (az (rfl : _ = AV.vec _))<|ab (az (rfl : _ = AV.vec _))<|ab (Eff.borrow (.vecW rfl (.vecW rfl .nil)) (xn _ _ (dQ _ _) (dQ _ _) (by rw [bQ]; omega) (by rw [bQ]; omega))) ?_
  refine ag ?_
  refine aw rfl (fun hb5 => ?_) (fun hb5 => ?_)
  ·have hle := xh hRa hDl hb5
   rw [gm hj0] at hle
   refine ae hP<|ab (az (rfl : _ = AV.vec _))<|ab (az (rfl : _ = AV.vec _))<|RK.mutL ai (Eff.call (rd := [55, 73]) (GE 55 73 rfl (dgs (wl a).length R) (dgs (N / 32 + (wl b).length + 1) (b * 2 ^ j / 2)) (dQ _ _) (dQ _ _) (by rw [bQ]; omega) (by rw [dK _ _ hRa, dK _ _ hDl, gm hj0]; exact hle)) (Ku rfl rfl rfl) yO) ?_
   refine ag<|av hP<|ab (az (rfl : _ = AV.vec _))<|aj rfl<|ab (dl rfl rfl (by decide) (c := (((j - 1) / 32 : Nat) : Int)) (by rw [hkk, Int.tdiv_eq_ediv_of_nonneg (by omega), iW0 _ (by omega)]; omega)) ?_
   refine ab (by first | exact fM hT rfl rfl rfl rfl rfl rfl rfl (by rw [bQ]; omega) | exact fg hT rfl rfl rfl rfl rfl rfl rfl (by rw [bQ]; omega)) ?_
   refine ab (dj hT rfl rfl rfl rfl (by rw [bQ]; omega) rfl) ?_
   refine aj rfl<|ab (b5 rfl rfl (by decide) (c := (((j - 1) % 32 : Nat) : Int)) (by rw [hkk, Int.tmod_eq_emod_of_nonneg (by omega)]; omega)) ?_
   refine ab (a8 hT rfl rfl rfl rfl (cU (by omega))) ?_
   refine ab (ku rfl rfl (by omega) (c := ((2 ^ ((j - 1) % 32) : Nat) : Int)) (Dh (by omega))) ?_
   refine ab (lL rfl rfl rfl (gL ((dQ _ _).getD _)) (gL (rG (by omega)))) ?_
   refine ab (by first | exact fM hT rfl rfl rfl rfl rfl rfl rfl (by rw [bQ]; omega) | exact fg hT rfl rfl rfl rfl rfl rfl rfl (by rw [bQ]; omega)) ?_
   refine de ai (ci hT rfl rfl rfl rfl rfl (by rw [bQ]; omega) rfl) ?_
   refine ag<|av hP<|ab (az (rfl : _ = AV.vec _))<|RK.mut ai (Eff.call (rd := [73]) (xo 73 (dgs (N / 32 + (wl b).length + 1) (b * 2 ^ j / 2)) (dQ _ _) (by rw [bQ]; omega)) (j8 rfl) gU) ?_
   refine ag<|av hP<|aj rfl<|ab (bC rfl rfl (by first | exact iW0 _ (by omega) | rfl)) ?_
   refine ak rfl<|ag ?_
   refine ⟨(j - 1, Q + 2 ^ (j - 1), R - b * 2 ^ (j - 1)), ⟨by omega, hset.2.2, hD.yes hj0 hle⟩, by show j - 1 < j; omega, aG ⟨.refl _, .refl _, .refl _, .refl _, aO (by omega), trivial⟩ ⟨rfl, congrArg (fun z => some (WB 105 z)) (by rw [bQ, dK _ _ hRa, dK _ _ hDl, gm hj0]), congrArg (fun z => some (WB 105 z)) hset.1, congrArg (fun z => some (WB 105 z)) (by rw [bQ, dK _ _ hDl, gm hj0]), trivial⟩⟩
  have hle := zK hRa hDl hb5
  rw [gm hj0] at hle
  refine aq<|av hP<|ab (az (rfl : _ = AV.vec _))<|RK.mut ai (Eff.call (rd := [73]) (xo 73 (dgs (N / 32 + (wl b).length + 1) (b * 2 ^ j / 2)) (dQ _ _) (by rw [bQ]; omega)) (j8 rfl) gU) ?_
  refine ag<|av hP<|aj rfl<|ab (bC rfl rfl (by first | exact iW0 _ (by omega) | rfl)) ?_
  refine ak rfl<|ag ?_
  refine ⟨(j - 1, Q, R), ⟨by omega, hQ, hD.no hj0 hle⟩, by show j - 1 < j; omega, aG ⟨.refl _, .refl _, .refl _, .refl _, aO (by omega), trivial⟩ ⟨rfl, rfl, rfl, congrArg (fun z => some (WB 105 z)) (by rw [bQ, dK _ _ hDl, gm hj0]), trivial⟩⟩
 have hb4_ := dF0 hb4
 have hj0 : j = 0 := by omega
 subst hj0
 have hfin := hD.done
 refine aZ<|cH (t := 9) rfl rfl ?_
 refine cH (t := 7) rfl rfl ?_
 refine ae hP<|aj rfl<|aj rfl<|ab (aV hT rfl rfl rfl (es := [_, _]) rfl)<|aE hT rfl<|ag<|am<|E2 hT rfl rfl rfl rfl rfl rfl rfl ?_
 exact AQ hsm hnn hN hfin
end
section
open Go Go.AM
theorem DD (neg : Bool) (a b : Nat) (hb : 0 < b) : aF Tryz.prog 51 [B neg, .p (.c (W (qL a b)))] (I (sg neg (a / b))) := by
 have h := fD neg (qL a b) Jj
 rwa [GN hb] at h
theorem DC (neg : Bool) (a b : Nat) : aF Tryz.prog 51 [B neg, .p (.c (W (rL a b)))] (I (sg neg (a % b))) := by
 have h := fD neg (rL a b) Ji
 rwa [GL] at h
theorem ru (x y : Int) (hx : L 44 x) (hy : L 44 y) (h0 : y ≠ 0) :
  aF Tryz.prog 173 [I x, I y] (.t [PI (x / y), PI (x % y), PE 0]) := by
 have hq : L 44 (sg (!(decide (x < 0) == decide (y < 0))) (x.natAbs / y.natAbs)) := L.of_le hx (by rw [nJ]; exact Nat.div_le_self _ _)
 have hr : L 44 (sg (decide (x < 0)) (x.natAbs % y.natAbs)) := L.of_le hx (by rw [nJ]; exact Nat.mod_le _ _)
 have iq : LB _ 44 := ⟨hq⟩
 have ir : LB _ 44 := ⟨hr⟩
 have iy : LB y 44 := ⟨hy⟩
 refine aL Tryz.func173 rfl rfl rfl rfl ?_
 refine ae hP<|an ai (aK rfl rfl)<|an ai (aK rfl rfl)<|an ai (ay hT rfl rfl)<|an ai (ay hT rfl rfl)<|ak rfl<|ag<|ao<|ae hP<|aD hT rfl<|aY hT rfl rfl rfl rfl ?_
 refine ab (aU hT rfl rfl rfl rfl)<|ab (bp rfl rfl)<|ag ?_
 refine aw rfl (fun hb1 => ?_) (fun hb1 => ?_)
 ·have hb1_ := bT hb1
  exact absurd (wl_len_zero.1 hb1_) h0
 have hb1_ := bF hb1
 refine aq<|ae hP<|aD hT rfl<|aY hT rfl rfl rfl rfl ?_
 refine aD hT rfl<|aY hT rfl rfl rfl rfl ?_
 refine ab (ah (zM x.natAbs y.natAbs (sz (hx.mono (by decide))) (sz (hy.mono (by decide))) (by omega))) ?_
 refine an ai (ay hT rfl rfl)<|aE hT rfl<|ag<|ae hP<|aD hT rfl<|aY hT rfl rfl rfl rfl ?_
 refine aD hT rfl<|aY hT rfl rfl rfl rfl ?_
 refine ab (iQ hT rfl rfl rfl rfl)<|aD hT rfl<|aY hT rfl rfl rfl rfl ?_
 refine ab (ah (DD _ _ _ (by omega))) ?_
 refine an ai (ay hT rfl rfl)<|aE hT rfl<|ag<|ae hP<|aD hT rfl<|aY hT rfl rfl rfl rfl ?_
 refine aD hT rfl<|aY hT rfl rfl rfl rfl ?_
 refine ab (ah (DC _ _ _)) ?_
 refine an ai (ay hT rfl rfl)<|aE hT rfl<|ag<|ao<|ae hP<|aD hT rfl<|aY hT rfl rfl rfl rfl ?_
 refine ag ?_
 refine aw rfl (fun hb2 => ?_) (fun hb2 => ?_)
 ·have e1 := (jo h0 (dT0 hb2)).1
  have e2 := (jo h0 (dT0 hb2)).2
  refine ae hP<|au hT rfl<|au hT rfl<|ab (ah (nV _)) ?_
  refine ab (ah (jS _ _ lz lz)) ?_
  refine aE hT rfl<|ag<|ae hP<|aD hT rfl<|aY hT rfl rfl rfl rfl ?_
  refine ag ?_
  refine aw rfl (fun hb3 => ?_) (fun hb3 => ?_)
  ·rw [jp hb3] at e1
   refine av hP<|au hT rfl<|ab (ah (eT _ (by first | assumption | decide))) ?_
   refine ab (ah (jS _ _ lz lz)) ?_
   refine aE hT rfl<|ag<|ae hP<|au hT rfl<|au hT rfl<|aE hT rfl<|aE hT rfl<|ak rfl<|ag<|am ?_
   refine cZ rfl (.inr rfl) (aQ hT rfl rfl rfl rfl (cs := [_, _]) rfl rfl) (aQ hT rfl rfl rfl rfl (cs := [_, _]) rfl rfl) (bO rfl) ?_ bt
   exact aH (by rw [← e1, e2]; rfl)
  rw [oD h0 hb3] at e1
  refine av hP<|au hT rfl<|ab (ah (eT _ (by first | assumption | decide))) ?_
  refine ab (ah (BS _ _ lz lz)) ?_
  refine aE hT rfl<|ag<|ae hP<|au hT rfl<|au hT rfl<|aE hT rfl<|aE hT rfl<|ak rfl<|ag<|am ?_
  refine cZ rfl (.inr rfl) (aQ hT rfl rfl rfl rfl (cs := [_, _]) rfl rfl) (aQ hT rfl rfl rfl rfl (cs := [_, _]) rfl rfl) (bO rfl) ?_ bt
  exact aH (by rw [← e1, e2])
 have e1 := (jm h0 (dF0 hb2)).1
 have e2 := (jm h0 (dF0 hb2)).2
 refine aq<|ae hP<|au hT rfl<|au hT rfl<|aE hT rfl<|aE hT rfl<|ak rfl<|ag<|am ?_
 refine cZ rfl (.inr rfl) (aQ hT rfl rfl rfl rfl (cs := [_, _]) rfl rfl) (aQ hT rfl rfl rfl rfl (cs := [_, _]) rfl rfl) (bO rfl) ?_ bt
 exact aH (by rw [e1, e2])
theorem BU (x y : Int) (hx : L 44 x) (hy : L 44 y) (h0 : y ≠ 0) :
  aF Tryz.prog 115 [I x, I y] (I (x / y)) := by
 refine aL Tryz.func115 rfl rfl rfl rfl ?_
 refine ae hP<|an ai (aK rfl rfl)<|an ai (aK rfl rfl)<|an ai (ay hT rfl rfl)<|ag<|ae hP<|au hT rfl<|au hT rfl<|ab (ah (ru x y hx hy h0)) ?_
 refine ab (az (rfl : _ = AV.t _))<|ab (aC rfl (v := .a _) rfl)<|ab (aC rfl (v := .a _) rfl)<|ab (aC rfl (v := .c _) rfl)<|an ai (ay hT rfl rfl)<|an ai (ay hT rfl rfl)<|aE hT rfl<|aE hT rfl<|ak rfl<|ag<|ae hP<|au hT rfl<|aE hT rfl<|ag<|am<|E2 hT rfl rfl rfl rfl rfl rfl rfl ?_
 exact .refl _
theorem Jf (x y : Int) (hx : L 44 x) (hy : L 44 y) (h0 : y ≠ 0) :
  aF Tryz.prog 148 [I x, I y] (I (x % y)) := by
 refine aL Tryz.func148 rfl rfl rfl rfl ?_
 refine ae hP<|an ai (aK rfl rfl)<|an ai (aK rfl rfl)<|an ai (ay hT rfl rfl)<|ag<|ae hP<|au hT rfl<|au hT rfl<|ab (ah (ru x y hx hy h0)) ?_
 refine ab (az (rfl : _ = AV.t _))<|ab (aC rfl (v := .a _) rfl)<|ab (aC rfl (v := .a _) rfl)<|ab (aC rfl (v := .c _) rfl)<|an ai (ay hT rfl rfl)<|an ai (ay hT rfl rfl)<|aE hT rfl<|aE hT rfl<|ak rfl<|ag<|ae hP<|au hT rfl<|aE hT rfl<|ag<|am<|E2 hT rfl rfl rfl rfl rfl rfl rfl ?_
 exact .refl _
theorem BT (x y : Int) (hx : L 44 x) (hy : L 44 y) :
  aF Tryz.prog 154 [I x, I y] (I (Int.gcd x y)) := by
 refine aL Tryz.func154 rfl rfl rfl rfl ?_
 refine ae hP<|an ai (aK rfl rfl)<|an ai (aK rfl rfl)<|an ai (ay hT rfl rfl)<|ag<|ae hP<|au hT rfl<|ab (ah (nV _)) ?_
 refine aE hT rfl<|ag<|ae hP<|au hT rfl<|ab (ah (nV _)) ?_
 refine aE hT rfl<|ag<|ao<|aA<|bq (ι := Int × Int) (fun p => stL [(2, .loc 2 0), (3, .loc 3 0), (4, .loc 4 0)] [(2, ⟨false, 1, 29, [zn (p.1), zm (p.1)]⟩), (3, ⟨false, 1, 29, [zn (p.2), zm (p.2)]⟩), (4, ⟨false, 1, 29, [zn (0), zm (0)]⟩)]) (fun p => L 44 p.1 ∧ L 44 p.2 ∧ 0 ≤ p.1 ∧ 0 ≤ p.2 ∧ Int.gcd p.1 p.2 = Int.gcd x y) (fun p => p.2.natAbs) ((x.natAbs : Int), (y.natAbs : Int)) ⟨hx.abs, hy.abs, Int.natCast_nonneg _, Int.natCast_nonneg _, by simp [Int.gcd]⟩ (aG ⟨.refl _, .refl _, .refl _, trivial⟩ ⟨rfl, rfl, rfl, trivial⟩) ?_
 rintro ⟨a, b⟩ ⟨ha, hb, ha0, hb0, hg⟩
 refine ao<|ae hP<|aD hT rfl<|aY hT rfl rfl rfl rfl ?_
 refine ab (aU hT rfl rfl rfl rfl)<|ab (bV rfl rfl)<|ag ?_
 refine aw rfl (fun hb1 => ?_) (fun hb1 => ?_)
 ·have hb1_ := dT0 hb1
  have h0 : b ≠ 0 := fun e => by
   have e2 : 0 < ((wl b.natAbs).length : Int) := hb1_
   rw [e] at e2; exact absurd e2 (by decide)
  refine aq<|aA<|ae hP<|au hT rfl<|au hT rfl<|ab (ah (Jf a b ha hb h0)) ?_
  refine an ai (ay hT rfl rfl)<|aE hT rfl<|ag<|ae hP<|au hT rfl<|aE hT rfl<|ag<|av hP<|au hT rfl<|aE hT rfl<|ag ?_
  refine ⟨(b, a % b), ⟨hb, (ha.emod hb).mono (by decide), hb0, Int.emod_nonneg a h0, ?_⟩, ?_, aG ⟨.refl _, .refl _, .refl _, trivial⟩ ⟨rfl, rfl, rfl, trivial⟩⟩
  ·rw [← hg]; exact sK a b
  have h1 := Int.emod_nonneg a h0
  have h2 := Int.emod_lt a h0
  show (a % b).natAbs < b.natAbs
  omega
 have hb1_ := dF0 hb1
 refine aZ<|ae hP<|au hT rfl<|aE hT rfl<|ag<|am<|E2 hT rfl rfl rfl rfl rfl rfl rfl ?_
 have h0 : b = 0 := by
  have e2 : ¬ 0 < ((wl b.natAbs).length : Int) := hb1_
  have : ((wl b.natAbs).length : Int) = 0 := by omega
  exact wl_len_zero.1 this
 exact Sub.I (by rw [← hg, h0]; simp; omega)
theorem GJ (x : Int) (hx : L 40 x) :
  aF Tryz.prog 193 [I x] (.t [PI (rootV x), PI (if x < 0 then 0 else x - rootV x * rootV x), PE (ji x)]) := by
 have hbl := yp hx
 have ix : LB x 40 := ⟨hx⟩
 refine aL Tryz.func193 rfl rfl rfl rfl ?_
 refine ae hP<|an ai (aK rfl rfl)<|an ai (ay hT rfl rfl)<|an ai (ay hT rfl rfl)<|ak rfl<|ag<|ao<|ae hP<|aD hT rfl<|aY hT rfl rfl rfl rfl ?_
 refine ag ?_
 refine aw rfl (fun hb1 => ?_) (fun hb1 => ?_)
 ·have hx0 := dT0 hb1
  refine ae hP<|ab (aV hT rfl rfl rfl (es := [_, _]) rfl)<|ab (aV hT rfl rfl rfl (es := [_, _]) rfl)<|aE hT rfl<|aE hT rfl<|ak rfl<|ag<|am ?_
  refine cZ rfl (.inr rfl) (aQ hT rfl rfl rfl rfl (cs := [_, _]) rfl rfl) (aQ hT rfl rfl rfl rfl (cs := [_, _]) rfl rfl) (bO rfl) ?_ bt
  exact aH (by rw [(gj hx0).1, (gj hx0).2, if_pos hx0])
 have hx0 := dF0 hb1
 refine aq<|ao<|ae hP<|aD hT rfl<|aY hT rfl rfl rfl rfl ?_
 refine ab (aU hT rfl rfl rfl rfl)<|ab (bp rfl rfl)<|ag ?_
 refine aw rfl (fun hb2 => ?_) (fun hb2 => ?_)
 ·have hb2_ := bT hb2
  have hz := wl_len_zero.1 hb2_
  refine ae hP<|ab (aV hT rfl rfl rfl (es := [_, _]) rfl)<|ab (aV hT rfl rfl rfl (es := [_, _]) rfl)<|aE hT rfl<|aE hT rfl<|ak rfl<|ag<|am ?_
  refine cZ rfl (.inr rfl) (aQ hT rfl rfl rfl rfl (cs := [_, _]) rfl rfl) (aQ hT rfl rfl rfl rfl (cs := [_, _]) rfl rfl) (bO rfl) ?_ bt
  exact aH (by rw [hz]; rfl)
 have hb2_ := bF hb2
 have hx1 : 0 < x := by
  rcases Int.lt_trichotomy x 0 with e | e | e
  ·exact absurd e hx0
  ·exact absurd (wl_len_zero.2 e) hb2_
  exact e
 refine aq<|ae hP<|ab (bj hT rfl rfl rfl (es := [_]) rfl rfl rfl)<|au hT rfl<|ab (ah (xp x lz)) ?_
 refine ab (bJ rfl rfl (c := ((a6 x.natAbs + 1 : Nat) : Int)) (by rw [iW0 _ (by omega)]; omega)) ?_
 refine ab (dl rfl rfl (by decide) (c := (((a6 x.natAbs + 1) / 2 : Nat) : Int)) (by rw [Int.tdiv_eq_ediv_of_nonneg (by omega), iW0 _ (by omega)]; omega)) ?_
 refine ab (ah (GH [1] ((a6 x.natAbs + 1) / 2) uK (by decide) (by omega))) ?_
 refine ab (ah (fD _ _ (dQ _ _))) ?_
 refine an ai (ay hT rfl rfl)<|aE hT rfl<|ag<|aA<|bq (ι := Int) (fun s => stL [(1, .loc 1 0), (2, .loc 2 0), (3, .loc 3 0), (5, .loc 5 0)] [(1, ⟨false, 1, 29, [zn (x), zm (x)]⟩), (2, ⟨false, 1, 29, [zn (0), zm (0)]⟩), (3, ⟨false, 1, 29, [zn (0), zm (0)]⟩), (5, ⟨false, 1, 29, [zn (s), zm (s)]⟩)]) (fun s => 0 < s ∧ rootV x ≤ s ∧ s ≤ 2 * x) (fun s => s.toNat) (2 ^ ((a6 x.natAbs + 1) / 2) : Nat) ?_ (aG ⟨.refl _, .refl _, .refl _, .refl _, trivial⟩ ⟨rfl, rfl, rfl, ?_, trivial⟩) ?_
 ·exact nM hx1
 ·exact congrArg (fun z => some (⟨false, 1, 29, [zn z, zm z]⟩ : Blk)) (show sg false (wv (dgs _ _)) = _ by rw [Ak]; rfl)
 intro s hs
 have is : LB s 41 := ⟨L.of_le (b := 2 * x) (lz (by rfl)) (by omega)⟩
 refine aA<|ae hP<|au hT rfl<|au hT rfl<|au hT rfl<|ab (ah (BU x s lz lz (by omega))) ?_
 refine ab (ah (jS _ _ lz lz)) ?_
 refine ab (ah (eT _ (by first | assumption | decide))) ?_
 refine ab (ah (BU _ 2 lz lz (by decide))) ?_
 refine an ai (ay hT rfl rfl)<|aE hT rfl<|ag<|ao<|ae hP<|au hT rfl<|au hT rfl<|ab (ah (nU _ _)) ?_
 refine ab (dc rfl rfl)<|ag ?_
 refine aw rfl (fun hb3 => ?_) (fun hb3 => ?_)
 ·have hb3_ := dT0 hb3
  have hge := kg hb3_
  refine ae hP<|au hT rfl<|au hT rfl<|au hT rfl<|au hT rfl<|ab (ah (fA _ _ lz lz)) ?_
  refine ab (ah (BS _ _ lz lz)) ?_
  refine aE hT rfl<|aE hT rfl<|ak rfl<|ag<|am ?_
  refine cZ rfl (.inr rfl) (aQ hT rfl rfl rfl rfl (cs := [_, _]) rfl rfl) (aQ hT rfl rfl rfl rfl (cs := [_, _]) rfl rfl) (bO rfl) ?_ bt
  have e := vz hx1 hs.1 hs.2.1 hge
  exact aH (by rw [e, gk hx0, if_neg hx0])
 have hb3_ := dF0 hb3
 have hge := jd hb3_
 refine aq<|av hP<|au hT rfl<|aE hT rfl<|ag ?_
 refine ⟨(s + x / s) / 2, ⟨(kK hx1 hs.1).2, (kK hx1 hs.1).1, Int.le_trans (Int.le_of_lt hge) hs.2.2⟩, ?_, aG ⟨.refl _, .refl _, .refl _, .refl _, trivial⟩ ⟨rfl, rfl, rfl, rfl, trivial⟩⟩
 have h3 := (kK hx1 hs.1).2
 show ((s + x / s) / 2).toNat < s.toNat
 omega
end
section
open Go Go.AM
theorem oJ (x : Int) (hx : L 45 x) :
  aF Tryz.prog 102 [I x] (B true) := by
 have hlen := sz hx
 refine aL Tryz.func102 rfl rfl rfl rfl ?_
 refine ae hP<|an ai (aK rfl rfl)<|ak rfl<|ag<|ae hP<|aD hT rfl<|aY hT rfl rfl rfl rfl ?_
 refine ab (aU hT rfl rfl rfl rfl)<|ab (bp rfl rfl)<|aj rfl ?_
 refine bd (t := 7) rfl (fun hg1 => ?_) (fun hg1 => ?_)
 ·have hg1_ := bT hg1
  refine aB hg1 (aJ hT rfl rfl rfl rfl rfl rfl) ?_
  refine aB hg1 (bG hT rfl rfl rfl rfl (by first | rfl | exact dz (by omega))) ?_
  refine aB hg1 (bA rfl) ?_
  refine ab (aN rfl hg1 (rfl : _ = AV.p (.c _)))<|aj rfl ?_
  refine bd (t := 12) rfl (fun hg2 => ?_) (fun hg2 => ?_)
  ·have hg2_ := (cy hg2)
   iterate 5 refine a7 hg2 ?_
   iterate 9 refine fP ?_
   refine a7 hg2 ?_
   refine ab (aN rfl hg2 (rfl : _ = AV.p (.c _)))<|ak rfl<|ag<|am<|E1 rfl rfl ?_
   exact .refl _
  have hg2_ := (cn hg2)
  have h0 := wl_len_zero.1 hg1_
  rw [h0] at hg2
  cases hg2
 have hg1_ := bF hg1
 iterate 3 refine a7 hg1 ?_
 refine ab (aP rfl hg1 (rfl : _ = AV.p (.c _)))<|aj rfl<|aB rfl (aJ hT rfl rfl rfl rfl rfl rfl) ?_
 refine aB rfl (bG hT rfl rfl rfl rfl (by first | rfl | exact dz (by omega))) ?_
 refine aB rfl (aU hT rfl rfl rfl rfl) ?_
 refine aB rfl (bV rfl rfl) ?_
 refine aB rfl (az (rfl : _ = AV.p (.c _))) ?_
 refine bd (t := 17) rfl (fun hg3 => ?_) (fun hg3 => ?_)
 ·have hg3_ := dT0 hg3
  refine aB hg3 (aJ hT rfl rfl rfl rfl rfl rfl) ?_
  refine aB hg3 (bG hT rfl rfl rfl rfl (by first | rfl | exact dz (by omega))) ?_
  refine aB hg3 (aJ hT rfl rfl rfl rfl rfl rfl) ?_
  refine aB hg3 (bG hT rfl rfl rfl rfl (by first | rfl | exact dz (by omega))) ?_
  refine aB hg3 (aU hT rfl rfl rfl rfl) ?_
  refine aB hg3 (bC rfl rfl (by first | exact iW0 _ (by omega) | rfl)) ?_
  refine aB hg3 (by first | exact fp hT rfl rfl rfl rfl rfl rfl (by omega) | exact b6 hT rfl rfl rfl rfl rfl rfl (by omega) (by first | exact gQ (by omega) | simp)) ?_
  refine aB hg3 (ce hT rfl rfl rfl (by first | rfl | exact ly (by omega))) ?_
  refine aB hg3 (bw rfl rfl) ?_
  refine aB rfl (aN rfl hg3 (rfl : _ = AV.p (.c _))) ?_
  refine ab (aP rfl rfl (rfl : _ = AV.p (.c _)))<|ak rfl<|ag<|am<|E1 rfl rfl ?_
  have h1 : (wl x.natAbs).length ≠ 0 := fun e => hg1_ (by rw [e]; rfl)
  have h2 : (((wl x.natAbs).length : Int) - 1).toNat = (wl x.natAbs).length - 1 := by omega
  rw [h2]
  have h3 := nF (k := x.natAbs) (n := (wl x.natAbs).length - 1) (by omega)
  exact aH (by rw [show ((((wl x.natAbs).getD ((wl x.natAbs).length - 1) 0 : Nat) : Int) != 0) = true from bne_iff_ne.2 (by omega)])
 have hg3_ := dF0 hg3
 exact absurd (show ((wl x.natAbs).length : Int) = 0 by omega) hg1_
theorem nX (a b c : Int) (ha : bv a) (hb : bv b) (hc : bv c) :
  aF Tryz.prog 79 [Z a, Z b, Z c] (FA a b c) := by
 refine aL Tryz.func79 rfl rfl rfl rfl ?_
 refine ae hP<|an ai (ay hT rfl rfl)<|ag<|ae hP<|aj rfl<|ab (ah (eT _ (by first | assumption | decide))) ?_
 refine aj rfl<|ab (ah (eT _ (by first | assumption | decide))) ?_
 refine aj rfl<|ab (ah (eT _ (by first | assumption | decide))) ?_
 refine ab (aV hT rfl rfl rfl (es := [_, _, _, _, _, _]) rfl)<|aE hT rfl<|ag<|am ?_
 refine bS rfl (.inr rfl) (aQ hT rfl rfl rfl rfl (cs := [_, _, _, _, _, _]) rfl rfl) ?_ bt
 exact .refl _
theorem lH (a b c d : Int) (ha : bv a) (hb : bv b) (hc : bv c) (hd : bv d) :
  aF Tryz.prog 117 [Z a, Z b, Z c, Z d] (MA a b c d) := by
 refine aL Tryz.func117 rfl rfl rfl rfl ?_
 refine ae hP<|an ai (ay hT rfl rfl)<|ag<|ae hP<|aj rfl<|ab (ah (eT _ (by first | assumption | decide))) ?_
 iterate 3 refine aj rfl<|ab (ah (eT _ (by first | assumption | decide))) ?_
 refine ab (aV hT rfl rfl rfl (es := [_, _, _, _, _, _, _, _]) rfl)<|aE hT rfl<|ag<|am ?_
 refine bS rfl (.inr rfl) (aQ hT rfl rfl rfl rfl (cs := [_, _, _, _, _, _, _, _]) rfl rfl) ?_ bt
 exact .refl _
theorem lG (a b c d : Int) (ha : L 40 a) (hb : L 40 b) (hc : L 40 c) (hd : L 40 d) :
  aF Tryz.prog 83 [I a, I b, I c, I d] (I (a * b + c * d)) := by
 have ia : LB a 40 := ⟨ha⟩
 have ib : LB b 40 := ⟨hb⟩
 have ic : LB c 40 := ⟨hc⟩
 have id : LB d 40 := ⟨hd⟩
 refine aL Tryz.func83 rfl rfl rfl rfl ?_
 refine ae hP<|an ai (aK rfl rfl)<|an ai (aK rfl rfl)<|an ai (aK rfl rfl)<|an ai (aK rfl rfl)<|an ai (ay hT rfl rfl)<|ag<|ae hP<|au hT rfl<|au hT rfl<|ab (ah (fA _ _ lz lz)) ?_
 refine au hT rfl<|au hT rfl<|ab (ah (fA _ _ lz lz)) ?_
 refine ab (ah (jS _ _ lz lz)) ?_
 refine aE hT rfl<|ag<|am<|E2 hT rfl rfl rfl rfl rfl rfl rfl ?_
 exact .refl _
theorem uB (a b c : Int) (ha : L 34 a) (hb : L 34 b) (hc : L 34 c) :
  aF Tryz.prog 24 [FA a b c] (I (dsc a b c)) := by
 have ia : LB a 34 := ⟨ha⟩
 have ib : LB b 34 := ⟨hb⟩
 have ic : LB c 34 := ⟨hc⟩
 refine aL Tryz.func24 rfl rfl rfl rfl ?_
 refine ae hP<|an ai (aK rfl rfl)<|an ai (ay hT rfl rfl)<|ag<|ae hP<|aD hT rfl<|au hT rfl<|aD hT rfl<|au hT rfl<|ab (ah (eT _ (by first | assumption | decide))) ?_
 refine aD hT rfl<|au hT rfl<|ab (ah (fA _ _ lz lz)) ?_
 refine aD hT rfl<|au hT rfl<|ab (ah (lG _ _ _ _ lz lz lz lz)) ?_
 refine aE hT rfl<|ag<|am<|E2 hT rfl rfl rfl rfl rfl rfl rfl ?_
 exact Sub.I (Jc a b c)
theorem xr (x : Int) (hx : L 40 x) :
  aF Tryz.prog 150 [I x] (B (eE x)) := by
 have ix : LB x 40 := ⟨hx⟩
 refine aL Tryz.func150 rfl rfl rfl rfl ?_
 refine ae hP<|an ai (aK rfl rfl)<|ak rfl<|ag<|ao<|ae hP<|au hT rfl<|ab (ah (jF _)) ?_
 refine ab (bi rfl rfl)<|ag ?_
 refine aw rfl (fun hb1 => ?_) (fun hb1 => ?_)
 ·have hb1_ := dT0 hb1
  refine ae hP<|ak rfl<|ag<|am<|E1 rfl rfl ?_
  exact aW (vF hb1_)
 have hb1_ := dF0 hb1
 refine aq<|ae hP<|au hT rfl<|ab (ah (GJ _ lz)) ?_
 refine ab (az (rfl : _ = AV.t _))<|ab (aC rfl (v := .a _) rfl)<|ab (aC rfl (v := .a _) rfl)<|ab (aC rfl (v := .c _) rfl)<|an ai (ay hT rfl rfl)<|an ai (ay hT rfl rfl)<|aE hT rfl<|aE hT rfl<|ak rfl<|ag<|ae hP<|au hT rfl<|ab (ah (jF _)) ?_
 refine ab (bp rfl rfl)<|ak rfl<|ag<|am<|E1 rfl rfl ?_
 exact aW (GI hb1_)
theorem zR (a b c : Int) (ha : L 34 a) (hb : L 34 b) (hc : L 34 c) :
  aF Tryz.prog 153 [FA a b c] (Z (ck a b c)) := by
 have ia : LB a 34 := ⟨ha⟩
 have ib : LB b 34 := ⟨hb⟩
 have ic : LB c 34 := ⟨hc⟩
 refine aL Tryz.func153 rfl rfl rfl rfl ?_
 refine ae hP<|an ai (aK rfl rfl)<|ak rfl<|ag<|ao<|ae hP<|aD hT rfl<|au hT rfl<|ab (ah (oJ _ lz)) ?_
 refine ab (bA rfl)<|aj rfl<|aB rfl (aJ hT rfl rfl rfl rfl rfl rfl) ?_
 refine aB rfl (aI hT rfl rfl rfl rfl (cs := [_, _]) rfl rfl) ?_
 refine aB rfl (ah (oJ _ lz)) ?_
 refine aB rfl (bA rfl) ?_
 refine ab (aP rfl rfl (rfl : _ = AV.p (.c _)))<|aj rfl<|aB rfl (aJ hT rfl rfl rfl rfl rfl rfl) ?_
 refine aB rfl (aI hT rfl rfl rfl rfl (cs := [_, _]) rfl rfl) ?_
 refine aB rfl (ah (oJ _ lz)) ?_
 refine aB rfl (bA rfl) ?_
 refine ab (aP rfl rfl (rfl : _ = AV.p (.c _)))<|ag<|aT rfl rfl<|aq<|ae hP<|bD hT rfl rfl rfl rfl rfl rfl<|ab (ah (uB _ _ _ lz lz lz)) ?_
 refine an ai (ay hT rfl rfl)<|aE hT rfl<|ag<|ao<|ae hP<|au hT rfl<|ab (ah (xr _ lz)) ?_
 refine ag ?_
 refine aw rfl (fun hb3 => ?_) (fun hb3 => ?_)
 ·refine ae hP<|ak rfl<|ag<|am<|E1 rfl rfl ?_
  exact aO (Cc hb3)
 refine aq<|ao<|ae hP<|au hT rfl<|ab (ah (jF _)) ?_
 refine ab (bi rfl rfl)<|aj rfl ?_
 refine bd (t := 27) rfl (fun hg4 => ?_) (fun hg4 => ?_)
 ·have hg4_ := dT0 hg4
  refine aB hg4 (aJ hT rfl rfl rfl rfl rfl rfl) ?_
  refine aB hg4 (aI hT rfl rfl rfl rfl (cs := [_, _]) rfl rfl) ?_
  refine aB hg4 (ah (jF _)) ?_
  refine aB hg4 (bi rfl rfl) ?_
  refine ab (aN rfl hg4 (rfl : _ = AV.p (.c _)))<|ag ?_
  refine aw rfl (fun hb5 => ?_) (fun hb5 => ?_)
  ·have hb5_ := dT0 hb5
   refine ae hP<|ak rfl<|ag<|am<|E1 rfl rfl ?_
   exact aO (zN hb3 hg4_ hb5_)
  have hb5_ := dF0 hb5
  refine aq<|ae hP<|ak rfl<|ag<|am<|E1 rfl rfl ?_
  exact aO (DF hb3 hg4_ hb5_)
 have hg4_ := dF0 hg4
 iterate 4 refine a7 hg4 ?_
 refine ab (aP rfl hg4 (rfl : _ = AV.p (.c _)))<|ag<|aT rfl rfl<|aq<|ae hP<|ak rfl<|ag<|am<|E1 rfl rfl ?_
 exact aO (yl hb3 hg4_)
theorem vI (a b c : Int) (ha : L 44 a) (hb : L 44 b) (hc : L 44 c) :
  aF Tryz.prog 192 [FA a b c] (I (Int.gcd (Int.gcd a b : Int) c : Int)) := by
 have ia : LB a 44 := ⟨ha⟩
 have ib : LB b 44 := ⟨hb⟩
 have ic : LB c 44 := ⟨hc⟩
 have ig := yI ha hb
 refine aL Tryz.func192 rfl rfl rfl rfl ?_
 refine ae hP<|an ai (aK rfl rfl)<|an ai (ay hT rfl rfl)<|ag<|ae hP<|aD hT rfl<|au hT rfl<|aD hT rfl<|au hT rfl<|ab (ah (BT _ _ lz lz)) ?_
 refine aD hT rfl<|au hT rfl<|ab (ah (BT _ _ lz lz)) ?_
 refine aE hT rfl<|ag<|am<|E2 hT rfl rfl rfl rfl rfl rfl rfl ?_
 exact .refl _
theorem rA (a b c : Int) (ha : L 44 a) (hb : L 44 b) (hc : L 44 c) :
  aF Tryz.prog 146 [FA a b c] (B (prim a b c)) := by
 have ia : LB a 44 := ⟨ha⟩
 have ib : LB b 44 := ⟨hb⟩
 have ic : LB c 44 := ⟨hc⟩
 refine aL Tryz.func146 rfl rfl rfl rfl ?_
 refine ae hP<|an ai (aK rfl rfl)<|ak rfl<|ag<|ae hP<|bD hT rfl rfl rfl rfl rfl rfl<|ab (ah (vI _ _ _ lz lz lz)) ?_
 refine ab (ah (eT _ (by first | assumption | decide))) ?_
 refine ab (ah (ff _ _)) ?_
 refine ak rfl<|ag<|am<|E1 rfl rfl ?_
 exact aW (GF a b c)
theorem ry (a b c x y : Int) (ha : L 36 a) (hb : L 36 b) (hc : L 36 c) (hx : L 36 x) (hy : L 36 y) :
  aF Tryz.prog 147 [FA a b c, I x, I y] (I (vl a b c x y)) := by
 have ia : LB a 36 := ⟨ha⟩
 have ib : LB b 36 := ⟨hb⟩
 have ic : LB c 36 := ⟨hc⟩
 have ix : LB x 36 := ⟨hx⟩
 have iy : LB y 36 := ⟨hy⟩
 refine aL Tryz.func147 rfl rfl rfl rfl ?_
 refine ae hP<|an ai (aK rfl rfl)<|an ai (aK rfl rfl)<|an ai (aK rfl rfl)<|an ai (ay hT rfl rfl)<|ag<|ae hP<|au hT rfl<|aD hT rfl<|au hT rfl<|au hT rfl<|aD hT rfl<|au hT rfl<|au hT rfl<|ab (ah (lG _ _ _ _ lz lz lz lz)) ?_
 refine ab (ah (fA _ _ lz lz)) ?_
 refine aD hT rfl<|au hT rfl<|au hT rfl<|au hT rfl<|ab (ah (fA _ _ lz lz)) ?_
 refine ab (ah (fA _ _ lz lz)) ?_
 refine ab (ah (jS _ _ lz lz)) ?_
 refine aE hT rfl<|ag<|am<|E2 hT rfl rfl rfl rfl rfl rfl rfl ?_
 exact Sub.I (Kk a b c x y)
theorem zS (a b c p q r s : Int) (ha : L 34 a) (hb : L 34 b) (hc : L 34 c) (hp : L 34 p) (hq : L 34 q) (hr : L 34 r) (hs : L 34 s) :
  aF Tryz.prog 81 [FA a b c, MA p q r s] (FA (vl a b c p r) (apB a b c p q r s) (vl a b c q s)) := by
 have ia : LB a 34 := ⟨ha⟩
 have ib : LB b 34 := ⟨hb⟩
 have ic : LB c 34 := ⟨hc⟩
 have ip : LB p 34 := ⟨hp⟩
 have iq : LB q 34 := ⟨hq⟩
 have ir : LB r 34 := ⟨hr⟩
 have is : LB s 34 := ⟨hs⟩
 refine aL Tryz.func81 rfl rfl rfl rfl ?_
 refine ae hP<|an ai (aK rfl rfl)<|an ai (aK rfl rfl)<|an ai (ay hT rfl rfl)<|ag<|ae hP<|ab (ah (eT _ (by first | assumption | decide))) ?_
 refine an ai (ay hT rfl rfl)<|aE hT rfl<|ag<|ae hP<|au hT rfl<|aD hT rfl<|au hT rfl<|aD hT rfl<|au hT rfl<|aD hT rfl<|au hT rfl<|ab (ah (fA _ _ lz lz)) ?_
 refine ab (ah (fA _ _ lz lz)) ?_
 refine ab (ah (fA _ _ lz lz)) ?_
 refine aD hT rfl<|au hT rfl<|aD hT rfl<|au hT rfl<|aD hT rfl<|au hT rfl<|aD hT rfl<|au hT rfl<|aD hT rfl<|au hT rfl<|ab (ah (lG _ _ _ _ lz lz lz lz)) ?_
 refine ab (ah (fA _ _ lz lz)) ?_
 refine au hT rfl<|aD hT rfl<|au hT rfl<|aD hT rfl<|au hT rfl<|aD hT rfl<|au hT rfl<|ab (ah (fA _ _ lz lz)) ?_
 refine ab (ah (fA _ _ lz lz)) ?_
 refine ab (ah (fA _ _ lz lz)) ?_
 refine ab (ah (jS _ _ lz lz)) ?_
 refine ab (ah (jS _ _ lz lz)) ?_
 refine an ai (ay hT rfl rfl)<|aE hT rfl<|ag<|ae hP<|bD hT rfl rfl rfl rfl rfl rfl<|aD hT rfl<|au hT rfl<|aD hT rfl<|au hT rfl<|ab (ah (ry _ _ _ _ _ lz lz lz lz lz)) ?_
 refine au hT rfl<|bD hT rfl rfl rfl rfl rfl rfl<|aD hT rfl<|au hT rfl<|aD hT rfl<|au hT rfl<|ab (ah (ry _ _ _ _ _ lz lz lz lz lz)) ?_
 refine ab (aV hT rfl rfl rfl (es := [_, _, _, _, _, _]) rfl)<|aE hT rfl<|ag<|am ?_
 refine bS rfl (.inr rfl) (aQ hT rfl rfl rfl rfl (cs := [_, _, _, _, _, _]) rfl rfl) ?_ bt
 exact aH (by rw [Jd])
theorem rz (p q r s t u v w : Int) (hp : L 38 p) (hq : L 38 q) (hr : L 38 r) (hs : L 38 s) (ht : L 38 t) (hu : L 38 u) (hv : L 38 v) (hw : L 38 w) :
  aF Tryz.prog 118 [MA p q r s, MA t u v w] (MA (p * t + q * v) (p * u + q * w) (r * t + s * v) (r * u + s * w)) := by
 have ip : LB p 38 := ⟨hp⟩
 have iq : LB q 38 := ⟨hq⟩
 have ir : LB r 38 := ⟨hr⟩
 have is : LB s 38 := ⟨hs⟩
 have it : LB t 38 := ⟨ht⟩
 have iu : LB u 38 := ⟨hu⟩
 have iv : LB v 38 := ⟨hv⟩
 have iw : LB w 38 := ⟨hw⟩
 refine aL Tryz.func118 rfl rfl rfl rfl ?_
 refine ae hP<|an ai (aK rfl rfl)<|an ai (aK rfl rfl)<|an ai (ay hT rfl rfl)<|ag<|ae hP<|aD hT rfl<|au hT rfl<|aD hT rfl<|au hT rfl<|aD hT rfl<|au hT rfl<|aD hT rfl<|au hT rfl<|ab (ah (lG _ _ _ _ lz lz lz lz)) ?_
 iterate 3 refine aD hT rfl<|au hT rfl<|aD hT rfl<|au hT rfl<|aD hT rfl<|au hT rfl<|aD hT rfl<|au hT rfl<|ab (ah (lG _ _ _ _ lz lz lz lz)) ?_
 refine ab (aV hT rfl rfl rfl (es := [_, _, _, _, _, _, _, _]) rfl)<|aE hT rfl<|ag<|am ?_
 refine bS rfl (.inr rfl) (aQ hT rfl rfl rfl rfl (cs := [_, _, _, _, _, _, _, _]) rfl rfl) ?_ bt
 exact .refl _
theorem tK (a b c : Int) (ha : L 34 a) (hb : L 34 b) (hc : L 34 c) :
  aF Tryz.prog 190 [FA a b c] (B (dfn a b c)) := by
 have ia : LB a 34 := ⟨ha⟩
 have ib : LB b 34 := ⟨hb⟩
 have ic : LB c 34 := ⟨hc⟩
 refine aL Tryz.func190 rfl rfl rfl rfl ?_
 refine ae hP<|an ai (aK rfl rfl)<|ak rfl<|ag<|ae hP<|bD hT rfl rfl rfl rfl rfl rfl<|ab (ah (zR _ _ _ lz lz lz)) ?_
 refine ab (bp rfl rfl)<|aj rfl ?_
 refine bd (t := 6) rfl (fun hg1 => ?_) (fun hg1 => ?_)
 ·have hg1_ := bT hg1
  refine aB hg1 (aI hT rfl rfl rfl rfl (cs := [_, _, _, _, _, _]) rfl rfl) ?_
  refine aB hg1 (ah (uB _ _ _ lz lz lz)) ?_
  refine aB hg1 (ah (jF _)) ?_
  refine aB hg1 (bi rfl rfl) ?_
  refine ab (aN rfl hg1 (rfl : _ = AV.p (.c _)))<|ak rfl<|ag<|am<|E1 rfl rfl ?_
  exact aW (EN hg1)
 have hg1_ := bF hg1
 iterate 4 refine a7 hg1 ?_
 refine ab (aP rfl hg1 (rfl : _ = AV.p (.c _)))<|ak rfl<|ag<|am<|E1 rfl rfl ?_
 exact aW (HV hg1)
theorem vH (a b c : Int) (ha : L 34 a) (hb : L 34 b) (hc : L 34 c) :
  aF Tryz.prog 145 [FA a b c] (B (rdd a b c)) := by
 have ia : LB a 34 := ⟨ha⟩
 have ib : LB b 34 := ⟨hb⟩
 have ic : LB c 34 := ⟨hc⟩
 refine aL Tryz.func145 rfl rfl rfl rfl ?_
 refine ae hP<|an ai (aK rfl rfl)<|ak rfl<|ag<|ao<|ae hP<|bD hT rfl rfl rfl rfl rfl rfl<|ab (ah (tK _ _ _ lz lz lz)) ?_
 refine ab (bA rfl)<|aj rfl ?_
 refine bd (t := 7) rfl (fun hg1 => ?_) (fun hg1 => ?_)
 ·have hg1_ := (cy hg1)
  iterate 7 refine a7 hg1 ?_
  refine ab (aN rfl hg1 (rfl : _ = AV.p (.c _)))<|aj rfl<|a7 rfl ?_
  iterate 5 refine a7 rfl ?_
  refine ab (aN rfl rfl (rfl : _ = AV.p (.c _)))<|ag<|aX rfl rfl<|ae hP<|ak rfl<|ag<|am<|E1 rfl rfl ?_
  exact aW (DB hg1)
 have hg1_ := (cn hg1)
 refine aB hg1 (aJ hT rfl rfl rfl rfl rfl rfl) ?_
 refine aB hg1 (aI hT rfl rfl rfl rfl (cs := [_, _]) rfl rfl) ?_
 refine aB hg1 (ah (nV _)) ?_
 refine aB hg1 (aJ hT rfl rfl rfl rfl rfl rfl) ?_
 refine aB hg1 (aI hT rfl rfl rfl rfl (cs := [_, _]) rfl rfl) ?_
 refine aB hg1 (ah (nU _ _)) ?_
 refine aB hg1 (bV rfl rfl) ?_
 refine ab (aP rfl hg1 (rfl : _ = AV.p (.c _)))<|aj rfl ?_
 refine bd (t := 16) rfl (fun hg2 => ?_) (fun hg2 => ?_)
 ·have hg2_ := dT0 hg2
  iterate 6 refine a7 hg2 ?_
  refine ab (aN rfl hg2 (rfl : _ = AV.p (.c _)))<|ag<|aX rfl rfl<|ae hP<|ak rfl<|ag<|am<|E1 rfl rfl ?_
  exact aW (DA hg2)
 have hg2_ := dF0 hg2
 refine aB hg2 (aJ hT rfl rfl rfl rfl rfl rfl) ?_
 refine aB hg2 (aI hT rfl rfl rfl rfl (cs := [_, _]) rfl rfl) ?_
 refine aB hg2 (aJ hT rfl rfl rfl rfl rfl rfl) ?_
 refine aB hg2 (aI hT rfl rfl rfl rfl (cs := [_, _]) rfl rfl) ?_
 refine aB hg2 (ah (nU _ _)) ?_
 refine aB hg2 (bV rfl rfl) ?_
 refine ab (aP rfl hg2 (rfl : _ = AV.p (.c _)))<|ag ?_
 refine aw rfl (fun hb3 => ?_) (fun hb3 => ?_)
 ·have hb3_ := dT0 hb3
  refine ae hP<|ak rfl<|ag<|am<|E1 rfl rfl ?_
  exact aW (Dz hb3)
 have hb3_ := dF0 hb3
 refine aq<|ae hP<|aD hT rfl<|au hT rfl<|ab (ah (nV _)) ?_
 refine aD hT rfl<|au hT rfl<|ab (ah (nU _ _)) ?_
 refine ab (bp rfl rfl)<|aj rfl ?_
 refine bd (t := 31) rfl (fun hg4 => ?_) (fun hg4 => ?_)
 ·have hg4_ := bT hg4
  iterate 6 refine a7 hg4 ?_
  refine ab (aN rfl hg4 (rfl : _ = AV.p (.c _)))<|ak rfl<|ag<|ae hP<|aj rfl<|ab (bA rfl)<|aj rfl<|bn (aS rfl rfl (congrArg not rfl)) (aJ hT rfl rfl rfl rfl rfl rfl) ?_
  refine bn (aS rfl rfl (congrArg not rfl)) (aI hT rfl rfl rfl rfl (cs := [_, _]) rfl rfl) ?_
  refine bn (aS rfl rfl (congrArg not rfl)) (ah (jF _)) ?_
  refine bn (aS rfl rfl (congrArg not rfl)) (dc rfl rfl) ?_
  refine ab (aP rfl (congrArg not rfl) (rfl : _ = AV.p (.c _))) ?_
  refine ak rfl<|ag<|am<|E1 rfl rfl ?_
  exact aW (ux hg1 hg2 hb3 (.inl hg4_))
 have hg4_ := bF hg4
 refine aB hg4 (aJ hT rfl rfl rfl rfl rfl rfl) ?_
 refine aB hg4 (aI hT rfl rfl rfl rfl (cs := [_, _]) rfl rfl) ?_
 refine aB hg4 (aJ hT rfl rfl rfl rfl rfl rfl) ?_
 refine aB hg4 (aI hT rfl rfl rfl rfl (cs := [_, _]) rfl rfl) ?_
 refine aB hg4 (ah (nU _ _)) ?_
 refine aB hg4 (bp rfl rfl) ?_
 refine ab (aP rfl hg4 (rfl : _ = AV.p (.c _)))<|ak rfl<|ag<|ae hP<|aj rfl<|ab (bA rfl)<|aj rfl ?_
 refine bd (t := 41) rfl (fun hg5 => ?_) (fun hg5 => ?_)
 ·have hg5_ := bF (cy hg5)
  iterate 4 refine a7 hg5 ?_
  refine ab (aN rfl hg5 (rfl : _ = AV.p (.c _)))<|ak rfl<|ag<|am<|E1 rfl rfl ?_
  exact aW (Dy hg1 hg2 hb3 hg4_ hg5_)
 have hg5_ := bT (cn hg5)
 refine aB hg5 (aJ hT rfl rfl rfl rfl rfl rfl) ?_
 refine aB hg5 (aI hT rfl rfl rfl rfl (cs := [_, _]) rfl rfl) ?_
 refine aB hg5 (ah (jF _)) ?_
 refine aB hg5 (dc rfl rfl) ?_
 refine ab (aP rfl hg5 (rfl : _ = AV.p (.c _)))<|ak rfl<|ag<|am<|E1 rfl rfl ?_
 exact aW (ux hg1 hg2 hb3 (.inr hg5_))
theorem zQ (a b c p q r : Int) :
  aF Tryz.prog 43 [FA a b c, FA p q r] (B (decide (a = p ∧ b = q ∧ c = r))) := by
 refine aL Tryz.func43 rfl rfl rfl rfl ?_
 refine ae hP<|an ai (aK rfl rfl)<|an ai (aK rfl rfl)<|ak rfl<|ag<|ae hP<|aD hT rfl<|au hT rfl<|aD hT rfl<|au hT rfl<|ab (ah (ff _ _)) ?_
 refine aj rfl ?_
 refine bd (t := 10) rfl (fun hg1 => ?_) (fun hg1 => ?_)
 ·refine aB hg1 (aJ hT rfl rfl rfl rfl rfl rfl) ?_
  refine aB hg1 (aI hT rfl rfl rfl rfl (cs := [_, _]) rfl rfl) ?_
  refine aB hg1 (aJ hT rfl rfl rfl rfl rfl rfl) ?_
  refine aB hg1 (aI hT rfl rfl rfl rfl (cs := [_, _]) rfl rfl) ?_
  refine aB hg1 (ah (ff _ _)) ?_
  refine ab (aN rfl hg1 (rfl : _ = AV.p (.c _)))<|aj rfl ?_
  refine bd (t := 17) rfl (fun hg2 => ?_) (fun hg2 => ?_)
  ·refine aB hg2 (aJ hT rfl rfl rfl rfl rfl rfl) ?_
   refine aB hg2 (aI hT rfl rfl rfl rfl (cs := [_, _]) rfl rfl) ?_
   refine aB hg2 (aJ hT rfl rfl rfl rfl rfl rfl) ?_
   refine aB hg2 (aI hT rfl rfl rfl rfl (cs := [_, _]) rfl rfl) ?_
   refine aB hg2 (ah (ff _ _)) ?_
   refine ab (aN rfl hg2 (rfl : _ = AV.p (.c _)))<|ak rfl<|ag<|am<|E1 rfl rfl ?_
   exact aW (wy hg1 (wy hg2 rfl))
  iterate 5 refine a7 hg2 ?_
  refine ab (aP rfl hg2 (rfl : _ = AV.p (.c _)))<|ak rfl<|ag<|am<|E1 rfl rfl ?_
  exact aW (wy hg1 (Ca hg2))
 iterate 5 refine a7 hg1 ?_
 refine ab (aP rfl hg1 (rfl : _ = AV.p (.c _)))<|aj rfl<|a7 rfl ?_
 iterate 4 refine a7 rfl ?_
 refine ab (aP rfl rfl (rfl : _ = AV.p (.c _)))<|ak rfl<|ag<|am<|E1 rfl rfl ?_
 exact aW (Ca hg1)
theorem oK (b : Nat) (hb : b < 256) :
  aF Tryz.prog 47 [.p (.c (.v (.int .u8 (b : Int))))] (MA (bR b).a (bR b).b (bR b).c (bR b).d) := by
 have i1 : LB ((b : Int) % 8 - 3) 6 := ⟨by unfold L; omega⟩
 have i2 : LB ((b : Int) / 8 % 8 - 4) 6 := ⟨by unfold L; omega⟩
 refine aL Tryz.func47 rfl rfl rfl rfl ?_
 refine ae hP<|an ai (ay hT rfl rfl)<|ag<|ae hP<|aj rfl<|ab (b5 rfl rfl (by decide) (c := (b : Int) % 8) (Int.tmod_eq_emod_of_nonneg (by omega))) ?_
 refine ab (a8 hT rfl rfl rfl rfl (iW0 _ (by omega))) ?_
 refine ab (bC rfl rfl (iW0 _ (by omega))) ?_
 refine ab (ah (lH 1 _ 0 1 (by decide) (by unfold bv; omega) (by decide) (by decide))) ?_
 refine an ai (ay hT rfl rfl)<|aE hT rfl<|ag<|ae hP<|ab (aI hT rfl rfl rfl rfl (cs := [_, _, _, _, _, _, _, _]) rfl rfl)<|ab (ah (lH _ _ _ _ (by first | assumption | decide) (by first | assumption | decide) (by first | assumption | decide) (by first | assumption | decide))) ?_
 refine ab (ah (rz _ _ _ _ _ _ _ _ lz lz lz lz lz lz lz lz)) ?_
 refine aj rfl<|ab (dl rfl rfl (by decide) (c := (b : Int) / 8) (by rw [Int.tdiv_eq_ediv_of_nonneg (by omega), IntWalk.u8_in _ (by omega)])) ?_
 refine ab (b5 rfl rfl (by decide) (c := (b : Int) / 8 % 8) (Int.tmod_eq_emod_of_nonneg (by omega))) ?_
 refine ab (a8 hT rfl rfl rfl rfl (iW0 _ (by omega))) ?_
 refine ab (bC rfl rfl (iW0 _ (by omega))) ?_
 refine ab (ah (lH 1 _ 0 1 (by decide) (by unfold bv; omega) (by decide) (by decide))) ?_
 refine ab (ah (rz _ _ _ _ _ _ _ _ lz lz lz lz lz lz lz lz)) ?_
 refine aE hT rfl<|ag<|am ?_
 refine bS rfl (.inr rfl) (aQ hT rfl rfl rfl rfl (cs := [_, _, _, _, _, _, _, _]) rfl rfl) ?_ bt
 exact .refl _
end
section
open Go Go.AM
end
section
open Go Go.AM
theorem Hg (z : Int) (hz : bv z) :
  aF Tryz.prog 247 [Z z] (I z) := by
 refine aL Tryz.func247 rfl rfl rfl rfl ?_
 refine ae hP<|an ai (ay hT rfl rfl)<|ag<|ae hP<|aj rfl<|ab (ah (ei _ (by first | assumption | decide))) ?_
 refine aE hT rfl<|ag<|am<|E2 hT rfl rfl rfl rfl rfl rfl rfl ?_
 exact .refl _
theorem B2 (x : Int) :
  aF Tryz.prog 218 [I x] (B (decide (x = 1))) := by
 refine aL Tryz.func218 rfl rfl rfl rfl ?_
 refine ae hP<|an ai (aK rfl rfl)<|ak rfl<|ag<|ae hP<|au hT rfl<|ab (ah (Hg _ (by first | assumption | decide))) ?_
 refine ab (ah (dy _ _)) ?_
 refine ab (bp rfl rfl)<|ak rfl<|ag<|am<|E1 rfl rfl ?_
 exact aW (by rw [Bool.eq_iff_iff]; simp [cmpI_eq_zero])
theorem wb (x : Int) :
  aF Tryz.prog 219 [I x] (B (dh x)) := by
 refine aL Tryz.func219 rfl rfl rfl rfl ?_
 refine ae hP<|an ai (aK rfl rfl)<|ak rfl<|ag<|ae hP<|aD hT rfl<|aY hT rfl rfl rfl rfl ?_
 refine ab (aU hT rfl rfl rfl rfl)<|ab (bV rfl rfl)<|aj rfl ?_
 refine bd (t := 7) rfl (fun hg1 => ?_) (fun hg1 => ?_)
 ·have hg1_ := dT0 hg1
  refine aB hg1 (aJ hT rfl rfl rfl rfl rfl rfl) ?_
  refine aB hg1 (bG hT rfl rfl rfl rfl (by first | rfl | exact dz (by omega))) ?_
  refine aB hg1 (by first | exact fp hT rfl rfl rfl rfl rfl rfl (by omega) | exact b6 hT rfl rfl rfl rfl rfl rfl (by omega) (by first | exact gQ (by omega) | simp)) ?_
  refine aB hg1 (ce hT rfl rfl rfl (by first | rfl | exact ly (by omega))) ?_
  refine aB hg1 (oS (m := (wl x.natAbs).getD 0 0) (n := 1) rfl rfl rfl (gL ((bI x.natAbs).getD 0)) (by decide)) ?_
  refine aB hg1 (bp rfl rfl) ?_
  refine ab (aN rfl hg1 (rfl : _ = AV.p (.c _)))<|ak rfl<|ag<|am<|E1 rfl rfl ?_
  exact aW (D2 hg1_)
 have hg1_ := dF0 hg1
 iterate 6 refine a7 hg1 ?_
 refine ab (aP rfl hg1 (rfl : _ = AV.p (.c _)))<|ak rfl<|ag<|am<|E1 rfl rfl ?_
 exact aW (G7 hg1_)
theorem og (x y : Int) (hx : L 44 x) (hy : L 44 y) (h0 : y ≠ 0) :
  aF Tryz.prog 213 [I x, I y] (I (x % y)) := by
 have ix : LB x 44 := ⟨hx⟩
 have iy : LB y 44 := ⟨hy⟩
 refine aL Tryz.func213 rfl rfl rfl rfl ?_
 refine ae hP<|an ai (aK rfl rfl)<|an ai (aK rfl rfl)<|an ai (ay hT rfl rfl)<|ag<|ae hP<|au hT rfl<|au hT rfl<|ab (ah (dJ _ _ lz lz h0)) ?_
 refine ab (az (rfl : _ = AV.t _))<|ab (aC rfl (v := .a _) rfl)<|ab (aC rfl (v := .a _) rfl)<|ab (aC rfl (v := .c _) rfl)<|an ai (ay hT rfl rfl)<|an ai (ay hT rfl rfl)<|aE hT rfl<|aE hT rfl<|ak rfl<|ag<|ae hP<|au hT rfl<|aE hT rfl<|ag<|am<|E2 hT rfl rfl rfl rfl rfl rfl rfl ?_
 exact .refl _
theorem Js (x y : Int) (hx : L 44 x) (hy : L 44 y) (h0 : y ≠ 0) :
  aF Tryz.prog 248 [I x, I y] (I (x / y)) := by
 have ix : LB x 44 := ⟨hx⟩
 have iy : LB y 44 := ⟨hy⟩
 refine aL Tryz.func248 rfl rfl rfl rfl ?_
 refine ae hP<|an ai (aK rfl rfl)<|an ai (aK rfl rfl)<|an ai (ay hT rfl rfl)<|ag<|ae hP<|au hT rfl<|au hT rfl<|ab (ah (dJ _ _ lz lz h0)) ?_
 refine ab (az (rfl : _ = AV.t _))<|ab (aC rfl (v := .a _) rfl)<|ab (aC rfl (v := .a _) rfl)<|ab (aC rfl (v := .c _) rfl)<|an ai (ay hT rfl rfl)<|an ai (ay hT rfl rfl)<|aE hT rfl<|aE hT rfl<|ak rfl<|ag<|ae hP<|au hT rfl<|aE hT rfl<|ag<|am<|E2 hT rfl rfl rfl rfl rfl rfl rfl ?_
 exact .refl _
theorem qE (x m : Int) (hm : m = 4 ∨ m = 8) :
  aF Tryz.prog 221 [I x, .p (.c (.v (.int .u32 m)))] (.p (.c (.v (.int .u32 (x % m))))) := by
 have hm0 : 0 < m ∧ m < 10 := by omega
 have hb := Int.emod_nonneg (x.natAbs : Int) (show m ≠ 0 by omega)
 have hb2 := Int.emod_lt_of_pos (x.natAbs : Int) hm0.1
 refine aL Tryz.func221 rfl rfl rfl rfl ?_
 refine ae hP<|an ai (aK rfl rfl)<|ak rfl<|ag<|ao<|ae hP<|aD hT rfl<|aY hT rfl rfl rfl rfl ?_
 refine ab (aU hT rfl rfl rfl rfl)<|ab (bp rfl rfl)<|ag ?_
 refine aw rfl (fun hb1 => ?_) (fun hb1 => ?_)
 ·have hb1_ := bT hb1
  refine ae hP<|ak rfl<|ag<|am<|E1 rfl rfl ?_
  exact aH (by rw [Ah hb1_])
 have hb1_ := bF hb1
 refine aq<|ae hP<|aD hT rfl<|aY hT rfl rfl rfl rfl ?_
 refine cI ?_
 refine cC hT rfl rfl rfl ?_
 refine aj rfl<|ab (b5 rfl rfl (by omega) (c := (x.natAbs : Int) % m) (by rw [Int.tmod_eq_emod_of_nonneg (by omega)]; exact Eh hm hb1_)) ?_
 refine ak rfl<|ag<|ao<|ae hP<|aD hT rfl<|aY hT rfl rfl rfl rfl ?_
 refine aj rfl ?_
 refine bd (t := 18) rfl (fun hg2 => ?_) (fun hg2 => ?_)
 ·refine aB hg2 (az (rfl : _ = AV.p (.c _))) ?_
  refine aB hg2 (bV rfl rfl) ?_
  refine ab (aN rfl hg2 (rfl : _ = AV.p (.c _)))<|ag ?_
  refine aw rfl (fun hb3 => ?_) (fun hb3 => ?_)
  ·have hb3_ := dT0 hb3
   refine av hP<|aj rfl<|aj rfl<|ab (bC rfl rfl (by first | exact IntWalk.u32_in _ (by omega) | rfl)) ?_
   refine ak rfl<|ag<|ae hP<|aj rfl<|ak rfl<|ag<|am<|E1 rfl rfl ?_
   exact aH (by rw [Eg hm (dT0 hg2) hb3_])
  have hb3_ := dF0 hb3
  refine aq<|ae hP<|aj rfl<|ak rfl<|ag<|am<|E1 rfl rfl ?_
  exact aH (by rw [Ai hm (dT0 hg2) hb3_])
 refine a7 hg2 ?_
 refine a7 hg2 ?_
 refine ab (aP rfl hg2 (rfl : _ = AV.p (.c _)))<|ag<|aT rfl rfl<|aq<|ae hP<|aj rfl<|ak rfl<|ag<|am<|E1 rfl rfl ?_
 exact aH (by rw [Ef (dF0 hg2)])
end
section
open Go Go.AM
theorem xL (x : Int) (hx : L 40 x) (h0 : x ≠ 0) :
  aF Tryz.prog 220 [I x] (.t [PI (tw x).1, PE (tw x).2]) := by
 refine aL Tryz.func220 rfl rfl rfl rfl ?_
 refine ae hP<|an ai (aK rfl rfl)<|an ai (ay hT rfl rfl)<|ak rfl<|ag<|ae hP<|ak rfl<|ag<|ao<|aA<|bq (ι := Int × Int) (fun p => stL [(1, .loc 1 0), (2, .loc 2 0), (4, Z p.2)] [(1, ⟨false, 1, 29, [zn (p.1), zm (p.1)]⟩), (2, ⟨false, 1, 29, [zn (0), zm (0)]⟩)]) (fun p => TwI x p.1 p.2) (fun p => p.1.natAbs) (x, 0) (TwI.start hx h0) (aG ⟨.refl _, .refl _, .refl _, trivial⟩ ⟨rfl, rfl, trivial⟩) ?_
 rintro p hI
 have hlt := hI.lt hx
 have hk0 := hI.k0
 have ib : LB p.1 40 := ⟨hI.lb⟩
 refine ao<|ae hP<|au hT rfl<|ab (ah (wb _)) ?_
 refine ab (bA rfl)<|ag ?_
 refine aw rfl (fun hb1 => ?_) (fun hb1 => ?_)
 ·have hb1_ := (cy hb1)
  refine aq<|aA<|ae hP<|au hT rfl<|ab (ah (Hg _ (by first | assumption | decide))) ?_
  refine ab (ah (Js _ _ lz lz (by first | assumption | decide))) ?_
  refine aE hT rfl<|ag<|av hP<|aj rfl<|bH rfl rfl ?_
  refine ak rfl<|ag ?_
  refine ⟨(p.1 / 2, p.2 + 1), (hI.next (by simpa using hb1)).1, (hI.next (by simpa using hb1)).2, aG ⟨.refl _, .refl _, .refl _, trivial⟩ ⟨rfl, rfl, trivial⟩⟩
 have hb1_ := (cn hb1)
 refine aZ<|ae hP<|au hT rfl<|aj rfl<|aE hT rfl<|ak rfl<|ag<|am ?_
 refine cp rfl (.inr rfl) (aQ hT rfl rfl rfl rfl (cs := [_, _]) rfl rfl) (bO rfl) ?_ bt
 exact aH (by rw [C9 (by simpa using hb1) hI.tw])
theorem iL (a m : Int) (ha : L 40 a) (hm : L 40 m) :
  aF Tryz.prog 184 [I a, I m] (Z (kr a m)) := by
 have ia : LB a 40 := ⟨ha⟩
 have im : LB m 40 := ⟨hm⟩
 have hkb := wm a m
 have hsg := sv (x := a) hkb
 have hsg0 := Int.emod_nonneg a (show (8 : Int) ≠ 0 by omega)
 have hsg1 := Int.emod_lt_of_pos a (show (0 : Int) < 8 by omega)
 refine aL Tryz.func184 rfl rfl rfl rfl ?_
 refine ae hP<|an ai (aK rfl rfl)<|an ai (aK rfl rfl)<|ak rfl<|ag<|ao<|ae hP<|au hT rfl<|ab (ah (db _)) ?_
 refine ab (bp rfl rfl)<|ag ?_
 refine aw rfl (fun hb1 => ?_) (fun hb1 => ?_)
 ·have hb1_ := bT hb1
  refine ao<|ae hP<|au hT rfl<|ab (ah (mB _)) ?_
  refine ab (ah (B2 _)) ?_
  refine ag ?_
  refine aw rfl (fun hb2 => ?_) (fun hb2 => ?_)
  ·refine ae hP<|ak rfl<|ag<|am<|E1 rfl rfl ?_
   exact aO (KA (sgn_zero_iff.1 hb1_) (dT0 hb2))
  refine aq<|ae hP<|ak rfl<|ag<|am<|E1 rfl rfl ?_
  exact aO (JA (sgn_zero_iff.1 hb1_) (dF0 hb2))
 have hb1_ := bF hb1
 refine aq<|cz (ι := Unit) (fun _ => stL [(2, .loc 2 0), (3, .loc 3 0)] [(2, ⟨false, 1, 29, [zn (a), zm (a)]⟩), (3, ⟨false, 1, 29, [zn (m), zm (m)]⟩)]) (fun _ => ¬ (dh a = false ∧ dh m = false)) ?_ ?_
 ·refine ae hP<|au hT rfl<|ab (ah (wb _)) ?_
  refine ab (bA rfl)<|aj rfl ?_
  refine bd (t := 16) rfl (fun hg3 => ?_) (fun hg3 => ?_)
  ·have hg3_ := (cy hg3)
   refine aB hg3 (aI hT rfl rfl rfl rfl (cs := [_, _]) rfl rfl) ?_
   refine aB hg3 (ah (wb _)) ?_
   refine aB hg3 (bA rfl) ?_
   refine ab (aN rfl hg3 (rfl : _ = AV.p (.c _)))<|ag ?_
   refine aw rfl (fun hb4 => ?_) (fun hb4 => ?_)
   ·have hb4_ := (cy hb4)
    refine ae hP<|ak rfl<|ag<|am<|E1 rfl rfl ?_
    exact aO (Ek (fun e => hb1_ (sgn_zero_iff.2 e)) hg3_ hb4_)
   have hb4_ := (cn hb4)
   refine aq ?_
   refine ⟨(), fun x => (by rw [x.2] at hb4_; cases hb4_), aG ⟨.refl _, .refl _, trivial⟩ ⟨rfl, rfl, trivial⟩⟩
  have hg3_ := (cn hg3)
  iterate 3 refine a7 hg3 ?_
  refine ab (aP rfl hg3 (rfl : _ = AV.p (.c _)))<|ag<|aT rfl rfl<|aq ?_
  refine ⟨(), fun x => (by rw [x.1] at hg3_; cases hg3_), aG ⟨.refl _, .refl _, trivial⟩ ⟨rfl, rfl, trivial⟩⟩
 intro _ hpar
 refine ae hP<|ak rfl<|ag<|cz (ι := Unit) (fun _ => stL [(2, .loc 2 0), (3, .loc 3 0), (5, Z (k0K a m))] [(2, ⟨false, 1, 29, [zn (a), zm (a)]⟩), (3, ⟨false, 1, 29, [zn ((m.natAbs : Int)), zm ((m.natAbs : Int))]⟩)]) (fun _ => True) ?_ ?_
 ·refine ae hP<|aD hT rfl<|aY hT rfl rfl rfl rfl ?_
  refine ag ?_
  refine aw rfl (fun hb5 => ?_) (fun hb5 => ?_)
  ·refine ao<|ae hP<|aD hT rfl<|aY hT rfl rfl rfl rfl ?_
   refine ag ?_
   refine aw rfl (fun hb6 => ?_) (fun hb6 => ?_)
   ·refine av hP<|ak rfl<|ag<|av hP<|au hT rfl<|ab (ah (jt _)) ?_
    refine aE hT rfl<|ag ?_
    refine ⟨(), trivial, aG ⟨.refl _, .refl _, aO (by unfold k0K; rw [if_pos ⟨dT0 hb5, dT0 hb6⟩]), trivial⟩ ⟨rfl, by rw [uN (dT0 hb5)]; rfl, trivial⟩⟩
   refine aq<|av hP<|au hT rfl<|ab (ah (jt _)) ?_
   refine aE hT rfl<|ag ?_
   refine ⟨(), trivial, aG ⟨.refl _, .refl _, aO (by unfold k0K; rw [if_neg (fun x => dF0 hb6 x.2)]), trivial⟩ ⟨rfl, by rw [uN (dT0 hb5)]; rfl, trivial⟩⟩
  refine aq ?_
  refine ⟨(), trivial, aG ⟨.refl _, .refl _, aO (by unfold k0K; rw [if_neg (fun x => dF0 hb5 x.1)]), trivial⟩ ⟨rfl, by rw [DQ (dF0 hb5)]; rfl, trivial⟩⟩
 intro _ _
 have hn0 : (m.natAbs : Int) ≠ 0 := fun e => hb1_ (sgn_zero_iff.2 (by omega))
 refine ae hP<|au hT rfl<|ab (ah (xL _ lz hn0)) ?_
 refine ab (az (rfl : _ = AV.t _))<|ab (aC rfl (v := .a _) rfl)<|ab (aC rfl (v := .c _) rfl)<|aE hT rfl<|ak rfl<|ag<|cz (ι := Unit) (fun _ => stL [(2, .loc 2 0), (3, .loc 3 0), (5, Z (k1K a m))] [(2, ⟨false, 1, 29, [zn (a), zm (a)]⟩), (3, ⟨false, 1, 29, [zn ((tw (m.natAbs : Int)).1), zm ((tw (m.natAbs : Int)).1)]⟩)]) (fun _ => True) ?_ ?_
 ·refine ae hP<|aj rfl<|ab (b5 rfl rfl (by decide) (c := (tw (m.natAbs : Int)).2 % 2) (Int.tmod_eq_emod_of_nonneg (by have := Gd (x := (m.natAbs : Int)) lz hn0; omega))) ?_
  refine ab (bp rfl rfl)<|ag ?_
  refine aw rfl (fun hb7 => ?_) (fun hb7 => ?_)
  ·have hb7_ := bT hb7
   refine av hP<|aj rfl<|au hT rfl<|ab (ah (qE _ _ (by simp))) ?_
   refine ab (lr hT rfl rfl rfl rfl (.head _) rfl rfl (by omega)) ?_
   refine ab (ce hT rfl rfl rfl (un a)) ?_
   refine ab (bU rfl rfl (by first | exact iW0 _ (by omega) | rfl)) ?_
   refine ak rfl<|ag ?_
   refine ⟨(), trivial, aG ⟨.refl _, .refl _, aO (by unfold k1K; rw [if_pos hb7_]), trivial⟩ ⟨rfl, rfl, trivial⟩⟩
  have hb7_ := bF hb7
  refine aq ?_
  refine ⟨(), trivial, aG ⟨.refl _, .refl _, aO (by unfold k1K; rw [if_neg hb7_]), trivial⟩ ⟨rfl, rfl, trivial⟩⟩
 intro _ _
 have htw : LB (tw (m.natAbs : Int)).1 40 := Ge lz hn0
 have ht0 : (tw (m.natAbs : Int)).1 ≠ 0 := (fS _ _ (Nat.le_refl _) hn0).2.1
 refine ae hP<|au hT rfl<|au hT rfl<|ab (ah (og _ _ lz lz ht0)) ?_
 refine aE hT rfl<|ag<|ao<|aA<|bq (ι := (Int × Int × Int) × Nat) (fun i => stL [(2, .loc 2 0), (3, .loc 3 0), (5, Z (i.1.1))] [(2, ⟨false, 1, 29, [zn (i.1.2.1), zm (i.1.2.1)]⟩), (3, ⟨false, 1, 29, [zn (i.1.2.2), zm (i.1.2.2)]⟩)]) (fun i => KrI (RK_ a m) i.2 i.1.1 i.1.2.1 i.1.2.2) (fun i => i.1.2.1.natAbs) ((k1K a m, a % (tw (m.natAbs : Int)).1, (tw (m.natAbs : Int)).1), _) (KrI.start (fun e => hb1_ (sgn_zero_iff.2 e)) ha hm) (aG ⟨.refl _, .refl _, .refl _, trivial⟩ ⟨rfl, rfl, trivial⟩) ?_
 rintro i hI
 have h5 := hI.hk
 have j1 : LB i.1.2.1 40 := ⟨hI.la⟩
 have j2 : LB i.1.2.2 40 := ⟨hI.ln⟩
 refine ao<|ae hP<|au hT rfl<|ab (ah (db _)) ?_
 refine ab (bV rfl rfl)<|ag ?_
 refine aw rfl (fun hb8 => ?_) (fun hb8 => ?_)
 ·have hb8_ := dT0 hb8
  have hapos : 0 < i.1.2.1 := sgn_gt_iff.1 hb8_
  have hne : i.1.2.1 ≠ 0 := by omega
  have hsg2 := sv (x := i.1.2.2) h5
  have hkk := KrI.next hI hapos
  have hw : LB (tw i.1.2.1).1 40 := Ge hI.la hne
  have hw0 : (tw i.1.2.1).1 ≠ 0 := (fS _ _ (Nat.le_refl _) hne).2.1
  have hk1b := JE (a := i.1.2.1) (n := i.1.2.2) h5
  have hsg0 := Int.emod_nonneg i.1.2.2 (show (8 : Int) ≠ 0 by omega)
  have hsg1 := Int.emod_lt_of_pos i.1.2.2 (show (0 : Int) < 8 by omega)
  refine aq<|aA<|ae hP<|au hT rfl<|ab (ah (xL _ lz hne)) ?_
  refine ab (az (rfl : _ = AV.t _))<|ab (aC rfl (v := .a _) rfl)<|ab (aC rfl (v := .c _) rfl)<|aE hT rfl<|ak rfl<|ag<|cz (ι := Unit) (fun _ => stL [(2, .loc 2 0), (3, .loc 3 0), (5, Z ((k1F i.1.1 i.1.2.1 i.1.2.2)))] [(2, ⟨false, 1, 29, [zn ((tw i.1.2.1).1), zm ((tw i.1.2.1).1)]⟩), (3, ⟨false, 1, 29, [zn (i.1.2.2), zm (i.1.2.2)]⟩)]) (fun _ => True) ?_ ?_
  ·refine ae hP<|aj rfl<|ab (b5 rfl rfl (by decide) (c := (tw i.1.2.1).2 % 2) (Int.tmod_eq_emod_of_nonneg (by have := Gd (x := i.1.2.1) lz hne; omega))) ?_
   refine ab (bp rfl rfl)<|ag ?_
   refine aw rfl (fun hb9 => ?_) (fun hb9 => ?_)
   ·have hb9_ := bT hb9
    refine av hP<|aj rfl<|au hT rfl<|ab (ah (qE _ _ (by simp))) ?_
    refine ab (lr hT rfl rfl rfl rfl (.head _) rfl rfl (by omega)) ?_
    refine ab (ce hT rfl rfl rfl (un i.1.2.2)) ?_
    refine ab (bU rfl rfl (by first | exact iW0 _ (by omega) | rfl)) ?_
    refine ak rfl<|ag ?_
    refine ⟨(), trivial, aG ⟨.refl _, .refl _, aO (by unfold k1F; rw [if_pos hb9_]), trivial⟩ ⟨rfl, rfl, trivial⟩⟩
   have hb9_ := bF hb9
   refine aq ?_
   refine ⟨(), trivial, aG ⟨.refl _, .refl _, aO (by unfold k1F; rw [if_neg hb9_]), trivial⟩ ⟨rfl, rfl, trivial⟩⟩
  intro _ _
  refine ao<|ae hP<|au hT rfl<|ab (ah (qE _ _ (by simp))) ?_
  refine ab (bp rfl rfl)<|aj rfl ?_
  refine bd (t := 64) rfl (fun hg10 => ?_) (fun hg10 => ?_)
  ·have hg10_ := bT hg10
   refine aB hg10 (aI hT rfl rfl rfl rfl (cs := [_, _]) rfl rfl) ?_
   refine aB hg10 (ah (qE _ _ (by simp))) ?_
   refine aB hg10 (bp rfl rfl) ?_
   refine ab (aN rfl hg10 (rfl : _ = AV.p (.c _)))<|ag ?_
   refine aw rfl (fun hb11 => ?_) (fun hb11 => ?_)
   ·have hb11_ := bT hb11
    refine av hP<|aj rfl<|ab (gx rfl (by first | exact iW0 _ (by omega) | rfl)) ?_
    refine ak rfl<|ag<|av hP<|au hT rfl<|au hT rfl<|ab (ah (og _ _ lz lz hw0)) ?_
    refine au hT rfl<|aE hT rfl<|aE hT rfl<|ag ?_
    refine ⟨((k2F (k1F i.1.1 i.1.2.1 i.1.2.2) i.1.2.1 i.1.2.2, i.1.2.2 % (tw i.1.2.1).1, (tw i.1.2.1).1), i.2 - 1), (hI.next hapos).1, (hI.next hapos).2, aG ⟨.refl _, .refl _, aO (by show _ = k2F _ _ _; unfold k2F; rw [if_pos ⟨hg10_, hb11_⟩]; omega), trivial⟩ ⟨rfl, rfl, trivial⟩⟩
   have hb11_ := bF hb11
   refine aq<|av hP<|au hT rfl<|au hT rfl<|ab (ah (og _ _ lz lz hw0)) ?_
   refine au hT rfl<|aE hT rfl<|aE hT rfl<|ag ?_
   refine ⟨((k2F (k1F i.1.1 i.1.2.1 i.1.2.2) i.1.2.1 i.1.2.2, i.1.2.2 % (tw i.1.2.1).1, (tw i.1.2.1).1), i.2 - 1), (hI.next hapos).1, (hI.next hapos).2, aG ⟨.refl _, .refl _, aO (by show _ = k2F _ _ _; unfold k2F; rw [if_neg (fun x => hb11_ x.2)]), trivial⟩ ⟨rfl, rfl, trivial⟩⟩
  have hg10_ := bF hg10
  iterate 3 refine a7 hg10 ?_
  refine ab (aP rfl hg10 (rfl : _ = AV.p (.c _)))<|ag<|aT rfl rfl<|aq<|av hP<|au hT rfl<|au hT rfl<|ab (ah (og _ _ lz lz hw0)) ?_
  refine au hT rfl<|aE hT rfl<|aE hT rfl<|ag ?_
  refine ⟨((k2F (k1F i.1.1 i.1.2.1 i.1.2.2) i.1.2.1 i.1.2.2, i.1.2.2 % (tw i.1.2.1).1, (tw i.1.2.1).1), i.2 - 1), (hI.next hapos).1, (hI.next hapos).2, aG ⟨.refl _, .refl _, aO (by show _ = k2F _ _ _; unfold k2F; rw [if_neg (fun x => hg10_ x.1)]), trivial⟩ ⟨rfl, rfl, trivial⟩⟩
 have hb8_ := dF0 hb8
 refine aZ<|ao<|ae hP<|au hT rfl<|ab (ah (B2 _)) ?_
 refine ab (bA rfl)<|ag ?_
 refine aw rfl (fun hb12 => ?_) (fun hb12 => ?_)
 ·have hb12_ := (cy hb12)
  refine ae hP<|ak rfl<|ag<|am<|E1 rfl rfl ?_
  exact aO (by rw [wj (fun e => hb1_ (sgn_zero_iff.2 e)) hpar, hI.stop (fun h => hb8_ (sgn_gt_iff.2 h)), if_neg (dF0 hb12_)])
 have hb12_ := (cn hb12)
 refine aq<|ae hP<|aj rfl<|ak rfl<|ag<|am<|E1 rfl rfl ?_
 exact aO (by rw [wj (fun e => hb1_ (sgn_zero_iff.2 e)) hpar, hI.stop (fun h => hb8_ (sgn_gt_iff.2 h)), if_pos (dT0 hb12_)])
end
section
open Go Go.AM
end
section
open Go Go.AM
theorem Jt (a m : Int) (ha : L 40 a) (hm : L 40 m) (h0 : 0 < m) :
  aF Tryz.prog 180 [I a, I m] (.t [PI (a % m), PE 0]) := by
 have ia : LB a 40 := ⟨ha⟩
 have im : LB m 40 := ⟨hm⟩
 refine aL Tryz.func180 rfl rfl rfl rfl ?_
 refine ae hP<|an ai (aK rfl rfl)<|an ai (aK rfl rfl)<|an ai (ay hT rfl rfl)<|ak rfl<|ag<|ao<|ae hP<|au hT rfl<|ab (ah (db _)) ?_
 refine ab (bi rfl rfl)<|ag<|aT rfl (decide_eq_false (by have := sgn_gt_iff.2 h0; omega)) ?_
 refine aq<|ae hP<|au hT rfl<|au hT rfl<|ab (ah (og _ _ lz lz (by omega))) ?_
 refine aE hT rfl<|ak rfl<|ag<|am ?_
 refine cp rfl (.inr rfl) (aQ hT rfl rfl rfl rfl (cs := [_, _]) rfl rfl) (bO rfl) ?_ bt
 exact .refl _
theorem wA (a b c : Int) (ha : L 20 a) (hb : L 20 b) (hc : L 20 c) :
  aF Tryz.prog 182 [FA a b c] (.p (PE (rfE ⟨a, b, c⟩))) := by
 have ia : LB a 20 := ⟨ha⟩
 have ib : LB b 20 := ⟨hb⟩
 have ic : LB c 20 := ⟨hc⟩
 refine aL Tryz.func182 rfl rfl rfl rfl ?_
 refine ae hP<|an ai (aK rfl rfl)<|ak rfl<|ag<|ae hP<|bD hT rfl rfl rfl rfl rfl rfl<|ab (ah (mn _ _ _ lz lz lz)) ?_
 refine ak rfl<|ag<|ao<|aA<|ae hP<|aj rfl<|ab (bw rfl rfl)<|ak rfl<|ag ?_
 refine aw rfl (fun hb1 => ?_) (fun hb1 => ?_)
 ·have hb1_ := cw hb1
  refine ae hP<|aj rfl<|ak rfl<|ag<|am<|E1 rfl rfl ?_
  exact aH (congrArg (fun x => AV.p (PE x)) (I2 (f := ⟨a, b, c⟩) (KQ hb1)))
 have hb1_ := b9 hb1
 refine ae hP<|bD hT rfl rfl rfl rfl rfl rfl<|ab (ah (fE _ _ _ lz lz lz)) ?_
 refine ab (ah (db _)) ?_
 refine ab (bV rfl rfl)<|ak rfl<|ag ?_
 refine aw rfl (fun hb2 => ?_) (fun hb2 => ?_)
 ·have hb2_ := dT0 hb2
  refine ae hP<|ak rfl<|ag<|am<|E1 rfl rfl ?_
  exact aH (congrArg (fun x => AV.p (PE x)) (I0 (f := ⟨a, b, c⟩) (wI hb1) hb2_))
 have hb2_ := dF0 hb2
 refine ae hP<|bD hT rfl rfl rfl rfl rfl rfl<|ab (ah (j7 _ _ _ lz lz lz)) ?_
 refine ab (bA rfl)<|ak rfl<|ag ?_
 refine aw rfl (fun hb3 => ?_) (fun hb3 => ?_)
 ·have hb3_ := (cy hb3)
  refine ae hP<|ak rfl<|ag<|am<|E1 rfl rfl ?_
  exact aH (congrArg (fun x => AV.p (PE x)) (IZ (f := ⟨a, b, c⟩) (wI hb1) hb2_ (cy hb3)))
 have hb3_ := (cn hb3)
 refine aq<|ae hP<|ak rfl<|ag<|am<|E1 rfl rfl ?_
 exact aH (congrArg (fun x => AV.p (PE x)) (IY (f := ⟨a, b, c⟩) (wI hb1) hb2_ (cn hb3)))
theorem wB (a b c : Int) (ha : L 26 a) (hb : L 26 b) (hc : L 26 c) :
  aF Tryz.prog 216 [FA a b c] (FA (rdF a b c).a (rdF a b c).b (rdF a b c).c) := by
 have ia : LB a 26 := ⟨ha⟩
 have ib : LB b 26 := ⟨hb⟩
 have ic : LB c 26 := ⟨hc⟩
 refine aL Tryz.func216 rfl rfl rfl rfl ?_
 refine ae hP<|an ai (aK rfl rfl)<|an ai (ay hT rfl rfl)<|ag<|ae hP<|bD hT rfl rfl rfl rfl rfl rfl<|ab (ah (gZ _ _ _ lz lz lz)) ?_
 refine ab (az (rfl : _ = AV.t _))<|ab (aC rfl (v := .a _) rfl)<|ab (aC rfl (v := .a _) rfl)<|ab (aC rfl (v := .c _) rfl)<|an ai (ay hT rfl rfl)<|an ai (ay hT rfl rfl)<|aE hT rfl<|aE hT rfl<|ak rfl<|ag<|ae hP<|bD hT rfl rfl rfl rfl rfl rfl<|aE hT rfl<|ag<|am ?_
 refine bS rfl (.inr rfl) (aQ hT rfl rfl rfl rfl (cs := [_, _, _, _, _, _]) rfl rfl) ?_ bt
 exact .refl _
theorem s9 (a b c : Int) (ha : L 20 a) (hb : L 20 b) (hc : L 20 c) :
  aF Tryz.prog 215 [FA a b c] (FA (prF (dsc a b c)).a (prF (dsc a b c)).b (prF (dsc a b c)).c) := by
 have ia : LB a 20 := ⟨ha⟩
 have ib : LB b 20 := ⟨hb⟩
 have ic : LB c 20 := ⟨hc⟩
 refine aL Tryz.func215 rfl rfl rfl rfl ?_
 refine ae hP<|an ai (aK rfl rfl)<|an ai (ay hT rfl rfl)<|ag<|ae hP<|bD hT rfl rfl rfl rfl rfl rfl<|ab (ah (fE _ _ _ lz lz lz)) ?_
 refine ab (ah (mO _ lz)) ?_
 refine ab (az (rfl : _ = AV.t _))<|ab (aC rfl (v := .a _) rfl)<|ab (aC rfl (v := .c _) rfl)<|an ai (ay hT rfl rfl)<|aE hT rfl<|ak rfl<|ag<|ae hP<|bD hT rfl rfl rfl rfl rfl rfl<|aE hT rfl<|ag<|am ?_
 refine bS rfl (.inr rfl) (aQ hT rfl rfl rfl rfl (cs := [_, _, _, _, _, _]) rfl rfl) ?_ bt
 exact .refl _
end
section
open Go Go.AM
theorem Aq (x : Int) (hx : 9223372036854775808 ≤ x.natAbs ∧ x.natAbs < 18446744073709551616) : aF Tryz.prog 125 [I x] (.t [.c (.v (.int .i64 (lwV x))), PB (lwO x)]) := sB x hx.2
end
end Go.Proofs.YthaiejfjnllglaaGreatDoor
