import Derived.Test.YthaiejfjnllglaaGreatDoorOBF
import Derived.Test.YthaiejfjnllglaaGreatDoorOBB
import Derived.Test.YthaiejfjnllglaaGreatDoorOBE
import Derived.Test.YthaiejfjnllglaaGreatDoorOBC
set_option maxRecDepth 100000
set_option maxHeartbeats 6000000
namespace Go.Proofs.YthaiejfjnllglaaGreatDoor
section
open Go Go.AM
theorem Fg (a b c p q r s t u v w : Int) (ha : L 34 a) (hb : L 34 b) (hc : L 34 c) (hp : L 34 p) (hq : L 34 q) (hr : L 34 r) (hs : L 34 s) (ht : L 34 t) (hu : L 34 u) (hv : L 34 v) (hw : L 34 w) :
  CallM Tryz.prog 114 [.loc 0 0, I t, I u, I v, I w] (upd O 0 (some ⟨false, 1, 163, [zn (a), zm (a), zn (b), zm (b), zn (c), zm (c), zn (p), zm (p), zn (q), zm (q), zn (r), zm (r), zn (s), zm (s)]⟩)) (.t []) (upd O 0 (some ⟨false, 1, 163, [zn (vl a b c t v), zm (vl a b c t v), zn (apB a b c t u v w), zm (apB a b c t u v w), zn (vl a b c u w), zm (vl a b c u w), zn (p * t + q * v), zm (p * t + q * v), zn (p * u + q * w), zm (p * u + q * w), zn (r * t + s * v), zm (r * t + s * v), zn (r * u + s * w), zm (r * u + s * w)]⟩)) := by
 have ia : LB a 34 := ⟨ha⟩
 have ib : LB b 34 := ⟨hb⟩
 have ic : LB c 34 := ⟨hc⟩
 have ip : LB p 34 := ⟨hp⟩
 have iq : LB q 34 := ⟨hq⟩
 have ir : LB r 34 := ⟨hr⟩
 have is : LB s 34 := ⟨hs⟩
 have it : LB t 34 := ⟨ht⟩
 have iu : LB u 34 := ⟨hu⟩
 have iv : LB v 34 := ⟨hv⟩
 have iw : LB w 34 := ⟨hw⟩
 refine lN (np := 1) Tryz.func114 (by kernel_rfl) rfl rfl (bL0 rfl) pj nK rfl ?_
 refine ae hP<|ao ai (aJ rfl rfl)<|ao ai (aJ rfl rfl)<|ao ai (aJ rfl rfl)<|ao ai (aJ rfl rfl)<|ag<|ae hP<|av hT rfl<|av hT rfl<|av hT rfl<|av hT rfl<|ab (aV hT rfl rfl rfl (es := [_, _, _, _, _, _, _, _]) rfl)<|ao ai (aA hT rfl rfl)<|aG hT rfl<|ag<|aw hP<|ab (ay (rfl : _ = AV.loc _ _))<|ab (ay (rfl : _ = AV.loc _ _))<|ab (ay (rfl : _ = AV.loc _ _))<|ab (cy rfl)<|aE hT rfl<|bA hT rfl rfl rfl rfl rfl rfl<|ab (aL hT rfl rfl rfl rfl (cs := [_, _, _, _, _, _, _, _]) rfl rfl)<|ab (ah (Fh _ _ _ _ _ _ _ lz lz lz lz lz lz lz)) ?_
 refine ab (ay (rfl : _ = AV.loc _ _))<|ab (cy rfl)<|aE hT rfl<|ab (aL hT rfl rfl rfl rfl (cs := [_, _, _, _, _, _, _, _]) rfl rfl)<|ab (aL hT rfl rfl rfl rfl (cs := [_, _, _, _, _, _, _, _]) rfl rfl)<|ab (ah (vD _ _ _ _ _ _ _ _ lz lz lz lz lz lz lz lz)) ?_
 refine ab (cy rfl)<|aE hT rfl<|aG hT rfl<|ab (cy rfl)<|aE hT rfl<|aG hT rfl<|ag ?_
 refine mB rfl (.inl rfl)  ?_ (nS rfl)
 exact .refl _
theorem yC (m : Nat) (a b c p q r s t u v w : Int) (ha : L 34 a) (hb : L 34 b) (hc : L 34 c) (hp : L 34 p) (hq : L 34 q) (hr : L 34 r) (hs : L 34 s) (ht : L 34 t) (hu : L 34 u) (hv : L 34 v) (hw : L 34 w) :
  CallM Tryz.prog 114 [.loc m 0, I t, I u, I v, I w] (upd O m (some ⟨false, 1, 163, [zn (a), zm (a), zn (b), zm (b), zn (c), zm (c), zn (p), zm (p), zn (q), zm (q), zn (r), zm (r), zn (s), zm (s)]⟩)) (.t []) (upd O m (some ⟨false, 1, 163, [zn (vl a b c t v), zm (vl a b c t v), zn (apB a b c t u v w), zm (apB a b c t u v w), zn (vl a b c u w), zm (vl a b c u w), zn (p * t + q * v), zm (p * t + q * v), zn (p * u + q * w), zm (p * u + q * w), zn (r * t + s * v), zm (r * t + s * v), zn (r * u + s * w), zm (r * u + s * w)]⟩)) := CallM.ren1 m (Fg a b c p q r s t u v w ha hb hc hp hq hr hs ht hu hv hw) rfl rfl
theorem iF (a b c : Int) (ha : L 26 a) (hb : L 26 b) (hc : L 26 c) :
  aI Tryz.prog 41 [FA a b c] (.t [PF (rdF a b c), PM (rdM a b c), PE (rdE a b c)]) := by
 have ia : LB a 26 := ⟨ha⟩
 have ib : LB b 26 := ⟨hb⟩
 have ic : LB c 26 := ⟨hc⟩
 obtain ⟨M, hMa, hMc, hM0, hML⟩ := ha.max2 hc
 refine aK Tryz.func41 rfl rfl rfl rfl ?_
 refine ae hP<|ao ai (aJ rfl rfl)<|ao ai (aA hT rfl rfl)<|ao ai (aA hT rfl rfl)<|aj rfl<|ag<|ae hP<|bA hT rfl rfl rfl rfl rfl rfl<|ab (ah (mR _ _ _ lz lz lz)) ?_
 refine aj rfl<|ag<|aq<|ae hP<|ak rfl<|ab (bq rfl rfl)<|ak rfl ?_
 refine a6 (t := 16) rfl (fun hg1 => ?_) (fun hg1 => ?_)
 ·have hg1_ := bT hg1
  refine aC hg1 (aL hT rfl rfl rfl rfl (cs := [_, _, _, _, _, _]) rfl rfl) ?_
  refine aC hg1 (ah (eZ _ _ _ lz lz lz)) ?_
  refine aC hg1 (ah (cW _)) ?_
  refine aC hg1 (bO rfl rfl) ?_
  refine ab (aO rfl hg1 (rfl : _ = AV.p (.c _)))<|ag ?_
  refine az rfl (fun hb2 => ?_) (fun hb2 => ?_)
  ·have hb2_ := dT0 hb2
   refine aw hP<|aj rfl<|ag<|aq<|ae hP<|ak rfl<|ab (bo rfl rfl)<|ag<|aW rfl rfl<|ae hP<|ab (aV hT rfl rfl rfl (es := [_, _, _, _, _, _]) rfl)<|ab (aV hT rfl rfl rfl (es := [_, _, _, _, _, _, _, _]) rfl)<|ak rfl<|aG hT rfl<|aG hT rfl<|aj rfl<|ag<|am ?_
   refine c7 rfl (.inr rfl) (aR hT rfl rfl rfl rfl (cs := [_, _, _, _, _, _]) rfl rfl) (aR hT rfl rfl rfl rfl (cs := [_, _, _, _, _, _, _, _]) rfl rfl) (bN rfl) ?_ br
   exact aH (vr (K3 hg1 hb2_) (by decide))
  have hb2_ := dF0 hb2
  refine au<|aq<|ae hP<|ak rfl<|ab (bo rfl rfl)<|ag<|aQ rfl (by rw [bne, hg1]; rfl) ?_
  refine au<|ae hP<|ab (ah (eo _ (by first | assumption | decide))) ?_
  refine ab (ah (eo _ (by first | assumption | decide))) ?_
  refine ao ai (aA hT rfl rfl)<|ao ai (aA hT rfl rfl)<|aG hT rfl<|aG hT rfl<|ag<|ae hP<|bA hT rfl rfl rfl rfl rfl rfl<|av hT rfl<|av hT rfl<|av hT rfl<|av hT rfl<|ab (aV hT rfl rfl rfl (es := [_, _, _, _, _, _, _, _]) rfl)<|ab (aV hT rfl rfl rfl (es := [_, _, _, _, _, _, _, _, _, _, _, _, _, _]) rfl)<|ao ai (aJ rfl rfl)<|ab (bh (rfl : _ = AV.loc _ _))<|ag<|aq<|aB ?_
  have he0 := K4 hg1 hb2_
  have hp0 := mQ he0
  refine bn (ι := (Fm × Mt) × Nat) (fun i => stL [(2, .loc 2 0), (3, .loc 3 0), (6, .loc 6 0), (7, .loc 7 0), (8, .loc 36 0)] [(2, ⟨false, 1, 46, FL 0 0 0⟩), (3, ⟨false, 1, 87, ML 0 0 0 0⟩), (6, ⟨false, 1, 29, [zn 1, zm 1]⟩), (7, ⟨false, 1, 29, [zn 0, zm 0]⟩), (36, ⟨false, 1, 163, [zn (i.1.1.a), zm (i.1.1.a), zn (i.1.1.b), zm (i.1.1.b), zn (i.1.1.c), zm (i.1.1.c), zn (i.1.2.a), zm (i.1.2.a), zn (i.1.2.b), zm (i.1.2.b), zn (i.1.2.c), zm (i.1.2.c), zn (i.1.2.d), zm (i.1.2.d)]⟩)]) (fun i => AM.Good ⟨a, b, c⟩ M i.1 ∧ i.1.1.mu ≤ i.2 ∧ fj i.2 i.1 = fj (Fm.mu ⟨a, b, c⟩) (⟨a, b, c⟩, .one)) (fun i => i.2) ((⟨a, b, c⟩, .one), Fm.mu ⟨a, b, c⟩) ⟨tP hp0 hMa hMc, Nat.le_refl _, rfl⟩ (aF ⟨.refl _, .refl _, .refl _, .refl _, .refl _, trivial⟩ ⟨rfl, rfl, rfl, rfl, rfl, trivial⟩) ?_
  rintro ⟨s, k⟩ ⟨hG, hk, hR⟩
  have hL := hG.L hp0 hMa hMc hML
  have i1 : LB s.1.a 27 := ⟨hL.1.a⟩
  have i2 : LB s.1.b 27 := ⟨hL.1.b⟩
  have i3 : LB s.1.c 27 := ⟨hL.1.c⟩
  have i4 : LB s.2.a 27 := ⟨hL.2.a⟩
  have i5 : LB s.2.b 27 := ⟨hL.2.b⟩
  have i6 : LB s.2.c 27 := ⟨hL.2.c⟩
  have i7 : LB s.2.d 27 := ⟨hL.2.d⟩
  have hs0 : 2 * s.1.a ≠ 0 := by
   have h9 : 0 < s.1.a := hG.pos.1
   omega
  have i8 : LB s.1.k 28 := ⟨by unfold Fm.k; exact lz⟩
  refine aq<|ae hP<|ab (ay (rfl : _ = AV.loc _ _))<|ab (cy rfl)<|aE hT rfl<|bA hT rfl rfl rfl rfl rfl rfl<|ab (ah (qt _ _ _ lz lz lz)) ?_
  refine ab (bv rfl)<|ag ?_
  refine az rfl (fun hb3 => ?_) (fun hb3 => ?_)
  ·have hb3_ := (cA hb3)
   refine au<|aB<|ae hP<|ab (ay (rfl : _ = AV.loc _ _))<|ab (cy rfl)<|aE hT rfl<|aE hT rfl<|av hT rfl<|ab (ay (rfl : _ = AV.loc _ _))<|ab (cy rfl)<|aE hT rfl<|aE hT rfl<|av hT rfl<|ab (ah (jK _ _ lz lz)) ?_
   refine ab (ah (eo _ (by first | assumption | decide))) ?_
   refine ab (ay (rfl : _ = AV.loc _ _))<|ab (cy rfl)<|aE hT rfl<|aE hT rfl<|av hT rfl<|ab (bg hT rfl rfl rfl (es := [_, _, _, _]) rfl rfl rfl)<|ab (ah (cY _ _ lz lz)) ?_
   refine ab (ah (dB _ _ lz lz hs0)) ?_
   refine ab (ay (rfl : _ = AV.t _))<|ab (aD rfl (v := .a _) rfl)<|ab (aD rfl (v := .a _) rfl)<|ab (aD rfl (v := .c _) rfl)<|ao ai (aA hT rfl rfl)<|ao ai (aA hT rfl rfl)<|aG hT rfl<|aG hT rfl<|aj rfl<|ag<|ae hP<|ab (ay (rfl : _ = AV.loc _ _))<|av hT rfl<|av hT rfl<|av hT rfl<|av hT rfl<|RK.mut ai (Eff.call (rd := [36]) (yC 36 (s.1.a) (s.1.b) (s.1.c) (s.2.a) (s.2.b) (s.2.c) (s.2.d) _ _ _ _ lz lz lz lz lz lz lz lz lz lz lz) (kA rfl) ie) ?_
   refine ag<|ae hP<|ab (ay (rfl : _ = AV.loc _ _))<|ab (cy rfl)<|aE hT rfl<|bA hT rfl rfl rfl rfl rfl rfl<|ab (ah (qt _ _ _ lz lz lz)) ?_
   refine ab (bv rfl)<|ag ?_
   refine az rfl (fun hb4 => ?_) (fun hb4 => ?_)
   ·have hb4_ := (cA hb4)
    refine aw hP<|ab (ay (rfl : _ = AV.loc _ _))<|av hT rfl<|ab (ah (eo _ (by first | assumption | decide))) ?_
    refine av hT rfl<|av hT rfl<|RK.mut ai (Eff.call (rd := [36]) (yC 36 (vl s.1.a s.1.b s.1.c 1 0) (apB s.1.a s.1.b s.1.c 1 s.1.k 0 1) (vl s.1.a s.1.b s.1.c s.1.k 1) (s.2.a * 1 + s.2.b * 0) (s.2.a * s.1.k + s.2.b * 1) (s.2.c * 1 + s.2.d * 0) (s.2.c * s.1.k + s.2.d * 1) _ _ _ _ lz lz lz lz lz lz lz lz lz lz lz) (kA rfl) ie) ?_
    refine ag ?_
    have hx := vt hG hk hR hb3 (Ks hb4)
    refine ⟨(((s.1.app (.T s.1.k)).app .S, (s.2.mul (.T s.1.k)).mul .S), k - 1), hx.1, hx.2, aF ⟨.refl _, .refl _, .refl _, .refl _, .refl _, trivial⟩ ⟨rfl, rfl, rfl, rfl, rfl, trivial⟩⟩
   have hb4_ := (cp hb4)
   refine au ?_
   have hx := vt hG hk hR hb3 (Kr hb4)
   refine ⟨((s.1.app (.T s.1.k), s.2.mul (.T s.1.k)), k - 1), hx.1, hx.2, aF ⟨.refl _, .refl _, .refl _, .refl _, .refl _, trivial⟩ ⟨rfl, rfl, rfl, rfl, rfl, trivial⟩⟩
  have hb3_ := (cp hb3)
  refine a7<|ae hP<|ab (ay (rfl : _ = AV.loc _ _))<|ab (cy rfl)<|aE hT rfl<|bA hT rfl rfl rfl rfl rfl rfl<|ab (ay (rfl : _ = AV.loc _ _))<|ab (cy rfl)<|aE hT rfl<|ab (aL hT rfl rfl rfl rfl (cs := [_, _, _, _, _, _, _, _]) rfl rfl)<|aG hT rfl<|aG hT rfl<|aj rfl<|ag<|am ?_
  refine c7 rfl (.inr rfl) (aR hT rfl rfl rfl rfl (cs := [_, _, _, _, _, _]) rfl rfl) (aR hT rfl rfl rfl rfl (cs := [_, _, _, _, _, _, _, _]) rfl rfl) (bN rfl) ?_ br
  exact aH (H7 he0 (ET hR hb3))
 have hg1_ := bF hg1
 iterate 4 refine aY hg1 ?_
 refine ab (aM rfl hg1 (rfl : _ = AV.p (.c _)))<|ag<|aQ rfl rfl<|au<|aq<|ae hP<|ak rfl<|ab (bo rfl rfl)<|ag<|aW rfl (by rw [bne, hg1]; rfl) ?_
 refine ae hP<|ab (aV hT rfl rfl rfl (es := [_, _, _, _, _, _]) rfl)<|ab (aV hT rfl rfl rfl (es := [_, _, _, _, _, _, _, _]) rfl)<|ak rfl<|aG hT rfl<|aG hT rfl<|aj rfl<|ag<|am ?_
 refine c7 rfl (.inr rfl) (aR hT rfl rfl rfl rfl (cs := [_, _, _, _, _, _]) rfl rfl) (aR hT rfl rfl rfl rfl (cs := [_, _, _, _, _, _, _, _]) rfl rfl) (bN rfl) ?_ br
 exact aH (vr (Ic hg1).1 (fun e => by rw [e] at hg1; cases hg1))
theorem Iu (a b c p q r : Int) (ha : L 26 a) (hb : L 26 b) (hc : L 26 c) (hp : L 26 p) (hq : L 26 q) (hr : L 26 r) :
  aI Tryz.prog 133 [FA a b c, FA p q r] (.t [PM (smM a b c p q r), PB (smB a b c p q r)]) := by
 have ia : LB a 26 := ⟨ha⟩
 have ib : LB b 26 := ⟨hb⟩
 have ic : LB c 26 := ⟨hc⟩
 have ip : LB p 26 := ⟨hp⟩
 have iq : LB q 26 := ⟨hq⟩
 have ir : LB r 26 := ⟨hr⟩
 refine aK Tryz.func133 rfl rfl rfl rfl ?_
 refine ae hP<|ao ai (aJ rfl rfl)<|ao ai (aJ rfl rfl)<|ao ai (aA hT rfl rfl)<|aj rfl<|ag<|ae hP<|bA hT rfl rfl rfl rfl rfl rfl<|ab (ah (iF _ _ _ lz lz lz)) ?_
 refine ab (ay (rfl : _ = AV.t _))<|ab (aD rfl (v := .a _) rfl)<|ab (aD rfl (v := .a _) rfl)<|ab (aD rfl (v := .c _) rfl)<|ao ai (aA hT rfl rfl)<|ao ai (aA hT rfl rfl)<|aG hT rfl<|aG hT rfl<|aj rfl<|ag<|ae hP<|bA hT rfl rfl rfl rfl rfl rfl<|ab (ah (iF _ _ _ lz lz lz)) ?_
 refine ab (ay (rfl : _ = AV.t _))<|ab (aD rfl (v := .a _) rfl)<|ab (aD rfl (v := .a _) rfl)<|ab (aD rfl (v := .c _) rfl)<|ao ai (aA hT rfl rfl)<|ao ai (aA hT rfl rfl)<|aG hT rfl<|aG hT rfl<|aj rfl<|ag<|aq<|ae hP<|ak rfl<|ab (bo rfl rfl)<|ak rfl ?_
 refine a6 (t := 27) rfl (fun hg1 => ?_) (fun hg1 => ?_)
 ·have hg1_ := b8 hg1
  refine aY hg1 ?_
  refine aY hg1 ?_
  refine ab (aO rfl hg1 (rfl : _ = AV.p (.c _)))<|ak rfl<|aY rfl ?_
  iterate 5 refine aY rfl ?_
  refine ab (aO rfl rfl (rfl : _ = AV.p (.c _)))<|ak rfl<|aY rfl ?_
  iterate 5 refine aY rfl ?_
  refine ab (aO rfl rfl (rfl : _ = AV.p (.c _)))<|ak rfl<|aY rfl ?_
  iterate 5 refine aY rfl ?_
  refine ab (aO rfl rfl (rfl : _ = AV.p (.c _)))<|ag<|aW rfl rfl<|ae hP<|ab (aV hT rfl rfl rfl (es := [_, _, _, _, _, _, _, _]) rfl)<|aG hT rfl<|aj rfl<|ag<|am ?_
  refine cq rfl (.inr rfl) (aR hT rfl rfl rfl rfl (cs := [_, _, _, _, _, _, _, _]) rfl rfl) (bN rfl) ?_ br
  exact aH (oo (fun x => hg1_ x.1))
 have hg1_ := bU hg1
 refine aC hg1 (ay (rfl : _ = AV.p (.c _))) ?_
 refine aC hg1 (bo rfl rfl) ?_
 refine ab (aM rfl hg1 (rfl : _ = AV.p (.c _)))<|ak rfl ?_
 refine a6 (t := 31) rfl (fun hg2 => ?_) (fun hg2 => ?_)
 ·have hg2_ := b8 hg2
  iterate 6 refine aY hg2 ?_
  refine ab (aO rfl hg2 (rfl : _ = AV.p (.c _)))<|ak rfl<|aY rfl ?_
  iterate 5 refine aY rfl ?_
  refine ab (aO rfl rfl (rfl : _ = AV.p (.c _)))<|ak rfl<|aY rfl ?_
  iterate 5 refine aY rfl ?_
  refine ab (aO rfl rfl (rfl : _ = AV.p (.c _)))<|ag<|aW rfl rfl<|ae hP<|ab (aV hT rfl rfl rfl (es := [_, _, _, _, _, _, _, _]) rfl)<|aG hT rfl<|aj rfl<|ag<|am ?_
  refine cq rfl (.inr rfl) (aR hT rfl rfl rfl rfl (cs := [_, _, _, _, _, _, _, _]) rfl rfl) (bN rfl) ?_ br
  exact aH (oo (fun x => hg2_ x.2.1))
 have hg2_ := bU hg2
 refine aC hg2 (aS hT rfl rfl rfl rfl rfl rfl) ?_
 refine aC hg2 (aL hT rfl rfl rfl rfl (cs := [_, _]) rfl rfl) ?_
 refine aC hg2 (aS hT rfl rfl rfl rfl rfl rfl) ?_
 refine aC hg2 (aL hT rfl rfl rfl rfl (cs := [_, _]) rfl rfl) ?_
 refine aC hg2 (ah (dq _ _)) ?_
 refine aC hg2 (bo rfl rfl) ?_
 refine ab (aM rfl hg2 (rfl : _ = AV.p (.c _)))<|ak rfl ?_
 refine a6 (t := 39) rfl (fun hg3 => ?_) (fun hg3 => ?_)
 ·have hg3_ := b8 hg3
  iterate 6 refine aY hg3 ?_
  refine ab (aO rfl hg3 (rfl : _ = AV.p (.c _)))<|ak rfl<|aY rfl ?_
  iterate 5 refine aY rfl ?_
  refine ab (aO rfl rfl (rfl : _ = AV.p (.c _)))<|ag<|aW rfl rfl<|ae hP<|ab (aV hT rfl rfl rfl (es := [_, _, _, _, _, _, _, _]) rfl)<|aG hT rfl<|aj rfl<|ag<|am ?_
  refine cq rfl (.inr rfl) (aR hT rfl rfl rfl rfl (cs := [_, _, _, _, _, _, _, _]) rfl rfl) (bN rfl) ?_ br
  exact aH (oo (fun x => uo hg3 (congrArg Fm.a x.2.2)))
 have hg3_ := bU hg3
 refine aC hg3 (aS hT rfl rfl rfl rfl rfl rfl) ?_
 refine aC hg3 (aL hT rfl rfl rfl rfl (cs := [_, _]) rfl rfl) ?_
 refine aC hg3 (aS hT rfl rfl rfl rfl rfl rfl) ?_
 refine aC hg3 (aL hT rfl rfl rfl rfl (cs := [_, _]) rfl rfl) ?_
 refine aC hg3 (ah (dq _ _)) ?_
 refine aC hg3 (bo rfl rfl) ?_
 refine ab (aM rfl hg3 (rfl : _ = AV.p (.c _)))<|ak rfl ?_
 refine a6 (t := 47) rfl (fun hg4 => ?_) (fun hg4 => ?_)
 ·have hg4_ := b8 hg4
  iterate 6 refine aY hg4 ?_
  refine ab (aO rfl hg4 (rfl : _ = AV.p (.c _)))<|ag<|aW rfl rfl<|ae hP<|ab (aV hT rfl rfl rfl (es := [_, _, _, _, _, _, _, _]) rfl)<|aG hT rfl<|aj rfl<|ag<|am ?_
  refine cq rfl (.inr rfl) (aR hT rfl rfl rfl rfl (cs := [_, _, _, _, _, _, _, _]) rfl rfl) (bN rfl) ?_ br
  exact aH (oo (fun x => uo hg4 (congrArg Fm.b x.2.2)))
 have hg4_ := bU hg4
 refine aC hg4 (aS hT rfl rfl rfl rfl rfl rfl) ?_
 refine aC hg4 (aL hT rfl rfl rfl rfl (cs := [_, _]) rfl rfl) ?_
 refine aC hg4 (aS hT rfl rfl rfl rfl rfl rfl) ?_
 refine aC hg4 (aL hT rfl rfl rfl rfl (cs := [_, _]) rfl rfl) ?_
 refine aC hg4 (ah (dq _ _)) ?_
 refine aC hg4 (bo rfl rfl) ?_
 refine ab (aM rfl hg4 (rfl : _ = AV.p (.c _)))<|ag ?_
 refine az rfl (fun hb5 => ?_) (fun hb5 => ?_)
 ·have hb5_ := b8 hb5
  refine ae hP<|ab (aV hT rfl rfl rfl (es := [_, _, _, _, _, _, _, _]) rfl)<|aG hT rfl<|aj rfl<|ag<|am ?_
  refine cq rfl (.inr rfl) (aR hT rfl rfl rfl rfl (cs := [_, _, _, _, _, _, _, _]) rfl rfl) (bN rfl) ?_ br
  exact aH (oo (fun x => uo hb5 (congrArg Fm.c x.2.2)))
 have hb5_ := bU hb5
 refine au<|ae hP<|aE hT rfl<|av hT rfl<|aE hT rfl<|av hT rfl<|ab (ah (iN _)) ?_
 refine aE hT rfl<|av hT rfl<|ab (ah (iN _)) ?_
 refine aE hT rfl<|av hT rfl<|ab (aV hT rfl rfl rfl (es := [_, _, _, _, _, _, _, _]) rfl)<|ao ai (aA hT rfl rfl)<|aG hT rfl<|ag<|ae hP<|ab (aL hT rfl rfl rfl rfl (cs := [_, _, _, _, _, _, _, _]) rfl rfl)<|ab (aL hT rfl rfl rfl rfl (cs := [_, _, _, _, _, _, _, _]) rfl rfl)<|ab (ah (vD _ _ _ _ _ _ _ _ lz lz lz lz lz lz lz lz)) ?_
 refine aG hT rfl<|aj rfl<|ag<|am ?_
 refine cq rfl (.inr rfl) (aR hT rfl rfl rfl rfl (cs := [_, _, _, _, _, _, _, _]) rfl rfl) (bN rfl) ?_ br
 exact aH (HU hg1 hg2 hg3 hg4 hb5)
end
section
open Go Go.AM
theorem AW (zs : List Nat) (hz : zs.length ≤ 1000000) :
  Iter Tryz.prog 211 [[W zs]] (bkL zs) := by
 refine vX Tryz.func211 (by kernel_rfl) rfl rfl (bL0 rfl) rfl ?_
 intro l n0 J hK
 refine dI ?_
 refine di hP ?_
 refine cr hT rfl rfl rfl ?_
 refine ab (aU hT rfl rfl rfl (l := zs.length) rfl) ?_
 refine ab (bB rfl rfl (by first | exact iW0 _ (by omega) | rfl)) ?_
 refine aj rfl<|ag<|iV ?_
 refine p8 (ι := Nat) (fun k => stL [(0, .p (.c (.v (.func (.yield l) #[] #[])))), (1, .ip [W zs]), (3, Z ((zs.length : Int) - 1 - (k : Int)))] []) (fun k => k) (fun k => k ≤ zs.length) (fun k => zs.length - k) 0 (Nat.zero_le _) rfl (aF ⟨.refl _, .refl _, aN (by simp), trivial⟩ trivial) ?_
 intro k hk
 refine dI ?_
 refine dI ?_
 refine di hP ?_
 refine ak rfl<|ab (dc rfl rfl)<|ag ?_
 refine jP rfl (fun hb1 => ?_) (fun hb1 => ?_)
 ·have hb1_ := dT0 hb1
  refine gH ?_
  refine dI ?_
  refine iV ?_
  refine dI ?_
  refine lR ?_
  refine RJ.val ai (ay (rfl : _ = AV.p (.c _))) ?_
  refine RJ.val ai (ay (rfl : _ = AV.p (.c _))) ?_
  refine RJ.val ai (bV hT rfl rfl rfl (by first | rfl | exact l4 (by omega))) ?_
  refine RJ.val ai (ay (rfl : _ = AV.p (.c _))) ?_
  refine RJ.val ai (b9 hT (l := zs.length) (n := ((zs.length : Int) - 1 - (k : Int))) rfl rfl rfl rfl rfl rfl (by omega) (gX (by omega))) ?_
  refine RJ.val ai (bV hT rfl rfl rfl (dv := w32 (zs.getD (zs.length - 1 - k) 0)) (by show ((zs.map w32).drop ((((zs.length : Int) - 1 - (k : Int))).toNat * 1))[0]? = _; rw [show (((zs.length : Int) - 1 - (k : Int))).toNat = zs.length - 1 - k by omega]; exact l4 (by omega))) ?_
  refine RJ.yield hK ai rfl rfl (zI (by omega)) ?_
  refine RJ.val ai (bv rfl) ?_
  refine RJ.done ?_
  refine gw rfl rfl ?_
  refine gH ?_
  refine di hP ?_
  refine ak rfl<|ab (bB rfl rfl (by first | exact iW0 _ (by omega) | rfl)) ?_
  refine aj rfl<|ag ?_
  refine ⟨k + 1, by omega, by omega, rfl, aF ⟨.refl _, .refl _, aN (by omega), trivial⟩ trivial⟩
 have hb1_ := dF0 hb1
 refine jO ?_
 refine ⟨.inl rfl, ?_⟩
 exact (p5 zs).symm ▸ (by omega)
theorem EG (zs : List Nat) :
  aI Tryz.prog 177 [.p (.c (W zs))] (.fn 211 [[W zs]]) := by
 refine kg Tryz.func177 (by kernel_rfl) rfl rfl (bL0 rfl) rfl ?_
 refine ae hP<|ao ai (aJ rfl rfl)<|aj rfl<|ag<|cC (t := 1) rfl rfl ?_
 refine ae hP<|ab (kD rfl)<|ab (bh (rfl : _ = AV.fn _ _))<|ag<|am ?_
 exact ⟨.inr rfl, 2, rfl, rfl⟩
theorem tK (x : Int) (hx : x.natAbs < 18446744073709551616) :
  aI Tryz.prog 125 [I x] (.t [PE (lwV x), PB (lwO x)]) := by
 have hlen : (wl x.natAbs).length ≤ 2 := gB (k := 2) (by omega)
 have hok := bG x.natAbs
 refine aK Tryz.func125 rfl rfl rfl rfl ?_
 refine ae hP<|ao ai (aJ rfl rfl)<|aj rfl<|aj rfl<|ag<|aq<|ae hP<|aE hT rfl<|aZ hT rfl rfl rfl rfl ?_
 refine ab (aU hT rfl rfl rfl (l := (wl x.natAbs).length) rfl) ?_
 refine ab (bO rfl rfl)<|ag<|aQ rfl (decide_eq_false (by omega)) ?_
 refine au<|ae hP<|ao ai (aA hT rfl rfl)<|ag<|aq<|ae hP<|aE hT rfl<|aZ hT rfl rfl rfl rfl ?_
 refine ab (ah (EG (wl x.natAbs))) ?_
 refine ag<|aB<|dE (t := stL [(1, .loc 1 0), (4, .loc 4 0), (14, .fn 211 [[W (wl x.natAbs)]])] [(1, ⟨false, 1, 29, [zn x, zm x]⟩), (4, ⟨false, 1, 103, [.v (.int .u64 ((lwA (wl x.natAbs) 0 : Nat) : Int))]⟩)]) (aF ⟨.refl _, .refl _, .refl _, trivial⟩ ⟨rfl, by rw [xo]; rfl, trivial⟩) ?_
 refine rf 5 (fun k => cz [(1, ⟨false, 1, 29, [zn x, zm x]⟩), (4, ⟨false, 1, 103, [.v (.int .u64 ((lwA (wl x.natAbs) k : Nat) : Int))]⟩)]) rfl (AW (wl x.natAbs) (by omega)) (GJ _) rfl rfl rfl (fun k xx hxx => ?_) ?_
 ·obtain ⟨hk, rfl⟩ := GK hxx
  have hv := Lx hok hlen hk
  have hw := hok.getD ((wl x.natAbs).length - 1 - k)
  refine aw hP<|aj rfl<|ag<|aB<|aw hP<|aZ hT rfl rfl rfl rfl ?_
  refine ab (kU rfl rfl (by decide) (c := ((lwA (wl x.natAbs) k * 4294967296 : Nat) : Int)) (by rw [show (2 : Int) ^ (min (32 : Int).toNat IntKind.u64.bits) = 4294967296 from rfl, IntWalk.u64_in _ (by omega)]; omega)) ?_
  refine ak rfl<|ab (bf hT rfl rfl rfl rfl (IntWalk.u64_in _ (by omega))) ?_
  refine ab (kt rfl rfl (MK hv hw)) ?_
  refine aG hT rfl<|ag ?_
  refine ⟨rfl, GW.forget_as (congrArg (fun y => cz [(1, ⟨false, 1, 29, [zn x, zm x]⟩), (4, ⟨false, 1, 103, [.v (.int .u64 ((y : Nat) : Int))]⟩)]) (tx hk).symm) (SubO.own ⟨rfl, rfl, trivial⟩)⟩
 rw [p5, FV, bD]
 refine ae hP<|aZ hT rfl rfl rfl rfl ?_
 refine ab (bf hT rfl rfl rfl rfl (HS hx)) ?_
 refine aj rfl<|ag<|aq<|ae hP<|aE hT rfl<|aZ hT rfl rfl rfl rfl ?_
 refine ag ?_
 refine az rfl (fun hb1 => ?_) (fun hb1 => ?_)
 ·have hn : x < 0 := dT0 hb1
  refine aw hP<|ak rfl<|ab (fX rfl (GY hn)) ?_
  refine aj rfl<|ag<|aq<|ae hP<|ak rfl<|ab (bo rfl rfl)<|ak rfl ?_
  refine a6 (t := 30) rfl (fun hg2 => ?_) (fun hg2 => ?_)
  ·have hg2_ := b8 hg2
   refine aC hg2 (aS hT rfl rfl rfl rfl rfl rfl) ?_
   refine aC hg2 (bQ hT rfl rfl rfl rfl (by first | rfl | exact eK (by omega))) ?_
   refine aC hg2 (ay (rfl : _ = AV.p (.c _))) ?_
   refine aC hg2 (bd rfl rfl) ?_
   refine aC hg2 (jf hT rfl rfl rfl rfl) ?_
   refine ab (aO rfl hg2 (rfl : _ = AV.p (.c _)))<|ag ?_
   refine az rfl (fun hb3 => ?_) (fun hb3 => ?_)
   ·refine ae hP<|aj rfl<|aj rfl<|ag<|am<|E11 rfl rfl rfl ?_
    exact aH (vV hx (by assumption))
   refine au<|ae hP<|ak rfl<|aj rfl<|aj rfl<|ag<|am<|E11 rfl rfl rfl ?_
   exact aH (tz hx (by assumption))
  have hg2_ := bU hg2
  iterate 5 refine aY hg2 ?_
  refine ab (aM rfl hg2 (rfl : _ = AV.p (.c _)))<|ag<|aQ rfl rfl<|au<|ae hP<|ak rfl<|aj rfl<|aj rfl<|ag<|am<|E11 rfl rfl rfl ?_
  exact aH (qM hx (by assumption))
 have hn : ¬ x < 0 := dF0 hb1
 rw [GX hn]
 refine au<|aq<|ae hP<|ak rfl<|ab (bo rfl rfl)<|ak rfl ?_
 refine a6 (t := 30) rfl (fun hg4 => ?_) (fun hg4 => ?_)
 ·have hg4_ := b8 hg4
  refine aC hg4 (aS hT rfl rfl rfl rfl rfl rfl) ?_
  refine aC hg4 (bQ hT rfl rfl rfl rfl (by first | rfl | exact eK (by omega))) ?_
  refine aC hg4 (ay (rfl : _ = AV.p (.c _))) ?_
  refine aC hg4 (bd rfl rfl) ?_
  refine aC hg4 (jf hT rfl rfl rfl rfl) ?_
  refine ab (aO rfl hg4 (rfl : _ = AV.p (.c _)))<|ag ?_
  refine az rfl (fun hb5 => ?_) (fun hb5 => ?_)
  ·refine ae hP<|aj rfl<|aj rfl<|ag<|am<|E11 rfl rfl rfl ?_
   exact aH (vV hx (by assumption))
  refine au<|ae hP<|ak rfl<|aj rfl<|aj rfl<|ag<|am<|E11 rfl rfl rfl ?_
  exact aH (tz hx (by assumption))
 have hg4_ := bU hg4
 iterate 5 refine aY hg4 ?_
 refine ab (aM rfl hg4 (rfl : _ = AV.p (.c _)))<|ag<|aQ rfl rfl<|au<|ae hP<|ak rfl<|aj rfl<|aj rfl<|ag<|am<|E11 rfl rfl rfl ?_
 exact aH (qM hx (by assumption))
theorem Lv {x : Int} (h1 : -9223372036854775808 < x) (h2 : x < 9223372036854775808) : AV.t [PE (lwV x), PB (lwO x)] = .t [PE x, PB true] := by
 have e : lwO x = true := decide_eq_true ⟨by omega, h2⟩
 unfold lwV; rw [e]; rfl
theorem iO (x : Int) (h1 : -9223372036854775808 < x) (h2 : x < 9223372036854775808) : aI Tryz.prog 125 [I x] (.t [.c (.v (.int .i64 x)), PB true]) := Lv h1 h2 ▸ tK x (by omega)
end
section
open Go Go.AM
theorem nv (d : Int) (hd : L 40 d) :
  aI Tryz.prog 54 [I d] (.t [PF (prF d), PE (prE d)]) := by
 have id : LB d 40 := ⟨hd⟩
 have h4a := Int.emod_nonneg d (show (4 : Int) ≠ 0 by decide)
 have h4b := Int.emod_lt_of_pos d (show (0 : Int) < 4 by decide)
 refine aK Tryz.func54 rfl rfl rfl rfl ?_
 refine ae hP<|ao ai (aJ rfl rfl)<|ao ai (aA hT rfl rfl)<|aj rfl<|ag<|ae hP<|av hT rfl<|ab (ah (eo _ (by first | assumption | decide))) ?_
 refine ab (ah (dB _ 4 lz lz (by decide))) ?_
 refine ab (ay (rfl : _ = AV.t _))<|ab (aD rfl (v := .a _) rfl)<|ab (aD rfl (v := .a _) rfl)<|ab (aD rfl (v := .c _) rfl)<|ao ai (aA hT rfl rfl)<|ao ai (aA hT rfl rfl)<|aG hT rfl<|aG hT rfl<|aj rfl<|ag<|ae hP<|av hT rfl<|ab (ah (iO (d % 4) (by omega) (by omega))) ?_
 refine ab (ay (rfl : _ = AV.t _))<|ab (aD rfl (v := .c _) rfl)<|ab (aD rfl (v := .c _) rfl)<|aj rfl<|aj rfl<|ag<|aq<|ae hP<|ak rfl<|ab (bv rfl)<|ak rfl<|aC rfl (ay (rfl : _ = AV.p (.c _))) ?_
 refine aC rfl (bO rfl rfl) ?_
 refine ab (aM rfl rfl (rfl : _ = AV.p (.c _)))<|ak rfl ?_
 refine a6 (t := 27) rfl (fun hg2 => ?_) (fun hg2 => ?_)
 ·have hg2_ := dT0 hg2
  refine aY hg2 ?_
  refine aY hg2 ?_
  refine ab (aO rfl hg2 (rfl : _ = AV.p (.c _)))<|ag<|aW rfl rfl<|ae hP<|ab (aV hT rfl rfl rfl (es := [_, _, _, _, _, _]) rfl)<|aG hT rfl<|aj rfl<|ag<|am ?_
  refine cq rfl (.inr rfl) (aR hT rfl rfl rfl rfl (cs := [_, _, _, _, _, _]) rfl rfl) (bN rfl) ?_ br
  exact aH (Dm (.inl hg2_))
 have hg2_ := dF0 hg2
 refine aC hg2 (aL hT rfl rfl rfl rfl (cs := [_, _]) rfl rfl) ?_
 refine aC hg2 (ah (oJ _ lz)) ?_
 refine ab (aM rfl hg2 (rfl : _ = AV.p (.c _)))<|ag ?_
 refine az rfl (fun hb3 => ?_) (fun hb3 => ?_)
 ·refine ae hP<|ab (aV hT rfl rfl rfl (es := [_, _, _, _, _, _]) rfl)<|aG hT rfl<|aj rfl<|ag<|am ?_
  refine cq rfl (.inr rfl) (aR hT rfl rfl rfl rfl (cs := [_, _, _, _, _, _]) rfl rfl) (bN rfl) ?_ br
  exact aH (Dm (.inr hb3))
 refine au<|ae hP<|ab (ah (eo _ (by first | assumption | decide))) ?_
 refine av hT rfl<|av hT rfl<|ab (ah (iN _)) ?_
 refine ab (aV hT rfl rfl rfl (es := [_, _, _, _, _, _]) rfl)<|aG hT rfl<|aj rfl<|ag<|am ?_
 refine cq rfl (.inr rfl) (aR hT rfl rfl rfl rfl (cs := [_, _, _, _, _, _]) rfl rfl) (bN rfl) ?_ br
 exact aH (IA hg2_ hb3)
theorem Ij (ws : List Nat) (hok : okW ws) :
  aI Tryz.prog 121 [.p (.c (W ws))] (.p (.c (nt (wv ws)))) := by
 refine aK Tryz.func121 rfl rfl rfl rfl ?_
 refine iT (t := 0) rfl rfl (fun hlen => ?_)
 refine ae hP<|aj rfl<|ag<|aq<|aB<|bn (ι := List Nat) (fun l => stL [(0, .p (.c (W l)))] []) (fun l => okW l ∧ wv l = wv ws ∧ l.length ≤ 140737488355328) (fun l => l.length) ws ⟨hok, rfl, hlen⟩ (aF ⟨.refl _, trivial⟩ trivial) ?_
 rintro l ⟨hl, hv, hn⟩
 refine aq<|ae hP<|ak rfl<|ab (aU hT rfl rfl rfl rfl)<|ab (bO rfl rfl)<|ak rfl ?_
 refine a6 (t := 6) rfl (fun hg1 => ?_) (fun hg1 => ?_)
 ·have hg1_ := dT0 hg1
  refine aC hg1 (ay (rfl : _ = AV.p (.c _))) ?_
  refine aC hg1 (ay (rfl : _ = AV.p (.c _))) ?_
  refine aC hg1 (aU hT rfl rfl rfl rfl) ?_
  refine aC hg1 (bB rfl rfl (by first | exact iW0 _ (by omega) | rfl)) ?_
  refine aC hg1 (by first | exact fC hT rfl rfl rfl rfl rfl rfl (by omega) | exact b9 hT rfl rfl rfl rfl rfl rfl (by omega) (by first | exact gX (by omega) | simp)) ?_
  refine aC hg1 (bV hT rfl rfl rfl (by first | rfl | exact l4 (by omega))) ?_
  refine aC hg1 (bq rfl rfl) ?_
  refine ab (aO rfl hg1 (rfl : _ = AV.p (.c _)))<|ag ?_
  refine az rfl (fun hb2 => ?_) (fun hb2 => ?_)
  ·have hb2_ := bT hb2
   refine au<|aB<|aw hP<|ak rfl<|ak rfl<|ab (aU hT rfl rfl rfl rfl)<|ab (bB rfl rfl (by first | exact iW0 _ (by omega) | rfl)) ?_
   refine ab (kC hT rfl rfl rfl rfl rfl rfl (by omega)) ?_
   refine aj rfl<|ag ?_
   have e : ((l.length : Int) - 1).toNat = l.length - 1 := by omega
   refine ⟨l.take (l.length - 1), ⟨hl.take _, ?_, ?_⟩, ?_, aF ⟨aH ?_, trivial⟩ trivial⟩
   ·rw [rQ (by omega) (by rw [← e]; omega), hv]
   ·rw [List.length_take]; omega
   ·rw [List.length_take]; omega
   show AV.p (.c (W (l.take ((l.length : Int) - 1).toNat))) = _
   rw [e]
  have hb2_ := bF hb2
  refine a7<|ae hP<|ak rfl<|aj rfl<|ag<|am<|E1 rfl rfl ?_
  have e : ((l.length : Int) - 1).toNat = l.length - 1 := by omega
  refine aH ?_
  rw [← hv, rB hl (.inr (by rw [← e]; omega))]
 have hg1_ := dF0 hg1
 iterate 7 refine aY hg1 ?_
 refine ab (aM rfl hg1 (rfl : _ = AV.p (.c _)))<|ag<|aQ rfl rfl<|a7<|ae hP<|ak rfl<|aj rfl<|ag<|am<|E1 rfl rfl ?_
 refine aH ?_
 rw [← hv, rB hl (.inl (by omega))]
theorem fP (neg : Bool) (ws : List Nat) (h : okW ws) :
  aI Tryz.prog 51 [B neg, .p (.c (W ws))] (I (sg neg (wv ws))) := by
 refine aK Tryz.func51 rfl rfl rfl rfl ?_
 refine ae hP<|ao ai (aA hT rfl rfl)<|ag<|ae hP<|ak rfl<|ab (ah (Ij _ h)) ?_
 refine aj rfl<|ag<|aq<|ae hP<|ak rfl<|ab (aU hT rfl rfl rfl rfl)<|ab (bq rfl rfl)<|ag ?_
 refine az rfl (fun hb1 => ?_) (fun hb1 => ?_)
 ·have hb1_ := bT hb1
  refine ae hP<|ab (aV hT rfl rfl rfl (es := [_, _]) rfl)<|aG hT rfl<|ag<|am<|E2 hT rfl rfl rfl rfl rfl rfl rfl ?_
  have h0 : wv ws = 0 := mN (by omega)
  rw [h0, vm]
  exact .refl _
 have hb1_ := bF hb1
 refine au<|ae hP<|ak rfl<|ak rfl<|ab (aV hT rfl rfl rfl (es := [_, _]) rfl)<|aG hT rfl<|ag<|am<|E2 hT rfl rfl rfl rfl rfl rfl rfl ?_
 have h0 : 0 < wv ws := by
  rcases Nat.eq_zero_or_pos (wv ws) with e | e
  ·rw [e] at hb1_; exact absurd rfl hb1_
  exact e
 exact aH (by show _ = AV.p (.a [zn _, zm _]); rw [Cw h0, Cx])
theorem dO (ws : List Nat) (i : Int) (hok : okW ws) :
  aI Tryz.prog 197 [.p (.c (W ws)), Z i] (.p (.c (.v (.int .u64 ((wd ws i : Nat) : Int))))) := by
 refine aK Tryz.func197 rfl rfl rfl rfl ?_
 refine ae hP<|aj rfl<|ag<|aq<|ae hP<|ak rfl<|ab (bd rfl rfl)<|ak rfl ?_
 refine a6 (t := 7) rfl (fun hg1 => ?_) (fun hg1 => ?_)
 ·have hg1_ := dT0 hg1
  iterate 4 refine aY hg1 ?_
  refine ab (aO rfl hg1 (rfl : _ = AV.p (.c _)))<|ag<|aW rfl rfl<|ae hP<|aj rfl<|ag<|am<|E1 rfl rfl ?_
  exact aN (by rw [oj (.inl hg1_)]; rfl)
 have hg1_ := dF0 hg1
 have hi0 := dF0 hg1
 refine aC hg1 (ay (rfl : _ = AV.p (.c _))) ?_
 refine aC hg1 (ay (rfl : _ = AV.p (.c _))) ?_
 refine aC hg1 (aU hT rfl rfl rfl rfl) ?_
 refine aC hg1 (dc rfl rfl) ?_
 refine ab (aM rfl hg1 (rfl : _ = AV.p (.c _)))<|ag ?_
 refine az rfl (fun hb2 => ?_) (fun hb2 => ?_)
 ·have hb2_ := dT0 hb2
  refine ae hP<|aj rfl<|ag<|am<|E1 rfl rfl ?_
  exact aN (by rw [oj (.inr hb2_)]; rfl)
 have hb2_ := dF0 hb2
 refine au<|ae hP<|ak rfl<|ak rfl<|cJ ?_
 refine cr hT rfl rfl rfl ?_
 refine ab (bf hT rfl rfl rfl rfl (IntWalk.u64_in _ (by have := hok.getD i.toNat; omega))) ?_
 refine aj rfl<|ag<|am<|E1 rfl rfl ?_
 exact aN (by rw [Cy (by omega)])
theorem eD (z : Int) (hz : bp z) :
  aI Tryz.prog 10 [.p (.c (.v (.int .i64 z)))] (I z) := by
 have hz1 : z.natAbs < 18446744073709551616 := by unfold bp at hz; omega
 refine aK Tryz.func10 rfl rfl rfl rfl ?_
 refine ae hP<|ao ai (aA hT rfl rfl)<|ag<|ae hP<|ak rfl<|ab (bf hT rfl rfl rfl rfl wx) ?_
 refine aj rfl<|ag<|aq<|ae hP<|ak rfl<|ab (bd rfl rfl)<|ag ?_
 refine az rfl (fun hb1 => ?_) (fun hb1 => ?_)
 ·have hb1_ := dT0 hb1
  refine aw hP<|ak rfl<|ab (fX rfl (Ae hz hb1_)) ?_
  refine aj rfl<|ag<|ae hP<|ak rfl<|ab (bd rfl rfl)<|ak rfl<|ab (bf hT rfl rfl rfl rfl (c := ((z.natAbs % 4294967296 : Nat) : Int)) (by first | exact en _ | exact Dp hz hb1_)) ?_
  refine ak rfl<|ab (c9 (j := 32) rfl rfl (by decide)) ?_
  refine ab (bf hT rfl rfl rfl rfl (c := ((z.natAbs / 2 ^ 32 : Nat) : Int)) (by first | exact yM hz | exact Dq hz hb1_)) ?_
  refine ab (bg hT rfl rfl rfl (es := [_, _]) rfl rfl rfl)<|ab (ah (fP _ [z.natAbs % 4294967296, z.natAbs / 2 ^ 32] (pJ (by omega)))) ?_
  refine aG hT rfl<|ag<|am<|E2 hT rfl rfl rfl rfl rfl rfl rfl ?_
  exact Sub.I (by rw [rP]; exact xc)
 have hb1_ := dF0 hb1
 refine au<|ae hP<|ak rfl<|ab (bd rfl rfl)<|ak rfl<|ab (bf hT rfl rfl rfl rfl (c := ((z.natAbs % 4294967296 : Nat) : Int)) (by first | exact en _ | exact Dp hz hb1_)) ?_
 refine ak rfl<|ab (c9 (j := 32) rfl rfl (by decide)) ?_
 refine ab (bf hT rfl rfl rfl rfl (c := ((z.natAbs / 2 ^ 32 : Nat) : Int)) (by first | exact yM hz | exact Dq hz hb1_)) ?_
 refine ab (bg hT rfl rfl rfl (es := [_, _]) rfl rfl rfl)<|ab (ah (fP _ [z.natAbs % 4294967296, z.natAbs / 2 ^ 32] (pJ (by omega)))) ?_
 refine aG hT rfl<|ag<|am<|E2 hT rfl rfl rfl rfl rfl rfl rfl ?_
 exact Sub.I (by rw [rP]; exact xc)
theorem K8 (x : Int) :
  aI Tryz.prog 174 [I x] (I (-x)) := by
 refine aK Tryz.func174 rfl rfl rfl rfl ?_
 refine ae hP<|ao ai (aJ rfl rfl)<|ao ai (aA hT rfl rfl)<|ag<|ae hP<|aE hT rfl<|aZ hT rfl rfl rfl rfl ?_
 refine ab (bv rfl)<|aE hT rfl<|aZ hT rfl rfl rfl rfl ?_
 refine ab (ah (fP _ (wl x.natAbs) (bG _))) ?_
 refine aG hT rfl<|ag<|am<|E2 hT rfl rfl rfl rfl rfl rfl rfl ?_
 exact Sub.I (yO x)
theorem oG (x : Int) :
  aI Tryz.prog 191 [I x] (I x.natAbs) := by
 refine aK Tryz.func191 rfl rfl rfl rfl ?_
 refine ae hP<|ao ai (aJ rfl rfl)<|ao ai (aA hT rfl rfl)<|ag<|ae hP<|aE hT rfl<|aZ hT rfl rfl rfl rfl ?_
 refine ab (ah (fP _ (wl x.natAbs) (bG _))) ?_
 refine aG hT rfl<|ag<|am<|E2 hT rfl rfl rfl rfl rfl rfl rfl ?_
 exact Sub.I (zU x)
theorem jX (x : Int) :
  aI Tryz.prog 86 [I x] (Z (sgn x)) := by
 refine aK Tryz.func86 rfl rfl rfl rfl ?_
 refine ae hP<|ao ai (aJ rfl rfl)<|aj rfl<|ag<|aq<|ae hP<|aE hT rfl<|aZ hT rfl rfl rfl rfl ?_
 refine ab (aU hT rfl rfl rfl rfl)<|ab (bq rfl rfl)<|ag ?_
 refine az rfl (fun hb1 => ?_) (fun hb1 => ?_)
 ·have hb1_ := bT hb1
  refine ae hP<|aj rfl<|ag<|am<|E1 rfl rfl ?_
  have h0 := wl_len_zero.1 hb1_
  exact aN (by rw [h0]; rfl)
 have hb1_ := bF hb1
 refine au<|aq<|ae hP<|aE hT rfl<|aZ hT rfl rfl rfl rfl ?_
 refine ag ?_
 refine az rfl (fun hb2 => ?_) (fun hb2 => ?_)
 ·refine ae hP<|aj rfl<|ag<|am<|E1 rfl rfl ?_
  exact aN (jH hb2).symm
 refine au<|ae hP<|aj rfl<|ag<|am<|E1 rfl rfl ?_
 have h0 : x ≠ 0 := fun e => hb1_ (wl_len_zero.2 e)
 exact aN (px h0 hb2).symm
theorem oE (m n : Nat) :
  aI Tryz.prog 119 [.p (.c (nt m)), .p (.c (nt n))] (Z (bu m n)) := by
 refine aK Tryz.func119 rfl rfl rfl rfl ?_
 refine iT (t := 0) rfl rfl (fun hlen => ?_)
 refine iT (t := 1) rfl rfl (fun hlen2 => ?_)
 refine ae hP<|aj rfl<|ag<|aq<|ae hP<|ak rfl<|ab (aU hT rfl rfl rfl rfl)<|ak rfl<|ab (aU hT rfl rfl rfl rfl)<|ab (bo rfl rfl)<|ag ?_
 refine az rfl (fun hb1 => ?_) (fun hb1 => ?_)
 ·have hb1_ := b8 hb1
  refine aq<|ae hP<|ak rfl<|ab (aU hT rfl rfl rfl rfl)<|ak rfl<|ab (aU hT rfl rfl rfl rfl)<|ab (bd rfl rfl)<|ag ?_
  refine az rfl (fun hb2 => ?_) (fun hb2 => ?_)
  ·have hb2_ := dT0 hb2
   refine ae hP<|aj rfl<|ag<|am<|E1 rfl rfl ?_
   exact aN (xH hb1_ hb2_)
  have hb2_ := dF0 hb2
  refine au<|ae hP<|aj rfl<|ag<|am<|E1 rfl rfl ?_
  exact aN (xI hb1_ hb2_)
 have hb1_ := bU hb1
 refine au<|aq<|ae hP<|ak rfl<|ab (aU hT rfl rfl rfl rfl)<|ab (bB rfl rfl (by first | exact iW0 _ (by omega) | rfl)) ?_
 refine aj rfl<|ag<|aB ?_
 have hll : (wl m).length = (wl n).length := by omega
 refine bn (ι := Nat) (fun k => stL [(0, .p (.c (nt m))), (1, .p (.c (nt n))), (5, Z ((k : Int) - 1))] []) (fun k => k ≤ (wl m).length ∧ (wl m).drop k = (wl n).drop k) (fun k => k) (wl m).length ⟨Nat.le_refl _, by rw [List.drop_length, hll, List.drop_length]⟩ (aF ⟨.refl _, .refl _, .refl _, trivial⟩ trivial) ?_
 rintro k ⟨hk, he⟩
 refine aq<|ae hP<|ak rfl<|ab (dc rfl rfl)<|ag ?_
 refine az rfl (fun hb3 => ?_) (fun hb3 => ?_)
 ·have hb3_ := dT0 hb3
  refine au<|aq<|aB<|aq<|ae hP<|ak rfl<|ak rfl<|ab (b9 hT rfl rfl rfl rfl rfl rfl (l := (wl m).length) (xs := (wl m).map w32) (by omega) (gX (by omega))) ?_
  refine cr hT rfl rfl rfl ?_
  refine ak rfl<|ak rfl<|ab (b9 hT rfl rfl rfl rfl rfl rfl (l := (wl n).length) (xs := (wl n).map w32) (by omega) (gX (by omega))) ?_
  refine cr hT rfl rfl rfl ?_
  refine ab (bd rfl rfl)<|ag ?_
  refine az rfl (fun hb4 => ?_) (fun hb4 => ?_)
  ·have hb4_ := dT0 hb4
   refine ae hP<|aj rfl<|ag<|am<|E1 rfl rfl ?_
   have hkk : ((k : Int) - 1).toNat = k - 1 := by omega
   rw [hkk] at hb4_
   have h2 := qW hll (k := k - 1) (by omega) (by rw [show k - 1 + 1 = k by omega]; exact he) (by rw [fG hb4_]; decide)
   exact aN (by rw [← h2, fG hb4_])
  have hb4_ := dF0 hb4
  refine au<|ae hP<|ak rfl<|ak rfl<|ab (b9 hT rfl rfl rfl rfl rfl rfl (l := (wl m).length) (xs := (wl m).map w32) (by omega) (gX (by omega))) ?_
  refine cr hT rfl rfl rfl ?_
  refine ak rfl<|ak rfl<|ab (b9 hT rfl rfl rfl rfl rfl rfl (l := (wl n).length) (xs := (wl n).map w32) (by omega) (gX (by omega))) ?_
  refine cr hT rfl rfl rfl ?_
  refine ab (bO rfl rfl)<|ag ?_
  refine az rfl (fun hb5 => ?_) (fun hb5 => ?_)
  ·have hb5_ := dT0 hb5
   refine ae hP<|aj rfl<|ag<|am<|E1 rfl rfl ?_
   have hkk : ((k : Int) - 1).toNat = k - 1 := by omega
   rw [hkk] at hb5_
   have h2 := qW hll (k := k - 1) (by omega) (by rw [show k - 1 + 1 = k by omega]; exact he) (by rw [fH hb5_]; decide)
   exact aN (by rw [← h2, fH hb5_])
  have hb5_ := dF0 hb5
  refine au<|aw hP<|ak rfl<|ab (bB rfl rfl (by first | exact iW0 _ (by omega) | rfl)) ?_
  refine aj rfl<|ag ?_
  have hkk : ((k : Int) - 1).toNat = k - 1 := by omega
  rw [hkk] at hb4_ hb5_
  refine ⟨k - 1, ⟨by omega, ?_⟩, by omega, aF ⟨.refl _, .refl _, aN (by omega), trivial⟩ trivial⟩
  have e1 := dQ (ws := wl m) (k := k - 1) (by omega)
  have e2 := dQ (ws := wl n) (k := k - 1) (by omega)
  rw [e1, e2, show k - 1 + 1 = k by omega, he]
  congr 1
  omega
 have hb3_ := dF0 hb3
 refine a7<|ae hP<|aj rfl<|ag<|am<|E1 rfl rfl ?_
 have h0 : k = 0 := by omega
 subst h0
 have : m = n := by rw [← bD m, ← bD n]; exact congrArg wv he
 exact aN (by rw [this, gG])
theorem oF (x y : Int) :
  aI Tryz.prog 149 [I x, I y] (Z (bu x y)) := by
 refine aK Tryz.func149 rfl rfl rfl rfl ?_
 refine ae hP<|ao ai (aJ rfl rfl)<|ao ai (aJ rfl rfl)<|aj rfl<|ag<|aq<|ae hP<|aE hT rfl<|aZ hT rfl rfl rfl rfl ?_
 refine aE hT rfl<|aZ hT rfl rfl rfl rfl ?_
 refine ab (jf hT rfl rfl rfl rfl)<|ag ?_
 refine az rfl (fun hb1 => ?_) (fun hb1 => ?_)
 ·refine aq<|ae hP<|aE hT rfl<|aZ hT rfl rfl rfl rfl ?_
  refine ag ?_
  refine az rfl (fun hb2 => ?_) (fun hb2 => ?_)
  ·refine ae hP<|aj rfl<|ag<|am<|E1 rfl rfl ?_
   exact aN (by rw [vq hb1, if_pos (dT0 hb2)])
  refine au<|ae hP<|aj rfl<|ag<|am<|E1 rfl rfl ?_
  exact aN (by rw [vq hb1, if_neg (dF0 hb2)])
 refine au<|aq<|ae hP<|aE hT rfl<|aZ hT rfl rfl rfl rfl ?_
 refine ag ?_
 refine az rfl (fun hb3 => ?_) (fun hb3 => ?_)
 ·refine ae hP<|aE hT rfl<|aZ hT rfl rfl rfl rfl ?_
  refine aE hT rfl<|aZ hT rfl rfl rfl rfl ?_
  refine ab (ah (oE y.natAbs x.natAbs)) ?_
  refine aj rfl<|ag<|am<|E1 rfl rfl ?_
  exact aN (uJ hb1 (dT0 hb3))
 refine au<|ae hP<|aE hT rfl<|aZ hT rfl rfl rfl rfl ?_
 refine aE hT rfl<|aZ hT rfl rfl rfl rfl ?_
 refine ab (ah (oE x.natAbs y.natAbs)) ?_
 refine aj rfl<|ag<|am<|E1 rfl rfl ?_
 exact aN (uI hb1 (dF0 hb3))
theorem eY (x y : Int) :
  aI Tryz.prog 48 [I x, I y] (B (decide (x = y))) := by
 refine aK Tryz.func48 rfl rfl rfl rfl ?_
 refine ae hP<|ao ai (aJ rfl rfl)<|ao ai (aJ rfl rfl)<|aj rfl<|ag<|ae hP<|aE hT rfl<|aZ hT rfl rfl rfl rfl ?_
 refine aE hT rfl<|aZ hT rfl rfl rfl rfl ?_
 refine ab (tm hT rfl rfl rfl rfl)<|ak rfl ?_
 refine a6 (t := 10) rfl (fun hg1 => ?_) (fun hg1 => ?_)
 ·refine aC hg1 (aS hT rfl rfl rfl rfl rfl rfl) ?_
  refine aC hg1 (bQ hT rfl rfl rfl rfl (by first | rfl | exact eK (by omega))) ?_
  refine aC hg1 (aS hT rfl rfl rfl rfl rfl rfl) ?_
  refine aC hg1 (bQ hT rfl rfl rfl rfl (by first | rfl | exact eK (by omega))) ?_
  refine aC hg1 (ah (oE x.natAbs y.natAbs)) ?_
  refine aC hg1 (bq rfl rfl) ?_
  refine ab (aO rfl hg1 (rfl : _ = AV.p (.c _)))<|aj rfl<|ag<|am<|E1 rfl rfl ?_
  exact aX (EO hg1)
 iterate 6 refine aY hg1 ?_
 refine ab (aM rfl hg1 (rfl : _ = AV.p (.c _)))<|aj rfl<|ag<|am<|E1 rfl rfl ?_
 exact aX (EN hg1)
end
section
open Go Go.AM
theorem Im (a b : List Nat) (ha : okW a) (hb : okW b) (hla : a.length ≤ 1099511627776) (hlb : b.length ≤ 1099511627776) :
  aI Tryz.prog 155 [.p (.c (W a)), .p (.c (W b))] (.p (.c (W (dgs ((if (b.length : Int) > a.length then (b.length : Int) else a.length).toNat + 1) (wv a + wv b))))) := by
 obtain ⟨mx, hmx⟩ : ∃ mx : Int, mx = (if (b.length : Int) > a.length then (b.length : Int) else a.length) := ⟨_, rfl⟩
 have hm1 : (a.length : Int) ≤ mx ∧ (b.length : Int) ≤ mx ∧ mx ≤ 1099511627776 := by rw [hmx]; split <;> omega
 refine aK Tryz.func155 rfl rfl rfl rfl ?_
 refine ae hP<|aj rfl<|ag<|ae hP<|ao ai (iH hT rfl rfl rfl rfl (ws := []) rfl rfl rfl) ?_
 refine ab (bh (rfl : _ = AV.vec _))<|ag<|ae hP<|aj rfl<|ag<|dC 8 1000 rfl rfl rfl ?_
 refine aq<|ae hP<|aj rfl<|ag<|aB<|bn (ι := List Nat × Nat) (fun p => stL [(0, .p (.c (W a))), (1, .p (.c (W b))), (5, .vec 1000), (6, .p (.c (.v (.int .u64 ((p.2 : Nat) : Int))))), (7, Z ((p.1.length : Nat) : Int))] [(1000, WB 105 p.1)]) (fun p => okW p.1 ∧ (p.1.length : Int) ≤ mx ∧ p.2 ≤ 1 ∧ wv p.1 + 4294967296 ^ p.1.length * p.2 = wv (a.take p.1.length) + wv (b.take p.1.length)) (fun p => (mx - p.1.length).toNat) ([], 0) ⟨okW.nil, by simp only [List.length_nil]; omega, by decide, by simp [wv]⟩ (aF ⟨.refl _, .refl _, .refl _, .refl _, .refl _, trivial⟩ ⟨rfl, trivial⟩) ?_
 rintro p ⟨ho, hl, hc, hv⟩
 have hwa := eS ha (p.1.length : Nat)
 have hwb := eS hb (p.1.length : Nat)
 refine aq<|ae hP<|ak rfl<|ak rfl<|ab (aU hT rfl rfl rfl rfl)<|ak rfl<|ab (aU hT rfl rfl rfl rfl)<|ab (oP rfl rfl)<|ab (bd rfl rfl)<|ag ?_
 refine az rfl (fun hb1 => ?_) (fun hb1 => ?_)
 ·have hb1_ := dT0 hb1
  have hlt : (p.1.length : Int) < mx := by rw [hmx]; exact hb1_
  refine au<|aq<|aB<|ae hP<|ak rfl<|ak rfl<|ak rfl<|ab (ah (dO _ _ (by assumption))) ?_
  refine ak rfl<|ak rfl<|ab (ah (dO _ _ (by assumption))) ?_
  refine ab (bH rfl rfl (c := ((wd a p.1.length + wd b p.1.length : Nat) : Int)) (by rw [← Int.natCast_add, cU (by omega)])) ?_
  refine ab (bH rfl rfl (c := ((p.2 + (wd a p.1.length + wd b p.1.length) : Nat) : Int)) (by rw [← Int.natCast_add, cU (by omega)])) ?_
  refine aj rfl<|ag<|ae hP<|ab (ay (rfl : _ = AV.vec _))<|ak rfl<|ab (bf hT rfl rfl rfl rfl (en _)) ?_
  refine ab (bg hT rfl rfl rfl (es := [_]) rfl rfl rfl)<|RK.app ai (gO hT rfl rfl rfl rfl rfl rfl rfl (xs := [(p.2 + (wd a p.1.length + wd b p.1.length)) % 4294967296]) rfl (by simp only [List.length_cons, List.length_nil]; omega) (by decide)) ?_
  refine ab (bh (rfl : _ = AV.vec _))<|ag<|dC 31 1000 rfl rfl rfl ?_
  refine aw hP<|ak rfl<|ab (c9 (j := 32) rfl rfl (by decide)) ?_
  refine aj rfl<|ag<|aw hP<|ak rfl<|bw rfl rfl ?_
  refine aj rfl<|ag ?_
  have hr := wY hv
  have hq : (p.2 + (wd a p.1.length + wd b p.1.length)) / 4294967296 ≤ 1 := by omega
  refine ⟨(p.1 ++ [(p.2 + (wd a p.1.length + wd b p.1.length)) % 4294967296], (p.2 + (wd a p.1.length + wd b p.1.length)) / 4294967296), ⟨ho.snoc (Nat.mod_lt _ (by decide)), ?_, hq, by simpa using hr⟩, ?_, aF ⟨.refl _, .refl _, .refl _, .refl _, aN (by simp), trivial⟩ ⟨rfl, trivial⟩⟩
  ·simp only [List.length_append, List.length_cons, List.length_nil]; omega
  simp only [List.length_append, List.length_cons, List.length_nil]; omega
 have hb1_ := dF0 hb1
 have hge : (p.1.length : Int) = mx := by
  have : ¬ (p.1.length : Int) < mx := by rw [hmx]; exact hb1_
  omega
 refine a7<|ae hP<|ab (ay (rfl : _ = AV.vec _))<|ak rfl<|ab (bf hT rfl rfl rfl rfl (en _)) ?_
 refine ab (bg hT rfl rfl rfl (es := [_]) rfl rfl rfl)<|RK.app ai (gO hT rfl rfl rfl rfl rfl rfl rfl (xs := [p.2 % 4294967296]) rfl (by simp only [List.length_cons, List.length_nil]; omega) (by decide)) ?_
 refine ab (bh (rfl : _ = AV.vec _))<|ag<|cH (t := 4) rfl rfl ?_
 refine am<|E1 rfl rfl ?_
 have e : mx.toNat = p.1.length := by omega
 exact aH (by rw [Bj ho (by omega) (by omega) (by omega) hv, ← hmx, e])
theorem vz (a b : List Nat) (ha : okW a) (hb : okW b) (hla : a.length ≤ 1099511627776) (hlb : b.length ≤ a.length) (hab : wv b ≤ wv a) :
  aI Tryz.prog 156 [.p (.c (W a)), .p (.c (W b))] (.p (.c (W (dgs a.length (wv a - wv b))))) := by
 refine aK Tryz.func156 rfl rfl rfl rfl ?_
 refine ae hP<|aj rfl<|ag<|ae hP<|ao ai (iH hT rfl rfl rfl rfl (ws := []) rfl rfl rfl) ?_
 refine ab (bh (rfl : _ = AV.vec _))<|ag<|ae hP<|aj rfl<|ag<|dC 9 1000 rfl rfl rfl ?_
 refine aq<|ae hP<|aj rfl<|ag<|aB<|bn (ι := List Nat × Nat) (fun p => stL [(0, .p (.c (W a))), (1, .p (.c (W b))), (5, .vec 1000), (6, .p (.c (.v (.int .u64 ((p.2 : Nat) : Int))))), (7, Z ((p.1.length : Nat) : Int))] [(1000, WB 105 p.1)]) (fun p => okW p.1 ∧ p.1.length ≤ a.length ∧ p.2 ≤ 1 ∧ wv p.1 + wv (b.take p.1.length) = wv (a.take p.1.length) + 4294967296 ^ p.1.length * p.2) (fun p => a.length - p.1.length) ([], 0) ⟨okW.nil, by simp, by decide, by simp [wv]⟩ (aF ⟨.refl _, .refl _, .refl _, .refl _, .refl _, trivial⟩ ⟨rfl, trivial⟩) ?_
 rintro p ⟨ho, hl, hc, hv⟩
 have hwa := eS ha (p.1.length : Nat)
 have hwb := eS hb (p.1.length : Nat)
 refine aq<|ae hP<|ak rfl<|ak rfl<|ab (aU hT rfl rfl rfl rfl)<|ab (bd rfl rfl)<|ag ?_
 refine az rfl (fun hb1 => ?_) (fun hb1 => ?_)
 ·have hb1_ := dT0 hb1
  refine au<|aq<|aB<|ae hP<|ak rfl<|ak rfl<|ab (ah (dO _ _ (by assumption))) ?_
  refine ab (bH rfl rfl (c := ((4294967296 + wd a p.1.length : Nat) : Int)) (by rw [IntWalk.u64_in _ (by omega)]; omega)) ?_
  refine ak rfl<|ak rfl<|ab (ah (dO _ _ (by assumption))) ?_
  refine ab (bB rfl rfl (c := ((4294967296 + wd a p.1.length - wd b p.1.length : Nat) : Int)) (by rw [IntWalk.u64_in _ (by omega)]; omega)) ?_
  refine ak rfl<|ab (bB rfl rfl (c := ((4294967296 + wd a p.1.length - wd b p.1.length - p.2 : Nat) : Int)) (by rw [IntWalk.u64_in _ (by omega)]; omega)) ?_
  refine aj rfl<|ag<|ae hP<|ab (ay (rfl : _ = AV.vec _))<|ak rfl<|ab (bf hT rfl rfl rfl rfl (en _)) ?_
  refine ab (bg hT rfl rfl rfl (es := [_]) rfl rfl rfl)<|RK.app ai (gO hT rfl rfl rfl rfl rfl rfl rfl (xs := [(4294967296 + wd a p.1.length - wd b p.1.length - p.2) % 4294967296]) rfl (by simp only [List.length_cons, List.length_nil]; omega) (by decide)) ?_
  refine ab (bh (rfl : _ = AV.vec _))<|ag<|dC 30 1000 rfl rfl rfl ?_
  refine aw hP<|ak rfl<|ab (c9 (j := 32) rfl rfl (by decide)) ?_
  refine ab (bB rfl rfl (c := ((1 - (4294967296 + wd a p.1.length - wd b p.1.length - p.2) / 4294967296 : Nat) : Int)) (by rw [IntWalk.u64_in _ (by omega)]; omega)) ?_
  refine aj rfl<|ag<|aw hP<|ak rfl<|bw rfl rfl ?_
  refine aj rfl<|ag ?_
  have hr := nB ha hb hc hv
  have hq : 1 - (4294967296 + wd a p.1.length - wd b p.1.length - p.2) / 4294967296 ≤ 1 := by omega
  refine ⟨(p.1 ++ [(4294967296 + wd a p.1.length - wd b p.1.length - p.2) % 4294967296], 1 - (4294967296 + wd a p.1.length - wd b p.1.length - p.2) / 4294967296), ⟨ho.snoc (Nat.mod_lt _ (by decide)), ?_, hq, by simpa using hr⟩, ?_, aF ⟨.refl _, .refl _, .refl _, .refl _, aN (by simp), trivial⟩ ⟨rfl, trivial⟩⟩
  ·simp only [List.length_append, List.length_cons, List.length_nil]; omega
  simp only [List.length_append, List.length_cons, List.length_nil]; omega
 have hb1_ := dF0 hb1
 refine a7<|ae hP<|ab (ay (rfl : _ = AV.vec _))<|ab (bh (rfl : _ = AV.vec _))<|ag<|cH (t := 4) rfl rfl ?_
 refine am<|E1 rfl rfl ?_
 have e : p.1.length = a.length := by omega
 exact aH (by rw [yU ho e hlb hab hv])
theorem km (x y : Int) (hx : L 45 x) (hy : L 45 y) :
  aI Tryz.prog 93 [I x, I y] (I (x + y)) := by
 refine aK Tryz.func93 rfl rfl rfl rfl ?_
 refine ae hP<|ao ai (aJ rfl rfl)<|ao ai (aJ rfl rfl)<|ao ai (aA hT rfl rfl)<|ag<|aq<|ae hP<|aE hT rfl<|aZ hT rfl rfl rfl rfl ?_
 refine aE hT rfl<|aZ hT rfl rfl rfl rfl ?_
 refine ab (tm hT rfl rfl rfl rfl)<|ag ?_
 refine az rfl (fun hb1 => ?_) (fun hb1 => ?_)
 ·refine ae hP<|aE hT rfl<|aZ hT rfl rfl rfl rfl ?_
  refine aE hT rfl<|aZ hT rfl rfl rfl rfl ?_
  refine aE hT rfl<|aZ hT rfl rfl rfl rfl ?_
  refine ab (ah (Im (wl x.natAbs) (wl y.natAbs) (bG _) (bG _) (sz hx) (sz hy))) ?_
  refine ab (ah (fP _ _ (dW _ _))) ?_
  refine aG hT rfl<|ag<|am<|E2 hT rfl rfl rfl rfl rfl rfl rfl ?_
  exact Sub.I (by rw [Bi]; exact zP hb1)
 refine au<|aq<|ae hP<|aE hT rfl<|aZ hT rfl rfl rfl rfl ?_
 refine aE hT rfl<|aZ hT rfl rfl rfl rfl ?_
 refine ab (ah (oE x.natAbs y.natAbs)) ?_
 refine ab (dc rfl rfl)<|ag ?_
 refine az rfl (fun hb2 => ?_) (fun hb2 => ?_)
 ·have hb2_ := dT0 hb2
  have hc : y.natAbs ≤ x.natAbs := by have := kH hb2_; omega
  refine ae hP<|aE hT rfl<|aZ hT rfl rfl rfl rfl ?_
  refine aE hT rfl<|aZ hT rfl rfl rfl rfl ?_
  refine aE hT rfl<|aZ hT rfl rfl rfl rfl ?_
  refine ab (ah (vz (wl x.natAbs) (wl y.natAbs) (bG _) (bG _) (sz hx) (fA hc) (by rw [bD, bD]; exact hc))) ?_
  refine ab (ah (fP _ _ (dW _ _))) ?_
  refine aG hT rfl<|ag<|am<|E2 hT rfl rfl rfl rfl rfl rfl rfl ?_
  exact Sub.I (by rw [qG]; exact GS hb1 hc)
 have hb2_ := dF0 hb2
 have hc : x.natAbs < y.natAbs := by have := ju hb2_; omega
 refine au<|ae hP<|aE hT rfl<|aZ hT rfl rfl rfl rfl ?_
 refine aE hT rfl<|aZ hT rfl rfl rfl rfl ?_
 refine aE hT rfl<|aZ hT rfl rfl rfl rfl ?_
 refine ab (ah (vz (wl y.natAbs) (wl x.natAbs) (bG _) (bG _) (sz hy) (fA (by omega)) (by rw [bD, bD]; omega))) ?_
 refine ab (ah (fP _ _ (dW _ _))) ?_
 refine aG hT rfl<|ag<|am<|E2 hT rfl rfl rfl rfl rfl rfl rfl ?_
 exact Sub.I (by rw [qG]; exact GR hb1 hc)
theorem Di (x y : Int) (hx : L 45 x) (hy : L 45 y) :
  aI Tryz.prog 116 [I x, I y] (I (x - y)) := by
 have ix : LB x 45 := ⟨hx⟩
 have iy : LB y 45 := ⟨hy⟩
 refine aK Tryz.func116 rfl rfl rfl rfl ?_
 refine ae hP<|ao ai (aJ rfl rfl)<|ao ai (aJ rfl rfl)<|ao ai (aA hT rfl rfl)<|ag<|ae hP<|av hT rfl<|av hT rfl<|ab (ah (K8 _)) ?_
 refine ab (ah (km _ _ lz lz)) ?_
 refine aG hT rfl<|ag<|am<|E2 hT rfl rfl rfl rfl rfl rfl rfl ?_
 exact Sub.I (by omega)
theorem fL (x y : Int) (hx : L 45 x) (hy : L 45 y) :
  aI Tryz.prog 84 [I x, I y] (I (x * y)) := by
 have ha := bG x.natAbs
 have hb := bG y.natAbs
 have hla := sz hx
 have hlb := sz hy
 refine aK Tryz.func84 rfl rfl rfl rfl ?_
 refine ae hP<|ao ai (aJ rfl rfl)<|ao ai (aJ rfl rfl)<|ao ai (aA hT rfl rfl)<|ag<|ae hP<|aE hT rfl<|aZ hT rfl rfl rfl rfl ?_
 refine ab (aU hT rfl rfl rfl rfl)<|aE hT rfl<|aZ hT rfl rfl rfl rfl ?_
 refine ab (aU hT rfl rfl rfl rfl)<|bw rfl rfl ?_
 refine ao ai (ep hT rfl rfl rfl rfl rfl rfl rfl rfl (by omega)) ?_
 refine ab (bh (rfl : _ = AV.vec _))<|ag<|aq<|ae hP<|aj rfl<|ag<|aB<|bn (ι := List Nat × Nat) (fun ⟨o, i⟩ => stL [(2, .loc 2 0), (3, .loc 3 0), (4, .loc 4 0), (5, .vec 16), (6, Z (i : Int))] [(2, ⟨false, 1, 29, [zn (x), zm (x)]⟩), (3, ⟨false, 1, 29, [zn (y), zm (y)]⟩), (4, ⟨false, 1, 29, [zn (0), zm (0)]⟩), (16, WB 105 o)]) (fun ⟨o, i⟩ => i ≤ (wl x.natAbs).length ∧ o.length = (wl x.natAbs).length + (wl y.natAbs).length ∧ okW o ∧ wv o = wv ((wl x.natAbs).take i) * wv (wl y.natAbs) ∧ ∀ j, i + (wl y.natAbs).length ≤ j → o.getD j 0 = 0) (fun ⟨_, i⟩ => (wl x.natAbs).length - i) (List.replicate (((wl x.natAbs).length : Int) + ((wl y.natAbs).length : Int)).toNat 0, 0) ⟨Nat.zero_le _, by simp; omega, okW.rep _, by rw [kM]; simp [wv], fun j _ => lH _ _⟩ (aF ⟨.refl _, .refl _, .refl _, .refl _, .refl _, trivial⟩ ⟨rfl, rfl, rfl, rfl, trivial⟩) ?_
 rintro ⟨o, i⟩ ⟨hi, hlo, ho, hv, hz⟩
 refine aq<|ae hP<|ak rfl<|aE hT rfl<|aZ hT rfl rfl rfl rfl ?_
 refine ab (aU hT rfl rfl rfl rfl)<|ab (bd rfl rfl)<|ag ?_
 refine az rfl (fun hb1 => ?_) (fun hb1 => ?_)
 ·have hb1_ := dT0 hb1
  have hlt0 : i < (wl x.natAbs).length := by omega
  refine au<|aq<|aB<|ae hP<|aj rfl<|ag<|aq<|ae hP<|aj rfl<|ag<|aB ?_
  obtain ⟨o0, ho0⟩ : ∃ o0, o0 = o := ⟨_, rfl⟩
  have hv0 := hv
  rw [← ho0] at hv
  refine bn (ι := List Nat × Nat × Nat) (fun ⟨o, k, c⟩ => stL [(2, .loc 2 0), (3, .loc 3 0), (4, .loc 4 0), (5, .vec 16), (6, Z (i : Int)), (7, .p (.c (.v (.int .u64 (c : Nat))))), (8, Z (k : Int))] [(2, ⟨false, 1, 29, [zn (x), zm (x)]⟩), (3, ⟨false, 1, 29, [zn (y), zm (y)]⟩), (4, ⟨false, 1, 29, [zn (0), zm (0)]⟩), (16, WB 105 o)]) (fun ⟨o, k, c⟩ => k ≤ (wl y.natAbs).length ∧ o.length = (wl x.natAbs).length + (wl y.natAbs).length ∧ okW o ∧ c < 4294967296 ∧ wv o + 4294967296 ^ (i + k) * c = wv o0 + 4294967296 ^ i * ((wl x.natAbs).getD i 0 * wv ((wl y.natAbs).take k)) ∧ ∀ j, i + (wl y.natAbs).length ≤ j → o.getD j 0 = 0) (fun ⟨_, k, _⟩ => (wl y.natAbs).length - k) (o, 0, 0) ⟨Nat.zero_le _, hlo, ho, by omega, by rw [ho0]; simp [wv], hz⟩ (aF ⟨.refl _, .refl _, .refl _, .refl _, .refl _, .refl _, .refl _, trivial⟩ ⟨rfl, rfl, rfl, rfl, trivial⟩) ?_
  clear hlo ho hz hv0 ho0
  rintro ⟨o, k, c⟩ ⟨hk, hlo, ho, hc, hkv, hz⟩
  refine aq<|ae hP<|ak rfl<|aE hT rfl<|aZ hT rfl rfl rfl rfl ?_
  refine ab (aU hT rfl rfl rfl rfl)<|ab (bd rfl rfl)<|ag ?_
  refine az rfl (fun hb2 => ?_) (fun hb2 => ?_)
  ·have hb2_ := dT0 hb2
   have hlt : k < (wl y.natAbs).length := by omega
   have ha1 := ha.getD i
   have hb1v := hb.getD k
   have hp1 := Nat.mul_le_mul (Nat.le_sub_one_of_lt (ha.getD i)) (Nat.le_sub_one_of_lt (hb.getD k))
   have ho1 := ho.getD (i + k)
   refine au<|aq<|aB<|ae hP<|ak rfl<|aE hT rfl<|aZ hT rfl rfl rfl rfl ?_
   refine ak rfl<|cJ ?_
   refine cr hT rfl rfl rfl ?_
   refine ab (bf hT rfl rfl rfl rfl (cU (by omega))) ?_
   refine aE hT rfl<|aZ hT rfl rfl rfl rfl ?_
   refine ak rfl<|cJ ?_
   refine cr hT rfl rfl rfl ?_
   refine ab (bf hT rfl rfl rfl rfl (cU (by omega))) ?_
   refine ab (bK rfl rfl (c := (((wl x.natAbs).getD i 0 * (wl y.natAbs).getD k 0 : Nat) : Int)) (by rw [← Int.natCast_mul, cU (by omega)])) ?_
   refine ab (ay (rfl : _ = AV.vec _))<|ak rfl<|ak rfl<|ab (bH rfl rfl (c := ((i + k : Nat) : Int)) (by rw [iW0 _ (by omega)]; omega)) ?_
   refine c8 ?_
   refine ab (dm hT rfl rfl rfl rfl (by first | omega | (simp; omega)) rfl) ?_
   refine ab (bf hT rfl rfl rfl rfl (cU (by omega))) ?_
   refine ab (bH rfl rfl (c := (((wl x.natAbs).getD i 0 * (wl y.natAbs).getD k 0 + o.getD (i + k) 0 : Nat) : Int)) (by rw [← Int.natCast_add, cU (by omega)])) ?_
   refine ab (bH rfl rfl (c := (((wl x.natAbs).getD i 0 * (wl y.natAbs).getD k 0 + o.getD (i + k) 0 + c : Nat) : Int)) (by rw [← Int.natCast_add, Nat.add_comm, cU (by omega)])) ?_
   refine aj rfl<|ag<|ae hP<|ab (ay (rfl : _ = AV.vec _))<|ak rfl<|ak rfl<|ab (bH rfl rfl (c := ((i + k : Nat) : Int)) (by rw [iW0 _ (by omega)]; omega)) ?_
   refine ak rfl<|ab (bf hT rfl rfl rfl rfl (en _)) ?_
   refine c8 ?_
   refine dh ai (cn hT rfl rfl rfl rfl rfl (by first | omega | (simp; omega)) rfl) ?_
   refine ag<|aw hP<|ak rfl<|ab (c9 (j := 32) rfl rfl (by first | decide | omega)) ?_
   refine aj rfl<|ag<|aw hP<|ak rfl<|bw rfl rfl ?_
   refine aj rfl<|ag ?_
   have hr := qE (b := (wl y.natAbs)) (x := (wl x.natAbs).getD i 0) (i := i) (k := k) (t := (wl x.natAbs).getD i 0 * (wl y.natAbs).getD k 0 + o.getD (i + k) 0 + c) (by omega) rfl hkv
   refine ⟨(o.set (i + k) (((wl x.natAbs).getD i 0 * (wl y.natAbs).getD k 0 + o.getD (i + k) 0 + c) % 4294967296), k + 1, ((wl x.natAbs).getD i 0 * (wl y.natAbs).getD k 0 + o.getD (i + k) 0 + c) / 4294967296), ⟨by omega, by simpa using hlo, ho.set (Nat.mod_lt _ (by omega)), (Nat.div_lt_iff_lt_mul (by omega)).2 (by omega), hr, fun j hj => ?_⟩, by show (wl y.natAbs).length - (k + 1) < (wl y.natAbs).length - k; omega, aF ⟨.refl _, .refl _, .refl _, .refl _, .refl _, .refl _, aN (by omega), trivial⟩ ⟨rfl, rfl, rfl, rfl, trivial⟩⟩
   rw [fl _ _ _ _ (by omega), if_neg (by omega)]
   exact hz j (by omega)
  have hb2_ := dF0 hb2
  have hke : k = (wl y.natAbs).length := by omega
  subst hke
  refine a7<|aw hP<|ab (ay (rfl : _ = AV.vec _))<|ak rfl<|aE hT rfl<|aZ hT rfl rfl rfl rfl ?_
  refine ab (aU hT rfl rfl rfl rfl)<|ab (bH rfl rfl (c := ((i + (wl y.natAbs).length : Nat) : Int)) (by rw [iW0 _ (by omega)]; omega)) ?_
  refine ak rfl<|ab (bf hT rfl rfl rfl rfl (ky (by omega))) ?_
  refine c8 ?_
  refine dh ai (cn hT rfl rfl rfl rfl rfl (by first | omega | (simp; omega)) rfl) ?_
  refine ag<|aw hP<|ak rfl<|bw rfl rfl ?_
  refine aj rfl<|ag ?_
  have hov := qF (o := o0) (a := (wl x.natAbs)) (by omega) (hz _ (Nat.le_refl _)) rfl hv hkv
  refine ⟨(o.set (i + (wl y.natAbs).length) c, i + 1), ⟨by omega, by simpa using hlo, ho.set (by omega), hov, fun j hj => ?_⟩, by show (wl x.natAbs).length - (i + 1) < (wl x.natAbs).length - i; omega, aF ⟨.refl _, .refl _, .refl _, .refl _, aN (by omega), trivial⟩ ⟨rfl, rfl, rfl, rfl, trivial⟩⟩
  rw [fl _ _ _ _ (by omega), if_neg (by omega)]
  exact hz j (by omega)
 have hb1_ := dF0 hb1
 have hie : i = (wl x.natAbs).length := by omega
 refine a7<|cH (t := 5) rfl rfl ?_
 refine ae hP<|aE hT rfl<|aZ hT rfl rfl rfl rfl ?_
 refine aE hT rfl<|aZ hT rfl rfl rfl rfl ?_
 refine ab (jf hT rfl rfl rfl rfl)<|ak rfl<|ab (ah (fP _ _ ho)) ?_
 refine aG hT rfl<|ag<|am<|E2 hT rfl rfl rfl rfl rfl rfl rfl ?_
 exact Sub.I (by rw [hv, hie, List.take_length, bD, bD]; exact FQ x y)
end
section
open Go Go.AM
theorem yy (x : Int) (hx : L 45 x) :
  aI Tryz.prog 224 [I x] (Z (a8 x.natAbs)) := by
 have hlen := sz hx
 refine aK Tryz.func224 rfl rfl rfl rfl ?_
 refine ae hP<|ao ai (aJ rfl rfl)<|aj rfl<|ag<|aq<|ae hP<|aE hT rfl<|aZ hT rfl rfl rfl rfl ?_
 refine ab (aU hT rfl rfl rfl rfl)<|ab (bq rfl rfl)<|ag ?_
 refine az rfl (fun hb1 => ?_) (fun hb1 => ?_)
 ·have hb1_ := bT hb1
  refine ae hP<|aj rfl<|ag<|am<|E1 rfl rfl ?_
  have h0 := wl_len_zero.1 hb1_
  exact aN (by rw [h0]; rfl)
 have hb1_ := bF hb1
 have h1 : (wl x.natAbs).length ≠ 0 := fun e => hb1_ (by rw [e]; rfl)
 have hbt := ut (m := x.natAbs) (n := (wl x.natAbs).length - 1) (by omega)
 have htl := (bG x.natAbs).getD ((wl x.natAbs).length - 1)
 have hb32 := ga (k := 32) htl
 refine au<|ae hP<|aE hT rfl<|aZ hT rfl rfl rfl rfl ?_
 refine ab (aU hT rfl rfl rfl rfl)<|ab (bB rfl rfl (c := (((wl x.natAbs).length - 1 : Nat) : Int)) (by rw [iW0 _ (by omega)]; omega)) ?_
 refine ab (bK rfl rfl (c := ((32 * ((wl x.natAbs).length - 1) : Nat) : Int)) (by rw [iW0 _ (by omega)]; omega)) ?_
 refine aj rfl<|ag<|aq<|ae hP<|aE hT rfl<|aZ hT rfl rfl rfl rfl ?_
 refine aE hT rfl<|aZ hT rfl rfl rfl rfl ?_
 refine ab (aU hT rfl rfl rfl rfl)<|ab (bB rfl rfl (c := (((wl x.natAbs).length - 1 : Nat) : Int)) (by rw [iW0 _ (by omega)]; omega)) ?_
 refine cJ ?_
 refine cr hT rfl rfl rfl ?_
 refine aj rfl<|ag<|aB<|bn (ι := Nat × Nat) (fun p => stL [(3, Z ((p.1 : Nat) : Int)), (4, .p (.c (w32 p.2)))] []) (fun p => p.1 + a8 p.2 = a8 x.natAbs ∧ p.2 < 4294967296 ∧ p.1 ≤ a8 x.natAbs) (fun p => p.2) (32 * ((wl x.natAbs).length - 1), (wl x.natAbs).getD ((wl x.natAbs).length - 1) 0) ⟨hbt.symm, htl, show 32 * ((wl x.natAbs).length - 1) ≤ a8 x.natAbs by omega⟩ (aF ⟨.refl _, .refl _, trivial⟩ trivial) ?_
 rintro p ⟨hp1, hp2, hp3⟩
 refine aq<|ae hP<|ak rfl<|ab (bO rfl rfl)<|ag ?_
 refine az rfl (fun hb2 => ?_) (fun hb2 => ?_)
 ·have hb2_ := dT0 hb2
  refine au<|aq<|aB<|aw hP<|ak rfl<|ab (bH rfl rfl (c := ((p.1 + 1 : Nat) : Int)) (by rw [iW0 _ (by omega)]; omega)) ?_
  refine aj rfl<|ag<|aw hP<|ak rfl<|ab (dj rfl rfl (by decide) (c := ((p.2 / 2 ^ 1 : Nat) : Int)) (by rw [Int.tdiv_eq_ediv_of_nonneg (by omega), IntWalk.u32_in _ (by omega)]; omega)) ?_
  refine aj rfl<|ag ?_
  have hd := zG (n := p.2) (by omega)
  refine ⟨(p.1 + 1, p.2 / 2 ^ 1), ⟨show p.1 + 1 + a8 (p.2 / 2 ^ 1) = a8 x.natAbs by omega, show p.2 / 2 ^ 1 < 4294967296 by omega, show p.1 + 1 ≤ a8 x.natAbs by omega⟩, by show p.2 / 2 ^ 1 < p.2; omega, aF ⟨.refl _, .refl _, trivial⟩ trivial⟩
 have hb2_ := dF0 hb2
 refine a7<|ae hP<|ak rfl<|aj rfl<|ag<|am<|E1 rfl rfl ?_
 have h0 : p.2 = 0 := by omega
 rw [h0] at hp1
 exact aN (by rw [← hp1]; rfl)
theorem vA (l : List Nat) (n : Nat) (hl : okW l) (hll : l.length ≤ 1099511627776) (hn : n ≤ 35184372088832) :
  CallV Tryz.prog 223 [.p (.c (W l)), Z (n : Int)] (WB 105 (dgs (n / 32 + l.length + 1) (wv l * 2 ^ n))) := by
 obtain ⟨q, hq⟩ : ∃ q, q = n / 32 := ⟨_, rfl⟩
 obtain ⟨k, hk⟩ : ∃ k, k = n % 32 := ⟨_, rfl⟩
 have hks : n = 32 * q + k := by omega
 have hk32 : k < 32 := by omega
 refine oa Tryz.func223 (by kernel_rfl) rfl rfl (bL0 rfl) ?_
 refine ae hP<|aj rfl<|ag<|ae hP<|ak rfl<|ab (dj rfl rfl (by decide) (c := ((q : Nat) : Int)) (by rw [Int.tdiv_eq_ediv_of_nonneg (by omega), iW0 _ (by omega)]; omega)) ?_
 refine ao ai (ep hT rfl rfl rfl rfl rfl rfl rfl rfl (by omega)) ?_
 refine ab (bh (rfl : _ = AV.vec _))<|ag<|ae hP<|ak rfl<|ab (bW rfl rfl (by decide) (c := ((k : Nat) : Int)) (by rw [Int.tmod_eq_emod_of_nonneg (by omega)]; omega)) ?_
 refine ab (bf hT rfl rfl rfl rfl (cU (by omega))) ?_
 refine aj rfl<|ag<|dC 10 1000 rfl rfl rfl ?_
 refine aq<|ae hP<|aj rfl<|ag<|aB<|bn (ι := List Nat × Nat) (fun ⟨o, i⟩ => stL [(0, .p (.c (W l))), (5, .vec 1000), (6, .p (.c (.v (.int .u64 ((k : Nat) : Int))))), (7, Z (i : Int))] [(1000, WB 105 o)]) (fun ⟨o, i⟩ => i ≤ l.length + 1 ∧ okW o ∧ o.length = q + i ∧ wv o + 4294967296 ^ o.length * (wd l ((i : Int) - 1) * 2 ^ k / 2 ^ 32) = wv (l.take i) * 2 ^ (32 * q + k)) (fun ⟨_, i⟩ => l.length + 1 - i) (List.replicate ((q : Nat) : Int).toNat 0, 0) ⟨Nat.zero_le _, okW.rep _, by simp, by rw [kM, oj (.inl (by decide))]; simp [wv]⟩ (aF ⟨.refl _, .refl _, .refl _, .refl _, trivial⟩ ⟨rfl, trivial⟩) ?_
 rintro ⟨o, i⟩ ⟨hi, hok, hol, hv⟩
 have hwi := eS hl (i : Int)
 have hwj := eS hl ((i : Int) - 1)
 refine aq<|ae hP<|ak rfl<|ak rfl<|ab (aU hT rfl rfl rfl rfl)<|ab (fv rfl rfl)<|ag ?_
 refine az rfl (fun hb1 => ?_) (fun hb1 => ?_)
 ·have hb1_ := dT0 hb1
  have hlt : i ≤ l.length := by omega
  refine au<|aq<|aB<|aw hP<|ab (ay (rfl : _ = AV.vec _))<|ak rfl<|ak rfl<|ab (ah (dO _ _ hl)) ?_
  refine ak rfl<|ab (kU rfl rfl (by omega) (c := ((wd l i * 2 ^ k : Nat) : Int)) (wF hwi hk32)) ?_
  refine ak rfl<|ak rfl<|ab (bB rfl rfl (by first | exact iW0 _ (by omega) | rfl)) ?_
  refine ab (ah (dO _ _ hl)) ?_
  refine ak rfl<|ab (kU rfl rfl (by omega) (c := ((wd l ((i : Int) - 1) * 2 ^ k : Nat) : Int)) (wF hwj hk32)) ?_
  refine ab (c9 (j := 32) rfl rfl (by decide)) ?_
  refine ab (mn rfl rfl rfl (fR (sn hwi hk32)) (fR (Nat.lt_of_le_of_lt (Nat.div_le_self _ _) (sn hwj hk32)))) ?_
  refine ab (bf hT rfl rfl rfl rfl (en _)) ?_
  refine ab (bg hT rfl rfl rfl (es := [_]) rfl rfl rfl)<|RK.app ai (gO hT rfl rfl rfl rfl rfl rfl rfl (xs := [(wd l i * 2 ^ k ||| wd l ((i : Int) - 1) * 2 ^ k / 2 ^ 32) % 4294967296]) rfl (by simp only [List.length_cons, List.length_nil]; omega) (by decide)) ?_
  refine ab (bh (rfl : _ = AV.vec _))<|ag<|dC 36 1000 rfl rfl rfl ?_
  refine aw hP<|ak rfl<|bw rfl rfl ?_
  refine aj rfl<|ag ?_
  have hr := xr hl hk32 hol hv
  refine ⟨(o ++ [(wd l i * 2 ^ k ||| wd l ((i : Int) - 1) * 2 ^ k / 2 ^ 32) % 4294967296], i + 1), ⟨by omega, hok.snoc (Nat.mod_lt _ (by decide)), by simp; omega, ?_⟩, by show l.length + 1 - (i + 1) < l.length + 1 - i; omega, aF ⟨.refl _, .refl _, .refl _, .refl _, trivial⟩ ⟨rfl, trivial⟩⟩
  rw [List.length_append, List.length_cons, List.length_nil, show (((i + 1 : Nat) : Int) - 1) = (i : Int) by omega]
  exact hr
 have hb1_ := dF0 hb1
 have hge : i = l.length + 1 := by omega
 refine a7<|ae hP<|ab (ay (rfl : _ = AV.vec _))<|ab (bh (rfl : _ = AV.vec _))<|ag<|am ?_
 refine ⟨.inr rfl, _, _, rfl, rfl, ?_⟩
 rw [← hq]
 exact congrArg (fun z => some (WB 105 z)) (by rw [BM hok hol hge hv, hks])
theorem Ip (l : List Nat) (n : Nat) (hl : okW l) (hll : l.length ≤ 1099511627776) (hn : n ≤ 35184372088832) : aI Tryz.prog 223 [.p (.c (W l)), Z (n : Int)] (.p (.c (W (dgs (n / 32 + l.length + 1) (wv l * 2 ^ n))))) := (vA l n hl hll hn).call0W
theorem yw (a b : List Nat) (ha : okW a) (hb : okW b) (hla : a.length ≤ 4398046511104) (hlb : b.length ≤ 4398046511104) :
  aI Tryz.prog 239 [.p (.c (W a)), .p (.c (W b))] (B (decide (wv b ≤ wv a))) := by
 obtain ⟨mx, hmx⟩ : ∃ mx : Int, mx = (if (b.length : Int) > a.length then (b.length : Int) else a.length) := ⟨_, rfl⟩
 have hm1 : (a.length : Int) ≤ mx ∧ (b.length : Int) ≤ mx ∧ mx ≤ 4398046511104 := by rw [hmx]; split <;> omega
 refine aK Tryz.func239 rfl rfl rfl rfl ?_
 refine ae hP<|aj rfl<|ag<|aq<|ae hP<|ak rfl<|ab (aU hT rfl rfl rfl rfl)<|ak rfl<|ab (aU hT rfl rfl rfl rfl)<|ab (oP rfl rfl)<|ab (bB rfl rfl (c := (mx.toNat : Int) - 1) (by rw [← hmx, iW0 _ (by omega)]; omega)) ?_
 refine aj rfl<|ag<|aB<|bn (ι := Nat) (fun k => stL [(0, .p (.c (W a))), (1, .p (.c (W b))), (5, Z ((k : Int) - 1))] []) (fun k => k ≤ mx.toNat ∧ wv a / 4294967296 ^ k = wv b / 4294967296 ^ k) (fun k => k) mx.toNat ⟨Nat.le_refl _, by rw [nu ha (by omega), nu hb (by omega)]⟩ (aF ⟨.refl _, .refl _, .refl _, trivial⟩ trivial) ?_
 rintro k ⟨hk, he⟩
 refine aq<|ae hP<|ak rfl<|ab (dc rfl rfl)<|ag ?_
 refine az rfl (fun hb1 => ?_) (fun hb1 => ?_)
 ·have hb1_ := dT0 hb1
  refine au<|aq<|aB<|ae hP<|ak rfl<|ak rfl<|ab (ah (dO _ _ (by assumption))) ?_
  refine ak rfl<|ak rfl<|ab (ah (dO _ _ (by assumption))) ?_
  refine ab (bo rfl rfl)<|ag ?_
  refine az rfl (fun hb2 => ?_) (fun hb2 => ?_)
  ·have hb2_ := b8 hb2
   refine ae hP<|ak rfl<|ak rfl<|ab (ah (dO _ _ (by assumption))) ?_
   refine ak rfl<|ak rfl<|ab (ah (dO _ _ (by assumption))) ?_
   refine ab (bO rfl rfl)<|aj rfl<|ag<|am<|E1 rfl rfl ?_
   exact aX (yt ha hb hb1_ he hb2_)
  have hb2_ := bU hb2
  refine au<|aw hP<|ak rfl<|ab (bB rfl rfl (by first | exact iW0 _ (by omega) | rfl)) ?_
  refine aj rfl<|ag ?_
  exact ⟨k - 1, ⟨by omega, wP ha hb hb1_ he hb2_⟩, by omega, aF ⟨.refl _, .refl _, aN (by omega), trivial⟩ trivial⟩
 have hb1_ := dF0 hb1
 refine a7<|ae hP<|aj rfl<|ag<|am<|E1 rfl rfl ?_
 have h0 : k = 0 := by omega
 subst h0
 exact aX (decide_eq_true (by simpa using Nat.le_of_eq he.symm)).symm
theorem Fa (l : List Nat) (hl : okW l) (hll : l.length ≤ 4398046511104) :
  CallM Tryz.prog 241 [.vec 0] (upd O 0 (some (WB 105 l))) (.t []) (upd O 0 (some (WB 105 (dgs l.length (wv l / 2))))) := by
 refine lN (np := 1) Tryz.func241 (by kernel_rfl) rfl rfl (bL0 rfl) pj nK rfl ?_
 refine ae hP<|aj rfl<|ag<|aB<|bn (ι := Nat) (fun i => stL [(0, .vec 0), (2, Z (i : Int))] [(0, WB 105 (hlf l i))]) (fun i => i ≤ l.length) (fun i => l.length - i) 0 (Nat.zero_le _) (aF ⟨.refl _, .refl _, trivial⟩ ⟨congrArg (fun z => some (WB 105 z)) (BT l).symm, trivial⟩) ?_
 intro i hi
 have hlen := Gj l hi
 have hok := Jn hl i
 have hwi := eS hok (i : Int)
 have hwj := eS hok ((i : Int) + 1)
 refine aq<|ae hP<|ak rfl<|ab (ay (rfl : _ = AV.vec _))<|ab (eP hT rfl rfl rfl rfl)<|ab (bd rfl rfl)<|ag ?_
 refine az rfl (fun hb1 => ?_) (fun hb1 => ?_)
 ·have hb1_ := dT0 hb1
  have hlt : i < l.length := by omega
  refine au<|aq<|aB<|aw hP<|ab (ay (rfl : _ = AV.vec _))<|ak rfl<|ab (ay (rfl : _ = AV.vec _))<|ak rfl<|ab (Eff.borrow (.vecW rfl (.same .nil)) (dO (hlf l i) _ hok)) ?_
  refine ab (c9 (j := 1) rfl rfl (by decide)) ?_
  refine ab (ay (rfl : _ = AV.vec _))<|ak rfl<|bw rfl rfl ?_
  refine ab (Eff.borrow (.vecW rfl (.same .nil)) (dO (hlf l i) _ hok)) ?_
  refine ab (iG (j := 31) rfl rfl (by decide) rfl) ?_
  refine ab (mn rfl rfl rfl (fR (by omega)) (fR (Nat.mod_lt _ (by decide)))) ?_
  refine ab (bf hT rfl rfl rfl rfl (en _)) ?_
  refine c8 ?_
  refine dh ai (cn hT rfl rfl rfl rfl rfl (by first | omega | (simp; omega)) (show (hlf l i).set i _ = hlf l (i + 1) by rw [zd (Int.le_refl _) (by omega), zd (by omega) (by omega), ze hl]; exact Gi hlt)) ?_
  refine ag<|aw hP<|ak rfl<|bw rfl rfl ?_
  refine aj rfl<|ag ?_
  exact ⟨i + 1, by show i + 1 ≤ l.length; omega, by show l.length - (i + 1) < l.length - i; omega, aF ⟨.refl _, aN (by omega), trivial⟩ ⟨rfl, trivial⟩⟩
 have hb1_ := dF0 hb1
 have hie : i = l.length := by omega
 refine a7 ?_
 refine mB rfl (.inl rfl)  ?_ (nS ?_)
 exact .refl _
 exact congrArg (fun z => some (WB 105 z)) (by rw [hie, Gl])
theorem EZ (a b : List Nat) (ha : okW a) (hb : okW b) (hla : a.length ≤ 4398046511104) (hab : wv b ≤ wv a) :
  CallM Tryz.prog 240 [.vec 0, .vec 1] (upd (upd O 0 (some (WB 105 a))) 1 (some (WB 105 b))) (.t []) (upd (upd O 0 (some (WB 105 (dgs a.length (wv a - wv b))))) 1 (some (WB 105 b))) := by
 refine lN (np := 2) Tryz.func240 (by kernel_rfl) rfl rfl (bL0 rfl) DR Ac rfl ?_
 refine ae hP<|aj rfl<|ag<|ae hP<|aj rfl<|ag<|aB<|bn (ι := List Nat × Nat) (fun p => stL [(0, .vec 0), (1, .vec 1), (4, .p (.c (.v (.int .u64 ((p.2 : Nat) : Int))))), (5, Z ((p.1.length : Nat) : Int))] [(0, WB 105 (p.1 ++ a.drop p.1.length)), (1, WB 105 b)]) (fun p => p.1.length ≤ a.length ∧ okW p.1 ∧ p.2 ≤ 1 ∧ wv p.1 + wv (b.take p.1.length) = wv (a.take p.1.length) + 4294967296 ^ p.1.length * p.2) (fun p => a.length - p.1.length) ([], 0) ⟨Nat.zero_le _, okW.nil, by decide, by simp [wv]⟩ (aF ⟨.refl _, .refl _, .refl _, .refl _, trivial⟩ ⟨rfl, rfl, trivial⟩) ?_
 rintro p ⟨hll, hol, hc, hv⟩
 have hmid := pN hll
 have hwb := eS hb (p.1.length : Nat)
 refine aq<|ae hP<|ak rfl<|ab (ay (rfl : _ = AV.vec _))<|ab (eP hT rfl rfl rfl rfl)<|ab (bd rfl rfl)<|ag ?_
 refine az rfl (fun hb1 => ?_) (fun hb1 => ?_)
 ·have hb1_ := dT0 hb1
  have hlt : p.1.length < a.length := by omega
  have hal := ha.getD p.1.length
  have htx := (yc ha hb hc hlt).1
  refine au<|aq<|aB<|ae hP<|ab (ay (rfl : _ = AV.vec _))<|ak rfl<|c8 ?_
  refine ab (dm hT rfl rfl rfl rfl (by first | omega | (simp; omega)) (pO hlt)) ?_
  refine ab (bf hT rfl rfl rfl rfl (cU (by omega))) ?_
  refine ab (bH rfl rfl (c := ((4294967296 + a.getD p.1.length 0 : Nat) : Int)) (by rw [IntWalk.u64_in _ (by omega)]; omega)) ?_
  refine ab (ay (rfl : _ = AV.vec _))<|ak rfl<|ab (Eff.borrow (.vecW rfl (.same .nil)) (dO b _ hb)) ?_
  refine ab (bB rfl rfl (c := ((4294967296 + a.getD p.1.length 0 - wd b (p.1.length : Nat) : Nat) : Int)) (by rw [IntWalk.u64_in _ (by omega)]; omega)) ?_
  refine ak rfl<|ab (bB rfl rfl (c := ((4294967296 + a.getD p.1.length 0 - wd b (p.1.length : Nat) - p.2 : Nat) : Int)) (by rw [IntWalk.u64_in _ (by omega)]; omega)) ?_
  refine aj rfl<|ag<|ae hP<|ab (ay (rfl : _ = AV.vec _))<|ak rfl<|ak rfl<|ab (bf hT rfl rfl rfl rfl (en _)) ?_
  refine c8 ?_
  refine dh ai (cn hT rfl rfl rfl rfl rfl (by first | omega | (simp; omega)) (pM hlt)) ?_
  refine ag<|aw hP<|ak rfl<|ab (c9 (j := 32) rfl rfl (by decide)) ?_
  refine ab (bB rfl rfl (c := ((1 - (4294967296 + a.getD p.1.length 0 - wd b (p.1.length : Nat) - p.2) / 4294967296 : Nat) : Int)) (by rw [IntWalk.u64_in _ (by omega)]; omega)) ?_
  refine aj rfl<|ag<|aw hP<|ak rfl<|bw rfl rfl ?_
  refine aj rfl<|ag ?_
  have hx := (yc ha hb hc hlt).2
  have hr := nB ha hb hc hv
  rw [← hx] at hr
  refine ⟨(p.1 ++ [(4294967296 + a.getD p.1.length 0 - wd b (p.1.length : Nat) - p.2) % 4294967296], 1 - (4294967296 + a.getD p.1.length 0 - wd b (p.1.length : Nat) - p.2) / 4294967296), ⟨?_, hol.snoc (Nat.mod_lt _ (by decide)), Nat.sub_le _ _, by simpa using hr⟩, ?_, aF ⟨.refl _, .refl _, .refl _, aN (by simp), trivial⟩ ⟨rfl, rfl, trivial⟩⟩
  ·simp only [List.length_append, List.length_cons, List.length_nil]; omega
  simp only [List.length_append, List.length_cons, List.length_nil]; omega
 have hb1_ := dF0 hb1
 have hge : p.1.length = a.length := by omega
 refine a7 ?_
 refine mB rfl (.inl rfl)  ?_ (Bn ?_ rfl)
 exact .refl _
 exact congrArg (fun z => some (WB 105 z)) (AS ha hb hol hge hab hv)
theorem yx (m : Nat) (l : List Nat) (hl : okW l) (hll : l.length ≤ 4398046511104) : CallM Tryz.prog 241 [.vec m] (upd O m (some (WB 105 l))) (.t []) (upd O m (some (WB 105 (dgs l.length (wv l / 2))))) := CallM.ren1 m (Fa l hl hll) rfl rfl
theorem Ik (m k : Nat) (hmk : Nat.beq m k = false) (a b : List Nat) (ha : okW a) (hb : okW b) (hla : a.length ≤ 4398046511104) (hab : wv b ≤ wv a) : CallM Tryz.prog 240 [.vec m, .vec k] (upd (upd O m (some (WB 105 a))) k (some (WB 105 b))) (.t []) (upd (upd O m (some (WB 105 (dgs a.length (wv a - wv b))))) k (some (WB 105 b))) := CallM.ren2 m k hmk (EZ a b ha hb hla hab) rfl rfl
end
section
open Go Go.AM
theorem vB (a : Nat) (h : (wl a).length ≤ 1099511627776) : aI Tryz.prog 224 [.p (.a [zn 0, nt a])] (Z (a8 a)) := by
 have h : aI Tryz.prog 224 [.p (.a [zn (a : Int), nt a])] (Z (a8 a)) := yy (a : Int) (Cs h)
 rw [GV] at h
 exact h
theorem A8 (a b : Nat) (hla : (wl a).length ≤ 1099511627776) (hlb : (wl b).length ≤ 1099511627776) (hb : 0 < b) :
  aI Tryz.prog 210 [.p (.c (nt a)), .p (.c (nt b))] (.p (.a [W (qL a b), W (rL a b)])) := by
 have hba := uv hla
 have hbb := uv hlb
 refine aK Tryz.func210 rfl rfl rfl rfl ?_
 refine ae hP<|ao ai (aA hT rfl rfl)<|ag<|cB (ι := Unit) (fun _ => stL [(0, .p (.c (nt a))), (1, .p (.c (nt b))), (4, .loc 4 0)] [(4, ⟨false, 1, 236, [.sl 0 [], .sl 0 []]⟩)]) (fun _ => ¬ ((wl a).length ≤ 2 ∧ (wl b).length ≤ 2)) ?_ ?_
 ·refine ae hP<|ak rfl<|ab (aU hT rfl rfl rfl rfl)<|ab (fv rfl rfl)<|ak rfl ?_
  refine a6 (t := 15) rfl (fun hg1 => ?_) (fun hg1 => ?_)
  ·have hg1_ := dT0 hg1
   have hl1 : (wl a).length ≤ 2 := by have := dT0 hg1; omega
   refine aC hg1 (ay (rfl : _ = AV.p (.c _))) ?_
   refine aC hg1 (aU hT rfl rfl rfl rfl) ?_
   refine aC hg1 (fv rfl rfl) ?_
   refine ab (aO rfl hg1 (rfl : _ = AV.p (.c _)))<|ag ?_
   refine az rfl (fun hb2 => ?_) (fun hb2 => ?_)
   ·have hb2_ := dT0 hb2
    have hl2 : (wl b).length ≤ 2 := by have := dT0 hb2; omega
    have ha64 := kW hl1
    have hb64 := kW hl2
    have hdv := Nat.div_le_self a b
    have hmd := Nat.mod_le a b
    refine ae hP<|ak rfl<|ab (ah (dO _ _ (bG _))) ?_
    refine ak rfl<|ab (ah (dO _ _ (bG _))) ?_
    refine ab (iG (j := 32) rfl rfl (by decide) rfl) ?_
    refine ab (kt rfl rfl (I8 hl1)) ?_
    refine aj rfl<|ag<|ae hP<|ak rfl<|ab (ah (dO _ _ (bG _))) ?_
    refine ak rfl<|ab (ah (dO _ _ (bG _))) ?_
    refine ab (iG (j := 32) rfl rfl (by decide) rfl) ?_
    refine ab (kt rfl rfl (I8 hl2)) ?_
    refine aj rfl<|ag<|ae hP<|ak rfl<|ak rfl<|ab (dj rfl rfl (by omega) (c := ((a / b : Nat) : Int)) (by rw [Int.tdiv_eq_ediv_of_nonneg (by omega), ← Int.natCast_ediv, cU (by omega)])) ?_
    refine ab (bf hT rfl rfl rfl rfl (en _)) ?_
    refine ak rfl<|ak rfl<|ab (dj rfl rfl (by omega) (c := ((a / b : Nat) : Int)) (by rw [Int.tdiv_eq_ediv_of_nonneg (by omega), ← Int.natCast_ediv, cU (by omega)])) ?_
    refine ab (c9 (j := 32) rfl rfl (by decide)) ?_
    refine ab (bf hT rfl rfl rfl rfl (ky (by omega))) ?_
    refine ab (bg hT rfl rfl rfl (es := [_, _]) rfl rfl rfl)<|ak rfl<|ak rfl<|ab (bW rfl rfl (by omega) (c := ((a % b : Nat) : Int)) (by rw [Int.tmod_eq_emod_of_nonneg (by omega), ← Int.natCast_emod])) ?_
    refine ab (bf hT rfl rfl rfl rfl (en _)) ?_
    refine ak rfl<|ak rfl<|ab (bW rfl rfl (by omega) (c := ((a % b : Nat) : Int)) (by rw [Int.tmod_eq_emod_of_nonneg (by omega), ← Int.natCast_emod])) ?_
    refine ab (c9 (j := 32) rfl rfl (by decide)) ?_
    refine ab (bf hT rfl rfl rfl rfl (ky (by omega))) ?_
    refine ab (bg hT rfl rfl rfl (es := [_, _]) rfl rfl rfl)<|ab (aV hT rfl rfl rfl (es := [_, _]) rfl)<|aG hT rfl<|ag<|am<|E2 hT rfl rfl rfl rfl rfl rfl rfl ?_
    exact aH (by unfold qL rL; rw [if_pos ⟨hl1, hl2⟩, if_pos ⟨hl1, hl2⟩]; rfl)
   have hb2_ := dF0 hb2
   have hl2 : ¬ (wl b).length ≤ 2 := by have := dF0 hb2; omega
   have hsm : ¬ ((wl a).length ≤ 2 ∧ (wl b).length ≤ 2) := fun x => hl2 x.2
   refine au ?_
   exact ⟨(), hsm, aF ⟨.refl _, .refl _, .refl _, trivial⟩ ⟨rfl, trivial⟩⟩
  have hg1_ := dF0 hg1
  have hl1 : ¬ (wl a).length ≤ 2 := by have := dF0 hg1; omega
  have hsm : ¬ ((wl a).length ≤ 2 ∧ (wl b).length ≤ 2) := fun x => hl1 x.1
  iterate 3 refine aY hg1 ?_
  refine ab (aM rfl hg1 (rfl : _ = AV.p (.c _)))<|ag<|aQ rfl rfl<|au ?_
  exact ⟨(), hsm, aF ⟨.refl _, .refl _, .refl _, trivial⟩ ⟨rfl, trivial⟩⟩
 rintro _ hsm
 refine ae hP<|ao ai (iH hT rfl rfl rfl rfl (ws := []) rfl rfl rfl) ?_
 refine ak rfl<|RK.app ai (gO hT rfl rfl rfl rfl rfl rfl rfl (xs := wl a) rfl (by simp only [List.length_nil]; omega) (by decide)) ?_
 refine ab (bh (rfl : _ = AV.vec _))<|ag<|ae hP<|ak rfl<|ab (aV hT rfl rfl rfl (es := [_, _]) rfl)<|ab (ah (vB a hla)) ?_
 refine ak rfl<|ab (aV hT rfl rfl rfl (es := [_, _]) rfl)<|ab (ah (vB b hlb)) ?_
 refine ab (bB rfl rfl (by first | exact iW0 _ (by omega) | rfl)) ?_
 refine aj rfl<|ag<|aq<|ae hP<|ak rfl<|ab (bd rfl rfl)<|ag ?_
 refine az rfl (fun hb3 => ?_) (fun hb3 => ?_)
 ·have hb3_ := dT0 hb3
  have hneg : a8 a < a8 b := by omega
  refine cH (t := 7) rfl rfl ?_
  refine ae hP<|ak rfl<|ab (aV hT rfl rfl rfl (es := [_, _]) rfl)<|aG hT rfl<|ag<|am<|E2 hT rfl rfl rfl rfl rfl rfl rfl ?_
  exact B7 hsm hneg
 have hb3_ := dF0 hb3
 have hnn : a8 b ≤ a8 a := by omega
 obtain ⟨N, hN⟩ : ∃ N, N = a8 a - a8 b := ⟨_, rfl⟩
 refine au<|dE (t := stL [(0, .p (.c (nt a))), (1, .p (.c (nt b))), (4, .loc 4 0), (7, .vec 55), (8, Z (N : Int))] [(4, ⟨false, 1, 236, [.sl 0 [], .sl 0 []]⟩), (55, WB 105 (wl a))]) (aF ⟨.refl _, .refl _, .refl _, .refl _, aN (by omega), trivial⟩ ⟨rfl, rfl, trivial⟩) ?_
 refine ae hP<|ak rfl<|ab (dj rfl rfl (by decide) (c := ((N / 32 : Nat) : Int)) (by rw [Int.tdiv_eq_ediv_of_nonneg (by omega), iW0 _ (by omega)]; omega)) ?_
 refine ab (bH rfl rfl (c := ((N / 32 + 1 : Nat) : Int)) (by rw [iW0 _ (by omega)]; omega)) ?_
 refine ao ai (ep hT rfl rfl rfl rfl rfl rfl rfl rfl (by omega)) ?_
 refine ab (bh (rfl : _ = AV.vec _))<|ag<|ae hP<|ak rfl<|ak rfl<|ao ai (Eff.callV (vA (wl b) N (bG _) hlb (by omega))) ?_
 refine ab (bh (rfl : _ = AV.vec _))<|ag<|aq<|ae hP<|ak rfl<|aj rfl<|ag<|aB<|bn (ι := Nat × Nat × Nat) (fun ⟨j, Q, R⟩ => stL [(4, .loc 4 0), (7, .vec 55), (9, .vec 70), (10, .vec 73), (11, Z ((j : Int) - 1))] [(4, ⟨false, 1, 236, [.sl 0 [], .sl 0 []]⟩), (55, WB 105 (dgs (wl a).length R)), (70, WB 105 (dgs (N / 32 + 1) Q)), (73, WB 105 (dgs (N / 32 + (wl b).length + 1) (b * 2 ^ j / 2)))]) (fun ⟨j, Q, R⟩ => j ≤ N + 1 ∧ Q < 4294967296 ^ (N / 32 + 1) ∧ Dv a b j Q R) (fun ⟨j, _, _⟩ => j) (N + 1, 0, a) ⟨Nat.le_refl _, Nat.pow_pos (by decide), hN ▸ Dv.start hb hnn⟩ (aF ⟨.refl _, .refl _, .refl _, .refl _, aN (by omega), trivial⟩ ⟨rfl, congrArg (fun z => some (WB 105 z)) (zu a).symm, congrArg (fun z => some (WB 105 z)) (by rw [Ca]; rfl), congrArg (fun z => some (WB 105 z)) (by rw [bD, gz (by omega), Nat.add_sub_cancel]), trivial⟩) ?_
 rintro ⟨j, Q, R⟩ ⟨hj, hQ, hD⟩
 have hRa : R < 4294967296 ^ (wl a).length := Nat.lt_of_le_of_lt hD.le (dl a)
 have hDl := Nk hb hj
 refine aq<|ae hP<|ak rfl<|ab (dc rfl rfl)<|ag ?_
 refine az rfl (fun hb4 => ?_) (fun hb4 => ?_)
 ·have hb4_ := dT0 hb4
  have hj0 : 0 < j := by omega
  have hset := EM (m := (N / 32 + 1)) (Q := Q) (i := j - 1) (by omega) (by rw [show j - 1 + 1 = j by omega]; exact hD.mul) hQ
  have hkk : ((j : Int) - 1) = ((j - 1 : Nat) : Int) := by omega
  refine au<|aq<|aB<|aq<|ae hP<|ab (ay (rfl : _ = AV.vec _))<|ab (ay (rfl : _ = AV.vec _))<|ab (Eff.borrow (.vecW rfl (.vecW rfl .nil)) (yw _ _ (dW _ _) (dW _ _) (by rw [bS]; omega) (by rw [bS]; omega))) ?_
  refine ag ?_
  refine az rfl (fun hb5 => ?_) (fun hb5 => ?_)
  ·have hle := yr hRa hDl hb5
   rw [gz hj0] at hle
   refine ae hP<|ab (ay (rfl : _ = AV.vec _))<|ab (ay (rfl : _ = AV.vec _))<|RK.mutL ai (Eff.call (rd := [55, 73]) (Ik 55 73 rfl (dgs (wl a).length R) (dgs (N / 32 + (wl b).length + 1) (b * 2 ^ j / 2)) (dW _ _) (dW _ _) (by rw [bS]; omega) (by rw [dN _ _ hRa, dN _ _ hDl, gz hj0]; exact hle)) (MI rfl rfl rfl) Ab) ?_
   refine ag<|aw hP<|ab (ay (rfl : _ = AV.vec _))<|ak rfl<|ab (dj rfl rfl (by decide) (c := (((j - 1) / 32 : Nat) : Int)) (by rw [hkk, Int.tdiv_eq_ediv_of_nonneg (by omega), iW0 _ (by omega)]; omega)) ?_
   refine ab (by first | exact fY hT rfl rfl rfl rfl rfl rfl rfl (by rw [bS]; omega) | exact fw hT rfl rfl rfl rfl rfl rfl rfl (by rw [bS]; omega)) ?_
   refine ab (dm hT rfl rfl rfl rfl (by rw [bS]; omega) rfl) ?_
   refine ak rfl<|ab (bW rfl rfl (by decide) (c := (((j - 1) % 32 : Nat) : Int)) (by rw [hkk, Int.tmod_eq_emod_of_nonneg (by omega)]; omega)) ?_
   refine ab (bf hT rfl rfl rfl rfl (cU (by omega))) ?_
   refine ab (kU rfl rfl (by omega) (c := ((2 ^ ((j - 1) % 32) : Nat) : Int)) (EI (by omega))) ?_
   refine ab (mn rfl rfl rfl (gS ((dW _ _).getD _)) (gS (sR (by omega)))) ?_
   refine ab (by first | exact fY hT rfl rfl rfl rfl rfl rfl rfl (by rw [bS]; omega) | exact fw hT rfl rfl rfl rfl rfl rfl rfl (by rw [bS]; omega)) ?_
   refine dh ai (cn hT rfl rfl rfl rfl rfl (by rw [bS]; omega) rfl) ?_
   refine ag<|aw hP<|ab (ay (rfl : _ = AV.vec _))<|RK.mut ai (Eff.call (rd := [73]) (yx 73 (dgs (N / 32 + (wl b).length + 1) (b * 2 ^ j / 2)) (dW _ _) (by rw [bS]; omega)) (kA rfl) ie) ?_
   refine ag<|aw hP<|ak rfl<|ab (bB rfl rfl (by first | exact iW0 _ (by omega) | rfl)) ?_
   refine aj rfl<|ag ?_
   refine ⟨(j - 1, Q + 2 ^ (j - 1), R - b * 2 ^ (j - 1)), ⟨by omega, hset.2.2, hD.yes hj0 hle⟩, by show j - 1 < j; omega, aF ⟨.refl _, .refl _, .refl _, .refl _, aN (by omega), trivial⟩ ⟨rfl, congrArg (fun z => some (WB 105 z)) (by rw [bS, dN _ _ hRa, dN _ _ hDl, gz hj0]), congrArg (fun z => some (WB 105 z)) hset.1, congrArg (fun z => some (WB 105 z)) (by rw [bS, dN _ _ hDl, gz hj0]), trivial⟩⟩
  have hle := A6 hRa hDl hb5
  rw [gz hj0] at hle
  refine au<|aw hP<|ab (ay (rfl : _ = AV.vec _))<|RK.mut ai (Eff.call (rd := [73]) (yx 73 (dgs (N / 32 + (wl b).length + 1) (b * 2 ^ j / 2)) (dW _ _) (by rw [bS]; omega)) (kA rfl) ie) ?_
  refine ag<|aw hP<|ak rfl<|ab (bB rfl rfl (by first | exact iW0 _ (by omega) | rfl)) ?_
  refine aj rfl<|ag ?_
  refine ⟨(j - 1, Q, R), ⟨by omega, hQ, hD.no hj0 hle⟩, by show j - 1 < j; omega, aF ⟨.refl _, .refl _, .refl _, .refl _, aN (by omega), trivial⟩ ⟨rfl, rfl, rfl, congrArg (fun z => some (WB 105 z)) (by rw [bS, dN _ _ hDl, gz hj0]), trivial⟩⟩
 have hb4_ := dF0 hb4
 have hj0 : j = 0 := by omega
 subst hj0
 have hfin := hD.done
 refine a7<|cH (t := 9) rfl rfl ?_
 refine cH (t := 7) rfl rfl ?_
 refine ae hP<|ak rfl<|ak rfl<|ab (aV hT rfl rfl rfl (es := [_, _]) rfl)<|aG hT rfl<|ag<|am<|E2 hT rfl rfl rfl rfl rfl rfl rfl ?_
 exact B8 hsm hnn hN hfin
end
section
open Go Go.AM
theorem E9 (neg : Bool) (a b : Nat) (hb : 0 < b) : aI Tryz.prog 51 [B neg, .p (.c (W (qL a b)))] (I (sg neg (a / b))) := by
 have h := fP neg (qL a b) Ld
 rwa [Iw hb] at h
theorem E8 (neg : Bool) (a b : Nat) : aI Tryz.prog 51 [B neg, .p (.c (W (rL a b)))] (I (sg neg (a % b))) := by
 have h := fP neg (rL a b) Lc
 rwa [It] at h
theorem sI (x y : Int) (hx : L 44 x) (hy : L 44 y) (h0 : y ≠ 0) :
  aI Tryz.prog 173 [I x, I y] (.t [PI (x / y), PI (x % y), PE 0]) := by
 have hq : L 44 (sg (!(decide (x < 0) == decide (y < 0))) (x.natAbs / y.natAbs)) := L.of_le hx (by rw [ou]; exact Nat.div_le_self _ _)
 have hr : L 44 (sg (decide (x < 0)) (x.natAbs % y.natAbs)) := L.of_le hx (by rw [ou]; exact Nat.mod_le _ _)
 have iq : LB _ 44 := ⟨hq⟩
 have ir : LB _ 44 := ⟨hr⟩
 have iy : LB y 44 := ⟨hy⟩
 refine aK Tryz.func173 rfl rfl rfl rfl ?_
 refine ae hP<|ao ai (aJ rfl rfl)<|ao ai (aJ rfl rfl)<|ao ai (aA hT rfl rfl)<|ao ai (aA hT rfl rfl)<|aj rfl<|ag<|aq<|ae hP<|aE hT rfl<|aZ hT rfl rfl rfl rfl ?_
 refine ab (aU hT rfl rfl rfl rfl)<|ab (bq rfl rfl)<|ag ?_
 refine az rfl (fun hb1 => ?_) (fun hb1 => ?_)
 ·have hb1_ := bT hb1
  exact absurd (wl_len_zero.1 hb1_) h0
 have hb1_ := bF hb1
 refine au<|ae hP<|aE hT rfl<|aZ hT rfl rfl rfl rfl ?_
 refine aE hT rfl<|aZ hT rfl rfl rfl rfl ?_
 refine ab (ah (A8 x.natAbs y.natAbs (sz (hx.mono (by decide))) (sz (hy.mono (by decide))) (by omega))) ?_
 refine ao ai (aA hT rfl rfl)<|aG hT rfl<|ag<|ae hP<|aE hT rfl<|aZ hT rfl rfl rfl rfl ?_
 refine aE hT rfl<|aZ hT rfl rfl rfl rfl ?_
 refine ab (jf hT rfl rfl rfl rfl)<|aE hT rfl<|aZ hT rfl rfl rfl rfl ?_
 refine ab (ah (E9 _ _ _ (by omega))) ?_
 refine ao ai (aA hT rfl rfl)<|aG hT rfl<|ag<|ae hP<|aE hT rfl<|aZ hT rfl rfl rfl rfl ?_
 refine aE hT rfl<|aZ hT rfl rfl rfl rfl ?_
 refine ab (ah (E8 _ _ _)) ?_
 refine ao ai (aA hT rfl rfl)<|aG hT rfl<|ag<|aq<|ae hP<|aE hT rfl<|aZ hT rfl rfl rfl rfl ?_
 refine ag ?_
 refine az rfl (fun hb2 => ?_) (fun hb2 => ?_)
 ·have e1 := (jF h0 (dT0 hb2)).1
  have e2 := (jF h0 (dT0 hb2)).2
  refine ae hP<|av hT rfl<|av hT rfl<|ab (ah (oG _)) ?_
  refine ab (ah (km _ _ lz lz)) ?_
  refine aG hT rfl<|ag<|ae hP<|aE hT rfl<|aZ hT rfl rfl rfl rfl ?_
  refine ag ?_
  refine az rfl (fun hb3 => ?_) (fun hb3 => ?_)
  ·rw [jH hb3] at e1
   refine aw hP<|av hT rfl<|ab (ah (eD _ (by first | assumption | decide))) ?_
   refine ab (ah (km _ _ lz lz)) ?_
   refine aG hT rfl<|ag<|ae hP<|av hT rfl<|av hT rfl<|aG hT rfl<|aG hT rfl<|aj rfl<|ag<|am ?_
   refine c7 rfl (.inr rfl) (aR hT rfl rfl rfl rfl (cs := [_, _]) rfl rfl) (aR hT rfl rfl rfl rfl (cs := [_, _]) rfl rfl) (bN rfl) ?_ br
   exact aH (by rw [← e1, e2]; rfl)
  rw [px h0 hb3] at e1
  refine aw hP<|av hT rfl<|ab (ah (eD _ (by first | assumption | decide))) ?_
  refine ab (ah (Di _ _ lz lz)) ?_
  refine aG hT rfl<|ag<|ae hP<|av hT rfl<|av hT rfl<|aG hT rfl<|aG hT rfl<|aj rfl<|ag<|am ?_
  refine c7 rfl (.inr rfl) (aR hT rfl rfl rfl rfl (cs := [_, _]) rfl rfl) (aR hT rfl rfl rfl rfl (cs := [_, _]) rfl rfl) (bN rfl) ?_ br
  exact aH (by rw [← e1, e2])
 have e1 := (jE h0 (dF0 hb2)).1
 have e2 := (jE h0 (dF0 hb2)).2
 refine au<|ae hP<|av hT rfl<|av hT rfl<|aG hT rfl<|aG hT rfl<|aj rfl<|ag<|am ?_
 refine c7 rfl (.inr rfl) (aR hT rfl rfl rfl rfl (cs := [_, _]) rfl rfl) (aR hT rfl rfl rfl rfl (cs := [_, _]) rfl rfl) (bN rfl) ?_ br
 exact aH (by rw [e1, e2])
theorem Dk (x y : Int) (hx : L 44 x) (hy : L 44 y) (h0 : y ≠ 0) :
  aI Tryz.prog 115 [I x, I y] (I (x / y)) := by
 refine aK Tryz.func115 rfl rfl rfl rfl ?_
 refine ae hP<|ao ai (aJ rfl rfl)<|ao ai (aJ rfl rfl)<|ao ai (aA hT rfl rfl)<|ag<|ae hP<|av hT rfl<|av hT rfl<|ab (ah (sI x y hx hy h0)) ?_
 refine ab (ay (rfl : _ = AV.t _))<|ab (aD rfl (v := .a _) rfl)<|ab (aD rfl (v := .a _) rfl)<|ab (aD rfl (v := .c _) rfl)<|ao ai (aA hT rfl rfl)<|ao ai (aA hT rfl rfl)<|aG hT rfl<|aG hT rfl<|aj rfl<|ag<|ae hP<|av hT rfl<|aG hT rfl<|ag<|am<|E2 hT rfl rfl rfl rfl rfl rfl rfl ?_
 exact .refl _
theorem K9 (x y : Int) (hx : L 44 x) (hy : L 44 y) (h0 : y ≠ 0) :
  aI Tryz.prog 148 [I x, I y] (I (x % y)) := by
 refine aK Tryz.func148 rfl rfl rfl rfl ?_
 refine ae hP<|ao ai (aJ rfl rfl)<|ao ai (aJ rfl rfl)<|ao ai (aA hT rfl rfl)<|ag<|ae hP<|av hT rfl<|av hT rfl<|ab (ah (sI x y hx hy h0)) ?_
 refine ab (ay (rfl : _ = AV.t _))<|ab (aD rfl (v := .a _) rfl)<|ab (aD rfl (v := .a _) rfl)<|ab (aD rfl (v := .c _) rfl)<|ao ai (aA hT rfl rfl)<|ao ai (aA hT rfl rfl)<|aG hT rfl<|aG hT rfl<|aj rfl<|ag<|ae hP<|av hT rfl<|aG hT rfl<|ag<|am<|E2 hT rfl rfl rfl rfl rfl rfl rfl ?_
 exact .refl _
theorem Dj (x y : Int) (hx : L 44 x) (hy : L 44 y) :
  aI Tryz.prog 154 [I x, I y] (I (Int.gcd x y)) := by
 refine aK Tryz.func154 rfl rfl rfl rfl ?_
 refine ae hP<|ao ai (aJ rfl rfl)<|ao ai (aJ rfl rfl)<|ao ai (aA hT rfl rfl)<|ag<|ae hP<|av hT rfl<|ab (ah (oG _)) ?_
 refine aG hT rfl<|ag<|ae hP<|av hT rfl<|ab (ah (oG _)) ?_
 refine aG hT rfl<|ag<|aq<|aB<|bn (ι := Int × Int) (fun p => stL [(2, .loc 2 0), (3, .loc 3 0), (4, .loc 4 0)] [(2, ⟨false, 1, 29, [zn (p.1), zm (p.1)]⟩), (3, ⟨false, 1, 29, [zn (p.2), zm (p.2)]⟩), (4, ⟨false, 1, 29, [zn (0), zm (0)]⟩)]) (fun p => L 44 p.1 ∧ L 44 p.2 ∧ 0 ≤ p.1 ∧ 0 ≤ p.2 ∧ Int.gcd p.1 p.2 = Int.gcd x y) (fun p => p.2.natAbs) ((x.natAbs : Int), (y.natAbs : Int)) ⟨hx.abs, hy.abs, Int.natCast_nonneg _, Int.natCast_nonneg _, by simp [Int.gcd]⟩ (aF ⟨.refl _, .refl _, .refl _, trivial⟩ ⟨rfl, rfl, rfl, trivial⟩) ?_
 rintro ⟨a, b⟩ ⟨ha, hb, ha0, hb0, hg⟩
 refine aq<|ae hP<|aE hT rfl<|aZ hT rfl rfl rfl rfl ?_
 refine ab (aU hT rfl rfl rfl rfl)<|ab (bO rfl rfl)<|ag ?_
 refine az rfl (fun hb1 => ?_) (fun hb1 => ?_)
 ·have hb1_ := dT0 hb1
  have h0 : b ≠ 0 := fun e => by
   have e2 : 0 < ((wl b.natAbs).length : Int) := hb1_
   rw [e] at e2; exact absurd e2 (by decide)
  refine au<|aB<|ae hP<|av hT rfl<|av hT rfl<|ab (ah (K9 a b ha hb h0)) ?_
  refine ao ai (aA hT rfl rfl)<|aG hT rfl<|ag<|ae hP<|av hT rfl<|aG hT rfl<|ag<|aw hP<|av hT rfl<|aG hT rfl<|ag ?_
  refine ⟨(b, a % b), ⟨hb, (ha.emod hb).mono (by decide), hb0, Int.emod_nonneg a h0, ?_⟩, ?_, aF ⟨.refl _, .refl _, .refl _, trivial⟩ ⟨rfl, rfl, rfl, trivial⟩⟩
  ·rw [← hg]; exact tS a b
  have h1 := Int.emod_nonneg a h0
  have h2 := Int.emod_lt a h0
  show (a % b).natAbs < b.natAbs
  omega
 have hb1_ := dF0 hb1
 refine a7<|ae hP<|av hT rfl<|aG hT rfl<|ag<|am<|E2 hT rfl rfl rfl rfl rfl rfl rfl ?_
 have h0 : b = 0 := by
  have e2 : ¬ 0 < ((wl b.natAbs).length : Int) := hb1_
  have : ((wl b.natAbs).length : Int) = 0 := by omega
  exact wl_len_zero.1 this
 exact Sub.I (by rw [← hg, h0]; simp; omega)
theorem Ir (x : Int) (hx : L 40 x) :
  aI Tryz.prog 193 [I x] (.t [PI (rootV x), PI (if x < 0 then 0 else x - rootV x * rootV x), PE (jA x)]) := by
 have hbl := zH hx
 have ix : LB x 40 := ⟨hx⟩
 refine aK Tryz.func193 rfl rfl rfl rfl ?_
 refine ae hP<|ao ai (aJ rfl rfl)<|ao ai (aA hT rfl rfl)<|ao ai (aA hT rfl rfl)<|aj rfl<|ag<|aq<|ae hP<|aE hT rfl<|aZ hT rfl rfl rfl rfl ?_
 refine ag ?_
 refine az rfl (fun hb1 => ?_) (fun hb1 => ?_)
 ·have hx0 := dT0 hb1
  refine ae hP<|ab (aV hT rfl rfl rfl (es := [_, _]) rfl)<|ab (aV hT rfl rfl rfl (es := [_, _]) rfl)<|aG hT rfl<|aG hT rfl<|aj rfl<|ag<|am ?_
  refine c7 rfl (.inr rfl) (aR hT rfl rfl rfl rfl (cs := [_, _]) rfl rfl) (aR hT rfl rfl rfl rfl (cs := [_, _]) rfl rfl) (bN rfl) ?_ br
  exact aH (by rw [(gx hx0).1, (gx hx0).2, if_pos hx0])
 have hx0 := dF0 hb1
 refine au<|aq<|ae hP<|aE hT rfl<|aZ hT rfl rfl rfl rfl ?_
 refine ab (aU hT rfl rfl rfl rfl)<|ab (bq rfl rfl)<|ag ?_
 refine az rfl (fun hb2 => ?_) (fun hb2 => ?_)
 ·have hb2_ := bT hb2
  have hz := wl_len_zero.1 hb2_
  refine ae hP<|ab (aV hT rfl rfl rfl (es := [_, _]) rfl)<|ab (aV hT rfl rfl rfl (es := [_, _]) rfl)<|aG hT rfl<|aG hT rfl<|aj rfl<|ag<|am ?_
  refine c7 rfl (.inr rfl) (aR hT rfl rfl rfl rfl (cs := [_, _]) rfl rfl) (aR hT rfl rfl rfl rfl (cs := [_, _]) rfl rfl) (bN rfl) ?_ br
  exact aH (by rw [hz]; rfl)
 have hb2_ := bF hb2
 have hx1 : 0 < x := by
  rcases Int.lt_trichotomy x 0 with e | e | e
  ·exact absurd e hx0
  ·exact absurd (wl_len_zero.2 e) hb2_
  exact e
 refine au<|ae hP<|ab (bg hT rfl rfl rfl (es := [_]) rfl rfl rfl)<|av hT rfl<|ab (ah (yy x lz)) ?_
 refine ab (bH rfl rfl (c := ((a8 x.natAbs + 1 : Nat) : Int)) (by rw [iW0 _ (by omega)]; omega)) ?_
 refine ab (dj rfl rfl (by decide) (c := (((a8 x.natAbs + 1) / 2 : Nat) : Int)) (by rw [Int.tdiv_eq_ediv_of_nonneg (by omega), iW0 _ (by omega)]; omega)) ?_
 refine ab (ah (Ip [1] ((a8 x.natAbs + 1) / 2) vM (by decide) (by omega))) ?_
 refine ab (ah (fP _ _ (dW _ _))) ?_
 refine ao ai (aA hT rfl rfl)<|aG hT rfl<|ag<|aB<|bn (ι := Int) (fun s => stL [(1, .loc 1 0), (2, .loc 2 0), (3, .loc 3 0), (5, .loc 5 0)] [(1, ⟨false, 1, 29, [zn (x), zm (x)]⟩), (2, ⟨false, 1, 29, [zn (0), zm (0)]⟩), (3, ⟨false, 1, 29, [zn (0), zm (0)]⟩), (5, ⟨false, 1, 29, [zn (s), zm (s)]⟩)]) (fun s => 0 < s ∧ rootV x ≤ s ∧ s ≤ 2 * x) (fun s => s.toNat) (2 ^ ((a8 x.natAbs + 1) / 2) : Nat) ?_ (aF ⟨.refl _, .refl _, .refl _, .refl _, trivial⟩ ⟨rfl, rfl, rfl, ?_, trivial⟩) ?_
 ·exact ox hx1
 ·exact congrArg (fun z => some (⟨false, 1, 29, [zn z, zm z]⟩ : Blk)) (show sg false (wv (dgs _ _)) = _ by rw [BK]; rfl)
 intro s hs
 have is : LB s 41 := ⟨L.of_le (b := 2 * x) (lz (by rfl)) (by omega)⟩
 refine aB<|ae hP<|av hT rfl<|av hT rfl<|av hT rfl<|ab (ah (Dk x s lz lz (by omega))) ?_
 refine ab (ah (km _ _ lz lz)) ?_
 refine ab (ah (eD _ (by first | assumption | decide))) ?_
 refine ab (ah (Dk _ 2 lz lz (by decide))) ?_
 refine ao ai (aA hT rfl rfl)<|aG hT rfl<|ag<|aq<|ae hP<|av hT rfl<|av hT rfl<|ab (ah (oF _ _)) ?_
 refine ab (dc rfl rfl)<|ag ?_
 refine az rfl (fun hb3 => ?_) (fun hb3 => ?_)
 ·have hb3_ := dT0 hb3
  have hge := kH hb3_
  refine ae hP<|av hT rfl<|av hT rfl<|av hT rfl<|av hT rfl<|ab (ah (fL _ _ lz lz)) ?_
  refine ab (ah (Di _ _ lz lz)) ?_
  refine aG hT rfl<|aG hT rfl<|aj rfl<|ag<|am ?_
  refine c7 rfl (.inr rfl) (aR hT rfl rfl rfl rfl (cs := [_, _]) rfl rfl) (aR hT rfl rfl rfl rfl (cs := [_, _]) rfl rfl) (bN rfl) ?_ br
  have e := wJ hx1 hs.1 hs.2.1 hge
  exact aH (by rw [e, gy hx0, if_neg hx0])
 have hb3_ := dF0 hb3
 have hge := ju hb3_
 refine au<|aw hP<|av hT rfl<|aG hT rfl<|ag ?_
 refine ⟨(s + x / s) / 2, ⟨(lv hx1 hs.1).2, (lv hx1 hs.1).1, Int.le_trans (Int.le_of_lt hge) hs.2.2⟩, ?_, aF ⟨.refl _, .refl _, .refl _, .refl _, trivial⟩ ⟨rfl, rfl, rfl, rfl, trivial⟩⟩
 have h3 := (lv hx1 hs.1).2
 show ((s + x / s) / 2).toNat < s.toNat
 omega
end
section
open Go Go.AM
theorem pC (x : Int) (hx : L 45 x) :
  aI Tryz.prog 102 [I x] (B true) := by
 have hlen := sz hx
 refine aK Tryz.func102 rfl rfl rfl rfl ?_
 refine ae hP<|ao ai (aJ rfl rfl)<|aj rfl<|ag<|ae hP<|aE hT rfl<|aZ hT rfl rfl rfl rfl ?_
 refine ab (aU hT rfl rfl rfl rfl)<|ab (bq rfl rfl)<|ak rfl ?_
 refine a6 (t := 7) rfl (fun hg1 => ?_) (fun hg1 => ?_)
 ·have hg1_ := bT hg1
  refine aC hg1 (aS hT rfl rfl rfl rfl rfl rfl) ?_
  refine aC hg1 (bQ hT rfl rfl rfl rfl (by first | rfl | exact eK (by omega))) ?_
  refine aC hg1 (bv rfl) ?_
  refine ab (aO rfl hg1 (rfl : _ = AV.p (.c _)))<|ak rfl ?_
  refine a6 (t := 12) rfl (fun hg2 => ?_) (fun hg2 => ?_)
  ·have hg2_ := (cA hg2)
   iterate 5 refine aY hg2 ?_
   iterate 9 refine eT ?_
   refine aY hg2 ?_
   refine ab (aO rfl hg2 (rfl : _ = AV.p (.c _)))<|aj rfl<|ag<|am<|E1 rfl rfl ?_
   exact .refl _
  have hg2_ := (cp hg2)
  have h0 := wl_len_zero.1 hg1_
  rw [h0] at hg2
  cases hg2
 have hg1_ := bF hg1
 iterate 3 refine aY hg1 ?_
 refine ab (aM rfl hg1 (rfl : _ = AV.p (.c _)))<|ak rfl<|aC rfl (aS hT rfl rfl rfl rfl rfl rfl) ?_
 refine aC rfl (bQ hT rfl rfl rfl rfl (by first | rfl | exact eK (by omega))) ?_
 refine aC rfl (aU hT rfl rfl rfl rfl) ?_
 refine aC rfl (bO rfl rfl) ?_
 refine aC rfl (ay (rfl : _ = AV.p (.c _))) ?_
 refine a6 (t := 17) rfl (fun hg3 => ?_) (fun hg3 => ?_)
 ·have hg3_ := dT0 hg3
  refine aC hg3 (aS hT rfl rfl rfl rfl rfl rfl) ?_
  refine aC hg3 (bQ hT rfl rfl rfl rfl (by first | rfl | exact eK (by omega))) ?_
  refine aC hg3 (aS hT rfl rfl rfl rfl rfl rfl) ?_
  refine aC hg3 (bQ hT rfl rfl rfl rfl (by first | rfl | exact eK (by omega))) ?_
  refine aC hg3 (aU hT rfl rfl rfl rfl) ?_
  refine aC hg3 (bB rfl rfl (by first | exact iW0 _ (by omega) | rfl)) ?_
  refine aC hg3 (by first | exact fC hT rfl rfl rfl rfl rfl rfl (by omega) | exact b9 hT rfl rfl rfl rfl rfl rfl (by omega) (by first | exact gX (by omega) | simp)) ?_
  refine aC hg3 (bV hT rfl rfl rfl (by first | rfl | exact l4 (by omega))) ?_
  refine aC hg3 (bo rfl rfl) ?_
  refine aC rfl (aO rfl hg3 (rfl : _ = AV.p (.c _))) ?_
  refine ab (aM rfl rfl (rfl : _ = AV.p (.c _)))<|aj rfl<|ag<|am<|E1 rfl rfl ?_
  have h1 : (wl x.natAbs).length ≠ 0 := fun e => hg1_ (by rw [e]; rfl)
  have h2 : (((wl x.natAbs).length : Int) - 1).toNat = (wl x.natAbs).length - 1 := by omega
  rw [h2]
  have h3 := ol (k := x.natAbs) (n := (wl x.natAbs).length - 1) (by omega)
  exact aH (by rw [show ((((wl x.natAbs).getD ((wl x.natAbs).length - 1) 0 : Nat) : Int) != 0) = true from bne_iff_ne.2 (by omega)])
 have hg3_ := dF0 hg3
 exact absurd (show ((wl x.natAbs).length : Int) = 0 by omega) hg1_
theorem oI (a b c : Int) (ha : bp a) (hb : bp b) (hc : bp c) :
  aI Tryz.prog 79 [Z a, Z b, Z c] (FA a b c) := by
 refine aK Tryz.func79 rfl rfl rfl rfl ?_
 refine ae hP<|ao ai (aA hT rfl rfl)<|ag<|ae hP<|ak rfl<|ab (ah (eD _ (by first | assumption | decide))) ?_
 refine ak rfl<|ab (ah (eD _ (by first | assumption | decide))) ?_
 refine ak rfl<|ab (ah (eD _ (by first | assumption | decide))) ?_
 refine ab (aV hT rfl rfl rfl (es := [_, _, _, _, _, _]) rfl)<|aG hT rfl<|ag<|am ?_
 refine bR rfl (.inr rfl) (aR hT rfl rfl rfl rfl (cs := [_, _, _, _, _, _]) rfl rfl) ?_ br
 exact .refl _
theorem mf (a b c d : Int) (ha : bp a) (hb : bp b) (hc : bp c) (hd : bp d) :
  aI Tryz.prog 117 [Z a, Z b, Z c, Z d] (MA a b c d) := by
 refine aK Tryz.func117 rfl rfl rfl rfl ?_
 refine ae hP<|ao ai (aA hT rfl rfl)<|ag<|ae hP<|ak rfl<|ab (ah (eD _ (by first | assumption | decide))) ?_
 iterate 3 refine ak rfl<|ab (ah (eD _ (by first | assumption | decide))) ?_
 refine ab (aV hT rfl rfl rfl (es := [_, _, _, _, _, _, _, _]) rfl)<|aG hT rfl<|ag<|am ?_
 refine bR rfl (.inr rfl) (aR hT rfl rfl rfl rfl (cs := [_, _, _, _, _, _, _, _]) rfl rfl) ?_ br
 exact .refl _
theorem me (a b c d : Int) (ha : L 40 a) (hb : L 40 b) (hc : L 40 c) (hd : L 40 d) :
  aI Tryz.prog 83 [I a, I b, I c, I d] (I (a * b + c * d)) := by
 have ia : LB a 40 := ⟨ha⟩
 have ib : LB b 40 := ⟨hb⟩
 have ic : LB c 40 := ⟨hc⟩
 have id : LB d 40 := ⟨hd⟩
 refine aK Tryz.func83 rfl rfl rfl rfl ?_
 refine ae hP<|ao ai (aJ rfl rfl)<|ao ai (aJ rfl rfl)<|ao ai (aJ rfl rfl)<|ao ai (aJ rfl rfl)<|ao ai (aA hT rfl rfl)<|ag<|ae hP<|av hT rfl<|av hT rfl<|ab (ah (fL _ _ lz lz)) ?_
 refine av hT rfl<|av hT rfl<|ab (ah (fL _ _ lz lz)) ?_
 refine ab (ah (km _ _ lz lz)) ?_
 refine aG hT rfl<|ag<|am<|E2 hT rfl rfl rfl rfl rfl rfl rfl ?_
 exact .refl _
theorem vC (a b c : Int) (ha : L 34 a) (hb : L 34 b) (hc : L 34 c) :
  aI Tryz.prog 24 [FA a b c] (I (dsc a b c)) := by
 have ia : LB a 34 := ⟨ha⟩
 have ib : LB b 34 := ⟨hb⟩
 have ic : LB c 34 := ⟨hc⟩
 refine aK Tryz.func24 rfl rfl rfl rfl ?_
 refine ae hP<|ao ai (aJ rfl rfl)<|ao ai (aA hT rfl rfl)<|ag<|ae hP<|aE hT rfl<|av hT rfl<|aE hT rfl<|av hT rfl<|ab (ah (eD _ (by first | assumption | decide))) ?_
 refine aE hT rfl<|av hT rfl<|ab (ah (fL _ _ lz lz)) ?_
 refine aE hT rfl<|av hT rfl<|ab (ah (me _ _ _ _ lz lz lz lz)) ?_
 refine aG hT rfl<|ag<|am<|E2 hT rfl rfl rfl rfl rfl rfl rfl ?_
 exact Sub.I (K6 a b c)
theorem yA (x : Int) (hx : L 40 x) :
  aI Tryz.prog 150 [I x] (B (eR x)) := by
 have ix : LB x 40 := ⟨hx⟩
 refine aK Tryz.func150 rfl rfl rfl rfl ?_
 refine ae hP<|ao ai (aJ rfl rfl)<|aj rfl<|ag<|aq<|ae hP<|av hT rfl<|ab (ah (jX _)) ?_
 refine ab (bd rfl rfl)<|ag ?_
 refine az rfl (fun hb1 => ?_) (fun hb1 => ?_)
 ·have hb1_ := dT0 hb1
  refine ae hP<|aj rfl<|ag<|am<|E1 rfl rfl ?_
  exact aX (wQ hb1_)
 have hb1_ := dF0 hb1
 refine au<|ae hP<|av hT rfl<|ab (ah (Ir _ lz)) ?_
 refine ab (ay (rfl : _ = AV.t _))<|ab (aD rfl (v := .a _) rfl)<|ab (aD rfl (v := .a _) rfl)<|ab (aD rfl (v := .c _) rfl)<|ao ai (aA hT rfl rfl)<|ao ai (aA hT rfl rfl)<|aG hT rfl<|aG hT rfl<|aj rfl<|ag<|ae hP<|av hT rfl<|ab (ah (jX _)) ?_
 refine ab (bq rfl rfl)<|aj rfl<|ag<|am<|E1 rfl rfl ?_
 exact aX (Iq hb1_)
theorem Bd (a b c : Int) (ha : L 34 a) (hb : L 34 b) (hc : L 34 c) :
  aI Tryz.prog 153 [FA a b c] (Z (ck a b c)) := by
 have ia : LB a 34 := ⟨ha⟩
 have ib : LB b 34 := ⟨hb⟩
 have ic : LB c 34 := ⟨hc⟩
 refine aK Tryz.func153 rfl rfl rfl rfl ?_
 refine ae hP<|ao ai (aJ rfl rfl)<|aj rfl<|ag<|aq<|ae hP<|aE hT rfl<|av hT rfl<|ab (ah (pC _ lz)) ?_
 refine ab (bv rfl)<|ak rfl<|aC rfl (aS hT rfl rfl rfl rfl rfl rfl) ?_
 refine aC rfl (aL hT rfl rfl rfl rfl (cs := [_, _]) rfl rfl) ?_
 refine aC rfl (ah (pC _ lz)) ?_
 refine aC rfl (bv rfl) ?_
 refine ab (aM rfl rfl (rfl : _ = AV.p (.c _)))<|ak rfl<|aC rfl (aS hT rfl rfl rfl rfl rfl rfl) ?_
 refine aC rfl (aL hT rfl rfl rfl rfl (cs := [_, _]) rfl rfl) ?_
 refine aC rfl (ah (pC _ lz)) ?_
 refine aC rfl (bv rfl) ?_
 refine ab (aM rfl rfl (rfl : _ = AV.p (.c _)))<|ag<|aQ rfl rfl<|au<|ae hP<|bA hT rfl rfl rfl rfl rfl rfl<|ab (ah (vC _ _ _ lz lz lz)) ?_
 refine ao ai (aA hT rfl rfl)<|aG hT rfl<|ag<|aq<|ae hP<|av hT rfl<|ab (ah (yA _ lz)) ?_
 refine ag ?_
 refine az rfl (fun hb3 => ?_) (fun hb3 => ?_)
 ·refine ae hP<|aj rfl<|ag<|am<|E1 rfl rfl ?_
  exact aN (DD hb3)
 refine au<|aq<|ae hP<|av hT rfl<|ab (ah (jX _)) ?_
 refine ab (bd rfl rfl)<|ak rfl ?_
 refine a6 (t := 27) rfl (fun hg4 => ?_) (fun hg4 => ?_)
 ·have hg4_ := dT0 hg4
  refine aC hg4 (aS hT rfl rfl rfl rfl rfl rfl) ?_
  refine aC hg4 (aL hT rfl rfl rfl rfl (cs := [_, _]) rfl rfl) ?_
  refine aC hg4 (ah (jX _)) ?_
  refine aC hg4 (bd rfl rfl) ?_
  refine ab (aO rfl hg4 (rfl : _ = AV.p (.c _)))<|ag ?_
  refine az rfl (fun hb5 => ?_) (fun hb5 => ?_)
  ·have hb5_ := dT0 hb5
   refine ae hP<|aj rfl<|ag<|am<|E1 rfl rfl ?_
   exact aN (A9 hb3 hg4_ hb5_)
  have hb5_ := dF0 hb5
  refine au<|ae hP<|aj rfl<|ag<|am<|E1 rfl rfl ?_
  exact aN (Fb hb3 hg4_ hb5_)
 have hg4_ := dF0 hg4
 iterate 4 refine aY hg4 ?_
 refine ab (aM rfl hg4 (rfl : _ = AV.p (.c _)))<|ag<|aQ rfl rfl<|au<|ae hP<|aj rfl<|ag<|am<|E1 rfl rfl ?_
 exact aN (zD hb3 hg4_)
theorem wU (a b c : Int) (ha : L 44 a) (hb : L 44 b) (hc : L 44 c) :
  aI Tryz.prog 192 [FA a b c] (I (Int.gcd (Int.gcd a b : Int) c : Int)) := by
 have ia : LB a 44 := ⟨ha⟩
 have ib : LB b 44 := ⟨hb⟩
 have ic : LB c 44 := ⟨hc⟩
 have ig := z6 ha hb
 refine aK Tryz.func192 rfl rfl rfl rfl ?_
 refine ae hP<|ao ai (aJ rfl rfl)<|ao ai (aA hT rfl rfl)<|ag<|ae hP<|aE hT rfl<|av hT rfl<|aE hT rfl<|av hT rfl<|ab (ah (Dj _ _ lz lz)) ?_
 refine aE hT rfl<|av hT rfl<|ab (ah (Dj _ _ lz lz)) ?_
 refine aG hT rfl<|ag<|am<|E2 hT rfl rfl rfl rfl rfl rfl rfl ?_
 exact .refl _
theorem sL (a b c : Int) (ha : L 44 a) (hb : L 44 b) (hc : L 44 c) :
  aI Tryz.prog 146 [FA a b c] (B (prim a b c)) := by
 have ia : LB a 44 := ⟨ha⟩
 have ib : LB b 44 := ⟨hb⟩
 have ic : LB c 44 := ⟨hc⟩
 refine aK Tryz.func146 rfl rfl rfl rfl ?_
 refine ae hP<|ao ai (aJ rfl rfl)<|aj rfl<|ag<|ae hP<|bA hT rfl rfl rfl rfl rfl rfl<|ab (ah (wU _ _ _ lz lz lz)) ?_
 refine ab (ah (eD _ (by first | assumption | decide))) ?_
 refine ab (ah (eY _ _)) ?_
 refine aj rfl<|ag<|am<|E1 rfl rfl ?_
 exact aX (Il a b c)
theorem sJ (a b c x y : Int) (ha : L 36 a) (hb : L 36 b) (hc : L 36 c) (hx : L 36 x) (hy : L 36 y) :
  aI Tryz.prog 147 [FA a b c, I x, I y] (I (vl a b c x y)) := by
 have ia : LB a 36 := ⟨ha⟩
 have ib : LB b 36 := ⟨hb⟩
 have ic : LB c 36 := ⟨hc⟩
 have ix : LB x 36 := ⟨hx⟩
 have iy : LB y 36 := ⟨hy⟩
 refine aK Tryz.func147 rfl rfl rfl rfl ?_
 refine ae hP<|ao ai (aJ rfl rfl)<|ao ai (aJ rfl rfl)<|ao ai (aJ rfl rfl)<|ao ai (aA hT rfl rfl)<|ag<|ae hP<|av hT rfl<|aE hT rfl<|av hT rfl<|av hT rfl<|aE hT rfl<|av hT rfl<|av hT rfl<|ab (ah (me _ _ _ _ lz lz lz lz)) ?_
 refine ab (ah (fL _ _ lz lz)) ?_
 refine aE hT rfl<|av hT rfl<|av hT rfl<|av hT rfl<|ab (ah (fL _ _ lz lz)) ?_
 refine ab (ah (fL _ _ lz lz)) ?_
 refine ab (ah (km _ _ lz lz)) ?_
 refine aG hT rfl<|ag<|am<|E2 hT rfl rfl rfl rfl rfl rfl rfl ?_
 exact Sub.I (Mx a b c x y)
theorem Be (a b c p q r s : Int) (ha : L 34 a) (hb : L 34 b) (hc : L 34 c) (hp : L 34 p) (hq : L 34 q) (hr : L 34 r) (hs : L 34 s) :
  aI Tryz.prog 81 [FA a b c, MA p q r s] (FA (vl a b c p r) (apB a b c p q r s) (vl a b c q s)) := by
 have ia : LB a 34 := ⟨ha⟩
 have ib : LB b 34 := ⟨hb⟩
 have ic : LB c 34 := ⟨hc⟩
 have ip : LB p 34 := ⟨hp⟩
 have iq : LB q 34 := ⟨hq⟩
 have ir : LB r 34 := ⟨hr⟩
 have is : LB s 34 := ⟨hs⟩
 refine aK Tryz.func81 rfl rfl rfl rfl ?_
 refine ae hP<|ao ai (aJ rfl rfl)<|ao ai (aJ rfl rfl)<|ao ai (aA hT rfl rfl)<|ag<|ae hP<|ab (ah (eD _ (by first | assumption | decide))) ?_
 refine ao ai (aA hT rfl rfl)<|aG hT rfl<|ag<|ae hP<|av hT rfl<|aE hT rfl<|av hT rfl<|aE hT rfl<|av hT rfl<|aE hT rfl<|av hT rfl<|ab (ah (fL _ _ lz lz)) ?_
 refine ab (ah (fL _ _ lz lz)) ?_
 refine ab (ah (fL _ _ lz lz)) ?_
 refine aE hT rfl<|av hT rfl<|aE hT rfl<|av hT rfl<|aE hT rfl<|av hT rfl<|aE hT rfl<|av hT rfl<|aE hT rfl<|av hT rfl<|ab (ah (me _ _ _ _ lz lz lz lz)) ?_
 refine ab (ah (fL _ _ lz lz)) ?_
 refine av hT rfl<|aE hT rfl<|av hT rfl<|aE hT rfl<|av hT rfl<|aE hT rfl<|av hT rfl<|ab (ah (fL _ _ lz lz)) ?_
 refine ab (ah (fL _ _ lz lz)) ?_
 refine ab (ah (fL _ _ lz lz)) ?_
 refine ab (ah (km _ _ lz lz)) ?_
 refine ab (ah (km _ _ lz lz)) ?_
 refine ao ai (aA hT rfl rfl)<|aG hT rfl<|ag<|ae hP<|bA hT rfl rfl rfl rfl rfl rfl<|aE hT rfl<|av hT rfl<|aE hT rfl<|av hT rfl<|ab (ah (sJ _ _ _ _ _ lz lz lz lz lz)) ?_
 refine av hT rfl<|bA hT rfl rfl rfl rfl rfl rfl<|aE hT rfl<|av hT rfl<|aE hT rfl<|av hT rfl<|ab (ah (sJ _ _ _ _ _ lz lz lz lz lz)) ?_
 refine ab (aV hT rfl rfl rfl (es := [_, _, _, _, _, _]) rfl)<|aG hT rfl<|ag<|am ?_
 refine bR rfl (.inr rfl) (aR hT rfl rfl rfl rfl (cs := [_, _, _, _, _, _]) rfl rfl) ?_ br
 exact aH (by rw [K7])
theorem sK (p q r s t u v w : Int) (hp : L 38 p) (hq : L 38 q) (hr : L 38 r) (hs : L 38 s) (ht : L 38 t) (hu : L 38 u) (hv : L 38 v) (hw : L 38 w) :
  aI Tryz.prog 118 [MA p q r s, MA t u v w] (MA (p * t + q * v) (p * u + q * w) (r * t + s * v) (r * u + s * w)) := by
 have ip : LB p 38 := ⟨hp⟩
 have iq : LB q 38 := ⟨hq⟩
 have ir : LB r 38 := ⟨hr⟩
 have is : LB s 38 := ⟨hs⟩
 have it : LB t 38 := ⟨ht⟩
 have iu : LB u 38 := ⟨hu⟩
 have iv : LB v 38 := ⟨hv⟩
 have iw : LB w 38 := ⟨hw⟩
 refine aK Tryz.func118 rfl rfl rfl rfl ?_
 refine ae hP<|ao ai (aJ rfl rfl)<|ao ai (aJ rfl rfl)<|ao ai (aA hT rfl rfl)<|ag<|ae hP<|aE hT rfl<|av hT rfl<|aE hT rfl<|av hT rfl<|aE hT rfl<|av hT rfl<|aE hT rfl<|av hT rfl<|ab (ah (me _ _ _ _ lz lz lz lz)) ?_
 iterate 3 refine aE hT rfl<|av hT rfl<|aE hT rfl<|av hT rfl<|aE hT rfl<|av hT rfl<|aE hT rfl<|av hT rfl<|ab (ah (me _ _ _ _ lz lz lz lz)) ?_
 refine ab (aV hT rfl rfl rfl (es := [_, _, _, _, _, _, _, _]) rfl)<|aG hT rfl<|ag<|am ?_
 refine bR rfl (.inr rfl) (aR hT rfl rfl rfl rfl (cs := [_, _, _, _, _, _, _, _]) rfl rfl) ?_ br
 exact .refl _
theorem uL (a b c : Int) (ha : L 34 a) (hb : L 34 b) (hc : L 34 c) :
  aI Tryz.prog 190 [FA a b c] (B (dfn a b c)) := by
 have ia : LB a 34 := ⟨ha⟩
 have ib : LB b 34 := ⟨hb⟩
 have ic : LB c 34 := ⟨hc⟩
 refine aK Tryz.func190 rfl rfl rfl rfl ?_
 refine ae hP<|ao ai (aJ rfl rfl)<|aj rfl<|ag<|ae hP<|bA hT rfl rfl rfl rfl rfl rfl<|ab (ah (Bd _ _ _ lz lz lz)) ?_
 refine ab (bq rfl rfl)<|ak rfl ?_
 refine a6 (t := 6) rfl (fun hg1 => ?_) (fun hg1 => ?_)
 ·have hg1_ := bT hg1
  refine aC hg1 (aL hT rfl rfl rfl rfl (cs := [_, _, _, _, _, _]) rfl rfl) ?_
  refine aC hg1 (ah (vC _ _ _ lz lz lz)) ?_
  refine aC hg1 (ah (jX _)) ?_
  refine aC hg1 (bd rfl rfl) ?_
  refine ab (aO rfl hg1 (rfl : _ = AV.p (.c _)))<|aj rfl<|ag<|am<|E1 rfl rfl ?_
  exact aX (Gz hg1)
 have hg1_ := bF hg1
 iterate 4 refine aY hg1 ?_
 refine ab (aM rfl hg1 (rfl : _ = AV.p (.c _)))<|aj rfl<|ag<|am<|E1 rfl rfl ?_
 exact aX (JM hg1)
theorem wS (a b c : Int) (ha : L 34 a) (hb : L 34 b) (hc : L 34 c) :
  aI Tryz.prog 145 [FA a b c] (B (rdd a b c)) := by
 have ia : LB a 34 := ⟨ha⟩
 have ib : LB b 34 := ⟨hb⟩
 have ic : LB c 34 := ⟨hc⟩
 refine aK Tryz.func145 rfl rfl rfl rfl ?_
 refine ae hP<|ao ai (aJ rfl rfl)<|aj rfl<|ag<|aq<|ae hP<|bA hT rfl rfl rfl rfl rfl rfl<|ab (ah (uL _ _ _ lz lz lz)) ?_
 refine ab (bv rfl)<|ak rfl ?_
 refine a6 (t := 7) rfl (fun hg1 => ?_) (fun hg1 => ?_)
 ·have hg1_ := (cA hg1)
  iterate 7 refine aY hg1 ?_
  refine ab (aO rfl hg1 (rfl : _ = AV.p (.c _)))<|ak rfl<|aY rfl ?_
  iterate 5 refine aY rfl ?_
  refine ab (aO rfl rfl (rfl : _ = AV.p (.c _)))<|ag<|aW rfl rfl<|ae hP<|aj rfl<|ag<|am<|E1 rfl rfl ?_
  exact aX (E7 hg1)
 have hg1_ := (cp hg1)
 refine aC hg1 (aS hT rfl rfl rfl rfl rfl rfl) ?_
 refine aC hg1 (aL hT rfl rfl rfl rfl (cs := [_, _]) rfl rfl) ?_
 refine aC hg1 (ah (oG _)) ?_
 refine aC hg1 (aS hT rfl rfl rfl rfl rfl rfl) ?_
 refine aC hg1 (aL hT rfl rfl rfl rfl (cs := [_, _]) rfl rfl) ?_
 refine aC hg1 (ah (oF _ _)) ?_
 refine aC hg1 (bO rfl rfl) ?_
 refine ab (aM rfl hg1 (rfl : _ = AV.p (.c _)))<|ak rfl ?_
 refine a6 (t := 16) rfl (fun hg2 => ?_) (fun hg2 => ?_)
 ·have hg2_ := dT0 hg2
  iterate 6 refine aY hg2 ?_
  refine ab (aO rfl hg2 (rfl : _ = AV.p (.c _)))<|ag<|aW rfl rfl<|ae hP<|aj rfl<|ag<|am<|E1 rfl rfl ?_
  exact aX (E6 hg2)
 have hg2_ := dF0 hg2
 refine aC hg2 (aS hT rfl rfl rfl rfl rfl rfl) ?_
 refine aC hg2 (aL hT rfl rfl rfl rfl (cs := [_, _]) rfl rfl) ?_
 refine aC hg2 (aS hT rfl rfl rfl rfl rfl rfl) ?_
 refine aC hg2 (aL hT rfl rfl rfl rfl (cs := [_, _]) rfl rfl) ?_
 refine aC hg2 (ah (oF _ _)) ?_
 refine aC hg2 (bO rfl rfl) ?_
 refine ab (aM rfl hg2 (rfl : _ = AV.p (.c _)))<|ag ?_
 refine az rfl (fun hb3 => ?_) (fun hb3 => ?_)
 ·have hb3_ := dT0 hb3
  refine ae hP<|aj rfl<|ag<|am<|E1 rfl rfl ?_
  exact aX (E5 hb3)
 have hb3_ := dF0 hb3
 refine au<|ae hP<|aE hT rfl<|av hT rfl<|ab (ah (oG _)) ?_
 refine aE hT rfl<|av hT rfl<|ab (ah (oF _ _)) ?_
 refine ab (bq rfl rfl)<|ak rfl ?_
 refine a6 (t := 31) rfl (fun hg4 => ?_) (fun hg4 => ?_)
 ·have hg4_ := bT hg4
  iterate 6 refine aY hg4 ?_
  refine ab (aO rfl hg4 (rfl : _ = AV.p (.c _)))<|aj rfl<|ag<|ae hP<|ak rfl<|ab (bv rfl)<|ak rfl<|bE (bl rfl rfl (congrArg not rfl)) (aS hT rfl rfl rfl rfl rfl rfl) ?_
  refine bE (bl rfl rfl (congrArg not rfl)) (aL hT rfl rfl rfl rfl (cs := [_, _]) rfl rfl) ?_
  refine bE (bl rfl rfl (congrArg not rfl)) (ah (jX _)) ?_
  refine bE (bl rfl rfl (congrArg not rfl)) (dc rfl rfl) ?_
  refine ab (aM rfl (congrArg not rfl) (rfl : _ = AV.p (.c _))) ?_
  refine aj rfl<|ag<|am<|E1 rfl rfl ?_
  exact aX (vy hg1 hg2 hb3 (.inl hg4_))
 have hg4_ := bF hg4
 refine aC hg4 (aS hT rfl rfl rfl rfl rfl rfl) ?_
 refine aC hg4 (aL hT rfl rfl rfl rfl (cs := [_, _]) rfl rfl) ?_
 refine aC hg4 (aS hT rfl rfl rfl rfl rfl rfl) ?_
 refine aC hg4 (aL hT rfl rfl rfl rfl (cs := [_, _]) rfl rfl) ?_
 refine aC hg4 (ah (oF _ _)) ?_
 refine aC hg4 (bq rfl rfl) ?_
 refine ab (aM rfl hg4 (rfl : _ = AV.p (.c _)))<|aj rfl<|ag<|ae hP<|ak rfl<|ab (bv rfl)<|ak rfl ?_
 refine a6 (t := 41) rfl (fun hg5 => ?_) (fun hg5 => ?_)
 ·have hg5_ := bF (cA hg5)
  iterate 4 refine aY hg5 ?_
  refine ab (aO rfl hg5 (rfl : _ = AV.p (.c _)))<|aj rfl<|ag<|am<|E1 rfl rfl ?_
  exact aX (E0 hg1 hg2 hb3 hg4_ hg5_)
 have hg5_ := bT (cp hg5)
 refine aC hg5 (aS hT rfl rfl rfl rfl rfl rfl) ?_
 refine aC hg5 (aL hT rfl rfl rfl rfl (cs := [_, _]) rfl rfl) ?_
 refine aC hg5 (ah (jX _)) ?_
 refine aC hg5 (dc rfl rfl) ?_
 refine ab (aM rfl hg5 (rfl : _ = AV.p (.c _)))<|aj rfl<|ag<|am<|E1 rfl rfl ?_
 exact aX (vy hg1 hg2 hb3 (.inr hg5_))
theorem Bc (a b c p q r : Int) :
  aI Tryz.prog 43 [FA a b c, FA p q r] (B (decide (a = p ∧ b = q ∧ c = r))) := by
 refine aK Tryz.func43 rfl rfl rfl rfl ?_
 refine ae hP<|ao ai (aJ rfl rfl)<|ao ai (aJ rfl rfl)<|aj rfl<|ag<|ae hP<|aE hT rfl<|av hT rfl<|aE hT rfl<|av hT rfl<|ab (ah (eY _ _)) ?_
 refine ak rfl ?_
 refine a6 (t := 10) rfl (fun hg1 => ?_) (fun hg1 => ?_)
 ·refine aC hg1 (aS hT rfl rfl rfl rfl rfl rfl) ?_
  refine aC hg1 (aL hT rfl rfl rfl rfl (cs := [_, _]) rfl rfl) ?_
  refine aC hg1 (aS hT rfl rfl rfl rfl rfl rfl) ?_
  refine aC hg1 (aL hT rfl rfl rfl rfl (cs := [_, _]) rfl rfl) ?_
  refine aC hg1 (ah (eY _ _)) ?_
  refine ab (aO rfl hg1 (rfl : _ = AV.p (.c _)))<|ak rfl ?_
  refine a6 (t := 17) rfl (fun hg2 => ?_) (fun hg2 => ?_)
  ·refine aC hg2 (aS hT rfl rfl rfl rfl rfl rfl) ?_
   refine aC hg2 (aL hT rfl rfl rfl rfl (cs := [_, _]) rfl rfl) ?_
   refine aC hg2 (aS hT rfl rfl rfl rfl rfl rfl) ?_
   refine aC hg2 (aL hT rfl rfl rfl rfl (cs := [_, _]) rfl rfl) ?_
   refine aC hg2 (ah (eY _ _)) ?_
   refine ab (aO rfl hg2 (rfl : _ = AV.p (.c _)))<|aj rfl<|ag<|am<|E1 rfl rfl ?_
   exact aX (xD hg1 (xD hg2 rfl))
  iterate 5 refine aY hg2 ?_
  refine ab (aM rfl hg2 (rfl : _ = AV.p (.c _)))<|aj rfl<|ag<|am<|E1 rfl rfl ?_
  exact aX (xD hg1 (DB hg2))
 iterate 5 refine aY hg1 ?_
 refine ab (aM rfl hg1 (rfl : _ = AV.p (.c _)))<|ak rfl<|aY rfl ?_
 iterate 4 refine aY rfl ?_
 refine ab (aM rfl rfl (rfl : _ = AV.p (.c _)))<|aj rfl<|ag<|am<|E1 rfl rfl ?_
 exact aX (DB hg1)
theorem Fc (b : Nat) (hb : b < 256) :
  aI Tryz.prog 47 [.p (.c (.v (.int .u8 (b : Int))))] (MA (cX b).a (cX b).b (cX b).c (cX b).d) := by
 have i1 : LB ((b : Int) % 8 - 3) 6 := ⟨by unfold L; omega⟩
 have i2 : LB ((b : Int) / 8 % 8 - 4) 6 := ⟨by unfold L; omega⟩
 refine aK Tryz.func47 rfl rfl rfl rfl ?_
 refine ae hP<|ao ai (aA hT rfl rfl)<|ag<|ae hP<|ak rfl<|ab (bW rfl rfl (by decide) (c := (b : Int) % 8) (Int.tmod_eq_emod_of_nonneg (by omega))) ?_
 refine ab (bf hT rfl rfl rfl rfl (iW0 _ (by omega))) ?_
 refine ab (bB rfl rfl (iW0 _ (by omega))) ?_
 refine ab (ah (mf 1 _ 0 1 (by decide) (by unfold bp; omega) (by decide) (by decide))) ?_
 refine ao ai (aA hT rfl rfl)<|aG hT rfl<|ag<|ae hP<|ab (aL hT rfl rfl rfl rfl (cs := [_, _, _, _, _, _, _, _]) rfl rfl)<|ab (ah (mf _ _ _ _ (by first | assumption | decide) (by first | assumption | decide) (by first | assumption | decide) (by first | assumption | decide))) ?_
 refine ab (ah (sK _ _ _ _ _ _ _ _ lz lz lz lz lz lz lz lz)) ?_
 refine ak rfl<|ab (dj rfl rfl (by decide) (c := (b : Int) / 8) (by rw [Int.tdiv_eq_ediv_of_nonneg (by omega), IntWalk.u8_in _ (by omega)])) ?_
 refine ab (bW rfl rfl (by decide) (c := (b : Int) / 8 % 8) (Int.tmod_eq_emod_of_nonneg (by omega))) ?_
 refine ab (bf hT rfl rfl rfl rfl (iW0 _ (by omega))) ?_
 refine ab (bB rfl rfl (iW0 _ (by omega))) ?_
 refine ab (ah (mf 1 _ 0 1 (by decide) (by unfold bp; omega) (by decide) (by decide))) ?_
 refine ab (ah (sK _ _ _ _ _ _ _ _ lz lz lz lz lz lz lz lz)) ?_
 refine aG hT rfl<|ag<|am ?_
 refine bR rfl (.inr rfl) (aR hT rfl rfl rfl rfl (cs := [_, _, _, _, _, _, _, _]) rfl rfl) ?_ br
 exact .refl _
end
section
open Go Go.AM
theorem uf (N : Int) (h1 : 0 ≤ N) (h2 : N ≤ 4194304) :
  Iter Tryz.prog 176 [[.v (.int .i64 N)]] (trI N) := by
 refine vX Tryz.func176 (by kernel_rfl) rfl rfl (bL0 rfl) rfl ?_
 intro l n0 J hK
 refine dI ?_
 refine di hP ?_
 refine aj rfl<|ag<|iV ?_
 refine p8 (ι := Int × Nat) (fun p => stL [(0, .p (.c (.v (.func (.yield l) #[] #[])))), (1, .ip [.v (.int .i64 N)]), (3, Z p.1)] []) (fun p => p.2) (fun p => (trs N).drop p.2 = ew N (2001 - p.1).toNat p.1 ∧ 1 ≤ p.1 ∧ p.1 ≤ 1184 ∧ p.2 ≤ (trs N).length) (fun p => (2000 - p.1).toNat) (1, 0) ⟨AR N, by decide, by decide, by simp⟩ rfl (aF ⟨.refl _, .refl _, .refl _, trivial⟩ trivial) ?_
 rintro p ⟨hI, ha1, ha2, hpk⟩
 have hsq := Mc ⟨ha1, ha2⟩
 refine dI ?_
 refine dI ?_
 refine di hP ?_
 refine ak rfl<|ab (bK rfl rfl (by first | exact iW0 _ (by omega) | rfl)) ?_
 refine ak rfl<|ab (bK rfl rfl (by first | exact iW0 _ (by omega) | rfl)) ?_
 refine cr hT rfl rfl rfl ?_
 refine ab (fv rfl rfl)<|ag ?_
 refine jP rfl (fun hb1 => ?_) (fun hb1 => ?_)
 ·have hb1_ := dT0 hb1
  have ha3 := DK ha1 hb1_ h2
  refine gH ?_
  refine dI ?_
  refine iV ?_
  refine dI ?_
  refine di hP ?_
  refine ak rfl<|ab (bB rfl rfl (by first | exact iW0 _ (by omega) | rfl)) ?_
  refine aj rfl<|ag<|iV ?_
  refine p8 (ι := Int × Nat) (fun q => stL [(0, .p (.c (.v (.func (.yield l) #[] #[])))), (1, .ip [.v (.int .i64 N)]), (3, Z p.1), (4, Z q.1)] []) (fun q => q.2) (fun q => (trs N).drop q.2 = eL N p.1 (p.1 + 1 - q.1).toNat q.1 ++ ew N (2000 - p.1).toNat (p.1 + 1) ∧ 1 - p.1 ≤ q.1 ∧ q.1 ≤ p.1 + 1 ∧ q.2 ≤ (trs N).length) (fun q => (p.1 + 1 - q.1).toNat) (1 - p.1, p.2) ⟨Kq hI ⟨ha1, ha2⟩ hb1_, by simp only; omega, by simp only; omega, hpk⟩ rfl (aF ⟨.refl _, .refl _, .refl _, .refl _, trivial⟩ trivial) ?_
  rintro q ⟨hJ, hq1, hq2, hqk⟩
  refine dI ?_
  refine dI ?_
  refine di hP ?_
  refine ak rfl<|ak rfl<|ab (fv rfl rfl)<|ag ?_
  refine jP rfl (fun hb2 => ?_) (fun hb2 => ?_)
  ·have hb2_ := dT0 hb2
   have qs := jS (x := q.1) (m := 1184) (by omega)
   have qc := Na (x := q.1 * q.1 + N) (y := 4 * p.1) (by omega) (by omega)
   refine gH ?_
   refine dI ?_
   refine iV ?_
   refine dI ?_
   refine di hP ?_
   refine ak rfl<|ak rfl<|ab (bK rfl rfl (by first | exact iW0 _ (by omega) | rfl)) ?_
   refine cr hT rfl rfl rfl ?_
   refine bw rfl rfl ?_
   refine ak rfl<|ab (bK rfl rfl (by first | exact iW0 _ (by omega) | rfl)) ?_
   refine ab (dj rfl rfl (by omega) (c := ((q.1 * q.1 + N) / (4 * p.1))) (by rw [Int.tdiv_eq_ediv_of_nonneg (by omega), iW0 _ (by omega)])) ?_
   refine aj rfl<|ag<|dI ?_
   refine dI ?_
   refine di hP ?_
   refine ak rfl<|ak rfl<|ab (bK rfl rfl (by first | exact iW0 _ (by omega) | rfl)) ?_
   refine cr hT rfl rfl rfl ?_
   refine bw rfl rfl ?_
   refine ak rfl<|ab (bK rfl rfl (by first | exact iW0 _ (by omega) | rfl)) ?_
   refine ab (bW rfl rfl (by omega) (c := ((q.1 * q.1 + N) % (4 * p.1))) (Int.tmod_eq_emod_of_nonneg (by omega))) ?_
   refine ab (bo rfl rfl)<|ak rfl ?_
   refine a6 (t := 38) rfl (fun hg3 => ?_) (fun hg3 => ?_)
   ·have hg3_ := b8 hg3
    iterate 3 refine aY hg3 ?_
    refine ab (aO rfl hg3 (rfl : _ = AV.p (.c _)))<|ak rfl<|aY rfl ?_
    refine aY rfl ?_
    refine aY rfl ?_
    iterate 3 refine eT ?_
    refine aY rfl ?_
    refine ab (aO rfl rfl (rfl : _ = AV.p (.c _)))<|ag<|mM rfl rfl ?_
    refine jO ?_
    refine di hP ?_
    refine ak rfl<|bw rfl rfl ?_
    refine aj rfl<|ag ?_
    refine ⟨(q.1 + 1, q.2), ⟨wy hJ hb2_ (Lp hg3_), by simp only; omega, by simp only; omega, hqk⟩, by simp only; omega, rfl, aF ⟨.refl _, .refl _, .refl _, .refl _, trivial⟩ trivial⟩
   have hg3_ := bU hg3
   have hz : ((q.1 * q.1 + N) % (4 * p.1)) = 0 := hg3_
   refine aC hg3 (ay (rfl : _ = AV.p (.c _))) ?_
   refine aC hg3 (ay (rfl : _ = AV.p (.c _))) ?_
   refine aC hg3 (bd rfl rfl) ?_
   refine ab (aM rfl hg3 (rfl : _ = AV.p (.c _)))<|ak rfl ?_
   refine a6 (t := 43) rfl (fun hg4 => ?_) (fun hg4 => ?_)
   ·have hg4_ := dT0 hg4
    iterate 3 refine aY hg4 ?_
    iterate 3 refine eT ?_
    refine aY hg4 ?_
    refine ab (aO rfl hg4 (rfl : _ = AV.p (.c _)))<|ag<|mM rfl rfl ?_
    refine jO ?_
    refine di hP ?_
    refine ak rfl<|bw rfl rfl ?_
    refine aj rfl<|ag ?_
    refine ⟨(q.1 + 1, q.2), ⟨wy hJ hb2_ (Lo hz hg4_), by simp only; omega, by simp only; omega, hqk⟩, by simp only; omega, rfl, aF ⟨.refl _, .refl _, .refl _, .refl _, trivial⟩ trivial⟩
   have hg4_ := dF0 hg4
   refine aC hg4 (ay (rfl : _ = AV.p (.c _))) ?_
   refine aC hg4 (bd rfl rfl) ?_
   refine aC hg4 (ay (rfl : _ = AV.p (.c _))) ?_
   refine a6 (t := 46) rfl (fun hg5 => ?_) (fun hg5 => ?_)
   ·have hg5_ := dT0 hg5
    refine aC hg5 (ay (rfl : _ = AV.p (.c _))) ?_
    refine aC hg5 (ay (rfl : _ = AV.p (.c _))) ?_
    refine aC hg5 (bq rfl rfl) ?_
    refine aC hg4 (aO rfl hg5 (rfl : _ = AV.p (.c _))) ?_
    refine ab (aM rfl hg4 (rfl : _ = AV.p (.c _)))<|ag ?_
    refine jP rfl (fun hb6 => ?_) (fun hb6 => ?_)
    ·have hb6_ := bT hb6
     refine jO ?_
     refine di hP ?_
     refine ak rfl<|bw rfl rfl ?_
     refine aj rfl<|ag ?_
     refine ⟨(q.1 + 1, q.2), ⟨wy hJ hb2_ (Ln hz hg4_ hg5_ hb6_), by simp only; omega, by simp only; omega, hqk⟩, by simp only; omega, rfl, aF ⟨.refl _, .refl _, .refl _, .refl _, trivial⟩ trivial⟩
    have hb6_ := bF hb6
    have hy := ya hJ hb2_ (Lm hz hg4_ hb6_)
    refine gH ?_
    refine dI ?_
    refine lR ?_
    iterate 4 refine RJ.val ai (ay (rfl : _ = AV.p (.c _))) ?_
    refine RJ.val ai (aV hT rfl rfl rfl (es := [_, _, _]) rfl) ?_
    refine RJ.yield hK ai rfl rfl (yb hy) ?_
    refine RJ.val ai (bv rfl) ?_
    refine RJ.done ?_
    refine gw rfl rfl ?_
    refine gH ?_
    refine di hP ?_
    refine ak rfl<|bw rfl rfl ?_
    refine aj rfl<|ag ?_
    refine ⟨(q.1 + 1, q.2 + 1), ⟨vd hy, by simp only; omega, by simp only; omega, Dc hy⟩, by simp only; omega, rfl, aF ⟨.refl _, .refl _, .refl _, .refl _, trivial⟩ trivial⟩
   have hg5_ := dF0 hg5
   have hy := ya hJ hb2_ (Ll hz hg4_ hg5_)
   iterate 3 refine aY hg5 ?_
   refine aC hg4 (aM rfl hg5 (rfl : _ = AV.p (.c _))) ?_
   refine ab (aM rfl hg4 (rfl : _ = AV.p (.c _)))<|ag<|gw rfl rfl ?_
   refine gH ?_
   refine dI ?_
   refine lR ?_
   iterate 4 refine RJ.val ai (ay (rfl : _ = AV.p (.c _))) ?_
   refine RJ.val ai (aV hT rfl rfl rfl (es := [_, _, _]) rfl) ?_
   refine RJ.yield hK ai rfl rfl (yb hy) ?_
   refine RJ.val ai (bv rfl) ?_
   refine RJ.done ?_
   refine gw rfl rfl ?_
   refine gH ?_
   refine di hP ?_
   refine ak rfl<|bw rfl rfl ?_
   refine aj rfl<|ag ?_
   refine ⟨(q.1 + 1, q.2 + 1), ⟨vd hy, by simp only; omega, by simp only; omega, Dc hy⟩, by simp only; omega, rfl, aF ⟨.refl _, .refl _, .refl _, .refl _, trivial⟩ trivial⟩
  have hb2_ := dF0 hb2
  refine jO ?_
  refine di hP ?_
  refine ak rfl<|bw rfl rfl ?_
  refine aj rfl<|ag ?_
  refine ⟨(p.1 + 1, q.2), ⟨HO hJ hb2_, by simp only; omega, by simp only; omega, hqk⟩, by simp only; omega, rfl, aF ⟨.refl _, .refl _, .refl _, trivial⟩ trivial⟩
 have hb1_ := dF0 hb1
 refine jO ?_
 refine ⟨.inl rfl, ?_⟩
 exact HP hI hb1_ hpk
end
section
open Go Go.AM
theorem kh (z : Int) (hz : bp z) :
  aI Tryz.prog 175 [Z z] (I z) := by
 refine aK Tryz.func175 rfl rfl rfl rfl ?_
 refine ae hP<|ao ai (aA hT rfl rfl)<|ag<|ae hP<|ak rfl<|ab (ah (dV _ (by first | assumption | decide))) ?_
 refine aG hT rfl<|ag<|am<|E2 hT rfl rfl rfl rfl rfl rfl rfl ?_
 exact .refl _
theorem I2 (z : Int) (hz : bp z) :
  aI Tryz.prog 247 [Z z] (I z) := by
 refine aK Tryz.func247 rfl rfl rfl rfl ?_
 refine ae hP<|ao ai (aA hT rfl rfl)<|ag<|ae hP<|ak rfl<|ab (ah (dV _ (by first | assumption | decide))) ?_
 refine aG hT rfl<|ag<|am<|E2 hT rfl rfl rfl rfl rfl rfl rfl ?_
 exact .refl _
theorem JY (a b c : Int) (ha : bp a) (hb : bp b) (hc : bp c) :
  aI Tryz.prog 124 [.p (.a [.v (.int .i64 a), .v (.int .i64 b), .v (.int .i64 c)])] (FA a b c) := by
 refine aK Tryz.func124 rfl rfl rfl rfl ?_
 refine ae hP<|ao ai (aJ rfl rfl)<|ao ai (aA hT rfl rfl)<|ag<|ae hP<|aE hT rfl<|aZ hT rfl rfl rfl rfl ?_
 refine ab (ah (kh _ (by first | assumption | decide))) ?_
 refine aE hT rfl<|aZ hT rfl rfl rfl rfl ?_
 refine ab (ah (kh _ (by first | assumption | decide))) ?_
 refine aE hT rfl<|aZ hT rfl rfl rfl rfl ?_
 refine ab (ah (kh _ (by first | assumption | decide))) ?_
 refine ab (aV hT rfl rfl rfl (es := [_, _, _, _, _, _]) rfl)<|aG hT rfl<|ag<|am ?_
 refine bR rfl (.inr rfl) (aR hT rfl rfl rfl rfl (cs := [_, _, _, _, _, _]) rfl rfl) ?_ br
 exact .refl _
theorem Ds (x : Int) :
  aI Tryz.prog 218 [I x] (B (decide (x = 1))) := by
 refine aK Tryz.func218 rfl rfl rfl rfl ?_
 refine ae hP<|ao ai (aJ rfl rfl)<|aj rfl<|ag<|ae hP<|av hT rfl<|ab (ah (I2 _ (by first | assumption | decide))) ?_
 refine ab (ah (dq _ _)) ?_
 refine ab (bq rfl rfl)<|aj rfl<|ag<|am<|E1 rfl rfl ?_
 exact aX (by rw [Bool.eq_iff_iff]; simp [cmpI_eq_zero])
theorem xn (x : Int) :
  aI Tryz.prog 219 [I x] (B (de x)) := by
 refine aK Tryz.func219 rfl rfl rfl rfl ?_
 refine ae hP<|ao ai (aJ rfl rfl)<|aj rfl<|ag<|ae hP<|aE hT rfl<|aZ hT rfl rfl rfl rfl ?_
 refine ab (aU hT rfl rfl rfl rfl)<|ab (bO rfl rfl)<|ak rfl ?_
 refine a6 (t := 7) rfl (fun hg1 => ?_) (fun hg1 => ?_)
 ·have hg1_ := dT0 hg1
  refine aC hg1 (aS hT rfl rfl rfl rfl rfl rfl) ?_
  refine aC hg1 (bQ hT rfl rfl rfl rfl (by first | rfl | exact eK (by omega))) ?_
  refine aC hg1 (by first | exact fC hT rfl rfl rfl rfl rfl rfl (by omega) | exact b9 hT rfl rfl rfl rfl rfl rfl (by omega) (by first | exact gX (by omega) | simp)) ?_
  refine aC hg1 (bV hT rfl rfl rfl (by first | rfl | exact l4 (by omega))) ?_
  refine aC hg1 (pI (m := (wl x.natAbs).getD 0 0) (n := 1) rfl rfl rfl (gS ((bG x.natAbs).getD 0)) (by decide)) ?_
  refine aC hg1 (bq rfl rfl) ?_
  refine ab (aO rfl hg1 (rfl : _ = AV.p (.c _)))<|aj rfl<|ag<|am<|E1 rfl rfl ?_
  exact aX (FH hg1_)
 have hg1_ := dF0 hg1
 iterate 6 refine aY hg1 ?_
 refine ab (aM rfl hg1 (rfl : _ = AV.p (.c _)))<|aj rfl<|ag<|am<|E1 rfl rfl ?_
 exact aX (IR hg1_)
theorem oV (x y : Int) (hx : L 44 x) (hy : L 44 y) (h0 : y ≠ 0) :
  aI Tryz.prog 213 [I x, I y] (I (x % y)) := by
 have ix : LB x 44 := ⟨hx⟩
 have iy : LB y 44 := ⟨hy⟩
 refine aK Tryz.func213 rfl rfl rfl rfl ?_
 refine ae hP<|ao ai (aJ rfl rfl)<|ao ai (aJ rfl rfl)<|ao ai (aA hT rfl rfl)<|ag<|ae hP<|av hT rfl<|av hT rfl<|ab (ah (dB _ _ lz lz h0)) ?_
 refine ab (ay (rfl : _ = AV.t _))<|ab (aD rfl (v := .a _) rfl)<|ab (aD rfl (v := .a _) rfl)<|ab (aD rfl (v := .c _) rfl)<|ao ai (aA hT rfl rfl)<|ao ai (aA hT rfl rfl)<|aG hT rfl<|aG hT rfl<|aj rfl<|ag<|ae hP<|av hT rfl<|aG hT rfl<|ag<|am<|E2 hT rfl rfl rfl rfl rfl rfl rfl ?_
 exact .refl _
theorem Ls (x y : Int) (hx : L 44 x) (hy : L 44 y) (h0 : y ≠ 0) :
  aI Tryz.prog 248 [I x, I y] (I (x / y)) := by
 have ix : LB x 44 := ⟨hx⟩
 have iy : LB y 44 := ⟨hy⟩
 refine aK Tryz.func248 rfl rfl rfl rfl ?_
 refine ae hP<|ao ai (aJ rfl rfl)<|ao ai (aJ rfl rfl)<|ao ai (aA hT rfl rfl)<|ag<|ae hP<|av hT rfl<|av hT rfl<|ab (ah (dB _ _ lz lz h0)) ?_
 refine ab (ay (rfl : _ = AV.t _))<|ab (aD rfl (v := .a _) rfl)<|ab (aD rfl (v := .a _) rfl)<|ab (aD rfl (v := .c _) rfl)<|ao ai (aA hT rfl rfl)<|ao ai (aA hT rfl rfl)<|aG hT rfl<|aG hT rfl<|aj rfl<|ag<|ae hP<|av hT rfl<|aG hT rfl<|ag<|am<|E2 hT rfl rfl rfl rfl rfl rfl rfl ?_
 exact .refl _
theorem rE (x m : Int) (hm : m = 4 ∨ m = 8) :
  aI Tryz.prog 221 [I x, .p (.c (.v (.int .u32 m)))] (.p (.c (.v (.int .u32 (x % m))))) := by
 have hm0 : 0 < m ∧ m < 10 := by omega
 have hb := Int.emod_nonneg (x.natAbs : Int) (show m ≠ 0 by omega)
 have hb2 := Int.emod_lt_of_pos (x.natAbs : Int) hm0.1
 refine aK Tryz.func221 rfl rfl rfl rfl ?_
 refine ae hP<|ao ai (aJ rfl rfl)<|aj rfl<|ag<|aq<|ae hP<|aE hT rfl<|aZ hT rfl rfl rfl rfl ?_
 refine ab (aU hT rfl rfl rfl rfl)<|ab (bq rfl rfl)<|ag ?_
 refine az rfl (fun hb1 => ?_) (fun hb1 => ?_)
 ·have hb1_ := bT hb1
  refine ae hP<|aj rfl<|ag<|am<|E1 rfl rfl ?_
  exact aH (by rw [BH hb1_])
 have hb1_ := bF hb1
 refine au<|ae hP<|aE hT rfl<|aZ hT rfl rfl rfl rfl ?_
 refine cJ ?_
 refine cr hT rfl rfl rfl ?_
 refine ak rfl<|ab (bW rfl rfl (by omega) (c := (x.natAbs : Int) % m) (by rw [Int.tmod_eq_emod_of_nonneg (by omega)]; exact F5 hm hb1_)) ?_
 refine aj rfl<|ag<|aq<|ae hP<|aE hT rfl<|aZ hT rfl rfl rfl rfl ?_
 refine ak rfl ?_
 refine a6 (t := 18) rfl (fun hg2 => ?_) (fun hg2 => ?_)
 ·refine aC hg2 (ay (rfl : _ = AV.p (.c _))) ?_
  refine aC hg2 (bO rfl rfl) ?_
  refine ab (aO rfl hg2 (rfl : _ = AV.p (.c _)))<|ag ?_
  refine az rfl (fun hb3 => ?_) (fun hb3 => ?_)
  ·have hb3_ := dT0 hb3
   refine aw hP<|ak rfl<|ak rfl<|ab (bB rfl rfl (by first | exact IntWalk.u32_in _ (by omega) | rfl)) ?_
   refine aj rfl<|ag<|ae hP<|ak rfl<|aj rfl<|ag<|am<|E1 rfl rfl ?_
   exact aH (by rw [F0 hm (dT0 hg2) hb3_])
  have hb3_ := dF0 hb3
  refine au<|ae hP<|ak rfl<|aj rfl<|ag<|am<|E1 rfl rfl ?_
  exact aH (by rw [BI hm (dT0 hg2) hb3_])
 refine aY hg2 ?_
 refine aY hg2 ?_
 refine ab (aM rfl hg2 (rfl : _ = AV.p (.c _)))<|ag<|aQ rfl rfl<|au<|ae hP<|ak rfl<|aj rfl<|ag<|am<|E1 rfl rfl ?_
 exact aH (by rw [FZ (dF0 hg2)])
end
section
open Go Go.AM
theorem yV (x : Int) (hx : L 40 x) (h0 : x ≠ 0) :
  aI Tryz.prog 220 [I x] (.t [PI (tw x).1, PE (tw x).2]) := by
 refine aK Tryz.func220 rfl rfl rfl rfl ?_
 refine ae hP<|ao ai (aJ rfl rfl)<|ao ai (aA hT rfl rfl)<|aj rfl<|ag<|ae hP<|aj rfl<|ag<|aq<|aB<|bn (ι := Int × Int) (fun p => stL [(1, .loc 1 0), (2, .loc 2 0), (4, Z p.2)] [(1, ⟨false, 1, 29, [zn (p.1), zm (p.1)]⟩), (2, ⟨false, 1, 29, [zn (0), zm (0)]⟩)]) (fun p => TwI x p.1 p.2) (fun p => p.1.natAbs) (x, 0) (TwI.start hx h0) (aF ⟨.refl _, .refl _, .refl _, trivial⟩ ⟨rfl, rfl, trivial⟩) ?_
 rintro p hI
 have hlt := hI.lt hx
 have hk0 := hI.k0
 have ib : LB p.1 40 := ⟨hI.lb⟩
 refine aq<|ae hP<|av hT rfl<|ab (ah (xn _)) ?_
 refine ab (bv rfl)<|ag ?_
 refine az rfl (fun hb1 => ?_) (fun hb1 => ?_)
 ·have hb1_ := (cA hb1)
  refine au<|aB<|ae hP<|av hT rfl<|ab (ah (I2 _ (by first | assumption | decide))) ?_
  refine ab (ah (Ls _ _ lz lz (by first | assumption | decide))) ?_
  refine aG hT rfl<|ag<|aw hP<|ak rfl<|bw rfl rfl ?_
  refine aj rfl<|ag ?_
  refine ⟨(p.1 / 2, p.2 + 1), (hI.next (by simpa using hb1)).1, (hI.next (by simpa using hb1)).2, aF ⟨.refl _, .refl _, .refl _, trivial⟩ ⟨rfl, rfl, trivial⟩⟩
 have hb1_ := (cp hb1)
 refine a7<|ae hP<|av hT rfl<|ak rfl<|aG hT rfl<|aj rfl<|ag<|am ?_
 refine cq rfl (.inr rfl) (aR hT rfl rfl rfl rfl (cs := [_, _]) rfl rfl) (bN rfl) ?_ br
 exact aH (by rw [Ev (by simpa using hb1) hI.tw])
theorem iX (a m : Int) (ha : L 40 a) (hm : L 40 m) :
  aI Tryz.prog 184 [I a, I m] (Z (kr a m)) := by
 have ia : LB a 40 := ⟨ha⟩
 have im : LB m 40 := ⟨hm⟩
 have hkb := xt a m
 have hsg := tH (x := a) hkb
 have hsg0 := Int.emod_nonneg a (show (8 : Int) ≠ 0 by omega)
 have hsg1 := Int.emod_lt_of_pos a (show (0 : Int) < 8 by omega)
 refine aK Tryz.func184 rfl rfl rfl rfl ?_
 refine ae hP<|ao ai (aJ rfl rfl)<|ao ai (aJ rfl rfl)<|aj rfl<|ag<|aq<|ae hP<|av hT rfl<|ab (ah (cW _)) ?_
 refine ab (bq rfl rfl)<|ag ?_
 refine az rfl (fun hb1 => ?_) (fun hb1 => ?_)
 ·have hb1_ := bT hb1
  refine aq<|ae hP<|av hT rfl<|ab (ah (na _)) ?_
  refine ab (ah (Ds _)) ?_
  refine ag ?_
  refine az rfl (fun hb2 => ?_) (fun hb2 => ?_)
  ·refine ae hP<|aj rfl<|ag<|am<|E1 rfl rfl ?_
   exact aN (MP (sgn_zero_iff.1 hb1_) (dT0 hb2))
  refine au<|ae hP<|aj rfl<|ag<|am<|E1 rfl rfl ?_
  exact aN (LA (sgn_zero_iff.1 hb1_) (dF0 hb2))
 have hb1_ := bF hb1
 refine au<|cB (ι := Unit) (fun _ => stL [(2, .loc 2 0), (3, .loc 3 0)] [(2, ⟨false, 1, 29, [zn (a), zm (a)]⟩), (3, ⟨false, 1, 29, [zn (m), zm (m)]⟩)]) (fun _ => ¬ (de a = false ∧ de m = false)) ?_ ?_
 ·refine ae hP<|av hT rfl<|ab (ah (xn _)) ?_
  refine ab (bv rfl)<|ak rfl ?_
  refine a6 (t := 16) rfl (fun hg3 => ?_) (fun hg3 => ?_)
  ·have hg3_ := (cA hg3)
   refine aC hg3 (aL hT rfl rfl rfl rfl (cs := [_, _]) rfl rfl) ?_
   refine aC hg3 (ah (xn _)) ?_
   refine aC hg3 (bv rfl) ?_
   refine ab (aO rfl hg3 (rfl : _ = AV.p (.c _)))<|ag ?_
   refine az rfl (fun hb4 => ?_) (fun hb4 => ?_)
   ·have hb4_ := (cA hb4)
    refine ae hP<|aj rfl<|ag<|am<|E1 rfl rfl ?_
    exact aN (F8 (fun e => hb1_ (sgn_zero_iff.2 e)) hg3_ hb4_)
   have hb4_ := (cp hb4)
   refine au ?_
   refine ⟨(), fun x => (by rw [x.2] at hb4_; cases hb4_), aF ⟨.refl _, .refl _, trivial⟩ ⟨rfl, rfl, trivial⟩⟩
  have hg3_ := (cp hg3)
  iterate 3 refine aY hg3 ?_
  refine ab (aM rfl hg3 (rfl : _ = AV.p (.c _)))<|ag<|aQ rfl rfl<|au ?_
  refine ⟨(), fun x => (by rw [x.1] at hg3_; cases hg3_), aF ⟨.refl _, .refl _, trivial⟩ ⟨rfl, rfl, trivial⟩⟩
 intro _ hpar
 refine ae hP<|aj rfl<|ag<|cB (ι := Unit) (fun _ => stL [(2, .loc 2 0), (3, .loc 3 0), (5, Z (k0K a m))] [(2, ⟨false, 1, 29, [zn (a), zm (a)]⟩), (3, ⟨false, 1, 29, [zn ((m.natAbs : Int)), zm ((m.natAbs : Int))]⟩)]) (fun _ => True) ?_ ?_
 ·refine ae hP<|aE hT rfl<|aZ hT rfl rfl rfl rfl ?_
  refine ag ?_
  refine az rfl (fun hb5 => ?_) (fun hb5 => ?_)
  ·refine aq<|ae hP<|aE hT rfl<|aZ hT rfl rfl rfl rfl ?_
   refine ag ?_
   refine az rfl (fun hb6 => ?_) (fun hb6 => ?_)
   ·refine aw hP<|aj rfl<|ag<|aw hP<|av hT rfl<|ab (ah (iN _)) ?_
    refine aG hT rfl<|ag ?_
    refine ⟨(), trivial, aF ⟨.refl _, .refl _, aN (by unfold k0K; rw [if_pos ⟨dT0 hb5, dT0 hb6⟩]), trivial⟩ ⟨rfl, by rw [vP (dT0 hb5)]; rfl, trivial⟩⟩
   refine au<|aw hP<|av hT rfl<|ab (ah (iN _)) ?_
   refine aG hT rfl<|ag ?_
   refine ⟨(), trivial, aF ⟨.refl _, .refl _, aN (by unfold k0K; rw [if_neg (fun x => dF0 hb6 x.2)]), trivial⟩ ⟨rfl, by rw [vP (dT0 hb5)]; rfl, trivial⟩⟩
  refine au ?_
  refine ⟨(), trivial, aF ⟨.refl _, .refl _, aN (by unfold k0K; rw [if_neg (fun x => dF0 hb5 x.1)]), trivial⟩ ⟨rfl, by rw [Fu (dF0 hb5)]; rfl, trivial⟩⟩
 intro _ _
 have hn0 : (m.natAbs : Int) ≠ 0 := fun e => hb1_ (sgn_zero_iff.2 (by omega))
 refine ae hP<|av hT rfl<|ab (ah (yV _ lz hn0)) ?_
 refine ab (ay (rfl : _ = AV.t _))<|ab (aD rfl (v := .a _) rfl)<|ab (aD rfl (v := .c _) rfl)<|aG hT rfl<|aj rfl<|ag<|cB (ι := Unit) (fun _ => stL [(2, .loc 2 0), (3, .loc 3 0), (5, Z (k1K a m))] [(2, ⟨false, 1, 29, [zn (a), zm (a)]⟩), (3, ⟨false, 1, 29, [zn ((tw (m.natAbs : Int)).1), zm ((tw (m.natAbs : Int)).1)]⟩)]) (fun _ => True) ?_ ?_
 ·refine ae hP<|ak rfl<|ab (bW rfl rfl (by decide) (c := (tw (m.natAbs : Int)).2 % 2) (Int.tmod_eq_emod_of_nonneg (by have := HL (x := (m.natAbs : Int)) lz hn0; omega))) ?_
  refine ab (bq rfl rfl)<|ag ?_
  refine az rfl (fun hb7 => ?_) (fun hb7 => ?_)
  ·have hb7_ := bT hb7
   refine aw hP<|ak rfl<|av hT rfl<|ab (ah (rE _ _ (by simp))) ?_
   refine ab (lV hT rfl rfl rfl rfl (.head _) rfl rfl (by omega)) ?_
   refine ab (bV hT rfl rfl rfl (vo a)) ?_
   refine ab (bK rfl rfl (by first | exact iW0 _ (by omega) | rfl)) ?_
   refine aj rfl<|ag ?_
   refine ⟨(), trivial, aF ⟨.refl _, .refl _, aN (by unfold k1K; rw [if_pos hb7_]), trivial⟩ ⟨rfl, rfl, trivial⟩⟩
  have hb7_ := bF hb7
  refine au ?_
  refine ⟨(), trivial, aF ⟨.refl _, .refl _, aN (by unfold k1K; rw [if_neg hb7_]), trivial⟩ ⟨rfl, rfl, trivial⟩⟩
 intro _ _
 have htw : LB (tw (m.natAbs : Int)).1 40 := HM lz hn0
 have ht0 : (tw (m.natAbs : Int)).1 ≠ 0 := (gj _ _ (Nat.le_refl _) hn0).2.1
 refine ae hP<|av hT rfl<|av hT rfl<|ab (ah (oV _ _ lz lz ht0)) ?_
 refine aG hT rfl<|ag<|aq<|aB<|bn (ι := (Int × Int × Int) × Nat) (fun i => stL [(2, .loc 2 0), (3, .loc 3 0), (5, Z (i.1.1))] [(2, ⟨false, 1, 29, [zn (i.1.2.1), zm (i.1.2.1)]⟩), (3, ⟨false, 1, 29, [zn (i.1.2.2), zm (i.1.2.2)]⟩)]) (fun i => KrI (RK_ a m) i.2 i.1.1 i.1.2.1 i.1.2.2) (fun i => i.1.2.1.natAbs) ((k1K a m, a % (tw (m.natAbs : Int)).1, (tw (m.natAbs : Int)).1), _) (KrI.start (fun e => hb1_ (sgn_zero_iff.2 e)) ha hm) (aF ⟨.refl _, .refl _, .refl _, trivial⟩ ⟨rfl, rfl, trivial⟩) ?_
 rintro i hI
 have h5 := hI.hk
 have j1 : LB i.1.2.1 40 := ⟨hI.la⟩
 have j2 : LB i.1.2.2 40 := ⟨hI.ln⟩
 refine aq<|ae hP<|av hT rfl<|ab (ah (cW _)) ?_
 refine ab (bO rfl rfl)<|ag ?_
 refine az rfl (fun hb8 => ?_) (fun hb8 => ?_)
 ·have hb8_ := dT0 hb8
  have hapos : 0 < i.1.2.1 := sgn_gt_iff.1 hb8_
  have hne : i.1.2.1 ≠ 0 := by omega
  have hsg2 := tH (x := i.1.2.2) h5
  have hkk := KrI.next hI hapos
  have hw : LB (tw i.1.2.1).1 40 := HM hI.la hne
  have hw0 : (tw i.1.2.1).1 ≠ 0 := (gj _ _ (Nat.le_refl _) hne).2.1
  have hk1b := Dx (a := i.1.2.1) (n := i.1.2.2) h5
  have hsg0 := Int.emod_nonneg i.1.2.2 (show (8 : Int) ≠ 0 by omega)
  have hsg1 := Int.emod_lt_of_pos i.1.2.2 (show (0 : Int) < 8 by omega)
  refine au<|aB<|ae hP<|av hT rfl<|ab (ah (yV _ lz hne)) ?_
  refine ab (ay (rfl : _ = AV.t _))<|ab (aD rfl (v := .a _) rfl)<|ab (aD rfl (v := .c _) rfl)<|aG hT rfl<|aj rfl<|ag<|cB (ι := Unit) (fun _ => stL [(2, .loc 2 0), (3, .loc 3 0), (5, Z ((k1F i.1.1 i.1.2.1 i.1.2.2)))] [(2, ⟨false, 1, 29, [zn ((tw i.1.2.1).1), zm ((tw i.1.2.1).1)]⟩), (3, ⟨false, 1, 29, [zn (i.1.2.2), zm (i.1.2.2)]⟩)]) (fun _ => True) ?_ ?_
  ·refine ae hP<|ak rfl<|ab (bW rfl rfl (by decide) (c := (tw i.1.2.1).2 % 2) (Int.tmod_eq_emod_of_nonneg (by have := HL (x := i.1.2.1) lz hne; omega))) ?_
   refine ab (bq rfl rfl)<|ag ?_
   refine az rfl (fun hb9 => ?_) (fun hb9 => ?_)
   ·have hb9_ := bT hb9
    refine aw hP<|ak rfl<|av hT rfl<|ab (ah (rE _ _ (by simp))) ?_
    refine ab (lV hT rfl rfl rfl rfl (.head _) rfl rfl (by omega)) ?_
    refine ab (bV hT rfl rfl rfl (vo i.1.2.2)) ?_
    refine ab (bK rfl rfl (by first | exact iW0 _ (by omega) | rfl)) ?_
    refine aj rfl<|ag ?_
    refine ⟨(), trivial, aF ⟨.refl _, .refl _, aN (by unfold k1F; rw [if_pos hb9_]), trivial⟩ ⟨rfl, rfl, trivial⟩⟩
   have hb9_ := bF hb9
   refine au ?_
   refine ⟨(), trivial, aF ⟨.refl _, .refl _, aN (by unfold k1F; rw [if_neg hb9_]), trivial⟩ ⟨rfl, rfl, trivial⟩⟩
  intro _ _
  refine aq<|ae hP<|av hT rfl<|ab (ah (rE _ _ (by simp))) ?_
  refine ab (bq rfl rfl)<|ak rfl ?_
  refine a6 (t := 64) rfl (fun hg10 => ?_) (fun hg10 => ?_)
  ·have hg10_ := bT hg10
   refine aC hg10 (aL hT rfl rfl rfl rfl (cs := [_, _]) rfl rfl) ?_
   refine aC hg10 (ah (rE _ _ (by simp))) ?_
   refine aC hg10 (bq rfl rfl) ?_
   refine ab (aO rfl hg10 (rfl : _ = AV.p (.c _)))<|ag ?_
   refine az rfl (fun hb11 => ?_) (fun hb11 => ?_)
   ·have hb11_ := bT hb11
    refine aw hP<|ak rfl<|ab (fX rfl (by first | exact iW0 _ (by omega) | rfl)) ?_
    refine aj rfl<|ag<|aw hP<|av hT rfl<|av hT rfl<|ab (ah (oV _ _ lz lz hw0)) ?_
    refine av hT rfl<|aG hT rfl<|aG hT rfl<|ag ?_
    refine ⟨((k2F (k1F i.1.1 i.1.2.1 i.1.2.2) i.1.2.1 i.1.2.2, i.1.2.2 % (tw i.1.2.1).1, (tw i.1.2.1).1), i.2 - 1), (hI.next hapos).1, (hI.next hapos).2, aF ⟨.refl _, .refl _, aN (by show _ = k2F _ _ _; unfold k2F; rw [if_pos ⟨hg10_, hb11_⟩]; omega), trivial⟩ ⟨rfl, rfl, trivial⟩⟩
   have hb11_ := bF hb11
   refine au<|aw hP<|av hT rfl<|av hT rfl<|ab (ah (oV _ _ lz lz hw0)) ?_
   refine av hT rfl<|aG hT rfl<|aG hT rfl<|ag ?_
   refine ⟨((k2F (k1F i.1.1 i.1.2.1 i.1.2.2) i.1.2.1 i.1.2.2, i.1.2.2 % (tw i.1.2.1).1, (tw i.1.2.1).1), i.2 - 1), (hI.next hapos).1, (hI.next hapos).2, aF ⟨.refl _, .refl _, aN (by show _ = k2F _ _ _; unfold k2F; rw [if_neg (fun x => hb11_ x.2)]), trivial⟩ ⟨rfl, rfl, trivial⟩⟩
  have hg10_ := bF hg10
  iterate 3 refine aY hg10 ?_
  refine ab (aM rfl hg10 (rfl : _ = AV.p (.c _)))<|ag<|aQ rfl rfl<|au<|aw hP<|av hT rfl<|av hT rfl<|ab (ah (oV _ _ lz lz hw0)) ?_
  refine av hT rfl<|aG hT rfl<|aG hT rfl<|ag ?_
  refine ⟨((k2F (k1F i.1.1 i.1.2.1 i.1.2.2) i.1.2.1 i.1.2.2, i.1.2.2 % (tw i.1.2.1).1, (tw i.1.2.1).1), i.2 - 1), (hI.next hapos).1, (hI.next hapos).2, aF ⟨.refl _, .refl _, aN (by show _ = k2F _ _ _; unfold k2F; rw [if_neg (fun x => hg10_ x.1)]), trivial⟩ ⟨rfl, rfl, trivial⟩⟩
 have hb8_ := dF0 hb8
 refine a7<|aq<|ae hP<|av hT rfl<|ab (ah (Ds _)) ?_
 refine ab (bv rfl)<|ag ?_
 refine az rfl (fun hb12 => ?_) (fun hb12 => ?_)
 ·have hb12_ := (cA hb12)
  refine ae hP<|aj rfl<|ag<|am<|E1 rfl rfl ?_
  exact aN (by rw [rG (fun e => hb1_ (sgn_zero_iff.2 e)) hpar, hI.stop (fun h => hb8_ (sgn_gt_iff.2 h)), if_neg (dF0 hb12_)])
 have hb12_ := (cp hb12)
 refine au<|ae hP<|ak rfl<|aj rfl<|ag<|am<|E1 rfl rfl ?_
 exact aN (by rw [rG (fun e => hb1_ (sgn_zero_iff.2 e)) hpar, hI.stop (fun h => hb8_ (sgn_gt_iff.2 h)), if_pos (dT0 hb12_)])
end
section
open Go Go.AM
end
end Go.Proofs.YthaiejfjnllglaaGreatDoor
