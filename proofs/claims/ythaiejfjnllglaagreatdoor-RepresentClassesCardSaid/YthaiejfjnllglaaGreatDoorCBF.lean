import Derived.Test.YthaiejfjnllglaaGreatDoorCBE
import Derived.Test.YthaiejfjnllglaaGreatDoorCBB
import Derived.Test.YthaiejfjnllglaaGreatDoorCBD
import Derived.Test.YthaiejfjnllglaaGreatDoorCBC
set_option maxRecDepth 100000
set_option maxHeartbeats 16000000
namespace Go.Proofs.YthaiejfjnllglaaGreatDoor
section
open Go Go.AM
theorem BT (a b c p q r s t u v w : Int) (ha : L 34 a) (hb : L 34 b) (hc : L 34 c) (hp : L 34 p) (hq : L 34 q) (hr : L 34 r) (hs : L 34 s) (ht : L 34 t) (hu : L 34 u) (hv : L 34 v) (hw : L 34 w) :
  CallM Tryz.prog 114 [.loc 0 0, I t, I u, I v, I w] (upd O 0 (some ⟨false, 1, 163, [zn (a), zm (a), zn (b), zm (b), zn (c), zm (c), zn (p), zm (p), zn (q), zm (q), zn (r), zm (r), zn (s), zm (s)]⟩)) (.t []) (upd O 0 (some ⟨false, 1, 163, [zn (vl a b c t v), zm (vl a b c t v), zn (apB a b c t u v w), zm (apB a b c t u v w), zn (vl a b c u w), zm (vl a b c u w), zn (p * t + q * v), zm (p * t + q * v), zn (p * u + q * w), zm (p * u + q * w), zn (r * t + s * v), zm (r * t + s * v), zn (r * u + s * w), zm (r * u + s * w)]⟩)) := by
 have ia : LB a 34 := ⟨ha⟩
 have ib : LB b 34 := ⟨hb⟩
 have ic : LB c 34 := ⟨hc⟩
 have ip : LB p 34 := ⟨hp⟩
 have iq : LB q 34 := ⟨hq⟩
 have ir : LB r 34 := ⟨hr⟩
 have is : LB s 34 := ⟨hs⟩
 have it : LB t 34 := ⟨ht⟩
 have iu : LB u 34 := ⟨hu⟩
 have iv : LB v 34 := ⟨hv⟩
 have iw : LB w 34 := ⟨hw⟩
 refine rW (np := 1) Tryz.func114 (by kernel_rfl) rfl rfl (bL0 rfl) AI xh rfl ?_
 refine ae hP<|ao ai (aN rfl rfl)<|ao ai (aN rfl rfl)<|ao ai (aN rfl rfl)<|ao ai (aN rfl rfl)<|ag<|ae hP<|au hT rfl<|au hT rfl<|au hT rfl<|au hT rfl<|ab (aV hT rfl rfl rfl (es := [_, _, _, _, _, _, _, _]) rfl)<|ao ai (aB hT rfl rfl)<|aG hT rfl<|ag<|av hP<|ab (aw (rfl : _ = AV.loc _ _))<|ab (aw (rfl : _ = AV.loc _ _))<|ab (aw (rfl : _ = AV.loc _ _))<|ab (cg rfl)<|aJ hT rfl<|bD hT rfl rfl rfl rfl rfl rfl<|ab (aI hT rfl rfl rfl rfl (cs := [_, _, _, _, _, _, _, _]) rfl rfl)<|ab (ah (BU _ _ _ _ _ _ _ lz lz lz lz lz lz lz)) ?_
 refine ab (aw (rfl : _ = AV.loc _ _))<|ab (cg rfl)<|aJ hT rfl<|ab (aI hT rfl rfl rfl rfl (cs := [_, _, _, _, _, _, _, _]) rfl rfl)<|ab (aI hT rfl rfl rfl rfl (cs := [_, _, _, _, _, _, _, _]) rfl rfl)<|ab (ah (s0 _ _ _ _ _ _ _ _ lz lz lz lz lz lz lz lz)) ?_
 refine ab (cg rfl)<|aJ hT rfl<|aG hT rfl<|ab (cg rfl)<|aJ hT rfl<|aG hT rfl<|ag ?_
 refine wF rfl (.inl rfl)  ?_ (yj rfl)
 exact .refl _
theorem vL (m : Nat) (a b c p q r s t u v w : Int) (ha : L 34 a) (hb : L 34 b) (hc : L 34 c) (hp : L 34 p) (hq : L 34 q) (hr : L 34 r) (hs : L 34 s) (ht : L 34 t) (hu : L 34 u) (hv : L 34 v) (hw : L 34 w) :
  CallM Tryz.prog 114 [.loc m 0, I t, I u, I v, I w] (upd O m (some ⟨false, 1, 163, [zn (a), zm (a), zn (b), zm (b), zn (c), zm (c), zn (p), zm (p), zn (q), zm (q), zn (r), zm (r), zn (s), zm (s)]⟩)) (.t []) (upd O m (some ⟨false, 1, 163, [zn (vl a b c t v), zm (vl a b c t v), zn (apB a b c t u v w), zm (apB a b c t u v w), zn (vl a b c u w), zm (vl a b c u w), zn (p * t + q * v), zm (p * t + q * v), zn (p * u + q * w), zm (p * u + q * w), zn (r * t + s * v), zm (r * t + s * v), zn (r * u + s * w), zm (r * u + s * w)]⟩)) := CallM.ren1 m (BT a b c p q r s t u v w ha hb hc hp hq hr hs ht hu hv hw) rfl rfl
theorem gu (a b c : Int) (ha : L 26 a) (hb : L 26 b) (hc : L 26 c) :
  aF Tryz.prog 41 [FA a b c] (.t [PF (rdF a b c), PM (rdM a b c), PE (rdE a b c)]) := by
 have ia : LB a 26 := ⟨ha⟩
 have ib : LB b 26 := ⟨hb⟩
 have ic : LB c 26 := ⟨hc⟩
 obtain ⟨M, hMa, hMc, hM0, hML⟩ := ha.max2 hc
 refine aK Tryz.func41 rfl rfl rfl rfl ?_
 refine ae hP<|ao ai (aN rfl rfl)<|ao ai (aB hT rfl rfl)<|ao ai (aB hT rfl rfl)<|aj rfl<|ag<|ae hP<|bD hT rfl rfl rfl rfl rfl rfl<|ab (ah (lD _ _ _ lz lz lz)) ?_
 refine aj rfl<|ag<|an<|ae hP<|ak rfl<|ab (bo rfl rfl)<|ak rfl ?_
 refine aZ (t := 16) rfl (fun hg1 => ?_) (fun hg1 => ?_)
 ·have hg1_ := bT hg1
  refine aC hg1 (aI hT rfl rfl rfl rfl (cs := [_, _, _, _, _, _]) rfl rfl) ?_
  refine aC hg1 (ah (fq _ _ _ lz lz lz)) ?_
  refine aC hg1 (ah (cE _)) ?_
  refine aC hg1 (bU rfl rfl) ?_
  refine ab (aM rfl hg1 (rfl : _ = AV.p (.c _)))<|ag ?_
  refine az rfl (fun hb2 => ?_) (fun hb2 => ?_)
  ·have hb2_ := dT0 hb2
   refine av hP<|aj rfl<|ag<|an<|ae hP<|ak rfl<|ab (bl rfl rfl)<|ag<|aS rfl rfl<|ae hP<|ab (aV hT rfl rfl rfl (es := [_, _, _, _, _, _]) rfl)<|ab (aV hT rfl rfl rfl (es := [_, _, _, _, _, _, _, _]) rfl)<|ak rfl<|aG hT rfl<|aG hT rfl<|aj rfl<|ag<|am ?_
   refine dW rfl (.inr rfl) (aT hT rfl rfl rfl rfl (cs := [_, _, _, _, _, _]) rfl rfl) (aT hT rfl rfl rfl rfl (cs := [_, _, _, _, _, _, _, _]) rfl rfl) (bM rfl) ?_ br
   exact aD (sV (Hl hg1 hb2_) (by decide))
  have hb2_ := dF0 hb2
  refine aq<|an<|ae hP<|ak rfl<|ab (bl rfl rfl)<|ag<|aP rfl (by rw [bne, hg1]; rfl) ?_
  refine aq<|ae hP<|ab (ah (dO _ (by first | assumption | decide))) ?_
  refine ab (ah (dO _ (by first | assumption | decide))) ?_
  refine ao ai (aB hT rfl rfl)<|ao ai (aB hT rfl rfl)<|aG hT rfl<|aG hT rfl<|ag<|ae hP<|bD hT rfl rfl rfl rfl rfl rfl<|au hT rfl<|au hT rfl<|au hT rfl<|au hT rfl<|ab (aV hT rfl rfl rfl (es := [_, _, _, _, _, _, _, _]) rfl)<|ab (aV hT rfl rfl rfl (es := [_, _, _, _, _, _, _, _, _, _, _, _, _, _]) rfl)<|ao ai (aN rfl rfl)<|ab (bi (rfl : _ = AV.loc _ _))<|ag<|an<|aA ?_
  have he0 := Hm hg1 hb2_
  have hp0 := lC he0
  refine bq (ι := (Fm × Mt) × Nat) (fun i => stL [(2, .loc 2 0), (3, .loc 3 0), (6, .loc 6 0), (7, .loc 7 0), (8, .loc 36 0)] [(2, ⟨false, 1, 46, FL 0 0 0⟩), (3, ⟨false, 1, 87, ML 0 0 0 0⟩), (6, ⟨false, 1, 29, [zn 1, zm 1]⟩), (7, ⟨false, 1, 29, [zn 0, zm 0]⟩), (36, ⟨false, 1, 163, [zn (i.1.1.a), zm (i.1.1.a), zn (i.1.1.b), zm (i.1.1.b), zn (i.1.1.c), zm (i.1.1.c), zn (i.1.2.a), zm (i.1.2.a), zn (i.1.2.b), zm (i.1.2.b), zn (i.1.2.c), zm (i.1.2.c), zn (i.1.2.d), zm (i.1.2.d)]⟩)]) (fun i => AM.Good ⟨a, b, c⟩ M i.1 ∧ i.1.1.mu ≤ i.2 ∧ ep i.2 i.1 = ep (Fm.mu ⟨a, b, c⟩) (⟨a, b, c⟩, .one)) (fun i => i.2) ((⟨a, b, c⟩, .one), Fm.mu ⟨a, b, c⟩) ⟨ri hp0 hMa hMc, Nat.le_refl _, rfl⟩ (aE ⟨.refl _, .refl _, .refl _, .refl _, .refl _, trivial⟩ ⟨rfl, rfl, rfl, rfl, rfl, trivial⟩) ?_
  rintro ⟨s, k⟩ ⟨hG, hk, hR⟩
  have hL := hG.L hp0 hMa hMc hML
  have i1 : LB s.1.a 27 := ⟨hL.1.a⟩
  have i2 : LB s.1.b 27 := ⟨hL.1.b⟩
  have i3 : LB s.1.c 27 := ⟨hL.1.c⟩
  have i4 : LB s.2.a 27 := ⟨hL.2.a⟩
  have i5 : LB s.2.b 27 := ⟨hL.2.b⟩
  have i6 : LB s.2.c 27 := ⟨hL.2.c⟩
  have i7 : LB s.2.d 27 := ⟨hL.2.d⟩
  have hs0 : 2 * s.1.a ≠ 0 := by
   have h9 : 0 < s.1.a := hG.pos.1
   omega
  have i8 : LB s.1.k 28 := ⟨by unfold Fm.k; exact lz⟩
  refine an<|ae hP<|ab (aw (rfl : _ = AV.loc _ _))<|ab (cg rfl)<|aJ hT rfl<|bD hT rfl rfl rfl rfl rfl rfl<|ab (ah (oB _ _ _ lz lz lz)) ?_
  refine ab (bt rfl)<|ag ?_
  refine az rfl (fun hb3 => ?_) (fun hb3 => ?_)
  ·have hb3_ := (cz hb3)
   refine aq<|aA<|ae hP<|ab (aw (rfl : _ = AV.loc _ _))<|ab (cg rfl)<|aJ hT rfl<|aJ hT rfl<|au hT rfl<|ab (aw (rfl : _ = AV.loc _ _))<|ab (cg rfl)<|aJ hT rfl<|aJ hT rfl<|au hT rfl<|ab (ah (iO _ _ lz lz)) ?_
   refine ab (ah (dO _ (by first | assumption | decide))) ?_
   refine ab (aw (rfl : _ = AV.loc _ _))<|ab (cg rfl)<|aJ hT rfl<|aJ hT rfl<|au hT rfl<|ab (bd hT rfl rfl rfl (es := [_, _, _, _]) rfl rfl rfl)<|ab (ah (cH _ _ lz lz)) ?_
   refine ab (ah (da _ _ lz lz hs0)) ?_
   refine ab (aw (rfl : _ = AV.t _))<|ab (ay rfl (v := .a _) rfl)<|ab (ay rfl (v := .a _) rfl)<|ab (ay rfl (v := .c _) rfl)<|ao ai (aB hT rfl rfl)<|ao ai (aB hT rfl rfl)<|aG hT rfl<|aG hT rfl<|aj rfl<|ag<|ae hP<|ab (aw (rfl : _ = AV.loc _ _))<|au hT rfl<|au hT rfl<|au hT rfl<|au hT rfl<|RK.mut ai (Eff.call (rd := [36]) (vL 36 (s.1.a) (s.1.b) (s.1.c) (s.2.a) (s.2.b) (s.2.c) (s.2.d) _ _ _ _ lz lz lz lz lz lz lz lz lz lz lz) (kQ rfl) me) ?_
   refine ag<|ae hP<|ab (aw (rfl : _ = AV.loc _ _))<|ab (cg rfl)<|aJ hT rfl<|bD hT rfl rfl rfl rfl rfl rfl<|ab (ah (oB _ _ _ lz lz lz)) ?_
   refine ab (bt rfl)<|ag ?_
   refine az rfl (fun hb4 => ?_) (fun hb4 => ?_)
   ·have hb4_ := (cz hb4)
    refine av hP<|ab (aw (rfl : _ = AV.loc _ _))<|au hT rfl<|ab (ah (dO _ (by first | assumption | decide))) ?_
    refine au hT rfl<|au hT rfl<|RK.mut ai (Eff.call (rd := [36]) (vL 36 (vl s.1.a s.1.b s.1.c 1 0) (apB s.1.a s.1.b s.1.c 1 s.1.k 0 1) (vl s.1.a s.1.b s.1.c s.1.k 1) (s.2.a * 1 + s.2.b * 0) (s.2.a * s.1.k + s.2.b * 1) (s.2.c * 1 + s.2.d * 0) (s.2.c * s.1.k + s.2.d * 1) _ _ _ _ lz lz lz lz lz lz lz lz lz lz lz) (kQ rfl) me) ?_
    refine ag ?_
    have hx := sW hG hk hR hb3 (GG hb4)
    refine ⟨(((s.1.app (.T s.1.k)).app .S, (s.2.mul (.T s.1.k)).mul .S), k - 1), hx.1, hx.2, aE ⟨.refl _, .refl _, .refl _, .refl _, .refl _, trivial⟩ ⟨rfl, rfl, rfl, rfl, rfl, trivial⟩⟩
   have hb4_ := (cp hb4)
   refine aq ?_
   have hx := sW hG hk hR hb3 (GF hb4)
   refine ⟨((s.1.app (.T s.1.k), s.2.mul (.T s.1.k)), k - 1), hx.1, hx.2, aE ⟨.refl _, .refl _, .refl _, .refl _, .refl _, trivial⟩ ⟨rfl, rfl, rfl, rfl, rfl, trivial⟩⟩
  have hb3_ := (cp hb3)
  refine a6<|ae hP<|ab (aw (rfl : _ = AV.loc _ _))<|ab (cg rfl)<|aJ hT rfl<|bD hT rfl rfl rfl rfl rfl rfl<|ab (aw (rfl : _ = AV.loc _ _))<|ab (cg rfl)<|aJ hT rfl<|ab (aI hT rfl rfl rfl rfl (cs := [_, _, _, _, _, _, _, _]) rfl rfl)<|aG hT rfl<|aG hT rfl<|aj rfl<|ag<|am ?_
  refine dW rfl (.inr rfl) (aT hT rfl rfl rfl rfl (cs := [_, _, _, _, _, _]) rfl rfl) (aT hT rfl rfl rfl rfl (cs := [_, _, _, _, _, _, _, _]) rfl rfl) (bM rfl) ?_ br
  exact aD (Ek he0 (BM hR hb3))
 have hg1_ := bF hg1
 iterate 4 refine aW hg1 ?_
 refine ab (aL rfl hg1 (rfl : _ = AV.p (.c _)))<|ag<|aP rfl rfl<|aq<|an<|ae hP<|ak rfl<|ab (bl rfl rfl)<|ag<|aS rfl (by rw [bne, hg1]; rfl) ?_
 refine ae hP<|ab (aV hT rfl rfl rfl (es := [_, _, _, _, _, _]) rfl)<|ab (aV hT rfl rfl rfl (es := [_, _, _, _, _, _, _, _]) rfl)<|ak rfl<|aG hT rfl<|aG hT rfl<|aj rfl<|ag<|am ?_
 refine dW rfl (.inr rfl) (aT hT rfl rfl rfl rfl (cs := [_, _, _, _, _, _]) rfl rfl) (aT hT rfl rfl rfl rfl (cs := [_, _, _, _, _, _, _, _]) rfl rfl) (bM rfl) ?_ br
 exact aD (sV (Ep hg1).1 (fun e => by rw [e] at hg1; cases hg1))
theorem Ez (a b c p q r : Int) (ha : L 26 a) (hb : L 26 b) (hc : L 26 c) (hp : L 26 p) (hq : L 26 q) (hr : L 26 r) :
  aF Tryz.prog 133 [FA a b c, FA p q r] (.t [PM (smM a b c p q r), PB (smB a b c p q r)]) := by
 have ia : LB a 26 := ⟨ha⟩
 have ib : LB b 26 := ⟨hb⟩
 have ic : LB c 26 := ⟨hc⟩
 have ip : LB p 26 := ⟨hp⟩
 have iq : LB q 26 := ⟨hq⟩
 have ir : LB r 26 := ⟨hr⟩
 refine aK Tryz.func133 rfl rfl rfl rfl ?_
 refine ae hP<|ao ai (aN rfl rfl)<|ao ai (aN rfl rfl)<|ao ai (aB hT rfl rfl)<|aj rfl<|ag<|ae hP<|bD hT rfl rfl rfl rfl rfl rfl<|ab (ah (gu _ _ _ lz lz lz)) ?_
 refine ab (aw (rfl : _ = AV.t _))<|ab (ay rfl (v := .a _) rfl)<|ab (ay rfl (v := .a _) rfl)<|ab (ay rfl (v := .c _) rfl)<|ao ai (aB hT rfl rfl)<|ao ai (aB hT rfl rfl)<|aG hT rfl<|aG hT rfl<|aj rfl<|ag<|ae hP<|bD hT rfl rfl rfl rfl rfl rfl<|ab (ah (gu _ _ _ lz lz lz)) ?_
 refine ab (aw (rfl : _ = AV.t _))<|ab (ay rfl (v := .a _) rfl)<|ab (ay rfl (v := .a _) rfl)<|ab (ay rfl (v := .c _) rfl)<|ao ai (aB hT rfl rfl)<|ao ai (aB hT rfl rfl)<|aG hT rfl<|aG hT rfl<|aj rfl<|ag<|an<|ae hP<|ak rfl<|ab (bl rfl rfl)<|ak rfl ?_
 refine aZ (t := 27) rfl (fun hg1 => ?_) (fun hg1 => ?_)
 ·have hg1_ := cn hg1
  refine aW hg1 ?_
  refine aW hg1 ?_
  refine ab (aM rfl hg1 (rfl : _ = AV.p (.c _)))<|ak rfl<|aW rfl ?_
  iterate 5 refine aW rfl ?_
  refine ab (aM rfl rfl (rfl : _ = AV.p (.c _)))<|ak rfl<|aW rfl ?_
  iterate 5 refine aW rfl ?_
  refine ab (aM rfl rfl (rfl : _ = AV.p (.c _)))<|ak rfl<|aW rfl ?_
  iterate 5 refine aW rfl ?_
  refine ab (aM rfl rfl (rfl : _ = AV.p (.c _)))<|ag<|aS rfl rfl<|ae hP<|ab (aV hT rfl rfl rfl (es := [_, _, _, _, _, _, _, _]) rfl)<|aG hT rfl<|aj rfl<|ag<|am ?_
  refine b9 rfl (.inr rfl) (aT hT rfl rfl rfl rfl (cs := [_, _, _, _, _, _, _, _]) rfl rfl) (bM rfl) ?_ br
  exact aD (mD (fun x => hg1_ x.1))
 have hg1_ := bY hg1
 refine aC hg1 (aw (rfl : _ = AV.p (.c _))) ?_
 refine aC hg1 (bl rfl rfl) ?_
 refine ab (aL rfl hg1 (rfl : _ = AV.p (.c _)))<|ak rfl ?_
 refine aZ (t := 31) rfl (fun hg2 => ?_) (fun hg2 => ?_)
 ·have hg2_ := cn hg2
  iterate 6 refine aW hg2 ?_
  refine ab (aM rfl hg2 (rfl : _ = AV.p (.c _)))<|ak rfl<|aW rfl ?_
  iterate 5 refine aW rfl ?_
  refine ab (aM rfl rfl (rfl : _ = AV.p (.c _)))<|ak rfl<|aW rfl ?_
  iterate 5 refine aW rfl ?_
  refine ab (aM rfl rfl (rfl : _ = AV.p (.c _)))<|ag<|aS rfl rfl<|ae hP<|ab (aV hT rfl rfl rfl (es := [_, _, _, _, _, _, _, _]) rfl)<|aG hT rfl<|aj rfl<|ag<|am ?_
  refine b9 rfl (.inr rfl) (aT hT rfl rfl rfl rfl (cs := [_, _, _, _, _, _, _, _]) rfl rfl) (bM rfl) ?_ br
  exact aD (mD (fun x => hg2_ x.2.1))
 have hg2_ := bY hg2
 refine aC hg2 (aR hT rfl rfl rfl rfl rfl rfl) ?_
 refine aC hg2 (aI hT rfl rfl rfl rfl (cs := [_, _]) rfl rfl) ?_
 refine aC hg2 (aR hT rfl rfl rfl rfl rfl rfl) ?_
 refine aC hg2 (aI hT rfl rfl rfl rfl (cs := [_, _]) rfl rfl) ?_
 refine aC hg2 (ah (c7 _ _)) ?_
 refine aC hg2 (bl rfl rfl) ?_
 refine ab (aL rfl hg2 (rfl : _ = AV.p (.c _)))<|ak rfl ?_
 refine aZ (t := 39) rfl (fun hg3 => ?_) (fun hg3 => ?_)
 ·have hg3_ := cn hg3
  iterate 6 refine aW hg3 ?_
  refine ab (aM rfl hg3 (rfl : _ = AV.p (.c _)))<|ak rfl<|aW rfl ?_
  iterate 5 refine aW rfl ?_
  refine ab (aM rfl rfl (rfl : _ = AV.p (.c _)))<|ag<|aS rfl rfl<|ae hP<|ab (aV hT rfl rfl rfl (es := [_, _, _, _, _, _, _, _]) rfl)<|aG hT rfl<|aj rfl<|ag<|am ?_
  refine b9 rfl (.inr rfl) (aT hT rfl rfl rfl rfl (cs := [_, _, _, _, _, _, _, _]) rfl rfl) (bM rfl) ?_ br
  exact aD (mD (fun x => rQ hg3 (congrArg Fm.a x.2.2)))
 have hg3_ := bY hg3
 refine aC hg3 (aR hT rfl rfl rfl rfl rfl rfl) ?_
 refine aC hg3 (aI hT rfl rfl rfl rfl (cs := [_, _]) rfl rfl) ?_
 refine aC hg3 (aR hT rfl rfl rfl rfl rfl rfl) ?_
 refine aC hg3 (aI hT rfl rfl rfl rfl (cs := [_, _]) rfl rfl) ?_
 refine aC hg3 (ah (c7 _ _)) ?_
 refine aC hg3 (bl rfl rfl) ?_
 refine ab (aL rfl hg3 (rfl : _ = AV.p (.c _)))<|ak rfl ?_
 refine aZ (t := 47) rfl (fun hg4 => ?_) (fun hg4 => ?_)
 ·have hg4_ := cn hg4
  iterate 6 refine aW hg4 ?_
  refine ab (aM rfl hg4 (rfl : _ = AV.p (.c _)))<|ag<|aS rfl rfl<|ae hP<|ab (aV hT rfl rfl rfl (es := [_, _, _, _, _, _, _, _]) rfl)<|aG hT rfl<|aj rfl<|ag<|am ?_
  refine b9 rfl (.inr rfl) (aT hT rfl rfl rfl rfl (cs := [_, _, _, _, _, _, _, _]) rfl rfl) (bM rfl) ?_ br
  exact aD (mD (fun x => rQ hg4 (congrArg Fm.b x.2.2)))
 have hg4_ := bY hg4
 refine aC hg4 (aR hT rfl rfl rfl rfl rfl rfl) ?_
 refine aC hg4 (aI hT rfl rfl rfl rfl (cs := [_, _]) rfl rfl) ?_
 refine aC hg4 (aR hT rfl rfl rfl rfl rfl rfl) ?_
 refine aC hg4 (aI hT rfl rfl rfl rfl (cs := [_, _]) rfl rfl) ?_
 refine aC hg4 (ah (c7 _ _)) ?_
 refine aC hg4 (bl rfl rfl) ?_
 refine ab (aL rfl hg4 (rfl : _ = AV.p (.c _)))<|ag ?_
 refine az rfl (fun hb5 => ?_) (fun hb5 => ?_)
 ·have hb5_ := cn hb5
  refine ae hP<|ab (aV hT rfl rfl rfl (es := [_, _, _, _, _, _, _, _]) rfl)<|aG hT rfl<|aj rfl<|ag<|am ?_
  refine b9 rfl (.inr rfl) (aT hT rfl rfl rfl rfl (cs := [_, _, _, _, _, _, _, _]) rfl rfl) (bM rfl) ?_ br
  exact aD (mD (fun x => rQ hb5 (congrArg Fm.c x.2.2)))
 have hb5_ := bY hb5
 refine aq<|ae hP<|aJ hT rfl<|au hT rfl<|aJ hT rfl<|au hT rfl<|ab (ah (gB _)) ?_
 refine aJ hT rfl<|au hT rfl<|ab (ah (gB _)) ?_
 refine aJ hT rfl<|au hT rfl<|ab (aV hT rfl rfl rfl (es := [_, _, _, _, _, _, _, _]) rfl)<|ao ai (aB hT rfl rfl)<|aG hT rfl<|ag<|ae hP<|ab (aI hT rfl rfl rfl rfl (cs := [_, _, _, _, _, _, _, _]) rfl rfl)<|ab (aI hT rfl rfl rfl rfl (cs := [_, _, _, _, _, _, _, _]) rfl rfl)<|ab (ah (s0 _ _ _ _ _ _ _ _ lz lz lz lz lz lz lz lz)) ?_
 refine aG hT rfl<|aj rfl<|ag<|am ?_
 refine b9 rfl (.inr rfl) (aT hT rfl rfl rfl rfl (cs := [_, _, _, _, _, _, _, _]) rfl rfl) (bM rfl) ?_ br
 exact aD (D9 hg1 hg2 hg3 hg4 hb5)
end
section
open Go Go.AM
theorem xV (zs : List Nat) (hz : zs.length ≤ 1000000) :
  Iter Tryz.prog 211 [[W zs]] (bkL zs) := by
 refine tz Tryz.func211 (by kernel_rfl) rfl rfl (bL0 rfl) rfl ?_
 intro l n0 J hK
 refine dl ?_
 refine cT hP ?_
 refine cr hT rfl rfl rfl ?_
 refine ab (aU hT rfl rfl rfl (l := zs.length) rfl) ?_
 refine ab (bI rfl rfl (by first | exact iW0 _ (by omega) | rfl)) ?_
 refine aj rfl<|ag<|gK ?_
 refine og (ι := Nat) (fun k => stL [(0, .p (.c (.v (.func (.yield l) #[] #[])))), (1, .ip [W zs]), (3, Z ((zs.length : Int) - 1 - (k : Int)))] []) (fun k => k) (fun k => k ≤ zs.length) (fun k => zs.length - k) 0 (Nat.zero_le _) rfl (aE ⟨.refl _, .refl _, aO (by simp), trivial⟩ trivial) ?_
 intro k hk
 refine dl ?_
 refine dl ?_
 refine cT hP ?_
 refine ak rfl<|ab (dB rfl rfl)<|ag ?_
 refine iT rfl (fun hb1 => ?_) (fun hb1 => ?_)
 ·have hb1_ := dT0 hb1
  refine fS ?_
  refine dl ?_
  refine gK ?_
  refine dl ?_
  refine kx ?_
  refine RJ.val ai (aw (rfl : _ = AV.p (.c _))) ?_
  refine RJ.val ai (aw (rfl : _ = AV.p (.c _))) ?_
  refine RJ.val ai (cf hT rfl rfl rfl (by first | rfl | exact mc (by omega))) ?_
  refine RJ.val ai (aw (rfl : _ = AV.p (.c _))) ?_
  refine RJ.val ai (bW hT (l := zs.length) (n := ((zs.length : Int) - 1 - (k : Int))) rfl rfl rfl rfl rfl rfl (by omega) (gH (by omega))) ?_
  refine RJ.val ai (cf hT rfl rfl rfl (dv := w32 (zs.getD (zs.length - 1 - k) 0)) (by show ((zs.map w32).drop ((((zs.length : Int) - 1 - (k : Int))).toNat * 1))[0]? = _; rw [show (((zs.length : Int) - 1 - (k : Int))).toNat = zs.length - 1 - k by omega]; exact mc (by omega))) ?_
  refine RJ.yield hK ai rfl rfl (wU (by omega)) ?_
  refine RJ.val ai (bt rfl) ?_
  refine RJ.done ?_
  refine fD rfl rfl ?_
  refine fS ?_
  refine cT hP ?_
  refine ak rfl<|ab (bI rfl rfl (by first | exact iW0 _ (by omega) | rfl)) ?_
  refine aj rfl<|ag ?_
  refine ⟨k + 1, by omega, by omega, rfl, aE ⟨.refl _, .refl _, aO (by omega), trivial⟩ trivial⟩
 have hb1_ := dF0 hb1
 refine iS ?_
 refine ⟨.inl rfl, ?_⟩
 exact (oa zs).symm ▸ (by omega)
theorem Bz (zs : List Nat) :
  aF Tryz.prog 177 [.p (.c (W zs))] (.fn 211 [[W zs]]) := by
 refine jr Tryz.func177 (by kernel_rfl) rfl rfl (bL0 rfl) rfl ?_
 refine ae hP<|ao ai (aN rfl rfl)<|aj rfl<|ag<|cq (t := 1) rfl rfl ?_
 refine ae hP<|ab (jH rfl)<|ab (bi (rfl : _ = AV.fn _ _))<|ag<|am ?_
 exact ⟨.inr rfl, 2, rfl, rfl⟩
theorem rb (x : Int) (hx : x.natAbs < 18446744073709551616) :
  aF Tryz.prog 125 [I x] (.t [PE (lwV x), PB (lwO x)]) := by
 have hlen : (wl x.natAbs).length ≤ 2 := fH (k := 2) (by omega)
 have hok := bS x.natAbs
 refine aK Tryz.func125 rfl rfl rfl rfl ?_
 refine ae hP<|ao ai (aN rfl rfl)<|aj rfl<|aj rfl<|ag<|an<|ae hP<|aJ hT rfl<|bj hT rfl rfl rfl rfl ?_
 refine ab (aU hT rfl rfl rfl (l := (wl x.natAbs).length) rfl) ?_
 refine ab (bU rfl rfl)<|ag<|aP rfl (decide_eq_false (by omega)) ?_
 refine aq<|ae hP<|ao ai (aB hT rfl rfl)<|ag<|an<|ae hP<|aJ hT rfl<|bj hT rfl rfl rfl rfl ?_
 refine ab (ah (Bz (wl x.natAbs))) ?_
 refine ag<|aA<|dj (t := stL [(1, .loc 1 0), (4, .loc 4 0), (14, .fn 211 [[W (wl x.natAbs)]])] [(1, ⟨false, 1, 29, [zn x, zm x]⟩), (4, ⟨false, 1, 103, [.v (.int .u64 ((lwA (wl x.natAbs) 0 : Nat) : Int))]⟩)]) (aE ⟨.refl _, .refl _, .refl _, trivial⟩ ⟨rfl, by rw [uF]; rfl, trivial⟩) ?_
 refine o9 5 (fun k => ci [(1, ⟨false, 1, 29, [zn x, zm x]⟩), (4, ⟨false, 1, 103, [.v (.int .u64 ((lwA (wl x.natAbs) k : Nat) : Int))]⟩)]) rfl (xV (wl x.natAbs) (by omega)) (C7 _) rfl rfl rfl (fun k xx hxx => ?_) ?_
 ·obtain ⟨hk, rfl⟩ := C8 hxx
  have hv := HJ hok hlen hk
  have hw := hok.getD ((wl x.natAbs).length - 1 - k)
  refine av hP<|aj rfl<|ag<|aA<|av hP<|bj hT rfl rfl rfl rfl ?_
  refine ab (qE rfl rfl (by decide) (c := ((lwA (wl x.natAbs) k * 4294967296 : Nat) : Int)) (by rw [show (2 : Int) ^ (min (32 : Int).toNat IntKind.u64.bits) = 4294967296 from rfl, IntWalk.u64_in _ (by omega)]; omega)) ?_
  refine ak rfl<|ab (bh hT rfl rfl rfl rfl (IntWalk.u64_in _ (by omega))) ?_
  refine ab (lJ rfl rfl (IW hv hw)) ?_
  refine aG hT rfl<|ag ?_
  refine ⟨rfl, GW.forget_as (congrArg (fun y => ci [(1, ⟨false, 1, 29, [zn x, zm x]⟩), (4, ⟨false, 1, 103, [.v (.int .u64 ((y : Nat) : Int))]⟩)]) (qO hk).symm) (SubO.own ⟨rfl, rfl, trivial⟩)⟩
 rw [oa, Ci, bJ]
 refine ae hP<|bj hT rfl rfl rfl rfl ?_
 refine ab (bh hT rfl rfl rfl rfl (D7 hx)) ?_
 refine aj rfl<|ag<|an<|ae hP<|aJ hT rfl<|bj hT rfl rfl rfl rfl ?_
 refine ag ?_
 refine az rfl (fun hb1 => ?_) (fun hb1 => ?_)
 ·have hn : x < 0 := dT0 hb1
  refine av hP<|ak rfl<|ab (fL rfl (Dh hn)) ?_
  refine aj rfl<|ag<|an<|ae hP<|ak rfl<|ab (bl rfl rfl)<|ak rfl ?_
  refine aZ (t := 30) rfl (fun hg2 => ?_) (fun hg2 => ?_)
  ·have hg2_ := cn hg2
   refine aC hg2 (aR hT rfl rfl rfl rfl rfl rfl) ?_
   refine aC hg2 (bV hT rfl rfl rfl rfl (by first | rfl | exact eT (by omega))) ?_
   refine aC hg2 (aw (rfl : _ = AV.p (.c _))) ?_
   refine aC hg2 (a7 rfl rfl) ?_
   refine aC hg2 (kV hT rfl rfl rfl rfl) ?_
   refine ab (aM rfl hg2 (rfl : _ = AV.p (.c _)))<|ag ?_
   refine az rfl (fun hb3 => ?_) (fun hb3 => ?_)
   ·refine ae hP<|aj rfl<|aj rfl<|ag<|am<|E11 rfl rfl rfl ?_
    exact aD (tv hx (by assumption))
   refine aq<|ae hP<|ak rfl<|aj rfl<|aj rfl<|ag<|am<|E11 rfl rfl rfl ?_
   exact aD (qP hx (by assumption))
  have hg2_ := bY hg2
  iterate 5 refine aW hg2 ?_
  refine ab (aL rfl hg2 (rfl : _ = AV.p (.c _)))<|ag<|aP rfl rfl<|aq<|ae hP<|ak rfl<|aj rfl<|aj rfl<|ag<|am<|E11 rfl rfl rfl ?_
  exact aD (oR hx (by assumption))
 have hn : ¬ x < 0 := dF0 hb1
 rw [Dg hn]
 refine aq<|an<|ae hP<|ak rfl<|ab (bl rfl rfl)<|ak rfl ?_
 refine aZ (t := 30) rfl (fun hg4 => ?_) (fun hg4 => ?_)
 ·have hg4_ := cn hg4
  refine aC hg4 (aR hT rfl rfl rfl rfl rfl rfl) ?_
  refine aC hg4 (bV hT rfl rfl rfl rfl (by first | rfl | exact eT (by omega))) ?_
  refine aC hg4 (aw (rfl : _ = AV.p (.c _))) ?_
  refine aC hg4 (a7 rfl rfl) ?_
  refine aC hg4 (kV hT rfl rfl rfl rfl) ?_
  refine ab (aM rfl hg4 (rfl : _ = AV.p (.c _)))<|ag ?_
  refine az rfl (fun hb5 => ?_) (fun hb5 => ?_)
  ·refine ae hP<|aj rfl<|aj rfl<|ag<|am<|E11 rfl rfl rfl ?_
   exact aD (tv hx (by assumption))
  refine aq<|ae hP<|ak rfl<|aj rfl<|aj rfl<|ag<|am<|E11 rfl rfl rfl ?_
  exact aD (qP hx (by assumption))
 have hg4_ := bY hg4
 iterate 5 refine aW hg4 ?_
 refine ab (aL rfl hg4 (rfl : _ = AV.p (.c _)))<|ag<|aP rfl rfl<|aq<|ae hP<|ak rfl<|aj rfl<|aj rfl<|ag<|am<|E11 rfl rfl rfl ?_
 exact aD (oR hx (by assumption))
theorem HH {x : Int} (h1 : -9223372036854775808 < x) (h2 : x < 9223372036854775808) : AV.t [PE (lwV x), PB (lwO x)] = .t [PE x, PB true] := by
 have e : lwO x = true := decide_eq_true ⟨by omega, h2⟩
 unfold lwV; rw [e]; rfl
theorem gC (x : Int) (h1 : -9223372036854775808 < x) (h2 : x < 9223372036854775808) : aF Tryz.prog 125 [I x] (.t [.c (.v (.int .i64 x)), PB true]) := HH h1 h2 ▸ rb x (by omega)
end
section
open Go Go.AM
theorem lX (d : Int) (hd : L 40 d) :
  aF Tryz.prog 54 [I d] (.t [PF (prF d), PE (prE d)]) := by
 have id : LB d 40 := ⟨hd⟩
 have h4a := Int.emod_nonneg d (show (4 : Int) ≠ 0 by decide)
 have h4b := Int.emod_lt_of_pos d (show (0 : Int) < 4 by decide)
 refine aK Tryz.func54 rfl rfl rfl rfl ?_
 refine ae hP<|ao ai (aN rfl rfl)<|ao ai (aB hT rfl rfl)<|aj rfl<|ag<|ae hP<|au hT rfl<|ab (ah (dO _ (by first | assumption | decide))) ?_
 refine ab (ah (da _ 4 lz lz (by decide))) ?_
 refine ab (aw (rfl : _ = AV.t _))<|ab (ay rfl (v := .a _) rfl)<|ab (ay rfl (v := .a _) rfl)<|ab (ay rfl (v := .c _) rfl)<|ao ai (aB hT rfl rfl)<|ao ai (aB hT rfl rfl)<|aG hT rfl<|aG hT rfl<|aj rfl<|ag<|ae hP<|au hT rfl<|ab (ah (gC (d % 4) (by omega) (by omega))) ?_
 refine ab (aw (rfl : _ = AV.t _))<|ab (ay rfl (v := .c _) rfl)<|ab (ay rfl (v := .c _) rfl)<|aj rfl<|aj rfl<|ag<|an<|ae hP<|ak rfl<|ab (bt rfl)<|ak rfl<|aC rfl (aw (rfl : _ = AV.p (.c _))) ?_
 refine aC rfl (bU rfl rfl) ?_
 refine ab (aL rfl rfl (rfl : _ = AV.p (.c _)))<|ak rfl ?_
 refine aZ (t := 27) rfl (fun hg2 => ?_) (fun hg2 => ?_)
 ·have hg2_ := dT0 hg2
  refine aW hg2 ?_
  refine aW hg2 ?_
  refine ab (aM rfl hg2 (rfl : _ = AV.p (.c _)))<|ag<|aS rfl rfl<|ae hP<|ab (aV hT rfl rfl rfl (es := [_, _, _, _, _, _]) rfl)<|aG hT rfl<|aj rfl<|ag<|am ?_
  refine b9 rfl (.inr rfl) (aT hT rfl rfl rfl rfl (cs := [_, _, _, _, _, _]) rfl rfl) (bM rfl) ?_ br
  exact aD (Ad (.inl hg2_))
 have hg2_ := dF0 hg2
 refine aC hg2 (aI hT rfl rfl rfl rfl (cs := [_, _]) rfl rfl) ?_
 refine aC hg2 (ah (mP _ lz)) ?_
 refine ab (aL rfl hg2 (rfl : _ = AV.p (.c _)))<|ag ?_
 refine az rfl (fun hb3 => ?_) (fun hb3 => ?_)
 ·refine ae hP<|ab (aV hT rfl rfl rfl (es := [_, _, _, _, _, _]) rfl)<|aG hT rfl<|aj rfl<|ag<|am ?_
  refine b9 rfl (.inr rfl) (aT hT rfl rfl rfl rfl (cs := [_, _, _, _, _, _]) rfl rfl) (bM rfl) ?_ br
  exact aD (Ad (.inr hb3))
 refine aq<|ae hP<|ab (ah (dO _ (by first | assumption | decide))) ?_
 refine au hT rfl<|au hT rfl<|ab (ah (gB _)) ?_
 refine ab (aV hT rfl rfl rfl (es := [_, _, _, _, _, _]) rfl)<|aG hT rfl<|aj rfl<|ag<|am ?_
 refine b9 rfl (.inr rfl) (aT hT rfl rfl rfl rfl (cs := [_, _, _, _, _, _]) rfl rfl) (bM rfl) ?_ br
 exact aD (EC hg2_ hb3)
theorem Ew (ws : List Nat) (hok : okW ws) :
  aF Tryz.prog 121 [.p (.c (W ws))] (.p (.c (nt (wv ws)))) := by
 refine aK Tryz.func121 rfl rfl rfl rfl ?_
 refine gI (t := 0) rfl rfl (fun hlen => ?_)
 refine ae hP<|aj rfl<|ag<|an<|aA<|bq (ι := List Nat) (fun l => stL [(0, .p (.c (W l)))] []) (fun l => okW l ∧ wv l = wv ws ∧ l.length ≤ 140737488355328) (fun l => l.length) ws ⟨hok, rfl, hlen⟩ (aE ⟨.refl _, trivial⟩ trivial) ?_
 rintro l ⟨hl, hv, hn⟩
 refine an<|ae hP<|ak rfl<|ab (aU hT rfl rfl rfl rfl)<|ab (bU rfl rfl)<|ak rfl ?_
 refine aZ (t := 6) rfl (fun hg1 => ?_) (fun hg1 => ?_)
 ·have hg1_ := dT0 hg1
  refine aC hg1 (aw (rfl : _ = AV.p (.c _))) ?_
  refine aC hg1 (aw (rfl : _ = AV.p (.c _))) ?_
  refine aC hg1 (aU hT rfl rfl rfl rfl) ?_
  refine aC hg1 (bI rfl rfl (by first | exact iW0 _ (by omega) | rfl)) ?_
  refine aC hg1 (by first | exact fv hT rfl rfl rfl rfl rfl rfl (by omega) | exact bW hT rfl rfl rfl rfl rfl rfl (by omega) (by first | exact gH (by omega) | simp)) ?_
  refine aC hg1 (cf hT rfl rfl rfl (by first | rfl | exact mc (by omega))) ?_
  refine aC hg1 (bo rfl rfl) ?_
  refine ab (aM rfl hg1 (rfl : _ = AV.p (.c _)))<|ag ?_
  refine az rfl (fun hb2 => ?_) (fun hb2 => ?_)
  ·have hb2_ := bT hb2
   refine aq<|aA<|av hP<|ak rfl<|ak rfl<|ab (aU hT rfl rfl rfl rfl)<|ab (bI rfl rfl (by first | exact iW0 _ (by omega) | rfl)) ?_
   refine ab (jG hT rfl rfl rfl rfl rfl rfl (by omega)) ?_
   refine aj rfl<|ag ?_
   have e : ((l.length : Int) - 1).toNat = l.length - 1 := by omega
   refine ⟨l.take (l.length - 1), ⟨hl.take _, ?_, ?_⟩, ?_, aE ⟨aD ?_, trivial⟩ trivial⟩
   ·rw [pK (by omega) (by rw [← e]; omega), hv]
   ·rw [List.length_take]; omega
   ·rw [List.length_take]; omega
   show AV.p (.c (W (l.take ((l.length : Int) - 1).toNat))) = _
   rw [e]
  have hb2_ := bF hb2
  refine a6<|ae hP<|ak rfl<|aj rfl<|ag<|am<|E1 rfl rfl ?_
  have e : ((l.length : Int) - 1).toNat = l.length - 1 := by omega
  refine aD ?_
  rw [← hv, pC hl (.inr (by rw [← e]; omega))]
 have hg1_ := dF0 hg1
 iterate 7 refine aW hg1 ?_
 refine ab (aL rfl hg1 (rfl : _ = AV.p (.c _)))<|ag<|aP rfl rfl<|a6<|ae hP<|ak rfl<|aj rfl<|ag<|am<|E1 rfl rfl ?_
 refine aD ?_
 rw [← hv, pC hl (.inl (by omega))]
theorem vI (neg : Bool) (ws : List Nat) (h : okW ws) :
  aF Tryz.prog 51 [B neg, .p (.c (W ws))] (I (sg neg (wv ws))) := by
 refine aK Tryz.func51 rfl rfl rfl rfl ?_
 refine ae hP<|ao ai (aB hT rfl rfl)<|ag<|ae hP<|ak rfl<|ab (ah (Ew _ h)) ?_
 refine aj rfl<|ag<|an<|ae hP<|ak rfl<|ab (aU hT rfl rfl rfl rfl)<|ab (bo rfl rfl)<|ag ?_
 refine az rfl (fun hb1 => ?_) (fun hb1 => ?_)
 ·have hb1_ := bT hb1
  refine ae hP<|ab (aV hT rfl rfl rfl (es := [_, _]) rfl)<|aG hT rfl<|ag<|am<|E2 hT rfl rfl rfl rfl rfl rfl rfl ?_
  have h0 : wv ws = 0 := lA (by omega)
  rw [h0, sS]
  exact .refl _
 have hb1_ := bF hb1
 refine aq<|ae hP<|ak rfl<|ak rfl<|ab (aV hT rfl rfl rfl (es := [_, _]) rfl)<|aG hT rfl<|ag<|am<|E2 hT rfl rfl rfl rfl rfl rfl rfl ?_
 have h0 : 0 < wv ws := by
  rcases Nat.eq_zero_or_pos (wv ws) with e | e
  ·rw [e] at hb1_; exact absurd rfl hb1_
  exact e
 exact aD (by show _ = AV.p (.a [zn _, zm _]); rw [zr h0, zt])
theorem fX (z : Int) (hz : bn z) :
  aF Tryz.prog 10 [.p (.c (.v (.int .i64 z)))] (I z) := by
 have hz1 : z.natAbs < 18446744073709551616 := by unfold bn at hz; omega
 refine aK Tryz.func10 rfl rfl rfl rfl ?_
 refine ae hP<|ao ai (aB hT rfl rfl)<|ag<|ae hP<|ak rfl<|ab (bh hT rfl rfl rfl rfl tS) ?_
 refine aj rfl<|ag<|an<|ae hP<|ak rfl<|ab (a7 rfl rfl)<|ag ?_
 refine az rfl (fun hb1 => ?_) (fun hb1 => ?_)
 ·have hb1_ := dT0 hb1
  refine av hP<|ak rfl<|ab (fL rfl (xj hz hb1_)) ?_
  refine aj rfl<|ag<|ae hP<|ak rfl<|ab (a7 rfl rfl)<|ak rfl<|ab (bh hT rfl rfl rfl rfl (c := ((z.natAbs % 4294967296 : Nat) : Int)) (by first | exact jO _ | exact Ag hz hb1_)) ?_
  refine ak rfl<|ab (dT (j := 32) rfl rfl (by decide)) ?_
  refine ab (bh hT rfl rfl rfl rfl (c := ((z.natAbs / 2 ^ 32 : Nat) : Int)) (by first | exact vZ hz | exact Ah hz hb1_)) ?_
  refine ab (bd hT rfl rfl rfl (es := [_, _]) rfl rfl rfl)<|ab (ah (vI _ [z.natAbs % 4294967296, z.natAbs / 2 ^ 32] (nJ (by omega)))) ?_
  refine aG hT rfl<|ag<|am<|E2 hT rfl rfl rfl rfl rfl rfl rfl ?_
  exact Sub.I (by rw [pJ]; exact uu)
 have hb1_ := dF0 hb1
 refine aq<|ae hP<|ak rfl<|ab (a7 rfl rfl)<|ak rfl<|ab (bh hT rfl rfl rfl rfl (c := ((z.natAbs % 4294967296 : Nat) : Int)) (by first | exact jO _ | exact Ag hz hb1_)) ?_
 refine ak rfl<|ab (dT (j := 32) rfl rfl (by decide)) ?_
 refine ab (bh hT rfl rfl rfl rfl (c := ((z.natAbs / 2 ^ 32 : Nat) : Int)) (by first | exact vZ hz | exact Ah hz hb1_)) ?_
 refine ab (bd hT rfl rfl rfl (es := [_, _]) rfl rfl rfl)<|ab (ah (vI _ [z.natAbs % 4294967296, z.natAbs / 2 ^ 32] (nJ (by omega)))) ?_
 refine aG hT rfl<|ag<|am<|E2 hT rfl rfl rfl rfl rfl rfl rfl ?_
 exact Sub.I (by rw [pJ]; exact uu)
theorem Ex (m n : Nat) :
  aF Tryz.prog 119 [.p (.c (nt m)), .p (.c (nt n))] (Z (bu m n)) := by
 refine aK Tryz.func119 rfl rfl rfl rfl ?_
 refine gI (t := 0) rfl rfl (fun hlen => ?_)
 refine gI (t := 1) rfl rfl (fun hlen2 => ?_)
 refine ae hP<|aj rfl<|ag<|an<|ae hP<|ak rfl<|ab (aU hT rfl rfl rfl rfl)<|ak rfl<|ab (aU hT rfl rfl rfl rfl)<|ab (bl rfl rfl)<|ag ?_
 refine az rfl (fun hb1 => ?_) (fun hb1 => ?_)
 ·have hb1_ := cn hb1
  refine an<|ae hP<|ak rfl<|ab (aU hT rfl rfl rfl rfl)<|ak rfl<|ab (aU hT rfl rfl rfl rfl)<|ab (a7 rfl rfl)<|ag ?_
  refine az rfl (fun hb2 => ?_) (fun hb2 => ?_)
  ·have hb2_ := dT0 hb2
   refine ae hP<|aj rfl<|ag<|am<|E1 rfl rfl ?_
   exact aO (uW hb1_ hb2_)
  have hb2_ := dF0 hb2
  refine aq<|ae hP<|aj rfl<|ag<|am<|E1 rfl rfl ?_
  exact aO (uX hb1_ hb2_)
 have hb1_ := bY hb1
 refine aq<|an<|ae hP<|ak rfl<|ab (aU hT rfl rfl rfl rfl)<|ab (bI rfl rfl (by first | exact iW0 _ (by omega) | rfl)) ?_
 refine aj rfl<|ag<|aA ?_
 have hll : (wl m).length = (wl n).length := by omega
 refine bq (ι := Nat) (fun k => stL [(0, .p (.c (nt m))), (1, .p (.c (nt n))), (5, Z ((k : Int) - 1))] []) (fun k => k ≤ (wl m).length ∧ (wl m).drop k = (wl n).drop k) (fun k => k) (wl m).length ⟨Nat.le_refl _, by rw [List.drop_length, hll, List.drop_length]⟩ (aE ⟨.refl _, .refl _, .refl _, trivial⟩ trivial) ?_
 rintro k ⟨hk, he⟩
 refine an<|ae hP<|ak rfl<|ab (dB rfl rfl)<|ag ?_
 refine az rfl (fun hb3 => ?_) (fun hb3 => ?_)
 ·have hb3_ := dT0 hb3
  refine aq<|an<|aA<|an<|ae hP<|ak rfl<|ak rfl<|ab (bW hT rfl rfl rfl rfl rfl rfl (l := (wl m).length) (xs := (wl m).map w32) (by omega) (gH (by omega))) ?_
  refine cr hT rfl rfl rfl ?_
  refine ak rfl<|ak rfl<|ab (bW hT rfl rfl rfl rfl rfl rfl (l := (wl n).length) (xs := (wl n).map w32) (by omega) (gH (by omega))) ?_
  refine cr hT rfl rfl rfl ?_
  refine ab (a7 rfl rfl)<|ag ?_
  refine az rfl (fun hb4 => ?_) (fun hb4 => ?_)
  ·have hb4_ := dT0 hb4
   refine ae hP<|aj rfl<|ag<|am<|E1 rfl rfl ?_
   have hkk : ((k : Int) - 1).toNat = k - 1 := by omega
   rw [hkk] at hb4_
   have h2 := o3 hll (k := k - 1) (by omega) (by rw [show k - 1 + 1 = k by omega]; exact he) (by rw [fg hb4_]; decide)
   exact aO (by rw [← h2, fg hb4_])
  have hb4_ := dF0 hb4
  refine aq<|ae hP<|ak rfl<|ak rfl<|ab (bW hT rfl rfl rfl rfl rfl rfl (l := (wl m).length) (xs := (wl m).map w32) (by omega) (gH (by omega))) ?_
  refine cr hT rfl rfl rfl ?_
  refine ak rfl<|ak rfl<|ab (bW hT rfl rfl rfl rfl rfl rfl (l := (wl n).length) (xs := (wl n).map w32) (by omega) (gH (by omega))) ?_
  refine cr hT rfl rfl rfl ?_
  refine ab (bU rfl rfl)<|ag ?_
  refine az rfl (fun hb5 => ?_) (fun hb5 => ?_)
  ·have hb5_ := dT0 hb5
   refine ae hP<|aj rfl<|ag<|am<|E1 rfl rfl ?_
   have hkk : ((k : Int) - 1).toNat = k - 1 := by omega
   rw [hkk] at hb5_
   have h2 := o3 hll (k := k - 1) (by omega) (by rw [show k - 1 + 1 = k by omega]; exact he) (by rw [fh hb5_]; decide)
   exact aO (by rw [← h2, fh hb5_])
  have hb5_ := dF0 hb5
  refine aq<|av hP<|ak rfl<|ab (bI rfl rfl (by first | exact iW0 _ (by omega) | rfl)) ?_
  refine aj rfl<|ag ?_
  have hkk : ((k : Int) - 1).toNat = k - 1 := by omega
  rw [hkk] at hb4_ hb5_
  refine ⟨k - 1, ⟨by omega, ?_⟩, by omega, aE ⟨.refl _, .refl _, aO (by omega), trivial⟩ trivial⟩
  have e1 := dK (ws := wl m) (k := k - 1) (by omega)
  have e2 := dK (ws := wl n) (k := k - 1) (by omega)
  rw [e1, e2, show k - 1 + 1 = k by omega, he]
  congr 1
  omega
 have hb3_ := dF0 hb3
 refine a6<|ae hP<|aj rfl<|ag<|am<|E1 rfl rfl ?_
 have h0 : k = 0 := by omega
 subst h0
 have : m = n := by rw [← bJ m, ← bJ n]; exact congrArg wv he
 exact aO (by rw [this, fP])
theorem eE (x y : Int) :
  aF Tryz.prog 48 [I x, I y] (B (decide (x = y))) := by
 refine aK Tryz.func48 rfl rfl rfl rfl ?_
 refine ae hP<|ao ai (aN rfl rfl)<|ao ai (aN rfl rfl)<|aj rfl<|ag<|ae hP<|aJ hT rfl<|bj hT rfl rfl rfl rfl ?_
 refine aJ hT rfl<|bj hT rfl rfl rfl rfl ?_
 refine ab (vY hT rfl rfl rfl rfl)<|ak rfl ?_
 refine aZ (t := 10) rfl (fun hg1 => ?_) (fun hg1 => ?_)
 ·refine aC hg1 (aR hT rfl rfl rfl rfl rfl rfl) ?_
  refine aC hg1 (bV hT rfl rfl rfl rfl (by first | rfl | exact eT (by omega))) ?_
  refine aC hg1 (aR hT rfl rfl rfl rfl rfl rfl) ?_
  refine aC hg1 (bV hT rfl rfl rfl rfl (by first | rfl | exact eT (by omega))) ?_
  refine aC hg1 (ah (Ex x.natAbs y.natAbs)) ?_
  refine aC hg1 (bo rfl rfl) ?_
  refine ab (aM rfl hg1 (rfl : _ = AV.p (.c _)))<|aj rfl<|ag<|am<|E1 rfl rfl ?_
  exact aY (BH hg1)
 iterate 6 refine aW hg1 ?_
 refine ab (aL rfl hg1 (rfl : _ = AV.p (.c _)))<|aj rfl<|ag<|am<|E1 rfl rfl ?_
 exact aY (BG hg1)
end
section
open Go Go.AM
end
section
open Go Go.AM
end
section
open Go Go.AM
end
section
open Go Go.AM
end
section
open Go Go.AM
theorem pz (a b c : Int) (ha : bn a) (hb : bn b) (hc : bn c) :
  aF Tryz.prog 79 [Z a, Z b, Z c] (FA a b c) := by
 refine aK Tryz.func79 rfl rfl rfl rfl ?_
 refine ae hP<|ao ai (aB hT rfl rfl)<|ag<|ae hP<|ak rfl<|ab (ah (fX _ (by first | assumption | decide))) ?_
 refine ak rfl<|ab (ah (fX _ (by first | assumption | decide))) ?_
 refine ak rfl<|ab (ah (fX _ (by first | assumption | decide))) ?_
 refine ab (aV hT rfl rfl rfl (es := [_, _, _, _, _, _]) rfl)<|aG hT rfl<|ag<|am ?_
 refine b8 rfl (.inr rfl) (aT hT rfl rfl rfl rfl (cs := [_, _, _, _, _, _]) rfl rfl) ?_ br
 exact .refl _
theorem yc (a b c p q r : Int) :
  aF Tryz.prog 43 [FA a b c, FA p q r] (B (decide (a = p ∧ b = q ∧ c = r))) := by
 refine aK Tryz.func43 rfl rfl rfl rfl ?_
 refine ae hP<|ao ai (aN rfl rfl)<|ao ai (aN rfl rfl)<|aj rfl<|ag<|ae hP<|aJ hT rfl<|au hT rfl<|aJ hT rfl<|au hT rfl<|ab (ah (eE _ _)) ?_
 refine ak rfl ?_
 refine aZ (t := 10) rfl (fun hg1 => ?_) (fun hg1 => ?_)
 ·refine aC hg1 (aR hT rfl rfl rfl rfl rfl rfl) ?_
  refine aC hg1 (aI hT rfl rfl rfl rfl (cs := [_, _]) rfl rfl) ?_
  refine aC hg1 (aR hT rfl rfl rfl rfl rfl rfl) ?_
  refine aC hg1 (aI hT rfl rfl rfl rfl (cs := [_, _]) rfl rfl) ?_
  refine aC hg1 (ah (eE _ _)) ?_
  refine ab (aM rfl hg1 (rfl : _ = AV.p (.c _)))<|ak rfl ?_
  refine aZ (t := 17) rfl (fun hg2 => ?_) (fun hg2 => ?_)
  ·refine aC hg2 (aR hT rfl rfl rfl rfl rfl rfl) ?_
   refine aC hg2 (aI hT rfl rfl rfl rfl (cs := [_, _]) rfl rfl) ?_
   refine aC hg2 (aR hT rfl rfl rfl rfl rfl rfl) ?_
   refine aC hg2 (aI hT rfl rfl rfl rfl (cs := [_, _]) rfl rfl) ?_
   refine aC hg2 (ah (eE _ _)) ?_
   refine ab (aM rfl hg2 (rfl : _ = AV.p (.c _)))<|aj rfl<|ag<|am<|E1 rfl rfl ?_
   exact aY (uQ hg1 (uQ hg2 rfl))
  iterate 5 refine aW hg2 ?_
  refine ab (aL rfl hg2 (rfl : _ = AV.p (.c _)))<|aj rfl<|ag<|am<|E1 rfl rfl ?_
  exact aY (uQ hg1 (Ap hg2))
 iterate 5 refine aW hg1 ?_
 refine ab (aL rfl hg1 (rfl : _ = AV.p (.c _)))<|ak rfl<|aW rfl ?_
 iterate 4 refine aW rfl ?_
 refine ab (aL rfl rfl (rfl : _ = AV.p (.c _)))<|aj rfl<|ag<|am<|E1 rfl rfl ?_
 exact aY (Ap hg1)
end
section
open Go Go.AM
theorem rE (N : Int) (h1 : 0 ≤ N) (h2 : N ≤ 4194304) :
  Iter Tryz.prog 176 [[.v (.int .i64 N)]] (trI N) := by
 refine tz Tryz.func176 (by kernel_rfl) rfl rfl (bL0 rfl) rfl ?_
 intro l n0 J hK
 refine dl ?_
 refine cT hP ?_
 refine aj rfl<|ag<|gK ?_
 refine og (ι := Int × Nat) (fun p => stL [(0, .p (.c (.v (.func (.yield l) #[] #[])))), (1, .ip [.v (.int .i64 N)]), (3, Z p.1)] []) (fun p => p.2) (fun p => (trs N).drop p.2 = dP N (2001 - p.1).toNat p.1 ∧ 1 ≤ p.1 ∧ p.1 ≤ 1184 ∧ p.2 ≤ (trs N).length) (fun p => (2000 - p.1).toNat) (1, 0) ⟨xS N, by decide, by decide, by simp⟩ rfl (aE ⟨.refl _, .refl _, .refl _, trivial⟩ trivial) ?_
 rintro p ⟨hI, ha1, ha2, hpk⟩
 have hsq := Ik ⟨ha1, ha2⟩
 refine dl ?_
 refine dl ?_
 refine cT hP ?_
 refine ak rfl<|ab (bK rfl rfl (by first | exact iW0 _ (by omega) | rfl)) ?_
 refine ak rfl<|ab (bK rfl rfl (by first | exact iW0 _ (by omega) | rfl)) ?_
 refine cr hT rfl rfl rfl ?_
 refine ab (jh rfl rfl)<|ag ?_
 refine iT rfl (fun hb1 => ?_) (fun hb1 => ?_)
 ·have hb1_ := dT0 hb1
  have ha3 := Az ha1 hb1_ h2
  refine fS ?_
  refine dl ?_
  refine gK ?_
  refine dl ?_
  refine cT hP ?_
  refine ak rfl<|ab (bI rfl rfl (by first | exact iW0 _ (by omega) | rfl)) ?_
  refine aj rfl<|ag<|gK ?_
  refine og (ι := Int × Nat) (fun q => stL [(0, .p (.c (.v (.func (.yield l) #[] #[])))), (1, .ip [.v (.int .i64 N)]), (3, Z p.1), (4, Z q.1)] []) (fun q => q.2) (fun q => (trs N).drop q.2 = dY N p.1 (p.1 + 1 - q.1).toNat q.1 ++ dP N (2000 - p.1).toNat (p.1 + 1) ∧ 1 - p.1 ≤ q.1 ∧ q.1 ≤ p.1 + 1 ∧ q.2 ≤ (trs N).length) (fun q => (p.1 + 1 - q.1).toNat) (1 - p.1, p.2) ⟨GD hI ⟨ha1, ha2⟩ hb1_, by simp only; omega, by simp only; omega, hpk⟩ rfl (aE ⟨.refl _, .refl _, .refl _, .refl _, trivial⟩ trivial) ?_
  rintro q ⟨hJ, hq1, hq2, hqk⟩
  refine dl ?_
  refine dl ?_
  refine cT hP ?_
  refine ak rfl<|ak rfl<|ab (jh rfl rfl)<|ag ?_
  refine iT rfl (fun hb2 => ?_) (fun hb2 => ?_)
  ·have hb2_ := dT0 hb2
   have qs := kK (x := q.1) (m := 1184) (by omega)
   have qc := Jg (x := q.1 * q.1 + N) (y := 4 * p.1) (by omega) (by omega)
   refine fS ?_
   refine dl ?_
   refine gK ?_
   refine dl ?_
   refine cT hP ?_
   refine ak rfl<|ak rfl<|ab (bK rfl rfl (by first | exact iW0 _ (by omega) | rfl)) ?_
   refine cr hT rfl rfl rfl ?_
   refine bA rfl rfl ?_
   refine ak rfl<|ab (bK rfl rfl (by first | exact iW0 _ (by omega) | rfl)) ?_
   refine ab (eh rfl rfl (by omega) (c := ((q.1 * q.1 + N) / (4 * p.1))) (by rw [Int.tdiv_eq_ediv_of_nonneg (by omega), iW0 _ (by omega)])) ?_
   refine aj rfl<|ag<|dl ?_
   refine dl ?_
   refine cT hP ?_
   refine ak rfl<|ak rfl<|ab (bK rfl rfl (by first | exact iW0 _ (by omega) | rfl)) ?_
   refine cr hT rfl rfl rfl ?_
   refine bA rfl rfl ?_
   refine ak rfl<|ab (bK rfl rfl (by first | exact iW0 _ (by omega) | rfl)) ?_
   refine ab (cQ rfl rfl (by omega) (c := ((q.1 * q.1 + N) % (4 * p.1))) (Int.tmod_eq_emod_of_nonneg (by omega))) ?_
   refine ab (bl rfl rfl)<|ak rfl ?_
   refine aZ (t := 38) rfl (fun hg3 => ?_) (fun hg3 => ?_)
   ·have hg3_ := cn hg3
    iterate 3 refine aW hg3 ?_
    refine ab (aM rfl hg3 (rfl : _ = AV.p (.c _)))<|ak rfl<|aW rfl ?_
    refine aW rfl ?_
    refine aW rfl ?_
    iterate 3 refine eR ?_
    refine aW rfl ?_
    refine ab (aM rfl rfl (rfl : _ = AV.p (.c _)))<|ag<|ly rfl rfl ?_
    refine iS ?_
    refine cT hP ?_
    refine ak rfl<|bA rfl rfl ?_
    refine aj rfl<|ag ?_
    refine ⟨(q.1 + 1, q.2), ⟨tT hJ hb2_ (HB hg3_), by simp only; omega, by simp only; omega, hqk⟩, by simp only; omega, rfl, aE ⟨.refl _, .refl _, .refl _, .refl _, trivial⟩ trivial⟩
   have hg3_ := bY hg3
   have hz : ((q.1 * q.1 + N) % (4 * p.1)) = 0 := hg3_
   refine aC hg3 (aw (rfl : _ = AV.p (.c _))) ?_
   refine aC hg3 (aw (rfl : _ = AV.p (.c _))) ?_
   refine aC hg3 (a7 rfl rfl) ?_
   refine ab (aL rfl hg3 (rfl : _ = AV.p (.c _)))<|ak rfl ?_
   refine aZ (t := 43) rfl (fun hg4 => ?_) (fun hg4 => ?_)
   ·have hg4_ := dT0 hg4
    iterate 3 refine aW hg4 ?_
    iterate 3 refine eR ?_
    refine aW hg4 ?_
    refine ab (aM rfl hg4 (rfl : _ = AV.p (.c _)))<|ag<|ly rfl rfl ?_
    refine iS ?_
    refine cT hP ?_
    refine ak rfl<|bA rfl rfl ?_
    refine aj rfl<|ag ?_
    refine ⟨(q.1 + 1, q.2), ⟨tT hJ hb2_ (HA hz hg4_), by simp only; omega, by simp only; omega, hqk⟩, by simp only; omega, rfl, aE ⟨.refl _, .refl _, .refl _, .refl _, trivial⟩ trivial⟩
   have hg4_ := dF0 hg4
   refine aC hg4 (aw (rfl : _ = AV.p (.c _))) ?_
   refine aC hg4 (a7 rfl rfl) ?_
   refine aC hg4 (aw (rfl : _ = AV.p (.c _))) ?_
   refine aZ (t := 46) rfl (fun hg5 => ?_) (fun hg5 => ?_)
   ·have hg5_ := dT0 hg5
    refine aC hg5 (aw (rfl : _ = AV.p (.c _))) ?_
    refine aC hg5 (aw (rfl : _ = AV.p (.c _))) ?_
    refine aC hg5 (bo rfl rfl) ?_
    refine aC hg4 (aM rfl hg5 (rfl : _ = AV.p (.c _))) ?_
    refine ab (aL rfl hg4 (rfl : _ = AV.p (.c _)))<|ag ?_
    refine iT rfl (fun hb6 => ?_) (fun hb6 => ?_)
    ·have hb6_ := bT hb6
     refine iS ?_
     refine cT hP ?_
     refine ak rfl<|bA rfl rfl ?_
     refine aj rfl<|ag ?_
     refine ⟨(q.1 + 1, q.2), ⟨tT hJ hb2_ (Hz hz hg4_ hg5_ hb6_), by simp only; omega, by simp only; omega, hqk⟩, by simp only; omega, rfl, aE ⟨.refl _, .refl _, .refl _, .refl _, trivial⟩ trivial⟩
    have hb6_ := bF hb6
    have hy := vo hJ hb2_ (Hy hz hg4_ hb6_)
    refine fS ?_
    refine dl ?_
    refine kx ?_
    iterate 4 refine RJ.val ai (aw (rfl : _ = AV.p (.c _))) ?_
    refine RJ.val ai (aV hT rfl rfl rfl (es := [_, _, _]) rfl) ?_
    refine RJ.yield hK ai rfl rfl (vp hy) ?_
    refine RJ.val ai (bt rfl) ?_
    refine RJ.done ?_
    refine fD rfl rfl ?_
    refine fS ?_
    refine cT hP ?_
    refine ak rfl<|bA rfl rfl ?_
    refine aj rfl<|ag ?_
    refine ⟨(q.1 + 1, q.2 + 1), ⟨sL hy, by simp only; omega, by simp only; omega, z6 hy⟩, by simp only; omega, rfl, aE ⟨.refl _, .refl _, .refl _, .refl _, trivial⟩ trivial⟩
   have hg5_ := dF0 hg5
   have hy := vo hJ hb2_ (Hx hz hg4_ hg5_)
   iterate 3 refine aW hg5 ?_
   refine aC hg4 (aL rfl hg5 (rfl : _ = AV.p (.c _))) ?_
   refine ab (aL rfl hg4 (rfl : _ = AV.p (.c _)))<|ag<|fD rfl rfl ?_
   refine fS ?_
   refine dl ?_
   refine kx ?_
   iterate 4 refine RJ.val ai (aw (rfl : _ = AV.p (.c _))) ?_
   refine RJ.val ai (aV hT rfl rfl rfl (es := [_, _, _]) rfl) ?_
   refine RJ.yield hK ai rfl rfl (vp hy) ?_
   refine RJ.val ai (bt rfl) ?_
   refine RJ.done ?_
   refine fD rfl rfl ?_
   refine fS ?_
   refine cT hP ?_
   refine ak rfl<|bA rfl rfl ?_
   refine aj rfl<|ag ?_
   refine ⟨(q.1 + 1, q.2 + 1), ⟨sL hy, by simp only; omega, by simp only; omega, z6 hy⟩, by simp only; omega, rfl, aE ⟨.refl _, .refl _, .refl _, .refl _, trivial⟩ trivial⟩
  have hb2_ := dF0 hb2
  refine iS ?_
  refine cT hP ?_
  refine ak rfl<|bA rfl rfl ?_
  refine aj rfl<|ag ?_
  refine ⟨(p.1 + 1, q.2), ⟨D3 hJ hb2_, by simp only; omega, by simp only; omega, hqk⟩, by simp only; omega, rfl, aE ⟨.refl _, .refl _, .refl _, trivial⟩ trivial⟩
 have hb1_ := dF0 hb1
 refine iS ?_
 refine ⟨.inl rfl, ?_⟩
 exact D4 hI hb1_ hpk
end
section
open Go Go.AM
theorem js (z : Int) (hz : bn z) :
  aF Tryz.prog 175 [Z z] (I z) := by
 refine aK Tryz.func175 rfl rfl rfl rfl ?_
 refine ae hP<|ao ai (aB hT rfl rfl)<|ag<|ae hP<|ak rfl<|ab (ah (dC _ (by first | assumption | decide))) ?_
 refine aG hT rfl<|ag<|am<|E2 hT rfl rfl rfl rfl rfl rfl rfl ?_
 exact .refl _
theorem EX (z : Int) (hz : bn z) :
  aF Tryz.prog 247 [Z z] (I z) := by
 refine aK Tryz.func247 rfl rfl rfl rfl ?_
 refine ae hP<|ao ai (aB hT rfl rfl)<|ag<|ae hP<|ak rfl<|ab (ah (dC _ (by first | assumption | decide))) ?_
 refine aG hT rfl<|ag<|am<|E2 hT rfl rfl rfl rfl rfl rfl rfl ?_
 exact .refl _
theorem F7 (a b c : Int) (ha : bn a) (hb : bn b) (hc : bn c) :
  aF Tryz.prog 124 [.p (.a [.v (.int .i64 a), .v (.int .i64 b), .v (.int .i64 c)])] (FA a b c) := by
 refine aK Tryz.func124 rfl rfl rfl rfl ?_
 refine ae hP<|ao ai (aN rfl rfl)<|ao ai (aB hT rfl rfl)<|ag<|ae hP<|aJ hT rfl<|bj hT rfl rfl rfl rfl ?_
 refine ab (ah (js _ (by first | assumption | decide))) ?_
 refine aJ hT rfl<|bj hT rfl rfl rfl rfl ?_
 refine ab (ah (js _ (by first | assumption | decide))) ?_
 refine aJ hT rfl<|bj hT rfl rfl rfl rfl ?_
 refine ab (ah (js _ (by first | assumption | decide))) ?_
 refine ab (aV hT rfl rfl rfl (es := [_, _, _, _, _, _]) rfl)<|aG hT rfl<|ag<|am ?_
 refine b8 rfl (.inr rfl) (aT hT rfl rfl rfl rfl (cs := [_, _, _, _, _, _]) rfl rfl) ?_ br
 exact .refl _
theorem Aj (x : Int) :
  aF Tryz.prog 218 [I x] (B (decide (x = 1))) := by
 refine aK Tryz.func218 rfl rfl rfl rfl ?_
 refine ae hP<|ao ai (aN rfl rfl)<|aj rfl<|ag<|ae hP<|au hT rfl<|ab (ah (EX _ (by first | assumption | decide))) ?_
 refine ab (ah (c7 _ _)) ?_
 refine ab (bo rfl rfl)<|aj rfl<|ag<|am<|E1 rfl rfl ?_
 exact aY (by rw [Bool.eq_iff_iff]; simp [cmpI_eq_zero])
theorem uE (x : Int) :
  aF Tryz.prog 219 [I x] (B (cX x)) := by
 refine aK Tryz.func219 rfl rfl rfl rfl ?_
 refine ae hP<|ao ai (aN rfl rfl)<|aj rfl<|ag<|ae hP<|aJ hT rfl<|bj hT rfl rfl rfl rfl ?_
 refine ab (aU hT rfl rfl rfl rfl)<|ab (bU rfl rfl)<|ak rfl ?_
 refine aZ (t := 7) rfl (fun hg1 => ?_) (fun hg1 => ?_)
 ·have hg1_ := dT0 hg1
  refine aC hg1 (aR hT rfl rfl rfl rfl rfl rfl) ?_
  refine aC hg1 (bV hT rfl rfl rfl rfl (by first | rfl | exact eT (by omega))) ?_
  refine aC hg1 (by first | exact fv hT rfl rfl rfl rfl rfl rfl (by omega) | exact bW hT rfl rfl rfl rfl rfl rfl (by omega) (by first | exact gH (by omega) | simp)) ?_
  refine aC hg1 (cf hT rfl rfl rfl (by first | rfl | exact mc (by omega))) ?_
  refine aC hg1 (nI (m := (wl x.natAbs).getD 0 0) (n := 1) rfl rfl rfl (ie ((bS x.natAbs).getD 0)) (by decide)) ?_
  refine aC hg1 (bo rfl rfl) ?_
  refine ab (aM rfl hg1 (rfl : _ = AV.p (.c _)))<|aj rfl<|ag<|am<|E1 rfl rfl ?_
  exact aY (Cb hg1_)
 have hg1_ := dF0 hg1
 iterate 6 refine aW hg1 ?_
 refine ab (aL rfl hg1 (rfl : _ = AV.p (.c _)))<|aj rfl<|ag<|am<|E1 rfl rfl ?_
 exact aY (EP hg1_)
theorem mX (x y : Int) (hx : L 44 x) (hy : L 44 y) (h0 : y ≠ 0) :
  aF Tryz.prog 213 [I x, I y] (I (x % y)) := by
 have ix : LB x 44 := ⟨hx⟩
 have iy : LB y 44 := ⟨hy⟩
 refine aK Tryz.func213 rfl rfl rfl rfl ?_
 refine ae hP<|ao ai (aN rfl rfl)<|ao ai (aN rfl rfl)<|ao ai (aB hT rfl rfl)<|ag<|ae hP<|au hT rfl<|au hT rfl<|ab (ah (da _ _ lz lz h0)) ?_
 refine ab (aw (rfl : _ = AV.t _))<|ab (ay rfl (v := .a _) rfl)<|ab (ay rfl (v := .a _) rfl)<|ab (ay rfl (v := .c _) rfl)<|ao ai (aB hT rfl rfl)<|ao ai (aB hT rfl rfl)<|aG hT rfl<|aG hT rfl<|aj rfl<|ag<|ae hP<|au hT rfl<|aG hT rfl<|ag<|am<|E2 hT rfl rfl rfl rfl rfl rfl rfl ?_
 exact .refl _
theorem HE (x y : Int) (hx : L 44 x) (hy : L 44 y) (h0 : y ≠ 0) :
  aF Tryz.prog 248 [I x, I y] (I (x / y)) := by
 have ix : LB x 44 := ⟨hx⟩
 have iy : LB y 44 := ⟨hy⟩
 refine aK Tryz.func248 rfl rfl rfl rfl ?_
 refine ae hP<|ao ai (aN rfl rfl)<|ao ai (aN rfl rfl)<|ao ai (aB hT rfl rfl)<|ag<|ae hP<|au hT rfl<|au hT rfl<|ab (ah (da _ _ lz lz h0)) ?_
 refine ab (aw (rfl : _ = AV.t _))<|ab (ay rfl (v := .a _) rfl)<|ab (ay rfl (v := .a _) rfl)<|ab (ay rfl (v := .c _) rfl)<|ao ai (aB hT rfl rfl)<|ao ai (aB hT rfl rfl)<|aG hT rfl<|aG hT rfl<|aj rfl<|ag<|ae hP<|au hT rfl<|aG hT rfl<|ag<|am<|E2 hT rfl rfl rfl rfl rfl rfl rfl ?_
 exact .refl _
theorem pD (x m : Int) (hm : m = 4 ∨ m = 8) :
  aF Tryz.prog 221 [I x, .p (.c (.v (.int .u32 m)))] (.p (.c (.v (.int .u32 (x % m))))) := by
 have hm0 : 0 < m ∧ m < 10 := by omega
 have hb := Int.emod_nonneg (x.natAbs : Int) (show m ≠ 0 by omega)
 have hb2 := Int.emod_lt_of_pos (x.natAbs : Int) hm0.1
 refine aK Tryz.func221 rfl rfl rfl rfl ?_
 refine ae hP<|ao ai (aN rfl rfl)<|aj rfl<|ag<|an<|ae hP<|aJ hT rfl<|bj hT rfl rfl rfl rfl ?_
 refine ab (aU hT rfl rfl rfl rfl)<|ab (bo rfl rfl)<|ag ?_
 refine az rfl (fun hb1 => ?_) (fun hb1 => ?_)
 ·have hb1_ := bT hb1
  refine ae hP<|aj rfl<|ag<|am<|E1 rfl rfl ?_
  exact aD (by rw [yC hb1_])
 have hb1_ := bF hb1
 refine aq<|ae hP<|aJ hT rfl<|bj hT rfl rfl rfl rfl ?_
 refine cW ?_
 refine cr hT rfl rfl rfl ?_
 refine ak rfl<|ab (cQ rfl rfl (by omega) (c := (x.natAbs : Int) % m) (by rw [Int.tmod_eq_emod_of_nonneg (by omega)]; exact Cr hm hb1_)) ?_
 refine aj rfl<|ag<|an<|ae hP<|aJ hT rfl<|bj hT rfl rfl rfl rfl ?_
 refine ak rfl ?_
 refine aZ (t := 18) rfl (fun hg2 => ?_) (fun hg2 => ?_)
 ·refine aC hg2 (aw (rfl : _ = AV.p (.c _))) ?_
  refine aC hg2 (bU rfl rfl) ?_
  refine ab (aM rfl hg2 (rfl : _ = AV.p (.c _)))<|ag ?_
  refine az rfl (fun hb3 => ?_) (fun hb3 => ?_)
  ·have hb3_ := dT0 hb3
   refine av hP<|ak rfl<|ak rfl<|ab (bI rfl rfl (by first | exact IntWalk.u32_in _ (by omega) | rfl)) ?_
   refine aj rfl<|ag<|ae hP<|ak rfl<|aj rfl<|ag<|am<|E1 rfl rfl ?_
   exact aD (by rw [Cq hm (dT0 hg2) hb3_])
  have hb3_ := dF0 hb3
  refine aq<|ae hP<|ak rfl<|aj rfl<|ag<|am<|E1 rfl rfl ?_
  exact aD (by rw [yD hm (dT0 hg2) hb3_])
 refine aW hg2 ?_
 refine aW hg2 ?_
 refine ab (aL rfl hg2 (rfl : _ = AV.p (.c _)))<|ag<|aP rfl rfl<|aq<|ae hP<|ak rfl<|aj rfl<|ag<|am<|E1 rfl rfl ?_
 exact aD (by rw [Cp (dF0 hg2)])
end
section
open Go Go.AM
theorem wc (x : Int) (hx : L 40 x) (h0 : x ≠ 0) :
  aF Tryz.prog 220 [I x] (.t [PI (tw x).1, PE (tw x).2]) := by
 refine aK Tryz.func220 rfl rfl rfl rfl ?_
 refine ae hP<|ao ai (aN rfl rfl)<|ao ai (aB hT rfl rfl)<|aj rfl<|ag<|ae hP<|aj rfl<|ag<|an<|aA<|bq (ι := Int × Int) (fun p => stL [(1, .loc 1 0), (2, .loc 2 0), (4, Z p.2)] [(1, ⟨false, 1, 29, [zn (p.1), zm (p.1)]⟩), (2, ⟨false, 1, 29, [zn (0), zm (0)]⟩)]) (fun p => TwI x p.1 p.2) (fun p => p.1.natAbs) (x, 0) (TwI.start hx h0) (aE ⟨.refl _, .refl _, .refl _, trivial⟩ ⟨rfl, rfl, trivial⟩) ?_
 rintro p hI
 have hlt := hI.lt hx
 have hk0 := hI.k0
 have ib : LB p.1 40 := ⟨hI.lb⟩
 refine an<|ae hP<|au hT rfl<|ab (ah (uE _)) ?_
 refine ab (bt rfl)<|ag ?_
 refine az rfl (fun hb1 => ?_) (fun hb1 => ?_)
 ·have hb1_ := (cz hb1)
  refine aq<|aA<|ae hP<|au hT rfl<|ab (ah (EX _ (by first | assumption | decide))) ?_
  refine ab (ah (HE _ _ lz lz (by first | assumption | decide))) ?_
  refine aG hT rfl<|ag<|av hP<|ak rfl<|bA rfl rfl ?_
  refine aj rfl<|ag ?_
  refine ⟨(p.1 / 2, p.2 + 1), (hI.next (by simpa using hb1)).1, (hI.next (by simpa using hb1)).2, aE ⟨.refl _, .refl _, .refl _, trivial⟩ ⟨rfl, rfl, trivial⟩⟩
 have hb1_ := (cp hb1)
 refine a6<|ae hP<|au hT rfl<|ak rfl<|aG hT rfl<|aj rfl<|ag<|am ?_
 refine b9 rfl (.inr rfl) (aT hT rfl rfl rfl rfl (cs := [_, _]) rfl rfl) (bM rfl) ?_ br
 exact aD (by rw [Bn (by simpa using hb1) hI.tw])
theorem gP (a m : Int) (ha : L 40 a) (hm : L 40 m) :
  aF Tryz.prog 184 [I a, I m] (Z (kr a m)) := by
 have ia : LB a 40 := ⟨ha⟩
 have im : LB m 40 := ⟨hm⟩
 have hkb := uI a m
 have hsg := qZ (x := a) hkb
 have hsg0 := Int.emod_nonneg a (show (8 : Int) ≠ 0 by omega)
 have hsg1 := Int.emod_lt_of_pos a (show (0 : Int) < 8 by omega)
 refine aK Tryz.func184 rfl rfl rfl rfl ?_
 refine ae hP<|ao ai (aN rfl rfl)<|ao ai (aN rfl rfl)<|aj rfl<|ag<|an<|ae hP<|au hT rfl<|ab (ah (cE _)) ?_
 refine ab (bo rfl rfl)<|ag ?_
 refine az rfl (fun hb1 => ?_) (fun hb1 => ?_)
 ·have hb1_ := bT hb1
  refine an<|ae hP<|au hT rfl<|ab (ah (lN _)) ?_
  refine ab (ah (Aj _)) ?_
  refine ag ?_
  refine az rfl (fun hb2 => ?_) (fun hb2 => ?_)
  ·refine ae hP<|aj rfl<|ag<|am<|E1 rfl rfl ?_
   exact aO (IZ (sgn_zero_iff.1 hb1_) (dT0 hb2))
  refine aq<|ae hP<|aj rfl<|ag<|am<|E1 rfl rfl ?_
  exact aO (HL (sgn_zero_iff.1 hb1_) (dF0 hb2))
 have hb1_ := bF hb1
 refine aq<|cy (ι := Unit) (fun _ => stL [(2, .loc 2 0), (3, .loc 3 0)] [(2, ⟨false, 1, 29, [zn (a), zm (a)]⟩), (3, ⟨false, 1, 29, [zn (m), zm (m)]⟩)]) (fun _ => ¬ (cX a = false ∧ cX m = false)) ?_ ?_
 ·refine ae hP<|au hT rfl<|ab (ah (uE _)) ?_
  refine ab (bt rfl)<|ak rfl ?_
  refine aZ (t := 16) rfl (fun hg3 => ?_) (fun hg3 => ?_)
  ·have hg3_ := (cz hg3)
   refine aC hg3 (aI hT rfl rfl rfl rfl (cs := [_, _]) rfl rfl) ?_
   refine aC hg3 (ah (uE _)) ?_
   refine aC hg3 (bt rfl) ?_
   refine ab (aM rfl hg3 (rfl : _ = AV.p (.c _)))<|ag ?_
   refine az rfl (fun hb4 => ?_) (fun hb4 => ?_)
   ·have hb4_ := (cz hb4)
    refine ae hP<|aj rfl<|ag<|am<|E1 rfl rfl ?_
    exact aO (Cu (fun e => hb1_ (sgn_zero_iff.2 e)) hg3_ hb4_)
   have hb4_ := (cp hb4)
   refine aq ?_
   refine ⟨(), fun x => (by rw [x.2] at hb4_; cases hb4_), aE ⟨.refl _, .refl _, trivial⟩ ⟨rfl, rfl, trivial⟩⟩
  have hg3_ := (cp hg3)
  iterate 3 refine aW hg3 ?_
  refine ab (aL rfl hg3 (rfl : _ = AV.p (.c _)))<|ag<|aP rfl rfl<|aq ?_
  refine ⟨(), fun x => (by rw [x.1] at hg3_; cases hg3_), aE ⟨.refl _, .refl _, trivial⟩ ⟨rfl, rfl, trivial⟩⟩
 intro _ hpar
 refine ae hP<|aj rfl<|ag<|cy (ι := Unit) (fun _ => stL [(2, .loc 2 0), (3, .loc 3 0), (5, Z (k0K a m))] [(2, ⟨false, 1, 29, [zn (a), zm (a)]⟩), (3, ⟨false, 1, 29, [zn ((m.natAbs : Int)), zm ((m.natAbs : Int))]⟩)]) (fun _ => True) ?_ ?_
 ·refine ae hP<|aJ hT rfl<|bj hT rfl rfl rfl rfl ?_
  refine ag ?_
  refine az rfl (fun hb5 => ?_) (fun hb5 => ?_)
  ·refine an<|ae hP<|aJ hT rfl<|bj hT rfl rfl rfl rfl ?_
   refine ag ?_
   refine az rfl (fun hb6 => ?_) (fun hb6 => ?_)
   ·refine av hP<|aj rfl<|ag<|av hP<|au hT rfl<|ab (ah (gB _)) ?_
    refine aG hT rfl<|ag ?_
    refine ⟨(), trivial, aE ⟨.refl _, .refl _, aO (by unfold k0K; rw [if_pos ⟨dT0 hb5, dT0 hb6⟩]), trivial⟩ ⟨rfl, by rw [tj (dT0 hb5)]; rfl, trivial⟩⟩
   refine aq<|av hP<|au hT rfl<|ab (ah (gB _)) ?_
   refine aG hT rfl<|ag ?_
   refine ⟨(), trivial, aE ⟨.refl _, .refl _, aO (by unfold k0K; rw [if_neg (fun x => dF0 hb6 x.2)]), trivial⟩ ⟨rfl, by rw [tj (dT0 hb5)]; rfl, trivial⟩⟩
  refine aq ?_
  refine ⟨(), trivial, aE ⟨.refl _, .refl _, aO (by unfold k0K; rw [if_neg (fun x => dF0 hb5 x.1)]), trivial⟩ ⟨rfl, by rw [B2 (dF0 hb5)]; rfl, trivial⟩⟩
 intro _ _
 have hn0 : (m.natAbs : Int) ≠ 0 := fun e => hb1_ (sgn_zero_iff.2 (by omega))
 refine ae hP<|au hT rfl<|ab (ah (wc _ lz hn0)) ?_
 refine ab (aw (rfl : _ = AV.t _))<|ab (ay rfl (v := .a _) rfl)<|ab (ay rfl (v := .c _) rfl)<|aG hT rfl<|aj rfl<|ag<|cy (ι := Unit) (fun _ => stL [(2, .loc 2 0), (3, .loc 3 0), (5, Z (k1K a m))] [(2, ⟨false, 1, 29, [zn (a), zm (a)]⟩), (3, ⟨false, 1, 29, [zn ((tw (m.natAbs : Int)).1), zm ((tw (m.natAbs : Int)).1)]⟩)]) (fun _ => True) ?_ ?_
 ·refine ae hP<|ak rfl<|ab (cQ rfl rfl (by decide) (c := (tw (m.natAbs : Int)).2 % 2) (Int.tmod_eq_emod_of_nonneg (by have := D1 (x := (m.natAbs : Int)) lz hn0; omega))) ?_
  refine ab (bo rfl rfl)<|ag ?_
  refine az rfl (fun hb7 => ?_) (fun hb7 => ?_)
  ·have hb7_ := bT hb7
   refine av hP<|ak rfl<|au hT rfl<|ab (ah (pD _ _ (by simp))) ?_
   refine ab (kB hT rfl rfl rfl rfl (.head _) rfl rfl (by omega)) ?_
   refine ab (cf hT rfl rfl rfl (sU a)) ?_
   refine ab (bK rfl rfl (by first | exact iW0 _ (by omega) | rfl)) ?_
   refine aj rfl<|ag ?_
   refine ⟨(), trivial, aE ⟨.refl _, .refl _, aO (by unfold k1K; rw [if_pos hb7_]), trivial⟩ ⟨rfl, rfl, trivial⟩⟩
  have hb7_ := bF hb7
  refine aq ?_
  refine ⟨(), trivial, aE ⟨.refl _, .refl _, aO (by unfold k1K; rw [if_neg hb7_]), trivial⟩ ⟨rfl, rfl, trivial⟩⟩
 intro _ _
 have htw : LB (tw (m.natAbs : Int)).1 40 := D2 lz hn0
 have ht0 : (tw (m.natAbs : Int)).1 ≠ 0 := (fl _ _ (Nat.le_refl _) hn0).2.1
 refine ae hP<|au hT rfl<|au hT rfl<|ab (ah (mX _ _ lz lz ht0)) ?_
 refine aG hT rfl<|ag<|an<|aA<|bq (ι := (Int × Int × Int) × Nat) (fun i => stL [(2, .loc 2 0), (3, .loc 3 0), (5, Z (i.1.1))] [(2, ⟨false, 1, 29, [zn (i.1.2.1), zm (i.1.2.1)]⟩), (3, ⟨false, 1, 29, [zn (i.1.2.2), zm (i.1.2.2)]⟩)]) (fun i => KrI (RK_ a m) i.2 i.1.1 i.1.2.1 i.1.2.2) (fun i => i.1.2.1.natAbs) ((k1K a m, a % (tw (m.natAbs : Int)).1, (tw (m.natAbs : Int)).1), _) (KrI.start (fun e => hb1_ (sgn_zero_iff.2 e)) ha hm) (aE ⟨.refl _, .refl _, .refl _, trivial⟩ ⟨rfl, rfl, trivial⟩) ?_
 rintro i hI
 have h5 := hI.hk
 have j1 : LB i.1.2.1 40 := ⟨hI.la⟩
 have j2 : LB i.1.2.2 40 := ⟨hI.ln⟩
 refine an<|ae hP<|au hT rfl<|ab (ah (cE _)) ?_
 refine ab (bU rfl rfl)<|ag ?_
 refine az rfl (fun hb8 => ?_) (fun hb8 => ?_)
 ·have hb8_ := dT0 hb8
  have hapos : 0 < i.1.2.1 := sgn_gt_iff.1 hb8_
  have hne : i.1.2.1 ≠ 0 := by omega
  have hsg2 := qZ (x := i.1.2.2) h5
  have hkk := KrI.next hI hapos
  have hw : LB (tw i.1.2.1).1 40 := D2 hI.la hne
  have hw0 : (tw i.1.2.1).1 ≠ 0 := (fl _ _ (Nat.le_refl _) hne).2.1
  have hk1b := HP (a := i.1.2.1) (n := i.1.2.2) h5
  have hsg0 := Int.emod_nonneg i.1.2.2 (show (8 : Int) ≠ 0 by omega)
  have hsg1 := Int.emod_lt_of_pos i.1.2.2 (show (0 : Int) < 8 by omega)
  refine aq<|aA<|ae hP<|au hT rfl<|ab (ah (wc _ lz hne)) ?_
  refine ab (aw (rfl : _ = AV.t _))<|ab (ay rfl (v := .a _) rfl)<|ab (ay rfl (v := .c _) rfl)<|aG hT rfl<|aj rfl<|ag<|cy (ι := Unit) (fun _ => stL [(2, .loc 2 0), (3, .loc 3 0), (5, Z ((k1F i.1.1 i.1.2.1 i.1.2.2)))] [(2, ⟨false, 1, 29, [zn ((tw i.1.2.1).1), zm ((tw i.1.2.1).1)]⟩), (3, ⟨false, 1, 29, [zn (i.1.2.2), zm (i.1.2.2)]⟩)]) (fun _ => True) ?_ ?_
  ·refine ae hP<|ak rfl<|ab (cQ rfl rfl (by decide) (c := (tw i.1.2.1).2 % 2) (Int.tmod_eq_emod_of_nonneg (by have := D1 (x := i.1.2.1) lz hne; omega))) ?_
   refine ab (bo rfl rfl)<|ag ?_
   refine az rfl (fun hb9 => ?_) (fun hb9 => ?_)
   ·have hb9_ := bT hb9
    refine av hP<|ak rfl<|au hT rfl<|ab (ah (pD _ _ (by simp))) ?_
    refine ab (kB hT rfl rfl rfl rfl (.head _) rfl rfl (by omega)) ?_
    refine ab (cf hT rfl rfl rfl (sU i.1.2.2)) ?_
    refine ab (bK rfl rfl (by first | exact iW0 _ (by omega) | rfl)) ?_
    refine aj rfl<|ag ?_
    refine ⟨(), trivial, aE ⟨.refl _, .refl _, aO (by unfold k1F; rw [if_pos hb9_]), trivial⟩ ⟨rfl, rfl, trivial⟩⟩
   have hb9_ := bF hb9
   refine aq ?_
   refine ⟨(), trivial, aE ⟨.refl _, .refl _, aO (by unfold k1F; rw [if_neg hb9_]), trivial⟩ ⟨rfl, rfl, trivial⟩⟩
  intro _ _
  refine an<|ae hP<|au hT rfl<|ab (ah (pD _ _ (by simp))) ?_
  refine ab (bo rfl rfl)<|ak rfl ?_
  refine aZ (t := 64) rfl (fun hg10 => ?_) (fun hg10 => ?_)
  ·have hg10_ := bT hg10
   refine aC hg10 (aI hT rfl rfl rfl rfl (cs := [_, _]) rfl rfl) ?_
   refine aC hg10 (ah (pD _ _ (by simp))) ?_
   refine aC hg10 (bo rfl rfl) ?_
   refine ab (aM rfl hg10 (rfl : _ = AV.p (.c _)))<|ag ?_
   refine az rfl (fun hb11 => ?_) (fun hb11 => ?_)
   ·have hb11_ := bT hb11
    refine av hP<|ak rfl<|ab (fL rfl (by first | exact iW0 _ (by omega) | rfl)) ?_
    refine aj rfl<|ag<|av hP<|au hT rfl<|au hT rfl<|ab (ah (mX _ _ lz lz hw0)) ?_
    refine au hT rfl<|aG hT rfl<|aG hT rfl<|ag ?_
    refine ⟨((k2F (k1F i.1.1 i.1.2.1 i.1.2.2) i.1.2.1 i.1.2.2, i.1.2.2 % (tw i.1.2.1).1, (tw i.1.2.1).1), i.2 - 1), (hI.next hapos).1, (hI.next hapos).2, aE ⟨.refl _, .refl _, aO (by show _ = k2F _ _ _; unfold k2F; rw [if_pos ⟨hg10_, hb11_⟩]; omega), trivial⟩ ⟨rfl, rfl, trivial⟩⟩
   have hb11_ := bF hb11
   refine aq<|av hP<|au hT rfl<|au hT rfl<|ab (ah (mX _ _ lz lz hw0)) ?_
   refine au hT rfl<|aG hT rfl<|aG hT rfl<|ag ?_
   refine ⟨((k2F (k1F i.1.1 i.1.2.1 i.1.2.2) i.1.2.1 i.1.2.2, i.1.2.2 % (tw i.1.2.1).1, (tw i.1.2.1).1), i.2 - 1), (hI.next hapos).1, (hI.next hapos).2, aE ⟨.refl _, .refl _, aO (by show _ = k2F _ _ _; unfold k2F; rw [if_neg (fun x => hb11_ x.2)]), trivial⟩ ⟨rfl, rfl, trivial⟩⟩
  have hg10_ := bF hg10
  iterate 3 refine aW hg10 ?_
  refine ab (aL rfl hg10 (rfl : _ = AV.p (.c _)))<|ag<|aP rfl rfl<|aq<|av hP<|au hT rfl<|au hT rfl<|ab (ah (mX _ _ lz lz hw0)) ?_
  refine au hT rfl<|aG hT rfl<|aG hT rfl<|ag ?_
  refine ⟨((k2F (k1F i.1.1 i.1.2.1 i.1.2.2) i.1.2.1 i.1.2.2, i.1.2.2 % (tw i.1.2.1).1, (tw i.1.2.1).1), i.2 - 1), (hI.next hapos).1, (hI.next hapos).2, aE ⟨.refl _, .refl _, aO (by show _ = k2F _ _ _; unfold k2F; rw [if_neg (fun x => hg10_ x.1)]), trivial⟩ ⟨rfl, rfl, trivial⟩⟩
 have hb8_ := dF0 hb8
 refine a6<|an<|ae hP<|au hT rfl<|ab (ah (Aj _)) ?_
 refine ab (bt rfl)<|ag ?_
 refine az rfl (fun hb12 => ?_) (fun hb12 => ?_)
 ·have hb12_ := (cz hb12)
  refine ae hP<|aj rfl<|ag<|am<|E1 rfl rfl ?_
  exact aO (by rw [uH (fun e => hb1_ (sgn_zero_iff.2 e)) hpar, hI.stop (fun h => hb8_ (sgn_gt_iff.2 h)), if_neg (dF0 hb12_)])
 have hb12_ := (cp hb12)
 refine aq<|ae hP<|ak rfl<|aj rfl<|ag<|am<|E1 rfl rfl ?_
 exact aO (by rw [uH (fun e => hb1_ (sgn_zero_iff.2 e)) hpar, hI.stop (fun h => hb8_ (sgn_gt_iff.2 h)), if_pos (dT0 hb12_)])
end
section
open Go Go.AM
end
section
open Go Go.AM
theorem HF (a m : Int) (ha : L 40 a) (hm : L 40 m) (h0 : 0 < m) :
  aF Tryz.prog 180 [I a, I m] (.t [PI (a % m), PE 0]) := by
 have ia : LB a 40 := ⟨ha⟩
 have im : LB m 40 := ⟨hm⟩
 refine aK Tryz.func180 rfl rfl rfl rfl ?_
 refine ae hP<|ao ai (aN rfl rfl)<|ao ai (aN rfl rfl)<|ao ai (aB hT rfl rfl)<|aj rfl<|ag<|an<|ae hP<|au hT rfl<|ab (ah (cE _)) ?_
 refine ab (a7 rfl rfl)<|ag<|aP rfl (decide_eq_false (by have := sgn_gt_iff.2 h0; omega)) ?_
 refine aq<|ae hP<|au hT rfl<|au hT rfl<|ab (ah (mX _ _ lz lz (by omega))) ?_
 refine aG hT rfl<|aj rfl<|ag<|am ?_
 refine b9 rfl (.inr rfl) (aT hT rfl rfl rfl rfl (cs := [_, _]) rfl rfl) (bM rfl) ?_ br
 exact .refl _
theorem uU (a b c : Int) (ha : L 20 a) (hb : L 20 b) (hc : L 20 c) :
  aF Tryz.prog 182 [FA a b c] (.p (PE (rfE ⟨a, b, c⟩))) := by
 have ia : LB a 20 := ⟨ha⟩
 have ib : LB b 20 := ⟨hb⟩
 have ic : LB c 20 := ⟨hc⟩
 refine aK Tryz.func182 rfl rfl rfl rfl ?_
 refine ae hP<|ao ai (aN rfl rfl)<|aj rfl<|ag<|ae hP<|bD hT rfl rfl rfl rfl rfl rfl<|ab (ah (lD _ _ _ lz lz lz)) ?_
 refine aj rfl<|ag<|an<|aA<|ae hP<|ak rfl<|ab (bl rfl rfl)<|aj rfl<|ag ?_
 refine az rfl (fun hb1 => ?_) (fun hb1 => ?_)
 ·have hb1_ := cn hb1
  refine ae hP<|ak rfl<|aj rfl<|ag<|am<|E1 rfl rfl ?_
  exact aD (congrArg (fun x => AV.p (PE x)) (Hd (f := ⟨a, b, c⟩) (Jh hb1)))
 have hb1_ := bY hb1
 refine ae hP<|bD hT rfl rfl rfl rfl rfl rfl<|ab (ah (fq _ _ _ lz lz lz)) ?_
 refine ab (ah (cE _)) ?_
 refine ab (bU rfl rfl)<|aj rfl<|ag ?_
 refine az rfl (fun hb2 => ?_) (fun hb2 => ?_)
 ·have hb2_ := dT0 hb2
  refine ae hP<|aj rfl<|ag<|am<|E1 rfl rfl ?_
  exact aD (congrArg (fun x => AV.p (PE x)) (Hc (f := ⟨a, b, c⟩) (u7 hb1) hb2_))
 have hb2_ := dF0 hb2
 refine ae hP<|bD hT rfl rfl rfl rfl rfl rfl<|ab (ah (gO _ _ _ lz lz lz)) ?_
 refine ab (bt rfl)<|aj rfl<|ag ?_
 refine az rfl (fun hb3 => ?_) (fun hb3 => ?_)
 ·have hb3_ := (cz hb3)
  refine ae hP<|aj rfl<|ag<|am<|E1 rfl rfl ?_
  exact aD (congrArg (fun x => AV.p (PE x)) (Hb (f := ⟨a, b, c⟩) (u7 hb1) hb2_ (cz hb3)))
 have hb3_ := (cp hb3)
 refine aq<|ae hP<|aj rfl<|ag<|am<|E1 rfl rfl ?_
 exact aD (congrArg (fun x => AV.p (PE x)) (Ha (f := ⟨a, b, c⟩) (u7 hb1) hb2_ (cp hb3)))
theorem uV (a b c : Int) (ha : L 26 a) (hb : L 26 b) (hc : L 26 c) :
  aF Tryz.prog 216 [FA a b c] (FA (rdF a b c).a (rdF a b c).b (rdF a b c).c) := by
 have ia : LB a 26 := ⟨ha⟩
 have ib : LB b 26 := ⟨hb⟩
 have ic : LB c 26 := ⟨hc⟩
 refine aK Tryz.func216 rfl rfl rfl rfl ?_
 refine ae hP<|ao ai (aN rfl rfl)<|ao ai (aB hT rfl rfl)<|ag<|ae hP<|bD hT rfl rfl rfl rfl rfl rfl<|ab (ah (gu _ _ _ lz lz lz)) ?_
 refine ab (aw (rfl : _ = AV.t _))<|ab (ay rfl (v := .a _) rfl)<|ab (ay rfl (v := .a _) rfl)<|ab (ay rfl (v := .c _) rfl)<|ao ai (aB hT rfl rfl)<|ao ai (aB hT rfl rfl)<|aG hT rfl<|aG hT rfl<|aj rfl<|ag<|ae hP<|bD hT rfl rfl rfl rfl rfl rfl<|aG hT rfl<|ag<|am ?_
 refine b8 rfl (.inr rfl) (aT hT rfl rfl rfl rfl (cs := [_, _, _, _, _, _]) rfl rfl) ?_ br
 exact .refl _
theorem rM (a b c : Int) (ha : L 20 a) (hb : L 20 b) (hc : L 20 c) :
  aF Tryz.prog 215 [FA a b c] (FA (prF (dsc a b c)).a (prF (dsc a b c)).b (prF (dsc a b c)).c) := by
 have ia : LB a 20 := ⟨ha⟩
 have ib : LB b 20 := ⟨hb⟩
 have ic : LB c 20 := ⟨hc⟩
 refine aK Tryz.func215 rfl rfl rfl rfl ?_
 refine ae hP<|ao ai (aN rfl rfl)<|ao ai (aB hT rfl rfl)<|ag<|ae hP<|bD hT rfl rfl rfl rfl rfl rfl<|ab (ah (fq _ _ _ lz lz lz)) ?_
 refine ab (ah (lX _ lz)) ?_
 refine ab (aw (rfl : _ = AV.t _))<|ab (ay rfl (v := .a _) rfl)<|ab (ay rfl (v := .c _) rfl)<|ao ai (aB hT rfl rfl)<|aG hT rfl<|aj rfl<|ag<|ae hP<|bD hT rfl rfl rfl rfl rfl rfl<|aG hT rfl<|ag<|am ?_
 refine b8 rfl (.inr rfl) (aT hT rfl rfl rfl rfl (cs := [_, _, _, _, _, _]) rfl rfl) ?_ br
 exact .refl _
end
section
open Go Go.AM
theorem yJ (x : Int) (hx : 9223372036854775808 ≤ x.natAbs ∧ x.natAbs < 18446744073709551616) : aF Tryz.prog 125 [I x] (.t [.c (.v (.int .i64 (lwV x))), PB (lwO x)]) := rb x hx.2
end
section
open Go Go.AM
theorem dZ (z : Int) (jz : bn z) :
  aF Tryz.prog 70 [Z z] (I z) := by
 refine aK Tryz.func70 rfl rfl rfl rfl ?_
 refine ae hP<|ao ai (aB hT rfl rfl)<|ag<|ae hP<|ak rfl<|ab (ah (dC z jz)) ?_
 refine aG hT rfl<|ag<|am<|E2 hT rfl rfl rfl rfl rfl rfl rfl ?_
 exact .refl _
theorem ke (D : Int) (m : Nat) (hD : -4194304 ≤ D ∧ D < 0) (hm : 1 ≤ m ∧ m ≤ 65536) :
  Iter2 Tryz.prog 179 [[.v (.int .i64 (m : Int))], [zn D, zm D]] ((rbL D m).map fun b => [PI b, PF (frq D m b)]) := by
 have hDL : L 40 D := (show L 6 D by unfold L; omega).mono (by decide)
 have iD : LB D 6 := ⟨by unfold L; omega⟩
 have i4 : LB (4 * (m : Int)) 6 := ⟨by unfold L; omega⟩
 have im : LB (m : Int) 6 := ⟨by unfold L; omega⟩
 have r1 := Int.emod_nonneg D (show 4 * (m : Int) ≠ 0 by omega)
 have r2 := Int.emod_lt_of_pos D (show (0 : Int) < 4 * (m : Int) by omega)
 have cMd := HF D (4 * (m : Int)) hDL ((show L 6 (4 * (m : Int)) by unfold L; omega).mono (by decide)) (by omega)
 have cLw := gC (D % (4 * (m : Int))) (by omega) (by omega)
 have c4 := dC (4 * (m : Int)) (by unfold bn; omega)
 have cm := dZ (m : Int) (by unfold bn; omega)
 generalize hxs : ((rbL D m).map fun b => [PI b, PF (frq D m b)]) = xs
 refine mp Tryz.func179 (by kernel_rfl) rfl rfl (bL0 rfl) rfl ?_
 intro l n0 J hK
 refine vg hK.toKeepsB ?_
 refine bB ?_
 refine bg hP ?_
 refine cr hT rfl rfl rfl ?_
 refine ab (bK rfl rfl (by first | exact iW0 _ (by omega) | rfl)) ?_
 refine aj rfl<|ag<|bB ?_
 refine bg hP ?_
 refine ab (a8 hT rfl rfl rfl (cs := [_, _]) rfl rfl)<|ak rfl<|ab (ah c4) ?_
 refine ab (ah cMd) ?_
 refine ab (aw (rfl : _ = AV.t _))<|ab (ay rfl (v := .a _) rfl)<|ab (ay rfl (v := .c _) rfl)<|ao ai (aB hT rfl rfl)<|aG hT rfl<|aj rfl<|ag<|bB ?_
 refine bg hP ?_
 refine au hT rfl<|ab (ah cLw) ?_
 refine ab (aw (rfl : _ = AV.t _))<|ab (ay rfl (v := .c _) rfl)<|ab (ay rfl (v := .c _) rfl)<|aj rfl<|aj rfl<|ag<|bB ?_
 refine bg hP ?_
 refine cr hT rfl rfl rfl ?_
 refine ab (bK rfl rfl (by first | exact iW0 _ (by omega) | rfl)) ?_
 refine ak rfl<|ag<|dQ ?_
 refine j5 (ι := Nat) (fun i => stL [(0, .p (.c (.v (.func (.yield l) #[] #[])))), (1, .ip [.v (.int .i64 (m : Int))]), (2, .ip [zn D, zm D]), (4, Z (4 * (m : Int))), (7, Z (D % (4 * (m : Int)))), (29, Z (2 * (m : Int))), (30, Z (i : Int))] []) (fun i => (rbT D m i).length) (fun i => (i : Int) ≤ 2 * (m : Int)) (fun i => (2 * m) - i) 0 (by omega) rfl (aE ⟨.refl _, .refl _, .refl _, .refl _, .refl _, .refl _, .refl _, trivial⟩ trivial) ?_
 intro i hi
 refine bB ?_
 refine bg hP ?_
 refine ab (a7 rfl rfl)<|ag<|bB ?_
 refine dN rfl (fun hb1 => ?_) (fun hb1 => ?_)
 ·have hb1_ := dT0 hb1
  have hsq := kK (x := (i : Int)) (m := 131073) (by omega)
  have isq : LB ((i : Int) * (i : Int)) 6 := ⟨by unfold L; omega⟩
  have ii : LB (i : Int) 6 := ⟨by unfold L; omega⟩
  refine du ?_
  refine bB ?_
  refine dQ ?_
  refine bB ?_
  refine bg hP ?_
  refine ak rfl<|aj rfl<|ag<|bB ?_
  refine bB ?_
  refine bg hP ?_
  refine ak rfl<|ak rfl<|ab (bK rfl rfl (by first | exact iW0 _ (by omega) | rfl)) ?_
  refine ak rfl<|ab (cQ rfl rfl (by omega) (c := (i : Int) * (i : Int) % (4 * (m : Int))) (Int.tmod_eq_emod_of_nonneg (by omega))) ?_
  refine ak rfl<|ab (bl rfl rfl)<|ag ?_
  refine dN rfl (fun hb2 => ?_) (fun hb2 => ?_)
  ·have hb2_ := cn hb2
   refine gJ ?_
   refine bg hP ?_
   refine bA rfl rfl ?_
   refine ak rfl<|ag ?_
   refine ⟨i + 1, by omega, by omega, vG (CE hb2_), aE ⟨.refl _, .refl _, .refl _, .refl _, .refl _, .refl _, aO (by omega), trivial⟩ trivial⟩
  have hb2_ := bY hb2
  refine du ?_
  refine bB ?_
  refine bg hP ?_
  refine ak rfl<|ak rfl<|ab (bK rfl rfl (by first | exact iW0 _ (by omega) | rfl)) ?_
  refine ab (ah (dC ((i : Int) * (i : Int)) (by unfold bn; omega))) ?_
  refine ab (a8 hT rfl rfl rfl (cs := [_, _]) rfl rfl)<|ab (ah (iO ((i : Int) * (i : Int)) D lz lz)) ?_
  refine ak rfl<|ab (ah c4) ?_
  refine ab (ah (da ((i : Int) * (i : Int) - D) (4 * (m : Int)) lz lz (by omega))) ?_
  refine ab (aw (rfl : _ = AV.t _))<|ab (ay rfl (v := .a _) rfl)<|ab (ay rfl (v := .a _) rfl)<|ab (ay rfl (v := .c _) rfl)<|ao ai (aB hT rfl rfl)<|ao ai (aB hT rfl rfl)<|aG hT rfl<|aG hT rfl<|aj rfl<|ag<|bB ?_
  refine bg hP ?_
  refine cr hT rfl rfl rfl ?_
  refine ab (ah cm) ?_
  refine ak rfl<|ab (ah (dC (i : Int) (by unfold bn; omega))) ?_
  refine au hT rfl<|ab (aV hT rfl rfl rfl (es := [_, _, _, _, _, _]) rfl)<|ao ai (aB hT rfl rfl)<|aG hT rfl<|ag<|bB ?_
  refine kw ?_
  refine RY.val ai (aI hT rfl rfl rfl rfl (cs := [_, _, _, _, _, _]) rfl rfl) ?_
  refine RY.val ai (ah (gO (m : Int) (i : Int) (((i : Int) * (i : Int) - D) / (4 * (m : Int))) lz lz lz)) ?_
  refine RY.val ai (aw (rfl : _ = AV.p (.c _))) ?_
  refine RY.split (t := 61) rfl (fun hg3 => ?_) (fun hg3 => ?_)
  ·have hyes := CA hb2_ hg3
   have hgt : xs[(rbT D m i).length]? = some [PI (i : Int), PF (frq D m (i : Int))] := by rw [← hxs, List.getElem?_map, BQ hyes (by omega)]; rfl
   refine RY.val (bf rfl rfl hg3) (aw (rfl : _ = AV.p (.c _))) ?_
   refine RY.val (bf rfl rfl hg3) (aR hT rfl rfl rfl rfl rfl rfl) ?_
   refine RY.val (bf rfl rfl hg3) (aI hT rfl rfl rfl rfl (cs := [_, _]) rfl rfl) ?_
   refine RY.val (bf rfl rfl hg3) (aI hT rfl rfl rfl rfl (cs := [_, _, _, _, _, _]) rfl rfl) ?_
   refine RY.yield hK (bf rfl rfl hg3) rfl rfl hgt ?_
   intro b
   refine RY.val (bf rfl rfl hg3) (bt rfl) ?_
   refine RY.val ai (aM rfl hg3 (rfl : _ = AV.p (.c _))) ?_
   refine RY.done ?_
   refine dN rfl (fun hb4 => ?_) (fun hb4 => ?_)
   ·have hb4_ := (cz hb4)
    refine lx ?_
    refine ⟨.inr rfl, ?_⟩
    exact uw (cz hb4)
   have hb4_ := (cp hb4)
   refine du ?_
   refine bg hP ?_
   refine bA rfl rfl ?_
   refine ak rfl<|ag ?_
   refine ⟨i + 1, by omega, by omega, (BO hyes).trans (uv (cp hb4)).symm, aE ⟨.refl _, .refl _, .refl _, .refl _, .refl _, .refl _, aO (by omega), trivial⟩ trivial⟩
  iterate 6 refine RY.skip (jp rfl rfl hg3) ?_
  refine RY.val ai (aL rfl hg3 (rfl : _ = AV.p (.c _))) ?_
  refine RY.done ?_
  refine iC rfl rfl ?_
  refine du ?_
  refine bg hP ?_
  refine bA rfl rfl ?_
  refine ak rfl<|ag ?_
  refine ⟨i + 1, by omega, by omega, vG (CC hg3), aE ⟨.refl _, .refl _, .refl _, .refl _, .refl _, .refl _, aO (by omega), trivial⟩ trivial⟩
 have hb1_ := dF0 hb1
 refine gJ ?_
 refine ⟨.inl rfl, ?_⟩
 have e : i = 2 * m := by omega
 subst e
 rw [← hxs, List.length_map, ← sY, show (2 * (m : Int)).toNat = 2 * m by omega]
 exact Nat.le_refl _
theorem lH (D : Int) (m : Nat) :
  aF Tryz.prog 127 [I D, Z (m : Int)] (.fn 179 [[.v (.int .i64 (m : Int))], [zn D, zm D]]) := by
 refine jr Tryz.func127 (by kernel_rfl) rfl rfl (bL0 rfl) rfl ?_
 refine ae hP<|ao ai (aN rfl rfl)<|ao ai (aN rfl rfl)<|aj rfl<|ag<|cq (t := 2) rfl rfl ?_
 refine cq (t := 3) rfl rfl ?_
 refine ae hP<|ab (jg rfl rfl)<|ab (bi (rfl : _ = AV.fn _ _))<|ag<|am ?_
 exact ⟨.inr rfl, 4, rfl, rfl⟩
theorem oG (D : Int) (m : Nat) (hD : -4194304 ≤ D ∧ D < 0) (hm : 1 ≤ m ∧ m ≤ 65536) :
  aF Tryz.prog 69 [I D, Z (m : Int)] (B (decide (rbL D (m : Int) = []))) := by
 refine aK Tryz.func69 rfl rfl rfl rfl ?_
 refine ae hP<|ao ai (aN rfl rfl)<|ao ai (aB hT rfl rfl)<|ag<|an<|ae hP<|au hT rfl<|ak rfl<|ab (ah (lH D m)) ?_
 refine ag<|aA<|dj (t := stL [(4, .loc 4 0), (7, .fn 179 [[.v (.int .i64 (m : Int))], [zn D, zm D]])] [(4, ⟨false, 1, 4, [.v (.bool false)]⟩)]) (aE ⟨.refl _, .refl _, trivial⟩ ⟨rfl, trivial⟩) ?_
 refine eD 5 (fun _ => ci [(4, ⟨false, 1, 4, [.v (.bool false)]⟩)]) (fun k => k = 0) rfl (ke D m hD hm) mL rfl rfl rfl rfl (fun k x hx hk => ?_) (fun hk => ?_)
 ·have hne := Hn hx
  obtain ⟨b, hb, rfl⟩ := mN hx
  refine aq<|aA<|ae hP<|aG hT rfl<|ag<|am ?_
  refine ⟨_, GW.forget fun _ => .inl rfl, ?_⟩
  refine b8 rfl (.inr rfl) (b7 hT rfl rfl rfl rfl rfl) ?_ br
  exact aY hne.symm
 refine ae hP<|aG hT rfl<|ag<|am ?_
 refine b8 rfl (.inr rfl) (b7 hT rfl rfl rfl rfl rfl) ?_ br
 exact aY (Er hk).symm
theorem qv (m : Int) :
  aF Tryz.prog 55 [Z m] (Z (rgE m)) := by
 refine aK Tryz.func55 rfl rfl rfl rfl ?_
 refine ae hP<|aj rfl<|ag<|an<|aA<|ae hP<|ak rfl<|ab (a7 rfl rfl)<|aj rfl<|ag ?_
 refine az rfl (fun hb1 => ?_) (fun hb1 => ?_)
 ·have hb1_ := dT0 hb1
  refine ae hP<|aj rfl<|ag<|am<|E1 rfl rfl ?_
  exact aO (G5 hb1_).symm
 have hb1_ := dF0 hb1
 refine ae hP<|ak rfl<|ab (bU rfl rfl)<|aj rfl<|ag ?_
 refine az rfl (fun hb2 => ?_) (fun hb2 => ?_)
 ·have hb2_ := dT0 hb2
  refine ae hP<|aj rfl<|ag<|am<|E1 rfl rfl ?_
  exact aO (G4 hb2_).symm
 have hb2_ := dF0 hb2
 refine aq<|ae hP<|aj rfl<|ag<|am<|E1 rfl rfl ?_
 exact aO (ug hb1_ hb2_).symm
theorem qy (D : Int) (m : Nat) (hD : -4194304 ≤ D ∧ D < 0) (hm : 1 ≤ m ∧ m ≤ 65536) :
  aF Tryz.prog 56 [I D, Z (m : Int)] (.p (.c (SL enI (rbL D (m : Int))))) := by
 refine aK Tryz.func56 rfl rfl rfl rfl ?_
 refine ae hP<|ao ai (aN rfl rfl)<|aj rfl<|ag<|ae hP<|ao ai (ji hT rfl rfl)<|ag<|an<|ae hP<|au hT rfl<|ak rfl<|ab (ah (lH D m)) ?_
 refine ag<|aA<|iL 5 1000 2 29 rfl rfl rfl rfl ?_
 refine dj (t := stL [(5, .loc 5 0), (9, .fn 179 [[.v (.int .i64 (m : Int))], [zn D, zm D]])] [(5, ⟨false, 1002, 36, [.sl (((rbL D (m : Int)).take 0)).length []]⟩), (1000, VB 2 29 enI (((rbL D (m : Int)).take 0)))]) (aE ⟨.refl _, .refl _, trivial⟩ ⟨rfl, rfl, trivial⟩) ?_
 refine eD 6 (fun k => ci [(5, ⟨false, 1002, 36, [.sl (((rbL D (m : Int)).take k)).length []]⟩), (1000, VB 2 29 enI (((rbL D (m : Int)).take k)))]) (fun _ => True) rfl (ke D m hD hm) mL rfl rfl rfl trivial (fun k x hx _ => ?_) (fun _ => ?_)
 ·obtain ⟨b, hb, rfl⟩ := mN hx
  refine av hP<|ao ai (aB hT rfl rfl)<|aG hT rfl<|ag<|aA<|av hP<|ab (ej hT rfl rfl rfl rfl rfl)<|au hT rfl<|ab (bd hT rfl rfl rfl (es := [_, _]) rfl rfl rfl)<|RK.app ai (mT (encD := enI) hT eO (by decide) rfl rfl rfl rfl rfl rfl rfl (b := b) rfl (by have := mM D m hm.2; rw [List.length_take]; omega) (by decide) (by decide)) ?_
  refine di ai (iH hT rfl rfl rfl rfl rfl rfl rfl (dq eO _).symm (Nat.zero_lt_succ 1)) ?_
  refine ag ?_
  refine ⟨GW.rnL 5 15 1000 (((rbL D (m : Int)).take k) ++ [b]).length rfl rfl rfl (dq eO _).symm (Nat.zero_lt_succ 1) rfl rfl rfl rfl ?_, trivial⟩
  show ∀ m, ci _ m = _ ∨ ci _ m = none
  rw [Ab hb]
  exact SubO.own ⟨rfl, rfl, trivial⟩
 refine ae hP<|ab (ej hT rfl rfl rfl rfl rfl)<|ab (bi (rfl : _ = AV.vec _))<|ag<|jL (encD := enI) eO rfl (t := 4) rfl rfl ?_
 refine am<|E1 rfl rfl ?_
 exact aD (by rw [Es])
theorem eK (a b : Int) :
  aF Tryz.prog 138 [I a, I b] (B (decide (a = b))) := by
 refine aK Tryz.func138 rfl rfl rfl rfl ?_
 refine ae hP<|ao ai (aN rfl rfl)<|ao ai (aN rfl rfl)<|aj rfl<|ag<|ae hP<|au hT rfl<|au hT rfl<|ab (ah (c7 _ _)) ?_
 refine ab (bo rfl rfl)<|aj rfl<|ag<|am<|E1 rfl rfl ?_
 exact aY (C3 a b)
theorem yi (a : Int) :
  aF Tryz.prog 67 [I a] (B (decide (a = 0))) := by
 refine aK Tryz.func67 rfl rfl rfl rfl ?_
 refine ae hP<|ao ai (aN rfl rfl)<|aj rfl<|ag<|ae hP<|au hT rfl<|ab (ah (cE _)) ?_
 refine ab (bo rfl rfl)<|aj rfl<|ag<|am<|E1 rfl rfl ?_
 exact aY (BD a)
theorem oF (D : Int) (m : Nat) (hD : -4194304 ≤ D ∧ D < 0) (hm : 1 ≤ m ∧ m ≤ 65536) :
  aF Tryz.prog 72 [I D, Z (m : Int)] (.p (.c (FS (fmL D (m : Int))))) := by
 have iD : LB D 6 := ⟨by unfold L; omega⟩
 have i4 : LB (4 * (m : Int)) 6 := ⟨by unfold L; omega⟩
 have im : LB (m : Int) 6 := ⟨by unfold L; omega⟩
 refine aK Tryz.func72 rfl rfl rfl rfl ?_
 refine ae hP<|ao ai (aN rfl rfl)<|aj rfl<|ag<|ae hP<|ao ai (ji hT rfl rfl)<|ag<|an<|ae hP<|au hT rfl<|ak rfl<|ab (ah (lH D m)) ?_
 refine ag<|aA<|iL 5 1000 6 46 rfl rfl rfl rfl ?_
 refine dj (t := stL [(5, .loc 5 0), (13, .fn 179 [[.v (.int .i64 (m : Int))], [zn D, zm D]])] [(5, ⟨false, 1002, 32, [.sl (((fmL D (m : Int)).take 0)).length []]⟩), (1000, FB 46 (((fmL D (m : Int)).take 0)))]) (aE ⟨.refl _, .refl _, trivial⟩ ⟨rfl, rfl, trivial⟩) ?_
 refine eD 6 (fun k => ci [(5, ⟨false, 1002, 32, [.sl (((fmL D (m : Int)).take k)).length []]⟩), (1000, FB 46 (((fmL D (m : Int)).take k)))]) (fun _ => True) rfl (ke D m hD hm) mL rfl rfl rfl trivial (fun k x hx _ => ?_) (fun _ => ?_)
 ·obtain ⟨b, hb, rfl⟩ := mN hx
  have hb2 := (rbL_mem.1 (List.mem_of_getElem? hb)).1
  have hsq := kK (x := b) (m := 131073) (by omega)
  have ib : LB b 6 := ⟨by unfold L; omega⟩
  have isq : LB (b * b) 6 := ⟨by unfold L; omega⟩
  have cRd : aF Tryz.prog 41 [FA (m : Int) b ((b * b - D) / (4 * (m : Int)))] (.t [PF (frq D m b).rd, PM (rdM (m : Int) b ((b * b - D) / (4 * (m : Int)))), PE (rdE (m : Int) b ((b * b - D) / (4 * (m : Int))))]) := gu (m : Int) b ((b * b - D) / (4 * (m : Int))) lz lz lz
  have htk := HU hb
  generalize (frq D m b).rd = g at cRd htk
  generalize rdM (m : Int) b ((b * b - D) / (4 * (m : Int))) = M0 at cRd
  generalize rdE (m : Int) b ((b * b - D) / (4 * (m : Int))) = e0 at cRd
  refine av hP<|ao ai (aB hT rfl rfl)<|aG hT rfl<|ag<|aA<|ae hP<|bD hT rfl rfl rfl rfl rfl rfl<|ab (ah cRd) ?_
  refine ab (aw (rfl : _ = AV.t _))<|ab (ay rfl (v := .a _) rfl)<|ab (ay rfl (v := .a _) rfl)<|ab (ay rfl (v := .c _) rfl)<|ao ai (aB hT rfl rfl)<|ao ai (aB hT rfl rfl)<|aG hT rfl<|aG hT rfl<|aj rfl<|ag<|av hP<|ab (ej hT rfl rfl rfl rfl rfl)<|bD hT rfl rfl rfl rfl rfl rfl<|ab (bd hT rfl rfl rfl (es := [_, _, _, _, _, _]) rfl rfl rfl)<|RK.app ai (mU hT rfl rfl rfl rfl rfl rfl rfl (f := g) rfl (by have := wB D m hm.2; rw [List.length_take]; omega) (by decide)) ?_
  refine di ai (iH hT rfl rfl rfl rfl rfl rfl rfl (ju _).symm (Nat.zero_lt_succ 5)) ?_
  refine ag ?_
  refine ⟨GW.rnL 5 25 1000 (((fmL D (m : Int)).take k) ++ [g]).length rfl rfl rfl (ju _).symm (Nat.zero_lt_succ 5) rfl rfl rfl rfl ?_, trivial⟩
  show ∀ m, ci _ m = _ ∨ ci _ m = none
  rw [htk]
  exact SubO.own ⟨rfl, rfl, trivial⟩
 refine ae hP<|ab (ej hT rfl rfl rfl rfl rfl)<|ab (bi (rfl : _ = AV.vec _))<|ag<|mb (t := 4) rfl rfl ?_
 refine am<|E1 rfl rfl ?_
 exact aD (by rw [FH])
theorem vT (p q : Pr2) :
  aF Tryz.prog 90 [.p (.a [zn p.1, zm p.1, zn p.2, zm p.2]), .p (.a [zn q.1, zm q.1, zn q.2, zm q.2])] (Z (cmP p q)) := by
 refine aK Tryz.func90 rfl rfl rfl rfl ?_
 refine ae hP<|ao ai (aN rfl rfl)<|ao ai (aN rfl rfl)<|aj rfl<|ag<|an<|ae hP<|ab (aQ hT rfl rfl rfl rfl rfl (by first | decide | omega)) ?_
 refine au hT rfl<|ab (aQ hT rfl rfl rfl rfl rfl (by first | decide | omega)) ?_
 refine au hT rfl<|ab (ah (c7 _ _)) ?_
 refine aj rfl<|ag<|ae hP<|ak rfl<|ab (bl rfl rfl)<|ag ?_
 refine az rfl (fun hb1 => ?_) (fun hb1 => ?_)
 ·have hb1_ := cn hb1
  refine ae hP<|ak rfl<|aj rfl<|ag<|am<|E1 rfl rfl ?_
  exact aO (by unfold cmP; rw [if_pos hb1_])
 have hb1_ := bY hb1
 refine aq<|ae hP<|ab (aQ hT rfl rfl rfl rfl rfl (by first | decide | omega)) ?_
 refine au hT rfl<|ab (aQ hT rfl rfl rfl rfl rfl (by first | decide | omega)) ?_
 refine au hT rfl<|ab (ah (c7 _ _)) ?_
 refine aj rfl<|ag<|am<|E1 rfl rfl ?_
 exact aO (by unfold cmP; rw [if_neg (fun x => x hb1_)])
end
section
open Go Go.AM
theorem mQ (a b c p q r : Int) :
  aF Tryz.prog 165 [FA a b c, FA p q r] (B (decide (a = p ∧ b = q ∧ c = r))) := by
 refine aK Tryz.func165 rfl rfl rfl rfl ?_
 refine ae hP<|ao ai (aN rfl rfl)<|ao ai (aN rfl rfl)<|aj rfl<|ag<|ae hP<|aJ hT rfl<|au hT rfl<|aJ hT rfl<|au hT rfl<|ab (ah (eK _ _)) ?_
 refine ak rfl ?_
 refine aZ (t := 10) rfl (fun hg1 => ?_) (fun hg1 => ?_)
 ·refine aC hg1 (aR hT rfl rfl rfl rfl rfl rfl) ?_
  refine aC hg1 (aI hT rfl rfl rfl rfl (cs := [_, _]) rfl rfl) ?_
  refine aC hg1 (aR hT rfl rfl rfl rfl rfl rfl) ?_
  refine aC hg1 (aI hT rfl rfl rfl rfl (cs := [_, _]) rfl rfl) ?_
  refine aC hg1 (ah (eK _ _)) ?_
  refine ab (aM rfl hg1 (rfl : _ = AV.p (.c _)))<|ak rfl ?_
  refine aZ (t := 17) rfl (fun hg2 => ?_) (fun hg2 => ?_)
  ·refine aC hg2 (aR hT rfl rfl rfl rfl rfl rfl) ?_
   refine aC hg2 (aI hT rfl rfl rfl rfl (cs := [_, _]) rfl rfl) ?_
   refine aC hg2 (aR hT rfl rfl rfl rfl rfl rfl) ?_
   refine aC hg2 (aI hT rfl rfl rfl rfl (cs := [_, _]) rfl rfl) ?_
   refine aC hg2 (ah (eK _ _)) ?_
   refine ab (aM rfl hg2 (rfl : _ = AV.p (.c _)))<|aj rfl<|ag<|am<|E1 rfl rfl ?_
   exact aY (ID hg1 hg2)
  iterate 5 refine aW hg2 ?_
  refine ab (aL rfl hg2 (rfl : _ = AV.p (.c _)))<|aj rfl<|ag<|am<|E1 rfl rfl ?_
  exact aY (IE hg1 hg2)
 iterate 5 refine aW hg1 ?_
 refine ab (aL rfl hg1 (rfl : _ = AV.p (.c _)))<|ak rfl<|aW rfl ?_
 iterate 4 refine aW rfl ?_
 refine ab (aL rfl rfl (rfl : _ = AV.p (.c _)))<|aj rfl<|ag<|am<|E1 rfl rfl ?_
 exact aY (IF hg1)
theorem B4 (D : Int) :
  aF Tryz.prog 134 [I D] (.p (.c (SL enU (unL D)))) := by
 refine aK Tryz.func134 rfl rfl rfl rfl ?_
 refine ae hP<|ao ai (aN rfl rfl)<|aj rfl<|ag<|an<|aA<|ae hP<|au hT rfl<|ab (ah (dZ _ (by decide))) ?_
 refine ab (ah (eK _ _)) ?_
 refine aj rfl<|ag ?_
 refine az rfl (fun hb1 => ?_) (fun hb1 => ?_)
 ·refine ae hP<|ab (cY hT rfl rfl rfl (es := [_, _]) rfl) ?_
  iterate 5 refine ab (cY hT rfl rfl rfl (es := [_, _]) rfl) ?_
  refine ab (bd hT rfl rfl rfl (es := [_, _, _, _, _, _, _, _, _, _, _, _]) rfl rfl rfl)<|aj rfl<|ag<|am<|E1 rfl rfl ?_
  exact aD (by rw [← Iu (dT0 hb1)]; rfl)
 refine ae hP<|au hT rfl<|ab (ah (dZ _ (by unfold bn; omega))) ?_
 refine ab (ah (eK _ _)) ?_
 refine aj rfl<|ag ?_
 refine az rfl (fun hb2 => ?_) (fun hb2 => ?_)
 ·refine ae hP<|ab (cY hT rfl rfl rfl (es := [_, _]) rfl) ?_
  iterate 3 refine ab (cY hT rfl rfl rfl (es := [_, _]) rfl) ?_
  refine ab (bd hT rfl rfl rfl (es := [_, _, _, _, _, _, _, _]) rfl rfl rfl)<|aj rfl<|ag<|am<|E1 rfl rfl ?_
  exact aD (by rw [← It (dF0 hb1) (dT0 hb2)]; rfl)
 refine aq<|ae hP<|ab (cY hT rfl rfl rfl (es := [_, _]) rfl)<|ab (cY hT rfl rfl rfl (es := [_, _]) rfl)<|ab (bd hT rfl rfl rfl (es := [_, _, _, _]) rfl rfl rfl)<|aj rfl<|ag<|am<|E1 rfl rfl ?_
 exact aD (by rw [← Iw (dF0 hb1) (dF0 hb2)]; rfl)
theorem qx (f : Fm) (D : Int) (m : Nat) (hfa : L 6 f.a) (hfb : L 6 f.b) (hfc : L 6 f.c) (hf : dsc f.a f.b f.c = D) (hD : -4194304 ≤ D ∧ D < 0) (hm : 1 ≤ m ∧ m ≤ 65536) :
  Iter2 Tryz.prog 132 [[zn f.a, zm f.a, zn f.b, zm f.b, zn f.c, zm f.c], [.v (.int .i64 (m : Int))]] ((prL D m f).map fun p => [PA p]) := by
 have iD : LB D 6 := ⟨by unfold L; omega⟩
 have i4 : LB (4 * (m : Int)) 6 := ⟨by unfold L; omega⟩
 have im : LB (m : Int) 6 := ⟨by unfold L; omega⟩
 have fa : LB f.a 6 := ⟨hfa⟩
 have fb : LB f.b 6 := ⟨hfb⟩
 have fc : LB f.c 6 := ⟨hfc⟩
 have cDs : aF Tryz.prog 40 [FA f.a f.b f.c] (I D) := by rw [← hf]; exact fq f.a f.b f.c lz lz lz
 have cUn := B4 D
 have hus : ∀ p ∈ unL D, (-2 ≤ p.1 ∧ p.1 ≤ 2) ∧ (-1 ≤ p.2 ∧ p.2 ≤ 1) := fun p hp => GC hp
 have hul := pO D
 have hget := fun (i j : Nat) (b : Int) (hb : (rbL D m)[i]? = some b) (hs : smf f (frq D m b) = true) (hj : j < (unL D).length) => EE (f := f) (j := j) hb hs hj
 have hkY := fun (i : Nat) (b : Int) (hb : (rbL D m)[i]? = some b) (hs : smf f (frq D m b) = true) => IR (f := f) hb hs
 have hkN := fun (i : Nat) (b : Int) (hb : (rbL D m)[i]? = some b) (hs : smf f (frq D m b) = false) => IT (f := f) hb hs
 have hall := EG (D := D) (m := m) (f := f)
 have hk0 : 0 = (fmN (prQ D m f) (rbL D m)) 0 := fmN_0.symm
 generalize unL D = us at *
 generalize hxs : ((prL D m f).map fun p => ([PA p] : List PV)) = xs at *
 generalize fmN (prQ D m f) (rbL D m) = κ at *
 refine mp Tryz.func132 (by kernel_rfl) rfl rfl (bL0 rfl) rfl ?_
 intro l n0 J hK
 refine sd hK.toKeepsB ?_
 refine bg hP ?_
 refine ao ai (aN rfl rfl)<|ag<|sd hK.toKeepsB ?_
 refine bg hP ?_
 refine ab (a8 hT rfl rfl rfl (cs := [_, _, _, _, _, _]) rfl rfl)<|ab (ah cDs) ?_
 refine ao ai (aB hT rfl rfl)<|aG hT rfl<|ag<|sd hK.toKeepsB ?_
 refine bg hP ?_
 refine au hT rfl<|cr hT rfl rfl rfl ?_
 refine ab (ah (lH D m)) ?_
 refine ag<|zq ?_
 refine Is (t := stL [(1, .ip [zn f.a, zm f.a, zn f.b, zm f.b, zn f.c, zm f.c]), (2, .ip [.v (.int .i64 (m : Int))]), (3, .loc 3 0), (4, .loc 4 0), (21, .fn 179 [[.v (.int .i64 (m : Int))], [zn D, zm D]])] [(3, ⟨false, 1, 187, [.v (.func (.yield l) #[] #[])]⟩), (4, ⟨false, 1, 29, [zn D, zm D]⟩)]) (aE ⟨.refl _, .refl _, .refl _, .refl _, .refl _, trivial⟩ ⟨rfl, rfl, trivial⟩) ?_
 refine zp 5 κ (ci [(3, ⟨false, 1, 187, [.v (.func (.yield l) #[] #[])]⟩), (4, ⟨false, 1, 29, [zn D, zm D]⟩)]) hK rfl (ke D m hD hm) mL rfl rfl (fun i y hy => ?_) hall hk0
 obtain ⟨b, hb, rfl⟩ := mN hy
 have hb2 := (rbL_mem.1 (List.mem_of_getElem? hb)).1
 have hsq := kK (x := b) (m := 131073) (by omega)
 have ib : LB b 6 := ⟨by unfold L; omega⟩
 have isq : LB (b * b) 6 := ⟨by unfold L; omega⟩
 have cSm : aF Tryz.prog 133 [FA f.a f.b f.c, FA (m : Int) b ((b * b - D) / (4 * (m : Int)))] (.t [PM (smm f (frq D m b)), PB (smf f (frq D m b))]) := Ez f.a f.b f.c (m : Int) b ((b * b - D) / (4 * (m : Int))) lz lz lz lz lz lz
 obtain ⟨m1, m2, m3, m4⟩ : LB (smm f (frq D m b)).a 23 ∧ LB (smm f (frq D m b)).b 23 ∧ LB (smm f (frq D m b)).c 23 ∧ LB (smm f (frq D m b)).d 23 := IA (a := f.a) (b := f.b) (c := f.c) (p := (m : Int)) (q := b) (r := (b * b - D) / (4 * (m : Int))) ⟨lz⟩ ⟨lz⟩ ⟨lz⟩ ⟨lz⟩ ⟨lz⟩ ⟨lz⟩
 have hgj := fun j => hget i j b hb
 have hY := hkY i b hb
 have hN := hkN i b hb
 generalize smm f (frq D m b) = M at cSm m1 m2 m3 m4 hgj
 generalize smf f (frq D m b) = sb at cSm hgj hY hN
 show AK _ _ _ _ _ _ _ (κ i) ⟨iG _ _ [PI b, .a [zn (m : Int), zm (m : Int), zn b, zm b, zn ((b * b - D) / (4 * (m : Int))), zm ((b * b - D) / (4 * (m : Int)))]], _⟩
 generalize (b * b - D) / (4 * (m : Int)) = C0 at cSm ⊢
 refine bB ?_
 refine bg hP ?_
 refine ao ai (aB hT rfl rfl)<|aG hT rfl<|ag<|bg hP ?_
 refine ao ai (aB hT rfl rfl)<|aG hT rfl<|ag<|dQ ?_
 refine bB ?_
 refine bg hP ?_
 refine ab (a8 hT rfl rfl rfl (cs := [_, _, _, _, _, _]) rfl rfl)<|bD hT rfl rfl rfl rfl rfl rfl<|ab (ah cSm) ?_
 refine ab (aw (rfl : _ = AV.t _))<|ab (ay rfl (v := .a _) rfl)<|ab (ay rfl (v := .c _) rfl)<|ao ai (aB hT rfl rfl)<|aG hT rfl<|aj rfl<|ag<|bB ?_
 refine bB ?_
 refine bg hP ?_
 refine ak rfl<|ab (bt rfl)<|ag ?_
 refine dN rfl (fun hb1 => ?_) (fun hb1 => ?_)
 ·have hb1_ := (cz hb1)
  refine gJ ?_
  exact .inl ⟨rfl, (hN (cz hb1)).symm, GW.forget fun x => SubO.own (l := [(3, ⟨false, 1, 187, [.v (.func (.yield l) #[] #[])]⟩), (4, ⟨false, 1, 29, [zn D, zm D]⟩)]) ⟨rfl, rfl, trivial⟩ x⟩
 have hb1_ := (cp hb1)
 have hsb := cp hb1
 refine du ?_
 refine bB ?_
 refine bg hP ?_
 refine au hT rfl<|ab (ah cUn) ?_
 refine ab (aU hT rfl rfl rfl (by rfl)) ?_
 refine ak rfl<|ag<|dQ ?_
 refine j5 (ι := Nat) (fun j => stL [(3, .loc 3 0), (5, .loc 5 0), (6, .loc 6 0), (7, .loc 7 0), (33, .p (.c (SL enU us))), (34, Z (us.length : Int)), (35, Z (j : Int))] [(3, ⟨false, 1, 187, [.v (.func (.yield l) #[] #[])]⟩), (4, ⟨false, 1, 29, [zn D, zm D]⟩), (5, ⟨false, 1, 29, [zn b, zm b]⟩), (6, ⟨false, 1, 46, [zn (m : Int), zm (m : Int), zn b, zm b, zn C0, zm C0]⟩), (7, ⟨false, 1, 87, [zn M.a, zm M.a, zn M.b, zm M.b, zn M.c, zm M.c, zn M.d, zm M.d]⟩)]) (fun j => κ i + j) (fun j => j ≤ us.length) (fun j => us.length - j) 0 (Nat.zero_le _) rfl (aE ⟨.refl _, .refl _, .refl _, .refl _, .refl _, .refl _, .refl _, trivial⟩ ⟨rfl, rfl, rfl, rfl, rfl, trivial⟩) ?_
 intro j hj
 refine bB ?_
 refine bg hP ?_
 refine ab (a7 rfl rfl)<|ag<|bB ?_
 refine dN rfl (fun hb2 => ?_) (fun hb2 => ?_)
 ·have hb2_ := dT0 hb2
  have hjn : j < us.length := by omega
  have hgt := hgj j hsb hjn
  obtain ⟨⟨u1, u2⟩, u3, u4⟩ := hus _ (kY (d := (0, 0)) hjn)
  have iu1 : LB (us.getD j (0, 0)).1 3 := ⟨by unfold L; omega⟩
  have iu2 : LB (us.getD j (0, 0)).2 3 := ⟨by unfold L; omega⟩
  refine du ?_
  refine bB ?_
  refine dQ ?_
  refine bB ?_
  refine bg hP ?_
  refine ab (dy hT CT (by decide) (0, 0) (n := (j : Int)) (l := us) rfl rfl rfl rfl rfl rfl (by omega)) ?_
  refine ab (a8 hT rfl rfl rfl (cs := enU (us.getD j (0, 0))) rfl rfl) ?_
  refine ao ai (aB hT rfl rfl)<|aG hT rfl<|ag<|bB ?_
  refine bg hP ?_
  refine ab (aQ hT rfl rfl rfl rfl rfl (by first | decide | omega)) ?_
  refine bj hT rfl rfl rfl rfl ?_
  refine ab (ah (dZ _ (by unfold bn; omega))) ?_
  refine au hT rfl<|ab (aQ hT rfl rfl rfl rfl rfl (by first | decide | omega)) ?_
  refine bj hT rfl rfl rfl rfl ?_
  refine ab (ah (dZ _ (by unfold bn; omega))) ?_
  refine ab (ah (dp b (us.getD j (0, 0)).2 lz lz)) ?_
  refine ab (ah (iO (us.getD j (0, 0)).1 (b * (us.getD j (0, 0)).2) lz lz)) ?_
  refine ab (ah (dZ 2 (by decide))) ?_
  refine ab (ah (da ((us.getD j (0, 0)).1 - b * (us.getD j (0, 0)).2) 2 lz lz (by omega))) ?_
  refine ab (aw (rfl : _ = AV.t _))<|ab (ay rfl (v := .a _) rfl)<|ab (ay rfl (v := .a _) rfl)<|ab (ay rfl (v := .c _) rfl)<|ao ai (aB hT rfl rfl)<|ao ai (aB hT rfl rfl)<|aG hT rfl<|aG hT rfl<|aj rfl<|ag<|bB ?_
  refine bg hP ?_
  refine aJ hT rfl<|au hT rfl<|ab (aQ hT rfl rfl rfl rfl rfl (by first | decide | omega)) ?_
  refine bj hT rfl rfl rfl rfl ?_
  refine ab (ah (dZ _ (by unfold bn; omega))) ?_
  refine ab (ah (dp (m : Int) (us.getD j (0, 0)).2 lz lz)) ?_
  refine ao ai (aB hT rfl rfl)<|aG hT rfl<|ag<|bB ?_
  refine bg hP ?_
  refine aJ hT rfl<|au hT rfl<|au hT rfl<|ab (ah (dp M.a (((us.getD j (0, 0)).1 - b * (us.getD j (0, 0)).2) / 2) lz lz)) ?_
  refine aJ hT rfl<|au hT rfl<|au hT rfl<|ab (ah (dp M.b ((m : Int) * (us.getD j (0, 0)).2) lz lz)) ?_
  refine ab (ah (dA (M.a * (((us.getD j (0, 0)).1 - b * (us.getD j (0, 0)).2) / 2)) (M.b * ((m : Int) * (us.getD j (0, 0)).2)) lz lz)) ?_
  refine ao ai (aB hT rfl rfl)<|aG hT rfl<|ag<|bB ?_
  refine bg hP ?_
  refine aJ hT rfl<|au hT rfl<|au hT rfl<|ab (ah (dp M.c (((us.getD j (0, 0)).1 - b * (us.getD j (0, 0)).2) / 2) lz lz)) ?_
  refine aJ hT rfl<|au hT rfl<|au hT rfl<|ab (ah (dp M.d ((m : Int) * (us.getD j (0, 0)).2) lz lz)) ?_
  refine ab (ah (dA (M.c * (((us.getD j (0, 0)).1 - b * (us.getD j (0, 0)).2) / 2)) (M.d * ((m : Int) * (us.getD j (0, 0)).2)) lz lz)) ?_
  refine ao ai (aB hT rfl rfl)<|aG hT rfl<|ag<|bB ?_
  refine kw ?_
  refine RY.val ai (bV hT rfl rfl rfl rfl (by first | rfl | exact eT (by omega))) ?_
  refine RY.val ai (aI hT rfl rfl rfl rfl (cs := [_, _]) rfl rfl) ?_
  refine RY.val ai (aI hT rfl rfl rfl rfl (cs := [_, _]) rfl rfl) ?_
  refine RY.val ai (cY hT rfl rfl rfl (es := [_, _, _, _]) rfl) ?_
  refine RY.yield hK ai rfl rfl hgt ?_
  intro bb
  refine RY.val ai (bt rfl) ?_
  refine RY.done ?_
  refine dN rfl (fun hb3 => ?_) (fun hb3 => ?_)
  ·have hb3_ := (cz hb3)
   refine lx ?_
   exact .inr ⟨rfl, uw (cz hb3)⟩
  have hb3_ := (cp hb3)
  refine du ?_
  refine bg hP ?_
  refine bA rfl rfl ?_
  refine ak rfl<|ag ?_
  refine ⟨j + 1, by omega, by omega, (uv (cp hb3)).symm, aE ⟨.refl _, .refl _, .refl _, .refl _, .refl _, .refl _, aO (by omega), trivial⟩ ⟨rfl, rfl, rfl, rfl, rfl, trivial⟩⟩
 have hb2_ := dF0 hb2
 have hjl : us.length = j := by omega
 refine gJ ?_
 exact .inl ⟨rfl, by rw [hY hsb, hjl], GW.forget fun x => SubO.own (l := [(3, ⟨false, 1, 187, [.v (.func (.yield l) #[] #[])]⟩), (4, ⟨false, 1, 29, [zn D, zm D]⟩)]) ⟨rfl, rfl, trivial⟩ x⟩
end
section
open Go Go.AM
theorem wM (o x : Fm) (u : Value) :
  aF Tryz.prog 214 [FA (o).a (o).b (o).c, FA (x).a (x).b (x).c, I 0, .p (.c (.v u))] (FA (o).a (o).b (o).c) := by
 refine aK Tryz.func214 rfl rfl rfl rfl ?_
 refine ae hP<|ao ai (aN rfl rfl)<|ao ai (aN rfl rfl)<|ao ai (aN rfl rfl)<|ao ai (aB hT rfl rfl)<|ag<|an<|ae hP<|au hT rfl<|ab (ah (rc _)) ?_
 refine ak rfl<|ag<|aA<|dH 1 ?_
 refine ae hP<|ab (a7 rfl rfl)<|ag<|an<|aP rfl (by decide) ?_
 refine a6<|ae hP<|bD hT rfl rfl rfl rfl rfl rfl<|aG hT rfl<|ag<|am ?_
 refine b8 rfl (.inr rfl) (aT hT rfl rfl rfl rfl (cs := [_, _, _, _, _, _]) rfl rfl) ?_ br
 exact .refl _
theorem wO (f : Fm) (hfa : L 6 f.a) (hfb : L 6 f.b) (hfc : L 6 f.c) :
  aF Tryz.prog 183 [FA f.a f.b f.c, I 0] (FA ((prF (dsc f.a f.b f.c))).a ((prF (dsc f.a f.b f.c))).b ((prF (dsc f.a f.b f.c))).c) := by
 have fa : LB f.a 6 := ⟨hfa⟩
 have fb : LB f.b 6 := ⟨hfb⟩
 have fc : LB f.c 6 := ⟨hfc⟩
 refine aK Tryz.func183 rfl rfl rfl rfl ?_
 refine ae hP<|ao ai (aN rfl rfl)<|ao ai (aN rfl rfl)<|ao ai (aB hT rfl rfl)<|ag<|an<|ae hP<|aJ hT rfl<|bj hT rfl rfl rfl rfl ?_
 refine ag<|aP rfl rfl<|aq<|ae hP<|bD hT rfl rfl rfl rfl rfl rfl<|ab (ah (rM _ _ _ lz lz lz)) ?_
 refine bD hT rfl rfl rfl rfl rfl rfl<|ab (ah (uV _ _ _ lz lz lz)) ?_
 refine au hT rfl<|ab (ah (wM _ _ _)) ?_
 refine aG hT rfl<|ag<|am ?_
 refine b8 rfl (.inr rfl) (aT hT rfl rfl rfl rfl (cs := [_, _, _, _, _, _]) rfl rfl) ?_ br
 exact .refl _
theorem wP (f : Fm) (hfa : L 6 f.a) (hfb : L 6 f.b) (hfc : L 6 f.c) :
  aF Tryz.prog 131 [FA f.a f.b f.c, I 0] (.t [PF (pz0 f), PE (rfE f)]) := by
 have fa : LB f.a 6 := ⟨hfa⟩
 have fb : LB f.b 6 := ⟨hfb⟩
 have fc : LB f.c 6 := ⟨hfc⟩
 refine aK Tryz.func131 rfl rfl rfl rfl ?_
 refine ae hP<|ao ai (aN rfl rfl)<|ao ai (aN rfl rfl)<|ao ai (aB hT rfl rfl)<|aj rfl<|ag<|an<|ae hP<|bD hT rfl rfl rfl rfl rfl rfl<|ab (ah (uU _ _ _ lz lz lz)) ?_
 refine aj rfl<|ag<|ae hP<|ak rfl<|ab (bl rfl rfl)<|ag ?_
 refine az rfl (fun hb1 => ?_) (fun hb1 => ?_)
 ·have hb1_ := cn hb1
  refine ae hP<|ab (aV hT rfl rfl rfl (es := [_, _, _, _, _, _]) rfl)<|ak rfl<|aG hT rfl<|aj rfl<|ag<|am ?_
  refine b9 rfl (.inr rfl) (aT hT rfl rfl rfl rfl (cs := [_, _, _, _, _, _]) rfl rfl) (bM rfl) ?_ br
  exact aD (IQ hb1_)
 have hb1_ := bY hb1
 refine aq<|ae hP<|bD hT rfl rfl rfl rfl rfl rfl<|au hT rfl<|ab (ah (wO f hfa hfb hfc)) ?_
 refine aG hT rfl<|aj rfl<|ag<|am ?_
 refine b9 rfl (.inr rfl) (aT hT rfl rfl rfl rfl (cs := [_, _, _, _, _, _]) rfl rfl) (bM rfl) ?_ br
 exact aD (IP hb1_)
end
end Go.Proofs.YthaiejfjnllglaaGreatDoor
section
end
namespace Go.Proofs.YthaiejfjnllglaaGreatDoor
section
open Go Go.AM
theorem BS (D i0 i1 i2 i3 m0 m1 m2 m3 : Nat) (_hD : D < 65536) (_g0 : i0 < 65536) (_g1 : i1 < 65536) (_g2 : i2 < 65536) (_g3 : i3 < 65536) (_k0 : m0 < 256) (_k1 : m1 < 256) (_k2 : m2 < 256) (_k3 : m3 < 256) :
  aF Tryz.prog 11 [.p (.a [.v (.int .u16 (D : Int)), .v (.int .u16 (i0 : Int)), .v (.int .u16 (i1 : Int)), .v (.int .u16 (i2 : Int)), .v (.int .u16 (i3 : Int)), .v (.int .u8 (m0 : Int)), .v (.int .u8 (m1 : Int)), .v (.int .u8 (m2 : Int)), .v (.int .u8 (m3 : Int))])] (Z (szz D)) := by
 obtain ⟨s1, s2, s3, s4, s5⟩ := iW D
 have d1 := Int.emod_nonneg (D : Int) (show (2000 : Int) ≠ 0 by omega)
 have d2 := Int.emod_lt_of_pos (D : Int) (show (0 : Int) < 2000 by omega)
 refine aK Tryz.func11 rfl rfl rfl rfl ?_
 refine ae hP<|ao ai (aN rfl rfl)<|aj rfl<|ag<|ae hP<|aJ hT rfl<|bj hT rfl rfl rfl rfl ?_
 refine ab (cQ rfl rfl (by decide) (c := (D : Int) % 2000) (Int.tmod_eq_emod_of_nonneg (by omega))) ?_
 refine ab (bh hT rfl rfl rfl rfl (iW0 _ (by omega))) ?_
 refine bA rfl rfl ?_
 refine aj rfl<|ag<|an<|aA<|bq (ι := Int) (fun n => stL [(3, Z n)] []) (fun n => 3 + (D : Int) % 2000 ≤ n ∧ n ≤ szz D) (fun n => (szz D - n).toNat) (3 + (D : Int) % 2000) ⟨Int.le_refl _, s1⟩ (aE ⟨.refl _, trivial⟩ trivial) ?_
 rintro n ⟨hn1, hn2⟩
 refine an<|ae hP<|ak rfl<|ab (cQ rfl rfl (by decide) (c := n % 4) (Int.tmod_eq_emod_of_nonneg (by omega))) ?_
 refine ab (bl rfl rfl)<|ak rfl ?_
 refine aZ (t := 12) rfl (fun hg1 => ?_) (fun hg1 => ?_)
 ·have hg1_ := cn hg1
  refine aC hg1 (aw (rfl : _ = AV.p (.c _))) ?_
  refine aC hg1 (cQ rfl rfl (by decide) (c := n % 4) (Int.tmod_eq_emod_of_nonneg (by omega))) ?_
  refine aC hg1 (bl rfl rfl) ?_
  refine ab (aM rfl hg1 (rfl : _ = AV.p (.c _)))<|ag ?_
  refine az rfl (fun hb2 => ?_) (fun hb2 => ?_)
  ·have hb2_ := cn hb2
   refine aq<|aA<|av hP<|ak rfl<|bA rfl rfl ?_
   refine aj rfl<|ag ?_
   have hne : n ≠ szz D := by
    rintro rfl
    have := cn hg1
    have := cn hb2
    omega
   refine ⟨n + 1, ⟨by omega, by omega⟩, by omega, aE ⟨.refl _, trivial⟩ trivial⟩
  have hb2_ := bY hb2
  refine a6<|ae hP<|ak rfl<|aj rfl<|ag<|am<|E1 rfl rfl ?_
  exact aO (s5 n hn1 hn2 (.inr (bY hb2)))
 have hg1_ := bY hg1
 iterate 3 refine aW hg1 ?_
 refine ab (aL rfl hg1 (rfl : _ = AV.p (.c _)))<|ag<|aP rfl rfl<|a6<|ae hP<|ak rfl<|aj rfl<|ag<|am<|E1 rfl rfl ?_
 exact aO (s5 n hn1 hn2 (.inl (bY hg1)))
end
section
open Go Go.AM
theorem Fv (b : Bool) :
  aF Tryz.prog 188 [.p (.c (.v (.bool b)))] (Z (sgB b)) := by
 refine aK Tryz.func188 rfl rfl rfl rfl ?_
 refine ae hP<|aj rfl<|ag<|an<|ae hP<|ak rfl<|ag ?_
 refine az rfl (fun hb1 => ?_) (fun hb1 => ?_)
 ·refine ae hP<|aj rfl<|ag<|am<|E1 rfl rfl ?_
  exact aO (GR hb1)
 refine aq<|ae hP<|aj rfl<|ag<|am<|E1 rfl rfl ?_
 exact aO (GS hb1)
theorem tZ (l : List Int) (x : Int) (hl : (l.length : Int) ≤ 1000000) :
  aF Tryz.prog 222 [.p (.c (IS l)), Z x] (Z (ixV l x)) := by
 refine aK Tryz.func222 rfl rfl rfl rfl ?_
 refine ae hP<|aj rfl<|ag<|an<|ae hP<|ak rfl<|ab (aU hT rfl rfl rfl (by rfl)) ?_
 refine ak rfl<|ag<|aA<|bq (ι := Nat) (fun k => stL [(0, .p (.c (IS l))), (1, Z x), (7, Z (l.length : Int)), (8, Z (k : Int))] []) (fun k => k ≤ l.length ∧ k ≤ l.findIdx (· == x)) (fun k => l.length - k) 0 ⟨Nat.zero_le _, Nat.zero_le _⟩ (aE ⟨.refl _, .refl _, .refl _, .refl _, trivial⟩ trivial) ?_
 rintro k ⟨hk1, hk2⟩
 refine ae hP<|ab (a7 rfl rfl)<|ag<|an ?_
 refine az rfl (fun hb1 => ?_) (fun hb1 => ?_)
 ·have hb1_ := dT0 hb1
  refine aq<|an<|aA<|ae hP<|ak rfl<|aj rfl<|ag<|ae hP<|ak rfl<|ak rfl<|ak rfl<|ab (kR hT (n := k) rfl rfl rfl rfl rfl rfl (by omega)) ?_
  refine ab (cf hT rfl rfl rfl rfl)<|ab (bo rfl rfl)<|ag ?_
  refine az rfl (fun hb2 => ?_) (fun hb2 => ?_)
  ·have hb2_ := bT hb2
   refine ae hP<|ak rfl<|aj rfl<|ag<|am<|E1 rfl rfl ?_
   exact aO (Ff hk2 hb1_ hb2_).symm
  have hb2_ := bF hb2
  refine aq<|av hP<|bA rfl rfl ?_
  refine ak rfl<|ag ?_
  have hn2 := uP hk2 hb1_ hb2_
  refine ⟨k + 1, ⟨by omega, hn2⟩, by omega, aE ⟨.refl _, .refl _, .refl _, aO (by omega), trivial⟩ trivial⟩
 have hb1_ := dF0 hb1
 refine a6<|ae hP<|aj rfl<|ag<|am<|E1 rfl rfl ?_
 exact aO (Fg hk2 hb1_).symm
theorem pj (l : List Int) (x : Int) (hl : (l.length : Int) ≤ 1000000) :
  aF Tryz.prog 189 [.p (.c (IS l)), Z x] (B (nP l x)) := by
 refine aK Tryz.func189 rfl rfl rfl rfl ?_
 refine ae hP<|aj rfl<|ag<|ae hP<|ak rfl<|ak rfl<|ab (ah (tZ l x hl)) ?_
 refine ab (dB rfl rfl)<|aj rfl<|ag<|am<|E1 rfl rfl ?_
 exact .refl _
theorem uN (m : Int) (l : List Int) (hm : 0 ≤ m) (hl : (l.length : Int) ≤ 1000000) :
  aF Tryz.prog 187 [Z m, .ip [IS l]] (Z (sgB (nP l (m % 8)))) := by
 refine aK Tryz.func187 rfl rfl rfl rfl ?_
 refine ae hP<|aj rfl<|ag<|ae hP<|cr hT rfl rfl rfl ?_
 refine ak rfl<|ab (cQ rfl rfl (by decide) (c := m % 8) (Int.tmod_eq_emod_of_nonneg hm)) ?_
 refine ab (ah (pj l (m % 8) hl)) ?_
 refine ab (ah (Fv _)) ?_
 refine aj rfl<|ag<|am<|E1 rfl rfl ?_
 exact .refl _
theorem Fw (m p : Int) (hm : bn m) (hp : bn p) :
  aF Tryz.prog 186 [Z m, .ip [IC p]] (Z (kr m p)) := by
 have im : LB m 6 := ⟨by unfold L; unfold bn at hm; omega⟩
 have ip : LB p 6 := ⟨by unfold L; unfold bn at hp; omega⟩
 refine aK Tryz.func186 rfl rfl rfl rfl ?_
 refine ae hP<|aj rfl<|ag<|ae hP<|ak rfl<|ab (ah (dC m hm)) ?_
 refine cr hT rfl rfl rfl ?_
 refine ab (ah (dC p hp)) ?_
 refine ab (ah (gP _ _ lz lz)) ?_
 refine aj rfl<|ag<|am<|E1 rfl rfl ?_
 exact .refl _
theorem k9 (c : Int) (l : List Int) :
  aF Tryz.prog 144 [Z c, .p (.c (IS l))] (.p (.a [IC c, .fn 187 [.ip [IS l]]])) := by
 refine aK Tryz.func144 rfl rfl rfl rfl ?_
 refine ae hP<|ao ai (aN rfl rfl)<|ao ai (aB hT rfl rfl)<|ag<|cq (t := 3) rfl rfl ?_
 refine ae hP<|ak rfl<|ab (jf rfl)<|ab (aV hT rfl rfl rfl (es := [_, _]) rfl)<|aG hT rfl<|ag<|am<|E2 hT rfl rfl rfl rfl rfl rfl rfl ?_
 exact .refl _
theorem HS (p : Int) (h : 3 ≤ p) (ho : p % 2 = 1) :
  aF Tryz.prog 143 [Z p] (.p (.a (chC 186 187 p))) := by
 refine aK Tryz.func143 rfl rfl rfl rfl ?_
 refine ae hP<|ao ai (aN rfl rfl)<|ao ai (aB hT rfl rfl)<|ag<|cq (t := 1) rfl rfl ?_
 refine ae hP<|cr hT rfl rfl rfl ?_
 refine ab (jf rfl)<|ab (aV hT rfl rfl rfl (es := [_, _]) rfl)<|aG hT rfl<|ag<|am<|E2 hT rfl rfl rfl rfl rfl rfl rfl ?_
 exact aD (by rw [← Cc h ho]; rfl)
end
section
open Go Go.AM
theorem nc (d : Int) (h0 : d < 0) (h1 : -4194304 ≤ d) :
  aF Tryz.prog 78 [Z d] (.p (.c (CS 186 187 (chs d)))) := by
 refine aK Tryz.func78 rfl rfl rfl rfl ?_
 refine ae hP<|aj rfl<|ag<|ae hP<|aj rfl<|ag<|mz 3 1000 2 142 rfl rfl ?_
 refine ae hP<|ak rfl<|ab (fL rfl (c := -d) (by rw [iW0 _ (by omega)]; omega)) ?_
 refine aj rfl<|ag<|an<|aA<|bq (ι := Int) (fun m => stL [(0, Z d), (3, .vec 1000), (4, Z m)] [(1000, CB 186 187 142 [])]) (fun m => (0 < m ∧ m ≤ 4194304) ∧ rmp m 2 = (rmp (-d) 2)) (fun m => m.toNat) (-d) ⟨by omega, rfl⟩ (aE ⟨.refl _, .refl _, .refl _, trivial⟩ ⟨rfl, trivial⟩) ?_
 rintro m ⟨hm, hr⟩
 refine an<|ae hP<|ak rfl<|ab (cQ rfl rfl (by omega) (c := m % 2) (Int.tmod_eq_emod_of_nonneg (by omega))) ?_
 refine ab (bo rfl rfl)<|ag ?_
 refine az rfl (fun hb1 => ?_) (fun hb1 => ?_)
 ·have hb1_ := bT hb1
  refine aq<|aA<|av hP<|ak rfl<|ab (eh rfl rfl (by omega) (c := m / 2) (by rw [Int.tdiv_eq_ediv_of_nonneg (by omega), iW0 _ (by omega)])) ?_
  refine aj rfl<|ag ?_
  have hdd := gF hm.1 (by decide) hb1_
  refine ⟨m / 2, ⟨by omega, by rw [iM (by decide) hm.1 hb1_, hr]⟩, by omega, aE ⟨.refl _, .refl _, .refl _, trivial⟩ ⟨rfl, trivial⟩⟩
 have hb1_ := bF hb1
 refine a6<|an<|ae hP<|aj rfl<|ag<|aA ?_
 have hm2 : m = (rmp (-d) 2) := by rw [← hr, jT hb1_]
 refine bq (ι := Int × Int × List Int) (fun q => stL [(0, Z d), (3, .vec 1000), (4, Z q.1), (5, Z q.2.1)] [(1000, CB 186 187 142 q.2.2)]) (fun q => OcI (rmp (-d) 2) q.1 q.2.1 q.2.2) (fun q => ocM q.1 q.2.1) (m, 3, []) (by have := OcI.start (n := m) (by omega) (by omega) (by omega); rw [hm2] at this ⊢; exact this) (aE ⟨.refl _, .refl _, .refl _, .refl _, trivial⟩ ⟨rfl, trivial⟩) ?_
 intro q i
 have in1 := i.n1
 have inb := i.nb
 have ip3 := i.p3
 have il := i.len.1
 refine an<|ae hP<|ak rfl<|ab (bU rfl rfl)<|ag ?_
 refine az rfl (fun hb2 => ?_) (fun hb2 => ?_)
 ·have hb2_ := dT0 hb2
  have ipb := i.pb hb2_
  have hsq := kK (x := q.2.1) (m := 2051) (by omega)
  refine aq<|an<|aA<|cy (ι := Int) (fun r => stL [(0, Z d), (3, .vec 1000), (4, Z q.1), (5, Z r)] [(1000, CB 186 187 142 q.2.2)]) (fun r => QI q.1 q.2.1 r) ?_ ?_
  ·refine ae hP<|ak rfl<|ak rfl<|ab (bK rfl rfl (by first | exact iW0 _ (by omega) | rfl)) ?_
   refine ak rfl<|ab (bU rfl rfl)<|ag ?_
   refine az rfl (fun hb3 => ?_) (fun hb3 => ?_)
   ·have hb3_ := dT0 hb3
    refine av hP<|ak rfl<|aj rfl<|ag ?_
    refine ⟨q.1, .inl ⟨rfl, hb3_⟩, aE ⟨.refl _, .refl _, .refl _, .refl _, trivial⟩ ⟨rfl, trivial⟩⟩
   have hb3_ := dF0 hb3
   refine aq ?_
   refine ⟨q.2.1, .inr ⟨rfl, hb3_⟩, aE ⟨.refl _, .refl _, .refl _, .refl _, trivial⟩ ⟨rfl, trivial⟩⟩
  intro r hQ
  obtain ⟨hq3, hqo, hqb⟩ := i.q3 hb2_ hQ
  refine an<|ae hP<|ak rfl<|ak rfl<|ab (cQ rfl rfl (by omega) (c := q.1 % r) (Int.tmod_eq_emod_of_nonneg (by omega))) ?_
  refine ab (bo rfl rfl)<|ag ?_
  refine az rfl (fun hb4 => ?_) (fun hb4 => ?_)
  ·have hb4_ := bT hb4
   obtain ⟨out', ho', hR⟩ : ∃ o, o = q.2.2 ++ [r] ∧ RI q.1 q.2.1 r q.2.2 o := ⟨_, rfl, hQ.yes hb4_⟩
   refine av hP<|ab (aw (rfl : _ = AV.vec _))<|ak rfl<|ab (ah (HS r hq3 hqo)) ?_
   refine ab (bd hT rfl rfl rfl (es := [_, _]) rfl rfl rfl)<|RK.app ai (ew (fo := 186) (fs := 187) (c := [r]) hT rfl rfl rfl rfl rfl rfl rfl rfl rfl (by simp only [List.length_cons, List.length_nil]; omega) (by decide)) ?_
   refine ab (bi (rfl : _ = AV.vec _))<|ag<|eZ 34 1000 rfl rfl rfl ?_
   refine aA<|bq (ι := Int) (fun m => stL [(0, Z d), (3, .vec 1000), (4, Z m), (5, Z r)] [(1000, CB 186 187 142 out')]) (fun m => (0 < m ∧ m ≤ 4194304) ∧ rmp m r = rmp q.1 r) (fun m => m.toNat) q.1 ⟨by omega, rfl⟩ (aE ⟨.refl _, .refl _, .refl _, .refl _, trivial⟩ ⟨Eq.trans rfl (congrArg (fun x => some (CB 186 187 142 x)) ho'.symm), trivial⟩) ?_
   rintro m ⟨hm, hrm⟩
   refine an<|ae hP<|ak rfl<|ak rfl<|ab (cQ rfl rfl (by omega) (c := m % r) (Int.tmod_eq_emod_of_nonneg (by omega))) ?_
   refine ab (bo rfl rfl)<|ag ?_
   refine az rfl (fun hb5 => ?_) (fun hb5 => ?_)
   ·have hb5_ := bT hb5
    have hdd := gF hm.1 (by omega) ‹m % r = 0›
    refine aq<|aA<|av hP<|ak rfl<|ak rfl<|ab (eh rfl rfl (by omega) (c := m / r) (by rw [Int.tdiv_eq_ediv_of_nonneg (by omega), iW0 _ (by omega)])) ?_
    refine aj rfl<|ag ?_
    refine ⟨m / r, ⟨by omega, by rw [iM (by omega) hm.1 ‹m % r = 0›, hrm]⟩, by omega, aE ⟨.refl _, .refl _, .refl _, .refl _, trivial⟩ ⟨rfl, trivial⟩⟩
   have hb5_ := bF hb5
   refine a6<|av hP<|ak rfl<|bA rfl rfl ?_
   refine aj rfl<|ag ?_
   have hcl := i.close hb2_ hR
   have em : m = rmp q.1 r := by rw [← hrm, jT ‹m % r ≠ 0›]
   refine ⟨(rmp q.1 r, r + 2, out'), hcl.1, hcl.2, aE ⟨.refl _, .refl _, aO em, .refl _, trivial⟩ ⟨rfl, trivial⟩⟩
  have hb4_ := bF hb4
  obtain ⟨out', ho', hR⟩ : ∃ o, o = q.2.2 ∧ RI q.1 q.2.1 r q.2.2 o := ⟨_, rfl, hQ.no hb2_ hb4_⟩
  refine aq<|aA<|bq (ι := Int) (fun m => stL [(0, Z d), (3, .vec 1000), (4, Z m), (5, Z r)] [(1000, CB 186 187 142 out')]) (fun m => (0 < m ∧ m ≤ 4194304) ∧ rmp m r = rmp q.1 r) (fun m => m.toNat) q.1 ⟨by omega, rfl⟩ (aE ⟨.refl _, .refl _, .refl _, .refl _, trivial⟩ ⟨Eq.trans rfl (congrArg (fun x => some (CB 186 187 142 x)) ho'.symm), trivial⟩) ?_
  rintro m ⟨hm, hrm⟩
  refine an<|ae hP<|ak rfl<|ak rfl<|ab (cQ rfl rfl (by omega) (c := m % r) (Int.tmod_eq_emod_of_nonneg (by omega))) ?_
  refine ab (bo rfl rfl)<|ag ?_
  refine az rfl (fun hb6 => ?_) (fun hb6 => ?_)
  ·have hb6_ := bT hb6
   have hdd := gF hm.1 (by omega) ‹m % r = 0›
   refine aq<|aA<|av hP<|ak rfl<|ak rfl<|ab (eh rfl rfl (by omega) (c := m / r) (by rw [Int.tdiv_eq_ediv_of_nonneg (by omega), iW0 _ (by omega)])) ?_
   refine aj rfl<|ag ?_
   refine ⟨m / r, ⟨by omega, by rw [iM (by omega) hm.1 ‹m % r = 0›, hrm]⟩, by omega, aE ⟨.refl _, .refl _, .refl _, .refl _, trivial⟩ ⟨rfl, trivial⟩⟩
  have hb6_ := bF hb6
  refine a6<|av hP<|ak rfl<|bA rfl rfl ?_
  refine aj rfl<|ag ?_
  have hcl := i.close hb2_ hR
  have em : m = rmp q.1 r := by rw [← hrm, jT ‹m % r ≠ 0›]
  refine ⟨(rmp q.1 r, r + 2, out'), hcl.1, hcl.2, aE ⟨.refl _, .refl _, aO em, .refl _, trivial⟩ ⟨rfl, trivial⟩⟩
 have hb2_ := dF0 hb2
 refine a6<|an<|ae hP<|ak rfl<|ab (cQ rfl rfl (by decide) (c := d.tmod 4) rfl) ?_
 refine ab (bl rfl rfl)<|ag ?_
 refine az rfl (fun hb7 => ?_) (fun hb7 => ?_)
 ·have hb7_ := cn hb7
  refine ae hP<|ab (aw (rfl : _ = AV.vec _))<|ab (bi (rfl : _ = AV.vec _))<|ag<|dM (t := 2) rfl rfl ?_
  refine am<|E1 rfl rfl ?_
  exact aD (by rw [i.fin hb2_, H6 hb7_])
 have hb7_ := bY hb7
 refine aq<|ae hP<|ab (bd hT rfl rfl rfl (es := [_, _]) rfl rfl rfl)<|ab (ah (k9 (-4) [1, 5])) ?_
 refine ab (bd hT rfl rfl rfl (es := [_, _]) rfl rfl rfl)<|ab (ah (k9 8 [1, 7])) ?_
 refine ab (bd hT rfl rfl rfl (es := [_, _]) rfl rfl rfl)<|ab (ah (k9 (-8) [1, 3])) ?_
 refine ao ai (aB hT rfl rfl)<|ao ai (aB hT rfl rfl)<|ao ai (aB hT rfl rfl)<|aG hT rfl<|aG hT rfl<|aG hT rfl<|ag<|an<|ae hP<|ak rfl<|ab (fL rfl (c := -d) (by rw [iW0 _ (by omega)]; omega)) ?_
 refine ab (eh rfl rfl (by omega) (c := -d / 4) (by rw [Int.tdiv_eq_ediv_of_nonneg (by omega), iW0 _ (by omega)])) ?_
 refine ab (cQ rfl rfl (by omega) (c := -d / 4 % 8) (Int.tmod_eq_emod_of_nonneg (by omega))) ?_
 refine ag<|aA<|ae hP<|ab (bo rfl rfl)<|aj rfl<|ag ?_
 refine az rfl (fun hb8 => ?_) (fun hb8 => ?_)
 ·have hb8_ := bT hb8
  refine av hP<|ab (aw (rfl : _ = AV.vec _))<|au hT rfl<|au hT rfl<|ab (bd hT rfl rfl rfl (es := [_, _, _, _]) rfl rfl rfl)<|RK.app ai (ew (fo := 186) (fs := 187) (c := [-4, 8]) hT rfl rfl rfl rfl rfl rfl rfl rfl rfl (by simp only [List.length_cons, List.length_nil]; omega) (by decide)) ?_
  refine ab (bi (rfl : _ = AV.vec _))<|ag<|eZ 62 1000 rfl rfl rfl ?_
  refine ae hP<|ab (aw (rfl : _ = AV.vec _))<|ab (bi (rfl : _ = AV.vec _))<|ag<|dM (t := 2) rfl rfl ?_
  refine am<|E1 rfl rfl ?_
  exact aD (by rw [i.fin hb2_, lR hb7_ (GL hb7_ hb8_)])
 have hb8_ := bF hb8
 refine an<|ae hP<|ab (bo rfl rfl)<|aj rfl<|ag ?_
 refine az rfl (fun hb9 => ?_) (fun hb9 => ?_)
 ·have hb9_ := bT hb9
  refine aq<|aS rfl hb9<|av hP<|ab (aw (rfl : _ = AV.vec _))<|au hT rfl<|ab (bd hT rfl rfl rfl (es := [_, _]) rfl rfl rfl)<|RK.app ai (ew (fo := 186) (fs := 187) (c := [-4]) hT rfl rfl rfl rfl rfl rfl rfl rfl rfl (by simp only [List.length_cons, List.length_nil]; omega) (by decide)) ?_
  refine ab (bi (rfl : _ = AV.vec _))<|ag<|eZ 70 1000 rfl rfl rfl ?_
  refine ae hP<|ab (aw (rfl : _ = AV.vec _))<|ab (bi (rfl : _ = AV.vec _))<|ag<|dM (t := 2) rfl rfl ?_
  refine am<|E1 rfl rfl ?_
  exact aD (by rw [i.fin hb2_, lR hb7_ (tX hb7_ hb8_ (.inl hb9_))])
 have hb9_ := bF hb9
 refine ae hP<|ab (bo rfl rfl)<|aj rfl<|ag ?_
 refine az rfl (fun hb10 => ?_) (fun hb10 => ?_)
 ·have hb10_ := bT hb10
  refine aq<|aS rfl hb10<|av hP<|ab (aw (rfl : _ = AV.vec _))<|au hT rfl<|ab (bd hT rfl rfl rfl (es := [_, _]) rfl rfl rfl)<|RK.app ai (ew (fo := 186) (fs := 187) (c := [-4]) hT rfl rfl rfl rfl rfl rfl rfl rfl rfl (by simp only [List.length_cons, List.length_nil]; omega) (by decide)) ?_
  refine ab (bi (rfl : _ = AV.vec _))<|ag<|eZ 70 1000 rfl rfl rfl ?_
  refine ae hP<|ab (aw (rfl : _ = AV.vec _))<|ab (bi (rfl : _ = AV.vec _))<|ag<|dM (t := 2) rfl rfl ?_
  refine am<|E1 rfl rfl ?_
  exact aD (by rw [i.fin hb2_, lR hb7_ (tX hb7_ hb8_ (.inr (.inl hb10_)))])
 have hb10_ := bF hb10
 refine av hP<|ab (bo rfl rfl)<|aj rfl<|ag ?_
 refine az rfl (fun hb11 => ?_) (fun hb11 => ?_)
 ·have hb11_ := bT hb11
  refine av hP<|ab (aw (rfl : _ = AV.vec _))<|au hT rfl<|ab (bd hT rfl rfl rfl (es := [_, _]) rfl rfl rfl)<|RK.app ai (ew (fo := 186) (fs := 187) (c := [-4]) hT rfl rfl rfl rfl rfl rfl rfl rfl rfl (by simp only [List.length_cons, List.length_nil]; omega) (by decide)) ?_
  refine ab (bi (rfl : _ = AV.vec _))<|ag<|eZ 70 1000 rfl rfl rfl ?_
  refine ae hP<|ab (aw (rfl : _ = AV.vec _))<|ab (bi (rfl : _ = AV.vec _))<|ag<|dM (t := 2) rfl rfl ?_
  refine am<|E1 rfl rfl ?_
  exact aD (by rw [i.fin hb2_, lR hb7_ (tX hb7_ hb8_ (.inr (.inr hb11_)))])
 have hb11_ := bF hb11
 refine ae hP<|ab (bo rfl rfl)<|aj rfl<|ag ?_
 refine az rfl (fun hb12 => ?_) (fun hb12 => ?_)
 ·have hb12_ := bT hb12
  refine av hP<|ab (aw (rfl : _ = AV.vec _))<|au hT rfl<|ab (bd hT rfl rfl rfl (es := [_, _]) rfl rfl rfl)<|RK.app ai (ew (fo := 186) (fs := 187) (c := [-8]) hT rfl rfl rfl rfl rfl rfl rfl rfl rfl (by simp only [List.length_cons, List.length_nil]; omega) (by decide)) ?_
  refine ab (bi (rfl : _ = AV.vec _))<|ag<|eZ 76 1000 rfl rfl rfl ?_
  refine ae hP<|ab (aw (rfl : _ = AV.vec _))<|ab (bi (rfl : _ = AV.vec _))<|ag<|dM (t := 2) rfl rfl ?_
  refine am<|E1 rfl rfl ?_
  exact aD (by rw [i.fin hb2_, lR hb7_ (GK hb7_ hb12_)])
 have hb12_ := bF hb12
 refine ae hP<|ab (bo rfl rfl)<|aj rfl<|ag ?_
 refine az rfl (fun hb13 => ?_) (fun hb13 => ?_)
 ·have hb13_ := bT hb13
  refine av hP<|ab (aw (rfl : _ = AV.vec _))<|au hT rfl<|ab (bd hT rfl rfl rfl (es := [_, _]) rfl rfl rfl)<|RK.app ai (ew (fo := 186) (fs := 187) (c := [8]) hT rfl rfl rfl rfl rfl rfl rfl rfl rfl (by simp only [List.length_cons, List.length_nil]; omega) (by decide)) ?_
  refine ab (bi (rfl : _ = AV.vec _))<|ag<|eZ 82 1000 rfl rfl rfl ?_
  refine ae hP<|ab (aw (rfl : _ = AV.vec _))<|ab (bi (rfl : _ = AV.vec _))<|ag<|dM (t := 2) rfl rfl ?_
  refine am<|E1 rfl rfl ?_
  exact aD (by rw [i.fin hb2_, lR hb7_ (GJ hb7_ hb13_)])
 have hb13_ := bF hb13
 refine aq<|ae hP<|ab (aw (rfl : _ = AV.vec _))<|ab (bi (rfl : _ = AV.vec _))<|ag<|dM (t := 2) rfl rfl ?_
 refine am<|E1 rfl rfl ?_
 exact aD (by rw [i.fin hb2_, GI hb7_ hb8_ hb9_ hb10_ hb11_ hb12_ hb13_])
end
section
open Go Go.AM
theorem yK (x : Int) (hx : 18446744073709551616 ≤ x.natAbs) :
  aF Tryz.prog 125 [I x] (.t [.c (.v (.int .i64 (lwV x))), PB (lwO x)]) := by
 have hl : ¬ (wl x.natAbs).length ≤ 2 := fun h => by have := EY h; omega
 refine aK Tryz.func125 rfl rfl rfl rfl ?_
 refine ae hP<|ao ai (aN rfl rfl)<|aj rfl<|aj rfl<|ag<|an<|ae hP<|aJ hT rfl<|bj hT rfl rfl rfl rfl ?_
 refine ab (aU hT rfl rfl rfl rfl)<|ab (bU rfl rfl)<|ag<|aS rfl (decide_eq_true (by omega)) ?_
 refine ae hP<|aj rfl<|aj rfl<|ag<|am<|E11 rfl rfl rfl ?_
 exact aD (HG (by omega))
theorem yM (x : Int) : aF Tryz.prog 125 [I x] (.t [.c (.v (.int .i64 (lwV x))), PB (lwO x)]) := by
 by_cases h : x.natAbs < 9223372036854775808
 ·have h1 := gC x (by omega) (by omega)
  have h2 := tr (a := x) (by omega)
  rw [h2.1, h2.2]; exact h1
 by_cases h1 : x.natAbs < 18446744073709551616
 ·exact yJ x (by omega)
 exact yK x (by omega)
theorem tD (d : Int) (hd : L 40 d) :
  aF Tryz.prog 142 [I d] (.t [PE (gnV d), PE (szE d)]) := by
 have id0 : LB d 40 := ⟨hd⟩
 have hm0 := Int.emod_nonneg d (show (4 : Int) ≠ 0 by omega)
 have hm1 := Int.emod_lt_of_pos d (show (0 : Int) < 4 by omega)
 refine aK Tryz.func142 rfl rfl rfl rfl ?_
 refine ae hP<|ao ai (aN rfl rfl)<|aj rfl<|aj rfl<|ag<|ae hP<|au hT rfl<|ab (ah (dC 4 (by decide))) ?_
 refine ab (ah (da d 4 lz lz (by decide))) ?_
 refine ab (aw (rfl : _ = AV.t _))<|ab (ay rfl (v := .a _) rfl)<|ab (ay rfl (v := .a _) rfl)<|ab (ay rfl (v := .c _) rfl)<|ao ai (aB hT rfl rfl)<|ao ai (aB hT rfl rfl)<|aG hT rfl<|aG hT rfl<|aj rfl<|ag<|ae hP<|au hT rfl<|ab (ah (yM d)) ?_
 refine ab (aw (rfl : _ = AV.t _))<|ab (ay rfl (v := .c _) rfl)<|ab (ay rfl (v := .c _) rfl)<|aj rfl<|aj rfl<|ag<|an<|aA<|ae hP<|au hT rfl<|ab (ah (cE _)) ?_
 refine ab (dB rfl rfl)<|ak rfl ?_
 refine aZ (t := 25) rfl (fun hg1 => ?_) (fun hg1 => ?_)
 ·have hg1_ := dT0 hg1
  iterate 4 refine aW hg1 ?_
  refine ab (aM rfl hg1 (rfl : _ = AV.p (.c _)))<|aj rfl<|ag<|aS rfl rfl<|ae hP<|aj rfl<|aj rfl<|ag<|am<|E11 rfl rfl rfl ?_
  exact aD (Fq (.inl (sgn_ge_iff.1 hg1_)))
 have hg1_ := dF0 hg1
 refine aC hg1 (aI hT rfl rfl rfl rfl (cs := [_, _]) rfl rfl) ?_
 refine aC hg1 (ah (dC 1 (by decide))) ?_
 refine aC hg1 (ah (c7 _ _)) ?_
 refine aC hg1 (bU rfl rfl) ?_
 refine ab (aL rfl hg1 (rfl : _ = AV.p (.c _)))<|aj rfl<|ag ?_
 refine az rfl (fun hb2 => ?_) (fun hb2 => ?_)
 ·have hb2_ := dT0 hb2
  refine ae hP<|aj rfl<|aj rfl<|ag<|am<|E11 rfl rfl rfl ?_
  exact aD (Fq (.inr (cmpI_gt_zero.1 hb2_)))
 have hb2_ := dF0 hb2
 have hn : ¬ (0 ≤ d ∨ d % 4 > 1) := fun h => h.elim (fun x => hg1_ (sgn_ge_iff.2 x)) (fun x => hb2_ (cmpI_gt_zero.2 x))
 refine ae hP<|ak rfl<|ab (bt rfl)<|ak rfl ?_
 refine aZ (t := 34) rfl (fun hg3 => ?_) (fun hg3 => ?_)
 ·have hg3_ := (cz hg3)
  refine aW hg3 ?_
  refine aW hg3 ?_
  refine ab (aM rfl hg3 (rfl : _ = AV.p (.c _)))<|aj rfl<|ag<|aS rfl rfl<|ae hP<|aj rfl<|aj rfl<|ag<|am<|E11 rfl rfl rfl ?_
  exact aD (Fs hn (by have := HI hg3_; omega))
 have hg3_ := (cp hg3)
 have hly := tr (lwO_iff.1 hg3_)
 refine aC hg3 (aw (rfl : _ = AV.p (.c _))) ?_
 refine aC hg3 (a7 rfl rfl) ?_
 refine ab (aL rfl hg3 (rfl : _ = AV.p (.c _)))<|aj rfl<|ag ?_
 refine az rfl (fun hb4 => ?_) (fun hb4 => ?_)
 ·have hb4_ := dT0 hb4
  refine ae hP<|aj rfl<|aj rfl<|ag<|am<|E11 rfl rfl rfl ?_
  exact aD (Fs hn (by have := hly.2; omega))
 have hb4_ := dF0 hb4
 refine aq<|ae hP<|ak rfl<|aj rfl<|aj rfl<|ag<|am<|E11 rfl rfl rfl ?_
 exact aD (by rw [hly.2]; exact I6 hn (by have := hly.2; omega))
theorem rp (d : Int) (hd : L 40 d) :
  aF Tryz.prog 139 [I d] (.t [.c (IS (chE d)), PE (szE d)]) := by
 have id0 : LB d 40 := ⟨hd⟩
 refine aK Tryz.func139 rfl rfl rfl rfl ?_
 refine ae hP<|ao ai (aN rfl rfl)<|aj rfl<|aj rfl<|ag<|ae hP<|au hT rfl<|ab (ah (tD _ hd)) ?_
 refine ab (aw (rfl : _ = AV.t _))<|ab (ay rfl (v := .c _) rfl)<|ab (ay rfl (v := .c _) rfl)<|aj rfl<|aj rfl<|ag<|an<|ae hP<|ak rfl<|ab (bl rfl rfl)<|ag ?_
 refine az rfl (fun hb1 => ?_) (fun hb1 => ?_)
 ·have hb1_ := cn hb1
  refine ae hP<|ak rfl<|aj rfl<|aj rfl<|ag<|am<|E11 rfl rfl rfl ?_
  exact (by rw [H9 hb1_]; exact Sub.tup ⟨DSub.nil_sl, DSub.refl _, trivial⟩)
 have hb1_ := bY hb1
 have he : szE d = 0 := hb1_
 obtain ⟨e1, e2, e3⟩ := uL he
 have cAs : aF Tryz.prog 78 [Z (gnV d)] (.p (.c (CS 186 187 (chs d)))) := by rw [e1]; exact nc d e2 e3
 have hcl := nZ e2 e3
 generalize hl : chs d = l at cAs hcl
 refine aq<|ae hP<|aj rfl<|ag<|mz 6 1000 1 3 rfl rfl ?_
 refine an<|ae hP<|ak rfl<|ab (ah cAs) ?_
 refine ab (aU hT rfl rfl rfl (by rfl)) ?_
 refine ak rfl<|ag<|aA<|bq (ι := Nat) (fun k => stL [(6, .vec 1000), (18, .p (.c (CS 186 187 l))), (19, Z (l.length : Int)), (20, Z (k : Int))] [(1000, IB 3 (l.take k))]) (fun k => k ≤ l.length) (fun k => l.length - k) 0 (Nat.zero_le _) (aE ⟨.refl _, .refl _, .refl _, .refl _, trivial⟩ ⟨rfl, trivial⟩) ?_
 intro k hk
 refine ae hP<|ab (a7 rfl rfl)<|ag<|an ?_
 refine az rfl (fun hb2 => ?_) (fun hb2 => ?_)
 ·have hb2_ := dT0 hb2
  refine aq<|an<|aA<|ae hP<|ab (oJ (fo := 186) (fs := 187) (n := (k : Int)) hT rfl rfl rfl rfl rfl rfl (by omega)) ?_
  refine ab (a8 hT rfl rfl rfl (cs := chC 186 187 (l.getD k 0)) rfl rfl) ?_
  refine ao ai (aB hT rfl rfl)<|aG hT rfl<|ag<|av hP<|ab (aw (rfl : _ = AV.vec _))<|aJ hT rfl<|bj hT rfl rfl rfl rfl ?_
  refine ab (bd hT rfl rfl rfl (es := [_]) rfl rfl rfl)<|RK.app ai (mS (z := l.getD k 0) hT rfl rfl rfl rfl rfl rfl rfl rfl (by rw [List.length_take]; omega) (by decide)) ?_
  refine ab (bi (rfl : _ = AV.vec _))<|ag<|eZ 28 1000 rfl rfl rfl ?_
  refine av hP<|bA rfl rfl ?_
  refine ak rfl<|ag ?_
  refine ⟨k + 1, by omega, by omega, aE ⟨.refl _, .refl _, .refl _, aO (by omega), trivial⟩ ⟨Eq.trans rfl (congrArg (fun x => some (IB 3 x)) (oj hb2_)), trivial⟩⟩
 have hb2_ := dF0 hb2
 refine a6<|ma (t := 6) rfl rfl ?_
 refine ae hP<|ak rfl<|aj rfl<|aj rfl<|ag<|am<|E11 rfl rfl rfl ?_
 exact aD (by rw [pS hb2_, he, Ar he, hl])
end
section
open Go Go.AM
theorem pF (a b : Int) (ha : bn a) (hb : bn b) :
  aF Tryz.prog 76 [Z a, Z b] (Z (gg a b)) := by
 refine aK Tryz.func76 rfl rfl rfl rfl ?_
 refine ae hP<|aj rfl<|ag<|an<|aA<|bq (ι := Int × Int) (fun p => stL [(0, Z p.1), (1, Z p.2)] []) (fun p => gg p.1 p.2 = gg a b ∧ bn p.1 ∧ bn p.2) (fun p => p.2.natAbs) (a, b) ⟨rfl, ha, hb⟩ (aE ⟨.refl _, .refl _, trivial⟩ trivial) ?_
 rintro p ⟨hG, hp1, hp2⟩
 refine an<|ae hP<|ak rfl<|ab (bl rfl rfl)<|ag ?_
 refine az rfl (fun hb1 => ?_) (fun hb1 => ?_)
 ·have hb1_ := cn hb1
  refine aq<|aA<|av hP<|ak rfl<|ak rfl<|ak rfl<|ab (cQ rfl rfl hb1_ (c := p.1.tmod p.2) rfl) ?_
  refine aj rfl<|aj rfl<|ag ?_
  have ht := D5 hp1 hp2 hb1_
  refine ⟨(p.2, p.1.tmod p.2), ⟨(CI hb1_).trans hG, hp2, ht.1⟩, ht.2, aE ⟨.refl _, .refl _, trivial⟩ trivial⟩
 have hb1_ := bY hb1
 refine a6<|ae hP<|ak rfl<|aj rfl<|ag<|am<|E1 rfl rfl ?_
 exact aO (by rw [← hG, I7 hb1_])
theorem An (x : Int) (h : -9223372036854775808 < x ∧ x ≤ 9223372036854775807) :
  aF Tryz.prog 77 [Z x] (Z (x.natAbs : Int)) := by
 refine aK Tryz.func77 rfl rfl rfl rfl ?_
 refine ae hP<|aj rfl<|ag<|ae hP<|ak rfl<|ak rfl<|ab (fL rfl (by first | exact iW0 _ (by omega) | rfl)) ?_
 refine ab (vX rfl rfl)<|aj rfl<|ag<|am<|E1 rfl rfl ?_
 exact aO (by split <;> omega)
theorem su (f : Fm) (hfa : L 6 f.a) (hfb : L 6 f.b) (hfc : L 6 f.c) :
  aF Tryz.prog 74 [FA f.a f.b f.c] (.t [PE (gpV f), PE (gpE f)]) := by
 have ifa : LB f.a 6 := ⟨hfa⟩
 have ifb : LB f.b 6 := ⟨hfb⟩
 have ifc : LB f.c 6 := ⟨hfc⟩
 refine aK Tryz.func74 rfl rfl rfl rfl ?_
 refine ae hP<|ao ai (aN rfl rfl)<|aj rfl<|aj rfl<|ag<|an<|ae hP<|bD hT rfl rfl rfl rfl rfl rfl<|ab (ah (lD f.a f.b f.c lz lz lz)) ?_
 refine aj rfl<|ag<|ae hP<|ak rfl<|ab (bl rfl rfl)<|ag ?_
 refine az rfl (fun hb1 => ?_) (fun hb1 => ?_)
 ·have hb1_ := cn hb1
  refine ae hP<|ak rfl<|aj rfl<|aj rfl<|ag<|am<|E11 rfl rfl rfl ?_
  exact aD (I5 hb1_)
 have hb1_ := bY hb1
 refine aq<|ae hP<|bD hT rfl rfl rfl rfl rfl rfl<|ab (ah (fq f.a f.b f.c lz lz lz)) ?_
 refine ab (ah (tD _ lz)) ?_
 refine ab (aw (rfl : _ = AV.t _))<|ab (ay rfl (v := .c _) rfl)<|ab (ay rfl (v := .c _) rfl)<|aj rfl<|aj rfl<|ag<|an<|ae hP<|ak rfl<|ab (bo rfl rfl)<|ak rfl ?_
 refine aZ (t := 20) rfl (fun hg2 => ?_) (fun hg2 => ?_)
 ·have hg2_ := bT hg2
  refine aC hg2 (aI hT rfl rfl rfl rfl (cs := [_, _, _, _, _, _]) rfl rfl) ?_
  refine aC hg2 (ah (gO f.a f.b f.c lz lz lz)) ?_
  refine aC hg2 (bt rfl) ?_
  refine ab (aM rfl hg2 (rfl : _ = AV.p (.c _)))<|ag ?_
  refine az rfl (fun hb3 => ?_) (fun hb3 => ?_)
  ·have hb3_ := (cz hb3)
   refine ae hP<|aj rfl<|aj rfl<|ag<|am<|E11 rfl rfl rfl ?_
   exact aD (I4 hb1_ hg2_ hb3_)
  have hb3_ := (cp hb3)
  refine aq<|ae hP<|ak rfl<|ak rfl<|aj rfl<|aj rfl<|ag<|am<|E11 rfl rfl rfl ?_
  exact aD (I3 hb1_ hg2_ hb3_)
 have hg2_ := bF hg2
 iterate 3 refine aW hg2 ?_
 refine ab (aL rfl hg2 (rfl : _ = AV.p (.c _)))<|ag<|aP rfl rfl<|aq<|ae hP<|ak rfl<|ak rfl<|aj rfl<|aj rfl<|ag<|am<|E11 rfl rfl rfl ?_
 exact aD (I2 hb1_ hg2_)
theorem CL (f : Fm) (d : Int) (hf : Cl d f) (hd : -4194304 ≤ d) (hfa : L 6 f.a) (hfb : L 6 f.b) (hfc : L 6 f.c) :
  aF Tryz.prog 75 [FA f.a f.b f.c] (.t [PE f.rd.a, PE f.rd.b, PE f.rd.c]) := by
 have ifa : LB f.a 6 := ⟨hfa⟩
 have ifb : LB f.b 6 := ⟨hfb⟩
 have ifc : LB f.c 6 := ⟨hfc⟩
 have cR : aF Tryz.prog 41 [FA f.a f.b f.c] (.t [PF f.rd, PM (rdM f.a f.b f.c), PE (rdE f.a f.b f.c)]) := gu f.a f.b f.c lz lz lz
 rw [iN hf.pos] at cR
 obtain ⟨⟨s1, s2⟩, ⟨s3, s4⟩, s5, s6⟩ := qh hf.rd hf.rd_rd hd
 generalize rdM f.a f.b f.c = M at cR
 generalize f.rd = g at *
 have l1 := gC g.a (by omega) (by omega)
 have l2 := gC g.b (by omega) (by omega)
 have l3 := gC g.c (by omega) (by omega)
 refine aK Tryz.func75 rfl rfl rfl rfl ?_
 refine ae hP<|ao ai (aN rfl rfl)<|aj rfl<|aj rfl<|aj rfl<|ag<|ae hP<|bD hT rfl rfl rfl rfl rfl rfl<|ab (ah cR) ?_
 refine ab (aw (rfl : _ = AV.t _))<|ab (ay rfl (v := .a _) rfl)<|ab (ay rfl (v := .a _) rfl)<|ab (ay rfl (v := .c _) rfl)<|ao ai (aB hT rfl rfl)<|ao ai (aB hT rfl rfl)<|aG hT rfl<|aG hT rfl<|aj rfl<|ag<|ae hP<|aJ hT rfl<|au hT rfl<|ab (ah l1) ?_
 refine ab (aw (rfl : _ = AV.t _))<|ab (ay rfl (v := .c _) rfl)<|ab (ay rfl (v := .c _) rfl)<|aj rfl<|ag<|ae hP<|aJ hT rfl<|au hT rfl<|ab (ah l2) ?_
 refine ab (aw (rfl : _ = AV.t _))<|ab (ay rfl (v := .c _) rfl)<|ab (ay rfl (v := .c _) rfl)<|aj rfl<|ag<|ae hP<|aJ hT rfl<|au hT rfl<|ab (ah l3) ?_
 refine ab (aw (rfl : _ = AV.t _))<|ab (ay rfl (v := .c _) rfl)<|ab (ay rfl (v := .c _) rfl)<|aj rfl<|ag<|ae hP<|ak rfl<|ak rfl<|ak rfl<|aj rfl<|aj rfl<|aj rfl<|ag<|am ?_
 refine dW rfl (.inr rfl) (bM rfl) (bM rfl) (bM rfl) ?_ br
 exact .refl _
theorem yR (f : Fm) (hfa : L 6 f.a) (hfb : L 6 f.b) (hfc : L 6 f.c) (hx : gpE f = 0 → ∃ x y : Int, 0 ≤ x ∧ x ≤ 1400000 ∧ 0 ≤ y ∧ y ≤ 1400000 ∧ Int.gcd (vl f.rd.a f.rd.b f.rd.c x y) (2 * dsc f.a f.b f.c) = 1) :
  aF Tryz.prog 19 [FA f.a f.b f.c] (.t [.c (IS (gvL f)), PE (gpE f)]) := by
 have ifa : LB f.a 6 := ⟨hfa⟩
 have ifb : LB f.b 6 := ⟨hfb⟩
 have ifc : LB f.c 6 := ⟨hfc⟩
 have cP := su f hfa hfb hfc
 refine aK Tryz.func19 rfl rfl rfl rfl ?_
 refine ae hP<|ao ai (aN rfl rfl)<|aj rfl<|aj rfl<|ag<|ae hP<|bD hT rfl rfl rfl rfl rfl rfl<|ab (ah cP) ?_
 refine ab (aw (rfl : _ = AV.t _))<|ab (ay rfl (v := .c _) rfl)<|ab (ay rfl (v := .c _) rfl)<|aj rfl<|aj rfl<|ag<|an<|ae hP<|ak rfl<|ab (bl rfl rfl)<|ag ?_
 refine az rfl (fun hb1 => ?_) (fun hb1 => ?_)
 ·have hb1_ := cn hb1
  refine ae hP<|ak rfl<|aj rfl<|aj rfl<|ag<|am<|E11 rfl rfl rfl ?_
  exact (by rw [HQ hb1_]; exact Sub.tup ⟨DSub.nil_sl, DSub.refl _, trivial⟩)
 have hb1_ := bY hb1
 have he : gpE f = 0 := hb1_
 obtain ⟨hf, hE⟩ := wy he
 obtain ⟨hgn, hd0, hd1⟩ := uL hE
 have hxx := hx he
 have eV : gpV f = dsc f.a f.b f.c := by unfold gpV; rw [if_pos he]
 have cS := CL f _ hf hd1 hfa hfb hfc
 have cA0 := nc _ hd0 hd1
 have hmap := fun (N : Int) (h1 : RpN f.rd N) (h2 : Int.gcd N (2 * dsc f.a f.b f.c) = 1) => Fj hf hd1 hd0 hE h1 h2
 have hcb := fun (c : Int) (h : c ∈ chs (dsc f.a f.b f.c)) => uY hd0 hd1 h
 have hcl := nZ hd0 hd1
 obtain ⟨⟨s1, s2⟩, ⟨s3, s4⟩, s5, s6⟩ := qh hf.rd hf.rd_rd hd1
 have hg := hf.rd
 rw [eV]
 generalize dsc f.a f.b f.c = d at *
 generalize f.rd = g at *
 have j2 : bn (2 * d) := by unfold bn; omega
 refine aq<|ae hP<|bD hT rfl rfl rfl rfl rfl rfl<|ab (ah cS) ?_
 refine ab (aw (rfl : _ = AV.t _))<|ab (ay rfl (v := .c _) rfl)<|ab (ay rfl (v := .c _) rfl)<|ab (ay rfl (v := .c _) rfl)<|aj rfl<|aj rfl<|aj rfl<|ag<|ae hP<|ak rfl<|aj rfl<|ag<|cy (ι := Int) (fun N => stL [(4, Z d), (9, Z N)] []) (fun N => RpN g N ∧ (-9000000000000000000 ≤ N ∧ N ≤ 9000000000000000000) ∧ Int.gcd N (2 * d) = 1) ?_ ?_
 ·refine ae hP<|aj rfl<|ag<|aA<|bq (ι := Int × Int) (fun q => stL [(4, Z d), (6, Z g.a), (7, Z g.b), (8, Z g.c), (9, Z q.1), (10, Z q.2)] []) (fun q => (RpN g q.1 ∧ (-9000000000000000000 ≤ q.1 ∧ q.1 ≤ 9000000000000000000) ∧ (1 ≤ q.2 ∧ q.2 ≤ 1400001) ∧ (Int.gcd q.1 (2 * d) = 1 ∨ NoP g d q.2))) (fun q => (1400001 - q.2).toNat) (g.a, 1) ⟨⟨1, 0, by unfold vl; simp⟩, by simp only; omega, by simp only; omega, .inr (NoP.start hd0)⟩ (aE ⟨.refl _, .refl _, .refl _, .refl _, .refl _, .refl _, trivial⟩ trivial) ?_
  rintro q ⟨hq1, hq2, hq3, hq4⟩
  have jn : bn q.1 := by unfold bn; omega
  refine an<|ae hP<|ak rfl<|ak rfl<|ab (bK rfl rfl (by first | exact iW0 _ (by omega) | rfl)) ?_
  refine ab (ah (pF _ _ jn j2)) ?_
  refine ab (bl rfl rfl)<|ak rfl ?_
  refine aZ (t := 35) rfl (fun hg2 => ?_) (fun hg2 => ?_)
  ·have hg2_ := cn hg2
   refine aC hg2 (aw (rfl : _ = AV.p (.c _))) ?_
   refine aC hg2 (aw (rfl : _ = AV.p (.c _))) ?_
   refine aC hg2 (bK rfl rfl (by first | exact iW0 _ (by omega) | rfl)) ?_
   refine aC hg2 (ah (pF _ _ jn j2)) ?_
   refine aC hg2 (bl rfl rfl) ?_
   refine ab (aM rfl hg2 (rfl : _ = AV.p (.c _)))<|ag ?_
   refine az rfl (fun hb3 => ?_) (fun hb3 => ?_)
   ·have hb3_ := cn hb3
    have hNP : NoP g d q.2 := hq4.resolve_left (fun e => (gg_one.1 e).elim hg2_ hb3_)
    have hle := hNP.le hxx
    refine aq<|cy (ι := Int) (fun m => stL [(4, Z d), (6, Z g.a), (7, Z g.b), (8, Z g.c), (9, Z m), (10, Z q.2)] []) (fun m => (RpN g m ∧ (-9000000000000000000 ≤ m ∧ m ≤ 9000000000000000000) ∧ (Int.gcd m (2 * d) = 1 ∨ NoX g d q.2 (q.2 + 1)))) ?_ ?_
    ·refine aA<|ae hP<|aj rfl<|ag<|aA<|bq (ι := Int × Int) (fun r => stL [(4, Z d), (6, Z g.a), (7, Z g.b), (8, Z g.c), (9, Z r.2), (10, Z q.2), (11, Z r.1)] []) (fun r => (0 ≤ r.1 ∧ r.1 ≤ q.2 + 1) ∧ RpN g r.2 ∧ (-9000000000000000000 ≤ r.2 ∧ r.2 ≤ 9000000000000000000) ∧ NoX g d q.2 r.1) (fun r => (q.2 + 1 - r.1).toNat) (0, q.1) ⟨by simp only; omega, hq1, hq2, NoX.start⟩ (aE ⟨.refl _, .refl _, .refl _, .refl _, .refl _, .refl _, .refl _, trivial⟩ trivial) ?_
     rintro r ⟨hr1, hr2, hr3, hr4⟩
     refine an<|ae hP<|ak rfl<|ak rfl<|ab (jh rfl rfl)<|ag ?_
     refine az rfl (fun hb4 => ?_) (fun hb4 => ?_)
     ·have hb4_ := dT0 hb4
      have hG := gb (a := g.a) (b := g.b) (c := g.c) (x := r.1) (y := q.2) (by omega) (by omega) (by omega) (by omega) (by omega)
      have hH := gb (a := g.a) (b := g.b) (c := g.c) (x := q.2) (y := r.1) (by omega) (by omega) (by omega) (by omega) (by omega)
      have ev1 : g.a * r.1 * r.1 + g.b * r.1 * q.2 + g.c * q.2 * q.2 = (vl g.a g.b g.c r.1 q.2) := rfl
      have ev2 : g.a * q.2 * q.2 + g.b * r.1 * q.2 + g.c * r.1 * r.1 = (vl g.a g.b g.c q.2 r.1) := Gy g.a g.b g.c r.1 q.2
      have jv1 : bn (g.a * r.1 * r.1 + g.b * r.1 * q.2 + g.c * q.2 * q.2) := by unfold bn; omega
      have jv2 : bn (g.a * q.2 * q.2 + g.b * r.1 * q.2 + g.c * r.1 * r.1) := by unfold bn; omega
      have hv1b : -9000000000000000000 ≤ (vl g.a g.b g.c r.1 q.2) ∧ (vl g.a g.b g.c r.1 q.2) ≤ 9000000000000000000 := by rw [← ev1]; omega
      have hv2b : -9000000000000000000 ≤ (vl g.a g.b g.c q.2 r.1) ∧ (vl g.a g.b g.c q.2 r.1) ≤ 9000000000000000000 := by rw [← ev2]; omega
      have hab1 := Ft (n := g.a * r.1 * r.1 + g.b * r.1 * q.2 + g.c * q.2 * q.2) hd0 hd1
      have hab2 := Ft (n := g.a * q.2 * q.2 + g.b * r.1 * q.2 + g.c * r.1 * r.1) hd0 hd1
      refine aq<|an<|aA<|an<|ae hP<|ak rfl<|ak rfl<|ab (bK rfl rfl (by first | exact iW0 _ (by omega) | rfl)) ?_
      refine ak rfl<|ab (bK rfl rfl (by first | exact iW0 _ (by omega) | rfl)) ?_
      refine ak rfl<|ak rfl<|ab (bK rfl rfl (by first | exact iW0 _ (by omega) | rfl)) ?_
      refine ak rfl<|ab (bK rfl rfl (by first | exact iW0 _ (by omega) | rfl)) ?_
      refine bA rfl rfl ?_
      refine ak rfl<|ak rfl<|ab (bK rfl rfl (by first | exact iW0 _ (by omega) | rfl)) ?_
      refine ak rfl<|ab (bK rfl rfl (by first | exact iW0 _ (by omega) | rfl)) ?_
      refine bA rfl rfl ?_
      refine aj rfl<|ag<|ae hP<|ak rfl<|ak rfl<|ab (bK rfl rfl (by first | exact iW0 _ (by omega) | rfl)) ?_
      refine ab (ah (pF _ _ jv1 j2)) ?_
      refine ab (ah (An _ hab1)) ?_
      refine ab (bo rfl rfl)<|ag ?_
      refine az rfl (fun hb5 => ?_) (fun hb5 => ?_)
      ·have hb5_ := bT hb5
       refine a6 ?_
       refine ⟨(vl g.a g.b g.c r.1 q.2), ⟨⟨r.1, q.2, rfl⟩, hv1b, .inl (gg1 (n := (vl g.a g.b g.c r.1 q.2)) hb5_)⟩, aE ⟨.refl _, .refl _, .refl _, .refl _, .refl _, .refl _, trivial⟩ trivial⟩
      have hb5_ := bF hb5
      refine aq<|ae hP<|ak rfl<|ak rfl<|ab (bK rfl rfl (by first | exact iW0 _ (by omega) | rfl)) ?_
      refine ak rfl<|ab (bK rfl rfl (by first | exact iW0 _ (by omega) | rfl)) ?_
      refine ak rfl<|ak rfl<|ab (bK rfl rfl (by first | exact iW0 _ (by omega) | rfl)) ?_
      refine ak rfl<|ab (bK rfl rfl (by first | exact iW0 _ (by omega) | rfl)) ?_
      refine bA rfl rfl ?_
      refine ak rfl<|ak rfl<|ab (bK rfl rfl (by first | exact iW0 _ (by omega) | rfl)) ?_
      refine ak rfl<|ab (bK rfl rfl (by first | exact iW0 _ (by omega) | rfl)) ?_
      refine bA rfl rfl ?_
      refine aj rfl<|ag<|ae hP<|ak rfl<|ak rfl<|ab (bK rfl rfl (by first | exact iW0 _ (by omega) | rfl)) ?_
      refine ab (ah (pF _ _ jv2 j2)) ?_
      refine ab (ah (An _ hab2)) ?_
      refine ab (bo rfl rfl)<|ag ?_
      refine az rfl (fun hb6 => ?_) (fun hb6 => ?_)
      ·have hb6_ := bT hb6
       refine a6 ?_
       refine ⟨(vl g.a g.b g.c q.2 r.1), ⟨⟨q.2, r.1, rfl⟩, hv2b, .inl (by rw [← ev2]; exact gg1 hb6_)⟩, aE ⟨.refl _, .refl _, .refl _, .refl _, aO ev2, .refl _, trivial⟩ trivial⟩
      have hb6_ := bF hb6
      refine aq<|av hP<|ak rfl<|bA rfl rfl ?_
      refine aj rfl<|ag ?_
      refine ⟨(r.1 + 1, (vl g.a g.b g.c q.2 r.1)), ⟨by simp only; omega, ⟨q.2, r.1, rfl⟩, hv2b, hr4.next (Fu (n := (vl g.a g.b g.c r.1 q.2)) hb5_) (by rw [← ev2]; exact Fu hb6_)⟩, by simp only; omega, aE ⟨.refl _, .refl _, .refl _, .refl _, aO ev2, .refl _, .refl _, trivial⟩ trivial⟩
     have hb4_ := dF0 hb4
     refine a6 ?_
     refine ⟨r.2, ⟨hr2, hr3, .inr ((show r.1 = q.2 + 1 by omega) ▸ hr4)⟩, aE ⟨.refl _, .refl _, .refl _, .refl _, .refl _, .refl _, trivial⟩ trivial⟩
    rintro m ⟨hm1, hm2, hm3⟩
    refine av hP<|ak rfl<|bA rfl rfl ?_
    refine aj rfl<|ag ?_
    refine ⟨(m, q.2 + 1), ⟨hm1, hm2, by simp only; omega, hm3.imp id (fun h => hNP.next h)⟩, by simp only; omega, aE ⟨.refl _, .refl _, .refl _, .refl _, .refl _, .refl _, trivial⟩ trivial⟩
   have hb3_ := bY hb3
   refine a6 ?_
   refine ⟨q.1, ⟨hq1, hq2, gg_one.2 (.inr hb3_)⟩, aE ⟨.refl _, .refl _, trivial⟩ trivial⟩
  have hg2_ := bY hg2
  iterate 5 refine aW hg2 ?_
  refine ab (aL rfl hg2 (rfl : _ = AV.p (.c _)))<|ag<|aP rfl rfl<|a6 ?_
  refine ⟨q.1, ⟨hq1, hq2, gg_one.2 (.inl hg2_)⟩, aE ⟨.refl _, .refl _, trivial⟩ trivial⟩
 rintro N ⟨hN1, hN2, hN3⟩
 have hN0 := G0 hg hN1 hd0
 have jN : bn N := by unfold bn; omega
 have hfin := hmap N hN1 hN3
 have cAs := cA0
 generalize chs d = l at cAs hcl hcb hfin
 refine ae hP<|aj rfl<|ag<|mz 12 1000 1 3 rfl rfl ?_
 refine an<|ae hP<|ak rfl<|ab (ah cAs) ?_
 refine ab (aU hT rfl rfl rfl (by rfl)) ?_
 refine ak rfl<|ag<|aA<|bq (ι := Nat) (fun k => stL [(9, Z N), (12, .vec 1000), (96, .p (.c (CS 186 187 l))), (97, Z (l.length : Int)), (98, Z (k : Int))] [(1000, IB 3 ((l.take k).map fun c => cv c N))]) (fun k => k ≤ l.length) (fun k => l.length - k) 0 (Nat.zero_le _) (aE ⟨.refl _, .refl _, .refl _, .refl _, .refl _, trivial⟩ ⟨rfl, trivial⟩) ?_
 intro k hk
 refine ae hP<|ab (a7 rfl rfl)<|ag<|an ?_
 refine az rfl (fun hb7 => ?_) (fun hb7 => ?_)
 ·have hb7_ := dT0 hb7
  have hmm := hcb _ (oY hb7_)
  have jc : bn (l.getD k 0) := by unfold bn; omega
  refine aq<|an<|aA<|ae hP<|ab (oJ (fo := 186) (fs := 187) (n := (k : Int)) hT rfl rfl rfl rfl rfl rfl (by omega)) ?_
  refine ab (a8 hT rfl rfl rfl (cs := chC 186 187 (l.getD k 0)) rfl rfl) ?_
  refine ao ai (aB hT rfl rfl)<|aG hT rfl<|ag<|av hP<|ab (aw (rfl : _ = AV.vec _))<|aJ hT rfl<|bj hT rfl rfl rfl rfl ?_
  refine ak rfl<|ab (Eff.callCh rfl rfl (uN N _ hN0 (by unfold spR; split <;> (try split) <;> decide)) (Fw N (l.getD k 0) jN jc)) ?_
  refine ab (bd hT rfl rfl rfl (es := [_]) rfl rfl rfl)<|RK.app ai (mS (z := cv (l.getD k 0) N) hT rfl rfl rfl rfl rfl rfl rfl rfl (by rw [List.length_map, List.length_take]; omega) (by decide)) ?_
  refine ab (bi (rfl : _ = AV.vec _))<|ag<|eZ 108 1000 rfl rfl rfl ?_
  refine av hP<|bA rfl rfl ?_
  refine ak rfl<|ag ?_
  refine ⟨k + 1, by omega, by omega, aE ⟨.refl _, .refl _, .refl _, .refl _, aO (by omega), trivial⟩ ⟨Eq.trans rfl (congrArg (fun x => some (IB 3 x)) (yr hb7_)), trivial⟩⟩
 have hb7_ := dF0 hb7
 refine a6<|ma (t := 12) rfl rfl ?_
 refine ae hP<|ak rfl<|aj rfl<|aj rfl<|ag<|am<|E11 rfl rfl rfl ?_
 exact aD (by rw [pS hb7_, hfin, he])
end
section
open Go Go.AM
end
end Go.Proofs.YthaiejfjnllglaaGreatDoor
