import Derived.Test.YthaiejfjnllglaaGreatDoorCBE
import Derived.Test.YthaiejfjnllglaaGreatDoorCBD
import Derived.Test.YthaiejfjnllglaaGreatDoorCBF
import Derived.Test.YthaiejfjnllglaaGreatDoorCBC
import Derived.Shelf.SlLaysF0
set_option maxRecDepth 100000
set_option maxHeartbeats 16000000
namespace Go.Proofs.YthaiejfjnllglaaGreatDoor
section
open Go Go.AM
theorem sk (gf : FuncId) (caps : List (List DV)) (l : List Pr2) (hit : Iter2 Tryz.prog gf caps (l.map fun p => [PA p])) (hl : l.length ≤ 1000000) :
  CallV Tryz.prog 194 [.p (.c (.v (.slice none 0 0))), .fn gf caps] (VB 4 93 enP l) := by
 refine rU Tryz.func194 (by kernel_rfl) rfl rfl (bL0 rfl) ?_
 refine ae hP<|ao ai (aN rfl rfl)<|aj rfl<|ag<|an<|ae hP<|ab (aw (rfl : _ = AV.fn _ _))<|ag<|aA<|iL 2 1000 4 93 rfl rfl rfl rfl ?_
 refine dj (t := stL [(2, .loc 2 0), (6, .fn gf caps)] [(2, ⟨false, 1002, 65, [.sl ((l.take 0)).length []]⟩), (1000, VB 4 93 enP ((l.take 0)))]) (aE ⟨.refl _, .refl _, trivial⟩ ⟨rfl, rfl, trivial⟩) ?_
 refine eD 3 (fun k => ci [(2, ⟨false, 1002, 65, [.sl ((l.take k)).length []]⟩), (1000, VB 4 93 enP ((l.take k)))]) (fun _ => True) rfl hit BY rfl rfl rfl trivial (fun k x hx _ => ?_) (fun _ => ?_)
 ·obtain ⟨p, hp, rfl⟩ := EF hx
  refine av hP<|ao ai (aB hT rfl rfl)<|aG hT rfl<|ag<|aA<|av hP<|ab (ej hT rfl rfl rfl rfl rfl)<|ab (aI hT rfl rfl rfl rfl (cs := [_, _, _, _]) rfl rfl)<|ab (bd hT rfl rfl rfl (es := [_, _, _, _]) rfl rfl rfl)<|RK.app ai (mT (encD := enP) hT gE (by decide) rfl rfl rfl rfl rfl rfl rfl (b := p) rfl (by rw [List.length_take]; omega) (by decide) (by decide)) ?_
  refine di ai (iH hT rfl rfl rfl rfl rfl rfl rfl (dq gE _).symm (Nat.zero_lt_succ 3)) ?_
  refine ag ?_
  refine ⟨GW.rnL 2 11 1000 (l.take k ++ [p]).length rfl rfl rfl (dq gE _).symm (Nat.zero_lt_succ 3) rfl rfl rfl rfl ?_, trivial⟩
  show ∀ m, ci _ m = _ ∨ ci _ m = none
  rw [ee hp]
  exact SubO.own ⟨rfl, rfl, trivial⟩
 refine ae hP<|ab (ej hT rfl rfl rfl rfl rfl)<|ab (bi (rfl : _ = AV.vec _))<|ag<|am ?_
 refine ⟨.inr rfl, _, _, rfl, rfl, ?_⟩
 exact congrArg (fun x => some (VB 4 93 enP x)) (List.take_of_length_le (by rw [List.length_map]; exact Nat.le_refl _))
theorem vU (gf : FuncId) (caps : List (List DV)) (l : List Pr2) (hit : Iter2 Tryz.prog gf caps (l.map fun p => [PA p])) (hl : l.length ≤ 1000000) :
  CallV Tryz.prog 151 [.fn gf caps] (VB 4 93 enP l) := by
 refine rU Tryz.func151 (by kernel_rfl) rfl rfl (bL0 rfl) ?_
 refine ae hP<|aj rfl<|ag<|ae hP<|ab (aw (rfl : _ = AV.fn _ _))<|ao ai (Eff.callV (sk gf caps l hit hl)) ?_
 refine ab (bi (rfl : _ = AV.vec _))<|ag<|am ?_
 refine ⟨.inr rfl, _, _, rfl, rfl, ?_⟩
 exact rfl
def vy : Go.Shelf.Ren := ⟨fun | 6 => 152 | 15 => 196 | 14 => 195 | 28 => 233 | 29 => 234 | 20 => 225 | 21 => 226 | 22 => 227 | 23 => 228 | 24 => 229 | 25 => 230 | 26 => 231 | 27 => 232 | 46 => 249 | 47 => 250 | 48 => 251 | 49 => 252 | 50 => 253 | 57 => 257 | n => n, fun | 22 => 65 | 24 => 93 | 25 => 148 | 3 => 3 | 39 => 106 | 0 => 0 | 53 => 105 | 55 => 103 | 4 => 4 | 46 => 250 | 45 => 249 | 50 => 254 | 5 => 5 | 9 => 9 | 66 => 262 | 70 => 266 | 76 => 273 | 77 => 274 | n => n, fun | n => n⟩
theorem GM : Go.Proofs.SlLaysF0.n6 Tryz.prog vy := {
 mixed := by kernel_rfl
 f6 := ⟨Tryz.f152.name, by decide, Tryz.func152.trans (congrArg some (by kernel_rfl))⟩
 f14 := ⟨Tryz.f195.name, by decide, Tryz.func195.trans (congrArg some (by kernel_rfl))⟩
 f15 := Tryz.func196.trans (congrArg some (by kernel_rfl))
 f20 := ⟨Tryz.f225.name, by decide, Tryz.func225.trans (congrArg some (by kernel_rfl))⟩
 f21 := ⟨Tryz.f226.name, by decide, Tryz.func226.trans (congrArg some (by kernel_rfl))⟩
 f22 := ⟨Tryz.f227.name, by decide, Tryz.func227.trans (congrArg some (by kernel_rfl))⟩
 f23 := ⟨Tryz.f228.name, by decide, Tryz.func228.trans (congrArg some (by kernel_rfl))⟩
 f24 := ⟨Tryz.f229.name, by decide, Tryz.func229.trans (congrArg some (by kernel_rfl))⟩
 f25 := ⟨Tryz.f230.name, by decide, Tryz.func230.trans (congrArg some (by kernel_rfl))⟩
 f26 := ⟨Tryz.f231.name, by decide, Tryz.func231.trans (congrArg some (by kernel_rfl))⟩
 f27 := ⟨Tryz.f232.name, by decide, Tryz.func232.trans (congrArg some (by kernel_rfl))⟩
 f28 := Tryz.func233.trans (congrArg some (by kernel_rfl))
 f29 := Tryz.func234.trans (congrArg some (by kernel_rfl))
 f46 := ⟨Tryz.f249.name, by decide, Tryz.func249.trans (congrArg some (by kernel_rfl))⟩
 f47 := Tryz.func250.trans (congrArg some (by kernel_rfl))
 f48 := Tryz.func251.trans (congrArg some (by kernel_rfl))
 f49 := ⟨Tryz.f252.name, by decide, Tryz.func252.trans (congrArg some (by kernel_rfl))⟩
 f50 := ⟨Tryz.f253.name, by decide, Tryz.func253.trans (congrArg some (by kernel_rfl))⟩
 f57 := ⟨Tryz.f257.name, by decide, Tryz.func257.trans (congrArg some (by kernel_rfl))⟩
 t0 := Tryz.underlying0
 a0 := Tryz.isAgg0
 z0 := Tryz.sizeOf0
 v0 := Tryz.zeroValue0
 t3 := Tryz.underlying3
 a3 := Tryz.isAgg3
 z3 := Tryz.sizeOf3
 v3 := Tryz.zeroValue3
 t4 := Tryz.underlying4
 a4 := Tryz.isAgg4
 z4 := Tryz.sizeOf4
 v4 := Tryz.zeroValue4
 t5 := Tryz.underlying5
 a5 := Tryz.isAgg5
 z5 := Tryz.sizeOf5
 v5 := Tryz.zeroValue5
 t9 := Tryz.underlying9
 a9 := Tryz.isAgg9
 z9 := Tryz.sizeOf9
 v9 := Tryz.zeroValue9
 t22 := Tryz.underlying65
 a22 := Tryz.isAgg65
 z22 := Tryz.sizeOf65
 v22 := Tryz.zeroValue65
 t25 := Tryz.underlying148
 a25 := Tryz.isAgg148
 z25 := Tryz.sizeOf148
 v25 := Tryz.zeroValue148
 t39 := Tryz.underlying106
 a39 := Tryz.isAgg106
 z39 := Tryz.sizeOf106
 v39 := Tryz.zeroValue106
 t45 := Tryz.underlying249
 a45 := Tryz.isAgg249
 z45 := Tryz.sizeOf249
 v45 := Tryz.zeroValue249
 t46 := Tryz.underlying250
 a46 := Tryz.isAgg250
 z46 := Tryz.sizeOf250
 v46 := Tryz.zeroValue250
 t50 := Tryz.underlying254
 a50 := Tryz.isAgg254
 z50 := Tryz.sizeOf254
 v50 := Tryz.zeroValue254
 t53 := Tryz.underlying105
 a53 := Tryz.isAgg105
 z53 := Tryz.sizeOf105
 v53 := Tryz.zeroValue105
 t55 := Tryz.underlying103
 a55 := Tryz.isAgg103
 z55 := Tryz.sizeOf103
 v55 := Tryz.zeroValue103
 t66 := Tryz.underlying262
 a66 := Tryz.isAgg262
 z66 := Tryz.sizeOf262
 v66 := Tryz.zeroValue262
 t70 := Tryz.underlying266
 a70 := Tryz.isAgg266
 z70 := Tryz.sizeOf266
 v70 := Tryz.zeroValue266
 t76 := Tryz.underlying273
 a76 := Tryz.isAgg273
 z76 := Tryz.sizeOf273
 v76 := Tryz.zeroValue273
 t77 := Tryz.underlying274
 a77 := Tryz.isAgg274
 z77 := Tryz.sizeOf274
 v77 := Tryz.zeroValue274 }
theorem EH (m : Nat) (l l' : List Pr2) (hp : l'.Perm l) (hs : mw l') :
  CallM Tryz.prog 152 [.vec m, .p (.c (.v (.func (.func 90) #[] #[])))] (upd O m (some (VB 4 93 enP l))) (.t []) (upd O m (some (VB 4 93 enP l'))) :=
 tY GM hT (j := xk) rfl rfl rfl (by decide) gE cmP C4 (fun x y => vT x y) hp (Bv hs) (fun _ _ _ _ h1 h2 => zc h1 h2)
theorem qz (gf : FuncId) (caps : List (List DV)) (l : List Pr2) (hit : Iter2 Tryz.prog gf caps (l.map fun p => [PA p])) (hl : l.length ≤ 1000000) (l' : List Pr2) (hp : l'.Perm l) (hs : mw l') :
  aF Tryz.prog 89 [.fn gf caps, .p (.c (.v (.func (.func 90) #[] #[])))] (.p (.c (SL enP l'))) := by
 refine aK Tryz.func89 rfl rfl rfl rfl ?_
 refine ae hP<|aj rfl<|ag<|ae hP<|ab (aw (rfl : _ = AV.fn _ _))<|ao ai (Eff.callV (vU gf caps l hit hl)) ?_
 refine ab (bi (rfl : _ = AV.vec _))<|ag<|ae hP<|ab (aw (rfl : _ = AV.vec _))<|ak rfl<|RK.mut ai (Eff.call (rd := [7]) (EH 7 l l' hp hs) (kQ rfl) me) ?_
 refine ag<|jL (encD := enP) gE rfl (t := 5) rfl rfl ?_
 refine ae hP<|ak rfl<|aj rfl<|ag<|am<|E1 rfl rfl ?_
 exact .refl _
theorem kO (f : Fm) (m : Int) (hfa : L 6 f.a) (hfb : L 6 f.b) (hfc : L 6 f.c) :
  aF Tryz.prog 65 [FA f.a f.b f.c, Z m] (Z (alE f m)) := by
 have fa : LB f.a 6 := ⟨hfa⟩
 have fb : LB f.b 6 := ⟨hfb⟩
 have fc : LB f.c 6 := ⟨hfc⟩
 refine aK Tryz.func65 rfl rfl rfl rfl ?_
 refine ae hP<|ao ai (aN rfl rfl)<|aj rfl<|ag<|an<|ae hP<|bD hT rfl rfl rfl rfl rfl rfl<|ab (aV hT rfl rfl rfl (es := [_, _]) rfl)<|ab (ah (wP f hfa hfb hfc)) ?_
 refine ab (aw (rfl : _ = AV.t _))<|ab (ay rfl (v := .a _) rfl)<|ab (ay rfl (v := .c _) rfl)<|ao ai (aB hT rfl rfl)<|aG hT rfl<|aj rfl<|ag<|ae hP<|ak rfl<|ab (bl rfl rfl)<|ag ?_
 refine az rfl (fun hb1 => ?_) (fun hb1 => ?_)
 ·have hb1_ := cn hb1
  refine ae hP<|ak rfl<|aj rfl<|ag<|am<|E1 rfl rfl ?_
  exact aO (Ii hb1_)
 have hb1_ := bY hb1
 refine aq<|ae hP<|ak rfl<|ab (ah (qv _)) ?_
 refine aj rfl<|ag<|am<|E1 rfl rfl ?_
 exact aO (Av hb1_)
theorem tc (f : Fm) (m : Int) :
  aF Tryz.prog 66 [FA f.a f.b f.c, Z m] (.fn 132 [[zn f.a, zm f.a, zn f.b, zm f.b, zn f.c, zm f.c], [.v (.int .i64 m)]]) := by
 refine jr Tryz.func66 (by kernel_rfl) rfl rfl (bL0 rfl) rfl ?_
 refine ae hP<|ao ai (aN rfl rfl)<|ao ai (aN rfl rfl)<|aj rfl<|ag<|cq (t := 2) rfl rfl ?_
 refine cq (t := 3) rfl rfl ?_
 refine ae hP<|ab (jg rfl rfl)<|ab (bi (rfl : _ = AV.fn _ _))<|ag<|am ?_
 exact ⟨.inr rfl, 4, rfl, rfl⟩
theorem Af (f : Fm) (D : Int) (m : Nat) (hfa : L 6 f.a) (hfb : L 6 f.b) (hfc : L 6 f.c) (hf : Cl D f) (hD : -4194304 ≤ D ∧ D < 0) (hm : 1 ≤ m ∧ m ≤ 65536) :
  aF Tryz.prog 26 [FA f.a f.b f.c, Z (m : Int)] (.t [.c (SL enP (prS D m f)), PE 0]) := by
 have fa : LB f.a 6 := ⟨hfa⟩
 have fb : LB f.b 6 := ⟨hfb⟩
 have fc : LB f.c 6 := ⟨hfc⟩
 have hdf : dsc f.a f.b f.c = D := hf.disc
 have h0m : 0 < (m : Int) := by omega
 have cRf : aF Tryz.prog 65 [FA f.a f.b f.c, Z (m : Int)] (Z 0) := by
  have h := kO f m hfa hfb hfc
  rwa [va hf hm] at h
 refine aK Tryz.func26 rfl rfl rfl rfl ?_
 refine ae hP<|ao ai (aN rfl rfl)<|aj rfl<|aj rfl<|ag<|an<|ae hP<|bD hT rfl rfl rfl rfl rfl rfl<|ak rfl<|ab (ah cRf) ?_
 refine aj rfl<|ag<|ae hP<|ak rfl<|ab (bl rfl rfl)<|ag<|aP rfl rfl<|aq<|ae hP<|bD hT rfl rfl rfl rfl rfl rfl<|ak rfl<|ab (ah (tc f m)) ?_
 refine ab (ah (qz _ _ (prL D m f) (qx f D m hfa hfb hfc hdf hD hm) (vP hm) (prS D m f) (p5 _) (BZ hf h0m))) ?_
 refine aj rfl<|aj rfl<|ag<|am<|E11 rfl rfl rfl ?_
 exact .refl _
theorem td (D : Int) (m : Nat) (hD : -4194304 ≤ D ∧ D < 0) (h4 : D % 4 = 0 ∨ D % 4 = 1) (hm : 1 ≤ m ∧ m ≤ 65536) :
  aF Tryz.prog 13 [I D, Z (m : Int)] (.t [.c (SL enI (rbL D (m : Int))), PE 0]) := by
 have iD : LB D 6 := ⟨by unfold L; omega⟩
 have cPr : aF Tryz.prog 54 [I D] (.t [PF (prF D), PE 0]) := by
  have h := lX D lz
  rwa [Hu hD.2 h4] at h
 have cRg : aF Tryz.prog 55 [Z (m : Int)] (Z 0) := by
  have h := qv m
  rwa [ug (by omega) (by omega)] at h
 refine aK Tryz.func13 rfl rfl rfl rfl ?_
 refine ae hP<|ao ai (aN rfl rfl)<|aj rfl<|aj rfl<|ag<|an<|ae hP<|au hT rfl<|ab (ah cPr) ?_
 refine ab (aw (rfl : _ = AV.t _))<|ab (ay rfl (v := .a _) rfl)<|ab (ay rfl (v := .c _) rfl)<|ao ai (aB hT rfl rfl)<|aG hT rfl<|aj rfl<|ag<|ae hP<|ak rfl<|ab (bl rfl rfl)<|ak rfl<|aC rfl (aR hT rfl rfl rfl rfl rfl rfl) ?_
 refine aC rfl (bV hT rfl rfl rfl rfl (by first | rfl | exact eT (by omega))) ?_
 refine aC rfl (bt rfl) ?_
 refine ab (aL rfl rfl (rfl : _ = AV.p (.c _)))<|ag<|aP rfl (by simpa using hD.2) ?_
 refine aq<|an<|ae hP<|ak rfl<|ab (ah cRg) ?_
 refine aj rfl<|ag<|ae hP<|ak rfl<|ab (bl rfl rfl)<|ag<|aP rfl rfl<|aq<|ae hP<|au hT rfl<|ak rfl<|ab (ah (qy D m hD hm)) ?_
 refine aj rfl<|aj rfl<|ag<|am<|E11 rfl rfl rfl ?_
 exact .refl _
theorem qw (n : Nat) (hn : 1 ≤ n ∧ n ≤ 65536) :
  Iter3 Tryz.prog 135 (⟨false, 1, 3, [.v (.int .i64 ((n : Nat) : Int))]⟩) ((parts n).map fun (q : Nat) => [PE (q : Int)]) := by
 generalize hxs : ((parts n).map fun (q : Nat) => ([PE (q : Int)] : List PV)) = xs
 refine yF Tryz.func135 (by kernel_rfl) rfl rfl (bL0 rfl) rfl rfl ?_
 intro l n0 J hK
 refine vg hK.toKeepsB ?_
 refine bB ?_
 refine bg hP ?_
 refine aj rfl<|ag<|dQ ?_
 refine j5 (ι := Nat × Nat × Nat) (fun i => stL [(0, .p (.c (.v (.func (.yield l) #[] #[])))), (1, .loc 1 0), (3, Z ((i.2.1 : Nat) : Int))] [(1, ⟨false, 1, 3, [.v (.int .i64 ((i.1 : Nat) : Int))]⟩)]) (fun i => i.2.2) (fun i => PaI n i.1 i.2.1 i.2.2) (fun i => n + 2 - i.2.1) (n, 2, 0) (PaI.start (by omega)) rfl (aE ⟨.refl _, .refl _, .refl _, trivial⟩ ⟨rfl, trivial⟩) ?_
 intro i hI
 have h2p := hI.two
 have hmn := hI.le
 have hm0 := hI.pos
 refine bB ?_
 refine bB ?_
 refine bg hP ?_
 refine bj hT rfl rfl rfl rfl ?_
 refine ab (bU rfl rfl)<|ag ?_
 refine dN rfl (fun hb1 => ?_) (fun hb1 => ?_)
 ·have hb1_ := dT0 hb1
  have hm1 : 1 < i.1 := by omega
  have hpm := hI.ple hm1
  refine du ?_
  refine bB ?_
  refine dQ ?_
  refine bB ?_
  refine bg hP ?_
  refine aj rfl<|ag<|bB ?_
  refine dQ ?_
  refine j5 (ι := Nat × Nat) (fun q => stL [(0, .p (.c (.v (.func (.yield l) #[] #[])))), (1, .loc 1 0), (3, Z ((i.2.1 : Nat) : Int)), (4, Z ((q.2 : Nat) : Int))] [(1, ⟨false, 1, 3, [.v (.int .i64 ((q.1 : Nat) : Int))]⟩)]) (fun _ => i.2.2) (fun q => PtI i.2.1 i.1 q.1 q.2) (fun q => q.1) (i.1, 1) (PtI.start hm0) rfl (aE ⟨.refl _, .refl _, .refl _, .refl _, trivial⟩ ⟨rfl, trivial⟩) ?_
  intro q hq
  obtain ⟨b1, b2, b3, b4⟩ := hq.b
  refine bB ?_
  refine bB ?_
  refine bg hP ?_
  refine bj hT rfl rfl rfl rfl ?_
  refine ak rfl<|ab (cQ rfl rfl (by omega) (c := ((q.1 % i.2.1 : Nat) : Int)) IJ) ?_
  refine ab (bo rfl rfl)<|ag ?_
  refine dN rfl (fun hb2 => ?_) (fun hb2 => ?_)
  ·have hb2_ := bT hb2
   have hnx := hq.next h2p (by omega)
   have hqp : q.2 * i.2.1 ≤ 1000000000 := by have := hnx.2.2; omega
   refine du ?_
   refine dQ ?_
   refine bg hP ?_
   refine bj hT rfl rfl rfl rfl ?_
   refine ak rfl<|ab (eh rfl rfl (by omega) (c := ((q.1 / i.2.1 : Nat) : Int)) (IM (by omega) (by omega))) ?_
   refine ak rfl<|ak rfl<|ab (bK rfl rfl (c := ((q.2 * i.2.1 : Nat) : Int)) (EV hqp)) ?_
   refine aG hT rfl<|aj rfl<|ag ?_
   refine ⟨(q.1 / i.2.1, q.2 * i.2.1), hnx.1, hnx.2.1, rfl, aE ⟨.refl _, .refl _, .refl _, .refl _, trivial⟩ ⟨rfl, trivial⟩⟩
  have hb2_ := bF hb2
  have hpt := hq.done (by omega)
  refine gJ ?_
  refine bB ?_
  refine kw ?_
  refine RY.val ai (aw (rfl : _ = AV.p (.c _))) ?_
  refine RY.val ai (bU rfl rfl) ?_
  refine RY.val ai (aw (rfl : _ = AV.p (.c _))) ?_
  refine RY.split (t := 21) rfl (fun hg3 => ?_) (fun hg3 => ?_)
  ·have hg3_ := dT0 hg3
   have hq1 : 1 < (ptN i.2.1 i.1).2 := by have := dT0 hg3; have := hpt.2; omega
   have hgt : xs[i.2.2]? = some [PE ((q.2 : Nat) : Int)] := by rw [← hxs, List.getElem?_map, (hI.yes hm1 hq1).1, hpt.2]; rfl
   refine RY.val (bf rfl rfl hg3) (aw (rfl : _ = AV.p (.c _))) ?_
   refine RY.val (bf rfl rfl hg3) (aw (rfl : _ = AV.p (.c _))) ?_
   refine RY.yield hK (bf rfl rfl hg3) rfl rfl hgt ?_
   intro bb
   refine RY.val (bf rfl rfl hg3) (bt rfl) ?_
   refine RY.val ai (aM rfl hg3 (rfl : _ = AV.p (.c _))) ?_
   refine RY.done ?_
   refine dN rfl (fun hb4 => ?_) (fun hb4 => ?_)
   ·have hb4_ := (cz hb4)
    refine lx ?_
    refine ⟨.inr rfl, ?_⟩
    exact uw (cz hb4)
   have hb4_ := (cp hb4)
   refine du ?_
   refine bg hP ?_
   refine ak rfl<|bA rfl rfl ?_
   refine aj rfl<|ag ?_
   refine ⟨((ptN i.2.1 i.1).1, i.2.1 + 1, i.2.2 + 1), (hI.yes hm1 hq1).2, (by show n + 2 - (i.2.1 + 1) < n + 2 - i.2.1; omega), (uv (cp hb4)).symm, aE ⟨.refl _, .refl _, aO (by show ((i.2.1 : Nat) : Int) + 1 = ((i.2.1 + 1 : Nat) : Int); omega), trivial⟩ ⟨Eq.trans rfl (congrArg (fun x : Nat => some (⟨false, 1, 3, [.v (.int .i64 (x : Int))]⟩ : Blk)) hpt.1), trivial⟩⟩
  have hg3_ := dF0 hg3
  have hq1 : ¬ 1 < (ptN i.2.1 i.1).2 := by have := dF0 hg3; have := hpt.2; omega
  iterate 4 refine RY.skip (jp rfl rfl hg3) ?_
  refine RY.val ai (aL rfl hg3 (rfl : _ = AV.p (.c _))) ?_
  refine RY.done ?_
  refine iC rfl rfl ?_
  refine du ?_
  refine bg hP ?_
  refine ak rfl<|bA rfl rfl ?_
  refine aj rfl<|ag ?_
  refine ⟨((ptN i.2.1 i.1).1, i.2.1 + 1, i.2.2), hI.no hm1 hq1, (by show n + 2 - (i.2.1 + 1) < n + 2 - i.2.1; omega), rfl, aE ⟨.refl _, .refl _, aO (by show ((i.2.1 : Nat) : Int) + 1 = ((i.2.1 + 1 : Nat) : Int); omega), trivial⟩ ⟨Eq.trans rfl (congrArg (fun x : Nat => some (⟨false, 1, 3, [.v (.int .i64 (x : Int))]⟩ : Blk)) hpt.1), trivial⟩⟩
 have hb1_ := dF0 hb1
 have hdn := hI.done (by omega)
 refine gJ ?_
 refine ⟨.inl rfl, ?_⟩
 rw [← hxs, List.length_map, hdn]
 exact Nat.le_refl _
theorem ta (m : Nat) :
  CallG Tryz.prog 68 [Z (m : Int)] 135 (⟨false, 1, 3, [.v (.int .i64 ((m : Nat) : Int))]⟩) := by
 refine ze Tryz.func68 (by kernel_rfl) rfl rfl (bL0 rfl) ?_
 refine ae hP<|ao ai (aN rfl rfl)<|aj rfl<|ag<|ae hP<|ab (qF rfl)<|ab (bi (rfl : _ = AV.fnl _ _))<|ag<|am ?_
 exact ⟨.inr rfl, 2, 1, rfl, rfl, rfl⟩
theorem IU (c x : Int) (hc : L 5 c) (hx : 1 ≤ x ∧ x ≤ 65536) :
  aF Tryz.prog 140 [Z c, Z x] (Z (atV c x)) := by
 have ic : LB c 6 := ⟨hc.mono (by decide)⟩
 have ix : LB x 6 := ⟨by unfold L; omega⟩
 have jc : bn c := by unfold L at hc; unfold bn; omega
 refine aK Tryz.func140 rfl rfl rfl rfl ?_
 refine ae hP<|aj rfl<|ag<|an<|ae hP<|ak rfl<|ag<|aA<|ae hP<|ab (bo rfl rfl)<|aj rfl<|ag ?_
 refine az rfl (fun hb1 => ?_) (fun hb1 => ?_)
 ·have hb1_ := bT hb1
  refine ae hP<|ak rfl<|ab (cQ rfl rfl (by omega) (c := x % 4) (Int.tmod_eq_emod_of_nonneg (by omega))) ?_
  refine ab (bI rfl rfl (by first | exact iW0 _ (by omega) | rfl)) ?_
  refine aj rfl<|ag<|am<|E1 rfl rfl ?_
  exact aO (Ig hb1_)
 have hb1_ := bF hb1
 refine ae hP<|ab (bo rfl rfl)<|aj rfl<|ag ?_
 refine az rfl (fun hb2 => ?_) (fun hb2 => ?_)
 ·have hb2_ := bT hb2
  refine ae hP<|ab (ah (dZ 2 (by decide))) ?_
  refine ak rfl<|ab (ah (dZ x (by unfold bn; omega))) ?_
  refine ab (ah (gP _ _ lz lz)) ?_
  refine aj rfl<|ag<|am<|E1 rfl rfl ?_
  exact aO (If hb2_)
 have hb2_ := bF hb2
 refine ae hP<|ab (bo rfl rfl)<|aj rfl<|ag ?_
 refine az rfl (fun hb3 => ?_) (fun hb3 => ?_)
 ·have hb3_ := bT hb3
  refine ae hP<|ab (ah (dZ (-2) (by decide))) ?_
  refine ak rfl<|ab (ah (dZ x (by unfold bn; omega))) ?_
  refine ab (ah (gP _ _ lz lz)) ?_
  refine aj rfl<|ag<|am<|E1 rfl rfl ?_
  exact aO (Ie hb3_)
 have hb3_ := bF hb3
 refine aq<|ae hP<|ak rfl<|ab (ah (dZ x (by unfold bn; omega))) ?_
 refine ak rfl<|ab (ah (dZ c jc)) ?_
 refine ab (ah (gP _ _ lz lz)) ?_
 refine aj rfl<|ag<|am<|E1 rfl rfl ?_
 exact aO (Ic hb1_ hb2_ hb3_)
theorem mR (f : Fm) (D : Int) (m : Nat) (hfa : L 6 f.a) (hfb : L 6 f.b) (hfc : L 6 f.c) (hf : Cl D f) (hD : -4194304 ≤ D ∧ D < 0) (hm : 1 ≤ m ∧ m ≤ 65536) (hE : szE D = 0) :
  Iter2 Tryz.prog 137 [[zn f.a, zm f.a, zn f.b, zm f.b, zn f.c, zm f.c], [.v (.int .i64 (m : Int))]] ((agL D m f).map fun c => [PE c]) := by
 have fa : LB f.a 6 := ⟨hfa⟩
 have fb : LB f.b 6 := ⟨hfb⟩
 have fc : LB f.c 6 := ⟨hfc⟩
 have iD : LB D 6 := ⟨by unfold L; omega⟩
 have im : LB (m : Int) 6 := ⟨by unfold L; omega⟩
 have hdf : dsc f.a f.b f.c = D := hf.disc
 have cDs : aF Tryz.prog 40 [FA f.a f.b f.c] (I D) := by rw [← hdf]; exact fq f.a f.b f.c lz lz lz
 have cCh : aF Tryz.prog 139 [I D] (.t [.c (IS (chs D)), PE 0]) := by
  have h := rp D lz
  rwa [Ar hE, hE] at h
 have cVa : aF Tryz.prog 19 [FA f.a f.b f.c] (.t [.c (IS (gvL f)), PE 0]) := by
  have h := yR f hfa hfb hfc HR
  rwa [rS hf hD.1 hE] at h
 have hln := Fk hf hD.1 hE
 have hcb := fun c hc => uY (c := c) hD.2 hD.1 hc
 have hlc := nZ hD.2 hD.1
 have hgt_ := fun (h : Int.gcd (2 * D) m = 1) (k : Nat) (hk : k < (chs D).length) (hne) => Ge (f := f) h hln hk hne
 have hyy := fun (k : Nat) (hk : k < (chs D).length) (hne) => Jj (n := (m : Int)) (f := f) hln hk hne
 have hnn := fun (k : Nat) (hk : k < (chs D).length) (he) => Jk (n := (m : Int)) (f := f) hln hk he
 have hall := fun (h : Int.gcd (2 * D) m = 1) (k : Nat) (hk : (chs D).length ≤ k) => Gg (f := f) h hln hk
 have hnone := fun (h : ¬ Int.gcd (2 * D) m = 1) (k : Nat) => Dd (f := f) h k
 have hk0 : 0 = ez (agP m) (agZ D f) 0 := by unfold ez; simp
 generalize chs D = ls at *
 generalize gvL f = vs at *
 generalize ez (agP m) (agZ D f) = κ at *
 generalize ((agL D m f).map fun c => ([PE c] : List PV)) = xs at *
 refine mp Tryz.func137 (by kernel_rfl) rfl rfl (bL0 rfl) rfl ?_
 intro l n0 J hK
 refine vg hK.toKeepsB ?_
 refine bB ?_
 refine bg hP ?_
 refine ab (a8 hT rfl rfl rfl (cs := [_, _, _, _, _, _]) rfl rfl)<|ab (ah cDs) ?_
 refine ao ai (aB hT rfl rfl)<|aG hT rfl<|ag<|bB ?_
 refine bB ?_
 refine bg hP ?_
 refine ab (ah (dZ 2 (by decide))) ?_
 refine au hT rfl<|ab (ah (dp 2 D lz lz)) ?_
 refine cr hT rfl rfl rfl ?_
 refine ab (ah (dZ (m : Int) (by unfold bn; omega))) ?_
 refine ab (ah (lM (2 * D) (m : Int) lz lz)) ?_
 refine ab (ah (dZ 1 (by decide))) ?_
 refine ab (ah (eK _ _)) ?_
 refine ab (bt rfl)<|ag ?_
 refine dN rfl (fun hb1 => ?_) (fun hb1 => ?_)
 ·have hb1_ := (cz hb1)
  refine lx ?_
  refine ⟨.inr rfl, ?_⟩
  exact hnone (fun e => dF0 (cz hb1) (by rw [e]; rfl)) _
 have hb1_ := (cp hb1)
 have hgc : Int.gcd (2 * D) m = 1 := by have := dT0 (cp hb1); omega
 have hmo : (m : Int) % 2 = 1 := yQ hgc
 refine du ?_
 refine bB ?_
 refine bg hP ?_
 refine au hT rfl<|ab (ah cCh) ?_
 refine ab (aw (rfl : _ = AV.t _))<|ab (ay rfl (v := .c _) rfl)<|ab (ay rfl (v := .c _) rfl)<|aj rfl<|aj rfl<|ag<|bB ?_
 refine bg hP ?_
 refine ab (a8 hT rfl rfl rfl (cs := [_, _, _, _, _, _]) rfl rfl)<|ab (ah cVa) ?_
 refine ab (aw (rfl : _ = AV.t _))<|ab (ay rfl (v := .c _) rfl)<|ab (ay rfl (v := .c _) rfl)<|aj rfl<|aj rfl<|ag<|bB ?_
 refine bg hP ?_
 refine ak rfl<|ab (aU hT rfl rfl rfl (by rfl)) ?_
 refine ak rfl<|ag<|dQ ?_
 refine j5 (ι := Nat) (fun j => stL [(0, .p (.c (.v (.func (.yield l) #[] #[])))), (2, .ip [.v (.int .i64 (m : Int))]), (7, .p (.c (IS vs))), (32, .p (.c (IS ls))), (33, Z (ls.length : Int)), (34, Z (j : Int))] []) κ (fun j => j ≤ ls.length) (fun j => ls.length - j) 0 (Nat.zero_le _) hk0.symm (aE ⟨.refl _, .refl _, .refl _, .refl _, .refl _, .refl _, trivial⟩ trivial) ?_
 intro j hj
 refine bB ?_
 refine bg hP ?_
 refine ab (a7 rfl rfl)<|ag<|bB ?_
 refine dN rfl (fun hb2 => ?_) (fun hb2 => ?_)
 ·have hb2_ := dT0 hb2
  have hjn : j < ls.length := by omega
  have hcm := oY (l := ls) (k := j) hb2_
  have hcL : L 5 (ls.getD j 0) := by have := hcb _ hcm; unfold L; omega
  have hav : atV (ls.getD j 0) m = cv (ls.getD j 0) m := Gb (by omega) hmo
  refine du ?_
  refine bB ?_
  refine dQ ?_
  refine bB ?_
  refine bg hP ?_
  refine ak rfl<|ab (kR hT (n := (j : Int)) (l := ls) rfl rfl rfl rfl rfl rfl (by omega)) ?_
  refine ab (cf hT rfl rfl rfl (dv := .v (.int .i64 (ls.getD j 0))) rfl) ?_
  refine aj rfl<|aj rfl<|ag<|bB ?_
  refine sE hP 11 (by kernel_rfl) ?_
  refine ak rfl<|cr hT rfl rfl rfl ?_
  refine ab (ah (IU (ls.getD j 0) (m : Int) hcL (by omega))) ?_
  refine ak rfl<|ak rfl<|ab (kR hT (n := (j : Int)) (l := vs) rfl rfl rfl rfl rfl rfl (by omega)) ?_
  refine ab (cf hT rfl rfl rfl (dv := .v (.int .i64 (vs.getD j 0))) rfl) ?_
  refine ab (bl rfl rfl)<|ak rfl ?_
  refine aZ (t := 47) rfl (fun hg3 => ?_) (fun hg3 => ?_)
  ·have hg3_ := cn hg3
   have hne : ¬ cv (ls.getD j 0) m = (vs.getD j 0) := fun e => cn hg3 (hav.trans e)
   refine aC hg3 (aw (rfl : _ = AV.p (.c _))) ?_
   refine aC hg3 (aw (rfl : _ = AV.p (.c _))) ?_
   refine ag<|RY.yield hK (bf rfl rfl hg3) rfl rfl (hgt_ hgc j hjn hne) ?_
   intro bb
   refine RY.val (bf rfl rfl hg3) (bt rfl) ?_
   refine RY.val ai (aM rfl hg3 (rfl : _ = AV.p (.c _))) ?_
   refine RY.done ?_
   refine dN rfl (fun hb4 => ?_) (fun hb4 => ?_)
   ·have hb4_ := (cz hb4)
    refine lx ?_
    refine ⟨.inr rfl, ?_⟩
    exact uw (cz hb4)
   have hb4_ := (cp hb4)
   refine du ?_
   refine bg hP ?_
   refine bA rfl rfl ?_
   refine ak rfl<|ag ?_
   refine ⟨j + 1, by omega, by omega, (hyy j hjn hne).trans (uv (cp hb4)).symm, aE ⟨.refl _, .refl _, .refl _, .refl _, .refl _, aO (by omega), trivial⟩ trivial⟩
  have hg3_ := bY hg3
  have heq : cv (ls.getD j 0) m = (vs.getD j 0) := hav.symm.trans (bY hg3)
  refine aW hg3 ?_
  refine aW hg3 ?_
  refine ag<|RY.skip (jp rfl rfl hg3) ?_
  refine RY.skip (jp rfl rfl hg3) ?_
  refine RY.val ai (aL rfl hg3 (rfl : _ = AV.p (.c _))) ?_
  refine RY.done ?_
  refine iC rfl rfl ?_
  refine du ?_
  refine bg hP ?_
  refine bA rfl rfl ?_
  refine ak rfl<|ag ?_
  refine ⟨j + 1, by omega, by omega, hnn j hjn heq, aE ⟨.refl _, .refl _, .refl _, .refl _, .refl _, aO (by omega), trivial⟩ trivial⟩
 have hb2_ := dF0 hb2
 refine gJ ?_
 refine ⟨.inl rfl, ?_⟩
 exact hall hgc j (by omega)
theorem oH (f : Fm) (m : Int) :
  aF Tryz.prog 71 [FA f.a f.b f.c, Z m] (.fn 137 [[zn f.a, zm f.a, zn f.b, zm f.b, zn f.c, zm f.c], [.v (.int .i64 m)]]) := by
 refine jr Tryz.func71 (by kernel_rfl) rfl rfl (bL0 rfl) rfl ?_
 refine ae hP<|ao ai (aN rfl rfl)<|ao ai (aN rfl rfl)<|aj rfl<|ag<|cq (t := 2) rfl rfl ?_
 refine cq (t := 3) rfl rfl ?_
 refine ae hP<|ab (jg rfl rfl)<|ab (bi (rfl : _ = AV.fn _ _))<|ag<|am ?_
 exact ⟨.inr rfl, 4, rfl, rfl⟩
end
section
open Go Go.AM
theorem EI (f : Fm) (D : Int) (m : Nat) (hfa : L 6 f.a) (hfb : L 6 f.b) (hfc : L 6 f.c) (hf : Cl D f) (hD : -4194304 ≤ D ∧ D < 0) (hm : 1 ≤ m ∧ m ≤ 65536) (hE : szE D = 0) :
  aF Tryz.prog 17 [FA f.a f.b f.c, Z (m : Int)] (.t [.a (anS (fnd D m f)), PE 0]) := by
 have fa : LB f.a 6 := ⟨hfa⟩
 have fb : LB f.b 6 := ⟨hfb⟩
 have fc : LB f.c 6 := ⟨hfc⟩
 have hdf : dsc f.a f.b f.c = D := hf.disc
 have h0m : 0 < (m : Int) := by omega
 have cRf : aF Tryz.prog 65 [FA f.a f.b f.c, Z (m : Int)] (Z 0) := by
  have h := kO f m hfa hfb hfc
  rwa [va hf hm] at h
 have iD : LB D 6 := ⟨by unfold L; omega⟩
 have cDs : aF Tryz.prog 40 [FA f.a f.b f.c] (I D) := by rw [← hdf]; exact fq f.a f.b f.c lz lz lz
 refine aK Tryz.func17 rfl rfl rfl rfl ?_
 refine ae hP<|ao ai (aN rfl rfl)<|ao ai (aB hT rfl rfl)<|ao ai (aB hT rfl rfl)<|ag<|an<|ae hP<|bD hT rfl rfl rfl rfl rfl rfl<|ak rfl<|ab (ah cRf) ?_
 refine aj rfl<|ag<|ae hP<|ak rfl<|ab (bl rfl rfl)<|ag<|aP rfl rfl<|aq<|ae hP<|bD hT rfl rfl rfl rfl rfl rfl<|ab (ah cDs) ?_
 refine ao ai (aB hT rfl rfl)<|aG hT rfl<|ag<|ae hP<|ao ai (aB hT rfl rfl)<|ag<|an<|ae hP<|bD hT rfl rfl rfl rfl rfl rfl<|ak rfl<|ab (ah (tc f m)) ?_
 refine ag<|aA<|dj (t := stL [(1, Z (m : Int)), (2, .loc 2 0), (4, .loc 4 0), (5, .loc 5 0), (7, .loc 7 0), (8, .loc 8 0), (26, .fn 132 [[zn f.a, zm f.a, zn f.b, zm f.b, zn f.c, zm f.c], [.v (.int .i64 (m : Int))]])] [(2, ⟨false, 1, 46, [zn f.a, zm f.a, zn f.b, zm f.b, zn f.c, zm f.c]⟩), (4, ⟨false, 1, 42, bsC none⟩), (5, ⟨false, 1, 33, [.v (.int .i64 0)]⟩), (7, ⟨false, 1, 29, [zn D, zm D]⟩), (8, ⟨false, 1, 42, bsC (dc (prL D m f) 0)⟩)]) (aE ⟨.refl _, .refl _, .refl _, .refl _, .refl _, .refl _, .refl _, trivial⟩ ⟨rfl, rfl, rfl, rfl, Eq.trans rfl (congrArg (fun b => some (⟨false, 1, 42, bsC b⟩ : Blk)) (C9 (prL D m f)).symm), trivial⟩) ?_
 refine eD 9 (fun k => ci [(2, ⟨false, 1, 46, [zn f.a, zm f.a, zn f.b, zm f.b, zn f.c, zm f.c]⟩), (4, ⟨false, 1, 42, bsC none⟩), (5, ⟨false, 1, 33, [.v (.int .i64 0)]⟩), (7, ⟨false, 1, 29, [zn D, zm D]⟩), (8, ⟨false, 1, 42, bsC (dc (prL D m f) k)⟩)]) (fun _ => True) rfl (qx f D m hfa hfb hfc hdf hD hm) ED rfl rfl rfl trivial (fun k x hx _ => ?_) (fun _ => ?_)
 ·obtain ⟨p, hp, rfl⟩ := Hs hx
  refine av hP<|ao ai (aB hT rfl rfl)<|aG hT rfl<|ag<|aA<|ae hP<|ab (aQ hT rfl rfl rfl rfl rfl (by first | decide | omega)) ?_
  refine au hT rfl<|ab (aQ hT rfl rfl rfl rfl rfl (by first | decide | omega)) ?_
  refine au hT rfl<|ao ai (aB hT rfl rfl)<|ao ai (aB hT rfl rfl)<|aG hT rfl<|aG hT rfl<|ag<|an<|ae hP<|aJ hT rfl<|bj hT rfl rfl rfl rfl ?_
  refine ak rfl ?_
  refine aZ (t := 34) rfl (fun hg1 => ?_) (fun hg1 => ?_)
  ·have hy1 : p.2 < 0 := dT0 hg1
   iterate 3 refine aW hg1 ?_
   refine eR ?_
   refine eR ?_
   refine aW hg1 ?_
   refine ab (aM rfl hg1 (rfl : _ = AV.p (.c _)))<|ag<|aS rfl rfl<|a6 ?_
   refine ⟨GW.forget fun x => SubO.own (l := [(2, ⟨false, 1, 46, [zn f.a, zm f.a, zn f.b, zm f.b, zn f.c, zm f.c]⟩), (4, ⟨false, 1, 42, bsC none⟩), (5, ⟨false, 1, 33, [.v (.int .i64 0)]⟩), (7, ⟨false, 1, 29, [zn D, zm D]⟩), (8, ⟨false, 1, 42, bsC (dc (prL D m f) (k + 1))⟩)]) ⟨rfl, rfl, rfl, rfl, Eq.trans rfl (congrArg (fun b => some (⟨false, 1, 42, bsC b⟩ : Blk)) ((dU hp).trans (pZ (.inl hy1))).symm), trivial⟩ x, trivial⟩
  have hy1 : ¬ p.2 < 0 := dF0 hg1
  refine aC hg1 (aI hT rfl rfl rfl rfl (cs := [_, _]) rfl rfl) ?_
  refine aC hg1 (ah (yi _)) ?_
  refine aC hg1 (aw (rfl : _ = AV.p (.c _))) ?_
  refine aZ (t := 37) rfl (fun hg2 => ?_) (fun hg2 => ?_)
  ·have hy0 : p.2 = 0 := dT0 hg2
   refine aC hg2 (aR hT rfl rfl rfl rfl rfl rfl) ?_
   refine aC hg2 (bV hT rfl rfl rfl rfl (by first | rfl | exact eT (by omega))) ?_
   refine aC hg1 (aM rfl hg2 (rfl : _ = AV.p (.c _))) ?_
   refine ab (aL rfl hg1 (rfl : _ = AV.p (.c _)))<|ag ?_
   refine az rfl (fun hb3 => ?_) (fun hb3 => ?_)
   ·have hx1 : p.1 < 0 := dT0 hb3
    refine a6 ?_
    refine ⟨GW.forget fun x => SubO.own (l := [(2, ⟨false, 1, 46, [zn f.a, zm f.a, zn f.b, zm f.b, zn f.c, zm f.c]⟩), (4, ⟨false, 1, 42, bsC none⟩), (5, ⟨false, 1, 33, [.v (.int .i64 0)]⟩), (7, ⟨false, 1, 29, [zn D, zm D]⟩), (8, ⟨false, 1, 42, bsC (dc (prL D m f) (k + 1))⟩)]) ⟨rfl, rfl, rfl, rfl, Eq.trans rfl (congrArg (fun b => some (⟨false, 1, 42, bsC b⟩ : Blk)) ((dU hp).trans (pZ (.inr ⟨hy0, hx1⟩))).symm), trivial⟩ x, trivial⟩
   have ho : okP p = true := vv hy1 (fun z => dF0 hb3 z.2)
   refine aq<|ae hP<|au hT rfl<|aJ hT rfl<|au hT rfl<|ab (ah (c7 _ _)) ?_
   refine aj rfl<|ag<|ae hP<|aJ hT rfl<|bj hT rfl rfl rfl rfl ?_
   refine ab (bo rfl rfl)<|ak rfl ?_
   refine aZ (t := 49) rfl (fun hg4 => ?_) (fun hg4 => ?_)
   ·have hg4_ := bT hg4
    have hk := bT hg4
    refine aW hg4 ?_
    refine aW hg4 ?_
    refine ab (aM rfl hg4 (rfl : _ = AV.p (.c _)))<|ak rfl<|aW rfl ?_
    refine aW rfl ?_
    refine aW rfl ?_
    iterate 5 refine eR ?_
    refine aW rfl ?_
    refine ab (aM rfl rfl (rfl : _ = AV.p (.c _)))<|ag<|aS rfl rfl<|av hP<|au hT rfl<|au hT rfl<|ab (aV hT rfl rfl rfl (es := [_, _, _, _, _, _, _, _, _]) rfl)<|aG hT rfl<|ag ?_
    refine ⟨GW.forget fun x => SubO.own (l := [(2, ⟨false, 1, 46, [zn f.a, zm f.a, zn f.b, zm f.b, zn f.c, zm f.c]⟩), (4, ⟨false, 1, 42, bsC none⟩), (5, ⟨false, 1, 33, [.v (.int .i64 0)]⟩), (7, ⟨false, 1, 29, [zn D, zm D]⟩), (8, ⟨false, 1, 42, bsC (dc (prL D m f) (k + 1))⟩)]) ⟨rfl, rfl, rfl, rfl, Eq.trans rfl (congrArg (fun b => some (⟨false, 1, 42, bsC b⟩ : Blk)) ((dU hp).trans (z7 ho hk)).symm), trivial⟩ x, trivial⟩
   have hg4_ := bF hg4
   have hk := bF hg4
   refine aC hg4 (aw (rfl : _ = AV.p (.c _))) ?_
   refine aC hg4 (a7 rfl rfl) ?_
   refine ab (aL rfl hg4 (rfl : _ = AV.p (.c _)))<|ak rfl ?_
   refine aZ (t := 53) rfl (fun hg5 => ?_) (fun hg5 => ?_)
   ·have hg5_ := dT0 hg5
    have hc := dT0 hg5
    iterate 3 refine aW hg5 ?_
    iterate 5 refine eR ?_
    refine aW hg5 ?_
    refine ab (aM rfl hg5 (rfl : _ = AV.p (.c _)))<|ag<|aS rfl rfl<|av hP<|au hT rfl<|au hT rfl<|ab (aV hT rfl rfl rfl (es := [_, _, _, _, _, _, _, _, _]) rfl)<|aG hT rfl<|ag ?_
    refine ⟨GW.forget fun x => SubO.own (l := [(2, ⟨false, 1, 46, [zn f.a, zm f.a, zn f.b, zm f.b, zn f.c, zm f.c]⟩), (4, ⟨false, 1, 42, bsC none⟩), (5, ⟨false, 1, 33, [.v (.int .i64 0)]⟩), (7, ⟨false, 1, 29, [zn D, zm D]⟩), (8, ⟨false, 1, 42, bsC (dc (prL D m f) (k + 1))⟩)]) ⟨rfl, rfl, rfl, rfl, Eq.trans rfl (congrArg (fun b => some (⟨false, 1, 42, bsC b⟩ : Blk)) ((dU hp).trans (pq ho hk (.inl (cmpI_lt_zero.1 hc)))).symm), trivial⟩ x, trivial⟩
   have hg5_ := dF0 hg5
   have hc := dF0 hg5
   refine aC hg5 (aw (rfl : _ = AV.p (.c _))) ?_
   refine aC hg5 (bo rfl rfl) ?_
   refine aC hg5 (aw (rfl : _ = AV.p (.c _))) ?_
   refine aZ (t := 56) rfl (fun hg6 => ?_) (fun hg6 => ?_)
   ·have hg6_ := bT hg6
    have hc0 := bT hg6
    refine aC hg6 (aI hT rfl rfl rfl rfl (cs := [_, _]) rfl rfl) ?_
    refine aC hg6 (aR hT rfl rfl rfl rfl rfl rfl) ?_
    refine aC hg6 (aI hT rfl rfl rfl rfl (cs := [_, _]) rfl rfl) ?_
    refine aC hg6 (ah (c7 _ _)) ?_
    refine aC hg6 (a7 rfl rfl) ?_
    refine aC hg5 (aM rfl hg6 (rfl : _ = AV.p (.c _))) ?_
    refine ab (aL rfl hg5 (rfl : _ = AV.p (.c _)))<|ag ?_
    refine az rfl (fun hb7 => ?_) (fun hb7 => ?_)
    ·have hb7_ := dT0 hb7
     have hx2 := dT0 hb7
     refine av hP<|au hT rfl<|au hT rfl<|ab (aV hT rfl rfl rfl (es := [_, _, _, _, _, _, _, _, _]) rfl)<|aG hT rfl<|ag ?_
     refine ⟨GW.forget fun x => SubO.own (l := [(2, ⟨false, 1, 46, [zn f.a, zm f.a, zn f.b, zm f.b, zn f.c, zm f.c]⟩), (4, ⟨false, 1, 42, bsC none⟩), (5, ⟨false, 1, 33, [.v (.int .i64 0)]⟩), (7, ⟨false, 1, 29, [zn D, zm D]⟩), (8, ⟨false, 1, 42, bsC (dc (prL D m f) (k + 1))⟩)]) ⟨rfl, rfl, rfl, rfl, Eq.trans rfl (congrArg (fun b => some (⟨false, 1, 42, bsC b⟩ : Blk)) ((dU hp).trans (pq ho hk (.inr ⟨cmpI_eq_zero.1 hc0, cmpI_lt_zero.1 hx2⟩))).symm), trivial⟩ x, trivial⟩
    have hb7_ := dF0 hb7
    have hx2 := dF0 hb7
    refine aq ?_
    refine ⟨GW.forget fun x => SubO.own (l := [(2, ⟨false, 1, 46, [zn f.a, zm f.a, zn f.b, zm f.b, zn f.c, zm f.c]⟩), (4, ⟨false, 1, 42, bsC none⟩), (5, ⟨false, 1, 33, [.v (.int .i64 0)]⟩), (7, ⟨false, 1, 29, [zn D, zm D]⟩), (8, ⟨false, 1, 42, bsC (dc (prL D m f) (k + 1))⟩)]) ⟨rfl, rfl, rfl, rfl, Eq.trans rfl (congrArg (fun b => some (⟨false, 1, 42, bsC b⟩ : Blk)) ((dU hp).trans (px ho hk (fun z => z.elim (fun z => hc (cmpI_lt_zero.2 z)) fun z => hx2 (cmpI_lt_zero.2 z.2)))).symm), trivial⟩ x, trivial⟩
   have hg6_ := bF hg6
   have hc0 := bF hg6
   iterate 5 refine aW hg6 ?_
   refine aC hg5 (aL rfl hg6 (rfl : _ = AV.p (.c _))) ?_
   refine ab (aL rfl hg5 (rfl : _ = AV.p (.c _)))<|ag<|aP rfl rfl<|aq ?_
   refine ⟨GW.forget fun x => SubO.own (l := [(2, ⟨false, 1, 46, [zn f.a, zm f.a, zn f.b, zm f.b, zn f.c, zm f.c]⟩), (4, ⟨false, 1, 42, bsC none⟩), (5, ⟨false, 1, 33, [.v (.int .i64 0)]⟩), (7, ⟨false, 1, 29, [zn D, zm D]⟩), (8, ⟨false, 1, 42, bsC (dc (prL D m f) (k + 1))⟩)]) ⟨rfl, rfl, rfl, rfl, Eq.trans rfl (congrArg (fun b => some (⟨false, 1, 42, bsC b⟩ : Blk)) ((dU hp).trans (px ho hk (fun z => z.elim (fun z => hc (cmpI_lt_zero.2 z)) fun z => hc0 (cmpI_eq_zero.2 z.1)))).symm), trivial⟩ x, trivial⟩
  have hy0 : ¬ p.2 = 0 := dF0 hg2
  have ho : okP p = true := vv hy1 (fun z => hy0 z.1)
  refine aW hg2 ?_
  refine aW hg2 ?_
  refine aC hg1 (aL rfl hg2 (rfl : _ = AV.p (.c _))) ?_
  refine ab (aL rfl hg1 (rfl : _ = AV.p (.c _)))<|ag<|aP rfl rfl<|aq<|ae hP<|au hT rfl<|aJ hT rfl<|au hT rfl<|ab (ah (c7 _ _)) ?_
  refine aj rfl<|ag<|ae hP<|aJ hT rfl<|bj hT rfl rfl rfl rfl ?_
  refine ab (bo rfl rfl)<|ak rfl ?_
  refine aZ (t := 49) rfl (fun hg8 => ?_) (fun hg8 => ?_)
  ·have hg8_ := bT hg8
   have hk := bT hg8
   refine aW hg8 ?_
   refine aW hg8 ?_
   refine ab (aM rfl hg8 (rfl : _ = AV.p (.c _)))<|ak rfl<|aW rfl ?_
   refine aW rfl ?_
   refine aW rfl ?_
   iterate 5 refine eR ?_
   refine aW rfl ?_
   refine ab (aM rfl rfl (rfl : _ = AV.p (.c _)))<|ag<|aS rfl rfl<|av hP<|au hT rfl<|au hT rfl<|ab (aV hT rfl rfl rfl (es := [_, _, _, _, _, _, _, _, _]) rfl)<|aG hT rfl<|ag ?_
   refine ⟨GW.forget fun x => SubO.own (l := [(2, ⟨false, 1, 46, [zn f.a, zm f.a, zn f.b, zm f.b, zn f.c, zm f.c]⟩), (4, ⟨false, 1, 42, bsC none⟩), (5, ⟨false, 1, 33, [.v (.int .i64 0)]⟩), (7, ⟨false, 1, 29, [zn D, zm D]⟩), (8, ⟨false, 1, 42, bsC (dc (prL D m f) (k + 1))⟩)]) ⟨rfl, rfl, rfl, rfl, Eq.trans rfl (congrArg (fun b => some (⟨false, 1, 42, bsC b⟩ : Blk)) ((dU hp).trans (z7 ho hk)).symm), trivial⟩ x, trivial⟩
  have hg8_ := bF hg8
  have hk := bF hg8
  refine aC hg8 (aw (rfl : _ = AV.p (.c _))) ?_
  refine aC hg8 (a7 rfl rfl) ?_
  refine ab (aL rfl hg8 (rfl : _ = AV.p (.c _)))<|ak rfl ?_
  refine aZ (t := 53) rfl (fun hg9 => ?_) (fun hg9 => ?_)
  ·have hg9_ := dT0 hg9
   have hc := dT0 hg9
   iterate 3 refine aW hg9 ?_
   iterate 5 refine eR ?_
   refine aW hg9 ?_
   refine ab (aM rfl hg9 (rfl : _ = AV.p (.c _)))<|ag<|aS rfl rfl<|av hP<|au hT rfl<|au hT rfl<|ab (aV hT rfl rfl rfl (es := [_, _, _, _, _, _, _, _, _]) rfl)<|aG hT rfl<|ag ?_
   refine ⟨GW.forget fun x => SubO.own (l := [(2, ⟨false, 1, 46, [zn f.a, zm f.a, zn f.b, zm f.b, zn f.c, zm f.c]⟩), (4, ⟨false, 1, 42, bsC none⟩), (5, ⟨false, 1, 33, [.v (.int .i64 0)]⟩), (7, ⟨false, 1, 29, [zn D, zm D]⟩), (8, ⟨false, 1, 42, bsC (dc (prL D m f) (k + 1))⟩)]) ⟨rfl, rfl, rfl, rfl, Eq.trans rfl (congrArg (fun b => some (⟨false, 1, 42, bsC b⟩ : Blk)) ((dU hp).trans (pq ho hk (.inl (cmpI_lt_zero.1 hc)))).symm), trivial⟩ x, trivial⟩
  have hg9_ := dF0 hg9
  have hc := dF0 hg9
  refine aC hg9 (aw (rfl : _ = AV.p (.c _))) ?_
  refine aC hg9 (bo rfl rfl) ?_
  refine aC hg9 (aw (rfl : _ = AV.p (.c _))) ?_
  refine aZ (t := 56) rfl (fun hg10 => ?_) (fun hg10 => ?_)
  ·have hg10_ := bT hg10
   have hc0 := bT hg10
   refine aC hg10 (aI hT rfl rfl rfl rfl (cs := [_, _]) rfl rfl) ?_
   refine aC hg10 (aR hT rfl rfl rfl rfl rfl rfl) ?_
   refine aC hg10 (aI hT rfl rfl rfl rfl (cs := [_, _]) rfl rfl) ?_
   refine aC hg10 (ah (c7 _ _)) ?_
   refine aC hg10 (a7 rfl rfl) ?_
   refine aC hg9 (aM rfl hg10 (rfl : _ = AV.p (.c _))) ?_
   refine ab (aL rfl hg9 (rfl : _ = AV.p (.c _)))<|ag ?_
   refine az rfl (fun hb11 => ?_) (fun hb11 => ?_)
   ·have hb11_ := dT0 hb11
    have hx2 := dT0 hb11
    refine av hP<|au hT rfl<|au hT rfl<|ab (aV hT rfl rfl rfl (es := [_, _, _, _, _, _, _, _, _]) rfl)<|aG hT rfl<|ag ?_
    refine ⟨GW.forget fun x => SubO.own (l := [(2, ⟨false, 1, 46, [zn f.a, zm f.a, zn f.b, zm f.b, zn f.c, zm f.c]⟩), (4, ⟨false, 1, 42, bsC none⟩), (5, ⟨false, 1, 33, [.v (.int .i64 0)]⟩), (7, ⟨false, 1, 29, [zn D, zm D]⟩), (8, ⟨false, 1, 42, bsC (dc (prL D m f) (k + 1))⟩)]) ⟨rfl, rfl, rfl, rfl, Eq.trans rfl (congrArg (fun b => some (⟨false, 1, 42, bsC b⟩ : Blk)) ((dU hp).trans (pq ho hk (.inr ⟨cmpI_eq_zero.1 hc0, cmpI_lt_zero.1 hx2⟩))).symm), trivial⟩ x, trivial⟩
   have hb11_ := dF0 hb11
   have hx2 := dF0 hb11
   refine aq ?_
   refine ⟨GW.forget fun x => SubO.own (l := [(2, ⟨false, 1, 46, [zn f.a, zm f.a, zn f.b, zm f.b, zn f.c, zm f.c]⟩), (4, ⟨false, 1, 42, bsC none⟩), (5, ⟨false, 1, 33, [.v (.int .i64 0)]⟩), (7, ⟨false, 1, 29, [zn D, zm D]⟩), (8, ⟨false, 1, 42, bsC (dc (prL D m f) (k + 1))⟩)]) ⟨rfl, rfl, rfl, rfl, Eq.trans rfl (congrArg (fun b => some (⟨false, 1, 42, bsC b⟩ : Blk)) ((dU hp).trans (px ho hk (fun z => z.elim (fun z => hc (cmpI_lt_zero.2 z)) fun z => hx2 (cmpI_lt_zero.2 z.2)))).symm), trivial⟩ x, trivial⟩
  have hg10_ := bF hg10
  have hc0 := bF hg10
  iterate 5 refine aW hg10 ?_
  refine aC hg9 (aL rfl hg10 (rfl : _ = AV.p (.c _))) ?_
  refine ab (aL rfl hg9 (rfl : _ = AV.p (.c _)))<|ag<|aP rfl rfl<|aq ?_
  refine ⟨GW.forget fun x => SubO.own (l := [(2, ⟨false, 1, 46, [zn f.a, zm f.a, zn f.b, zm f.b, zn f.c, zm f.c]⟩), (4, ⟨false, 1, 42, bsC none⟩), (5, ⟨false, 1, 33, [.v (.int .i64 0)]⟩), (7, ⟨false, 1, 29, [zn D, zm D]⟩), (8, ⟨false, 1, 42, bsC (dc (prL D m f) (k + 1))⟩)]) ⟨rfl, rfl, rfl, rfl, Eq.trans rfl (congrArg (fun b => some (⟨false, 1, 42, bsC b⟩ : Blk)) ((dU hp).trans (px ho hk (fun z => z.elim (fun z => hc (cmpI_lt_zero.2 z)) fun z => hc0 (cmpI_eq_zero.2 z.1)))).symm), trivial⟩ x, trivial⟩
 refine dj (t := stL [(1, Z (m : Int)), (2, .loc 2 0), (4, .loc 4 0), (5, .loc 5 0), (7, .loc 7 0), (8, .loc 8 0)] [(2, ⟨false, 1, 46, [zn f.a, zm f.a, zn f.b, zm f.b, zn f.c, zm f.c]⟩), (4, ⟨false, 1, 42, bsC none⟩), (5, ⟨false, 1, 33, [.v (.int .i64 0)]⟩), (7, ⟨false, 1, 29, [zn D, zm D]⟩), (8, ⟨false, 1, 42, bsC (dR (prL D m f))⟩)]) (aE ⟨.refl _, .refl _, .refl _, .refl _, .refl _, .refl _, trivial⟩ ⟨rfl, rfl, rfl, rfl, Eq.trans rfl (congrArg (fun b => some (⟨false, 1, 42, bsC b⟩ : Blk)) (wW rfl)), trivial⟩) ?_
 refine an<|ae hP<|aJ hT rfl<|bj hT rfl rfl rfl rfl ?_
 refine ab (bU rfl rfl)<|ag ?_
 refine az rfl (fun hb12 => ?_) (fun hb12 => ?_)
 ·have hb12_ := dT0 hb12
  have hkb := dT0 hb12
  refine ae hP<|ab (aI hT rfl rfl rfl rfl (cs := [_, _, _, _, _, _, _, _, _]) rfl rfl)<|aG hT rfl<|aG hT rfl<|ag<|am ?_
  refine b9 rfl (.inr rfl) (aT hT rfl rfl rfl rfl (cs := [_, _, _, _, _, _, _, _, _]) rfl rfl) (b7 hT rfl rfl rfl rfl rfl) ?_ br
  exact aD (congrArg (fun d => AV.t [.a d, PE 0]) (Jc hkb))
 have hb12_ := dF0 hb12
 have h0b := Jd (dF0 hb12)
 refine aq<|an<|ae hP<|ak rfl<|ao ai (Eff.callG (ta m)) ?_
 refine ag<|aA<|dj (t := stL [(72, .fnl 135 72), (1, Z (m : Int)), (2, .loc 2 0), (4, .loc 4 0), (5, .loc 5 0), (7, .loc 7 0)] ((72, ⟨false, 1, 3, [.v (.int .i64 ((m : Nat) : Int))]⟩) :: [(2, ⟨false, 1, 46, [zn f.a, zm f.a, zn f.b, zm f.b, zn f.c, zm f.c]⟩), (4, ⟨false, 1, 42, bsC none⟩), (5, ⟨false, 1, 33, [.v (.int .i64 0)]⟩), (7, ⟨false, 1, 29, [zn D, zm D]⟩)])) (aE ⟨.refl _, .refl _, .refl _, .refl _, .refl _, .refl _, trivial⟩ ⟨rfl, rfl, rfl, rfl, rfl, trivial⟩) ?_
 refine nk (l := [(1, Z (m : Int)), (2, .loc 2 0), (4, .loc 4 0), (5, .loc 5 0), (7, .loc 7 0)]) (o := ci ((72, ⟨false, 1, 3, [.v (.int .i64 ((m : Nat) : Int))]⟩) :: [(2, ⟨false, 1, 46, [zn f.a, zm f.a, zn f.b, zm f.b, zn f.c, zm f.c]⟩), (4, ⟨false, 1, 42, bsC none⟩), (5, ⟨false, 1, 33, [.v (.int .i64 0)]⟩), (7, ⟨false, 1, 29, [zn D, zm D]⟩)])) 73 (fun _ => ci [(2, ⟨false, 1, 46, [zn f.a, zm f.a, zn f.b, zm f.b, zn f.c, zm f.c]⟩), (4, ⟨false, 1, 42, bsC none⟩), (5, ⟨false, 1, 33, [.v (.int .i64 0)]⟩), (7, ⟨false, 1, 29, [zn D, zm D]⟩)]) (PtR D m) (qw m hm) rfl rfl rfl rfl (qA rfl) vN rfl rfl rfl PtR.start (fun k x hx hI => ?_) (fun hI => ?_)
 ·obtain ⟨q, hq, rfl⟩ := Ac hx
  refine av hP<|aj rfl<|ag<|aA<|ae hP<|au hT rfl<|ak rfl<|ab (ah (oG D q hD (uj hm hq))) ?_
  refine ag ?_
  refine az rfl (fun hb13 => ?_) (fun hb13 => ?_)
  ·have hrq := dT0 hb13
   refine ae hP<|ak rfl<|ab (ah (dZ (q : Int) (by have := uj hm hq; unfold bn; omega))) ?_
   refine ab (aV hT rfl rfl rfl (es := [_, _, _, _, _, _, _, _, _]) rfl)<|aG hT rfl<|aG hT rfl<|ag<|am ?_
   refine ⟨_, GW.forget fun _ => .inl rfl, ?_⟩
   refine b9 rfl (.inr rfl) (aT hT rfl rfl rfl rfl (cs := [_, _, _, _, _, _, _, _, _]) rfl rfl) (b7 hT rfl rfl rfl rfl rfl) ?_ br
   exact aD (congrArg (fun d => AV.t [.a d, PE 0]) (Jb h0b hI hq hrq))
  have hrq := dF0 hb13
  refine aq ?_
  exact ⟨GW.forget fun x => SubO.own (l := [(2, ⟨false, 1, 46, [zn f.a, zm f.a, zn f.b, zm f.b, zn f.c, zm f.c]⟩), (4, ⟨false, 1, 42, bsC none⟩), (5, ⟨false, 1, 33, [.v (.int .i64 0)]⟩), (7, ⟨false, 1, 29, [zn D, zm D]⟩)]) ⟨rfl, rfl, rfl, rfl, trivial⟩ x, hI.next hq hrq⟩
 have h1b := hI.done (EB rfl)
 refine an<|ae hP<|bD hT rfl rfl rfl rfl rfl rfl<|ak rfl<|ab (ah (oH f m)) ?_
 refine ag<|aA<|dj (t := stL [(1, Z (m : Int)), (2, .loc 2 0), (4, .loc 4 0), (5, .loc 5 0), (7, .loc 7 0), (82, .fn 137 [[zn f.a, zm f.a, zn f.b, zm f.b, zn f.c, zm f.c], [.v (.int .i64 (m : Int))]])] [(2, ⟨false, 1, 46, [zn f.a, zm f.a, zn f.b, zm f.b, zn f.c, zm f.c]⟩), (4, ⟨false, 1, 42, bsC none⟩), (5, ⟨false, 1, 33, [.v (.int .i64 0)]⟩), (7, ⟨false, 1, 29, [zn D, zm D]⟩)]) (aE ⟨.refl _, .refl _, .refl _, .refl _, .refl _, .refl _, trivial⟩ ⟨rfl, rfl, rfl, rfl, trivial⟩) ?_
 refine eD 83 (fun _ => ci [(2, ⟨false, 1, 46, [zn f.a, zm f.a, zn f.b, zm f.b, zn f.c, zm f.c]⟩), (4, ⟨false, 1, 42, bsC none⟩), (5, ⟨false, 1, 33, [.v (.int .i64 0)]⟩), (7, ⟨false, 1, 29, [zn D, zm D]⟩)]) (fun k => k = 0) rfl (mR f D m hfa hfb hfc hf hD hm hE) w4 rfl rfl rfl rfl (fun k x hx hk => ?_) (fun hk => ?_)
 ·obtain ⟨c, hc, rfl⟩ := Aw hx
  refine av hP<|aj rfl<|ag<|aA<|ae hP<|ak rfl<|ab (ah (dZ c (by have := Gf hD hc; unfold bn; omega))) ?_
  refine ab (aV hT rfl rfl rfl (es := [_, _, _, _, _, _, _, _, _]) rfl)<|aG hT rfl<|aG hT rfl<|ag<|am ?_
  refine ⟨_, GW.forget fun _ => .inl rfl, ?_⟩
  refine b9 rfl (.inr rfl) (aT hT rfl rfl rfl rfl (cs := [_, _, _, _, _, _, _, _, _]) rfl rfl) (b7 hT rfl rfl rfl rfl rfl) ?_ br
  exact aD (congrArg (fun d => AV.t [.a d, PE 0]) (Ja h0b h1b hc hk))
 refine ae hP<|au hT rfl<|ak rfl<|ab (ah (qy D m hD hm)) ?_
 refine au hT rfl<|ak rfl<|ab (ah (oF D m hD hm)) ?_
 refine ab (aV hT rfl rfl rfl (es := [_, _, _, _, _, _, _, _, _]) rfl)<|aG hT rfl<|aG hT rfl<|ag<|am ?_
 refine b9 rfl (.inr rfl) (aT hT rfl rfl rfl rfl (cs := [_, _, _, _, _, _, _, _, _]) rfl rfl) (b7 hT rfl rfl rfl rfl rfl) ?_ br
 exact aD (congrArg (fun d => AV.t [.a d, PE 0]) (I9 h0b h1b hk))
end
section
open Go Go.AM
theorem ww (r : Rw) :
  aF Tryz.prog 58 [.p (.a [.v (.bool r.1), W r.2])] (Z (rsg r)) := by
 refine aK Tryz.func58 rfl rfl rfl rfl ?_
 refine ae hP<|ao ai (aN rfl rfl)<|aj rfl<|ag<|an<|aA<|ae hP<|aJ hT rfl<|bj hT rfl rfl rfl rfl ?_
 refine ab (aU hT rfl rfl rfl rfl)<|ab (bo rfl rfl)<|aj rfl<|ag ?_
 refine az rfl (fun hb1 => ?_) (fun hb1 => ?_)
 ·have hb1_ := bT hb1
  refine ae hP<|aj rfl<|ag<|am<|E1 rfl rfl ?_
  exact aO (GZ hb1_)
 have hb1_ := bF hb1
 refine ae hP<|aJ hT rfl<|bj hT rfl rfl rfl rfl ?_
 refine aj rfl<|ag ?_
 refine az rfl (fun hb2 => ?_) (fun hb2 => ?_)
 ·refine ae hP<|aj rfl<|ag<|am<|E1 rfl rfl ?_
  exact aO (GY hb1_ hb2)
 refine aq<|ae hP<|aj rfl<|ag<|am<|E1 rfl rfl ?_
 exact aO (GX hb1_ hb2)
theorem uK (r : Rw) (hl : r.2.length ≤ 1000000000) :
  aF Tryz.prog 100 [.p (.a [.v (.bool r.1), W r.2])] (B (rV r)) := by
 refine aK Tryz.func100 rfl rfl rfl rfl ?_
 refine ae hP<|ao ai (aN rfl rfl)<|aj rfl<|ag<|an<|ae hP<|aJ hT rfl<|bj hT rfl rfl rfl rfl ?_
 refine ab (aU hT rfl rfl rfl rfl)<|ab (bo rfl rfl)<|ag ?_
 refine az rfl (fun hb1 => ?_) (fun hb1 => ?_)
 ·have hb1_ := bT hb1
  refine ae hP<|aJ hT rfl<|bj hT rfl rfl rfl rfl ?_
  refine ab (bt rfl)<|aj rfl<|ag<|am<|E1 rfl rfl ?_
  exact aY (IL hb1_)
 have hb1_ := bF hb1
 refine aq<|ae hP<|aJ hT rfl<|bj hT rfl rfl rfl rfl ?_
 refine aJ hT rfl<|bj hT rfl rfl rfl rfl ?_
 refine ab (aU hT rfl rfl rfl rfl)<|ab (bI rfl rfl (by first | exact iW0 _ (by omega) | rfl)) ?_
 refine cW ?_
 refine cr hT rfl rfl rfl ?_
 refine ab (bl rfl rfl)<|aj rfl<|ag<|am<|E1 rfl rfl ?_
 exact aY (IK hb1_)
theorem jy (r : Rw) :
  aF Tryz.prog 67 [.p (.a [.v (.bool r.1), W r.2])] (B (decide (r.2 = []))) := by
 refine aK Tryz.func67 rfl rfl rfl rfl ?_
 refine ae hP<|ao ai (aN rfl rfl)<|aj rfl<|ag<|ae hP<|au hT rfl<|ab (ah (ww r)) ?_
 refine ab (bo rfl rfl)<|aj rfl<|ag<|am<|E1 rfl rfl ?_
 exact aY GV
theorem pg (l m : List Int) (hl : (l.length : Int) ≤ 1000000000) :
  aF Tryz.prog 163 [.p (.c (SL enI l)), .p (.c (SL enI m)), .p (.c (.v (.func (.func 138) #[] #[])))] (B (decide (l = m))) := by
 refine aK Tryz.func163 rfl rfl rfl rfl ?_
 refine ae hP<|aj rfl<|ag<|an<|ae hP<|ak rfl<|ab (aU hT rfl rfl rfl (by rfl)) ?_
 refine ak rfl<|ab (aU hT rfl rfl rfl (by rfl)) ?_
 refine ab (bl rfl rfl)<|ag ?_
 refine az rfl (fun hb1 => ?_) (fun hb1 => ?_)
 ·have hb1_ := cn hb1
  refine ae hP<|aj rfl<|ag<|am<|E1 rfl rfl ?_
  exact aY (decide_eq_false (fun e => hb1_ (by rw [e]))).symm
 have hb1_ := bY hb1
 have hlen : l.length = m.length := by have := hb1_; omega
 refine aq<|an<|ae hP<|ak rfl<|ab (aU hT rfl rfl rfl (by rfl)) ?_
 refine ak rfl<|ag<|aA<|bq (ι := Nat) (fun k => stL [(0, .p (.c (SL enI l))), (1, .p (.c (SL enI m))), (2, .p (.c (.v (.func (.func 138) #[] #[])))), (15, .p (.c (SL enI l))), (16, Z (l.length : Int)), (17, Z (k : Int))] []) (fun k => SmG l m k) (fun k => l.length - k) 0 (SmG.start hlen) (aE ⟨.refl _, .refl _, .refl _, .refl _, .refl _, .refl _, trivial⟩ trivial) ?_
 intro k hI
 have hk := hI.le
 refine ae hP<|ab (a7 rfl rfl)<|ag<|an ?_
 refine az rfl (fun hb2 => ?_) (fun hb2 => ?_)
 ·have hb2_ := dT0 hb2
  refine aq<|an<|aA<|ae hP<|ak rfl<|ab (dy hT eO (by decide) 0 (n := (k : Int)) (l := l) rfl rfl rfl rfl rfl rfl (by omega)) ?_
  refine ab (a8 hT rfl rfl rfl (cs := enI (l.getD k 0)) rfl rfl) ?_
  refine ao ai (aB hT rfl rfl)<|aj rfl<|aG hT rfl<|ag<|ae hP<|ak rfl<|ak rfl<|ab (dy hT eO (by decide) 0 (n := (k : Int)) (l := m) rfl rfl rfl rfl rfl rfl (by omega)) ?_
  refine ab (a8 hT rfl rfl rfl (cs := enI (m.getD k 0)) rfl rfl) ?_
  refine ao ai (aB hT rfl rfl)<|aG hT rfl<|ag<|ae hP<|ak rfl<|au hT rfl<|au hT rfl<|ab (Eff.callF rfl (eK _ _)) ?_
  refine ab (bt rfl)<|ag ?_
  refine az rfl (fun hb3 => ?_) (fun hb3 => ?_)
  ·have hb3_ := (cz hb3)
   refine ae hP<|aj rfl<|ag<|am<|E1 rfl rfl ?_
   exact aY (decide_eq_false (SmG.no (d := 0) (fun e => dF0 (cz hb3) e))).symm
  have hb3_ := (cp hb3)
  refine aq<|av hP<|bA rfl rfl ?_
  refine ak rfl<|ag ?_
  refine ⟨k + 1, hI.next (d := 0) (by omega) (dT0 (cp hb3)), by omega, aE ⟨.refl _, .refl _, .refl _, .refl _, .refl _, aO (by omega), trivial⟩ trivial⟩
 have hb2_ := dF0 hb2
 refine a6<|ae hP<|aj rfl<|ag<|am<|E1 rfl rfl ?_
 exact aY (decide_eq_true (hI.yes (by omega))).symm
theorem ph (l m : List Fm) (hl : (l.length : Int) ≤ 1000000000) :
  aF Tryz.prog 164 [.p (.c (FS l)), .p (.c (FS m)), .p (.c (.v (.func (.func 165) #[] #[])))] (B (decide (l = m))) := by
 refine aK Tryz.func164 rfl rfl rfl rfl ?_
 refine ae hP<|aj rfl<|ag<|an<|ae hP<|ak rfl<|ab (aU hT rfl rfl rfl (by rfl)) ?_
 refine ak rfl<|ab (aU hT rfl rfl rfl (by rfl)) ?_
 refine ab (bl rfl rfl)<|ag ?_
 refine az rfl (fun hb1 => ?_) (fun hb1 => ?_)
 ·have hb1_ := cn hb1
  refine ae hP<|aj rfl<|ag<|am<|E1 rfl rfl ?_
  exact aY (decide_eq_false (fun e => hb1_ (by rw [e]))).symm
 have hb1_ := bY hb1
 have hlen : l.length = m.length := by have := hb1_; omega
 refine aq<|an<|ae hP<|ak rfl<|ab (aU hT rfl rfl rfl (by rfl)) ?_
 refine ak rfl<|ag<|aA<|bq (ι := Nat) (fun k => stL [(0, .p (.c (FS l))), (1, .p (.c (FS m))), (2, .p (.c (.v (.func (.func 165) #[] #[])))), (15, .p (.c (FS l))), (16, Z (l.length : Int)), (17, Z (k : Int))] []) (fun k => SmG l m k) (fun k => l.length - k) 0 (SmG.start hlen) (aE ⟨.refl _, .refl _, .refl _, .refl _, .refl _, .refl _, trivial⟩ trivial) ?_
 intro k hI
 have hk := hI.le
 refine ae hP<|ab (a7 rfl rfl)<|ag<|an ?_
 refine az rfl (fun hb2 => ?_) (fun hb2 => ?_)
 ·have hb2_ := dT0 hb2
  refine aq<|an<|aA<|ae hP<|ak rfl<|ab (fM hT (n := (k : Int)) rfl rfl rfl rfl rfl rfl (by omega)) ?_
  refine ab (a8 hT rfl rfl rfl (cs := FC (l.getD k ⟨0, 0, 0⟩)) rfl rfl) ?_
  refine ao ai (aB hT rfl rfl)<|aj rfl<|aG hT rfl<|ag<|ae hP<|ak rfl<|ak rfl<|ab (fM hT (n := (k : Int)) rfl rfl rfl rfl rfl rfl (by omega)) ?_
  refine ab (a8 hT rfl rfl rfl (cs := FC (m.getD k ⟨0, 0, 0⟩)) rfl rfl) ?_
  refine ao ai (aB hT rfl rfl)<|aG hT rfl<|ag<|ae hP<|ak rfl<|bD hT rfl rfl rfl rfl rfl rfl<|bD hT rfl rfl rfl rfl rfl rfl<|ab (Eff.callF rfl (mQ _ _ _ _ _ _)) ?_
  refine ab (bt rfl)<|ag ?_
  refine az rfl (fun hb3 => ?_) (fun hb3 => ?_)
  ·have hb3_ := (cz hb3)
   refine ae hP<|aj rfl<|ag<|am<|E1 rfl rfl ?_
   exact aY (decide_eq_false (SmG.no (d := ⟨0, 0, 0⟩) (fun e => dF0 (cz hb3) ⟨congrArg Fm.a e, congrArg Fm.b e, congrArg Fm.c e⟩))).symm
  have hb3_ := (cp hb3)
  refine aq<|av hP<|bA rfl rfl ?_
  refine ak rfl<|ag ?_
  refine ⟨k + 1, hI.next (d := ⟨0, 0, 0⟩) (by omega) (Fm.ext (dT0 (cp hb3)).1 (dT0 (cp hb3)).2.1 (dT0 (cp hb3)).2.2), by omega, aE ⟨.refl _, .refl _, .refl _, .refl _, .refl _, aO (by omega), trivial⟩ trivial⟩
 have hb2_ := dF0 hb2
 refine a6<|ae hP<|aj rfl<|ag<|am<|E1 rfl rfl ?_
 exact aY (decide_eq_true (hI.yes (by omega))).symm
theorem pd (l : List Fm) (F : FuncId) (caps : List (List DV)) (p : Fm → Bool) (hc : ∀ g : Fm, aF Tryz.prog F ([FA g.a g.b g.c] ++ caps.map .ip) (B (p g))) (hl : (l.length : Int) ≤ 1000000000) :
  aF Tryz.prog 204 [.p (.c (FS l)), .fn F caps] (Z (iA p l 0)) := by
 refine aK Tryz.func204 rfl rfl rfl rfl ?_
 refine ae hP<|aj rfl<|ag<|an<|ae hP<|ak rfl<|ab (aU hT rfl rfl rfl (by rfl)) ?_
 refine ak rfl<|ag<|aA<|bq (ι := Nat) (fun k => stL [(0, .p (.c (FS l))), (1, .fn F caps), (7, Z (l.length : Int)), (8, Z (k : Int))] []) (fun k => k ≤ l.length ∧ iA p l 0 = iA p (l.drop k) k) (fun k => l.length - k) 0 ⟨Nat.zero_le _, rfl⟩ (aE ⟨.refl _, .refl _, .refl _, .refl _, trivial⟩ trivial) ?_
 rintro k ⟨hk, hI⟩
 refine ae hP<|ab (a7 rfl rfl)<|ag<|an ?_
 refine az rfl (fun hb1 => ?_) (fun hb1 => ?_)
 ·have hb1_ := dT0 hb1
  refine aq<|an<|aA<|ae hP<|ak rfl<|aj rfl<|ag<|ae hP<|ab (aw (rfl : _ = AV.fn _ _))<|ak rfl<|ak rfl<|ab (fM hT (n := (k : Int)) rfl rfl rfl rfl rfl rfl (by omega)) ?_
  refine ab (a8 hT rfl rfl rfl (cs := FC (l.getD k ⟨0, 0, 0⟩)) rfl rfl) ?_
  refine ab (Eff.callC rfl (hc (l.getD k ⟨0, 0, 0⟩))) ?_
  refine ag ?_
  refine az rfl (fun hb2 => ?_) (fun hb2 => ?_)
  ·refine ae hP<|ak rfl<|aj rfl<|ag<|am<|E1 rfl rfl ?_
   exact aO (hI.trans (yX (by omega) hb2)).symm
  refine aq<|av hP<|bA rfl rfl ?_
  refine ak rfl<|ag ?_
  refine ⟨k + 1, ⟨by omega, hI.trans (wC (by omega) hb2)⟩, by omega, aE ⟨.refl _, .refl _, .refl _, aO (by omega), trivial⟩ trivial⟩
 have hb1_ := dF0 hb1
 refine a6<|ae hP<|aj rfl<|ag<|am<|E1 rfl rfl ?_
 exact aO (hI.trans (yY (by omega))).symm
theorem mg (l : List Fm) (F : FuncId) (caps : List (List DV)) (p : Fm → Bool) (hc : ∀ g : Fm, aF Tryz.prog F ([FA g.a g.b g.c] ++ caps.map .ip) (B (p g))) (hl : (l.length : Int) ≤ 1000000000) :
  aF Tryz.prog 166 [.p (.c (FS l)), .fn F caps] (B (l.any p)) := by
 refine aK Tryz.func166 rfl rfl rfl rfl ?_
 refine ae hP<|aj rfl<|ag<|ae hP<|ak rfl<|ab (aw (rfl : _ = AV.fn _ _))<|ab (ah (pd l F caps p hc hl)) ?_
 refine ab (dB rfl rfl)<|aj rfl<|ag<|am<|E1 rfl rfl ?_
 exact aY (ru l 0)
theorem qu (a : Ans) (x : Int) (hx : bn x) :
  aF Tryz.prog 162 [Z x, .ip (anS a)] (B (decide (a.m = x))) := by
 refine aK Tryz.func162 rfl rfl rfl rfl ?_
 refine ae hP<|aj rfl<|ag<|ae hP<|ab (sn hT rfl rfl rfl rfl rfl rfl)<|ab (a8 hT rfl rfl rfl (cs := enI a.m) rfl rfl)<|ak rfl<|ab (ah (dZ x hx)) ?_
 refine ab (ah (eK _ _)) ?_
 refine aj rfl<|ag<|am<|E1 rfl rfl ?_
 exact .refl _
theorem yg (g o : Fm) :
  aF Tryz.prog 167 [FA g.a g.b g.c, .ip [zn o.a, zm o.a, zn o.b, zm o.b, zn o.c, zm o.c]] (B (decide (g.a = o.a ∧ g.b = o.b ∧ g.c = o.c))) := by
 refine aK Tryz.func167 rfl rfl rfl rfl ?_
 refine ae hP<|ao ai (aN rfl rfl)<|aj rfl<|ag<|ae hP<|bD hT rfl rfl rfl rfl rfl rfl<|ab (a8 hT rfl rfl rfl (cs := [_, _, _, _, _, _]) rfl rfl)<|ab (ah (mQ _ _ _ _ _ _)) ?_
 refine aj rfl<|ag<|am<|E1 rfl rfl ?_
 exact .refl _
theorem B5 (f : Fm) (D : Int) (m : Nat) (hfa : L 6 f.a) (hfb : L 6 f.b) (hfc : L 6 f.c) (hf : Cl D f) (hD : -4194304 ≤ D ∧ D < 0) (hm : 1 ≤ m ∧ m ≤ 65536) (hE : szE D = 0) (a : Ans) (hax : L 30 a.x) (hay : L 30 a.y) (hlr : (a.roots.length : Int) ≤ 1000000) (hlf : (a.forms.length : Int) ≤ 1000000) :
  aF Tryz.prog 101 [FA f.a f.b f.c, Z (m : Int), .p (.a (anS a))] (B (rgV D m f a)) := by
 have fa : LB f.a 6 := ⟨hfa⟩
 have fb : LB f.b 6 := ⟨hfb⟩
 have fc : LB f.c 6 := ⟨hfc⟩
 have iD : LB D 6 := ⟨by unfold L; omega⟩
 have hdf : dsc f.a f.b f.c = D := hf.disc
 have iax : LB a.x 30 := ⟨hax⟩
 have iay : LB a.y 30 := ⟨hay⟩
 have cDs : aF Tryz.prog 40 [FA f.a f.b f.c] (I D) := by rw [← hdf]; exact fq f.a f.b f.c lz lz lz
 have cRd : aF Tryz.prog 41 [FA f.a f.b f.c] (.t [PF f.rd, PM (rdM f.a f.b f.c), PE (rdE f.a f.b f.c)]) := gu f.a f.b f.c lz lz lz
 have hfl := HV (D := D) (hm := hm.2)
 have cFn := fun g => yg g f.rd
 refine aK Tryz.func101 rfl rfl rfl rfl ?_
 refine ae hP<|ao ai (aN rfl rfl)<|ao ai (aN rfl rfl)<|ao ai (aB hT rfl rfl)<|ag<|ae hP<|bD hT rfl rfl rfl rfl rfl rfl<|ab (ah cDs) ?_
 refine ao ai (aB hT rfl rfl)<|aG hT rfl<|ag<|an<|ae hP<|aJ hT rfl<|bj hT rfl rfl rfl rfl ?_
 refine ag<|aA<|ae hP<|ab (bo rfl rfl)<|aj rfl<|ag ?_
 refine az rfl (fun hb1 => ?_) (fun hb1 => ?_)
 ·have hb1_ := bT hb1
  have k1 := bT hb1
  refine ae hP<|aJ hT rfl<|au hT rfl<|aJ hT rfl<|au hT rfl<|ab (ah (lM a.x a.y lz lz)) ?_
  refine ab (ah (dZ 1 (by decide))) ?_
  refine ab (ah (eK _ _)) ?_
  refine ak rfl ?_
  refine aZ (t := 28) rfl (fun hg2 => ?_) (fun hg2 => ?_)
  ·have hgc := hg2
   refine aC hg2 (aI hT rfl rfl rfl rfl (cs := [_, _, _, _, _, _]) rfl rfl) ?_
   refine aC hg2 (aR hT rfl rfl rfl rfl rfl rfl) ?_
   refine aC hg2 (aI hT rfl rfl rfl rfl (cs := [_, _]) rfl rfl) ?_
   refine aC hg2 (aR hT rfl rfl rfl rfl rfl rfl) ?_
   refine aC hg2 (aI hT rfl rfl rfl rfl (cs := [_, _]) rfl rfl) ?_
   refine aC hg2 (ah (nF f.a f.b f.c a.x a.y lz lz lz lz lz)) ?_
   refine aC hg2 (aw (rfl : _ = AV.p (.c _))) ?_
   refine aC hg2 (ah (dZ (m : Int) (by unfold bn; omega))) ?_
   refine aC hg2 (ah (eK _ _)) ?_
   refine ab (aM rfl hg2 (rfl : _ = AV.p (.c _)))<|aG hT rfl<|ag<|am ?_
   refine b8 rfl (.inr rfl) (b7 hT rfl rfl rfl rfl rfl) ?_ br
   exact aY (IH k1 hgc)
  have hgc := hg2
  iterate 9 refine aW hg2 ?_
  refine ab (aL rfl hg2 (rfl : _ = AV.p (.c _)))<|aG hT rfl<|ag<|am ?_
  refine b8 rfl (.inr rfl) (b7 hT rfl rfl rfl rfl rfl) ?_ br
  exact aY (GU k1 hgc)
 have hb1_ := bF hb1
 have k1 := bF hb1
 refine ae hP<|ab (bo rfl rfl)<|aj rfl<|ag ?_
 refine az rfl (fun hb3 => ?_) (fun hb3 => ?_)
 ·have hb3_ := bT hb3
  have k2 := bT hb3
  refine cq (t := 5) rfl rfl ?_
  refine ae hP<|ab (jf rfl)<|ao ai (aB hT rfl rfl)<|aG hT rfl<|ag<|an<|ae hP<|bD hT rfl rfl rfl rfl rfl rfl<|ak rfl<|ab (ah (oH f m)) ?_
  refine ag<|aA<|dj (t := stL [(1, Z (m : Int)), (3, .loc 3 0), (6, .loc 6 0), (7, .loc 7 0), (8, .loc 8 0), (44, .fn 137 [[zn f.a, zm f.a, zn f.b, zm f.b, zn f.c, zm f.c], [.v (.int .i64 (m : Int))]])] [(3, ⟨false, 1, 46, [zn f.a, zm f.a, zn f.b, zm f.b, zn f.c, zm f.c]⟩), (6, ⟨false, 1, 4, [.v (.bool false)]⟩), (7, ⟨false, 1, 29, [zn D, zm D]⟩), (8, ⟨false, 1, 183, [.fn 162 [.ip (anS a)]]⟩)]) (aE ⟨.refl _, .refl _, .refl _, .refl _, .refl _, .refl _, trivial⟩ ⟨rfl, rfl, rfl, rfl, trivial⟩) ?_
  refine eD 9 (fun _ => ci [(3, ⟨false, 1, 46, [zn f.a, zm f.a, zn f.b, zm f.b, zn f.c, zm f.c]⟩), (6, ⟨false, 1, 4, [.v (.bool false)]⟩), (7, ⟨false, 1, 29, [zn D, zm D]⟩), (8, ⟨false, 1, 183, [.fn 162 [.ip (anS a)]]⟩)]) (AgN D m f a.m) rfl (mR f D m hfa hfb hfc hf hD hm hE) w4 rfl rfl rfl AgN.start (fun k x hx hI => ?_) (fun hI => ?_)
  ·obtain ⟨c, hc, rfl⟩ := Aw hx
   refine av hP<|aj rfl<|ag<|aA<|ae hP<|bj hT rfl rfl rfl rfl ?_
   refine ak rfl<|ab (Eff.callD (caps := [anS a]) rfl (qu a c (by have := Gf hD hc; unfold bn; omega))) ?_
   refine ag ?_
   refine az rfl (fun hb4 => ?_) (fun hb4 => ?_)
   ·have he := dT0 hb4
    refine ae hP<|aG hT rfl<|ag<|am ?_
    refine ⟨_, GW.forget fun _ => .inl rfl, ?_⟩
    refine b8 rfl (.inr rfl) (b7 hT rfl rfl rfl rfl rfl) ?_ br
    exact aY (xW k1 k2 (Eh hc he))
   have he := dF0 hb4
   refine aq ?_
   exact ⟨GW.forget fun x => SubO.own (l := [(3, ⟨false, 1, 46, [zn f.a, zm f.a, zn f.b, zm f.b, zn f.c, zm f.c]⟩), (6, ⟨false, 1, 4, [.v (.bool false)]⟩), (7, ⟨false, 1, 29, [zn D, zm D]⟩), (8, ⟨false, 1, 183, [.fn 162 [.ip (anS a)]]⟩)]) ⟨rfl, rfl, rfl, rfl, trivial⟩ x, hI.next hc he⟩
  have hna := hI.done rfl
  clear hI
  refine an<|ae hP<|ak rfl<|ao ai (Eff.callG (ta m)) ?_
  refine ag<|aA<|dj (t := stL [(50, .fnl 135 50), (1, Z (m : Int)), (3, .loc 3 0), (6, .loc 6 0), (7, .loc 7 0), (8, .loc 8 0)] ((50, ⟨false, 1, 3, [.v (.int .i64 ((m : Nat) : Int))]⟩) :: [(3, ⟨false, 1, 46, [zn f.a, zm f.a, zn f.b, zm f.b, zn f.c, zm f.c]⟩), (6, ⟨false, 1, 4, [.v (.bool false)]⟩), (7, ⟨false, 1, 29, [zn D, zm D]⟩), (8, ⟨false, 1, 183, [.fn 162 [.ip (anS a)]]⟩)])) (aE ⟨.refl _, .refl _, .refl _, .refl _, .refl _, .refl _, trivial⟩ ⟨rfl, rfl, rfl, rfl, rfl, trivial⟩) ?_
  refine nk (l := [(1, Z (m : Int)), (3, .loc 3 0), (6, .loc 6 0), (7, .loc 7 0), (8, .loc 8 0)]) (o := ci ((50, ⟨false, 1, 3, [.v (.int .i64 ((m : Nat) : Int))]⟩) :: [(3, ⟨false, 1, 46, [zn f.a, zm f.a, zn f.b, zm f.b, zn f.c, zm f.c]⟩), (6, ⟨false, 1, 4, [.v (.bool false)]⟩), (7, ⟨false, 1, 29, [zn D, zm D]⟩), (8, ⟨false, 1, 183, [.fn 162 [.ip (anS a)]]⟩)])) 51 (fun _ => ci [(3, ⟨false, 1, 46, [zn f.a, zm f.a, zn f.b, zm f.b, zn f.c, zm f.c]⟩), (6, ⟨false, 1, 4, [.v (.bool false)]⟩), (7, ⟨false, 1, 29, [zn D, zm D]⟩), (8, ⟨false, 1, 183, [.fn 162 [.ip (anS a)]]⟩)]) (PtX m a.m) (qw m hm) rfl rfl rfl rfl (qA rfl) vN rfl rfl rfl PtX.start (fun k x hx hI => ?_) (fun hI => ?_)
  ·obtain ⟨q, hq, rfl⟩ := Ac hx
   refine av hP<|aj rfl<|ag<|aA<|ae hP<|bj hT rfl rfl rfl rfl ?_
   refine ak rfl<|ab (Eff.callD (caps := [anS a]) rfl (qu a (q : Int) (by have := uj hm hq; unfold bn; omega))) ?_
   refine ag ?_
   refine az rfl (fun hb5 => ?_) (fun hb5 => ?_)
   ·have he := dT0 hb5
    refine ae hP<|au hT rfl<|ak rfl<|ab (ah (oG D q hD (uj hm hq))) ?_
    refine aG hT rfl<|ag<|am ?_
    refine ⟨_, GW.forget fun _ => .inl rfl, ?_⟩
    refine b8 rfl (.inr rfl) (b7 hT rfl rfl rfl rfl rfl) ?_ br
    exact aY (xW k1 k2 (Ef hna hq he))
   have he := dF0 hb5
   refine aq ?_
   exact ⟨GW.forget fun x => SubO.own (l := [(3, ⟨false, 1, 46, [zn f.a, zm f.a, zn f.b, zm f.b, zn f.c, zm f.c]⟩), (6, ⟨false, 1, 4, [.v (.bool false)]⟩), (7, ⟨false, 1, 29, [zn D, zm D]⟩), (8, ⟨false, 1, 183, [.fn 162 [.ip (anS a)]]⟩)]) ⟨rfl, rfl, rfl, rfl, trivial⟩ x, hI.next hq he⟩
  refine ae hP<|aG hT rfl<|ag<|am ?_
  refine b8 rfl (.inr rfl) (b7 hT rfl rfl rfl rfl rfl) ?_ br
  exact aY (xW k1 k2 (Eg hna hI rfl))
 have hb3_ := bF hb3
 have k2 := bF hb3
 refine aq<|ae hP<|bD hT rfl rfl rfl rfl rfl rfl<|ab (ah cRd) ?_
 refine ab (aw (rfl : _ = AV.t _))<|ab (ay rfl (v := .a _) rfl)<|ab (ay rfl (v := .a _) rfl)<|ab (ay rfl (v := .c _) rfl)<|ao ai (aB hT rfl rfl)<|ao ai (aB hT rfl rfl)<|aG hT rfl<|aG hT rfl<|aj rfl<|ag<|ae hP<|au hT rfl<|ak rfl<|ab (ah (oF D m hD hm)) ?_
 refine aj rfl<|ag<|cq (t := 11) rfl rfl ?_
 refine ae hP<|ak rfl<|ab (aU hT rfl rfl rfl (by rfl)) ?_
 refine ab (bU rfl rfl)<|ak rfl ?_
 refine aZ (t := 70) rfl (fun hg6 => ?_) (fun hg6 => ?_)
 ·have hg6_ := dT0 hg6
  have q1 := hg6
  refine aC hg6 (aR hT rfl rfl rfl rfl rfl rfl) ?_
  refine aC hg6 (bV hT rfl rfl rfl rfl (by first | rfl | exact eT (by omega))) ?_
  refine aC hg6 (aI hT rfl rfl rfl rfl (cs := [_, _]) rfl rfl) ?_
  refine aC hg6 (aw (rfl : _ = AV.p (.c _))) ?_
  refine aC hg6 (ah (qy D m hD hm)) ?_
  refine aC hg6 (ah (pg a.roots (rbL D m) (by omega))) ?_
  refine ab (aM rfl hg6 (rfl : _ = AV.p (.c _)))<|ak rfl ?_
  refine aZ (t := 78) rfl (fun hg7 => ?_) (fun hg7 => ?_)
  ·have q2 := hg7
   refine aC hg7 (aR hT rfl rfl rfl rfl rfl rfl) ?_
   refine aC hg7 (bV hT rfl rfl rfl rfl (by first | rfl | exact eT (by omega))) ?_
   refine aC hg7 (aw (rfl : _ = AV.p (.c _))) ?_
   refine aC hg7 (ah (ph a.forms (fmL D m) (by omega))) ?_
   refine ab (aM rfl hg7 (rfl : _ = AV.p (.c _)))<|ak rfl ?_
   refine aZ (t := 84) rfl (fun hg8 => ?_) (fun hg8 => ?_)
   ·have q3 := hg8
    refine aC hg8 (aw (rfl : _ = AV.p (.c _))) ?_
    refine aC hg8 (jH rfl) ?_
    refine aC hg8 (ah (mg (fmL D m) 167 [[zn f.rd.a, zm f.rd.a, zn f.rd.b, zm f.rd.b, zn f.rd.c, zm f.rd.c]] _ cFn (by omega))) ?_
    refine aC hg8 (bt rfl) ?_
    refine ab (aM rfl hg8 (rfl : _ = AV.p (.c _)))<|aG hT rfl<|ag<|am ?_
    refine b8 rfl (.inr rfl) (b7 hT rfl rfl rfl rfl rfl) ?_ br
    exact aY (uc k1 k2 (by rw [rg3 q1 q2 q3, Gd]))
   have q3 := hg8
   iterate 4 refine aW hg8 ?_
   refine ab (aL rfl hg8 (rfl : _ = AV.p (.c _)))<|aG hT rfl<|ag<|am ?_
   refine b8 rfl (.inr rfl) (b7 hT rfl rfl rfl rfl rfl) ?_ br
   exact aY (uc k1 k2 (G7 q3))
  have q2 := hg7
  iterate 4 refine aW hg7 ?_
  refine ab (aL rfl hg7 (rfl : _ = AV.p (.c _)))<|ak rfl<|aW rfl ?_
  iterate 3 refine aW rfl ?_
  refine ab (aL rfl rfl (rfl : _ = AV.p (.c _)))<|aG hT rfl<|ag<|am ?_
  refine b8 rfl (.inr rfl) (b7 hT rfl rfl rfl rfl rfl) ?_ br
  exact aY (uc k1 k2 (G8 q2))
 have hg6_ := dF0 hg6
 have q1 := hg6
 iterate 6 refine aW hg6 ?_
 refine ab (aL rfl hg6 (rfl : _ = AV.p (.c _)))<|ak rfl<|aW rfl ?_
 iterate 3 refine aW rfl ?_
 refine ab (aL rfl rfl (rfl : _ = AV.p (.c _)))<|ak rfl<|aW rfl ?_
 iterate 3 refine aW rfl ?_
 refine ab (aL rfl rfl (rfl : _ = AV.p (.c _)))<|aG hT rfl<|ag<|am ?_
 refine b8 rfl (.inr rfl) (b7 hT rfl rfl rfl rfl rfl) ?_ br
 exact aY (uc k1 k2 (G9 q1))
end
section
open Go Go.AM
theorem B6 (f : Fm) (D : Int) (m : Nat) (hfa : L 6 f.a) (hfb : L 6 f.b) (hfc : L 6 f.c) (hf : Cl D f) (hD : -4194304 ≤ D ∧ D < 0) (hm : 1 ≤ m ∧ m ≤ 65536) (hE : szE D = 0) (a : RA) (hok : ∀ r ∈ a.nums, okW r.2) (hsz : ∀ r ∈ a.nums, r.2.length ≤ 1000) (hlr : a.roots.length ≤ 100000) (hlf : a.forms.length ≤ 100000) :
  aF Tryz.prog 34 [FA f.a f.b f.c, Z (m : Int), .p (.a (raS a))] (.t [PB (rgA D m f a), PE 0]) := by
 have fa : LB f.a 6 := ⟨hfa⟩
 have fb : LB f.b 6 := ⟨hfb⟩
 have fc : LB f.c 6 := ⟨hfc⟩
 have hdf : dsc f.a f.b f.c = D := hf.disc
 have h0m : 0 < (m : Int) := by omega
 have cRf : aF Tryz.prog 65 [FA f.a f.b f.c, Z (m : Int)] (Z 0) := by
  have h := kO f m hfa hfb hfc
  rwa [va hf hm] at h
 refine aK Tryz.func34 rfl rfl rfl rfl ?_
 refine ae hP<|ao ai (aN rfl rfl)<|ao ai (aN rfl rfl)<|aj rfl<|aj rfl<|ag<|an<|ae hP<|bD hT rfl rfl rfl rfl rfl rfl<|ak rfl<|ab (ah cRf) ?_
 refine aj rfl<|ag<|ae hP<|ak rfl<|ab (bl rfl rfl)<|ag<|aP rfl rfl<|aq<|cy (ι := Unit) (fun _ => stL [(1, Z (m : Int)), (3, .loc 3 0), (5, .loc 5 0), (9, B (decide (a.x.2 = []) && decide (a.y.2 = []))), (10, B (decide (a.m.2 = []))), (11, B (decide (((a.roots.length + a.forms.length : Nat) : Int) = 0)))] [(3, ⟨false, 1, 46, [zn f.a, zm f.a, zn f.b, zm f.b, zn f.c, zm f.c]⟩), (5, ⟨false, 1, 42, raS a⟩)]) (fun _ => True) ?_ ?_
 ·refine av hP<|aJ hT rfl<|au hT rfl<|ab (ah (jy a.x)) ?_
  refine ak rfl ?_
  refine aZ (t := 27) rfl (fun hg1 => ?_) (fun hg1 => ?_)
  ·refine aC hg1 (aR hT rfl rfl rfl rfl rfl rfl) ?_
   refine aC hg1 (aI hT rfl rfl rfl rfl (cs := [_, _]) rfl rfl) ?_
   refine aC hg1 (ah (jy a.y)) ?_
   refine ab (aM rfl hg1 (rfl : _ = AV.p (.c _)))<|aJ hT rfl<|au hT rfl<|ab (ah (jy a.m)) ?_
   refine aJ hT rfl<|bj hT rfl rfl rfl rfl ?_
   refine ab (aU hT rfl rfl rfl (by rfl)) ?_
   refine aJ hT rfl<|bj hT rfl rfl rfl rfl ?_
   refine ab (aU hT rfl rfl rfl (by rfl)) ?_
   refine bA rfl rfl ?_
   refine ab (bo rfl rfl)<|aj rfl<|aj rfl<|aj rfl<|ag ?_
   refine ⟨(), trivial, aE ⟨.refl _, .refl _, .refl _, aY (by rw [hg1, Bool.true_and]), .refl _, aY tu, trivial⟩ ⟨rfl, rfl, trivial⟩⟩
  iterate 3 refine aW hg1 ?_
  refine ab (aL rfl hg1 (rfl : _ = AV.p (.c _)))<|aJ hT rfl<|au hT rfl<|ab (ah (jy a.m)) ?_
  refine aJ hT rfl<|bj hT rfl rfl rfl rfl ?_
  refine ab (aU hT rfl rfl rfl (by rfl)) ?_
  refine aJ hT rfl<|bj hT rfl rfl rfl rfl ?_
  refine ab (aU hT rfl rfl rfl (by rfl)) ?_
  refine bA rfl rfl ?_
  refine ab (bo rfl rfl)<|aj rfl<|aj rfl<|aj rfl<|ag ?_
  refine ⟨(), trivial, aE ⟨.refl _, .refl _, .refl _, aY (by rw [hg1, Bool.false_and]), .refl _, aY tu, trivial⟩ ⟨rfl, rfl, trivial⟩⟩
 intro _ _
 refine ae hP<|aJ hT rfl<|au hT rfl<|aJ hT rfl<|au hT rfl<|aJ hT rfl<|au hT rfl<|ao ai (pn hT rfl rfl rfl (es := [_, _, _, _, _, _]) rfl rfl rfl) ?_
 refine aJ hT rfl<|bj hT rfl rfl rfl rfl ?_
 refine RK.app ai (fN hT rfl rfl rfl rfl rfl rfl rfl rfl rfl rfl (dq mO _) rfl (by show 32 * (6 + a.roots.length * 2) ≤ _; omega) rfl (by decide)) ?_
 refine ab (bi (rfl : _ = AV.vec _))<|ag<|eZ 52 1000 rfl rfl rfl ?_
 refine an<|ae hP<|aJ hT rfl<|bj hT rfl rfl rfl rfl ?_
 refine ab (aU hT rfl rfl rfl (by rfl)) ?_
 refine ak rfl<|ag<|aA<|bq (ι := Nat) (fun k => stL [(1, Z (m : Int)), (3, .loc 3 0), (5, .loc 5 0), (9, B (decide (a.x.2 = []) && decide (a.y.2 = []))), (10, B (decide (a.m.2 = []))), (11, B (decide (((a.roots.length + a.forms.length : Nat) : Int) = 0))), (12, .vec 1000), (54, .p (.c (SL rfC a.forms))), (55, Z (a.forms.length : Int)), (56, Z (k : Int))] [(3, ⟨false, 1, 46, [zn f.a, zm f.a, zn f.b, zm f.b, zn f.c, zm f.c]⟩), (5, ⟨false, 1, 42, raS a⟩), (1000, VB 2 29 rC (ei a k))]) (fun k => k ≤ a.forms.length) (fun k => a.forms.length - k) 0 (Nat.zero_le _) (aE ⟨.refl _, .refl _, .refl _, .refl _, .refl _, .refl _, .refl _, .refl _, .refl _, .refl _, trivial⟩ ⟨rfl, rfl, Eq.trans rfl (congrArg (fun cs => some (⟨true, 2, 29, cs⟩ : Blk)) (ER a)), trivial⟩) ?_
 intro k hk
 refine ae hP<|ab (a7 rfl rfl)<|ag<|an ?_
 refine az rfl (fun hb2 => ?_) (fun hb2 => ?_)
 ·have hb2_ := dT0 hb2
  have hfk := jq (l := a.forms) (k := k) (by omega) ((false, []), (false, []), (false, []))
  refine aq<|an<|aA<|ae hP<|ab (dy hT BK (by decide) ((false, []), (false, []), (false, [])) (n := (k : Int)) (l := a.forms) rfl rfl rfl rfl rfl rfl (by omega)) ?_
  refine ab (a8 hT rfl rfl rfl (cs := rfC (a.forms.getD k ((false, []), (false, []), (false, [])))) rfl rfl) ?_
  refine ao ai (aB hT rfl rfl)<|aG hT rfl<|ag<|av hP<|ab (aw (rfl : _ = AV.vec _))<|aJ hT rfl<|au hT rfl<|aJ hT rfl<|au hT rfl<|aJ hT rfl<|au hT rfl<|ab (bd hT rfl rfl rfl (es := [_, _, _, _, _, _]) rfl rfl rfl)<|RK.app ai (fN hT rfl rfl rfl rfl rfl rfl rfl rfl rfl rfl rfl rfl (by show 32 * (((ei a k).flatMap rC).length + 3 * 2) ≤ _; rw [dq mO]; have := qJ (a := a) (k := k); omega) rfl (by decide)) ?_
  refine ab (bi (rfl : _ = AV.vec _))<|ag<|eZ 68 1000 rfl rfl rfl ?_
  refine av hP<|bA rfl rfl ?_
  refine ak rfl<|ag ?_
  refine ⟨k + 1, by omega, by omega, aE ⟨.refl _, .refl _, .refl _, .refl _, .refl _, .refl _, .refl _, .refl _, .refl _, aO (by omega), trivial⟩ ⟨rfl, rfl, Eq.trans rfl (congrArg (fun cs => some (⟨true, 2, 29, cs⟩ : Blk)) (EQ hfk)), trivial⟩⟩
 have hb2_ := dF0 hb2
 have hnk := yo (a := a) (k := k) (by omega)
 have hnl := qJ (a := a) (k := k)
 refine a6<|jL (encD := rC) mO rfl (t := 12) rfl rfl ?_
 refine an<|ae hP<|ak rfl<|ab (aU hT rfl rfl rfl (by rfl)) ?_
 refine ak rfl<|ag<|aA<|bq (ι := Nat) (fun j => stL [(1, Z (m : Int)), (3, .loc 3 0), (5, .loc 5 0), (9, B (decide (a.x.2 = []) && decide (a.y.2 = []))), (10, B (decide (a.m.2 = []))), (11, B (decide (((a.roots.length + a.forms.length : Nat) : Int) = 0))), (70, .p (.c (SL rC (ei a k)))), (71, Z ((ei a k).length : Int)), (72, Z (j : Int))] [(3, ⟨false, 1, 46, [zn f.a, zm f.a, zn f.b, zm f.b, zn f.c, zm f.c]⟩), (5, ⟨false, 1, 42, raS a⟩)]) (fun j => j ≤ (ei a k).length ∧ VaK (ei a k) j) (fun j => (ei a k).length - j) 0 ⟨Nat.zero_le _, VaK.start⟩ (aE ⟨.refl _, .refl _, .refl _, .refl _, .refl _, .refl _, .refl _, .refl _, .refl _, trivial⟩ ⟨rfl, rfl, trivial⟩) ?_
 rintro j ⟨hj, hI⟩
 refine ae hP<|ab (a7 rfl rfl)<|ag<|an ?_
 refine az rfl (fun hb3 => ?_) (fun hb3 => ?_)
 ·have hb3_ := dT0 hb3
  have hmj : ((ei a k).getD j (false, [])) ∈ a.nums := hnk ▸ kY (by omega)
  refine aq<|an<|aA<|ae hP<|ab (dy hT mO (by decide) (false, []) (n := (j : Int)) (l := (ei a k)) rfl rfl rfl rfl rfl rfl (by omega)) ?_
  refine ab (a8 hT rfl rfl rfl (cs := rC ((ei a k).getD j (false, []))) rfl rfl) ?_
  refine ao ai (aB hT rfl rfl)<|aG hT rfl<|ag<|ae hP<|au hT rfl<|ab (ah (uK ((ei a k).getD j (false, [])) (by have := hsz _ hmj; omega))) ?_
  refine ab (bt rfl)<|ag ?_
  refine az rfl (fun hb4 => ?_) (fun hb4 => ?_)
  ·have hb4_ := (cz hb4)
   refine ae hP<|aj rfl<|aj rfl<|ag<|am<|E11 rfl rfl rfl ?_
   exact aD (congrArg (fun b => AV.t [PB b, PE 0]) (FZ hmj (cz hb4)))
  have hb4_ := (cp hb4)
  refine aq<|av hP<|bA rfl rfl ?_
  refine ak rfl<|ag ?_
  refine ⟨j + 1, ⟨by omega, hI.next (d := (false, [])) (by omega) (cp hb4)⟩, by omega, aE ⟨.refl _, .refl _, .refl _, .refl _, .refl _, .refl _, .refl _, .refl _, aO (by omega), trivial⟩ ⟨rfl, rfl, trivial⟩⟩
 have hb3_ := dF0 hb3
 have hva := hI.done (by omega)
 rw [hnk] at hva
 have hall := fun r hr => And.intro (hok r hr) (hva r hr)
 have hax : L 30 a.ans.x := Ey (hok _ Eu) (hsz _ Eu)
 have hay : L 30 a.ans.y := Ey (hok _ Et) (hsz _ Et)
 refine a6<|an<|dj (t := stL [(1, Z (m : Int)), (3, .loc 3 0), (5, .loc 5 0), (9, B (decide (a.x.2 = []) && decide (a.y.2 = []))), (10, B (decide (a.m.2 = []))), (11, B (decide (((a.roots.length + a.forms.length : Nat) : Int) = 0)))] [(3, ⟨false, 1, 46, [zn f.a, zm f.a, zn f.b, zm f.b, zn f.c, zm f.c]⟩), (5, ⟨false, 1, 42, anS a.ans⟩)]) (aE ⟨.refl _, .refl _, .refl _, .refl _, .refl _, .refl _, trivial⟩ ⟨rfl, Eq.trans rfl (congrArg (fun cs => some (⟨false, 1, 42, cs⟩ : Blk)) (sZ hall)), trivial⟩) ?_
 refine sC rfl ?_
 refine RM.mv (.inl rfl) rfl ?_
 refine RM.mv (.inl rfl) rfl ?_
 refine RM.and rfl rfl rfl rfl ?_
 refine RM.insert Tryz.underlying156 Tryz.underlying3 rfl rfl ?_
 refine RM.mv (.inl rfl) rfl ?_
 refine RM.mv (.inl rfl) rfl ?_
 refine RM.and rfl rfl rfl rfl ?_
 refine RM.insert Tryz.underlying156 Tryz.underlying3 rfl rfl ?_
 refine RM.mv (.inl rfl) rfl ?_
 refine RM.mv (.inl rfl) rfl ?_
 refine RM.and rfl rfl rfl rfl ?_
 refine RM.insert Tryz.underlying156 Tryz.underlying3 rfl rfl ?_
 refine RM.freeze ?_
 refine RT.mv (.inl rfl) rfl ?_
 refine RT.mv (.inr rfl) rfl ?_
 refine RT.done ?_
 refine ae hP<|ab (aw (rfl : _ = AV.ax _))<|aJ hT rfl<|bj hT rfl rfl rfl rfl ?_
 refine ab (uq (l := mE a) (n := a.kind) Tryz.underlying156 Tryz.underlying3 (fun _ => by kernel_rfl) rfl rfl rfl) ?_
 refine ak rfl ?_
 refine aZ (t := 98) rfl (fun hg5 => ?_) (fun hg5 => ?_)
 ·have hu := hg5
  refine aC hg5 (aI hT rfl rfl rfl rfl (cs := [_, _, _, _, _, _]) rfl rfl) ?_
  refine aC hg5 (aw (rfl : _ = AV.p (.c _))) ?_
  refine aC hg5 (aI hT rfl rfl rfl rfl (cs := [_, _, _, _, _, _, _, _, _]) rfl rfl) ?_
  refine aC hg5 (ah (B5 f D m hfa hfb hfc hf hD hm hE a.ans hax hay (by rw [ra_len.1]; omega) (by rw [ra_len.2]; omega))) ?_
  refine ab (aM rfl hg5 (rfl : _ = AV.p (.c _)))<|aj rfl<|aj rfl<|ag<|am<|E11 rfl rfl rfl ?_
  exact aD (congrArg (fun b => AV.t [PB b, PE 0]) (H7 hva rfl hu))
 have hu := hg5
 iterate 4 refine aW hg5 ?_
 refine ab (aL rfl hg5 (rfl : _ = AV.p (.c _)))<|aj rfl<|aj rfl<|ag<|am<|E11 rfl rfl rfl ?_
 exact aD (congrArg (fun b => AV.t [PB b, PE 0]) (H8 hva rfl hu))
end
section
open Go Go.AM
end
section
open Go Go.AM
end
section
open Go Go.AM
end
section
open Go Go.AM
theorem sj (l m : List Fm) (hl : (l.length : Int) ≤ 1000000000) :
  aF Tryz.prog 49 [.p (.c (FS l)), .p (.c (FS m))] (B (decide (l = m))) := by
 refine aK Tryz.func49 rfl rfl rfl rfl ?_
 refine ae hP<|aj rfl<|ag<|an<|ae hP<|ak rfl<|ab (aU hT rfl rfl rfl (by rfl)) ?_
 refine ak rfl<|ab (aU hT rfl rfl rfl (by rfl)) ?_
 refine ab (bl rfl rfl)<|ag ?_
 refine az rfl (fun hb1 => ?_) (fun hb1 => ?_)
 ·have hb1_ := cn hb1
  refine ae hP<|aj rfl<|ag<|am<|E1 rfl rfl ?_
  exact aY (E5 hb1_)
 have hb1_ := bY hb1
 refine aq<|an<|ae hP<|aj rfl<|ag<|aA<|bq (ι := Nat) (fun k => stL [(0, .p (.c (FS l))), (1, .p (.c (FS m))), (5, Z (k : Int))] []) (fun k => SmI l m k) (fun k => l.length - k) 0 (SmI.start l m) (aE ⟨.refl _, .refl _, .refl _, trivial⟩ trivial) ?_
 intro k hI
 have hk := hI.k1
 refine an<|ae hP<|ak rfl<|ak rfl<|ab (aU hT rfl rfl rfl (by rfl)) ?_
 refine ab (a7 rfl rfl)<|ag ?_
 refine az rfl (fun hb2 => ?_) (fun hb2 => ?_)
 ·have hb2_ := dT0 hb2
  refine aq<|an<|aA<|ae hP<|ak rfl<|ak rfl<|ab (fM hT rfl rfl rfl rfl rfl rfl (by omega)) ?_
  refine ab (a8 hT rfl rfl rfl (cs := FC (l.getD k ⟨0, 0, 0⟩)) rfl rfl) ?_
  refine ak rfl<|ak rfl<|ab (fM hT rfl rfl rfl rfl rfl rfl (by omega)) ?_
  refine ab (a8 hT rfl rfl rfl (cs := FC (m.getD k ⟨0, 0, 0⟩)) rfl rfl) ?_
  refine ab (ah (yc ((l.getD k ⟨0, 0, 0⟩)).a ((l.getD k ⟨0, 0, 0⟩)).b ((l.getD k ⟨0, 0, 0⟩)).c (m.getD k ⟨0, 0, 0⟩).a (m.getD k ⟨0, 0, 0⟩).b (m.getD k ⟨0, 0, 0⟩).c)) ?_
  refine ab (bt rfl)<|ag ?_
  refine az rfl (fun hb3 => ?_) (fun hb3 => ?_)
  ·have hb3_ := (cz hb3)
   refine ae hP<|aj rfl<|ag<|am<|E1 rfl rfl ?_
   exact aY (SmI.no (l := l) (m := m) (k := k) (cz hb3))
  have hb3_ := (cp hb3)
  refine aq<|av hP<|ak rfl<|bA rfl rfl ?_
  refine aj rfl<|ag ?_
  refine ⟨k + 1, hI.next (by omega) (cp hb3), by omega, aE ⟨.refl _, .refl _, aO (by omega), trivial⟩ trivial⟩
 have hb2_ := dF0 hb2
 refine a6<|ae hP<|aj rfl<|ag<|am<|E1 rfl rfl ?_
 exact aY (hI.yes hb1_ hb2_)
end
section
open Go Go.AM
theorem kl (f : Fm) (D : Int) (m : Nat) (hfa : L 6 f.a) (hfb : L 6 f.b) (hfc : L 6 f.c) (hf : Cl D f) (hD : -4194304 ≤ D ∧ D < 0) (hm : 1 ≤ m ∧ m ≤ 65536) (hE : szE D = 0) :
  aF Tryz.prog 30 [FA f.a f.b f.c, Z (m : Int)] (.p (.a (anS (fnd D m f) ++ [.v (.int .i64 0)]))) := by
 have cF : aF Tryz.prog 17 [FA f.a f.b f.c, Z (m : Int)] (.t [.a (anS (fnd D m f)), PE 0]) := EI f D m hfa hfb hfc hf hD hm hE
 refine aK Tryz.func30 rfl rfl rfl rfl ?_
 refine ae hP<|ao ai (aN rfl rfl)<|ao ai (aB hT rfl rfl)<|ag<|ae hP<|bD hT rfl rfl rfl rfl rfl rfl<|ak rfl<|ab (ah cF) ?_
 refine ab (aw (rfl : _ = AV.t _))<|ab (ay rfl (v := .a _) rfl)<|ab (ay rfl (v := .c _) rfl)<|ao ai (aB hT rfl rfl)<|aG hT rfl<|aj rfl<|ag<|ae hP<|ab (aI hT rfl rfl rfl rfl (cs := [_, _, _, _, _, _, _, _, _]) rfl rfl)<|ak rfl<|ab (aV hT rfl rfl rfl (es := [_, _, _, _, _, _, _, _, _, _]) rfl)<|aG hT rfl<|ag<|am ?_
 refine b8 rfl (.inr rfl) (aT hT rfl rfl rfl rfl (cs := [_, _, _, _, _, _, _, _, _, _]) rfl rfl) ?_ br
 exact .refl _
theorem qY (f : Fm) (D : Int) (m : Nat) (hfa : L 6 f.a) (hfb : L 6 f.b) (hfc : L 6 f.c) (hf : Cl D f) (hD : -4194304 ≤ D ∧ D < 0) (hm : 1 ≤ m ∧ m ≤ 65536) (hE : szE D = 0) (a : RA) (hok : ∀ r ∈ a.nums, okW r.2) (hsz : ∀ r ∈ a.nums, r.2.length ≤ 1000) (hlr : a.roots.length ≤ 100000) (hlf : a.forms.length ≤ 100000) :
  aF Tryz.prog 36 [FA f.a f.b f.c, Z (m : Int), .p (.a (raS a))] (B (rgA D m f a)) := by
 refine aK Tryz.func36 rfl rfl rfl rfl ?_
 refine ae hP<|ao ai (aN rfl rfl)<|ao ai (aN rfl rfl)<|aj rfl<|ag<|ae hP<|bD hT rfl rfl rfl rfl rfl rfl<|ak rfl<|ab (aI hT rfl rfl rfl rfl (cs := [_, _, _, _, _, _, _, _, _]) rfl rfl)<|ab (ah (B6 f D m hfa hfb hfc hf hD hm hE a hok hsz hlr hlf)) ?_
 refine ab (aw (rfl : _ = AV.t _))<|ab (ay rfl (v := .c _) rfl)<|ab (ay rfl (v := .c _) rfl)<|aj rfl<|aj rfl<|ag<|ae hP<|ak rfl<|ak rfl ?_
 refine aZ (t := 17) rfl (fun hg1 => ?_) (fun hg1 => ?_)
 ·have hv := hg1
  refine aC hg1 (aw (rfl : _ = AV.p (.c _))) ?_
  refine aC hg1 (bo rfl rfl) ?_
  refine ab (aM rfl hg1 (rfl : _ = AV.p (.c _)))<|aj rfl<|ag<|am<|E1 rfl rfl ?_
  exact aY hv.symm
 have hv := hg1
 refine aW hg1 ?_
 refine aW hg1 ?_
 refine ab (aL rfl hg1 (rfl : _ = AV.p (.c _)))<|aj rfl<|ag<|am<|E1 rfl rfl ?_
 exact aY hv.symm
theorem l6 (f : Fm) (D : Int) (m : Nat) (hfa : L 6 f.a) (hfb : L 6 f.b) (hfc : L 6 f.c) (hf : Cl D f) (hD : -4194304 ≤ D ∧ D < 0) (hm : 1 ≤ m ∧ m ≤ 65536) (hE : szE D = 0) (a : Ans) (hx : L 8 a.x) (hy : L 8 a.y) (hz : L 8 a.m) (hr : ∀ z ∈ a.roots, L 8 z) (hg : ∀ g ∈ a.forms, L 8 g.a ∧ L 8 g.b ∧ L 8 g.c) (hlr : a.roots.length ≤ 100000) (hlf : a.forms.length ≤ 100000) :
  aF Tryz.prog 36 [FA f.a f.b f.c, Z (m : Int), .p (.a (anS a))] (B (rgt D m f a)) := by
 have h := qY f D m hfa hfb hfc hf hD hm hE (je a) (fun r hr => (nE a r hr).1) (BR hx hy hz hr hg) (by unfold je; simpa using hlr) (by unfold je; simpa using hlf)
 rw [Ev, Ee] at h
 exact h
theorem qW (l m : List Int) (hl : (l.length : Int) ≤ 1000000000) :
  aF Tryz.prog 27 [.p (.c (SL enI l)), .p (.c (SL enI m))] (B (decide (l = m))) := by
 refine aK Tryz.func27 rfl rfl rfl rfl ?_
 refine ae hP<|aj rfl<|ag<|an<|ae hP<|ak rfl<|ab (aU hT rfl rfl rfl (by rfl)) ?_
 refine ak rfl<|ab (aU hT rfl rfl rfl (by rfl)) ?_
 refine ab (bl rfl rfl)<|ag ?_
 refine az rfl (fun hb1 => ?_) (fun hb1 => ?_)
 ·have hb1_ := cn hb1
  refine ae hP<|aj rfl<|ag<|am<|E1 rfl rfl ?_
  exact aY (decide_eq_false (fun e => hb1_ (by rw [e]))).symm
 have hb1_ := bY hb1
 have hlen : l.length = m.length := by have := hb1_; omega
 refine aq<|an<|ae hP<|aj rfl<|ag<|aA<|bq (ι := Nat) (fun k => stL [(0, .p (.c (SL enI l))), (1, .p (.c (SL enI m))), (5, Z (k : Int))] []) (fun k => SmG l m k) (fun k => l.length - k) 0 (SmG.start hlen) (aE ⟨.refl _, .refl _, .refl _, trivial⟩ trivial) ?_
 intro k hI
 have hk := hI.le
 refine an<|ae hP<|ak rfl<|ak rfl<|ab (aU hT rfl rfl rfl (by rfl)) ?_
 refine ab (a7 rfl rfl)<|ag ?_
 refine az rfl (fun hb2 => ?_) (fun hb2 => ?_)
 ·have hb2_ := dT0 hb2
  refine aq<|an<|aA<|ae hP<|ak rfl<|ak rfl<|ab (dy hT eO (by decide) 0 (n := (k : Int)) (l := l) rfl rfl rfl rfl rfl rfl (by omega)) ?_
  refine ab (a8 hT rfl rfl rfl (cs := enI (l.getD k 0)) rfl rfl) ?_
  refine ak rfl<|ak rfl<|ab (dy hT eO (by decide) 0 (n := (k : Int)) (l := m) rfl rfl rfl rfl rfl rfl (by omega)) ?_
  refine ab (a8 hT rfl rfl rfl (cs := enI (m.getD k 0)) rfl rfl) ?_
  refine ab (ah (eE _ _)) ?_
  refine ab (bt rfl)<|ag ?_
  refine az rfl (fun hb3 => ?_) (fun hb3 => ?_)
  ·have hb3_ := (cz hb3)
   refine ae hP<|aj rfl<|ag<|am<|E1 rfl rfl ?_
   exact aY (decide_eq_false (SmG.no (d := 0) (fun e => dF0 (cz hb3) e))).symm
  have hb3_ := (cp hb3)
  refine aq<|av hP<|ak rfl<|bA rfl rfl ?_
  refine aj rfl<|ag ?_
  refine ⟨k + 1, hI.next (d := 0) (by omega) (dT0 (cp hb3)), by omega, aE ⟨.refl _, .refl _, aO (by omega), trivial⟩ trivial⟩
 have hb2_ := dF0 hb2
 refine a6<|ae hP<|aj rfl<|ag<|am<|E1 rfl rfl ?_
 exact aY (decide_eq_true (hI.yes (by omega))).symm
theorem kd (a b : Ans) (hr : (a.roots.length : Int) ≤ 1000000000) (hg : (a.forms.length : Int) ≤ 1000000000) :
  aF Tryz.prog 32 [.p (.a (anS a)), .p (.a (anS b))] (B (sA a b)) := by
 refine aK Tryz.func32 rfl rfl rfl rfl ?_
 refine ae hP<|ao ai (aN rfl rfl)<|ao ai (aN rfl rfl)<|aj rfl<|ag<|an<|ae hP<|aJ hT rfl<|bj hT rfl rfl rfl rfl ?_
 refine aJ hT rfl<|bj hT rfl rfl rfl rfl ?_
 refine ab (bl rfl rfl)<|ak rfl ?_
 refine aZ (t := 11) rfl (fun hg1 => ?_) (fun hg1 => ?_)
 ·have hg1_ := cn hg1
  have k0 := cn hg1
  iterate 6 refine aW hg1 ?_
  refine ab (aM rfl hg1 (rfl : _ = AV.p (.c _)))<|ak rfl<|aW rfl ?_
  iterate 5 refine aW rfl ?_
  refine ab (aM rfl rfl (rfl : _ = AV.p (.c _)))<|ak rfl<|aW rfl ?_
  iterate 5 refine aW rfl ?_
  refine ab (aM rfl rfl (rfl : _ = AV.p (.c _)))<|ak rfl<|aW rfl ?_
  iterate 6 refine aW rfl ?_
  refine ab (aM rfl rfl (rfl : _ = AV.p (.c _)))<|ag<|aS rfl rfl<|ae hP<|aj rfl<|ag<|am<|E1 rfl rfl ?_
  exact aY (decide_eq_false (fun z => k0 z.1)).symm
 have hg1_ := bY hg1
 have k0 := bY hg1
 refine aC hg1 (aR hT rfl rfl rfl rfl rfl rfl) ?_
 refine aC hg1 (aI hT rfl rfl rfl rfl (cs := [_, _]) rfl rfl) ?_
 refine aC hg1 (aR hT rfl rfl rfl rfl rfl rfl) ?_
 refine aC hg1 (aI hT rfl rfl rfl rfl (cs := [_, _]) rfl rfl) ?_
 refine aC hg1 (ah (eE _ _)) ?_
 refine aC hg1 (bt rfl) ?_
 refine ab (aL rfl hg1 (rfl : _ = AV.p (.c _)))<|ak rfl ?_
 refine aZ (t := 19) rfl (fun hg2 => ?_) (fun hg2 => ?_)
 ·have hg2_ := (cz hg2)
  have k1 := dF0 (cz hg2)
  iterate 6 refine aW hg2 ?_
  refine ab (aM rfl hg2 (rfl : _ = AV.p (.c _)))<|ak rfl<|aW rfl ?_
  iterate 5 refine aW rfl ?_
  refine ab (aM rfl rfl (rfl : _ = AV.p (.c _)))<|ak rfl<|aW rfl ?_
  iterate 6 refine aW rfl ?_
  refine ab (aM rfl rfl (rfl : _ = AV.p (.c _)))<|ag<|aS rfl rfl<|ae hP<|aj rfl<|ag<|am<|E1 rfl rfl ?_
  exact aY (decide_eq_false (fun z => k1 z.2.1)).symm
 have hg2_ := (cp hg2)
 have k1 := dT0 (cp hg2)
 refine aC hg2 (aR hT rfl rfl rfl rfl rfl rfl) ?_
 refine aC hg2 (aI hT rfl rfl rfl rfl (cs := [_, _]) rfl rfl) ?_
 refine aC hg2 (aR hT rfl rfl rfl rfl rfl rfl) ?_
 refine aC hg2 (aI hT rfl rfl rfl rfl (cs := [_, _]) rfl rfl) ?_
 refine aC hg2 (ah (eE _ _)) ?_
 refine aC hg2 (bt rfl) ?_
 refine ab (aL rfl hg2 (rfl : _ = AV.p (.c _)))<|ak rfl ?_
 refine aZ (t := 27) rfl (fun hg3 => ?_) (fun hg3 => ?_)
 ·have hg3_ := (cz hg3)
  have k2 := dF0 (cz hg3)
  iterate 6 refine aW hg3 ?_
  refine ab (aM rfl hg3 (rfl : _ = AV.p (.c _)))<|ak rfl<|aW rfl ?_
  iterate 6 refine aW rfl ?_
  refine ab (aM rfl rfl (rfl : _ = AV.p (.c _)))<|ag<|aS rfl rfl<|ae hP<|aj rfl<|ag<|am<|E1 rfl rfl ?_
  exact aY (decide_eq_false (fun z => k2 z.2.2.1)).symm
 have hg3_ := (cp hg3)
 have k2 := dT0 (cp hg3)
 refine aC hg3 (aR hT rfl rfl rfl rfl rfl rfl) ?_
 refine aC hg3 (aI hT rfl rfl rfl rfl (cs := [_, _]) rfl rfl) ?_
 refine aC hg3 (aR hT rfl rfl rfl rfl rfl rfl) ?_
 refine aC hg3 (aI hT rfl rfl rfl rfl (cs := [_, _]) rfl rfl) ?_
 refine aC hg3 (ah (eE _ _)) ?_
 refine aC hg3 (bt rfl) ?_
 refine ab (aL rfl hg3 (rfl : _ = AV.p (.c _)))<|ak rfl ?_
 refine aZ (t := 35) rfl (fun hg4 => ?_) (fun hg4 => ?_)
 ·have hg4_ := (cz hg4)
  have k3 := dF0 (cz hg4)
  iterate 7 refine aW hg4 ?_
  refine ab (aM rfl hg4 (rfl : _ = AV.p (.c _)))<|ag<|aS rfl rfl<|ae hP<|aj rfl<|ag<|am<|E1 rfl rfl ?_
  exact aY (decide_eq_false (fun z => k3 z.2.2.2.1)).symm
 have hg4_ := (cp hg4)
 have k3 := dT0 (cp hg4)
 refine aC hg4 (aR hT rfl rfl rfl rfl rfl rfl) ?_
 refine aC hg4 (bV hT rfl rfl rfl rfl (by first | rfl | exact eT (by omega))) ?_
 refine aC hg4 (aU hT rfl rfl rfl (by rfl)) ?_
 refine aC hg4 (aR hT rfl rfl rfl rfl rfl rfl) ?_
 refine aC hg4 (bV hT rfl rfl rfl rfl (by first | rfl | exact eT (by omega))) ?_
 refine aC hg4 (aU hT rfl rfl rfl (by rfl)) ?_
 refine aC hg4 (bl rfl rfl) ?_
 refine ab (aL rfl hg4 (rfl : _ = AV.p (.c _)))<|ag ?_
 refine az rfl (fun hb5 => ?_) (fun hb5 => ?_)
 ·have hb5_ := cn hb5
  have k4 := cn hb5
  refine ae hP<|aj rfl<|ag<|am<|E1 rfl rfl ?_
  exact aY (decide_eq_false (fun z => k4 (by rw [z.2.2.2.2.1]))).symm
 have hb5_ := bY hb5
 have k4 : a.roots.length = b.roots.length := by have := bY hb5; omega
 refine aq<|an<|ae hP<|aj rfl<|ag<|aA<|bq (ι := Nat) (fun k => stL [(2, .loc 2 0), (3, .loc 3 0), (5, Z (k : Int))] [(2, ⟨false, 1, 42, anS a⟩), (3, ⟨false, 1, 42, anS b⟩)]) (fun k => SmG a.roots b.roots k) (fun k => a.roots.length - k) 0 (SmG.start k4) (aE ⟨.refl _, .refl _, .refl _, trivial⟩ ⟨rfl, rfl, trivial⟩) ?_
 intro k hI
 have hk := hI.le
 refine an<|ae hP<|ak rfl<|aJ hT rfl<|bj hT rfl rfl rfl rfl ?_
 refine ab (aU hT rfl rfl rfl (by rfl)) ?_
 refine ab (a7 rfl rfl)<|ag ?_
 refine az rfl (fun hb6 => ?_) (fun hb6 => ?_)
 ·have hb6_ := dT0 hb6
  refine aq<|an<|aA<|ae hP<|aJ hT rfl<|bj hT rfl rfl rfl rfl ?_
  refine ak rfl<|ab (dy hT eO (by decide) 0 (n := (k : Int)) (l := a.roots) rfl rfl rfl rfl rfl rfl (by omega)) ?_
  refine ab (a8 hT rfl rfl rfl (cs := enI (a.roots.getD k 0)) rfl rfl) ?_
  refine aJ hT rfl<|bj hT rfl rfl rfl rfl ?_
  refine ak rfl<|ab (dy hT eO (by decide) 0 (n := (k : Int)) (l := b.roots) rfl rfl rfl rfl rfl rfl (by omega)) ?_
  refine ab (a8 hT rfl rfl rfl (cs := enI (b.roots.getD k 0)) rfl rfl) ?_
  refine ab (ah (eE _ _)) ?_
  refine ab (bt rfl)<|ag ?_
  refine az rfl (fun hb7 => ?_) (fun hb7 => ?_)
  ·have hb7_ := (cz hb7)
   have k6 := dF0 (cz hb7)
   refine ae hP<|aj rfl<|ag<|am<|E1 rfl rfl ?_
   exact aY (decide_eq_false (fun z => SmG.no (d := 0) k6 z.2.2.2.2.1)).symm
  have hb7_ := (cp hb7)
  have k6 := dT0 (cp hb7)
  refine aq<|av hP<|ak rfl<|bA rfl rfl ?_
  refine aj rfl<|ag ?_
  refine ⟨k + 1, hI.next (d := 0) (by omega) k6, by omega, aE ⟨.refl _, .refl _, aO (by omega), trivial⟩ ⟨rfl, rfl, trivial⟩⟩
 have hb6_ := dF0 hb6
 refine a6<|ae hP<|aJ hT rfl<|bj hT rfl rfl rfl rfl ?_
 refine aJ hT rfl<|bj hT rfl rfl rfl rfl ?_
 refine ab (ah (sj a.forms b.forms hg)) ?_
 refine aj rfl<|ag<|am<|E1 rfl rfl ?_
 exact aY (IG k0 k1 k2 k3 (hI.yes (by omega)))
theorem vK (D : Int) :
  aF Tryz.prog 45 [I D] (Z (unN D : Nat)) := by
 refine aK Tryz.func45 rfl rfl rfl rfl ?_
 refine ae hP<|ao ai (aN rfl rfl)<|aj rfl<|ag<|an<|ae hP<|au hT rfl<|ab (ah (fX (-3) (by decide))) ?_
 refine ab (ah (eE _ _)) ?_
 refine ag ?_
 refine az rfl (fun hb1 => ?_) (fun hb1 => ?_)
 ·refine ae hP<|aj rfl<|ag<|am<|E1 rfl rfl ?_
  exact aO (GA (dT0 hb1))
 refine aq<|an<|ae hP<|au hT rfl<|ab (ah (fX (-4) (by decide))) ?_
 refine ab (ah (eE _ _)) ?_
 refine ag ?_
 refine az rfl (fun hb2 => ?_) (fun hb2 => ?_)
 ·refine ae hP<|aj rfl<|ag<|am<|E1 rfl rfl ?_
  exact aO (Gz (dF0 hb1) (dT0 hb2))
 refine aq<|ae hP<|aj rfl<|ag<|am<|E1 rfl rfl ?_
 exact aO (GB (dF0 hb1) (dF0 hb2))
theorem qX  :
  aF Tryz.prog 21 [] (B true) := by
 have q1 : aF Tryz.prog 30 [FA 2 1 3, Z 3] (.p (.a (anS ⟨1, 0, 1, 0, [], []⟩ ++ [.v (.int .i64 0)]))) := by
  have h := kl ⟨2, 1, 3⟩ (-23) 3 (by unfold L; decide) (by unfold L; decide) (by unfold L; decide) lf (by decide) (by decide) (by decide)
  rw [yZ] at h
  exact h
 have q2 : aF Tryz.prog 30 [FA 2 1 3, Z 5] (.p (.a (anS ⟨2, 0, 0, 5, [], []⟩ ++ [.v (.int .i64 0)]))) := by
  have h := kl ⟨2, 1, 3⟩ (-23) 5 (by unfold L; decide) (by unfold L; decide) (by unfold L; decide) lf (by decide) (by decide) (by decide)
  rw [CR] at h
  exact h
 have q3 : aF Tryz.prog 30 [FA 2 1 3, Z 1] (.p (.a (anS ⟨3, 0, 0, 0, [1], [⟨1, 1, 6⟩]⟩ ++ [.v (.int .i64 0)]))) := by
  have h := kl ⟨2, 1, 3⟩ (-23) 1 (by unfold L; decide) (by unfold L; decide) (by unfold L; decide) lf (by decide) (by decide) (by decide)
  rw [FJ] at h
  exact h
 have q4 : aF Tryz.prog 30 [FA 1 0 5, Z 3] (.p (.a (anS ⟨2, 0, 0, 5, [], []⟩ ++ [.v (.int .i64 0)]))) := by
  have h := kl ⟨1, 0, 5⟩ (-20) 3 (by unfold L; decide) (by unfold L; decide) (by unfold L; decide) FM (by decide) (by decide) (by decide)
  rw [y4] at h
  exact h
 have q5 : aF Tryz.prog 26 [FA 1 0 1, Z 5] (.t [.c (SL enP (prS (-4) (5 : Nat) ⟨1, 0, 1⟩)), PE 0]) := Af ⟨1, 0, 1⟩ (-4) 5 (by unfold L; decide) (by unfold L; decide) (by unfold L; decide) HX (by decide) (by decide)
 have q6 : aF Tryz.prog 13 [I (-23), Z 6] (.t [.c (SL enI [1, 5, 7, 11]), PE 0]) := by
  have h := td (-23) 6 (by decide) (by decide) (by decide)
  rw [show ((6 : Nat) : Int) = 6 from rfl, y0] at h
  exact h
 have q7 : aF Tryz.prog 36 [FA 2 1 3, Z 3, .p (.a (anS ⟨1, 0, 1, 0, [], []⟩))] (B true) := by
  have h := l6 ⟨2, 1, 3⟩ (-23) 3 (by unfold L; decide) (by unfold L; decide) (by unfold L; decide) lf (by decide) (by decide) (by decide) ⟨1, 0, 1, 0, [], []⟩ (by decide) (by decide) (by decide) (by decide) (by decide) (by decide) (by decide)
  rw [FI] at h
  exact h
 have q8 : aF Tryz.prog 36 [FA 2 1 3, Z 3, .p (.a (anS ⟨3, 0, 0, 0, [1], [⟨1, 1, 6⟩]⟩))] (B false) := by
  have h := l6 ⟨2, 1, 3⟩ (-23) 3 (by unfold L; decide) (by unfold L; decide) (by unfold L; decide) lf (by decide) (by decide) (by decide) ⟨3, 0, 0, 0, [1], [⟨1, 1, 6⟩]⟩ (by decide) (by decide) (by decide) (by decide) (by decide) (by decide) (by decide)
  rw [HW] at h
  exact h
 obtain ⟨h8, h80⟩ := FN
 rw [show (prS (-4) 5 ⟨1, 0, 1⟩) = prS (-4) (5 : Nat) ⟨1, 0, 1⟩ from rfl] at h8 h80
 generalize prS (-4) (5 : Nat) ⟨1, 0, 1⟩ = L8 at *
 refine aK Tryz.func21 rfl rfl rfl rfl ?_
 refine ae hP<|aj rfl<|ag<|ae hP<|ab (ah (pz _ _ _ (by first | assumption | decide) (by first | assumption | decide) (by first | assumption | decide))) ?_
 refine ao ai (aB hT rfl rfl)<|aG hT rfl<|ag<|ae hP<|bD hT rfl rfl rfl rfl rfl rfl<|ab (ah q1) ?_
 refine bD hT rfl rfl rfl rfl rfl rfl<|ab (ah q2) ?_
 refine bD hT rfl rfl rfl rfl rfl rfl<|ab (ah q3) ?_
 refine ab (ah (pz _ _ _ (by first | assumption | decide) (by first | assumption | decide) (by first | assumption | decide))) ?_
 refine ab (ah q4) ?_
 refine ao ai (aB hT rfl rfl)<|ao ai (aB hT rfl rfl)<|ao ai (aB hT rfl rfl)<|ao ai (aB hT rfl rfl)<|aG hT rfl<|aG hT rfl<|aG hT rfl<|aG hT rfl<|ag<|ae hP<|ab (ah (pz _ _ _ (by first | assumption | decide) (by first | assumption | decide) (by first | assumption | decide))) ?_
 refine ab (ah q5) ?_
 refine ab (aw (rfl : _ = AV.t _))<|ab (ay rfl (v := .c _) rfl)<|ab (ay rfl (v := .c _) rfl)<|aj rfl<|aj rfl<|ag<|ae hP<|ab (ah (fX _ (by first | assumption | decide))) ?_
 refine ab (ah q6) ?_
 refine ab (aw (rfl : _ = AV.t _))<|ab (ay rfl (v := .c _) rfl)<|ab (ay rfl (v := .c _) rfl)<|aj rfl<|aj rfl<|ag<|an<|ae hP<|aJ hT rfl<|bj hT rfl rfl rfl rfl ?_
 refine ab (bl rfl rfl)<|ak rfl<|aC rfl (aR hT rfl rfl rfl rfl rfl rfl) ?_
 refine aC rfl (bV hT rfl rfl rfl rfl (by first | rfl | exact eT (by omega))) ?_
 refine aC rfl (bl rfl rfl) ?_
 refine ab (aL rfl rfl (rfl : _ = AV.p (.c _)))<|ak rfl<|aC rfl (aR hT rfl rfl rfl rfl rfl rfl) ?_
 refine aC rfl (bV hT rfl rfl rfl rfl (by first | rfl | exact eT (by omega))) ?_
 refine aC rfl (bl rfl rfl) ?_
 refine ab (aL rfl rfl (rfl : _ = AV.p (.c _)))<|ak rfl<|aC rfl (aR hT rfl rfl rfl rfl rfl rfl) ?_
 refine aC rfl (bV hT rfl rfl rfl rfl (by first | rfl | exact eT (by omega))) ?_
 refine aC rfl (bl rfl rfl) ?_
 refine ab (aL rfl rfl (rfl : _ = AV.p (.c _)))<|ak rfl<|aC rfl (aw (rfl : _ = AV.p (.c _))) ?_
 refine aC rfl (bl rfl rfl) ?_
 refine ab (aL rfl rfl (rfl : _ = AV.p (.c _)))<|ak rfl<|aC rfl (aw (rfl : _ = AV.p (.c _))) ?_
 refine aC rfl (bl rfl rfl) ?_
 refine ab (aL rfl rfl (rfl : _ = AV.p (.c _)))<|ak rfl<|aC rfl (aw (rfl : _ = AV.p (.c _))) ?_
 refine aC rfl (aU hT rfl rfl rfl (by rfl)) ?_
 refine aC rfl (bl rfl rfl) ?_
 refine ab (aL rfl rfl (rfl : _ = AV.p (.c _)))<|ag<|aP rfl (by rw [h8]; rfl) ?_
 refine aq<|ae hP<|ab (ah (fX _ (by first | assumption | decide))) ?_
 refine ab (bd hT rfl rfl rfl (es := [_, _]) rfl rfl rfl)<|ab (ah (pz _ _ _ (by first | assumption | decide) (by first | assumption | decide) (by first | assumption | decide))) ?_
 refine ab (bd hT rfl rfl rfl (es := [_, _, _, _, _, _]) rfl rfl rfl)<|ab (aV hT rfl rfl rfl (es := [_, _, _, _, _, _, _, _, _]) rfl)<|ao ai (aB hT rfl rfl)<|aG hT rfl<|ag<|an<|ae hP<|aJ hT rfl<|ab (aI hT rfl rfl rfl rfl (cs := [_, _, _, _, _, _, _, _, _]) rfl rfl)<|ab (ah (fX _ (by first | assumption | decide))) ?_
 refine ab (aV hT rfl rfl rfl (es := [_, _, _, _, _, _, _, _, _]) rfl)<|ab (ah (kd ⟨1, 0, 1, 0, [], []⟩ ⟨1, 0, 1, 0, [], []⟩ (by decide) (by decide))) ?_
 refine ab (bt rfl)<|ak rfl<|bw (bf rfl rfl (cA _)) (aR hT rfl rfl rfl rfl rfl rfl) ?_
 refine bw (bf rfl rfl (cA _)) (aI hT rfl rfl rfl rfl (cs := [_, _, _, _, _, _, _, _, _]) rfl rfl) ?_
 refine bw (bf rfl rfl (cA _)) (ah (fX _ (by first | assumption | decide))) ?_
 refine bw (bf rfl rfl (cA _)) (aV hT rfl rfl rfl (es := [_, _, _, _, _, _, _, _, _]) rfl) ?_
 refine bw (bf rfl rfl (cA _)) (ah (kd ⟨2, 0, 0, 5, [], []⟩ ⟨2, 0, 0, 5, [], []⟩ (by decide) (by decide))) ?_
 refine bw (bf rfl rfl (cA _)) (bt rfl) ?_
 refine ab (aL rfl (cA _) (rfl : _ = AV.p (.c _))) ?_
 refine ak rfl<|bw (bf rfl rfl (cA _)) (aR hT rfl rfl rfl rfl rfl rfl) ?_
 refine bw (bf rfl rfl (cA _)) (aI hT rfl rfl rfl rfl (cs := [_, _, _, _, _, _, _, _, _]) rfl rfl) ?_
 refine bw (bf rfl rfl (cA _)) (aI hT rfl rfl rfl rfl (cs := [_, _, _, _, _, _, _, _, _]) rfl rfl) ?_
 refine bw (bf rfl rfl (cA _)) (ah (kd ⟨3, 0, 0, 0, [1], [⟨1, 1, 6⟩]⟩ ⟨3, 0, 0, 0, [1], [⟨1, 1, 6⟩]⟩ (by decide) (by decide))) ?_
 refine bw (bf rfl rfl (cA _)) (bt rfl) ?_
 refine ab (aL rfl (cA _) (rfl : _ = AV.p (.c _))) ?_
 refine ak rfl<|bw (bf rfl rfl (cA _)) (aR hT rfl rfl rfl rfl rfl rfl) ?_
 refine bw (bf rfl rfl (cA _)) (aI hT rfl rfl rfl rfl (cs := [_, _, _, _, _, _, _, _, _]) rfl rfl) ?_
 refine bw (bf rfl rfl (cA _)) (ah (fX _ (by first | assumption | decide))) ?_
 refine bw (bf rfl rfl (cA _)) (aV hT rfl rfl rfl (es := [_, _, _, _, _, _, _, _, _]) rfl) ?_
 refine bw (bf rfl rfl (cA _)) (ah (kd ⟨2, 0, 0, 5, [], []⟩ ⟨2, 0, 0, 5, [], []⟩ (by decide) (by decide))) ?_
 refine bw (bf rfl rfl (cA _)) (bt rfl) ?_
 refine ab (aL rfl (cA _) (rfl : _ = AV.p (.c _))) ?_
 refine ag<|aP rfl (cA _) ?_
 refine aq<|ae hP<|ak rfl<|ab (dy hT gE (by decide) (0, 0) (n := 0) (l := L8) rfl rfl rfl rfl rfl rfl (by omega)) ?_
 refine ab (jA hT rfl rfl rfl rfl rfl (by decide)) ?_
 refine ab (a8 hT rfl rfl rfl (cs := enI (L8.getD 0 (0, 0)).1) rfl rfl) ?_
 refine ab (ah (fX _ (by first | assumption | decide))) ?_
 refine ab (ah (eE _ _)) ?_
 refine ak rfl<|bw (bf rfl rfl (by rw [h80]; decide)) (aw (rfl : _ = AV.p (.c _))) ?_
 refine bw (bf rfl rfl (by rw [h80]; decide)) (dy hT gE (by decide) (0, 0) (n := 0) (l := L8) rfl rfl rfl rfl rfl rfl (by omega)) ?_
 refine bw (bf rfl rfl (by rw [h80]; decide)) (jA hT rfl rfl rfl rfl rfl (by decide)) ?_
 refine bw (bf rfl rfl (by rw [h80]; decide)) (a8 hT rfl rfl rfl (cs := enI (L8.getD 0 (0, 0)).2) rfl rfl) ?_
 refine bw (bf rfl rfl (by rw [h80]; decide)) (ah (fX _ (by first | assumption | decide))) ?_
 refine bw (bf rfl rfl (by rw [h80]; decide)) (ah (eE _ _)) ?_
 refine ab (aM rfl (by rw [h80]; decide) (rfl : _ = AV.p (.c _))) ?_
 refine ak rfl<|bw (bf rfl rfl (by rw [h80]; decide)) (aw (rfl : _ = AV.p (.c _))) ?_
 iterate 4 refine bw (bf rfl rfl (by rw [h80]; decide)) (ah (fX _ (by first | assumption | decide))) ?_
 refine bw (bf rfl rfl (by rw [h80]; decide)) (bd hT rfl rfl rfl (es := [_, _, _, _, _, _, _, _]) rfl rfl rfl) ?_
 refine bw (bf rfl rfl (by rw [h80]; decide)) (ah (qW [1, 5, 7, 11] [1, 5, 7, 11] (by decide))) ?_
 refine ab (aM rfl (by rw [h80]; decide) (rfl : _ = AV.p (.c _))) ?_
 refine ak rfl<|bw (bf rfl rfl (by decide)) (aI hT rfl rfl rfl rfl (cs := [_, _, _, _, _, _]) rfl rfl) ?_
 refine bw (bf rfl rfl (by decide)) (aR hT rfl rfl rfl rfl rfl rfl) ?_
 refine bw (bf rfl rfl (by decide)) (aI hT rfl rfl rfl rfl (cs := [_, _, _, _, _, _, _, _, _]) rfl rfl) ?_
 refine bw (bf rfl rfl (by decide)) (ah q7) ?_
 refine ab (aM rfl (by decide) (rfl : _ = AV.p (.c _))) ?_
 refine ak rfl<|aC rfl (aI hT rfl rfl rfl rfl (cs := [_, _, _, _, _, _]) rfl rfl) ?_
 refine aC rfl (aR hT rfl rfl rfl rfl rfl rfl) ?_
 refine aC rfl (aI hT rfl rfl rfl rfl (cs := [_, _, _, _, _, _, _, _, _]) rfl rfl) ?_
 refine aC rfl (ah q8) ?_
 refine aC rfl (bt rfl) ?_
 refine ab (aM rfl rfl (rfl : _ = AV.p (.c _)))<|aj rfl<|ag<|am<|E1 rfl rfl ?_
 exact .refl _
end
section
open Go Go.AM
end
section
open Go Go.AM
theorem F5 (d : Int) (hd : -9223372036854775807 ≤ d ∧ d ≤ 9223372036854775807) :
  aF Tryz.prog 122 [I d] (.t [PE (szN d), PE (szE d)]) := by
 have id0 : LB d 6 := ⟨by unfold L; omega⟩
 have hm0 := Int.emod_nonneg d (show (4 : Int) ≠ 0 by omega)
 have hm1 := Int.emod_lt_of_pos d (show (0 : Int) < 4 by omega)
 refine aK Tryz.func122 rfl rfl rfl rfl ?_
 refine ae hP<|ao ai (aN rfl rfl)<|aj rfl<|aj rfl<|ag<|ae hP<|au hT rfl<|ab (ah (js _ (by first | assumption | decide))) ?_
 refine ab (ah (da _ _ lz lz (by decide))) ?_
 refine ab (aw (rfl : _ = AV.t _))<|ab (ay rfl (v := .a _) rfl)<|ab (ay rfl (v := .a _) rfl)<|ab (ay rfl (v := .c _) rfl)<|ao ai (aB hT rfl rfl)<|ao ai (aB hT rfl rfl)<|aG hT rfl<|aG hT rfl<|aj rfl<|ag<|an<|ae hP<|au hT rfl<|ab (ah (cE _)) ?_
 refine ab (dB rfl rfl)<|ak rfl ?_
 refine aZ (t := 19) rfl (fun hg1 => ?_) (fun hg1 => ?_)
 ·have hg1_ := dT0 hg1
  iterate 4 refine aW hg1 ?_
  refine ab (aM rfl hg1 (rfl : _ = AV.p (.c _)))<|ag<|aS rfl rfl<|ae hP<|aj rfl<|aj rfl<|ag<|am<|E11 rfl rfl rfl ?_
  exact aD (D6 (.inl (sgn_ge_iff.1 hg1_)))
 have hg1_ := dF0 hg1
 refine aC hg1 (aI hT rfl rfl rfl rfl (cs := [_, _]) rfl rfl) ?_
 refine aC hg1 (ah (js _ (by first | assumption | decide))) ?_
 refine aC hg1 (ah (c7 _ _)) ?_
 refine aC hg1 (bU rfl rfl) ?_
 refine ab (aL rfl hg1 (rfl : _ = AV.p (.c _)))<|ag ?_
 refine az rfl (fun hb2 => ?_) (fun hb2 => ?_)
 ·have hb2_ := dT0 hb2
  refine ae hP<|aj rfl<|aj rfl<|ag<|am<|E11 rfl rfl rfl ?_
  exact aD (D6 (.inr (cmpI_gt_zero.1 hb2_)))
 have hb2_ := dF0 hb2
 refine aq<|ae hP<|au hT rfl<|ab (ah (gB _)) ?_
 refine ab (ah (gC _ (by omega) (by omega))) ?_
 refine ab (aw (rfl : _ = AV.t _))<|ab (ay rfl (v := .c _) rfl)<|ab (ay rfl (v := .c _) rfl)<|aj rfl<|aj rfl<|ag<|an<|ae hP<|ak rfl<|ab (bt rfl)<|ak rfl<|aC rfl (aw (rfl : _ = AV.p (.c _))) ?_
 refine aC rfl (bU rfl rfl) ?_
 refine ab (aL rfl rfl (rfl : _ = AV.p (.c _)))<|ag ?_
 refine az rfl (fun hb4 => ?_) (fun hb4 => ?_)
 ·have hb4_ := dT0 hb4
  refine ae hP<|aj rfl<|aj rfl<|ag<|am<|E11 rfl rfl rfl ?_
  exact aD (Iy (fun x => x.elim (fun h => hg1_ (sgn_ge_iff.2 h)) (fun h => hb2_ (cmpI_gt_zero.2 h))) hb4_)
 have hb4_ := dF0 hb4
 refine aq<|ae hP<|ak rfl<|aj rfl<|aj rfl<|ag<|am<|E11 rfl rfl rfl ?_
 exact aD (Iz (fun x => x.elim (fun h => hg1_ (sgn_ge_iff.2 h)) (fun h => hb2_ (cmpI_gt_zero.2 h))) hb4_)
theorem sv (N : Int) :
  aF Tryz.prog 123 [Z N] (.fn 176 [[.v (.int .i64 N)]]) := by
 refine jr Tryz.func123 (by kernel_rfl) rfl rfl (bL0 rfl) rfl ?_
 refine ae hP<|ao ai (aN rfl rfl)<|aj rfl<|ag<|cq (t := 1) rfl rfl ?_
 refine ae hP<|ab (jH rfl)<|ab (bi (rfl : _ = AV.fn _ _))<|ag<|am ?_
 exact ⟨.inr rfl, 2, rfl, rfl⟩
theorem F6 (d : Int) (hd : -9223372036854775807 ≤ d ∧ d ≤ 9223372036854775807) (W : FuncId) (p : Fm → Bool) (hW : ∀ a b c : Int, (0 < a ∧ a ≤ 2000) → (-2000 ≤ b ∧ b ≤ 2000) → (0 < c ∧ c ≤ 10000000) → aF Tryz.prog W [FA a b c] (B (p ⟨a, b, c⟩))) :
  aF Tryz.prog 52 [I d, .p (.c (.v (.func (.func W) #[] #[])))] (.t [.c (FS (if szE d = 0 then LW (-d) p else [])), PE (szE d)]) := by
 refine aK Tryz.func52 rfl rfl rfl rfl ?_
 refine ae hP<|ao ai (aN rfl rfl)<|ao ai (aN rfl rfl)<|aj rfl<|aj rfl<|ag<|ae hP<|au hT rfl<|ab (ah (F5 _ (by omega))) ?_
 refine ab (aw (rfl : _ = AV.t _))<|ab (ay rfl (v := .c _) rfl)<|ab (ay rfl (v := .c _) rfl)<|aj rfl<|aj rfl<|ag<|an<|ae hP<|ak rfl<|ab (bl rfl rfl)<|ag ?_
 refine az rfl (fun hb1 => ?_) (fun hb1 => ?_)
 ·have hb1_ := cn hb1
  have hz : szE d ≠ 0 := hb1_
  refine ae hP<|ak rfl<|aj rfl<|aj rfl<|ag<|am<|E11 rfl rfl rfl ?_
  exact Sub.tup ⟨by rw [if_neg hz]; exact DSub.nil_sl, DSub.refl _, trivial⟩
 have hb1_ := bY hb1
 obtain ⟨hsn, hN1, hN2, hN3⟩ := tU (show szE d = 0 from hb1_)
 rw [← hsn] at hN1 hN2
 generalize hNd : szN d = N at hN1 hN2 ⊢
 refine aq<|ae hP<|ao ai (ji hT rfl rfl)<|ag<|an<|ae hP<|ak rfl<|ab (ah (sv _)) ?_
 refine ag<|aA<|iL 8 1000 6 46 rfl rfl rfl rfl ?_
 refine dj (t := stL [(3, .loc 3 0), (8, .loc 8 0), (20, .fn 176 [[.v (.int .i64 N)]])] [(3, ⟨false, 1, 108, [.v (.func (.func W) #[] #[])]⟩), (8, ⟨false, 1002, 32, [.sl (LK N p 0).length []]⟩), (1000, FB 46 (LK N p 0))]) (aE ⟨.refl _, .refl _, .refl _, trivial⟩ ⟨rfl, rfl, rfl, trivial⟩) ?_
 refine o9 9 (fun k => ci [(3, ⟨false, 1, 108, [.v (.func (.func W) #[] #[])]⟩), (8, ⟨false, 1002, 32, [.sl (LK N p k).length []]⟩), (1000, FB 46 (LK N p k))]) rfl (rE N (by omega) hN2) (Br N) rfl rfl rfl (fun k x hx => ?_) ?_
 ·obtain ⟨t, ht, rfl⟩ := Bt hx
  obtain ⟨⟨b1, b2⟩, ⟨b3, b4⟩, b5, b6⟩ := vn (List.mem_of_getElem? ht) hN2
  have ja : bn t.a := by unfold bn; omega
  have jb : bn t.b := by unfold bn; omega
  have jc : bn t.c := by unfold bn; omega
  refine av hP<|ao ai (aB hT rfl rfl)<|aG hT rfl<|ag<|aA<|ae hP<|ab (aI hT rfl rfl rfl rfl (cs := [_, _, _]) rfl rfl)<|ab (ah (F7 _ _ _ (by first | assumption | decide) (by first | assumption | decide) (by first | assumption | decide))) ?_
  refine ao ai (aB hT rfl rfl)<|aG hT rfl<|ag<|ae hP<|bj hT rfl rfl rfl rfl ?_
  refine bD hT rfl rfl rfl rfl rfl rfl<|ab (Eff.callF rfl (hW _ _ _ ⟨b1, b2⟩ ⟨b3, b4⟩ ⟨b5, b6⟩)) ?_
  refine ag ?_
  refine az rfl (fun hb2 => ?_) (fun hb2 => ?_)
  ·refine av hP<|ab (ej hT rfl rfl rfl rfl rfl)<|bD hT rfl rfl rfl rfl rfl rfl<|ab (bd hT rfl rfl rfl (es := [_, _, _, _, _, _]) rfl rfl rfl)<|RK.app ai (mU hT rfl rfl rfl rfl rfl rfl rfl (f := t.fm) rfl (by have := Gs N p k; omega) (by decide)) ?_
   refine di ai (iH hT rfl rfl rfl rfl rfl rfl rfl (ju _).symm (Nat.zero_lt_succ 5)) ?_
   refine ag ?_
   refine ⟨rfl, GW.rnL 8 30 1000 (LK N p k ++ [t.fm]).length rfl rfl rfl (ju _).symm (Nat.zero_lt_succ 5) rfl rfl rfl rfl ?_⟩
   show ∀ m, ci _ m = _ ∨ ci _ m = none
   rw [Gr ht hb2]
   exact SubO.own ⟨rfl, rfl, rfl, trivial⟩
  refine aq ?_
  refine ⟨rfl, GW.forget ?_⟩
  show ∀ m, ci _ m = _ ∨ ci _ m = none
  rw [Im ht hb2]
  exact SubO.own ⟨rfl, rfl, rfl, trivial⟩
 refine ae hP<|ab (ej hT rfl rfl rfl rfl rfl)<|ab (bi (rfl : _ = AV.vec _))<|aj rfl<|ag<|mb (t := 4) rfl rfl ?_
 refine am<|E11 rfl rfl rfl ?_
 exact aD (by rw [Gt, if_pos (show szE d = 0 from hb1_), show szE d = 0 from hb1_, ← hNd, hsn])
end
section
open Go Go.AM
theorem wR (d : Int) (hd : -9223372036854775807 ≤ d ∧ d ≤ 9223372036854775807) :
  aF Tryz.prog 12 [I d] (.t [.c (FS (if szE d = 0 then LW (-d) (fun f => prim f.a f.b f.c) else [])), PE (szE d)]) := by
 refine aK Tryz.func12 rfl rfl rfl rfl ?_
 refine ae hP<|ao ai (aN rfl rfl)<|aj rfl<|aj rfl<|ag<|ae hP<|au hT rfl<|ab (ah (F6 _ (by omega) 53 (fun f => prim f.a f.b f.c) (fun a b c h1 h2 h3 => gO a b c (nv (by omega)) (nv (by omega)) (nv (by omega))))) ?_
 refine ab (ay rfl (v := .c _) rfl)<|ab (ay rfl (v := .c _) rfl)<|aj rfl<|aj rfl<|ag<|am<|E11 rfl rfl rfl ?_
 exact .refl _
end
section
open Go Go.AM
theorem kW (D i0 i1 i2 i3 m0 m1 m2 m3 : Nat) (hD : D < 65536) (g0 : i0 < 65536) (g1 : i1 < 65536) (g2 : i2 < 65536) (g3 : i3 < 65536) (k0 : m0 < 256) (k1 : m1 < 256) (k2 : m2 < 256) (k3 : m3 < 256) :
  aF Tryz.prog 8 [.p (.a [.v (.int .u16 (D : Int)), .v (.int .u16 (i0 : Int)), .v (.int .u16 (i1 : Int)), .v (.int .u16 (i2 : Int)), .v (.int .u16 (i3 : Int)), .v (.int .u8 (m0 : Int)), .v (.int .u8 (m1 : Int)), .v (.int .u8 (m2 : Int)), .v (.int .u8 (m3 : Int))])] (B true) := by
 obtain ⟨hD1, hD2⟩ := GE D
 obtain ⟨s1, s2, s3, s4, s5⟩ := iW D
 have hE := sM D
 have h4 := Bu D
 have cS := BS _ _ _ _ _ _ _ _ _ hD g0 g1 g2 g3 k0 k1 k2 k3
 obtain ⟨m, hmE⟩ : ∃ m : Nat, (m : Int) = 1 + (i2 : Int) % 60 := ⟨1 + i2 % 60, by omega⟩
 have hm : 1 ≤ m ∧ m ≤ 65536 := by omega
 have hmw : IntKind.i64.wrap (1 + (i2 : Int) % 60) = (m : Int) := by rw [← hmE]; exact iW0 _ (by omega)
 have w := sa (n := szz D) (by omega)
 have h99 := Gq D
 have jn : bn (-szz D) := by unfold bn; omega
 have hng : IntKind.i64.wrap (0 - szz D) = -szz D := by rw [Int.zero_sub]; exact iW0 _ (by omega)
 have cL : aF Tryz.prog 12 [I (-szz D)] (.t [.c (FS (LWp (szz D))), PE 0]) := by
  have h := wR (-szz D) (by omega)
  rw [hE, if_pos rfl, show - -szz D = szz D by omega] at h
  exact h
 generalize LWp (szz D) = l at *
 generalize szz D = NN at *
 have hdN : -NN = -NN := rfl
 generalize hdd : -NN = d at *
 clear hdN
 have idl : LB d 6 := ⟨by unfold L; omega⟩
 have hdB : -4194304 ≤ d ∧ d < 0 := by omega
 have hl6 := xe w (by omega)
 have hlc : ∀ g ∈ l, Cl d g := fun g hg => ((w.mem g).1 hg).1
 have cR := td d m hdB h4 hm
 have hrl := mM d m hm.2
 have cUn := vK d
 have hu6 : unN d ≤ 6 := by rw [← ns]; exact pO d
 have hsum := B0 (n := (m : Int)) w hdB.2 (by omega)
 have hLN : ∀ g : Fm, (prS d m g).length ≤ 1000000 := fun g => by rw [vQ]; exact vP hm
 have hsum2 : dm (l.map fun g => (prS d m g).length) = unN d * (rbL d m).length := by
  rw [← hsum]; congr 1; exact List.map_congr_left fun g _ => vQ
 generalize hLNe : (fun g : Fm => (prS d m g).length) = LN at *
 have hLN' : ∀ g, (prS d m g).length = LN g := fun g => by rw [← hLNe]
 simp only [hLN'] at hLN
 have hsb := fun k => GO (F := LN) (l := l) (k := k) hLN
 refine aK Tryz.func8 rfl rfl rfl rfl ?_
 refine ae hP<|ao ai (aN rfl rfl)<|aj rfl<|ag<|ae hP<|ab (ah qX) ?_
 refine aj rfl<|ag<|an<|ae hP<|ak rfl<|ab (bt rfl)<|ag<|aP rfl rfl<|aq<|ae hP<|ab (aI hT rfl rfl rfl rfl (cs := [_, _, _, _, _, _, _, _, _]) rfl rfl)<|ab (ah cS) ?_
 refine ab (fL rfl (c := d) hng) ?_
 refine ab (ah (fX d jn)) ?_
 refine aJ hT rfl<|ab (aQ hT rfl rfl rfl rfl rfl (by first | decide | omega)) ?_
 refine bj hT rfl rfl rfl rfl ?_
 refine ab (cQ rfl rfl (by decide) (c := (i2 : Int) % 60) (Int.tmod_eq_emod_of_nonneg (by omega))) ?_
 refine ab (bh hT rfl rfl rfl rfl (iW0 _ (by omega))) ?_
 refine ab (bL rfl rfl (c := (m : Int)) hmw) ?_
 refine ao ai (aB hT rfl rfl)<|aG hT rfl<|aj rfl<|ag<|ae hP<|au hT rfl<|ab (ah cL) ?_
 refine ab (aw (rfl : _ = AV.t _))<|ab (ay rfl (v := .c _) rfl)<|ab (ay rfl (v := .c _) rfl)<|aj rfl<|aj rfl<|ag<|ae hP<|au hT rfl<|ak rfl<|ab (ah cR) ?_
 refine ab (aw (rfl : _ = AV.t _))<|ab (ay rfl (v := .c _) rfl)<|ab (ay rfl (v := .c _) rfl)<|aj rfl<|aj rfl<|ag<|an<|ae hP<|ak rfl<|ab (bl rfl rfl)<|ak rfl<|aC rfl (aw (rfl : _ = AV.p (.c _))) ?_
 refine aC rfl (bl rfl rfl) ?_
 refine ab (aL rfl rfl (rfl : _ = AV.p (.c _)))<|ag<|aP rfl rfl<|aq<|ae hP<|aj rfl<|ag<|an<|ae hP<|aj rfl<|ag<|aA<|bq (ι := Nat) (fun k => stL [(3, .p (.c (.v (.bool true)))), (4, .loc 4 0), (5, Z (m : Int)), (6, .p (.c (FS l))), (8, .p (.c (SL enI (rbL d m)))), (10, Z ((smK LN l k : Nat) : Int)), (11, Z (k : Int))] [(4, ⟨false, 1, 29, [zn d, zm d]⟩)]) (fun k => k ≤ l.length) (fun k => l.length - k) 0 (Nat.zero_le _) (aE ⟨.refl _, .refl _, .refl _, .refl _, .refl _, aO (by rw [GP]; rfl), .refl _, trivial⟩ ⟨rfl, trivial⟩) ?_
 intro k hk
 refine an<|ae hP<|ak rfl<|ak rfl<|ab (aU hT rfl rfl rfl (by rfl)) ?_
 refine ab (a7 rfl rfl)<|ak rfl ?_
 refine aZ (t := 48) rfl (fun hg2 => ?_) (fun hg2 => ?_)
 ·have hg2_ := dT0 hg2
  have hme := kY (l := l) (k := k) (d := ⟨0, 0, 0⟩) (by have := dT0 hg2; omega)
  have hks : smK LN l (k + 1) = smK LN l k + (prS d m (l.getD k ⟨0, 0, 0⟩)).length := by rw [GN (by have := dT0 hg2; omega), hLN']
  have hadd : IntKind.i64.wrap (((smK LN l k : Nat) : Int) + (((prS d m (l.getD k ⟨0, 0, 0⟩)).length : Nat) : Int)) = ((smK LN l (k + 1) : Nat) : Int) := by
   rw [hks, ← Int.natCast_add]
   have := hsb (k + 1)
   exact iW0 _ (by omega)
  refine aC hg2 (aw (rfl : _ = AV.p (.c _))) ?_
  refine aC hg2 (a7 rfl rfl) ?_
  refine ab (aM rfl hg2 (rfl : _ = AV.p (.c _)))<|ag<|aS rfl (decide_eq_true (by omega)) ?_
  refine aq<|an<|aA<|ae hP<|ak rfl<|ak rfl<|ab (fM hT (n := (k : Int)) rfl rfl rfl rfl rfl rfl (by omega)) ?_
  refine ab (a8 hT rfl rfl rfl (cs := FC (l.getD k ⟨0, 0, 0⟩)) rfl rfl) ?_
  refine ak rfl<|ab (ah (Af (l.getD k ⟨0, 0, 0⟩) d m (hl6 _ hme).1 (hl6 _ hme).2.1 (hl6 _ hme).2.2 (hlc _ hme) hdB hm)) ?_
  refine ab (aw (rfl : _ = AV.t _))<|ab (ay rfl (v := .c _) rfl)<|ab (ay rfl (v := .c _) rfl)<|aj rfl<|aj rfl<|ag<|an<|ae hP<|ak rfl<|ab (bl rfl rfl)<|ag<|aP rfl rfl<|aq<|av hP<|ak rfl<|ak rfl<|ab (aU hT rfl rfl rfl (by rfl)) ?_
  refine ab (bL rfl rfl (c := ((smK LN l (k + 1) : Nat) : Int)) hadd) ?_
  refine aj rfl<|ag<|av hP<|ak rfl<|bA rfl rfl ?_
  refine aj rfl<|ag ?_
  refine ⟨k + 1, by omega, by omega, aE ⟨.refl _, .refl _, .refl _, .refl _, .refl _, .refl _, aO (by omega), trivial⟩ ⟨rfl, trivial⟩⟩
 have hg2_ := dF0 hg2
 have hfin : smK LN l k = unN d * (rbL d m).length := by rw [By (by have := dF0 hg2; omega)]; exact hsum2
 have hml : unN d * (rbL d m).length ≤ 1000000000 := by rw [← hfin]; have := hsb k; omega
 refine aW hg2 ?_
 refine aW hg2 ?_
 refine ab (aL rfl hg2 (rfl : _ = AV.p (.c _)))<|ag<|aP rfl rfl<|a6<|ae hP<|ak rfl<|au hT rfl<|ab (ah cUn) ?_
 refine ak rfl<|ab (aU hT rfl rfl rfl (by rfl)) ?_
 refine ab (bK rfl rfl (c := ((unN d * (rbL d m).length : Nat) : Int)) (EV hml)) ?_
 refine ab (bo rfl rfl)<|ak rfl<|bw (bf rfl rfl (wK hfin)) (aw (rfl : _ = AV.p (.c _))) ?_
 refine ab (aM rfl (wK hfin) (rfl : _ = AV.p (.c _))) ?_
 refine aj rfl<|ag<|am<|E1 rfl rfl ?_
 exact .refl _
end
section
open Go Go.AM
end
end Go.Proofs.YthaiejfjnllglaaGreatDoor
