/- Texts that the proof stands on, one behind the other: Ke42, Ke43, Ke44, Ke33, Lk13, Ke34, Ke35, PlRun10, PlRun11, PlRun12, PlRun13, PlRun14, Ke36, Ke37, Ke47, Ke48, PlMap, Ke49. -/
import Derived.Test.YtejnpppejalhfacGreatPKernelMaps11
set_option linter.unusedVariables false
set_option linter.unusedSimpArgs false
namespace Go.Proofs.YtejnpppejalhfacGreat
set_option maxRecDepth 100000
set_option maxHeartbeats 8000000
open Go.RowKit Go.Sort
theorem a14 {w:World} {k k':KV} (hK:KerV w k) (hK':KerV w k') (he:k.K=k'.K):Fn Tryz.prog 15 [.agg (kvC k).toArray,.agg (kvC k').toArray] w (RBf (.bool true) w):=by
 have b1:=hK.fr.bound;have b2:=hK.sl.bound;have b3:=hK.sp.bound;have b4:=hK.sh.sl.bound;obtain ⟨sh,fr,sl,sps,hand,vsh,vfr,vsl,vsp⟩:=k;obtain ⟨sh',fr',sl',sps',hand',vsh',vfr',vsl',vsp'⟩:=k';unfold KV.K at he;injection he with e1 e2 e3 e4 e5
 dsimp only at e1 e2 e3 e4 e5;subst e2 e3 e5;have hsame:=fun w1 (h:ShsV w1 sh vsh) (h':ShsV w1 sh' vsh')=>a6n h h' e1;have hl4:sps.length=sps'.length:=by have:=congrArg List.length e4;simpa using this
 obtain ⟨k1,k2,k3,k4,k5⟩:=hK;obtain ⟨m1,m2,m3,m4,m5⟩:=hK';dsimp only at b1 b2 b3 b4 k1 k2 k3 k4 k5 m1 m2 m3 m4 m5;obtain ⟨p1,c1,rfl⟩:=k1.sl.len;obtain ⟨p2,c2,rfl⟩:=k2.len;obtain ⟨p3,c3,rfl⟩:=k3.len;obtain ⟨p4,c4,rfl⟩:=k4.len;obtain ⟨q1,d1,rfl⟩:=m1.sl.len;obtain ⟨q2,d2,rfl⟩:=m2.len;obtain ⟨q3,d3,rfl⟩:=m3.len;obtain ⟨q4,d4,rfl⟩:=m4.len;unfold kvC;dsimp only;have z0:(!decide (hand=hand))=false:=by rw [xi8 rfl];rfl
 have z2:(!decide ((fr.length:Int)=fr.length))=false:=by rw [xi8 rfl];rfl
 have z3:(!decide ((sl.length:Int)=sl.length))=false:=by rw [xi8 rfl];rfl
 have z4:(!decide ((sps.length:Int)=sps'.length))=false:=by rw [xi8 (by omega)];rfl
 refine yEn Tryz.func15 Tryz.ntmps15 (by kernel_rfl) (by kernel_rfl) rfl rfl ?_;have hS:=St.start w
 repeat' (first|(with_reducible apply d5 c9);rfl;rfl;rfl|(with_reducible apply d6);rfl;(first|apply Ld.sc c9;rfl;(first|exact hS.blkC 0 rfl rfl|exact hS.blkC 1 rfl rfl)|apply Ld.sl c9;rfl;(first|exact hS.blkC 0 rfl rfl|exact hS.blkC 1 rfl rfl));rfl|refine yDn (by with_reducible constructor) ?_|((with_reducible apply l8);(iterate 4 rfl);first|rfl|assumption)|(with_reducible apply i4);rfl;(first|rfl|assumption);rfl;rfl|(with_reducible apply i9);rfl;assumption|(with_reducible apply j6 hS);rfl;rfl;rfl;clear hS;intro g w' hS|(with_reducible apply f9 hS);rfl;rfl;rfl;refine ⟨_,hsame _ (k1.now hS) (m1.now hS),?_⟩;clear hS;intro w' hS)
 refine a19 hS 5 [2,3] rfl fr.length (fun _=>True) 0 rfl (xf9 _) trivial ?_;rintro i w1 hi - hS';clear hS;have hS:=hS';clear hS';by_cases hlt:i < fr.length
 ·obtain ⟨f,hf⟩:=j4 (l:=fr) (i:=i) (by omega);have hrow:=f8 (f:=fmC) hf;obtain ⟨b,off,rfl,hro⟩:=k2.at_ (i:=i) hlt;obtain ⟨b',off',rfl,hro'⟩:=m2.at_ (i:=i) hlt;have heq:=b5m f f;rw [xi8 rfl] at heq
  repeat' (first|(with_reducible apply d5 c9);rfl;rfl;rfl|(with_reducible apply d6);rfl;(apply Ld.sl c9;rfl;exact hS.blkC 1 rfl rfl);rfl|refine yDn (by with_reducible constructor) ?_|(with_reducible apply d8);rfl;all_goals (intro hb hp;try (exfalso;omega)))
  (focus ((with_reducible apply d9 _ _ _ (by kernel_rfl) (by kernel_rfl) hS);(repeat' (first|(first|(with_reducible apply g8 c9);rfl;rfl|(with_reducible apply i7);rfl;(intro wd hd;replace hd:St _ _ wd _:=hd;(first|apply Ld.sl c9;rfl;(first|exact hd.blkC 0 rfl rfl|exact hd.blkC 1 rfl rfl)|apply Ld.st c9;rfl;exact hd.roR (by assumption) (by assumption);rfl));rfl|(with_reducible apply a0f c9);rfl;rfl;rfl;rfl;omega;rfl)|(with_reducible apply a5I);rfl;rfl;exact heq;rfl));all_goals ((with_reducible apply k8);intro w' hS';clear hS;have hS:=hS';clear hS')))
  repeat' (first|(with_reducible apply d5 c9);rfl;rfl;rfl|(with_reducible apply j7);rfl;rfl;omega;omega;rfl|refine yDn (by with_reducible constructor) ?_|(with_reducible apply i9);rfl;rfl)
  exact a0N (i + 1) (by exact Fr.sub_of rfl) (by omega) trivial (by omega) hS
 repeat' (first|(with_reducible apply d5 c9);rfl;rfl;rfl|(with_reducible apply d6);rfl;(apply Ld.sl c9;rfl;exact hS.blkC 1 rfl rfl);rfl|refine yDn (by with_reducible constructor) ?_|(with_reducible apply d8);rfl;all_goals (intro hb hp;try (exfalso;omega)))
 refine a19 hS 6 [2,3] rfl sl.length (fun _=>True) 0 rfl (xf9 _) trivial ?_;rintro i w1 hi - hS';clear hS;have hS:=hS';clear hS';by_cases hlt:i < sl.length
 ·obtain ⟨f,hf⟩:=j4 (l:=sl) (i:=i) (by omega);have hrow:=f8 (f:=swC) hf;obtain ⟨b,off,rfl,hro⟩:=k3.at_ (i:=i) hlt;obtain ⟨b',off',rfl,hro'⟩:=m3.at_ (i:=i) hlt;have heq:=b2X f f;rw [xi8 rfl] at heq
  repeat' (first|(with_reducible apply d5 c9);rfl;rfl;rfl|(with_reducible apply d6);rfl;(apply Ld.sl c9;rfl;exact hS.blkC 1 rfl rfl);rfl|refine yDn (by with_reducible constructor) ?_|(with_reducible apply d8);rfl;all_goals (intro hb hp;try (exfalso;omega)))
  (focus ((with_reducible apply d9 _ _ _ (by kernel_rfl) (by kernel_rfl) hS);(repeat' (first|(first|(with_reducible apply g8 c9);rfl;rfl|(with_reducible apply i7);rfl;(intro wd hd;replace hd:St _ _ wd _:=hd;(first|apply Ld.sl c9;rfl;(first|exact hd.blkC 0 rfl rfl|exact hd.blkC 1 rfl rfl)|apply Ld.st c9;rfl;exact hd.roR (by assumption) (by assumption);rfl));rfl|(with_reducible apply a0f c9);rfl;rfl;rfl;rfl;omega;rfl)|(with_reducible apply a5I);rfl;rfl;exact heq;rfl));all_goals ((with_reducible apply k8);intro w' hS';clear hS;have hS:=hS';clear hS')))
  repeat' (first|(with_reducible apply d5 c9);rfl;rfl;rfl|(with_reducible apply j7);rfl;rfl;omega;omega;rfl|refine yDn (by with_reducible constructor) ?_|(with_reducible apply i9);rfl;rfl)
  exact a0N (i + 1) (by exact Fr.sub_of rfl) (by omega) trivial (by omega) hS
 repeat' (first|(with_reducible apply d5 c9);rfl;rfl;rfl|(with_reducible apply d6);rfl;(apply Ld.sl c9;rfl;exact hS.blkC 1 rfl rfl);rfl|refine yDn (by with_reducible constructor) ?_|(with_reducible apply d8);rfl;all_goals (intro hb hp;try (exfalso;omega)))
 refine a19 hS 7 [2,3] rfl sps.length (fun _=>True) 0 rfl (xf9 _) trivial ?_;rintro i w1 hi - hS';clear hS;have hS:=hS';clear hS';by_cases hlt:i < sps.length;rotate_left
 ·repeat' (first|(with_reducible apply d5 c9);rfl;rfl;rfl|(with_reducible apply d6);rfl;(apply Ld.sl c9;rfl;exact hS.blkC 1 rfl rfl);rfl|refine yDn (by with_reducible constructor) ?_|(with_reducible apply d8);rfl;all_goals (intro hb hp;try (exfalso;omega)))
  (refine l4 rfl ?_)
  exact ⟨rfl,hS.sub (xi4 _)⟩
 obtain ⟨x,hx⟩:=j4 (l:=sps) (i:=i) (by omega);obtain ⟨y,hy⟩:=j4 (l:=sps') (i:=i) (by omega);have hxy:x.s=y.s:=by
  have h1:(sps.map (·.s))[i]?=some x.s:=f8 (f:=fun p:Sp=>p.s) hx;have h2:(sps'.map (·.s))[i]?=some y.s:=f8 (f:=fun p:Sp=>p.s) hy;rw [e4,h2] at h1;exact (Option.some.inj h1).symm
 have hrow:=f8 (f:=spC) hx;have hrow':=f8 (f:=spC) hy;obtain ⟨b,off,rfl,hro⟩:=k4.at_ (i:=i) hlt;obtain ⟨b',off',rfl,hro'⟩:=m4.at_ (i:=i) (by omega);have hxv:=k5 x (xc8 hx);have hyv:=m5 y (xc8 hy);have ha:=hxv.ar;have hen:=hxv.en;have ha':=hyv.ar;have hen':=hyv.en;obtain ⟨s,va,ve⟩:=x;obtain ⟨s',va',ve'⟩:=y;dsimp only at hxy ha hen ha' hen';subst hxy;have be:=hen.bound;obtain ⟨pa,ca,rfl⟩:=ha.len;obtain ⟨pe,ce,rfl⟩:=hen.len;obtain ⟨pa',ca',rfl⟩:=ha'.len;obtain ⟨pe',ce',rfl⟩:=hen'.len;unfold spC at hrow hrow';dsimp only at hrow hrow';have hsa:=fun w1 (h:Sl nF w1 4 (.slice pa s.areas.length ca) (s.areas.map arC)) (h':Sl nF w1 4 (.slice pa' s.areas.length ca') (s.areas.map arC))=>b4y h h';rw [xi8 rfl] at hsa;have z5:(!decide ((s.entries.length:Int)=s.entries.length))=false:=by rw [xi8 rfl];rfl
 have z6:(!decide (s.live=s.live))=false:=by rw [xi8 rfl];rfl
 repeat' (first|(with_reducible apply d5 c9);rfl;rfl;rfl|(with_reducible apply d6);rfl;(apply Ld.sl c9;rfl;exact hS.blkC 1 rfl rfl);rfl|refine yDn (by with_reducible constructor) ?_|(with_reducible apply d8);rfl;all_goals (intro hb hp;try (exfalso;omega)))
 refine a7t 14 rfl hS (by kernel_rfl) ?_;intro wh hh;clear hS;have hS:=hh;clear hh
 ((with_reducible apply t6 (nn 0) c9);rfl;kernel_rfl;exact (fun _ _ _ h=>h);exact hS;rfl;rfl)
 ((with_reducible apply a0o (nn 1));rfl;kernel_rfl;exact (fun _ _ _ h=>h);exact hS;rfl;(intro wd hd;replace hd:St _ _ wd _:=hd;(apply Ld.sl c9;rfl;exact hd.blkC 1 rfl rfl));rfl)
 ((with_reducible apply t6 (nn 2) c9);rfl;kernel_rfl;exact (fun _ _ _ h=>h);exact hS;rfl;rfl)
 ((with_reducible apply b6c (nn 3) c9);rfl;kernel_rfl;kernel_rfl;kernel_rfl;exact (fun _ _ _ _ h=>h);exact hS;rfl;rfl;rfl;rfl;omega;rfl)
 ((with_reducible apply a0o (nn 4));rfl;kernel_rfl;exact (fun _ _ _ h=>h);exact hS;rfl;(intro wd hd;replace hd:St _ _ wd _:=hd;(apply Ld.st c9;rfl;exact hd.roR (by assumption) (by assumption);rfl));rfl)
 ((with_reducible apply t6 (nn 5) c9);rfl;kernel_rfl;exact (fun _ _ _ h=>h);exact hS;rfl;rfl)
 ((with_reducible apply a0o (nn 6));rfl;kernel_rfl;exact (fun _ _ _ h=>h);exact hS;rfl;(intro wd hd;replace hd:St _ _ wd _:=hd;(apply Ld.sl c9;rfl;exact hd.blkC 0 rfl rfl));rfl)
 ((with_reducible apply t6 (nn 7) c9);rfl;kernel_rfl;exact (fun _ _ _ h=>h);exact hS;rfl;rfl)
 ((with_reducible apply b6c (nn 8) c9);rfl;kernel_rfl;kernel_rfl;kernel_rfl;exact (fun _ _ _ _ h=>h);exact hS;rfl;rfl;rfl;rfl;omega;rfl)
 ((with_reducible apply a0o (nn 9));rfl;kernel_rfl;exact (fun _ _ _ h=>h);exact hS;rfl;(intro wd hd;replace hd:St _ _ wd _:=hd;(apply Ld.st c9;rfl;exact hd.roR (by assumption) (by assumption);rfl));rfl)
 refine a4t (i:=10) (j:=11) (by kernel_rfl) ?_ ?_
 ·refine n7 rfl (t8 hS c9 rfl rfl) rfl ?_;rintro _ w' ⟨g,rfl,hS'⟩;clear hS;have hS:=hS';clear hS';refine ⟨hS.drop,?_⟩;refine s8 (i:=11) (by kernel_rfl) ?_;refine n7 rfl (t8 hS c9 rfl rfl) rfl ?_;rintro _ w' ⟨g,rfl,hS'⟩;clear hS;have hS:=hS';clear hS';refine ⟨hS.drop.drop,?_⟩;refine s8 (i:=12) (by kernel_rfl) ?_;refine a0e (Φ:=fun _ w'=>St _ _ w' _) rfl (s9 hS c9 (i:=1) rfl rfl rfl rfl rfl (xf6 rfl) (xc6.1 rfl)) ?_;intro _ w' hS';simp only [List.set] at hS';clear hS;have hS:=hS';clear hS';refine ⟨hS.drop.drop,?_⟩;refine s8 (i:=13) (by kernel_rfl) ?_;refine a0e (Φ:=fun _ w'=>St _ _ w' _) rfl (s9 hS c9 (i:=0) rfl rfl rfl rfl rfl (xf6 rfl) (xc6.1 rfl)) ?_;intro _ w' hS';simp only [List.set] at hS';clear hS;have hS:=hS';clear hS';refine ⟨hS.drop.drop,?_⟩;refine a0B (by kernel_rfl) ?_
  repeat' (first|(with_reducible apply d5 c9);rfl;rfl;rfl|(with_reducible apply d6);rfl;(first|apply Ld.sc c9;rfl;(first|exact hS.blkC 0 rfl rfl|exact hS.blkC 1 rfl rfl)|apply Ld.sl c9;rfl;(first|exact hS.blkC 0 rfl rfl|exact hS.blkC 1 rfl rfl));rfl|(with_reducible apply b5y c9);(iterate 4 rfl)|refine yDn (by with_reducible constructor) ?_|((with_reducible apply l8);(iterate 4 rfl);first|rfl|assumption)|(with_reducible apply i4);rfl;(first|rfl|assumption);rfl;rfl|(with_reducible apply i9);rfl;assumption|(with_reducible apply f9 hS);rfl;rfl;rfl;refine ⟨_,hsa _ (ha.now hS) (ha'.now hS),?_⟩;clear hS;intro w' hS)
  refine a19 hS 10 [2,3,7,8,9] rfl s.entries.length (fun _=>True) 0 rfl (xf9 _) trivial ?_;rintro j w3 hj - hS';clear hS;have hS:=hS';clear hS';by_cases hjl:j < s.entries.length
  ·obtain ⟨e,he⟩:=j4 (l:=s.entries) (i:=j) (by omega);have hrow2:=f8 (f:=enC) he;obtain ⟨b2,off2,rfl,hro2⟩:=hen.at_ (i:=j) hjl;obtain ⟨b3,off3,rfl,hro3⟩:=hen'.at_ (i:=j) hjl;have heq:=b7e e e;rw [xi8 rfl] at heq
   repeat' (first|(with_reducible apply d5 c9);rfl;rfl;rfl|(with_reducible apply d6);rfl;(apply Ld.sl c9;rfl;exact hS.blkC 1 rfl rfl);rfl|refine yDn (by with_reducible constructor) ?_|(with_reducible apply d8);rfl;all_goals (intro hb hp;try (exfalso;omega)))
   (focus ((with_reducible apply d9 _ _ _ (by kernel_rfl) (by kernel_rfl) hS);(repeat' (first|(first|(with_reducible apply g8 c9);rfl;rfl|(with_reducible apply i7);rfl;(intro wd hd;replace hd:St _ _ wd _:=hd;(first|apply Ld.sl c9;rfl;(first|exact hd.blkC 0 rfl rfl|exact hd.blkC 1 rfl rfl)|apply Ld.st c9;rfl;exact hd.roR (by assumption) (by assumption);rfl));rfl|(with_reducible apply a0f c9);rfl;rfl;rfl;rfl;omega;rfl)|(with_reducible apply a5I);rfl;rfl;exact heq;rfl));all_goals ((with_reducible apply k8);intro w' hS';clear hS;have hS:=hS';clear hS')))
   repeat' (first|(with_reducible apply d5 c9);rfl;rfl;rfl|(with_reducible apply j7);rfl;rfl;omega;omega;rfl|refine yDn (by with_reducible constructor) ?_|(with_reducible apply i9);rfl;rfl)
   exact a0N (j + 1) (by exact Fr.sub_of rfl) (by omega) trivial (by omega) hS
  ·repeat' (first|(with_reducible apply d5 c9);rfl;rfl;rfl|(with_reducible apply d6);rfl;(apply Ld.sl c9;rfl;exact hS.blkC 1 rfl rfl);rfl|(with_reducible apply j7);rfl;rfl;omega;omega;rfl|refine yDn (by with_reducible constructor) ?_|(with_reducible apply d8);rfl;all_goals (intro hb hp;try (exfalso;omega)))
   exact a0N (i + 1) (by exact Fr.sub_of rfl) (by omega) trivial (by omega) hS.drop.drop
 ·refine n7 rfl (t8 hS c9 rfl rfl) rfl ?_;rintro _ w' ⟨g,rfl,hS'⟩;clear hS;have hS:=hS';clear hS';refine ⟨hS.drop,?_⟩;refine s8 (i:=10) (by kernel_rfl) ?_;refine n7 rfl (t8 hS c9 rfl rfl) rfl ?_;rintro _ w' ⟨g,rfl,hS'⟩;clear hS;have hS:=hS';clear hS';refine ⟨hS.drop.drop,?_⟩;refine s8 (i:=12) (by kernel_rfl) ?_;refine a0e (Φ:=fun _ w'=>St _ _ w' _) rfl (s9 hS c9 (i:=0) rfl rfl rfl rfl rfl (xf6 rfl) (xc6.1 rfl)) ?_;intro _ w' hS';simp only [List.set] at hS';clear hS;have hS:=hS';clear hS';refine ⟨hS.drop.drop,?_⟩;refine s8 (i:=13) (by kernel_rfl) ?_;refine a0e (Φ:=fun _ w'=>St _ _ w' _) rfl (s9 hS c9 (i:=1) rfl rfl rfl rfl rfl (xf6 rfl) (xc6.1 rfl)) ?_;intro _ w' hS';simp only [List.set] at hS';clear hS;have hS:=hS';clear hS';refine ⟨hS.drop.drop,?_⟩;refine a0B (by kernel_rfl) ?_
  repeat' (first|(with_reducible apply d5 c9);rfl;rfl;rfl|(with_reducible apply d6);rfl;(first|apply Ld.sc c9;rfl;(first|exact hS.blkC 0 rfl rfl|exact hS.blkC 1 rfl rfl)|apply Ld.sl c9;rfl;(first|exact hS.blkC 0 rfl rfl|exact hS.blkC 1 rfl rfl));rfl|(with_reducible apply b5y c9);(iterate 4 rfl)|refine yDn (by with_reducible constructor) ?_|((with_reducible apply l8);(iterate 4 rfl);first|rfl|assumption)|(with_reducible apply i4);rfl;(first|rfl|assumption);rfl;rfl|(with_reducible apply i9);rfl;assumption|(with_reducible apply f9 hS);rfl;rfl;rfl;refine ⟨_,hsa _ (ha.now hS) (ha'.now hS),?_⟩;clear hS;intro w' hS)
  refine a19 hS 10 [2,3,7,8,9] rfl s.entries.length (fun _=>True) 0 rfl (xf9 _) trivial ?_;rintro j w3 hj - hS';clear hS;have hS:=hS';clear hS';by_cases hjl:j < s.entries.length
  ·obtain ⟨e,he⟩:=j4 (l:=s.entries) (i:=j) (by omega);have hrow2:=f8 (f:=enC) he;obtain ⟨b2,off2,rfl,hro2⟩:=hen.at_ (i:=j) hjl;obtain ⟨b3,off3,rfl,hro3⟩:=hen'.at_ (i:=j) hjl;have heq:=b7e e e;rw [xi8 rfl] at heq
   repeat' (first|(with_reducible apply d5 c9);rfl;rfl;rfl|(with_reducible apply d6);rfl;(apply Ld.sl c9;rfl;exact hS.blkC 0 rfl rfl);rfl|refine yDn (by with_reducible constructor) ?_|(with_reducible apply d8);rfl;all_goals (intro hb hp;try (exfalso;omega)))
   (focus ((with_reducible apply d9 _ _ _ (by kernel_rfl) (by kernel_rfl) hS);(repeat' (first|(first|(with_reducible apply g8 c9);rfl;rfl|(with_reducible apply i7);rfl;(intro wd hd;replace hd:St _ _ wd _:=hd;(first|apply Ld.sl c9;rfl;(first|exact hd.blkC 0 rfl rfl|exact hd.blkC 1 rfl rfl)|apply Ld.st c9;rfl;exact hd.roR (by assumption) (by assumption);rfl));rfl|(with_reducible apply a0f c9);rfl;rfl;rfl;rfl;omega;rfl)|(with_reducible apply a5I);rfl;rfl;exact heq;rfl));all_goals ((with_reducible apply k8);intro w' hS';clear hS;have hS:=hS';clear hS')))
   repeat' (first|(with_reducible apply d5 c9);rfl;rfl;rfl|(with_reducible apply j7);rfl;rfl;omega;omega;rfl|refine yDn (by with_reducible constructor) ?_|(with_reducible apply i9);rfl;rfl)
   exact a0N (j + 1) (by exact Fr.sub_of rfl) (by omega) trivial (by omega) hS
  ·repeat' (first|(with_reducible apply d5 c9);rfl;rfl;rfl|(with_reducible apply d6);rfl;(apply Ld.sl c9;rfl;exact hS.blkC 0 rfl rfl);rfl|(with_reducible apply j7);rfl;rfl;omega;omega;rfl|refine yDn (by with_reducible constructor) ?_|(with_reducible apply d8);rfl;all_goals (intro hb hp;try (exfalso;omega)))
   exact a0N (i + 1) (by exact Fr.sub_of rfl) (by omega) trivial (by omega) hS.drop.drop
theorem Came.keep {w w':World} {k:KV} (h:Came w w' k):∃ Δ,St nF w w' Δ/\∀ {F:Nat->Prop} {w0 w2:World} {Γ:List Asr},St F w0 w2 Γ->(∀ A ∈ Δ,A ∈ Γ)->KerV w2 k:=by
 rcases h with ⟨rfl,h⟩|h
 ·exact ⟨[],h,fun _ _=>b5I _⟩
 ·refine ⟨a8Q k,h,fun {F w0 w2 Γ} hS hm=>?_⟩;have hmem:∀ {e sz:Nat} {v:Value} {rows:List (List Value)},Asr.row e sz v rows ∈ a8Q k->Sl nF w2 sz v rows:=fun h=>hS.slMem (hm _ h);have hr:∀ {A},A ∈ a0d k->A ∈ a8Q k:=fun h=>xc5 _ (xc5 _ (xc5 _ (xe2 _ h)));refine ⟨⟨hmem (e:=142) (hr xc4),fun p hp=>?_⟩,hmem (e:=84) xc4,hmem (e:=88) (xc5 _ xc4),hmem (e:=78) (xc5 _ (xc5 _ xc4)),fun p hp=>⟨?_,?_⟩⟩
  ·exact hmem (e:=156) (hr (xc5 _ (xe1 _ (xh6.2 ⟨p,hp,rfl⟩))))
  ·exact hmem (e:=136) (hr (xc5 _ (xe2 _ (xh6.2 ⟨p,hp,rfl⟩))))
  ·exact hmem (e:=82) (xc5 _ (xc5 _ (xc5 _ (xe1 _ (xh6.2 ⟨p,hp,rfl⟩)))))
def rkS (g:Nat) (k:KV):List Asr:=.blk g (kvC k)::frA k::slA k::a20 k::k.sp.map x9
theorem b1x {F:Nat->Prop} {w0 w:World} {Γ:List Asr} {g:Nat} {k:KV} (hS0:St F w0 w (rkS g k++Γ)) {e:En} (he:a5w k e):Fn Tryz.prog 52 [.pointer (some ⟨g,0,none⟩),.agg (enC e).toArray] w (fun v w'=>v=.tuple #[]/\St (fps (rkS g k)) w w' (rkS g (a0x k e))):=by
 have hS:=St.startM hS0;obtain ⟨hn,hfr,hsl⟩:=he;generalize fps (rkS g k)=G at hS |-;obtain ⟨sh,fr,sl,sps,hand,vsh,vfr,vsl,vsp⟩:=k;dsimp only at hn hfr hsl;unfold rkS kvC frA slA a20 at hS;dsimp only [List.cons_append,List.nil_append] at hS;unfold enC;rcases hn with ⟨hk,i,hi,hil⟩|⟨hk,i,hi,hil⟩
 ·have hlv:a0x ⟨sh,fr,sl,sps,hand,vsh,vfr,vsl,vsp⟩ e=⟨sh,fr.set i (a2o (a16 fr i)),sl,sps,hand,vsh,vfr,vsl,vsp⟩:=by unfold a0x;rw [xe6 hk,hi];rfl
  rw [hlv];obtain ⟨f,hf⟩:=j4 (l:=fr) (i:=i) (by omega);have hrf:=hfr f (xc8 hf);rw [a38 hf];have hrow:=f8 (f:=fmC) hf;obtain ⟨pf,cf,rfl⟩:=hS.rowSlice 1 rfl;rw [xi3] at hS;obtain ⟨gf,rfl⟩:=hS.rowSome 1 rfl (by omega);have hd:decide (e.kind=1)=true:=xi8 hk;obtain ⟨epg,ekd,eat⟩:=e;dsimp only at hd hi hk hlv |-;subst hi;unfold fmC at hrow;unfold a2o;have e1:(fr.map fmC).set i (p9 [.string ⟨f.data.toArray⟩,.int .i64 f.refs,.bool f.dirty,.bool f.seen] 1 [.int .i64 (f.refs - 1)])=(fr.set i ⟨f.data,f.refs - 1,f.dirty,f.seen⟩).map fmC:=by rw [xk6];rfl
  have hrow1:((fr.set i ⟨f.data,f.refs - 1,f.dirty,f.seen⟩).map fmC)[i]?=some [.string ⟨f.data.toArray⟩,.int .i64 (f.refs - 1),.bool f.dirty,.bool f.seen]:=f8 (f:=fmC) (a5z (x:=(⟨f.data,f.refs - 1,f.dirty,f.seen⟩:Fm)) hil);by_cases h0:f.refs - 1=0
  ·have hd0:decide (f.refs - 1=0)=true:=xi8 h0;rw [xe6 h0];have e2:((fr.set i ⟨f.data,f.refs - 1,f.dirty,f.seen⟩).map fmC).set i (p9 [.string ⟨f.data.toArray⟩,.int .i64 (f.refs - 1),.bool f.dirty,.bool f.seen] 0 [.string ⟨#[]⟩,.int .i64 0,.bool false,.bool false])=(fr.set i fm0).map fmC:=by
    rw [xk6,xk6,xm0];rfl
   refine yEn Tryz.func52 Tryz.ntmps52 (by kernel_rfl) (by kernel_rfl) rfl rfl ?_
   repeat' (first|(with_reducible apply d5 c9);rfl;rfl;rfl|(with_reducible apply d6);rfl;(apply Ld.sc c9;rfl;exact hS.blkC 0 rfl rfl);rfl|refine yDn (by with_reducible constructor) ?_|(with_reducible apply i6);rfl;assumption|(with_reducible apply j6 hS);rfl;rfl;rfl;clear hS;intro g w' hS)
   (focus ((with_reducible apply a2K _ _ _ 12 (by kernel_rfl) (by kernel_rfl) hS);(simp only [xl5,xl6,xl1,xl2]);(repeat' ((first|(with_reducible apply a1M);rfl;rfl;omega;omega;rfl|(with_reducible apply g8 c9);rfl;rfl|(with_reducible apply i7);rfl;(intro wd hd;replace hd:St _ _ wd _:=hd;(first|apply Ld.sc c9;rfl;(first|exact hd.blkC 0 rfl rfl|exact hd.rowCj 2 rfl (by assumption) rfl)|apply Ld.sl c9;rfl;exact hd.blkC 1 rfl rfl));rfl|(with_reducible apply a0f c9);rfl;rfl;rfl;rfl;omega;rfl)));all_goals ((with_reducible apply k8);intro w' hS';clear hS;have hS:=hS';clear hS')))
   repeat' (first|refine yDn (by with_reducible constructor) ?_|(with_reducible apply t3 hS c9 (i:=2));(iterate 4 rfl);assumption;(iterate 5 rfl);intro w' hS';simp only [List.set] at hS';clear hS;have hS:=hS';clear hS')
   rw [e1] at hS
   (focus ((with_reducible apply d9 _ _ _ (by kernel_rfl) (by kernel_rfl) hS);(repeat' ((first|(with_reducible apply g8 c9);rfl;rfl|(with_reducible apply i7);rfl;(intro wd hd;replace hd:St _ _ wd _:=hd;(first|apply Ld.sc c9;rfl;(first|exact hd.blkC 0 rfl rfl|exact hd.rowCj 2 rfl (by assumption) rfl)|apply Ld.sl c9;rfl;exact hd.blkC 1 rfl rfl));rfl|(with_reducible apply a0f c9);rfl;rfl;rfl;rfl;omega;rfl)));all_goals ((with_reducible apply k8);intro w' hS';clear hS;have hS:=hS';clear hS')))
   repeat' (first|refine yDn (by with_reducible constructor) ?_|(with_reducible apply i6);rfl;assumption)
   (focus ((with_reducible apply a2K _ _ _ 8 (by kernel_rfl) (by kernel_rfl) hS);(simp only [xl5,xl6,xl1,xl2]);(repeat' ((first|(with_reducible apply g8 c9);rfl;rfl|(with_reducible apply i7);rfl;(intro wd hd;replace hd:St _ _ wd _:=hd;(first|apply Ld.sc c9;rfl;exact hd.blkC 0 rfl rfl|apply Ld.sl c9;rfl;exact hd.blkC 1 rfl rfl));rfl|(with_reducible apply a0f c9);rfl;rfl;rfl;rfl;omega;rfl|(with_reducible apply a5g c9);rfl;rfl;exact (rfl:_=some [_,_,_,_]);rfl)));all_goals ((with_reducible apply k8);intro w' hS';clear hS;have hS:=hS';clear hS')))
   repeat' (first|refine yDn (by with_reducible constructor) ?_|(with_reducible apply a2t hS c9 (i:=2));(iterate 4 rfl);assumption;(iterate 5 rfl);intro w' hS';simp only [List.set] at hS';clear hS;have hS:=hS';clear hS')
   rw [e2] at hS
   (refine b4l rfl ?_)
   exact ⟨rfl,by rw [xi3];exact hS.drop⟩
  ·have hd0:decide (f.refs - 1=0)=false:=xi7 h0;rw [xe7 h0];refine yEn Tryz.func52 Tryz.ntmps52 (by kernel_rfl) (by kernel_rfl) rfl rfl ?_
   repeat' (first|(with_reducible apply d5 c9);rfl;rfl;rfl|(with_reducible apply d6);rfl;(apply Ld.sc c9;rfl;exact hS.blkC 0 rfl rfl);rfl|refine yDn (by with_reducible constructor) ?_|(with_reducible apply i6);rfl;assumption|(with_reducible apply j6 hS);rfl;rfl;rfl;clear hS;intro g w' hS)
   (focus ((with_reducible apply a2K _ _ _ 12 (by kernel_rfl) (by kernel_rfl) hS);(simp only [xl5,xl6,xl1,xl2]);(repeat' ((first|(with_reducible apply a1M);rfl;rfl;omega;omega;rfl|(with_reducible apply g8 c9);rfl;rfl|(with_reducible apply i7);rfl;(intro wd hd;replace hd:St _ _ wd _:=hd;(first|apply Ld.sc c9;rfl;(first|exact hd.blkC 0 rfl rfl|exact hd.rowCj 2 rfl (by assumption) rfl)|apply Ld.sl c9;rfl;exact hd.blkC 1 rfl rfl));rfl|(with_reducible apply a0f c9);rfl;rfl;rfl;rfl;omega;rfl)));all_goals ((with_reducible apply k8);intro w' hS';clear hS;have hS:=hS';clear hS')))
   repeat' (first|refine yDn (by with_reducible constructor) ?_|(with_reducible apply t3 hS c9 (i:=2));(iterate 4 rfl);assumption;(iterate 5 rfl);intro w' hS';simp only [List.set] at hS';clear hS;have hS:=hS';clear hS')
   rw [e1] at hS
   (focus ((with_reducible apply d9 _ _ _ (by kernel_rfl) (by kernel_rfl) hS);(repeat' ((first|(with_reducible apply g8 c9);rfl;rfl|(with_reducible apply i7);rfl;(intro wd hd;replace hd:St _ _ wd _:=hd;(first|apply Ld.sc c9;rfl;(first|exact hd.blkC 0 rfl rfl|exact hd.rowCj 2 rfl (by assumption) rfl)|apply Ld.sl c9;rfl;exact hd.blkC 1 rfl rfl));rfl|(with_reducible apply a0f c9);rfl;rfl;rfl;rfl;omega;rfl)));all_goals ((with_reducible apply k8);intro w' hS';clear hS;have hS:=hS';clear hS')))
   repeat' (first|refine yDn (by with_reducible constructor) ?_|(with_reducible apply i9);rfl;assumption)
   (refine b4l rfl ?_)
   exact ⟨rfl,by rw [xi3];exact hS.drop⟩
 ·have hlv:a0x ⟨sh,fr,sl,sps,hand,vsh,vfr,vsl,vsp⟩ e=⟨sh,fr,sl.set i (a2w (a2J sl i)),sps,hand,vsh,vfr,vsl,vsp⟩:=by unfold a0x;rw [xe7 hk,hi];rfl
  rw [hlv];obtain ⟨f,hf⟩:=j4 (l:=sl) (i:=i) (by omega);have hrf:=hsl f (xc8 hf);rw [a37 hf];have hrow:=f8 (f:=swC) hf;obtain ⟨pf,cf,rfl⟩:=hS.rowSlice 2 rfl;rw [xi3] at hS;obtain ⟨gf,rfl⟩:=hS.rowSome 2 rfl (by omega);have hd:decide (e.kind=1)=false:=xi7 hk;obtain ⟨epg,ekd,eat⟩:=e;dsimp only at hd hi hk hlv |-;subst hi;unfold swC at hrow;unfold a2w;have e1:(sl.map swC).set i (p9 [.string ⟨f.data.toArray⟩,.int .i64 f.refs] 1 [.int .i64 (f.refs - 1)])=(sl.set i ⟨f.data,f.refs - 1⟩).map swC:=by rw [xk6];rfl
  have hrow1:((sl.set i ⟨f.data,f.refs - 1⟩).map swC)[i]?=some [.string ⟨f.data.toArray⟩,.int .i64 (f.refs - 1)]:=f8 (f:=swC) (a5z (x:=(⟨f.data,f.refs - 1⟩:Sw)) hil);by_cases h0:f.refs - 1=0
  ·have hd0:decide (f.refs - 1=0)=true:=xi8 h0;rw [xe6 h0];have e2:((sl.set i ⟨f.data,f.refs - 1⟩).map swC).set i (p9 [.string ⟨f.data.toArray⟩,.int .i64 (f.refs - 1)] 0 [.string ⟨#[]⟩,.int .i64 0])=(sl.set i sw0).map swC:=by
    rw [xk6,xk6,xm0];rfl
   refine yEn Tryz.func52 Tryz.ntmps52 (by kernel_rfl) (by kernel_rfl) rfl rfl ?_
   repeat' (first|(with_reducible apply d5 c9);rfl;rfl;rfl|(with_reducible apply d6);rfl;(apply Ld.sc c9;rfl;exact hS.blkC 0 rfl rfl);rfl|refine yDn (by with_reducible constructor) ?_|(with_reducible apply i9);rfl;assumption|(with_reducible apply j6 hS);rfl;rfl;rfl;clear hS;intro g w' hS)
   (focus ((with_reducible apply a2K _ _ _ 12 (by kernel_rfl) (by kernel_rfl) hS);(simp only [xl5,xl6,xl1,xl2]);(repeat' ((first|(with_reducible apply a1M);rfl;rfl;omega;omega;rfl|(with_reducible apply g8 c9);rfl;rfl|(with_reducible apply i7);rfl;(intro wd hd;replace hd:St _ _ wd _:=hd;(first|apply Ld.sc c9;rfl;(first|exact hd.blkC 0 rfl rfl|exact hd.rowCj 3 rfl (by assumption) rfl)|apply Ld.sl c9;rfl;exact hd.blkC 1 rfl rfl));rfl|(with_reducible apply a0f c9);rfl;rfl;rfl;rfl;omega;rfl)));all_goals ((with_reducible apply k8);intro w' hS';clear hS;have hS:=hS';clear hS')))
   repeat' (first|refine yDn (by with_reducible constructor) ?_|(with_reducible apply t3 hS c9 (i:=3));(iterate 4 rfl);assumption;(iterate 5 rfl);intro w' hS';simp only [List.set] at hS';clear hS;have hS:=hS';clear hS')
   rw [e1] at hS
   (focus ((with_reducible apply d9 _ _ _ (by kernel_rfl) (by kernel_rfl) hS);(repeat' ((first|(with_reducible apply g8 c9);rfl;rfl|(with_reducible apply i7);rfl;(intro wd hd;replace hd:St _ _ wd _:=hd;(first|apply Ld.sc c9;rfl;(first|exact hd.blkC 0 rfl rfl|exact hd.rowCj 3 rfl (by assumption) rfl)|apply Ld.sl c9;rfl;exact hd.blkC 1 rfl rfl));rfl|(with_reducible apply a0f c9);rfl;rfl;rfl;rfl;omega;rfl)));all_goals ((with_reducible apply k8);intro w' hS';clear hS;have hS:=hS';clear hS')))
   repeat' (first|refine yDn (by with_reducible constructor) ?_|(with_reducible apply i6);rfl;assumption)
   (focus ((with_reducible apply a2K _ _ _ 8 (by kernel_rfl) (by kernel_rfl) hS);(simp only [xl5,xl6,xl1,xl2]);(repeat' ((first|(with_reducible apply g8 c9);rfl;rfl|(with_reducible apply i7);rfl;(intro wd hd;replace hd:St _ _ wd _:=hd;(first|apply Ld.sc c9;rfl;exact hd.blkC 0 rfl rfl|apply Ld.sl c9;rfl;exact hd.blkC 1 rfl rfl));rfl|(with_reducible apply a0f c9);rfl;rfl;rfl;rfl;omega;rfl|(with_reducible apply a5g c9);rfl;rfl;exact (rfl:_=some [_,_]);rfl)));all_goals ((with_reducible apply k8);intro w' hS';clear hS;have hS:=hS';clear hS')))
   repeat' (first|refine yDn (by with_reducible constructor) ?_|(with_reducible apply a2t hS c9 (i:=3));(iterate 4 rfl);assumption;(iterate 5 rfl);intro w' hS';simp only [List.set] at hS';clear hS;have hS:=hS';clear hS')
   rw [e2] at hS
   (refine b3T rfl ?_)
   exact ⟨rfl,by rw [xi3];exact hS.drop⟩
  ·have hd0:decide (f.refs - 1=0)=false:=xi7 h0;rw [xe7 h0];refine yEn Tryz.func52 Tryz.ntmps52 (by kernel_rfl) (by kernel_rfl) rfl rfl ?_
   repeat' (first|(with_reducible apply d5 c9);rfl;rfl;rfl|(with_reducible apply d6);rfl;(apply Ld.sc c9;rfl;exact hS.blkC 0 rfl rfl);rfl|refine yDn (by with_reducible constructor) ?_|(with_reducible apply i9);rfl;assumption|(with_reducible apply j6 hS);rfl;rfl;rfl;clear hS;intro g w' hS)
   (focus ((with_reducible apply a2K _ _ _ 12 (by kernel_rfl) (by kernel_rfl) hS);(simp only [xl5,xl6,xl1,xl2]);(repeat' ((first|(with_reducible apply a1M);rfl;rfl;omega;omega;rfl|(with_reducible apply g8 c9);rfl;rfl|(with_reducible apply i7);rfl;(intro wd hd;replace hd:St _ _ wd _:=hd;(first|apply Ld.sc c9;rfl;(first|exact hd.blkC 0 rfl rfl|exact hd.rowCj 3 rfl (by assumption) rfl)|apply Ld.sl c9;rfl;exact hd.blkC 1 rfl rfl));rfl|(with_reducible apply a0f c9);rfl;rfl;rfl;rfl;omega;rfl)));all_goals ((with_reducible apply k8);intro w' hS';clear hS;have hS:=hS';clear hS')))
   repeat' (first|refine yDn (by with_reducible constructor) ?_|(with_reducible apply t3 hS c9 (i:=3));(iterate 4 rfl);assumption;(iterate 5 rfl);intro w' hS';simp only [List.set] at hS';clear hS;have hS:=hS';clear hS')
   rw [e1] at hS
   (focus ((with_reducible apply d9 _ _ _ (by kernel_rfl) (by kernel_rfl) hS);(repeat' ((first|(with_reducible apply g8 c9);rfl;rfl|(with_reducible apply i7);rfl;(intro wd hd;replace hd:St _ _ wd _:=hd;(first|apply Ld.sc c9;rfl;(first|exact hd.blkC 0 rfl rfl|exact hd.rowCj 3 rfl (by assumption) rfl)|apply Ld.sl c9;rfl;exact hd.blkC 1 rfl rfl));rfl|(with_reducible apply a0f c9);rfl;rfl;rfl;rfl;omega;rfl)));all_goals ((with_reducible apply k8);intro w' hS';clear hS;have hS:=hS';clear hS')))
   repeat' (first|refine yDn (by with_reducible constructor) ?_|(with_reducible apply i9);rfl;assumption)
   (refine b3T rfl ?_)
   exact ⟨rfl,by rw [xi3];exact hS.drop⟩
theorem a98:∀ {l:List Sc},(∀ s ∈ l,0<=k7 s.areas)->0<=o8 l
 |[],_=>xl9 0
 |s::l,h=>by
  have h1:=h s xc4;have h2:=a98 (l:=l) fun x hx=>h x (xc5 _ hx);have e:o8 (s::l)=k7 s.areas + o8 l:=by unfold o8;simp
  omega
structure IncSame (k k':KV):Prop where
 sh:k'.sh=k.sh
 sp:k'.sp=k.sp
 hand:k'.hand=k.hand
 vsh:k'.vsh=k.vsh
 vfr:k'.vfr=k.vfr
 vsl:k'.vsl=k.vsl
 vsp:k'.vsp=k.vsp
 nfr:k'.fr.length=k.fr.length
 nsl:k'.sl.length=k.sl.length
theorem IncSame.trans {a b c:KV} (h:IncSame a b) (h2:IncSame b c):IncSame a c:=⟨h2.sh.trans h.sh,h2.sp.trans h.sp,h2.hand.trans h.hand,h2.vsh.trans h.vsh,h2.vfr.trans h.vfr,h2.vsl.trans h.vsl,h2.vsp.trans h.vsp,h2.nfr.trans h.nfr,h2.nsl.trans h.nsl⟩
def RefsB (k:KV) (b:Int):Prop:=(∀ f ∈ k.fr,0<=f.refs/\f.refs<=b)/\∀ f ∈ k.sl,0<=f.refs/\f.refs<=b
theorem RefsB.mono {k:KV} {b c:Int} (h:RefsB k b) (hbc:b<=c):RefsB k c:=⟨fun f hf=>by have:=h.1 f hf;omega,fun f hf=>by have:=h.2 f hf;omega⟩
theorem Came.own {w w':World} {k:KV} (h:Came w w' k) {n:Nat} (hn:k.K.frames.length=n + 1):St nF w w' (a8Q k):=by
 rcases h with ⟨rfl,-⟩|h
 ·cases hn
 ·exact h
structure b70 (K K':Ker) (sp:Nat) (page:Int):Prop where
 right:Right K'
 sheets:K'.sheets=K.sheets
 nfr:K'.frames.length=K.frames.length
 nsl:K'.slots.length=K.slots.length
 nsp:K'.spaces.length=K.spaces.length
 ar:∀ i,m6 K' i=m6 K i
 live:∀ i,(a0I K' i).live=(a0I K i).live
 peek:∀ i p,¬(i=sp/\p=page)->a24 K' i p=a24 K i p
theorem a9f {A B:List En} {e:En} (h:Rises (a13 (A++e::B))):Rises (a13 (A++B))/\∀ x ∈ A++B,x.page≠e.page:=by
 unfold a13 at h |-;rw [xj3,xb9] at h;rw [xj3];unfold Rises at h |-;rw [xe0,List.pairwise_cons] at h;obtain ⟨h1,⟨h2,h3⟩,h4⟩:=h;refine ⟨xe0.2 ⟨h1,h3,fun a ha b hb=>h4 a ha b (xc5 _ hb)⟩,fun x hx=>?_⟩;rcases xd9.1 hx with hx|hx
 ·have:=h4 x.page (xh6.2 ⟨x,hx,rfl⟩) e.page xc4;omega
 ·have:=h2 x.page (xh6.2 ⟨x,hx,rfl⟩);omega
theorem a9C {A B:List En} {e:En} {p:Int} (hp:p≠e.page):a3g (A++B) p=a3g (A++e::B) p:=by
 unfold a3g;rw [List.find?_append,List.find?_append,List.find?_cons,xi7 (fun h=>hp h.symm)]
theorem b45 {K:Ker} {e:En} {b:Nat} (hb:e.at_=(b:Nat)) (hl:e.kind=1->b < K.frames.length) (i:Nat):a16 (a0m K e).frames i=if e.kind=1/\b=i then a2o (a16 K.frames i) else a16 K.frames i:=by
 unfold a0m;by_cases hk:e.kind=1
 ·rw [xe6 hk];show a16 (K.frames.set e.at_.toNat (a2o (a16 K.frames e.at_.toNat))) i=_;rw [hb,xh3,b3B];by_cases e2:b=i
  ·subst e2;rw [xe6 ⟨rfl,hl hk⟩,xe6 ⟨hk,rfl⟩]
  ·rw [xe7 (fun h=>e2 h.1),xe7 (fun h=>e2 h.2)]
 ·rw [xe7 hk,xe7 (fun h=>hk h.1)]
theorem b4Z {K:Ker} {e:En} {b:Nat} (hb:e.at_=(b:Nat)) (hl:e.kind≠1->b < K.slots.length) (i:Nat):a2J (a0m K e).slots i=if e.kind≠1/\b=i then a2w (a2J K.slots i) else a2J K.slots i:=by
 unfold a0m;by_cases hk:e.kind=1
 ·rw [xe6 hk,xe7 (fun h=>h.1 hk)]
 ·rw [xe7 hk];show a2J (K.slots.set e.at_.toNat (a2w (a2J K.slots e.at_.toNat))) i=_;rw [hb,xh3,b3d];by_cases e2:b=i
  ·subst e2;rw [xe6 ⟨rfl,hl hk⟩,xe6 ⟨hk,rfl⟩]
  ·rw [xe7 (fun h=>e2 h.1),xe7 (fun h=>e2 h.2)]
theorem b2V (K:Ker) (e:En):(a0m K e).frames.length=K.frames.length/\(a0m K e).slots.length=K.slots.length/\(a0m K e).sheets=K.sheets/\(a0m K e).spaces=K.spaces/\(a0m K e).hand=K.hand:=by
 unfold a0m
 split
 ·exact ⟨xa7,rfl,rfl,rfl,rfl⟩
 ·exact ⟨rfl,xa7,rfl,rfl,rfl⟩
def rmK (K:Ker) (sp:Nat) (s':Sc) (e:En):Ker:=⟨K.sheets,(a0m K e).frames,(a0m K e).slots,K.spaces.set sp s',K.hand⟩
theorem b62 {K:Ker} {sp:Nat} {s:Sc} {A B:List En} {e:En} (h:Right K) (hs:K.spaces[sp]?=some s) (hE:s.entries=A++e::B):b70 K (rmK K sp ⟨s.live,s.areas,A++B⟩ e) sp e.page:=by
 have hsc:=a2x.1 (h.spaces s (xc8 hs));have hse:=z7 hs;obtain ⟨s',hs'⟩:∃ s':Sc,s'=⟨s.live,s.areas,A++B⟩:=⟨_,rfl⟩;rw [<- hs'];have hrs:=hsc.rises;rw [hE] at hrs;obtain ⟨hr1,hr2⟩:=a9f hrs;have heM:e ∈ s.entries:=by rw [hE];exact xe2 _ xc4
 have hin:=(h.ent hs heM).2;obtain ⟨b,hb,hb1,hb2,hk12⟩:∃ b:Nat,e.at_=(b:Nat)/\(e.kind=1->b < K.frames.length)/\(e.kind≠1->b < K.slots.length)/\(e.kind=1\/e.kind=2):=by
  rcases hin with ⟨k,b,hb,hl⟩|⟨k,b,hb,hl⟩
  ·exact ⟨b,hb,fun _=>hl,fun h=>absurd k h,xd4 k⟩
  ·exact ⟨b,hb,fun h=>by omega,fun _=>hl,xd1 k⟩
 obtain ⟨M,hMd⟩:∃ M:Int->Int->List Nm,M=fun k a=>nmL s k a (A++B)++j8 (K.spaces.eraseIdx sp) k a:=⟨_,rfl⟩;have hM:∀ k a,(j8 K.spaces k a).Perm (nmL s k a [e]++M k a):=fun k a=>by
  refine (a50 (s':=s') hs k a).2.trans ?_;rw [hMd];dsimp only;rw [<- xf4,<- b5j];refine List.Perm.append_right _ (b3L ?_);rw [hE];exact xm1
 have hM':∀ k a,(j8 (K.spaces.set sp s') k a).Perm (M k a):=fun k a=>by
  refine (a50 (s':=s') hs k a).1.trans ?_;rw [hMd];have:nm1 s' k a=nmL s k a (A++B):=by rw [hs'];rfl
  rw [this]
 have hscs:∀ i,a0I (rmK K sp s' e) i=if i=sp then s' else a0I K i:=fun i=>by
  unfold a0I rmK;show ((K.spaces.set sp s')[i]?).getD sc0=_;rw [xd7];by_cases e:sp=i
  ·subst e;rw [xe6 rfl,xe6 (f7 hs),xe6 rfl];rfl
  ·rw [xe7 e,xe7 (fun hh=>e hh.symm)]
 have har:∀ i,m6 (rmK K sp s' e) i=m6 K i:=fun i=>by
  unfold m6;rw [hscs];by_cases e:i=sp
  ·subst e;rw [xe6 rfl,hse,hs']
  ·rw [xe7 e]
 have hlv:∀ i,(a0I (rmK K sp s' e) i).live=(a0I K i).live:=fun i=>by
  rw [hscs];by_cases e:i=sp
  ·subst e;rw [xe6 rfl,hse,hs']
  ·rw [xe7 e]
 have hen:∀ i p,¬(i=sp/\p=e.page)->a3g (w9 (rmK K sp s' e) i) p=a3g (w9 K i) p:=fun i p hno=>by
  unfold w9;rw [hscs];by_cases e2:i=sp
  ·subst e2;rw [xe6 rfl,hse,hs',hE];exact a9C (fun h=>hno ⟨rfl,h⟩)
  ·rw [xe7 e2]
 have hfr:∀ i,a16 (rmK K sp s' e).frames i=if e.kind=1/\b=i then a2o (a16 K.frames i) else a16 K.frames i:=b45 hb hb1;have hsl:∀ i,a2J (rmK K sp s' e).slots i=if e.kind≠1/\b=i then a2w (a2J K.slots i) else a2J K.slots i:=b4Z hb hb2;obtain ⟨hlf,hls,-,-,-⟩:=b2V K e;have hN1:∀ i:Nat,e.kind=1/\b=i->(j8 K.spaces 1 (i:Nat)).Perm (a1i s e::M 1 (i:Nat)):=fun i ⟨h1,h2⟩=>by
  refine (hM 1 (i:Nat)).trans ?_;rw [b0f [] ⟨h1,by rw [hb,h2]⟩];exact List.Perm.refl _
 have hN2:∀ i:Nat,e.kind≠1/\b=i->(j8 K.spaces 2 (i:Nat)).Perm (a1i s e::M 2 (i:Nat)):=fun i ⟨h1,h2⟩=>by
  refine (hM 2 (i:Nat)).trans ?_;rw [b0f [] ⟨by omega,by rw [hb,h2]⟩];exact List.Perm.refl _
 have hNo:∀ (k:Int) (i:Nat),¬(e.kind=k/\b=i)->(j8 K.spaces k (i:Nat)).Perm (M k (i:Nat)):=fun k i hno=>by
  refine (hM k (i:Nat)).trans ?_;rw [b2H [] (fun hh=>hno ⟨hh.1,by have:=hh.2;rw [hb] at this;omega⟩)];exact List.Perm.refl _
 have hdata:∀ (x:En),(x.kind=1\/x.kind=2)->(∃ c:Nat,x.at_=(c:Nat)/\(x.kind=1->c < K.frames.length)/\(x.kind=2->c < K.slots.length))->M x.kind x.at_≠[]->a60 (rmK K sp s' e) x=a60 K x:=by
  rintro x hk ⟨c,hc,hc1,hc2⟩ hne;unfold a60;rcases hk with hk|hk
  ·rw [xe6 hk,xe6 hk,hc,xh3,hfr];rw [hk,hc] at hne;by_cases hw:e.kind=1/\b=c
   ·rw [xe6 hw];have hbo:=(h.fr c _ (xd8 (hc1 hk))).perm (hN1 c hw);rw [a38 (xd8 (hc1 hk))]
    cases hMb:M 1 (c:Nat) with
    |nil=>exact absurd hMb hne
    |cons m N=>
     rw [hMb] at hbo;exact b26 hbo
   ·rw [xe7 hw]
  ·rw [xe7 (by omega),xe7 (by omega),hc,xh3,hsl];rw [hk,hc] at hne;by_cases hw:e.kind≠1/\b=c
   ·rw [xe6 hw];have hbo:=(h.sl c _ (xd8 (hc2 hk))).perm (hN2 c hw);rw [a37 (xd8 (hc2 hk))]
    cases hMb:M 2 (c:Nat) with
    |nil=>exact absurd hMb hne
    |cons m N=>
     rw [hMb] at hbo;exact b0T hbo
   ·rw [xe7 hw]
 have hcnt:=h.cnt;have hhand:=h.hand;refine ⟨⟨?_,h.rise,?_,fun x hx=>?_,?_,fun i g hg=>?_,fun i g hg=>?_⟩,rfl,hlf,hls,xa7,har,hlv,fun i p hno=>?_⟩
 ·show 3<=(a0m K e).frames.length/\(a0m K e).frames.length<=64/\(a0m K e).slots.length<=512/\1<=(K.spaces.set sp s').length/\(K.spaces.set sp s').length<=4/\K.sheets.length<=255;rw [hlf,hls,xa7];exact hcnt
 ·show 0<=K.hand/\K.hand < ((a0m K e).frames.length:Int);rw [hlf];exact hhand
 ·show r6 K.sheets (a0m K e).frames.length (a0m K e).slots.length x=true;rw [hlf,hls];have hx:x ∈ K.spaces.set sp s':=hx;rcases xm3 hx with hx|rfl
  ·exact h.spaces x hx
  ·rw [a2x,hs'];refine ⟨fun hl=>?_,hsc.ar,hsc.pages,fun x hx=>?_,hr1⟩
   ·have:=(hsc.dead hl).2;rw [hE] at this;simp at this
   ·refine hsc.ents x ?_;rw [hE];rcases xd9.1 hx with hx|hx
    ·exact xe1 _ hx
    ·exact xe2 _ (xc5 _ hx)
 ·show o8 (K.spaces.set sp s')<=((a0m K e).slots.length:Int);rw [hls];have:o8 (K.spaces.set sp s')=o8 K.spaces:=by
   unfold o8;rw [xk6,hs']
   congr 1
   refine xg6 fun j=>?_;rw [xd7];by_cases e:sp=j
   ·subst e;rw [xe6 rfl,xi3,xe6 (f7 hs),xh0,hs];rfl
   ·rw [xe7 e]
  rw [this];exact h.room
 ·have hg:(a0m K e).frames[i]?=some g:=hg;have hil:i < K.frames.length:=by have:=f7 hg;omega
  have hgi:=xd8 hil;have hge:=hfr i;rw [show a16 (rmK K sp s' e).frames i=g from a38 hg,a38 hgi] at hge;show FmOk K.sheets g (j8 (K.spaces.set sp s') 1 (i:Nat));by_cases hw:e.kind=1/\b=i
  ·rw [xe6 hw] at hge;rw [hge];exact ((h.fr i _ hgi).perm (hN1 i hw)).dec.perm (hM' 1 i).symm
  ·rw [xe7 hw] at hge;rw [hge];exact (h.fr i _ hgi).perm ((hNo 1 i hw).trans (hM' 1 i).symm)
 ·have hg:(a0m K e).slots[i]?=some g:=hg;have hil:i < K.slots.length:=by have:=f7 hg;omega
  have hgi:=xd8 hil;have hge:=hsl i;rw [show a2J (rmK K sp s' e).slots i=g from a37 hg,a37 hgi] at hge;show SwOk g (j8 (K.spaces.set sp s') 2 (i:Nat));by_cases hw:e.kind≠1/\b=i
  ·rw [xe6 hw] at hge;rw [hge];exact ((h.sl i _ hgi).perm (hN2 i hw)).dec.perm (hM' 2 i).symm
  ·rw [xe7 hw] at hge;rw [hge];exact (h.sl i _ hgi).perm ((hNo 2 i (fun hh=>hw ⟨by omega,hh.2⟩)).trans (hM' 2 i).symm)
 ·unfold a24;rw [hen i p hno]
  cases hx:a3g (w9 K i) p with
  |none=>exact a8r (hs:=by rfl) (ha:=har i) p
  |some x=>
   show a60 _ x=a60 K x;obtain ⟨hx1,hx2⟩:=b1B hx
   cases hi:K.spaces[i]? with
   |none=>unfold w9 at hx1;rw [a6R hi] at hx1;cases hx1
   |some t=>
    unfold w9 at hx1;rw [z7 hi] at hx1;have hin:=(h.ent hi hx1).2;have hk:x.kind=1\/x.kind=2:=by rcases hin with ⟨a,-⟩|⟨a,-⟩ <;> omega
    refine hdata x hk ?_ ?_
    ·rcases hin with ⟨a,b,c,d⟩|⟨a,b,c,d⟩
     ·exact ⟨b,c,fun _=>d,fun hh=>by omega⟩
     ·exact ⟨b,c,fun hh=>by omega,fun _=>d⟩
    ·rw [hMd];intro hnil;obtain ⟨h1,h2⟩:=xm4.1 hnil;by_cases e2:i=sp
     ·subst e2;rw [hs] at hi
      cases hi
      have hxR:x ∈ A++B:=by
       rw [hE] at hx1;rcases xd9.1 hx1 with h4|h4
       ·exact xe1 _ h4
       ·rcases xc3.1 h4 with rfl|h4
        ·exact absurd ⟨rfl,hx2.symm⟩ hno
        ·exact xe2 _ h4
      have:a1i s x ∈ nmL s x.kind x.at_ (A++B):=xh6.2 ⟨x,xh8.2 ⟨hxR,by simp⟩,rfl⟩;rw [h1] at this
      cases this
     ·have hte:t ∈ K.spaces.eraseIdx sp:=List.mem_eraseIdx_iff_getElem?.2 ⟨i,e2,hi⟩;have:a1i t x ∈ j8 (K.spaces.eraseIdx sp) x.kind x.at_:=by
       rw [a8Y,xh5];exact ⟨t,hte,xh6.2 ⟨x,xh8.2 ⟨hx1,by simp⟩,rfl⟩⟩
      rw [h2] at this
      cases this
def b6R (fr:List Fm) (sl:List Sw):Prop:=(∀ f ∈ fr,0<=f.refs/\f.refs<=100000)/\∀ f ∈ sl,0<=f.refs/\f.refs<=100000
structure b7H (K K':Ker) (sp:Nat) (P:Int->Prop):Prop where
 right:Right K'
 sheets:K'.sheets=K.sheets
 nfr:K'.frames.length=K.frames.length
 nsl:K'.slots.length=K.slots.length
 nsp:K'.spaces.length=K.spaces.length
 ar:∀ i,m6 K' i=m6 K i
 live:∀ i,(a0I K' i).live=(a0I K i).live
 peek:∀ i p,¬(i=sp/\P p)->a24 K' i p=a24 K i p
theorem b1j {K1 K2:Ker} (h1:K1.frames=K2.frames) (h2:K1.slots=K2.slots) (e:En):(a0m K1 e).frames=(a0m K2 e).frames/\(a0m K1 e).slots=(a0m K2 e).slots:=by
 unfold a0m
 split
 ·exact ⟨by dsimp only;rw [h1],h2⟩
 ·exact ⟨h1,by dsimp only;rw [h2]⟩
theorem a62:∀ (l:List En) {K1 K2:Ker},K1.frames=K2.frames->K1.slots=K2.slots->(l.foldl a0m K1).frames=(l.foldl a0m K2).frames/\(l.foldl a0m K1).slots=(l.foldl a0m K2).slots
 |[],_,_,h1,h2=>⟨h1,h2⟩
 |e::l,_,_,h1,h2=>by
  obtain ⟨a,b⟩:=b1j h1 h2 e;exact a62 l a b
def fgK (K:Ker) (sp:Nat) (s:Sc) (p:En->Bool) (D R:List En):Ker:=⟨K.sheets,((R.filter p).foldl a0m K).frames,((R.filter p).foldl a0m K).slots,K.spaces.set sp ⟨s.live,s.areas,D++R.filter fun e=>!p e⟩,K.hand⟩
theorem b3D {α:Type} {l:List α} {i:Nat} {x:α} (h:l[i]?=some x):l.set i x=l:=by
 refine xg6 fun j=>?_;rw [xd7];by_cases e:i=j
 ·subst e;rw [xe6 rfl,xe6 (f7 h),h]
 ·rw [xe7 e]
theorem b2R (p:En->Bool) {sp:Nat}:∀ (R:List En) {K:Ker} {s:Sc} {D:List En},Right K->K.spaces[sp]?=some s->s.entries=D++R->b7H K (fgK K sp s p D R) sp (fun q=>∃ e ∈ R,p e=true/\e.page=q)/\∀ j,b6R (((R.take j).filter p).foldl a0m K).frames (((R.take j).filter p).foldl a0m K).slots
 |[],K,s,D,h,hs,hE=>by
  have e:fgK K sp s p D []=K:=by
   unfold fgK;have:(⟨s.live,s.areas,D++List.filter (fun e=>!p e) []⟩:Sc)=s:=by
    rw [xk3,<- hE]
   rw [this,b3D hs];rfl
  rw [e];refine ⟨⟨h,rfl,rfl,rfl,rfl,fun _=>rfl,fun _=>rfl,fun _ _ _=>rfl⟩,fun j=>?_⟩;rw [List.take_nil];exact a34 h
 |e::R,K,s,D,h,hs,hE=>by
  by_cases hp:p e=true
  ·have h1:=b62 h hs hE;have hs1:(rmK K sp ⟨s.live,s.areas,D++R⟩ e).spaces[sp]?=some ⟨s.live,s.areas,D++R⟩:=by
    show (K.spaces.set sp _)[sp]?=_;rw [xd7,xe6 rfl,xe6 (f7 hs)]
   obtain ⟨h2,h3⟩:=b2R p R (s:=⟨s.live,s.areas,D++R⟩) (D:=D) h1.right hs1 rfl;have hc:=fun l=>a62 l (K1:=rmK K sp ⟨s.live,s.areas,D++R⟩ e) (K2:=a0m K e) rfl rfl;have eK:fgK (rmK K sp ⟨s.live,s.areas,D++R⟩ e) sp ⟨s.live,s.areas,D++R⟩ p D R=fgK K sp s p D (e::R):=by
    unfold fgK;rw [xj4 hp,xj5 (by simp [hp]),xf5,(hc _).1,(hc _).2];show Ker.mk _ _ _ ((K.spaces.set sp _).set sp _) _=_;rw [xm0];rfl
   rw [eK] at h2;refine ⟨⟨h2.right,h2.sheets.trans h1.sheets,h2.nfr.trans h1.nfr,h2.nsl.trans h1.nsl,h2.nsp.trans h1.nsp,fun i=>(h2.ar i).trans (h1.ar i),fun i=>(h2.live i).trans (h1.live i),fun i q hno=>?_⟩,fun j=>?_⟩
   ·rw [h2.peek i q (fun hh=>hno ⟨hh.1,by obtain ⟨x,hx,h4⟩:=hh.2;exact ⟨x,xc5 _ hx,h4⟩⟩),h1.peek i q (fun hh=>hno ⟨hh.1,e,xc4,hp,hh.2.symm⟩)]
   ·cases j with
    |zero=>exact a34 h
    |succ j=>
     rw [xl5,xj4 hp,xf5,<- (hc _).1,<- (hc _).2];exact h3 j
  ·have hp':p e=false:=by simpa using hp
   obtain ⟨h2,h3⟩:=b2R p R (D:=D++[e]) h hs (by rw [hE,xf4];rfl);have eK:fgK K sp s p (D++[e]) R=fgK K sp s p D (e::R):=by
    unfold fgK;rw [xj5 hp,xj4 (by simp [hp']),xf4];rfl
   rw [eK] at h2;refine ⟨⟨h2.right,h2.sheets,h2.nfr,h2.nsl,h2.nsp,h2.ar,h2.live,fun i q hno=>h2.peek i q (fun hh=>hno ⟨hh.1,by obtain ⟨x,hx,h4⟩:=hh.2;exact ⟨x,xc5 _ hx,h4⟩⟩)⟩,fun j=>?_⟩
   cases j with
   |zero=>exact a34 h
   |succ j=>
    rw [xl5,xj5 hp];exact h3 j
def a4j (K:Ker) (sp:Nat) (p:En->Bool):Ker:=fgK K sp (a0I K sp) p [] (w9 K sp)
def b64 (f:Fm) (n:Int):Fm:=⟨f.data,f.refs + n,f.dirty,f.seen⟩
def b7w (f:Sw) (n:Int):Sw:=⟨f.data,f.refs + n⟩
theorem a5R {α:Type} {N M:List α} (hs:∀ n ∈ M,n ∈ N) (h:N=[]):M=[]:=by
 cases M with
 |nil=>rfl
 |cons a l=>
  have:=hs a xc4;rw [h] at this
  cases this
theorem FmOk.add {sh:List Sh} {f:Fm} {N M:List Nm} (h:FmOk sh f N) (hs:∀ n ∈ M,n ∈ N):FmOk sh (b64 f (M.length:Nat)) (N++M):=by
 have hm:∀ n ∈ N++M,n ∈ N:=fun n hn=>by
  rcases xd9.1 hn with hn|hn
  ·exact hn
  ·exact hs n hn
 refine ⟨?_,fun hn=>?_,fun hn=>h.len (fun h0=>hn (by rw [h0,a5R hs h0];rfl)),fun n hn m hm2=>h.same n (hm n hn) m (hm m hm2),fun n hn=>h.data n (hm n hn)⟩
 ·show f.refs + _=_;rw [h.refs,xe5];omega
 ·obtain ⟨h1,h2⟩:=xm4.1 hn;rw [h2,h.nil h1];rfl
theorem SwOk.add {f:Sw} {N M:List Nm} (h:SwOk f N) (hs:∀ n ∈ M,n ∈ N):SwOk (b7w f (M.length:Nat)) (N++M):=by
 have hm:∀ n ∈ N++M,n ∈ N:=fun n hn=>by
  rcases xd9.1 hn with hn|hn
  ·exact hn
  ·exact hs n hn
 refine ⟨?_,fun hn=>?_,fun hn=>h.len (fun h0=>hn (by rw [h0,a5R hs h0];rfl)),fun n hn m hm2=>h.same n (hm n hn) m (hm m hm2)⟩
 ·show f.refs + _=_;rw [h.refs,xe5];omega
 ·obtain ⟨h1,h2⟩:=xm4.1 hn;rw [h2,h.nil h1];rfl
def a0E (k:KV) (p:En->Bool) (l:List En):KV:=(l.filter p).foldl a0x k
def fgV (k:KV) (sp:Nat) (x:Sp) (p:En->Bool) (ve:Value):KV:={ a0E k p x.s.entries with sp:=k.sp.set sp ⟨⟨x.s.live,x.s.areas,x.s.entries.filter fun e=>!p e⟩,x.va,ve⟩ }
structure a3X (k k':KV):Prop where
 sh:k'.sh=k.sh
 sp:k'.sp=k.sp
 hand:k'.hand=k.hand
 vsh:k'.vsh=k.vsh
 vfr:k'.vfr=k.vfr
 vsl:k'.vsl=k.vsl
 vsp:k'.vsp=k.vsp
theorem b1e (k:KV) (e:En):a3X k (a0x k e):=by
 unfold a0x
 split <;> exact ⟨rfl,rfl,rfl,rfl,rfl,rfl,rfl⟩
theorem a1m:∀ (l:List En) (k:KV),a3X k (l.foldl a0x k)
 |[],_=>⟨rfl,rfl,rfl,rfl,rfl,rfl,rfl⟩
 |e::l,k=>by
  have h:=b1e k e;have h2:=a1m l (a0x k e);exact ⟨h2.sh.trans h.sh,h2.sp.trans h.sp,h2.hand.trans h.hand,h2.vsh.trans h.vsh,h2.vfr.trans h.vfr,h2.vsl.trans h.vsl,h2.vsp.trans h.vsp⟩
theorem a7Z:∀ (l:List En) (k:KV),(l.foldl a0x k).K=l.foldl a0m k.K
 |[],_=>rfl
 |e::l,k=>by rw [xf5,a7Z l,b6U];rfl
theorem KRo.letS {F:Nat->Prop} {w:World} {k k':KV} (h:KRo F w k) (s:a3X k k'):KRo F w k':=⟨by rw [s.sh,s.vsh];exact h.sh,by rw [s.sp];exact h.ar⟩
theorem a6K {l:List En} {i:Nat} {e:En} (h:l[i]?=some e) (k:KV) (p:En->Bool):a0E k p (l.take (i + 1))=if p e=true then a0x (a0E k p (l.take i)) e else a0E k p (l.take i):=by
 unfold a0E;rw [xm5,h,xm6,xj2];by_cases hp:p e=true
 ·rw [xe6 hp,xj4 hp,xk3,xm7];rfl
 ·rw [xe7 hp,xj5 hp,xk3,List.append_nil]
theorem b0I {F:Nat->Prop} {w0 w:World} {Γ:List Asr} {g:Nat} {k:KV} {sp:Nat} {vh:Value} {held:List Nat} (hS0:St F w0 w (wkS g k sp vh held++Γ)) (hR0:KRo (fps (wkS g k sp vh held)) w k) {x:Sp} (hx:k.sp[sp]?=some x) {p:En->Bool} {kf:FuncId} {caps:List Value}
  (hf:∀ e ∈ x.s.entries,∀ w' Γ',St (fps (wkS g k sp vh held)) w w' Γ'->Fn Tryz.prog kf ([.agg (enC e).toArray]++caps) w' (RBf (.bool (p e)) w')) (hE:∀ i e,x.s.entries[i]?=some e->p e=true->a5w (a0E k p (x.s.entries.take i)) e) :
  Fn Tryz.prog 46 [.pointer (some ⟨g,0,none⟩),.func (.func kf) #[] caps.toArray] w (fun v w'=>v=.tuple #[]/\∃ ve,St (fps (wkS g k sp vh held)) w w' (wkS g (fgV k sp x p ve) sp vh held)):=by
 have hS:=St.startM hS0;have hR:=hR0;generalize fps (wkS g k sp vh held)=G at hS hR hf |-;clear hR0 hS0;have hxm:=xc8 hx;obtain ⟨bs,os,cs,hvsp⟩:=(WkV.of (Γ:=[]) (by rw [List.append_nil];exact hS) hR).ker.sp.form1 hx;have hel:x.s.entries.length<=9223372036854775807:=by
  have:=((WkV.of (Γ:=[]) (by rw [List.append_nil];exact hS) hR).ker.spv x hxm).en.bound;omega
 have hsm:∀ l,a3X k (a0E k p l):=fun l=>a1m _ k;have hV:∀ l w1 Γ1,St G w w1 (wkS g (a0E k p l) sp vh held++Γ1)->WkV w1 g (a0E k p l) sp vh held:=fun l w1 Γ1 h=>WkV.of h (hR.letS (hsm l));have hspc:=fun l w1 Γ1 (h:St G w w1 (wkS g (a0E k p l) sp vh held++Γ1))=>a6y (hV l w1 Γ1 h) (by rw [(hsm l).sp];exact f7 hx);have e9:∀ l,b0k (a0E k p l).vsp (sp * 3)=.pointer (some ⟨bs,os + sp * 3,none⟩):=fun l=>by rw [(hsm l).vsp,hvsp];rfl
 simp only [e9] at hspc;have hrowS:=f8 (f:=spC) hx;unfold spC at hrowS;have hspV:∀ l w1 Γ1,St G w w1 (wkS g (a0E k p l) sp vh held++Γ1)->Sl nF w1 3 (.slice (some ⟨bs,os,none⟩) k.sp.length cs) (k.sp.map fun q=>[.bool q.s.live,q.va,q.ve]):=fun l w1 Γ1 h=>by
  have:=(hV l w1 Γ1 h).ker.sp;rw [(hsm l).vsp,(hsm l).sp,hvsp] at this;exact this
 have hEn:∀ l w1 Γ1,St G w w1 (wkS g (a0E k p l) sp vh held++Γ1)->Sl nF w1 3 x.ve (x.s.entries.map enC):=fun l w1 Γ1 h=>((hV l w1 Γ1 h).ker.spv x (by rw [(hsm l).sp];exact hxm)).en;obtain ⟨pe,ce,hve⟩:=((WkV.of (Γ:=[]) (by rw [List.append_nil];exact hS) hR).ker.spv x hxm).en.len;rw [hve] at hrowS hEn;replace hS:St G w w (wkS g (a0E k p []) sp vh held++[]):=by rw [List.append_nil];exact hS
 refine yEn Tryz.func46 Tryz.ntmps46 (by kernel_rfl) (by kernel_rfl) rfl rfl ?_
 repeat' (first|(with_reducible apply d5 c9);rfl;rfl;rfl|refine yDn (by with_reducible constructor) ?_|(with_reducible apply f9 hS);rfl;rfl;rfl;refine ⟨_,hspc _ _ _ hS,?_⟩;clear hS;intro w' hS|(with_reducible apply a0K c9);rfl;rfl;rfl;refine ⟨_,(hspV _ _ _ hS).cel hrowS rfl,?_⟩)
 refine n9 (F:=G) (w0:=w) (X:=Nat) (fun i=>[(14,.int .i64 (i:Nat))]) [0,1,4,12,13] rfl (fun i=>wkS g (a0E k p (x.s.entries.take i)) sp vh held) (fun i=>i<=x.s.entries.length) (fun i=>x.s.entries.length - i) 0 (by exact Fr.sub_of rfl) (xf9 _) hS ?_;clear hS;intro i w1 hi hS;dsimp only [List.cons_append,List.nil_append] at hi |-;by_cases hlt:i < x.s.entries.length
 ·have hdl:decide ((i:Int) < (x.s.entries.length:Int))=true:=xi8 (by omega);obtain ⟨e,he⟩:=j4 (l:=x.s.entries) (i:=i) (by omega);obtain ⟨b,off,rfl,-⟩:=(hEn _ _ _ hS).at_ hlt;have hrowE:=f8 (f:=enC) he;have hnx:=a6K he k p;have hem:=xc8 he;have hwh:=fun w' Γ' h=>hf e hem w' Γ' h;unfold enC at hrowE hwh
  cases hp:p e with
  |true=>
   rw [hp] at hwh hnx;rw [xe6 rfl] at hnx;have hlet:=fun w1 Γ1 (h:St G w w1 (wkS g (a0E k p (x.s.entries.take i)) sp vh held++Γ1))=>b4x h (hE i e he hp);unfold enC at hlet
   repeat' (first|(with_reducible apply d5 c9);rfl;rfl;rfl|(with_reducible apply d6);rfl;(apply Ld.st c9;rfl;exact hS.blkR 0 rfl;rfl);rfl|(with_reducible apply m8 c9);rfl;rfl;rfl;rfl;omega;rfl|refine yDn (by with_reducible constructor) ?_|((with_reducible apply i6);rfl;first|rfl|assumption)|(with_reducible apply f5 hS c9);rfl;rfl;rfl;clear hS;intro g w' hS|(with_reducible apply d7 hS c9 (i:=0));(iterate 8 rfl);exact (rfl:_=[_,_,_]);clear hS;intro w' hS;simp only [List.set] at hS|(with_reducible apply a1c c9);rfl;rfl;rfl;refine ⟨_,(hEn _ _ _ hS).rng hrowE,rfl,?_⟩|(with_reducible apply a1d);rfl;rfl;exact hwh _ _ hS;rfl;rintro _ w' ⟨rfl,hS'⟩;(replace hS:=hS.trans hS');simp only [List.nil_append] at hS;clear hS')
   rw [List.append_nil] at hS;replace hS:=hS.perm (xl4 _ _).symm;refine a1d (first:=[]) (caps:=[]) rfl rfl (hlet _ _ hS) rfl ?_;rintro _ w2 ⟨rfl,h2⟩;replace hS:=(St.transM hS h2).perm (xl4 _ _);clear h2
   repeat' (first|(with_reducible apply d5 c9);rfl;rfl;rfl|(with_reducible apply j7);rfl;rfl;omega;omega;rfl|refine yDn (by with_reducible constructor) ?_)
   refine i5 (i + 1) (by exact Fr.sub_of rfl) (by omega) ?_ (by omega);rw [hnx,List.append_nil];exact hS.drop
  |false=>
   rw [hp] at hwh hnx;rw [xe7 (by simp)] at hnx
   repeat' (first|(with_reducible apply d5 c9);rfl;rfl;rfl|(with_reducible apply d6);rfl;(apply Ld.st c9;rfl;exact hS.blkR 0 rfl;rfl);rfl|(with_reducible apply m8 c9);rfl;rfl;rfl;rfl;omega;rfl|(with_reducible apply j7);rfl;rfl;omega;omega;rfl|refine yDn (by with_reducible constructor) ?_|(with_reducible apply i6);rfl;assumption|(with_reducible apply i9);rfl;rfl|(with_reducible apply f5 hS c9);rfl;rfl;rfl;clear hS;intro g w' hS|(with_reducible apply d7 hS c9 (i:=0));(iterate 8 rfl);exact (rfl:_=[_,_,_]);clear hS;intro w' hS;simp only [List.set] at hS|(with_reducible apply a1c c9);rfl;rfl;rfl;refine ⟨_,(hEn _ _ _ hS).rng hrowE,rfl,?_⟩|(with_reducible apply a1d);rfl;rfl;exact hwh _ _ hS;rfl;rintro _ w' ⟨rfl,hS'⟩;(replace hS:=hS.trans hS');simp only [List.nil_append] at hS;clear hS')
   refine i5 (i + 1) (by exact Fr.sub_of rfl) (by omega) ?_ (by omega);rw [hnx];exact hS.drop
 ·have hdl:decide ((i:Int) < (x.s.entries.length:Int))=false:=xi7 (by omega);obtain rfl:i=x.s.entries.length:=by omega
  rw [xg1] at hS
  repeat' (first|(with_reducible apply d5 c9);rfl;rfl;rfl|refine yDn (by with_reducible constructor) ?_|(with_reducible apply i9);rfl;assumption|(with_reducible apply a0K c9);rfl;rfl;rfl;refine ⟨_,(hspV _ _ _ hS).cel hrowS rfl,?_⟩)
  have hsf:=hsm x.s.entries;have hfg:∀ ve,fgV k sp x p ve={ a0E k p x.s.entries with sp:=k.sp.set sp ⟨⟨x.s.live,x.s.areas,x.s.entries.filter fun e=>!p e⟩,x.va,ve⟩ }:=fun ve=>rfl;simp only [hfg];generalize a0E k p x.s.entries=k1 at hS hsf |-;obtain ⟨sh,fr,sl,sps,hand,vsh,vfr,vsl,vsp⟩:=k;obtain ⟨b1,b2,b3,b4,b5,b6,b7,b8,b9⟩:=k1;obtain ⟨c1,c2,c3,c4,c5,c6,c7⟩:=hsf;dsimp only at c1 c2 c3 c4 c5 c6 c7 hvsp hx hrowS;subst c1 c2 c3 c4 c5 c6 c7;subst hvsp;rw [List.append_nil] at hS;unfold wkS wkB hdA frA slA a20 at hS;dsimp only at hS;have hos:os=0:=by
   obtain ⟨gg,hgg⟩:=hS.rowSome 4 rfl (xm8 (xf9 _) (f7 hx));injection hgg with hgg
   injection hgg
  subst hos;replace hS:=hS.pullE 5 hx rfl;simp only [xl5,xl6,t5] at hS;unfold x9 at hS;rw [hve] at hS;have hdel:=b34 (v:=.slice pe x.s.entries.length ce) (l:=x.s.entries) (p:=p) (k:=kf) (caps:=caps) hS (fun e he w' Γ' h=>hf e he w' _ (St.transM (Θ:=[enA (.slice pe x.s.entries.length ce) x.s.entries]) hS h));refine a1d (first:=[]) (caps:=[]) rfl rfl hdel rfl ?_;clear hdel;rintro _ w2 ⟨q,c,rfl,h2⟩;replace hS:=St.transM (Θ:=[enA (.slice pe x.s.entries.length ce) x.s.entries]) hS h2;clear h2;unfold enA at hS;dsimp only [List.cons_append,List.nil_append] at hS;have e1:(b4.map spC).set sp (p9 [.bool x.s.live,x.va,.slice pe x.s.entries.length ce] 2 [.slice q (x.s.entries.filter fun e=>!p e).length c])=(b4.set sp ⟨⟨x.s.live,x.s.areas,x.s.entries.filter fun e=>!p e⟩,x.va,.slice q (x.s.entries.filter fun e=>!p e).length c⟩).map spC:=by rw [xk6];rfl
  repeat' (first|(with_reducible apply d5 c9);rfl;rfl;rfl|refine yDn (by with_reducible constructor) ?_|(with_reducible apply t3 hS c9 (i:=5));(iterate 4 rfl);assumption;(iterate 5 rfl);intro w' hS';simp only [List.set] at hS';clear hS;have hS:=hS';clear hS')
  rw [e1] at hS
  (refine b3T rfl ?_)
  refine ⟨rfl,.slice q (x.s.entries.filter fun e=>!p e).length c,?_⟩;replace hS:=St.pushE (y:=⟨⟨x.s.live,x.s.areas,x.s.entries.filter fun e=>!p e⟩,x.va,.slice q (x.s.entries.filter fun e=>!p e).length c⟩) hS 5 hx rfl;simp only [xl5,xl6,t5] at hS;unfold wkS wkB hdA frA slA a20;exact hS
theorem a88:∀ (l:List En) (k:KV),(l.foldl a0x k).fr.length=k.fr.length/\(l.foldl a0x k).sl.length=k.sl.length
 |[],_=>⟨rfl,rfl⟩
 |e::l,k=>by
  obtain ⟨h1,h2⟩:=a88 l (a0x k e);have h:=b4Q k e;exact ⟨h1.trans h.2.2.1,h2.trans h.2.2.2⟩
theorem b3q {k:KV} (hr:Right k.K) {sp:Nat} {x:Sp} (hx:k.sp[sp]?=some x) (p:En->Bool) (i:Nat) (e:En) (he:x.s.entries[i]?=some e):a5w (a0E k p (x.s.entries.take i)) e:=by
 have h0:=b1X hr hx (xc8 he);obtain ⟨-,hb⟩:=b2R p x.s.entries (D:=[]) hr (a1e hx) rfl;have hbi:=hb i;obtain ⟨l1,l2⟩:=a88 ((x.s.entries.take i).filter p) k;have eK:=a7Z ((x.s.entries.take i).filter p) k;have e1:(a0E k p (x.s.entries.take i)).fr=(((x.s.entries.take i).filter p).foldl a0m k.K).frames:=congrArg Ker.frames eK;have e2:(a0E k p (x.s.entries.take i)).sl=(((x.s.entries.take i).filter p).foldl a0m k.K).slots:=congrArg Ker.slots eK;refine ⟨?_,by rw [e1];exact hbi.1,by rw [e2];exact hbi.2⟩;have:=h0.names;unfold a0E;rw [l1,l2];exact this
theorem b2B {k:KV} {sp:Nat} {x:Sp} (hx:k.sp[sp]?=some x) (p:En->Bool) (ve:Value):a0d (fgV k sp x p ve)=a0d k:=by
 have h:=a1m (x.s.entries.filter p) k;unfold a0d fgV a0E;dsimp only;rw [h.vsh,h.sh];have e:(k.sp.set sp ⟨⟨x.s.live,x.s.areas,x.s.entries.filter fun e=>!p e⟩,x.va,ve⟩).map a17=k.sp.map a17:=a4a hx rfl;rw [e]
theorem b7l {k:KV} {sp:Nat} {x:Sp} (hx:k.sp[sp]?=some x) (p:En->Bool) (ve:Value):(fgV k sp x p ve).K=a4j k.K sp p:=by
 have h:=a1m (x.s.entries.filter p) k;have e:=a7Z (x.s.entries.filter p) k;have hsp:=z7 (a1e hx);have he:w9 k.K sp=x.s.entries:=by unfold w9;rw [hsp]
 unfold fgV a4j fgK a0E;rw [he,hsp,<- e];generalize (x.s.entries.filter p).foldl a0x k=k1 at h |-;obtain ⟨b1,b2,b3,b4,b5,b6,b7,b8,b9⟩:=k1;obtain ⟨c1,c2,c3,c4,c5,c6,c7⟩:=h;dsimp only at c1 c2 c3 c4 c5 c6 c7;subst c1 c2 c3;unfold KV.K;dsimp only;rw [xk6];rfl
theorem a0l {α β:Type} (f:α->β):∀ {l:List α} {i:Nat} {x:α},l[i]?=some x->(l.map f).Perm (f x::(l.eraseIdx i).map f)
 |[],_,_,h=>by simp at h
 |a::l,0,x,h=>by
  have:a=x:=by simpa using h
  subst this;exact List.Perm.refl _
 |a::l,i + 1,x,h=>((a0l f (l:=l) (i:=i) (by simpa using h)).cons _).trans (List.Perm.swap _ _ _)
theorem a8J (s:List Sp) (k:KV) (e:En):a0x { k with sp:=s } e={ a0x k e with sp:=s }:=by
 unfold a0x
 split <;> rfl
theorem a55 (s:List Sp):∀ (l:List En) (k:KV),l.foldl a0x { k with sp:=s }={ l.foldl a0x k with sp:=s }
 |[],_=>rfl
 |e::l,k=>by
  rw [xf5,xf5,a8J,a55 s l]
theorem b39 {F:Nat->Prop} {w0 w:World} {a b c:Asr} {g:Nat} {k:KV} (hS:St F w0 w (a::b::c::(.blk g (kvC k)::frA k::slA k::a20 k::(k.sp.map x9++a0d k)))):St F w0 w (rkS g k++(a0d k++[a,b,c])):=by
 refine hS.perm ?_;have h:([a,b,c]++(rkS g k++a0d k)).Perm ((rkS g k++a0d k)++[a,b,c]):=xl8;rw [xf4] at h;exact h
theorem b0t {F:Nat->Prop} {w0 w:World} {a b c:Asr} {g:Nat} {k:KV} {R:List Asr} (hS:St F w0 w (rkS g k++(R++[a,b,c]))):St F w0 w (a::b::c::(.blk g (kvC k)::frA k::slA k::a20 k::(k.sp.map x9++R))):=by
 refine hS.perm ?_;rw [<- xf4];exact xl8
end Go.Proofs.YtejnpppejalhfacGreat
namespace Go.Proofs.YtejnpppejalhfacGreat
set_option maxRecDepth 100000
set_option maxHeartbeats 8000000
theorem a3i (a b:List Ar):k7 (a++b)=k7 a + k7 b:=by
 induction a with
 |nil=>simp [k7]
 |cons x a ih=>simp only [List.cons_append,k7];omega
theorem b35 (o:List Ar) (a:Ar):k7 (o6 o a)=k7 o + a.n:=by
 unfold o6
 split
 ·rename_i b hb
  split
  ·obtain ⟨ys,rfl⟩:=List.getLast?_eq_some_iff.1 hb;rw [List.dropLast_concat,a3i,a3i];simp only [k7];omega
  ·rw [a3i];simp [k7]
 ·rw [a3i];simp [k7]
theorem b12 (l:List Ar):∀ o,k7 (l.foldl o6 o)=k7 o + k7 l:=by
 induction l with
 |nil=>intro o;simp [k7]
 |cons a l ih=>intro o;rw [xf5,ih,b35];simp only [k7];omega
theorem a70 (q:Int):∀ {l:List Ar} {e:Int},j3 e l->k7 (a1S l q) + k7 (a05 l q)=k7 l
 |[],_,_=>rfl
 |a::l,_,h=>by
  obtain ⟨h1,-,h3⟩:=h;have ih:=a70 q h3;unfold Ar.ok at h1;have hA:k7 (a1S (a::l) q)=(if a.pg < q then min a.fin q - a.pg else 0) + k7 (a1S l q):=by
   unfold a1S;rw [xm9];by_cases h:a.pg < q
   ·rw [xe6 h,xe6 h];rfl
   ·rw [xe7 h,xe7 h];simp
  have hB:k7 (a05 (a::l) q)=(if q < a.fin then a.fin - max a.pg q else 0) + k7 (a05 l q):=by
   unfold a05;rw [xm9];by_cases h:q < a.fin
   ·rw [xe6 h,xe6 h];rfl
   ·rw [xe7 h,xe7 h];simp
  rw [hA,hB];simp only [k7];unfold Ar.fin
  repeat' split
  all_goals omega
theorem a6c {L M:List Ar} {q q':Int} (h:j3 1 L) (hq:1<=q):k7 (a1b L q q' M)=k7 L - k7 (v6 L q q') + k7 M:=by
 have h1:=a70 q h;have h2:=a70 q' (a1p q hq h).1;unfold a1b a3L v6;rw [b12,a3i,a3i];simp only [k7];omega
theorem b3c:∀ {l:List Ar} {e:Int},j3 e l->0<=k7 l
 |[],_,_=>xl9 0
 |a::l,_,h=>by
  have:=b3c h.2.2;have h1:=h.1;unfold Ar.ok at h1;simp only [k7];omega
theorem a4V (p:Int):∀ l:List Ar,k7 (x6 p l)=k7 l
 |[]=>rfl
 |a::l=>by
  have:=a4V p l;unfold x6 at this |-;simp only [xb9,k7];omega
theorem b0n {L:List Ar} {page pages prot:Int} (h:(a0s L page pages prot).2=0):g6 (a0s L page pages prot).1=0/\k7 (a0s L page pages prot).1=k7 L + pages/\1<=pages/\pages<=255:=by
 refine ⟨(b2h 0 h).good,?_⟩;unfold a0s at h |-;by_cases hs:n8 L page pages prot=0
 ·rw [xe7 (fun k=>k hs)] at h |-;by_cases hm:v6 L page (page + pages)=[]
  ·rw [xe6 hm];obtain ⟨hc,p1,p2,p3,p4,p5,p6⟩:=a0Q hs;have:=a6c (M:=[⟨page,pages,prot,true⟩]) (q':=page + pages) (k9.1 hc).2.1 p1;dsimp only;rw [this,hm];simp only [k7];omega
  ·rw [xe7 hm] at h;simp at h
 ·rw [xe6 hs] at h;exact (hs h).elim
theorem a6V {L:List Ar} {page pages:Int} (h:(r5 L page pages).2=0):g6 (r5 L page pages).1=0/\k7 (r5 L page pages).1<=k7 L:=by
 refine ⟨(a9u 0 h).good,?_⟩;unfold r5 at h |-;by_cases hs:n8 L page pages 0=0
 ·rw [xe7 (fun k=>k hs)];obtain ⟨hc,p1,p2,p3,p4,p5,p6⟩:=a0Q hs;have hg:=(k9.1 hc).2;have:=a6c (M:=[]) (q':=page + pages) hg.1 p1;have hn:=b3c (a2z hg.1 p1 (q':=page + pages) (by omega)).1;dsimp only;rw [this];simp only [k7];omega
 ·rw [xe6 hs] at h;exact (hs h).elim
theorem a8D {L:List Ar} {page pages prot:Int} (h:(t7 L page pages prot).2=0):g6 (t7 L page pages prot).1=0/\k7 (t7 L page pages prot).1<=k7 L:=by
 refine ⟨(b1y 0 h).good,?_⟩;unfold t7 at h |-;by_cases hs:n8 L page pages prot=0
 ·rw [xe7 (fun k=>k hs)] at h |-;by_cases hm:k7 (v6 L page (page + pages)) < pages
  ·rw [xe6 hm] at h;simp at h
  ·rw [xe7 hm];obtain ⟨hc,p1,p2,p3,p4,p5,p6⟩:=a0Q hs;have:=a6c (M:=x6 prot (v6 L page (page + pages))) (q':=page + pages) (k9.1 hc).2.1 p1;dsimp only;rw [this,a4V];omega
 ·rw [xe6 hs] at h;exact (hs h).elim
def a1J (K:Ker) (sp:Nat) (A:List Ar):Ker:=a2S K sp ⟨(a0I K sp).live,A,w9 K sp⟩
def arE (K:Ker) (space:Int) (r:List Ar->List Ar×Int):Int:=if a0c K space=0 then (if (r (m6 K space.toNat)).2=0 then (if (K.slots.length:Int) < o8 (a1J K space.toNat (r (m6 K space.toNat)).1).spaces then 8 else 0) else (r (m6 K space.toNat)).2) else a0c K space
def arR (K:Ker) (space:Int) (r:List Ar->List Ar×Int):Ker:=if arE K space r=0 then a1J K space.toNat (r (m6 K space.toNat)).1 else b2I
def unR (K:Ker) (space page pages:Int):Ker:=if arE K space (fun A=>r5 A page pages)=0 then a4j (a1J K space.toNat (r5 (m6 K space.toNat) page pages).1) space.toNat (fun e=>decide (page<=e.page) && decide (e.page < page + pages)) else b2I
theorem a8l:∀ {l:List Sc} {i:Nat} {s:Sc} (x:Sc),l[i]?=some s->o8 (l.set i x)=o8 l - k7 s.areas + k7 x.areas
 |[],_,_,_,h=>by simp at h
 |a::l,0,s,x,h=>by
  have:a=s:=by simpa using h
  subst this;unfold o8;simp only [List.set_cons_zero,xb9,List.sum_cons];omega
 |a::l,i + 1,s,x,h=>by
  have ih:=a8l (l:=l) (i:=i) x (by simpa using h);unfold o8 at ih |-;simp only [List.set_cons_succ,xb9,List.sum_cons];omega
theorem a6k {K:Ker} {sp:Nat} {s:Sc} (h:K.spaces[sp]?=some s) (A:List Ar):o8 (a1J K sp A).spaces=o8 K.spaces - k7 s.areas + k7 A:=by
 unfold a1J a2S;exact a8l _ h
end Go.Proofs.YtejnpppejalhfacGreat
namespace Go.Proofs.YtejnpppejalhfacGreat
set_option maxRecDepth 100000
set_option maxHeartbeats 8000000
open Go.RowKit Go.Sort
theorem b4H {F:Nat->Prop} {w0 w:World} {a:Asr} {g sp:Nat} {k:KV} (h:St F w0 w (a::([.blk g (wkB k sp (.slice none 0 0)),hdA (.slice none 0 0) [],frA k,slA k,a20 k]++(k.sp.map x9++.row 142 3 k.vsh (a2r k.sh)::(k.sh.map fxA++k.sp.map a17))))):St F w0 w (a::(wkS g k sp (.slice none 0 0) []++a0d k)):=h
theorem a4e {α:Type} {u b a S:α} {X E F A A' B:List α} (hA:A.Perm (a::A')) (hB:B.Perm (u::A')):(u::b::(X++(E++(S::(F++A))))).Perm (a::b::(X++(E++(S::(F++B))))):=by
 have hY:∀ {L L':List α},L.Perm L'->(b::(X++(E++(S::(F++L))))).Perm (b::(X++(E++(S::(F++L'))))):=fun h=>((((h.append_left F).cons S).append_left E).append_left X).cons b;have hM:∀ (y:α) (L:List α),(b::(X++(E++(S::(F++(y::L)))))).Perm (y::b::(X++(E++(S::(F++L))))):=fun y L=>by
  have h:=xm1 (a:=y) (l₁:=b::(X++(E++(S::F)))) (l₂:=L)
  simpa [xf4] using h
 exact (((hY hA).trans (hM a A')).cons u).trans ((List.Perm.swap _ _ _).trans ((((hY hB).trans (hM u A')).symm).cons a))
theorem a4E {w:World} {k:KV} (hK:KerV w k) (space:Int) {kf:FuncId} {caps:List Value} {r:List Ar->List Ar×Int} (hr0:∀ A,(r A).2=0->g6 (r A).1=0)
  (hf:∀ {w1 Γ A va},St nF w w1 Γ->Sl nF w1 4 va (A.map arC)->Fn Tryz.prog kf ([va]++caps) w1 (a3u (r A) w1)) :
  Fn Tryz.prog 60 [.agg (kvC k).toArray,.int .i64 space,.func (.func kf) #[] caps.toArray] w (fun v w'=>∃ g,v=.tuple #[.pointer (some ⟨g,0,none⟩),.int .i64 (arE k.K space r)]/\((arE k.K space r≠0/\St nF w w' [.blk g (wkB kv0 0 (.slice none 0 0))])\/∃ (sp:Nat) (k':KV),arE k.K space r=0/\space=(sp:Nat)/\k'.K=a1J k.K sp (r (m6 k.K sp)).1/\St nF w w' (wkS g k' sp (.slice none 0 0) []++a0d k'))):=by
 have hbeg:=fun w1 (h:KerV w1 k)=>b14 h space;have hK0:=hK;obtain ⟨RE,hRE⟩:∃ e,e=arE k.K space r:=⟨_,rfl⟩;rw [<- hRE];unfold arE at hRE;obtain ⟨sh,fr,sl,sps,hand,vsh,vfr,vsl,vsp⟩:=k;obtain ⟨k1,k2,k3,k4,k5⟩:=hK;dsimp only at k1 k2 k3 k4 k5;obtain ⟨p1,c1,rfl⟩:=k1.sl.len;obtain ⟨p2,c2,rfl⟩:=k2.len;obtain ⟨p3,c3,rfl⟩:=k3.len;obtain ⟨p4,c4,rfl⟩:=k4.len;have hlL:(KV.K ⟨sh,fr,sl,sps,hand,.slice p1 sh.length c1,.slice p2 fr.length c2,.slice p3 sl.length c3,.slice p4 sps.length c4⟩).slots.length=sl.length:=rfl;generalize hKK:KV.K ⟨sh,fr,sl,sps,hand,.slice p1 sh.length c1,.slice p2 fr.length c2,.slice p3 sl.length c3,.slice p4 sps.length c4⟩=K at hbeg hRE hlL |-;have hpre:∀ w1 Γ1,St nF w w1 Γ1->KerV w1 ⟨sh,fr,sl,sps,hand,.slice p1 sh.length c1,.slice p2 fr.length c2,.slice p3 sl.length c3,.slice p4 sps.length c4⟩:=fun w1 Γ1 h=>hK0.now h;rw [hlL] at hRE;unfold kvC at hbeg |-;dsimp only at hbeg |-;refine yEn Tryz.func60 Tryz.ntmps60 (by kernel_rfl) (by kernel_rfl) rfl rfl ?_;have hS:=St.start w
 repeat' (first|(with_reducible apply d5 c9);rfl;rfl;rfl|(with_reducible apply d6);rfl;(apply Ld.st c9;rfl;exact hS.blkR 0 rfl;rfl);rfl|refine yDn (by with_reducible constructor) ?_|(with_reducible apply j6 hS);rfl;rfl;rfl;clear hS;intro g w' hS)
 refine a1d rfl rfl (hbeg _ (hpre _ _ hS)) rfl ?_;clear hbeg;rintro v w2 (⟨he,rfl,hS'⟩|⟨gw,sp,k',he,hsp,rfl,hk',hS'⟩)
 ·replace hS:=hS.transA hS';simp only [t5] at hS;rw [xe7 he] at hRE;have hd:decide (a0c K space=0)=false:=xi7 he;rw [<- hRE] at he hd |-
  repeat' (first|(with_reducible apply d5 c9);rfl;rfl;rfl|(with_reducible apply v8 c9);rfl;rfl;exact (rfl:_=some [_,_,_,_,_,_,_]);rfl|refine yDn (by with_reducible constructor) ?_|(with_reducible apply j6 hS);rfl;rfl;rfl;clear hS;intro g w' hS|(with_reducible apply a0j);rfl;all_goals (intro hb hp;try (exfalso;omega)))
  (refine a1a rfl ?_)
  exact ⟨_,rfl,xd4 ⟨he,hS.one⟩⟩
 rw [xe6 he] at hRE;replace hS:=hS.trans hS';clear hS';rw [xf4] at hS;have hV0:=WkV.own hS;obtain ⟨hr,sp2,hsp2,hspl,hlv⟩:=a1V he;obtain rfl:sp=sp2:=by omega
 subst hsp;rw [xh3] at hRE;subst hk';obtain ⟨x,hx⟩:∃ x,k'.sp[sp]?=some x:=by
  have:k'.K.spaces.length=k'.sp.length:=xi3 _;exact j4 (by omega)
 have hxm:=xc8 hx;obtain ⟨hsc,hel⟩:=a1F hr x.s (xc8 (a1e hx));have hxA:m6 k'.K sp=x.s.areas:=by unfold m6;rw [z7 (a1e hx)]
 have hxe:w9 k'.K sp=x.s.entries:=by unfold w9;rw [z7 (a1e hx)]
 have hxl:(a0I k'.K sp).live=x.s.live:=by rw [z7 (a1e hx)]
 rw [hxA] at hRE;have hslL:k'.sl.length=sl.length:=hlL;obtain ⟨bs,os,cs,hvsp⟩:=hV0.ker.sp.form1 hx;obtain ⟨psl,csl,hvsl⟩:=hV0.ker.sl.len;have hxv:=hV0.ker.spv x hxm;obtain ⟨pa,ca,hva⟩:=hxv.ar.len;obtain ⟨sh1,fr1,sl1,sp1,hand1,vsh1,vfr1,vsl1,vsp1⟩:=k';dsimp only at hvsp hvsl hx hxm hslL;subst hvsp hvsl;have hrowS:=f8 (f:=spC) hx;unfold spC at hrowS;rw [hva] at hrowS;have hspc:=fun P w1 (h:St nF w w1 (P++(wkS gw (⟨sh1,fr1,sl1,sp1,hand1,vsh1,vfr1,.slice psl sl1.length csl,.slice (some ⟨bs,os,none⟩) sp1.length cs⟩:KV) sp (.slice none 0 0) []++a0d (⟨sh1,fr1,sl1,sp1,hand1,vsh1,vfr1,.slice psl sl1.length csl,.slice (some ⟨bs,os,none⟩) sp1.length cs⟩:KV))))=>a6y (WkV.own (Γ:=P) (by rw [<- xf4];exact h.perm xl8)) (f7 hx);have hspV:=fun P w1 (h:St nF w w1 (P++(wkS gw (⟨sh1,fr1,sl1,sp1,hand1,vsh1,vfr1,.slice psl sl1.length csl,.slice (some ⟨bs,os,none⟩) sp1.length cs⟩:KV) sp (.slice none 0 0) []++a0d (⟨sh1,fr1,sl1,sp1,hand1,vsh1,vfr1,.slice psl sl1.length csl,.slice (some ⟨bs,os,none⟩) sp1.length cs⟩:KV))))=>(WkV.own (Γ:=P) (by rw [<- xf4];exact h.perm xl8)).ker.sp;have hxa:=fun P w1 (h:St nF w w1 (P++(wkS gw (⟨sh1,fr1,sl1,sp1,hand1,vsh1,vfr1,.slice psl sl1.length csl,.slice (some ⟨bs,os,none⟩) sp1.length cs⟩:KV) sp (.slice none 0 0) []++a0d (⟨sh1,fr1,sl1,sp1,hand1,vsh1,vfr1,.slice psl sl1.length csl,.slice (some ⟨bs,os,none⟩) sp1.length cs⟩:KV))))=>((WkV.own (Γ:=P) (by rw [<- xf4];exact h.perm xl8)).ker.spv x hxm).ar;rw [hva] at hxa;unfold b0k at hspc;dsimp only at hspc hspV;rw [<- xf4] at hS;replace hS:=hS.perm xl8;dsimp only [List.cons_append,List.nil_append] at hS;have hd0:decide (a0c (KV.K (⟨sh1,fr1,sl1,sp1,hand1,vsh1,vfr1,.slice psl sl1.length csl,.slice (some ⟨bs,os,none⟩) sp1.length cs⟩:KV)) (sp:Nat)=0)=true:=xi8 he
 repeat' (first|(with_reducible apply d5 c9);rfl;rfl;rfl|refine yDn (by with_reducible constructor) ?_|(with_reducible apply i9);rfl;rfl|(with_reducible apply f9 hS);rfl;rfl;rfl;refine ⟨_,hspc [_] _ hS,?_⟩;clear hS;intro w' hS|(with_reducible apply a0K c9);rfl;rfl;rfl;refine ⟨_,(hspV [_] _ hS).cel hrowS rfl,?_⟩)
 refine a1d (first:=[]) (caps:=caps) rfl rfl (hf hS (hxa [_] _ hS)) rfl ?_;rintro _ w3 ⟨u,rfl,hS'⟩;replace hS:=hS.trans hS';clear hS';dsimp only [List.cons_append,List.nil_append] at hS;by_cases h2:(r x.s.areas).2=0;rotate_left
 ·rw [xe7 h2] at hRE;have hd:decide ((r x.s.areas).2=0)=false:=xi7 h2;rw [<- hRE] at h2 hd |-
  repeat' (first|(with_reducible apply d5 c9);rfl;rfl;rfl|(with_reducible apply v8 c9);rfl;rfl;exact (rfl:_=some [_,_,_,_,_,_,_]);rfl|refine yDn (by with_reducible constructor) ?_|(with_reducible apply j6 hS);rfl;rfl;rfl;clear hS;intro g w' hS|(with_reducible apply a0j);rfl;all_goals (intro hb hp;try (exfalso;omega)))
  (refine a1a rfl ?_)
  exact ⟨_,rfl,xd4 ⟨h2,hS.one⟩⟩
 rw [xe6 h2] at hRE;rw [h2];have hck:=hr0 x.s.areas h2;obtain ⟨pu,cu,rfl⟩:=hS.rowSlice 0 rfl;rw [xi3] at hS |-
 repeat' (first|(with_reducible apply d5 c9);rfl;rfl;rfl|refine yDn (by with_reducible constructor) ?_|(with_reducible apply i9);rfl;rfl|(with_reducible apply f9 hS);rfl;rfl;rfl;refine ⟨_,hspc [_,_] _ hS,?_⟩;clear hS;intro w' hS)
 unfold wkS wkB hdA frA slA a20 a0d at hS;dsimp only [List.cons_append,List.nil_append] at hS;have hspl2:=f7 hx;have hos:os=0:=by
  obtain ⟨gg,hgg⟩:=hS.rowSome 6 rfl (xm8 (xf9 _) hspl2);injection hgg with hgg
  injection hgg
 subst hos;obtain ⟨y,hy⟩:∃ y:Sp,y=⟨⟨x.s.live,(r x.s.areas).1,x.s.entries⟩,.slice pu (r x.s.areas).1.length cu,x.ve⟩:=⟨_,rfl⟩;have hz:(sp1.set sp y)[sp]?=some y:=by rw [xd7,xe6 rfl,xe6 hspl2]
 have e1:(sp1.map spC).set sp (p9 [.bool x.s.live,.slice pa x.s.areas.length ca,x.ve] 1 [.slice pu (r x.s.areas).1.length cu])=(sp1.set sp y).map spC:=by rw [xk6,hy];rfl
 repeat' (first|refine yDn (by with_reducible constructor) ?_|(with_reducible apply t3 hS c9 (i:=6));(iterate 4 rfl);assumption;(iterate 5 rfl);intro w' hS';simp only [List.set] at hS';clear hS;have hS:=hS';clear hS')
 rw [e1] at hS;have hA:=a0l a17 hx;have hB:=a0l a17 hz;rw [a0Z] at hB;have hyA:a17 y=.row 136 4 (.slice pu (r x.s.areas).1.length cu) ((r x.s.areas).1.map arC):=by rw [hy];rfl
 have hE:(sp1.set sp y).map x9=sp1.map x9:=a4a hx (by rw [hy];rfl);rw [hyA] at hB;replace hS:=(hS.perm (a4e (X:=[_,_,_,_,_]) hA hB)).drop;rw [<- hE] at hS;obtain ⟨k3,hk3⟩:∃ k3:KV,k3=⟨sh1,fr1,sl1,sp1.set sp y,hand1,vsh1,vfr1,.slice psl sl1.length csl,.slice (some ⟨bs,0,none⟩) sp1.length cs⟩:=⟨_,rfl⟩;have hK3:k3.K=a1J (KV.K (⟨sh1,fr1,sl1,sp1,hand1,vsh1,vfr1,.slice psl sl1.length csl,.slice (some ⟨bs,0,none⟩) sp1.length cs⟩:KV)) sp (r x.s.areas).1:=by
  rw [hk3];unfold a1J a2S;rw [hxl,hxe];unfold KV.K;dsimp only;rw [xk6,hy]
 have hc3:∀ p ∈ k3.sp,g6 p.s.areas=0:=fun p hp=>by
  rw [hk3] at hp;rcases xm3 hp with h|h
  ·exact (a1F hr p.s (xh6.2 ⟨p,h,rfl⟩)).1.ar
  ·rw [h,hy];exact hck
 have h43:k3.sp.length<=5:=by
  have h1:=hr.cnt;have h2:(KV.K (⟨sh1,fr1,sl1,sp1,hand1,vsh1,vfr1,.slice psl sl1.length csl,.slice (some ⟨bs,0,none⟩) sp1.length cs⟩:KV)).spaces.length=sp1.length:=xi3 _;rw [hk3];dsimp only;rw [xa7];omega
 replace hS:=b4H (k:=k3) (g:=gw) (sp:=sp) (by rw [hk3];exact hS);have hroo:=fun w1 a (h:St nF w w1 (a::(wkS gw k3 sp (.slice none 0 0) []++a0d k3)))=>b31 (WkV.own (Γ:=[a]) (by rw [<- xf4];exact h.perm (xl8 (l₁:=[a])))) hc3 h43;rw [show o8 (k3.sp.map (·.s))=o8 (a1J (KV.K (⟨sh1,fr1,sl1,sp1,hand1,vsh1,vfr1,.slice psl sl1.length csl,.slice (some ⟨bs,0,none⟩) sp1.length cs⟩:KV)) sp (r x.s.areas).1).spaces from by rw [<- hK3];rfl] at hroo;generalize o8 (a1J (KV.K (⟨sh1,fr1,sl1,sp1,hand1,vsh1,vfr1,.slice psl sl1.length csl,.slice (some ⟨bs,0,none⟩) sp1.length cs⟩:KV)) sp (r x.s.areas).1).spaces=R at hroo hRE;by_cases h5:(sl.length:Int) < R
 ·rw [xe6 h5] at hRE;have hd2:decide ((sl.length:Int) < R)=true:=xi8 h5;rw [hRE]
  (focus ((with_reducible apply d9 _ _ _ (by kernel_rfl) (by kernel_rfl) hS);(repeat' (first|(first|(with_reducible apply g8 c9);rfl;rfl|(with_reducible apply i7);rfl;(intro wd hd;replace hd:St _ _ wd _:=hd;(apply Ld.sl c9;rfl;exact hd.blkC 0 rfl rfl));rfl)|(with_reducible apply s5);rfl;rfl;rfl;refine ⟨_,fun wd hd=>hroo _ _ hd,?_⟩));all_goals ((with_reducible apply k8);intro w' hS';clear hS;have hS:=hS';clear hS')))
  repeat' (first|(with_reducible apply d5 c9);rfl;rfl;rfl|(with_reducible apply v8 c9);rfl;rfl;exact (rfl:_=some [_,_,_,_,_,_,_]);rfl|refine yDn (by with_reducible constructor) ?_|(with_reducible apply i6);rfl;assumption|(with_reducible apply j6 hS);rfl;rfl;rfl;clear hS;intro g w' hS)
  (refine a1a rfl ?_)
  exact ⟨_,rfl,xd4 ⟨by omega,hS.one⟩⟩
 ·rw [xe7 h5] at hRE;have hd2:decide ((sl.length:Int) < R)=false:=xi7 h5;rw [hRE]
  (focus ((with_reducible apply d9 _ _ _ (by kernel_rfl) (by kernel_rfl) hS);(repeat' (first|(first|(with_reducible apply g8 c9);rfl;rfl|(with_reducible apply i7);rfl;(intro wd hd;replace hd:St _ _ wd _:=hd;(apply Ld.sl c9;rfl;exact hd.blkC 0 rfl rfl));rfl)|(with_reducible apply s5);rfl;rfl;rfl;refine ⟨_,fun wd hd=>hroo _ _ hd,?_⟩));all_goals ((with_reducible apply k8);intro w' hS';clear hS;have hS:=hS';clear hS')))
  repeat' (first|(with_reducible apply d5 c9);rfl;rfl;rfl|refine yDn (by with_reducible constructor) ?_|(with_reducible apply i9);rfl;assumption)
  (refine a1a rfl ?_)
  exact ⟨gw,rfl,xd1 ⟨sp,k3,rfl,rfl,hK3.trans (by rw [hxA]),hS.drop⟩⟩
end Go.Proofs.YtejnpppejalhfacGreat
