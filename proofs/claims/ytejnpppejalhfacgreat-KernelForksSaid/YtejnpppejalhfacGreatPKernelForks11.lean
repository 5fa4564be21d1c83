/- Texts that the proof stands on, one behind the other: Ke42, Ke43, Ke44, Ke33, Lk13, Ke34, Ke35, PlRun10, PlRun11, PlRun12, PlRun13, PlRun14. -/
import Derived.Test.YtejnpppejalhfacGreatPKernelForks10
set_option linter.unusedVariables false
set_option linter.unusedSimpArgs false
namespace Go.Proofs.YtejnpppejalhfacGreat
set_option maxRecDepth 100000
set_option maxHeartbeats 8000000
open Go.RowKit Go.Sort
theorem a18 {w:World} {k k':KV} (hK:KerV w k) (hK':KerV w k') (he:k.K=k'.K):Fn Tryz.prog 15 [.agg (kvC k).toArray,.agg (kvC k').toArray] w (RBf (.bool true) w):=by
 have b1:=hK.fr.bound;have b2:=hK.sl.bound;have b3:=hK.sp.bound;have b4:=hK.sh.sl.bound;obtain ⟨sh,fr,sl,sps,hand,vsh,vfr,vsl,vsp⟩:=k;obtain ⟨sh',fr',sl',sps',hand',vsh',vfr',vsl',vsp'⟩:=k';unfold KV.K at he;injection he with e1 e2 e3 e4 e5
 dsimp only at e1 e2 e3 e4 e5;subst e2 e3 e5;have hsame:=fun w1 (h:ShsV w1 sh vsh) (h':ShsV w1 sh' vsh')=>a5i h h' e1;have hl4:sps.length=sps'.length:=by have:=congrArg List.length e4;simpa using this
 obtain ⟨k1,k2,k3,k4,k5⟩:=hK;obtain ⟨m1,m2,m3,m4,m5⟩:=hK';dsimp only at b1 b2 b3 b4 k1 k2 k3 k4 k5 m1 m2 m3 m4 m5;obtain ⟨p1,c1,rfl⟩:=k1.sl.len;obtain ⟨p2,c2,rfl⟩:=k2.len;obtain ⟨p3,c3,rfl⟩:=k3.len;obtain ⟨p4,c4,rfl⟩:=k4.len;obtain ⟨q1,d1,rfl⟩:=m1.sl.len;obtain ⟨q2,d2,rfl⟩:=m2.len;obtain ⟨q3,d3,rfl⟩:=m3.len;obtain ⟨q4,d4,rfl⟩:=m4.len;unfold kvC;dsimp only;have z0:(!decide (hand=hand))=false:=by rw [xj1 rfl];rfl
 have z2:(!decide ((fr.length:Int)=fr.length))=false:=by rw [xj1 rfl];rfl
 have z3:(!decide ((sl.length:Int)=sl.length))=false:=by rw [xj1 rfl];rfl
 have z4:(!decide ((sps.length:Int)=sps'.length))=false:=by rw [xj1 (by omega)];rfl
 refine yEn Tryz.func15 Tryz.ntmps15 (by kernel_rfl) (by kernel_rfl) rfl rfl ?_;have hS:=St.start w
 repeat' (first|(with_reducible apply d5 c9);rfl;rfl;rfl|(with_reducible apply d6);rfl;(first|apply Ld.sc c9;rfl;(first|exact hS.blkC 0 rfl rfl|exact hS.blkC 1 rfl rfl)|apply Ld.sl c9;rfl;(first|exact hS.blkC 0 rfl rfl|exact hS.blkC 1 rfl rfl));rfl|refine yDn (by with_reducible constructor) ?_|((with_reducible apply j8);(iterate 4 rfl);first|rfl|assumption)|(with_reducible apply g6);rfl;(first|rfl|assumption);rfl;rfl|(with_reducible apply i5);rfl;assumption|(with_reducible apply j6 hS);rfl;rfl;rfl;clear hS;intro g w' hS|(with_reducible apply f8 hS);rfl;rfl;rfl;refine ⟨_,hsame _ (k1.now hS) (m1.now hS),?_⟩;clear hS;intro w' hS)
 refine a1p hS 5 [2,3] rfl fr.length (fun _=>True) 0 rfl (xf8 _) trivial ?_;rintro i w1 hi - hS';clear hS;have hS:=hS';clear hS';by_cases hlt:i < fr.length
 ·obtain ⟨f,hf⟩:=i3 (l:=fr) (i:=i) (by omega);have hrow:=f6 (f:=fmC) hf;obtain ⟨b,off,rfl,hro⟩:=k2.at_ (i:=i) hlt;obtain ⟨b',off',rfl,hro'⟩:=m2.at_ (i:=i) hlt;have heq:=b15 f f;rw [xj1 rfl] at heq
  repeat' (first|(with_reducible apply d5 c9);rfl;rfl;rfl|(with_reducible apply d6);rfl;(apply Ld.sl c9;rfl;exact hS.blkC 1 rfl rfl);rfl|refine yDn (by with_reducible constructor) ?_|(with_reducible apply d9);rfl;all_goals (intro hb hp;try (exfalso;omega)))
  (focus ((with_reducible apply f5 _ _ _ (by kernel_rfl) (by kernel_rfl) hS);(repeat' (first|(first|(with_reducible apply f9 c9);rfl;rfl|(with_reducible apply g8);rfl;(intro wd hd;replace hd:St _ _ wd _:=hd;(first|apply Ld.sl c9;rfl;(first|exact hd.blkC 0 rfl rfl|exact hd.blkC 1 rfl rfl)|apply Ld.st c9;rfl;exact hd.roR (by assumption) (by assumption);rfl));rfl|(with_reducible apply t4 c9);rfl;rfl;rfl;rfl;omega;rfl)|(with_reducible apply a4q);rfl;rfl;exact heq;rfl));all_goals ((with_reducible apply i9);intro w' hS';clear hS;have hS:=hS';clear hS')))
  repeat' (first|(with_reducible apply d5 c9);rfl;rfl;rfl|(with_reducible apply j0);rfl;rfl;omega;omega;rfl|refine yDn (by with_reducible constructor) ?_|(with_reducible apply i5);rfl;rfl)
  exact a0f (i + 1) (by exact Fr.sub_of rfl) (by omega) trivial (by omega) hS
 repeat' (first|(with_reducible apply d5 c9);rfl;rfl;rfl|(with_reducible apply d6);rfl;(apply Ld.sl c9;rfl;exact hS.blkC 1 rfl rfl);rfl|refine yDn (by with_reducible constructor) ?_|(with_reducible apply d9);rfl;all_goals (intro hb hp;try (exfalso;omega)))
 refine a1p hS 6 [2,3] rfl sl.length (fun _=>True) 0 rfl (xf8 _) trivial ?_;rintro i w1 hi - hS';clear hS;have hS:=hS';clear hS';by_cases hlt:i < sl.length
 ·obtain ⟨f,hf⟩:=i3 (l:=sl) (i:=i) (by omega);have hrow:=f6 (f:=swC) hf;obtain ⟨b,off,rfl,hro⟩:=k3.at_ (i:=i) hlt;obtain ⟨b',off',rfl,hro'⟩:=m3.at_ (i:=i) hlt;have heq:=b1i f f;rw [xj1 rfl] at heq
  repeat' (first|(with_reducible apply d5 c9);rfl;rfl;rfl|(with_reducible apply d6);rfl;(apply Ld.sl c9;rfl;exact hS.blkC 1 rfl rfl);rfl|refine yDn (by with_reducible constructor) ?_|(with_reducible apply d9);rfl;all_goals (intro hb hp;try (exfalso;omega)))
  (focus ((with_reducible apply f5 _ _ _ (by kernel_rfl) (by kernel_rfl) hS);(repeat' (first|(first|(with_reducible apply f9 c9);rfl;rfl|(with_reducible apply g8);rfl;(intro wd hd;replace hd:St _ _ wd _:=hd;(first|apply Ld.sl c9;rfl;(first|exact hd.blkC 0 rfl rfl|exact hd.blkC 1 rfl rfl)|apply Ld.st c9;rfl;exact hd.roR (by assumption) (by assumption);rfl));rfl|(with_reducible apply t4 c9);rfl;rfl;rfl;rfl;omega;rfl)|(with_reducible apply a4q);rfl;rfl;exact heq;rfl));all_goals ((with_reducible apply i9);intro w' hS';clear hS;have hS:=hS';clear hS')))
  repeat' (first|(with_reducible apply d5 c9);rfl;rfl;rfl|(with_reducible apply j0);rfl;rfl;omega;omega;rfl|refine yDn (by with_reducible constructor) ?_|(with_reducible apply i5);rfl;rfl)
  exact a0f (i + 1) (by exact Fr.sub_of rfl) (by omega) trivial (by omega) hS
 repeat' (first|(with_reducible apply d5 c9);rfl;rfl;rfl|(with_reducible apply d6);rfl;(apply Ld.sl c9;rfl;exact hS.blkC 1 rfl rfl);rfl|refine yDn (by with_reducible constructor) ?_|(with_reducible apply d9);rfl;all_goals (intro hb hp;try (exfalso;omega)))
 refine a1p hS 7 [2,3] rfl sps.length (fun _=>True) 0 rfl (xf8 _) trivial ?_;rintro i w1 hi - hS';clear hS;have hS:=hS';clear hS';by_cases hlt:i < sps.length;rotate_left
 ·repeat' (first|(with_reducible apply d5 c9);rfl;rfl;rfl|(with_reducible apply d6);rfl;(apply Ld.sl c9;rfl;exact hS.blkC 1 rfl rfl);rfl|refine yDn (by with_reducible constructor) ?_|(with_reducible apply d9);rfl;all_goals (intro hb hp;try (exfalso;omega)))
  (refine j5 rfl ?_)
  exact ⟨rfl,hS.sub (xi9 _)⟩
 obtain ⟨x,hx⟩:=i3 (l:=sps) (i:=i) (by omega);obtain ⟨y,hy⟩:=i3 (l:=sps') (i:=i) (by omega);have hxy:x.s=y.s:=by
  have h1:(sps.map (·.s))[i]?=some x.s:=f6 (f:=fun p:Sp=>p.s) hx;have h2:(sps'.map (·.s))[i]?=some y.s:=f6 (f:=fun p:Sp=>p.s) hy;rw [e4,h2] at h1;exact (Option.some.inj h1).symm
 have hrow:=f6 (f:=spC) hx;have hrow':=f6 (f:=spC) hy;obtain ⟨b,off,rfl,hro⟩:=k4.at_ (i:=i) hlt;obtain ⟨b',off',rfl,hro'⟩:=m4.at_ (i:=i) (by omega);have hxv:=k5 x (xc8 hx);have hyv:=m5 y (xc8 hy);have ha:=hxv.ar;have hen:=hxv.en;have ha':=hyv.ar;have hen':=hyv.en;obtain ⟨s,va,ve⟩:=x;obtain ⟨s',va',ve'⟩:=y;dsimp only at hxy ha hen ha' hen';subst hxy;have be:=hen.bound;obtain ⟨pa,ca,rfl⟩:=ha.len;obtain ⟨pe,ce,rfl⟩:=hen.len;obtain ⟨pa',ca',rfl⟩:=ha'.len;obtain ⟨pe',ce',rfl⟩:=hen'.len;unfold spC at hrow hrow';dsimp only at hrow hrow';have hsa:=fun w1 (h:Sl nF w1 4 (.slice pa s.areas.length ca) (s.areas.map arC)) (h':Sl nF w1 4 (.slice pa' s.areas.length ca') (s.areas.map arC))=>b2c h h';rw [xj1 rfl] at hsa;have z5:(!decide ((s.entries.length:Int)=s.entries.length))=false:=by rw [xj1 rfl];rfl
 have z6:(!decide (s.live=s.live))=false:=by rw [xj1 rfl];rfl
 repeat' (first|(with_reducible apply d5 c9);rfl;rfl;rfl|(with_reducible apply d6);rfl;(apply Ld.sl c9;rfl;exact hS.blkC 1 rfl rfl);rfl|refine yDn (by with_reducible constructor) ?_|(with_reducible apply d9);rfl;all_goals (intro hb hp;try (exfalso;omega)))
 refine a6q 14 rfl hS (by kernel_rfl) ?_;intro wh hh;clear hS;have hS:=hh;clear hh
 ((with_reducible apply k8 (nn 0) c9);rfl;kernel_rfl;exact (fun _ _ _ h=>h);exact hS;rfl;rfl)
 ((with_reducible apply t7 (nn 1));rfl;kernel_rfl;exact (fun _ _ _ h=>h);exact hS;rfl;(intro wd hd;replace hd:St _ _ wd _:=hd;(apply Ld.sl c9;rfl;exact hd.blkC 1 rfl rfl));rfl)
 ((with_reducible apply k8 (nn 2) c9);rfl;kernel_rfl;exact (fun _ _ _ h=>h);exact hS;rfl;rfl)
 ((with_reducible apply b33 (nn 3) c9);rfl;kernel_rfl;kernel_rfl;kernel_rfl;exact (fun _ _ _ _ h=>h);exact hS;rfl;rfl;rfl;rfl;omega;rfl)
 ((with_reducible apply t7 (nn 4));rfl;kernel_rfl;exact (fun _ _ _ h=>h);exact hS;rfl;(intro wd hd;replace hd:St _ _ wd _:=hd;(apply Ld.st c9;rfl;exact hd.roR (by assumption) (by assumption);rfl));rfl)
 ((with_reducible apply k8 (nn 5) c9);rfl;kernel_rfl;exact (fun _ _ _ h=>h);exact hS;rfl;rfl)
 ((with_reducible apply t7 (nn 6));rfl;kernel_rfl;exact (fun _ _ _ h=>h);exact hS;rfl;(intro wd hd;replace hd:St _ _ wd _:=hd;(apply Ld.sl c9;rfl;exact hd.blkC 0 rfl rfl));rfl)
 ((with_reducible apply k8 (nn 7) c9);rfl;kernel_rfl;exact (fun _ _ _ h=>h);exact hS;rfl;rfl)
 ((with_reducible apply b33 (nn 8) c9);rfl;kernel_rfl;kernel_rfl;kernel_rfl;exact (fun _ _ _ _ h=>h);exact hS;rfl;rfl;rfl;rfl;omega;rfl)
 ((with_reducible apply t7 (nn 9));rfl;kernel_rfl;exact (fun _ _ _ h=>h);exact hS;rfl;(intro wd hd;replace hd:St _ _ wd _:=hd;(apply Ld.st c9;rfl;exact hd.roR (by assumption) (by assumption);rfl));rfl)
 refine a3f (i:=10) (j:=11) (by kernel_rfl) ?_ ?_
 ·refine k7 rfl (r5 hS c9 rfl rfl) rfl ?_;rintro _ w' ⟨g,rfl,hS'⟩;clear hS;have hS:=hS';clear hS';refine ⟨hS.drop,?_⟩;refine o7 (i:=11) (by kernel_rfl) ?_;refine k7 rfl (r5 hS c9 rfl rfl) rfl ?_;rintro _ w' ⟨g,rfl,hS'⟩;clear hS;have hS:=hS';clear hS';refine ⟨hS.drop.drop,?_⟩;refine o7 (i:=12) (by kernel_rfl) ?_;refine s7 (Φ:=fun _ w'=>St _ _ w' _) rfl (o4 hS c9 (i:=1) rfl rfl rfl rfl rfl (xf5 rfl) (xc6.1 rfl)) ?_;intro _ w' hS';simp only [List.set] at hS';clear hS;have hS:=hS';clear hS';refine ⟨hS.drop.drop,?_⟩;refine o7 (i:=13) (by kernel_rfl) ?_;refine s7 (Φ:=fun _ w'=>St _ _ w' _) rfl (o4 hS c9 (i:=0) rfl rfl rfl rfl rfl (xf5 rfl) (xc6.1 rfl)) ?_;intro _ w' hS';simp only [List.set] at hS';clear hS;have hS:=hS';clear hS';refine ⟨hS.drop.drop,?_⟩;refine w8 (by kernel_rfl) ?_
  repeat' (first|(with_reducible apply d5 c9);rfl;rfl;rfl|(with_reducible apply d6);rfl;(first|apply Ld.sc c9;rfl;(first|exact hS.blkC 0 rfl rfl|exact hS.blkC 1 rfl rfl)|apply Ld.sl c9;rfl;(first|exact hS.blkC 0 rfl rfl|exact hS.blkC 1 rfl rfl));rfl|(with_reducible apply b3q c9);(iterate 4 rfl)|refine yDn (by with_reducible constructor) ?_|((with_reducible apply j8);(iterate 4 rfl);first|rfl|assumption)|(with_reducible apply g6);rfl;(first|rfl|assumption);rfl;rfl|(with_reducible apply i5);rfl;assumption|(with_reducible apply f8 hS);rfl;rfl;rfl;refine ⟨_,hsa _ (ha.now hS) (ha'.now hS),?_⟩;clear hS;intro w' hS)
  refine a1p hS 10 [2,3,7,8,9] rfl s.entries.length (fun _=>True) 0 rfl (xf8 _) trivial ?_;rintro j w3 hj - hS';clear hS;have hS:=hS';clear hS';by_cases hjl:j < s.entries.length
  ·obtain ⟨e,he⟩:=i3 (l:=s.entries) (i:=j) (by omega);have hrow2:=f6 (f:=enC) he;obtain ⟨b2,off2,rfl,hro2⟩:=hen.at_ (i:=j) hjl;obtain ⟨b3,off3,rfl,hro3⟩:=hen'.at_ (i:=j) hjl;have heq:=b40 e e;rw [xj1 rfl] at heq
   repeat' (first|(with_reducible apply d5 c9);rfl;rfl;rfl|(with_reducible apply d6);rfl;(apply Ld.sl c9;rfl;exact hS.blkC 1 rfl rfl);rfl|refine yDn (by with_reducible constructor) ?_|(with_reducible apply d9);rfl;all_goals (intro hb hp;try (exfalso;omega)))
   (focus ((with_reducible apply f5 _ _ _ (by kernel_rfl) (by kernel_rfl) hS);(repeat' (first|(first|(with_reducible apply f9 c9);rfl;rfl|(with_reducible apply g8);rfl;(intro wd hd;replace hd:St _ _ wd _:=hd;(first|apply Ld.sl c9;rfl;(first|exact hd.blkC 0 rfl rfl|exact hd.blkC 1 rfl rfl)|apply Ld.st c9;rfl;exact hd.roR (by assumption) (by assumption);rfl));rfl|(with_reducible apply t4 c9);rfl;rfl;rfl;rfl;omega;rfl)|(with_reducible apply a4q);rfl;rfl;exact heq;rfl));all_goals ((with_reducible apply i9);intro w' hS';clear hS;have hS:=hS';clear hS')))
   repeat' (first|(with_reducible apply d5 c9);rfl;rfl;rfl|(with_reducible apply j0);rfl;rfl;omega;omega;rfl|refine yDn (by with_reducible constructor) ?_|(with_reducible apply i5);rfl;rfl)
   exact a0f (j + 1) (by exact Fr.sub_of rfl) (by omega) trivial (by omega) hS
  ·repeat' (first|(with_reducible apply d5 c9);rfl;rfl;rfl|(with_reducible apply d6);rfl;(apply Ld.sl c9;rfl;exact hS.blkC 1 rfl rfl);rfl|(with_reducible apply j0);rfl;rfl;omega;omega;rfl|refine yDn (by with_reducible constructor) ?_|(with_reducible apply d9);rfl;all_goals (intro hb hp;try (exfalso;omega)))
   exact a0f (i + 1) (by exact Fr.sub_of rfl) (by omega) trivial (by omega) hS.drop.drop
 ·refine k7 rfl (r5 hS c9 rfl rfl) rfl ?_;rintro _ w' ⟨g,rfl,hS'⟩;clear hS;have hS:=hS';clear hS';refine ⟨hS.drop,?_⟩;refine o7 (i:=10) (by kernel_rfl) ?_;refine k7 rfl (r5 hS c9 rfl rfl) rfl ?_;rintro _ w' ⟨g,rfl,hS'⟩;clear hS;have hS:=hS';clear hS';refine ⟨hS.drop.drop,?_⟩;refine o7 (i:=12) (by kernel_rfl) ?_;refine s7 (Φ:=fun _ w'=>St _ _ w' _) rfl (o4 hS c9 (i:=0) rfl rfl rfl rfl rfl (xf5 rfl) (xc6.1 rfl)) ?_;intro _ w' hS';simp only [List.set] at hS';clear hS;have hS:=hS';clear hS';refine ⟨hS.drop.drop,?_⟩;refine o7 (i:=13) (by kernel_rfl) ?_;refine s7 (Φ:=fun _ w'=>St _ _ w' _) rfl (o4 hS c9 (i:=1) rfl rfl rfl rfl rfl (xf5 rfl) (xc6.1 rfl)) ?_;intro _ w' hS';simp only [List.set] at hS';clear hS;have hS:=hS';clear hS';refine ⟨hS.drop.drop,?_⟩;refine w8 (by kernel_rfl) ?_
  repeat' (first|(with_reducible apply d5 c9);rfl;rfl;rfl|(with_reducible apply d6);rfl;(first|apply Ld.sc c9;rfl;(first|exact hS.blkC 0 rfl rfl|exact hS.blkC 1 rfl rfl)|apply Ld.sl c9;rfl;(first|exact hS.blkC 0 rfl rfl|exact hS.blkC 1 rfl rfl));rfl|(with_reducible apply b3q c9);(iterate 4 rfl)|refine yDn (by with_reducible constructor) ?_|((with_reducible apply j8);(iterate 4 rfl);first|rfl|assumption)|(with_reducible apply g6);rfl;(first|rfl|assumption);rfl;rfl|(with_reducible apply i5);rfl;assumption|(with_reducible apply f8 hS);rfl;rfl;rfl;refine ⟨_,hsa _ (ha.now hS) (ha'.now hS),?_⟩;clear hS;intro w' hS)
  refine a1p hS 10 [2,3,7,8,9] rfl s.entries.length (fun _=>True) 0 rfl (xf8 _) trivial ?_;rintro j w3 hj - hS';clear hS;have hS:=hS';clear hS';by_cases hjl:j < s.entries.length
  ·obtain ⟨e,he⟩:=i3 (l:=s.entries) (i:=j) (by omega);have hrow2:=f6 (f:=enC) he;obtain ⟨b2,off2,rfl,hro2⟩:=hen.at_ (i:=j) hjl;obtain ⟨b3,off3,rfl,hro3⟩:=hen'.at_ (i:=j) hjl;have heq:=b40 e e;rw [xj1 rfl] at heq
   repeat' (first|(with_reducible apply d5 c9);rfl;rfl;rfl|(with_reducible apply d6);rfl;(apply Ld.sl c9;rfl;exact hS.blkC 0 rfl rfl);rfl|refine yDn (by with_reducible constructor) ?_|(with_reducible apply d9);rfl;all_goals (intro hb hp;try (exfalso;omega)))
   (focus ((with_reducible apply f5 _ _ _ (by kernel_rfl) (by kernel_rfl) hS);(repeat' (first|(first|(with_reducible apply f9 c9);rfl;rfl|(with_reducible apply g8);rfl;(intro wd hd;replace hd:St _ _ wd _:=hd;(first|apply Ld.sl c9;rfl;(first|exact hd.blkC 0 rfl rfl|exact hd.blkC 1 rfl rfl)|apply Ld.st c9;rfl;exact hd.roR (by assumption) (by assumption);rfl));rfl|(with_reducible apply t4 c9);rfl;rfl;rfl;rfl;omega;rfl)|(with_reducible apply a4q);rfl;rfl;exact heq;rfl));all_goals ((with_reducible apply i9);intro w' hS';clear hS;have hS:=hS';clear hS')))
   repeat' (first|(with_reducible apply d5 c9);rfl;rfl;rfl|(with_reducible apply j0);rfl;rfl;omega;omega;rfl|refine yDn (by with_reducible constructor) ?_|(with_reducible apply i5);rfl;rfl)
   exact a0f (j + 1) (by exact Fr.sub_of rfl) (by omega) trivial (by omega) hS
  ·repeat' (first|(with_reducible apply d5 c9);rfl;rfl;rfl|(with_reducible apply d6);rfl;(apply Ld.sl c9;rfl;exact hS.blkC 0 rfl rfl);rfl|(with_reducible apply j0);rfl;rfl;omega;omega;rfl|refine yDn (by with_reducible constructor) ?_|(with_reducible apply d9);rfl;all_goals (intro hb hp;try (exfalso;omega)))
   exact a0f (i + 1) (by exact Fr.sub_of rfl) (by omega) trivial (by omega) hS.drop.drop
theorem Came.keep {w w':World} {k:KV} (h:Came w w' k):∃ Δ,St nF w w' Δ/\∀ {F:Nat->Prop} {w0 w2:World} {Γ:List Asr},St F w0 w2 Γ->(∀ A ∈ Δ,A ∈ Γ)->KerV w2 k:=by
 rcases h with ⟨rfl,h⟩|h
 ·exact ⟨[],h,fun _ _=>b3c _⟩
 ·refine ⟨a32 k,h,fun {F w0 w2 Γ} hS hm=>?_⟩;have hmem:∀ {e sz:Nat} {v:Value} {rows:List (List Value)},Asr.row e sz v rows ∈ a32 k->Sl nF w2 sz v rows:=fun h=>hS.slMem (hm _ h);have hr:∀ {A},A ∈ v7 k->A ∈ a32 k:=fun h=>xc5 _ (xc5 _ (xc5 _ (xe2 _ h)));refine ⟨⟨hmem (e:=142) (hr xc4),fun p hp=>?_⟩,hmem (e:=84) xc4,hmem (e:=88) (xc5 _ xc4),hmem (e:=78) (xc5 _ (xc5 _ xc4)),fun p hp=>⟨?_,?_⟩⟩
  ·exact hmem (e:=156) (hr (xc5 _ (xe1 _ (xi8.2 ⟨p,hp,rfl⟩))))
  ·exact hmem (e:=136) (hr (xc5 _ (xe2 _ (xi8.2 ⟨p,hp,rfl⟩))))
  ·exact hmem (e:=82) (xc5 _ (xc5 _ (xc5 _ (xe1 _ (xi8.2 ⟨p,hp,rfl⟩)))))
def rkS (g:Nat) (k:KV):List Asr:=.blk g (kvC k)::frA k::slA k::a14 k::k.sp.map t5
theorem a9j {F:Nat->Prop} {w0 w:World} {Γ:List Asr} {g:Nat} {k:KV} (hS0:St F w0 w (rkS g k++Γ)) {e:En} (he:a5X k e):Fn Tryz.prog 52 [.pointer (some ⟨g,0,none⟩),.agg (enC e).toArray] w (fun v w'=>v=.tuple #[]/\St (fps (rkS g k)) w w' (rkS g (x8 k e))):=by
 have hS:=St.startM hS0;obtain ⟨hn,hfr,hsl⟩:=he;generalize fps (rkS g k)=G at hS |-;obtain ⟨sh,fr,sl,sps,hand,vsh,vfr,vsl,vsp⟩:=k;dsimp only at hn hfr hsl;unfold rkS kvC frA slA a14 at hS;dsimp only [List.cons_append,List.nil_append] at hS;unfold enC;rcases hn with ⟨hk,i,hi,hil⟩|⟨hk,i,hi,hil⟩
 ·have hlv:x8 ⟨sh,fr,sl,sps,hand,vsh,vfr,vsl,vsp⟩ e=⟨sh,fr.set i (a1A (a0o fr i)),sl,sps,hand,vsh,vfr,vsl,vsp⟩:=by unfold x8;rw [xe6 hk,hi];rfl
  rw [hlv];obtain ⟨f,hf⟩:=i3 (l:=fr) (i:=i) (by omega);have hrf:=hfr f (xc8 hf);rw [a1q hf];have hrow:=f6 (f:=fmC) hf;obtain ⟨pf,cf,rfl⟩:=hS.rowSlice 1 rfl;rw [xh8] at hS;obtain ⟨gf,rfl⟩:=hS.rowSome 1 rfl (by omega);have hd:decide (e.kind=1)=true:=xj1 hk;obtain ⟨epg,ekd,eat⟩:=e;dsimp only at hd hi hk hlv |-;subst hi;unfold fmC at hrow;unfold a1A;have e1:(fr.map fmC).set i (n8 [.string ⟨f.data.toArray⟩,.int .i64 f.refs,.bool f.dirty,.bool f.seen] 1 [.int .i64 (f.refs - 1)])=(fr.set i ⟨f.data,f.refs - 1,f.dirty,f.seen⟩).map fmC:=by rw [xj2];rfl
  have hrow1:((fr.set i ⟨f.data,f.refs - 1,f.dirty,f.seen⟩).map fmC)[i]?=some [.string ⟨f.data.toArray⟩,.int .i64 (f.refs - 1),.bool f.dirty,.bool f.seen]:=f6 (f:=fmC) (a42 (x:=(⟨f.data,f.refs - 1,f.dirty,f.seen⟩:Fm)) hil);by_cases h0:f.refs - 1=0
  ·have hd0:decide (f.refs - 1=0)=true:=xj1 h0;rw [xe6 h0];have e2:((fr.set i ⟨f.data,f.refs - 1,f.dirty,f.seen⟩).map fmC).set i (n8 [.string ⟨f.data.toArray⟩,.int .i64 (f.refs - 1),.bool f.dirty,.bool f.seen] 0 [.string ⟨#[]⟩,.int .i64 0,.bool false,.bool false])=(fr.set i fm0).map fmC:=by
    rw [xj2,xj2,xj3];rfl
   refine yEn Tryz.func52 Tryz.ntmps52 (by kernel_rfl) (by kernel_rfl) rfl rfl ?_
   repeat' (first|(with_reducible apply d5 c9);rfl;rfl;rfl|(with_reducible apply d6);rfl;(apply Ld.sc c9;rfl;exact hS.blkC 0 rfl rfl);rfl|refine yDn (by with_reducible constructor) ?_|(with_reducible apply i4);rfl;assumption|(with_reducible apply j6 hS);rfl;rfl;rfl;clear hS;intro g w' hS)
   (focus ((with_reducible apply a0Z _ _ _ 12 (by kernel_rfl) (by kernel_rfl) hS);(simp only [xi4,xi5,xh9,xi0]);(repeat' ((first|(with_reducible apply a1h);rfl;rfl;omega;omega;rfl|(with_reducible apply f9 c9);rfl;rfl|(with_reducible apply g8);rfl;(intro wd hd;replace hd:St _ _ wd _:=hd;(first|apply Ld.sc c9;rfl;(first|exact hd.blkC 0 rfl rfl|exact hd.rowCj 2 rfl (by assumption) rfl)|apply Ld.sl c9;rfl;exact hd.blkC 1 rfl rfl));rfl|(with_reducible apply t4 c9);rfl;rfl;rfl;rfl;omega;rfl)));all_goals ((with_reducible apply i9);intro w' hS';clear hS;have hS:=hS';clear hS')))
   repeat' (first|refine yDn (by with_reducible constructor) ?_|(with_reducible apply t2 hS c9 (i:=2));(iterate 4 rfl);assumption;(iterate 5 rfl);intro w' hS';simp only [List.set] at hS';clear hS;have hS:=hS';clear hS')
   rw [e1] at hS
   (focus ((with_reducible apply f5 _ _ _ (by kernel_rfl) (by kernel_rfl) hS);(repeat' ((first|(with_reducible apply f9 c9);rfl;rfl|(with_reducible apply g8);rfl;(intro wd hd;replace hd:St _ _ wd _:=hd;(first|apply Ld.sc c9;rfl;(first|exact hd.blkC 0 rfl rfl|exact hd.rowCj 2 rfl (by assumption) rfl)|apply Ld.sl c9;rfl;exact hd.blkC 1 rfl rfl));rfl|(with_reducible apply t4 c9);rfl;rfl;rfl;rfl;omega;rfl)));all_goals ((with_reducible apply i9);intro w' hS';clear hS;have hS:=hS';clear hS')))
   repeat' (first|refine yDn (by with_reducible constructor) ?_|(with_reducible apply i4);rfl;assumption)
   (focus ((with_reducible apply a0Z _ _ _ 8 (by kernel_rfl) (by kernel_rfl) hS);(simp only [xi4,xi5,xh9,xi0]);(repeat' ((first|(with_reducible apply f9 c9);rfl;rfl|(with_reducible apply g8);rfl;(intro wd hd;replace hd:St _ _ wd _:=hd;(first|apply Ld.sc c9;rfl;exact hd.blkC 0 rfl rfl|apply Ld.sl c9;rfl;exact hd.blkC 1 rfl rfl));rfl|(with_reducible apply t4 c9);rfl;rfl;rfl;rfl;omega;rfl|(with_reducible apply a37 c9);rfl;rfl;exact (rfl:_=some [_,_,_,_]);rfl)));all_goals ((with_reducible apply i9);intro w' hS';clear hS;have hS:=hS';clear hS')))
   repeat' (first|refine yDn (by with_reducible constructor) ?_|(with_reducible apply a0E hS c9 (i:=2));(iterate 4 rfl);assumption;(iterate 5 rfl);intro w' hS';simp only [List.set] at hS';clear hS;have hS:=hS';clear hS')
   rw [e2] at hS
   (refine b2P rfl ?_)
   exact ⟨rfl,by rw [xh8];exact hS.drop⟩
  ·have hd0:decide (f.refs - 1=0)=false:=xj4 h0;rw [xe7 h0];refine yEn Tryz.func52 Tryz.ntmps52 (by kernel_rfl) (by kernel_rfl) rfl rfl ?_
   repeat' (first|(with_reducible apply d5 c9);rfl;rfl;rfl|(with_reducible apply d6);rfl;(apply Ld.sc c9;rfl;exact hS.blkC 0 rfl rfl);rfl|refine yDn (by with_reducible constructor) ?_|(with_reducible apply i4);rfl;assumption|(with_reducible apply j6 hS);rfl;rfl;rfl;clear hS;intro g w' hS)
   (focus ((with_reducible apply a0Z _ _ _ 12 (by kernel_rfl) (by kernel_rfl) hS);(simp only [xi4,xi5,xh9,xi0]);(repeat' ((first|(with_reducible apply a1h);rfl;rfl;omega;omega;rfl|(with_reducible apply f9 c9);rfl;rfl|(with_reducible apply g8);rfl;(intro wd hd;replace hd:St _ _ wd _:=hd;(first|apply Ld.sc c9;rfl;(first|exact hd.blkC 0 rfl rfl|exact hd.rowCj 2 rfl (by assumption) rfl)|apply Ld.sl c9;rfl;exact hd.blkC 1 rfl rfl));rfl|(with_reducible apply t4 c9);rfl;rfl;rfl;rfl;omega;rfl)));all_goals ((with_reducible apply i9);intro w' hS';clear hS;have hS:=hS';clear hS')))
   repeat' (first|refine yDn (by with_reducible constructor) ?_|(with_reducible apply t2 hS c9 (i:=2));(iterate 4 rfl);assumption;(iterate 5 rfl);intro w' hS';simp only [List.set] at hS';clear hS;have hS:=hS';clear hS')
   rw [e1] at hS
   (focus ((with_reducible apply f5 _ _ _ (by kernel_rfl) (by kernel_rfl) hS);(repeat' ((first|(with_reducible apply f9 c9);rfl;rfl|(with_reducible apply g8);rfl;(intro wd hd;replace hd:St _ _ wd _:=hd;(first|apply Ld.sc c9;rfl;(first|exact hd.blkC 0 rfl rfl|exact hd.rowCj 2 rfl (by assumption) rfl)|apply Ld.sl c9;rfl;exact hd.blkC 1 rfl rfl));rfl|(with_reducible apply t4 c9);rfl;rfl;rfl;rfl;omega;rfl)));all_goals ((with_reducible apply i9);intro w' hS';clear hS;have hS:=hS';clear hS')))
   repeat' (first|refine yDn (by with_reducible constructor) ?_|(with_reducible apply i5);rfl;assumption)
   (refine b2P rfl ?_)
   exact ⟨rfl,by rw [xh8];exact hS.drop⟩
 ·have hlv:x8 ⟨sh,fr,sl,sps,hand,vsh,vfr,vsl,vsp⟩ e=⟨sh,fr,sl.set i (a1D (a0C sl i)),sps,hand,vsh,vfr,vsl,vsp⟩:=by unfold x8;rw [xe7 hk,hi];rfl
  rw [hlv];obtain ⟨f,hf⟩:=i3 (l:=sl) (i:=i) (by omega);have hrf:=hsl f (xc8 hf);rw [a1i hf];have hrow:=f6 (f:=swC) hf;obtain ⟨pf,cf,rfl⟩:=hS.rowSlice 2 rfl;rw [xh8] at hS;obtain ⟨gf,rfl⟩:=hS.rowSome 2 rfl (by omega);have hd:decide (e.kind=1)=false:=xj4 hk;obtain ⟨epg,ekd,eat⟩:=e;dsimp only at hd hi hk hlv |-;subst hi;unfold swC at hrow;unfold a1D;have e1:(sl.map swC).set i (n8 [.string ⟨f.data.toArray⟩,.int .i64 f.refs] 1 [.int .i64 (f.refs - 1)])=(sl.set i ⟨f.data,f.refs - 1⟩).map swC:=by rw [xj2];rfl
  have hrow1:((sl.set i ⟨f.data,f.refs - 1⟩).map swC)[i]?=some [.string ⟨f.data.toArray⟩,.int .i64 (f.refs - 1)]:=f6 (f:=swC) (a42 (x:=(⟨f.data,f.refs - 1⟩:Sw)) hil);by_cases h0:f.refs - 1=0
  ·have hd0:decide (f.refs - 1=0)=true:=xj1 h0;rw [xe6 h0];have e2:((sl.set i ⟨f.data,f.refs - 1⟩).map swC).set i (n8 [.string ⟨f.data.toArray⟩,.int .i64 (f.refs - 1)] 0 [.string ⟨#[]⟩,.int .i64 0])=(sl.set i sw0).map swC:=by
    rw [xj2,xj2,xj3];rfl
   refine yEn Tryz.func52 Tryz.ntmps52 (by kernel_rfl) (by kernel_rfl) rfl rfl ?_
   repeat' (first|(with_reducible apply d5 c9);rfl;rfl;rfl|(with_reducible apply d6);rfl;(apply Ld.sc c9;rfl;exact hS.blkC 0 rfl rfl);rfl|refine yDn (by with_reducible constructor) ?_|(with_reducible apply i5);rfl;assumption|(with_reducible apply j6 hS);rfl;rfl;rfl;clear hS;intro g w' hS)
   (focus ((with_reducible apply a0Z _ _ _ 12 (by kernel_rfl) (by kernel_rfl) hS);(simp only [xi4,xi5,xh9,xi0]);(repeat' ((first|(with_reducible apply a1h);rfl;rfl;omega;omega;rfl|(with_reducible apply f9 c9);rfl;rfl|(with_reducible apply g8);rfl;(intro wd hd;replace hd:St _ _ wd _:=hd;(first|apply Ld.sc c9;rfl;(first|exact hd.blkC 0 rfl rfl|exact hd.rowCj 3 rfl (by assumption) rfl)|apply Ld.sl c9;rfl;exact hd.blkC 1 rfl rfl));rfl|(with_reducible apply t4 c9);rfl;rfl;rfl;rfl;omega;rfl)));all_goals ((with_reducible apply i9);intro w' hS';clear hS;have hS:=hS';clear hS')))
   repeat' (first|refine yDn (by with_reducible constructor) ?_|(with_reducible apply t2 hS c9 (i:=3));(iterate 4 rfl);assumption;(iterate 5 rfl);intro w' hS';simp only [List.set] at hS';clear hS;have hS:=hS';clear hS')
   rw [e1] at hS
   (focus ((with_reducible apply f5 _ _ _ (by kernel_rfl) (by kernel_rfl) hS);(repeat' ((first|(with_reducible apply f9 c9);rfl;rfl|(with_reducible apply g8);rfl;(intro wd hd;replace hd:St _ _ wd _:=hd;(first|apply Ld.sc c9;rfl;(first|exact hd.blkC 0 rfl rfl|exact hd.rowCj 3 rfl (by assumption) rfl)|apply Ld.sl c9;rfl;exact hd.blkC 1 rfl rfl));rfl|(with_reducible apply t4 c9);rfl;rfl;rfl;rfl;omega;rfl)));all_goals ((with_reducible apply i9);intro w' hS';clear hS;have hS:=hS';clear hS')))
   repeat' (first|refine yDn (by with_reducible constructor) ?_|(with_reducible apply i4);rfl;assumption)
   (focus ((with_reducible apply a0Z _ _ _ 8 (by kernel_rfl) (by kernel_rfl) hS);(simp only [xi4,xi5,xh9,xi0]);(repeat' ((first|(with_reducible apply f9 c9);rfl;rfl|(with_reducible apply g8);rfl;(intro wd hd;replace hd:St _ _ wd _:=hd;(first|apply Ld.sc c9;rfl;exact hd.blkC 0 rfl rfl|apply Ld.sl c9;rfl;exact hd.blkC 1 rfl rfl));rfl|(with_reducible apply t4 c9);rfl;rfl;rfl;rfl;omega;rfl|(with_reducible apply a37 c9);rfl;rfl;exact (rfl:_=some [_,_]);rfl)));all_goals ((with_reducible apply i9);intro w' hS';clear hS;have hS:=hS';clear hS')))
   repeat' (first|refine yDn (by with_reducible constructor) ?_|(with_reducible apply a0E hS c9 (i:=3));(iterate 4 rfl);assumption;(iterate 5 rfl);intro w' hS';simp only [List.set] at hS';clear hS;have hS:=hS';clear hS')
   rw [e2] at hS
   (refine b0U rfl ?_)
   exact ⟨rfl,by rw [xh8];exact hS.drop⟩
  ·have hd0:decide (f.refs - 1=0)=false:=xj4 h0;rw [xe7 h0];refine yEn Tryz.func52 Tryz.ntmps52 (by kernel_rfl) (by kernel_rfl) rfl rfl ?_
   repeat' (first|(with_reducible apply d5 c9);rfl;rfl;rfl|(with_reducible apply d6);rfl;(apply Ld.sc c9;rfl;exact hS.blkC 0 rfl rfl);rfl|refine yDn (by with_reducible constructor) ?_|(with_reducible apply i5);rfl;assumption|(with_reducible apply j6 hS);rfl;rfl;rfl;clear hS;intro g w' hS)
   (focus ((with_reducible apply a0Z _ _ _ 12 (by kernel_rfl) (by kernel_rfl) hS);(simp only [xi4,xi5,xh9,xi0]);(repeat' ((first|(with_reducible apply a1h);rfl;rfl;omega;omega;rfl|(with_reducible apply f9 c9);rfl;rfl|(with_reducible apply g8);rfl;(intro wd hd;replace hd:St _ _ wd _:=hd;(first|apply Ld.sc c9;rfl;(first|exact hd.blkC 0 rfl rfl|exact hd.rowCj 3 rfl (by assumption) rfl)|apply Ld.sl c9;rfl;exact hd.blkC 1 rfl rfl));rfl|(with_reducible apply t4 c9);rfl;rfl;rfl;rfl;omega;rfl)));all_goals ((with_reducible apply i9);intro w' hS';clear hS;have hS:=hS';clear hS')))
   repeat' (first|refine yDn (by with_reducible constructor) ?_|(with_reducible apply t2 hS c9 (i:=3));(iterate 4 rfl);assumption;(iterate 5 rfl);intro w' hS';simp only [List.set] at hS';clear hS;have hS:=hS';clear hS')
   rw [e1] at hS
   (focus ((with_reducible apply f5 _ _ _ (by kernel_rfl) (by kernel_rfl) hS);(repeat' ((first|(with_reducible apply f9 c9);rfl;rfl|(with_reducible apply g8);rfl;(intro wd hd;replace hd:St _ _ wd _:=hd;(first|apply Ld.sc c9;rfl;(first|exact hd.blkC 0 rfl rfl|exact hd.rowCj 3 rfl (by assumption) rfl)|apply Ld.sl c9;rfl;exact hd.blkC 1 rfl rfl));rfl|(with_reducible apply t4 c9);rfl;rfl;rfl;rfl;omega;rfl)));all_goals ((with_reducible apply i9);intro w' hS';clear hS;have hS:=hS';clear hS')))
   repeat' (first|refine yDn (by with_reducible constructor) ?_|(with_reducible apply i5);rfl;assumption)
   (refine b0U rfl ?_)
   exact ⟨rfl,by rw [xh8];exact hS.drop⟩
def a4Y (f:Fm):Fm:=⟨f.data,f.refs + 1,f.dirty,f.seen⟩
def a4B (s:Sw):Sw:=⟨s.data,s.refs + 1⟩
def b2J (K:Ker) (e:En):Ker:=if e.kind=1 then ⟨K.sheets,K.frames.set e.at_.toNat (a4Y (a0o K.frames e.at_.toNat)),K.slots,K.spaces,K.hand⟩ else ⟨K.sheets,K.frames,K.slots.set e.at_.toNat (a4B (a0C K.slots e.at_.toNat)),K.spaces,K.hand⟩
def r6 (k:KV) (e:En):KV:=if e.kind=1 then ⟨k.sh,k.fr.set e.at_.toNat (a4Y (a0o k.fr e.at_.toNat)),k.sl,k.sp,k.hand,k.vsh,k.vfr,k.vsl,k.vsp⟩ else ⟨k.sh,k.fr,k.sl.set e.at_.toNat (a4B (a0C k.sl e.at_.toNat)),k.sp,k.hand,k.vsh,k.vfr,k.vsl,k.vsp⟩
theorem a6e:∀ {l:List Sc},(∀ s ∈ l,0<=r9 s.areas)->0<=o6 l
 |[],_=>xj0 0
 |s::l,h=>by
  have h1:=h s xc4;have h2:=a6e (l:=l) fun x hx=>h x (xc5 _ hx);have e:o6 (s::l)=r9 s.areas + o6 l:=by unfold o6;simp
  omega
theorem b3G (k:KV) (e:En):(r6 k e).K=b2J k.K e:=by
 unfold r6 b2J
 split <;> rfl
def a6U (K:Ker) (sp:Nat):Ker :=
 let K1:=(x5 K sp).foldl b2J K
 ⟨K1.sheets,K1.frames,K1.slots,K1.spaces++[a0l K sp],K1.hand⟩
def a24 (K:Ker) (space:Int):Int:=if t9 K space=0 then (if K.spaces.length=4 then 2 else if (K.slots.length:Int) < o6 K.spaces + r9 (p9 K space.toNat) then 8 else 0) else t9 K space
def a7s (K:Ker) (space:Int):Ker:=if a24 K space=0 then a6U K space.toNat else b2Z
def a6Q (K:Ker) (space:Int):Int:=if a24 K space=0 then (K.spaces.length:Nat) else 0
theorem a50 (l:List En):∀ (k:KV),(l.foldl r6 k).K=l.foldl b2J k.K:=by
 induction l with
 |nil=>intro k;rfl
 |cons e l ih=>intro k;rw [xf4,ih,b3G];rfl
structure IncSame (k k':KV):Prop where
 sh:k'.sh=k.sh
 sp:k'.sp=k.sp
 hand:k'.hand=k.hand
 vsh:k'.vsh=k.vsh
 vfr:k'.vfr=k.vfr
 vsl:k'.vsl=k.vsl
 vsp:k'.vsp=k.vsp
 nfr:k'.fr.length=k.fr.length
 nsl:k'.sl.length=k.sl.length
theorem a9f (k:KV) (e:En):IncSame k (r6 k e):=by
 unfold r6
 split
 ·exact ⟨rfl,rfl,rfl,rfl,rfl,rfl,rfl,xa7,rfl⟩
 ·exact ⟨rfl,rfl,rfl,rfl,rfl,rfl,rfl,rfl,xa7⟩
theorem IncSame.trans {a b c:KV} (h:IncSame a b) (h2:IncSame b c):IncSame a c:=⟨h2.sh.trans h.sh,h2.sp.trans h.sp,h2.hand.trans h.hand,h2.vsh.trans h.vsh,h2.vfr.trans h.vfr,h2.vsl.trans h.vsl,h2.vsp.trans h.vsp,h2.nfr.trans h.nfr,h2.nsl.trans h.nsl⟩
def RefsB (k:KV) (b:Int):Prop:=(∀ f ∈ k.fr,0<=f.refs/\f.refs<=b)/\∀ f ∈ k.sl,0<=f.refs/\f.refs<=b
theorem RefsB.mono {k:KV} {b c:Int} (h:RefsB k b) (hbc:b<=c):RefsB k c:=⟨fun f hf=>by have:=h.1 f hf;omega,fun f hf=>by have:=h.2 f hf;omega⟩
theorem RefsB.inc {k:KV} {b:Int} (h:RefsB k b) (e:En) (hb:0<=b):RefsB (r6 k e) (b + 1):=by
 have hf0:∀ i,0<=(a0o k.fr i).refs/\(a0o k.fr i).refs<=b:=fun i=>by
  cases hi:k.fr[i]? with
  |none=>
   have:a0o k.fr i=fm0:=by unfold a0o;rw [hi];rfl
   rw [this];exact ⟨xj0 0,hb⟩
  |some f=>rw [a1q hi];exact h.1 f (xc8 hi)
 have hs0:∀ i,0<=(a0C k.sl i).refs/\(a0C k.sl i).refs<=b:=fun i=>by
  cases hi:k.sl[i]? with
  |none=>
   have:a0C k.sl i=sw0:=by unfold a0C;rw [hi];rfl
   rw [this];exact ⟨xj0 0,hb⟩
  |some f=>rw [a1i hi];exact h.2 f (xc8 hi)
 unfold r6
 split
 ·refine ⟨fun f hf=>?_,fun f hf=>by have:=h.2 f hf;omega⟩;rcases xj8 hf with h1|h1
  ·have:=h.1 f h1;omega
  ·subst h1;have:=hf0 e.at_.toNat;show 0<=(a0o k.fr e.at_.toNat).refs + 1/\(a0o k.fr e.at_.toNat).refs + 1<=b + 1;omega
 ·refine ⟨fun f hf=>by have:=h.1 f hf;omega,fun f hf=>?_⟩;rcases xj8 hf with h1|h1
  ·have:=h.2 f h1;omega
  ·subst h1;have:=hs0 e.at_.toNat;show 0<=(a0C k.sl e.at_.toNat).refs + 1/\(a0C k.sl e.at_.toNat).refs + 1<=b + 1;omega
theorem a4A {k:KV} {b:Int} (h:RefsB k b) (hb:0<=b):∀ (l:List En),IncSame k (l.foldl r6 k)/\RefsB (l.foldl r6 k) (b + l.length):=by
 intro l
 induction l generalizing k b with
 |nil=>exact ⟨⟨rfl,rfl,rfl,rfl,rfl,rfl,rfl,rfl,rfl⟩,by rw [List.foldl_nil,xa2];exact h.mono (by omega)⟩
 |cons e l ih=>
  rw [xf4];obtain ⟨h1,h2⟩:=ih (h.inc e hb) (by omega);exact ⟨(a9f k e).trans h1,h2.mono (by rw [xb0];omega)⟩
theorem a3b {l:List En} {i:Nat} {e:En} (h:l[i]?=some e) (k:KV):(l.take (i + 1)).foldl r6 k=r6 ((l.take i).foldl r6 k) e:=by
 rw [xj9,h,xk0,xk1,xf4,List.foldl_nil]
theorem a6k {k:KV} {e:En} (h:e.kind=1):(r6 k e).fr=k.fr.set e.at_.toNat (a4Y (a0o k.fr e.at_.toNat))/\(r6 k e).sl=k.sl:=by
 unfold r6;rw [xe6 h];exact ⟨rfl,rfl⟩
theorem a6w {k:KV} {e:En} (h:e.kind≠1):(r6 k e).sl=k.sl.set e.at_.toNat (a4B (a0C k.sl e.at_.toNat))/\(r6 k e).fr=k.fr:=by
 unfold r6;rw [xe7 h];exact ⟨rfl,rfl⟩
theorem a5G {α:Type} {ar en fr sl sp S:α} {E X A:List α}:(ar::en::fr::sl::sp::(E++(S::(X++A)))).Perm (fr::sl::sp::((E++[en])++(S::(X++(A++[ar]))))):=by
 refine (List.perm_append_comm_assoc [ar,en] [fr,sl,sp] (E++(S::(X++A)))).trans ?_;refine List.Perm.append_left [fr,sl,sp] ?_;show (ar::(en::(E++(S::(X++A))))).Perm _;refine (xi3 _ _).symm.trans ?_;have e1:(en::(E++(S::(X++A))))++[ar]=en::(E++(S::(X++(A++[ar])))):=by simp
 have e2:(E++[en])++(S::(X++(A++[ar])))=E++en::(S::(X++(A++[ar]))):=by simp
 rw [e1];exact List.perm_middle.symm.trans (List.Perm.of_eq e2.symm)
theorem a8N:∀ {l:List Sp} {i:Nat} {p:Sp},l[i]?=some p->[a1z p,t5 p].Sublist (spA l)
 |[],_,_,h=>by simp at h
 |q::l,0,p,h=>by
  have:q=p:=by simpa using h
  subst this;exact .cons_cons _ (.cons_cons _ (xi9 _))
 |q::l,i + 1,p,h=>.cons _ (.cons _ (a8N (l:=l) (i:=i) (by simpa using h)))
theorem b09 {g sp:Nat} {k:KV} {vh:Value} {held:List Nat} {a b:Asr} {R:List Asr}:(a::b::(wkS g k sp vh held++R)).Perm (frA k::slA k::a::b::.blk g (wkB k sp vh)::hdA vh held::a14 k::(k.sp.map t5++R)) :=
 (xj6 (l₁:=[a,b,.blk g (wkB k sp vh),hdA vh held])).trans ((xj6 (l₁:=[a,b,.blk g (wkB k sp vh),hdA vh held])).cons _)
theorem b10 {w:World} {k:KV} (hK:KerV w k) (space:Int):Fn Tryz.prog 10 [.agg (kvC k).toArray,.int .i64 space] w (fun v w'=>∃ k',v=.tuple #[.agg (kvC k').toArray,.int .i64 (a6Q k.K space),.int .i64 (a24 k.K space)]/\k'.K=a7s k.K space/\Came w w' k'):=by
 have hbeg:=fun w1 (h:KerV w1 k)=>a69 h space;have hK0:=hK;have hKown:Right k.K->∀ w1,KerV w1 k->Fn Tryz.prog 45 [.agg (kvC k).toArray] w1 (fun v w'=>∃ k':KV,v=.agg (kvC k').toArray/\k'.K=k.K/\St nF w1 w' (kA k')):=fun hr w1 h=>b1n h (a8F hr);obtain ⟨RE,hRE⟩:∃ e,e=a24 k.K space:=⟨_,rfl⟩;unfold a7s a6Q;rw [<- hRE];unfold a24 at hRE;obtain ⟨sh,fr,sl,sps,hand,vsh,vfr,vsl,vsp⟩:=k;obtain ⟨k1,k2,k3,k4,k5⟩:=hK;dsimp only at k1 k2 k3 k4 k5;obtain ⟨p1,c1,rfl⟩:=k1.sl.len;obtain ⟨p2,c2,rfl⟩:=k2.len;obtain ⟨p3,c3,rfl⟩:=k3.len;obtain ⟨p4,c4,rfl⟩:=k4.len;have hlS:(KV.K ⟨sh,fr,sl,sps,hand,.slice p1 sh.length c1,.slice p2 fr.length c2,.slice p3 sl.length c3,.slice p4 sps.length c4⟩).spaces.length=sps.length:=xh8 _;have hlL:(KV.K ⟨sh,fr,sl,sps,hand,.slice p1 sh.length c1,.slice p2 fr.length c2,.slice p3 sl.length c3,.slice p4 sps.length c4⟩).slots.length=sl.length:=rfl;generalize hKK:KV.K ⟨sh,fr,sl,sps,hand,.slice p1 sh.length c1,.slice p2 fr.length c2,.slice p3 sl.length c3,.slice p4 sps.length c4⟩=K at hbeg hRE hKown hlS hlL |-;have hpre:∀ w1 Γ1,St nF w w1 Γ1->KerV w1 ⟨sh,fr,sl,sps,hand,.slice p1 sh.length c1,.slice p2 fr.length c2,.slice p3 sl.length c3,.slice p4 sps.length c4⟩:=fun w1 Γ1 h=>hK0.now h;rw [hlS,hlL] at hRE;rw [hlS];unfold kvC at hbeg hKown |-;dsimp only at hbeg hKown |-;have hno:∀ {w1 Γ1},St nF w w1 Γ1->∀ {e:Int},e≠0->∃ k':KV,Value.tuple #[.agg #[.slice none 0 0,.slice none 0 0,.slice none 0 0,.slice none 0 0,.int .i64 0],.int .i64 0,.int .i64 e]=.tuple #[.agg [k'.vsh,k'.vfr,k'.vsl,k'.vsp,.int .i64 k'.hand].toArray,.int .i64 (if e=0 then ((sps.length:Nat):Int) else 0),.int .i64 e]/\k'.K=(if e=0 then a6U K space.toNat else b2Z)/\Came w w1 k':=by
  intro w1 Γ1 h e he;exact ⟨kv0,by rw [xe7 he];rfl,by rw [xe7 he];rfl,xd4 ⟨rfl,h.sub (xi9 _)⟩⟩
 refine yEn Tryz.func10 Tryz.ntmps10 (by kernel_rfl) (by kernel_rfl) rfl rfl ?_;have hS:=St.start w
 repeat' (first|(with_reducible apply d5 c9);rfl;rfl;rfl|(with_reducible apply d6);rfl;(apply Ld.st c9;rfl;exact hS.blkR 1 rfl;rfl);rfl|refine yDn (by with_reducible constructor) ?_|(with_reducible apply j6 hS);rfl;rfl;rfl;clear hS;intro g w' hS|(with_reducible apply f7 hS c9);rfl;rfl;rfl;clear hS;intro g w' hS)
 rename_i g2 _;refine a1v rfl rfl (hbeg _ (hpre _ _ hS)) rfl ?_;clear hbeg;rintro v w2 (⟨he,rfl,hS'⟩|⟨gw,sp,k',he,hsp,rfl,hk',hS'⟩)
 ·replace hS:=hS.transA hS';simp only [y8] at hS;rw [xe7 he] at hRE;have hd:decide (t9 K space=0)=false:=xj4 he;rw [<- hRE] at he hd |-
  repeat' (first|(with_reducible apply d5 c9);rfl;rfl;rfl|(with_reducible apply s5 c9);rfl;rfl;exact (rfl:_=some [_,_,_,_,_]);rfl|refine yDn (by with_reducible constructor) ?_|(with_reducible apply d7 hS c9 (i:=0));(iterate 8 rfl);exact (rfl:_=[_,_,_,_,_]);clear hS;intro w' hS;simp only [List.set] at hS|(with_reducible apply a0z);rfl;all_goals (intro hb hp;try (exfalso;omega)))
  (apply a2e;repeat (first|exact ResL.nil|apply ResL.tmp;rfl|apply ResL.cell;rfl;(apply Ld.st c9;rfl;exact hS.blkR 0 rfl;rfl)))
  exact hno hS he
 rw [xe6 he] at hRE;replace hS:=hS.trans hS';clear hS';rw [xf3] at hS;have hV0:=WkV.own hS;obtain ⟨hr,sp2,hsp2,hspl,hlv⟩:=a1R he;obtain rfl:sp=sp2:=by omega
 subst hsp;rw [xh2] at hRE hno |-;subst hk';obtain ⟨x,hx⟩:∃ x,k'.sp[sp]?=some x:=by
  have:k'.K.spaces.length=k'.sp.length:=xh8 _;exact i3 (by omega)
 have hxm:=xc8 hx;obtain ⟨hsc,hel⟩:=a1F hr x.s (xc8 (a1r hx));have hxA:p9 k'.K sp=x.s.areas:=by unfold p9;rw [a0v (a1r hx)]
 have hxe:x5 k'.K sp=x.s.entries:=by unfold x5;rw [a0v (a1r hx)]
 rw [hxA] at hRE;have hsl3:k'.sp.length=sps.length:=by rw [<- hlS];exact (xh8 _).symm
 have hslL:k'.sl.length=sl.length:=hlL;obtain ⟨bs,os,cs,hvsp⟩:=hV0.ker.sp.form1 hx;obtain ⟨f0,hf0⟩:∃ f0,k'.fr[0]?=some f0:=i3 (by have:=hr.cnt.1;have h9:k'.K.frames.length=k'.fr.length:=rfl;omega);obtain ⟨bf,of_,cf,hvfr⟩:=hV0.ker.fr.form1 hf0;obtain ⟨psl,csl,hvsl⟩:=hV0.ker.sl.len;have hxv:=hV0.ker.spv x hxm;have hown:=hKown hr;clear hKown;have hcA:∀ p ∈ k'.sp,j3 p.s.areas=0:=fun p hp=>(a1F hr p.s (xi8.2 ⟨p,hp,rfl⟩)).1.ar;have hroom:o6 (k'.sp.map (·.s))=o6 k'.K.spaces:=rfl;have hsp4:=hr.cnt;obtain ⟨sh',fr',sl',sps',hand',vsh',vfr',vsl',vsp'⟩:=k';dsimp only at hvsp hvfr hvsl hx hxm hf0 hsl3 hslL hcA hroom;subst hvsp hvfr hvsl;have hrowS:=f6 (f:=spC) hx;unfold spC at hrowS;have hback:∀ {w1 a b},St nF w w1 (a::b::(wkS gw (⟨sh',fr',sl',sps',hand',vsh',.slice (some ⟨bf,of_,none⟩) fr'.length cf,.slice psl sl'.length csl,.slice (some ⟨bs,os,none⟩) sps'.length cs⟩:KV) sp (.slice none 0 0) []++v7 (⟨sh',fr',sl',sps',hand',vsh',.slice (some ⟨bf,of_,none⟩) fr'.length cf,.slice psl sl'.length csl,.slice (some ⟨bs,os,none⟩) sps'.length cs⟩:KV)))->St nF w w1 (wkS gw (⟨sh',fr',sl',sps',hand',vsh',.slice (some ⟨bf,of_,none⟩) fr'.length cf,.slice psl sl'.length csl,.slice (some ⟨bs,os,none⟩) sps'.length cs⟩:KV) sp (.slice none 0 0) []++(v7 (⟨sh',fr',sl',sps',hand',vsh',.slice (some ⟨bf,of_,none⟩) fr'.length cf,.slice psl sl'.length csl,.slice (some ⟨bs,os,none⟩) sps'.length cs⟩:KV)++[a,b])):=fun h=>by
  rw [<- xf3];exact h.perm (xi7 (l₁:=[_,_]))
 have hspc:=fun w1 a b (h:St nF w w1 (a::b::(wkS gw (⟨sh',fr',sl',sps',hand',vsh',.slice (some ⟨bf,of_,none⟩) fr'.length cf,.slice psl sl'.length csl,.slice (some ⟨bs,os,none⟩) sps'.length cs⟩:KV) sp (.slice none 0 0) []++v7 (⟨sh',fr',sl',sps',hand',vsh',.slice (some ⟨bf,of_,none⟩) fr'.length cf,.slice psl sl'.length csl,.slice (some ⟨bs,os,none⟩) sps'.length cs⟩:KV))))=>a3E (WkV.own (hback h)) (d8 hx);have hspV:=fun w1 a b (h:St nF w w1 (a::b::(wkS gw (⟨sh',fr',sl',sps',hand',vsh',.slice (some ⟨bf,of_,none⟩) fr'.length cf,.slice psl sl'.length csl,.slice (some ⟨bs,os,none⟩) sps'.length cs⟩:KV) sp (.slice none 0 0) []++v7 (⟨sh',fr',sl',sps',hand',vsh',.slice (some ⟨bf,of_,none⟩) fr'.length cf,.slice psl sl'.length csl,.slice (some ⟨bs,os,none⟩) sps'.length cs⟩:KV))))=>(WkV.own (hback h)).ker.sp;have htot:=fun w1 a b (h:St nF w w1 (a::b::(wkS gw (⟨sh',fr',sl',sps',hand',vsh',.slice (some ⟨bf,of_,none⟩) fr'.length cf,.slice psl sl'.length csl,.slice (some ⟨bs,os,none⟩) sps'.length cs⟩:KV) sp (.slice none 0 0) []++v7 (⟨sh',fr',sl',sps',hand',vsh',.slice (some ⟨bf,of_,none⟩) fr'.length cf,.slice psl sl'.length csl,.slice (some ⟨bs,os,none⟩) sps'.length cs⟩:KV))))=>a4D ((WkV.own (hback h)).ker.spv x hxm).ar;have hroo:=fun w1 a b (h:St nF w w1 (a::b::(wkS gw (⟨sh',fr',sl',sps',hand',vsh',.slice (some ⟨bf,of_,none⟩) fr'.length cf,.slice psl sl'.length csl,.slice (some ⟨bs,os,none⟩) sps'.length cs⟩:KV) sp (.slice none 0 0) []++v7 (⟨sh',fr',sl',sps',hand',vsh',.slice (some ⟨bf,of_,none⟩) fr'.length cf,.slice psl sl'.length csl,.slice (some ⟨bs,os,none⟩) sps'.length cs⟩:KV))))=>b0T (WkV.own (hback h)) hcA (by rw [hsl3,<- hlS];omega);dsimp only at hroo;rw [hroom] at hroo;unfold a7t at hspc;dsimp only at hspc hspV;rw [xe6 hsc.ar] at htot;rw [<- xf3] at hS;replace hS:=hS.perm xi7;dsimp only [List.cons_append,List.nil_append] at hS;obtain ⟨hT0,hT1⟩:0<=r9 x.s.areas/\r9 x.s.areas<=70000:=(a0H (hr.spaces x.s (xc8 (a1r hx)))).2;have hR0:0<=o6 (⟨sh',fr',sl',sps',hand',vsh',.slice (some ⟨bf,of_,none⟩) fr'.length cf,.slice psl sl'.length csl,.slice (some ⟨bs,os,none⟩) sps'.length cs⟩:KV).K.spaces:=a6e fun s hs=>(a0H (hr.spaces s hs)).2.1;have hR1:o6 (⟨sh',fr',sl',sps',hand',vsh',.slice (some ⟨bf,of_,none⟩) fr'.length cf,.slice psl sl'.length csl,.slice (some ⟨bs,os,none⟩) sps'.length cs⟩:KV).K.spaces<=512:=by have:=hr.room;omega
 obtain ⟨pe,ce,hve⟩:=hxv.en.len;rw [hve] at hrowS;generalize hRm:o6 (⟨sh',fr',sl',sps',hand',vsh',.slice (some ⟨bf,of_,none⟩) fr'.length cf,.slice psl sl'.length csl,.slice (some ⟨bs,os,none⟩) sps'.length cs⟩:KV).K.spaces=R at hroo hRE hR0 hR1;generalize hTm:r9 x.s.areas=T at htot hRE hT0 hT1;have hd0:decide (t9 (⟨sh',fr',sl',sps',hand',vsh',.slice (some ⟨bf,of_,none⟩) fr'.length cf,.slice psl sl'.length csl,.slice (some ⟨bs,os,none⟩) sps'.length cs⟩:KV).K (sp:Nat)=0)=true:=xj1 he;by_cases h4:sps.length=4
 ·rw [xe6 h4] at hRE;have hd:decide (((sps.length:Nat):Int)=4)=true:=xj1 (by omega);rw [hRE]
  repeat' (first|(with_reducible apply d5 c9);rfl;rfl;rfl|(with_reducible apply d6);rfl;(apply Ld.sl c9;rfl;exact hS.blkC 1 rfl rfl);rfl|(with_reducible apply s5 c9);rfl;rfl;exact (rfl:_=some [_,_,_,_,_]);rfl|refine yDn (by with_reducible constructor) ?_|(with_reducible apply i4);rfl;assumption|(with_reducible apply i5);rfl;rfl|(with_reducible apply d7 hS c9 (i:=0));(iterate 8 rfl);exact (rfl:_=[_,_,_,_,_]);clear hS;intro w' hS;simp only [List.set] at hS)
  (apply a2e;repeat (first|exact ResL.nil|apply ResL.tmp;rfl|apply ResL.cell;rfl;(apply Ld.st c9;rfl;exact hS.blkR 0 rfl;rfl)))
  exact hno hS (by omega)
 rw [xe7 h4] at hRE;have hd:decide (((sps.length:Nat):Int)=4)=false:=xj4 (by omega);by_cases h5:(sl.length:Int) < R + T
 ·rw [xe6 h5] at hRE;have hd2:decide ((sl.length:Int) < R + T)=true:=xj1 h5;rw [hRE]
  repeat' (first|(with_reducible apply d5 c9);rfl;rfl;rfl|(with_reducible apply d6);rfl;(apply Ld.sl c9;rfl;exact hS.blkC 1 rfl rfl);rfl|refine yDn (by with_reducible constructor) ?_|((with_reducible apply i5);rfl;first|rfl|assumption))
  (focus ((with_reducible apply f5 _ _ _ (by kernel_rfl) (by kernel_rfl) hS);(repeat' (first|(first|(with_reducible apply a3m);rfl;rfl;omega;omega;rfl|(with_reducible apply f9 c9);rfl;rfl|(with_reducible apply g8);rfl;(intro wd hd;replace hd:St _ _ wd _:=hd;(apply Ld.sl c9;rfl;exact hd.blkC 1 rfl rfl));rfl)|(with_reducible apply m6);rfl;rfl;rfl;refine ⟨_,fun wd hd=>hroo _ _ _ hd,?_⟩|(with_reducible apply m6);rfl;rfl;rfl;refine ⟨_,fun wd hd=>hspc _ _ _ hd,?_⟩|(with_reducible apply g8);rfl;(intro wd hd;replace hd:St _ _ wd _:=hd;(apply Ld.sl c9;rfl;exact (hspV _ _ _ hd).cel hrowS rfl));rfl|(with_reducible apply m6);rfl;rfl;rfl;refine ⟨_,fun wd hd=>htot _ _ _ hd,?_⟩));all_goals ((with_reducible apply i9);intro w' hS';clear hS;have hS:=hS';clear hS')))
  repeat' (first|(with_reducible apply d5 c9);rfl;rfl;rfl|(with_reducible apply s5 c9);rfl;rfl;exact (rfl:_=some [_,_,_,_,_]);rfl|refine yDn (by with_reducible constructor) ?_|(with_reducible apply i4);rfl;assumption|(with_reducible apply d7 hS c9 (i:=0));(iterate 8 rfl);exact (rfl:_=[_,_,_,_,_]);clear hS;intro w' hS;simp only [List.set] at hS)
  (apply a2e;repeat (first|exact ResL.nil|apply ResL.tmp;rfl|apply ResL.cell;rfl;(apply Ld.st c9;rfl;exact hS.blkR 0 rfl;rfl)))
  exact hno hS (by omega)
 rw [xe7 h5] at hRE;have hd2:decide ((sl.length:Int) < R + T)=false:=xj4 h5
 repeat' (first|(with_reducible apply d5 c9);rfl;rfl;rfl|(with_reducible apply d6);rfl;(apply Ld.sl c9;rfl;exact hS.blkC 1 rfl rfl);rfl|refine yDn (by with_reducible constructor) ?_|((with_reducible apply i5);rfl;first|rfl|assumption))
 (focus ((with_reducible apply f5 _ _ _ (by kernel_rfl) (by kernel_rfl) hS);(repeat' (first|(first|(with_reducible apply a3m);rfl;rfl;omega;omega;rfl|(with_reducible apply f9 c9);rfl;rfl|(with_reducible apply g8);rfl;(intro wd hd;replace hd:St _ _ wd _:=hd;(apply Ld.sl c9;rfl;exact hd.blkC 1 rfl rfl));rfl)|(with_reducible apply m6);rfl;rfl;rfl;refine ⟨_,fun wd hd=>hroo _ _ _ hd,?_⟩|(with_reducible apply m6);rfl;rfl;rfl;refine ⟨_,fun wd hd=>hspc _ _ _ hd,?_⟩|(with_reducible apply g8);rfl;(intro wd hd;replace hd:St _ _ wd _:=hd;(apply Ld.sl c9;rfl;exact (hspV _ _ _ hd).cel hrowS rfl));rfl|(with_reducible apply m6);rfl;rfl;rfl;refine ⟨_,fun wd hd=>htot _ _ _ hd,?_⟩));all_goals ((with_reducible apply i9);intro w' hS';clear hS;have hS:=hS';clear hS')))
 repeat' (first|(with_reducible apply d5 c9);rfl;rfl;rfl|refine yDn (by with_reducible constructor) ?_|(with_reducible apply i5);rfl;assumption|(with_reducible apply f8 hS);rfl;rfl;rfl;refine ⟨_,hspc _ _ _ hS,?_⟩;clear hS;intro w' hS|(with_reducible apply a4G c9);rfl;rfl;rfl;refine ⟨_,(hspV _ _ _ hS).cel hrowS rfl,?_⟩)
 obtain ⟨hrb1,hrb2⟩:=a1U hr;have hfold:=fun i=>a4A (k:=(⟨sh',fr',sl',sps',hand',vsh',.slice (some ⟨bf,of_,none⟩) fr'.length cf,.slice psl sl'.length csl,.slice (some ⟨bs,os,none⟩) sps'.length cs⟩:KV)) (b:=100000) ⟨hrb1,hrb2⟩ (by omega) (x.s.entries.take i);replace hS:=hS.perm b09;unfold frA slA at hS;dsimp only at hS;have hof:of_=0:=by
  obtain ⟨gg,hgg⟩:=hS.rowSome 0 rfl (d8 hf0);injection hgg with hgg
  injection hgg
 subst hof;have hEn:∀ {w1 A B C D},St nF w w1 (A::B::C::D::.blk gw (wkB (⟨sh',fr',sl',sps',hand',vsh',.slice (some ⟨bf,0,none⟩) fr'.length cf,.slice psl sl'.length csl,.slice (some ⟨bs,os,none⟩) sps'.length cs⟩:KV) sp (.slice none 0 0))::hdA (.slice none 0 0) []::a14 (⟨sh',fr',sl',sps',hand',vsh',.slice (some ⟨bf,0,none⟩) fr'.length cf,.slice psl sl'.length csl,.slice (some ⟨bs,os,none⟩) sps'.length cs⟩:KV)::((⟨sh',fr',sl',sps',hand',vsh',.slice (some ⟨bf,0,none⟩) fr'.length cf,.slice psl sl'.length csl,.slice (some ⟨bs,os,none⟩) sps'.length cs⟩:KV).sp.map t5++v7 (⟨sh',fr',sl',sps',hand',vsh',.slice (some ⟨bf,0,none⟩) fr'.length cf,.slice psl sl'.length csl,.slice (some ⟨bs,os,none⟩) sps'.length cs⟩:KV)))->Sl nF w1 3 (.slice pe x.s.entries.length ce) (x.s.entries.map enC):=fun h=>by
  rw [<- hve];exact h.slMem (e:=82) (by
   refine xc5 _ (xc5 _ (xc5 _ (xc5 _ (xc5 _ (xc5 _ (xc5 _ (xe1 _ ?_)))))));exact xi8.2 ⟨x,hxm,rfl⟩)
 refine k9 (F:=nF) (w0:=w) (X:=Nat) (fun i=>[(49,.int .i64 (i:Nat))]) [1,2,4,7,47,48] rfl (fun i=>[.row 84 4 (.slice (some ⟨bf,0,none⟩) fr'.length cf) (((x.s.entries.take i).foldl r6 (⟨sh',fr',sl',sps',hand',vsh',.slice (some ⟨bf,0,none⟩) fr'.length cf,.slice psl sl'.length csl,.slice (some ⟨bs,os,none⟩) sps'.length cs⟩:KV)).fr.map fmC),.row 88 2 (.slice psl sl'.length csl) (((x.s.entries.take i).foldl r6 (⟨sh',fr',sl',sps',hand',vsh',.slice (some ⟨bf,0,none⟩) fr'.length cf,.slice psl sl'.length csl,.slice (some ⟨bs,os,none⟩) sps'.length cs⟩:KV)).sl.map swC)]) (fun i=>i<=x.s.entries.length) (fun i=>x.s.entries.length - i) 0 (by exact Fr.sub_of rfl) (xf8 _) hS ?_;clear hS;intro i w3 hi hS;dsimp only [List.cons_append,List.nil_append] at hS |-;obtain ⟨hsm,hrf⟩:=hfold i;by_cases hlt:i < x.s.entries.length
 ·have hdl:decide ((i:Int) < (x.s.entries.length:Int))=true:=xj1 (by omega);obtain ⟨e,he2⟩:=i3 (l:=x.s.entries) (i:=i) (by omega);obtain ⟨b,off,rfl,-⟩:=(hEn hS).at_ hlt;have hrowE:=f6 (f:=enC) he2;unfold enC at hrowE;have hnx:=a3b he2 (⟨sh',fr',sl',sps',hand',vsh',.slice (some ⟨bf,0,none⟩) fr'.length cf,.slice psl sl'.length csl,.slice (some ⟨bs,os,none⟩) sps'.length cs⟩:KV);obtain ⟨hnm,-,-⟩:=a4n hr hx (xc8 he2);obtain ⟨epg,ekd,eat⟩:=e;dsimp only at hnm hrowE;have hln:(x.s.entries.take i).length<=255:=by rw [xa1];omega
  rcases hnm with ⟨hk,j,hj,hjl⟩|⟨hk,j,hj,hjl⟩
  ·subst hj;have hdk:decide (ekd=1)=true:=xj1 hk;have hjl':j < fr'.length:=hjl;obtain ⟨f1,hf1⟩:=i3 (l:=((x.s.entries.take i).foldl r6 (⟨sh',fr',sl',sps',hand',vsh',.slice (some ⟨bf,0,none⟩) fr'.length cf,.slice psl sl'.length csl,.slice (some ⟨bs,os,none⟩) sps'.length cs⟩:KV)).fr) (i:=j) (by rw [hsm.nfr];exact xk2.2 hjl');have hrb:=hrf.1 f1 (xc8 hf1);have hrowF:=f6 (f:=fmC) hf1;unfold fmC at hrowF;have hn1:((x.s.entries.take (i + 1)).foldl r6 (⟨sh',fr',sl',sps',hand',vsh',.slice (some ⟨bf,0,none⟩) fr'.length cf,.slice psl sl'.length csl,.slice (some ⟨bs,os,none⟩) sps'.length cs⟩:KV)).fr=((x.s.entries.take i).foldl r6 (⟨sh',fr',sl',sps',hand',vsh',.slice (some ⟨bf,0,none⟩) fr'.length cf,.slice psl sl'.length csl,.slice (some ⟨bs,os,none⟩) sps'.length cs⟩:KV)).fr.set j (a4Y f1):=by
    rw [hnx,(a6k hk).1,xh2,a1q hf1]
   have hn2:((x.s.entries.take (i + 1)).foldl r6 (⟨sh',fr',sl',sps',hand',vsh',.slice (some ⟨bf,0,none⟩) fr'.length cf,.slice psl sl'.length csl,.slice (some ⟨bs,os,none⟩) sps'.length cs⟩:KV)).sl=((x.s.entries.take i).foldl r6 (⟨sh',fr',sl',sps',hand',vsh',.slice (some ⟨bf,0,none⟩) fr'.length cf,.slice psl sl'.length csl,.slice (some ⟨bs,os,none⟩) sps'.length cs⟩:KV)).sl:=by
    rw [hnx,(a6k hk).2]
   generalize hFR:((x.s.entries.take i).foldl r6 (⟨sh',fr',sl',sps',hand',vsh',.slice (some ⟨bf,0,none⟩) fr'.length cf,.slice psl sl'.length csl,.slice (some ⟨bs,os,none⟩) sps'.length cs⟩:KV)).fr=FR at *;generalize hSL:((x.s.entries.take i).foldl r6 (⟨sh',fr',sl',sps',hand',vsh',.slice (some ⟨bf,0,none⟩) fr'.length cf,.slice psl sl'.length csl,.slice (some ⟨bs,os,none⟩) sps'.length cs⟩:KV)).sl=SL at *;have e1:(FR.map fmC).set j (n8 [.string ⟨f1.data.toArray⟩,.int .i64 f1.refs,.bool f1.dirty,.bool f1.seen] 1 [.int .i64 (f1.refs + 1)])=(FR.set j (a4Y f1)).map fmC:=by rw [xj2];rfl
   repeat' (first|(with_reducible apply d5 c9);rfl;rfl;rfl|(with_reducible apply d6);rfl;(apply Ld.sc c9;rfl;exact hS.blkC 0 rfl rfl);rfl|(with_reducible apply l3 c9);rfl;rfl;rfl;rfl;omega;rfl|refine yDn (by with_reducible constructor) ?_|(with_reducible apply i4);rfl;assumption|(with_reducible apply f7 hS c9);rfl;rfl;rfl;clear hS;intro g w' hS|(with_reducible apply d7 hS c9 (i:=0));(iterate 8 rfl);exact (rfl:_=[_,_,_]);clear hS;intro w' hS;simp only [List.set] at hS|(with_reducible apply a09 c9);rfl;rfl;rfl;refine ⟨_,(hEn hS).rng hrowE,rfl,?_⟩)
   (focus ((with_reducible apply a0Z _ _ _ 13 (by kernel_rfl) (by kernel_rfl) hS);(simp only [xi4,xi5,xh9,xi0]);(repeat' ((first|(with_reducible apply a3m);rfl;rfl;omega;omega;rfl|(with_reducible apply f9 c9);rfl;rfl|(with_reducible apply g8);rfl;(intro wd hd;replace hd:St _ _ wd _:=hd;(first|apply Ld.sc c9;rfl;(first|exact hd.blkC 0 rfl rfl|exact hd.rowCj 1 rfl (by assumption) rfl)|apply Ld.sl c9;rfl;exact hd.blkC 5 rfl rfl));rfl|(with_reducible apply t4 c9);rfl;rfl;rfl;rfl;omega;rfl)));all_goals ((with_reducible apply i9);intro w' hS';clear hS;have hS:=hS';clear hS')))
   repeat' (first|(with_reducible apply d5 c9);rfl;rfl;rfl|(with_reducible apply j0);rfl;rfl;omega;omega;rfl|refine yDn (by with_reducible constructor) ?_|(with_reducible apply t2 hS c9 (i:=1));(iterate 4 rfl);assumption;(iterate 5 rfl);intro w' hS';simp only [List.set] at hS';clear hS;have hS:=hS';clear hS')
   rw [e1] at hS;refine g0 (i + 1) (by exact Fr.sub_of rfl) (by omega) ?_ (by omega);dsimp only [List.cons_append,List.nil_append];rw [hn1,hn2];exact hS.drop
  ·subst hj;have hdk:decide (ekd=1)=false:=xj4 hk;have hjl':j < sl'.length:=hjl;obtain ⟨f1,hf1⟩:=i3 (l:=((x.s.entries.take i).foldl r6 (⟨sh',fr',sl',sps',hand',vsh',.slice (some ⟨bf,0,none⟩) fr'.length cf,.slice psl sl'.length csl,.slice (some ⟨bs,os,none⟩) sps'.length cs⟩:KV)).sl) (i:=j) (by rw [hsm.nsl];exact xk2.2 hjl');have hrb:=hrf.2 f1 (xc8 hf1);have hrowF:=f6 (f:=swC) hf1;unfold swC at hrowF;have hn1:((x.s.entries.take (i + 1)).foldl r6 (⟨sh',fr',sl',sps',hand',vsh',.slice (some ⟨bf,0,none⟩) fr'.length cf,.slice psl sl'.length csl,.slice (some ⟨bs,os,none⟩) sps'.length cs⟩:KV)).sl=((x.s.entries.take i).foldl r6 (⟨sh',fr',sl',sps',hand',vsh',.slice (some ⟨bf,0,none⟩) fr'.length cf,.slice psl sl'.length csl,.slice (some ⟨bs,os,none⟩) sps'.length cs⟩:KV)).sl.set j (a4B f1):=by
    rw [hnx,(a6w hk).1,xh2,a1i hf1]
   have hn2:((x.s.entries.take (i + 1)).foldl r6 (⟨sh',fr',sl',sps',hand',vsh',.slice (some ⟨bf,0,none⟩) fr'.length cf,.slice psl sl'.length csl,.slice (some ⟨bs,os,none⟩) sps'.length cs⟩:KV)).fr=((x.s.entries.take i).foldl r6 (⟨sh',fr',sl',sps',hand',vsh',.slice (some ⟨bf,0,none⟩) fr'.length cf,.slice psl sl'.length csl,.slice (some ⟨bs,os,none⟩) sps'.length cs⟩:KV)).fr:=by
    rw [hnx,(a6w hk).2]
   generalize hFR:((x.s.entries.take i).foldl r6 (⟨sh',fr',sl',sps',hand',vsh',.slice (some ⟨bf,0,none⟩) fr'.length cf,.slice psl sl'.length csl,.slice (some ⟨bs,os,none⟩) sps'.length cs⟩:KV)).fr=FR at *;generalize hSL:((x.s.entries.take i).foldl r6 (⟨sh',fr',sl',sps',hand',vsh',.slice (some ⟨bf,0,none⟩) fr'.length cf,.slice psl sl'.length csl,.slice (some ⟨bs,os,none⟩) sps'.length cs⟩:KV)).sl=SL at *;have e1:(SL.map swC).set j (n8 [.string ⟨f1.data.toArray⟩,.int .i64 f1.refs] 1 [.int .i64 (f1.refs + 1)])=(SL.set j (a4B f1)).map swC:=by rw [xj2];rfl
   obtain ⟨gs,rfl⟩:=hS.rowSome 1 rfl (by omega)
   repeat' (first|(with_reducible apply d5 c9);rfl;rfl;rfl|(with_reducible apply d6);rfl;(apply Ld.sc c9;rfl;exact hS.blkC 0 rfl rfl);rfl|(with_reducible apply l3 c9);rfl;rfl;rfl;rfl;omega;rfl|refine yDn (by with_reducible constructor) ?_|(with_reducible apply i4);rfl;assumption|(with_reducible apply i5);rfl;assumption|(with_reducible apply f7 hS c9);rfl;rfl;rfl;clear hS;intro g w' hS|(with_reducible apply d7 hS c9 (i:=0));(iterate 8 rfl);exact (rfl:_=[_,_,_]);clear hS;intro w' hS;simp only [List.set] at hS|(with_reducible apply a09 c9);rfl;rfl;rfl;refine ⟨_,(hEn hS).rng hrowE,rfl,?_⟩)
   (focus ((with_reducible apply a0Z _ _ _ 13 (by kernel_rfl) (by kernel_rfl) hS);(simp only [xi4,xi5,xh9,xi0]);(repeat' ((first|(with_reducible apply a3m);rfl;rfl;omega;omega;rfl|(with_reducible apply f9 c9);rfl;rfl|(with_reducible apply g8);rfl;(intro wd hd;replace hd:St _ _ wd _:=hd;(first|apply Ld.sc c9;rfl;(first|exact hd.blkC 0 rfl rfl|exact hd.rowCj 2 rfl (by assumption) rfl)|apply Ld.sl c9;rfl;exact hd.blkC 5 rfl rfl));rfl|(with_reducible apply t4 c9);rfl;rfl;rfl;rfl;omega;rfl)));all_goals ((with_reducible apply i9);intro w' hS';clear hS;have hS:=hS';clear hS')))
   repeat' (first|(with_reducible apply d5 c9);rfl;rfl;rfl|(with_reducible apply j0);rfl;rfl;omega;omega;rfl|refine yDn (by with_reducible constructor) ?_|(with_reducible apply t2 hS c9 (i:=2));(iterate 4 rfl);assumption;(iterate 5 rfl);intro w' hS';simp only [List.set] at hS';clear hS;have hS:=hS';clear hS')
   rw [e1] at hS;refine g0 (i + 1) (by exact Fr.sub_of rfl) (by omega) ?_ (by omega);dsimp only [List.cons_append,List.nil_append];rw [hn1,hn2];exact hS.drop
 ·have hdl:decide ((i:Int) < (x.s.entries.length:Int))=false:=xj4 (by omega);obtain rfl:i=x.s.entries.length:=by omega
  rw [xg0] at hS hsm hrf
  repeat' (first|(with_reducible apply d5 c9);rfl;rfl;rfl|refine yDn (by with_reducible constructor) ?_|(with_reducible apply i5);rfl;assumption)
  clear hroo htot hspV hspc hback hEn;obtain ⟨FRs,hFRs⟩:∃ F,F=(x.s.entries.foldl r6 (⟨sh',fr',sl',sps',hand',vsh',.slice (some ⟨bf,0,none⟩) fr'.length cf,.slice psl sl'.length csl,.slice (some ⟨bs,os,none⟩) sps'.length cs⟩:KV)).fr:=⟨_,rfl⟩;obtain ⟨SLs,hSLs⟩:∃ F,F=(x.s.entries.foldl r6 (⟨sh',fr',sl',sps',hand',vsh',.slice (some ⟨bf,0,none⟩) fr'.length cf,.slice psl sl'.length csl,.slice (some ⟨bs,os,none⟩) sps'.length cs⟩:KV)).sl:=⟨_,rfl⟩;rw [<- hFRs,<- hSLs] at hS;have hos:os=0:=by
   obtain ⟨gg,hgg⟩:=hS.rowSome 6 rfl (xk3 (xf8 _) (d8 hx));injection hgg with hgg
   injection hgg
  subst hos;unfold a14 wkB at hS;dsimp only at hS;refine b1E (fun w'=>St nF w w' [.blk g2 [.slice p1 sh.length c1,.slice p2 fr.length c2,.slice p3 sl.length c3,.slice p4 sps.length c4,.int .i64 hand],.blk gw [vsh',.slice (some ⟨bf,0,none⟩) fr'.length cf,.slice psl sl'.length csl,.slice (some ⟨bs,0,none⟩) sps'.length cs,.int .i64 hand',.int .i64 (sp:Nat),.slice none 0 0]]) 17 18 rfl hS (by kernel_rfl) ?_;intro w4 hS';clear hS;have hS:=hS';clear hS';have hH:St nF w w4 [.blk g2 [.slice p1 sh.length c1,.slice p2 fr.length c2,.slice p3 sl.length c3,.slice p4 sps.length c4,.int .i64 hand],.blk gw [vsh',.slice (some ⟨bf,0,none⟩) fr'.length cf,.slice psl sl'.length csl,.slice (some ⟨bs,0,none⟩) sps'.length cs,.int .i64 hand',.int .i64 (sp:Nat),.slice none 0 0]]:=hS.sub (.cons _ (.cons _ (.cons _ (.cons_cons _ (.cons_cons _ (xi9 _))))))
  ((with_reducible apply l7 (nn 0) c9);rfl;kernel_rfl;exact (fun _ _ _ h=>h);exact xd1 hH;rfl;rfl)
  ((with_reducible apply l7 (nn 1) c9);rfl;kernel_rfl;exact (fun _ _ _ h=>h);exact xd1 hH;rfl;rfl)
  ((with_reducible apply l7 (nn 2) c9);rfl;kernel_rfl;exact (fun _ _ _ h=>h);exact xd1 hH;rfl;rfl)
  ((with_reducible apply l7 (nn 3) c9);rfl;kernel_rfl;exact (fun _ _ _ h=>h);exact xd1 hH;rfl;rfl)
  ((with_reducible apply l7 (nn 4) c9);rfl;kernel_rfl;exact (fun _ _ _ h=>h);exact xd1 hH;rfl;rfl)
  ((with_reducible apply o9 (nn 5));rfl;kernel_rfl;kernel_rfl;rfl;exact (fun _ _ _ h=>h);exact hH;rfl;(intro w2 hw2;(replace hw2:St _ _ w2 _:=hw2;(apply Ld.sl c9;rfl;exact hw2.blkC 1 rfl rfl)));rfl)
  ((with_reducible apply o9 (nn 6));rfl;kernel_rfl;kernel_rfl;rfl;exact (fun _ _ _ h=>h);exact hH;rfl;(intro w2 hw2;(replace hw2:St _ _ w2 _:=hw2;(apply Ld.st c9;rfl;exact hw2.blkR 0 rfl;rfl)));rfl)
  ((with_reducible apply l7 (nn 9) c9);rfl;kernel_rfl;exact (fun _ _ _ h=>h);exact xd1 hH;rfl;rfl)
  refine s8 (i:=7) (by kernel_rfl) ?_;refine q8 rfl (a0w (first:=[]) (caps:=[]) rfl rfl (hown _ (hpre _ _ hS))) rfl ?_;rintro _ w5 ⟨ko,rfl,hko,h2⟩;replace hS:=hS.trans h2;clear h2 hown;have hkos:ko.sp.map (·.s)=sps'.map (·.s):=by
   have:=congrArg Ker.spaces hko;exact this
  obtain ⟨po,hpo,hpos⟩:∃ po,ko.sp[sp]?=some po/\po.s=x.s:=by
   have h1:(ko.sp.map (·.s))[sp]?=some x.s:=by rw [hkos,xg9,hx];rfl
   rw [xg9] at h1;obtain ⟨po,h2,h3⟩:=xk4.1 h1;exact ⟨po,h2,h3⟩
  have hrowO:=f6 (f:=spC) hpo;unfold spC at hrowO;have hsub2:[Asr.row 78 3 ko.vsp (ko.sp.map spC),a1z po,t5 po].Sublist (kA ko):=.cons _ (.cons _ (.cons _ (.cons_cons _ ((a8N hpo).trans (xk5 _ _)))));replace hS:=hS.sub (hsub2.append_right _);dsimp only [List.cons_append,List.nil_append] at hS;obtain ⟨ps,pva,pve⟩:=po;dsimp only at hpos;subst hpos;unfold a1z t5 at hS;dsimp only at hS hrowO;obtain ⟨osh,ofr,osl,osp,ohand,ovsh,ovfr,ovsl,ovsp⟩:=ko;dsimp only at hkos hpo hrowO hS;obtain ⟨qo,do_,rfl⟩:=hS.rowSlice 0 rfl;obtain ⟨go,rfl⟩:=hS.rowSome 0 rfl (by have:=d8 hpo;rw [xh8];omega);obtain ⟨qa,da,rfl⟩:=hS.rowSlice 1 rfl;obtain ⟨qe,de,rfl⟩:=hS.rowSlice 2 rfl;simp only [xh8] at hS hrowO hpo |-;have hspo:=d8 hpo;have hH:St nF w w5 [.blk g2 [.slice p1 sh.length c1,.slice p2 fr.length c2,.slice p3 sl.length c3,.slice p4 sps.length c4,.int .i64 hand],.blk gw [vsh',.slice (some ⟨bf,0,none⟩) fr'.length cf,.slice psl sl'.length csl,.slice (some ⟨bs,0,none⟩) sps'.length cs,.int .i64 hand',.int .i64 (sp:Nat),.slice none 0 0]]:=hS.sub (.cons _ (.cons _ (.cons _ (.cons _ (.cons _ (.cons _ (.cons_cons _ (.cons_cons _ (xi9 _)))))))));refine ⟨xd1 (xd1 hH),?_⟩
  ((with_reducible apply l7 (nn 8) c9);rfl;kernel_rfl;exact (fun _ _ _ h=>h);exact xd1 hH;rfl;rfl)
  ((with_reducible apply a3C (nn 10));rfl;kernel_rfl;kernel_rfl;kernel_rfl;rfl;exact (fun _ _ _ h=>h);exact xd1 hH;(intro a ha;exact a6c c9 rfl rfl rfl rfl hspo a ha _);rfl)
  refine s8 (i:=11) (by kernel_rfl) ?_;refine q8 rfl (a6D rfl (by (apply Ld.st c9;rfl;exact ((hS.rowSl 0 rfl).rng hrowO);rfl))) rfl ?_;rintro _ _ ⟨rfl,rfl⟩;refine ⟨xd1 (xd1 hH),?_⟩;refine s8 (i:=12) (by kernel_rfl) ?_;refine q8 rfl (v5 hS c9 rfl rfl rfl rfl rfl rfl) rfl ?_;rintro _ w' ⟨gu,rfl,hS'⟩;clear hS;have hS:=hS';clear hS';have hH:St nF w w' [.blk g2 [.slice p1 sh.length c1,.slice p2 fr.length c2,.slice p3 sl.length c3,.slice p4 sps.length c4,.int .i64 hand],.blk gw [vsh',.slice (some ⟨bf,0,none⟩) fr'.length cf,.slice psl sl'.length csl,.slice (some ⟨bs,0,none⟩) sps'.length cs,.int .i64 hand',.int .i64 (sp:Nat),.slice none 0 0]]:=hS.drop.sub (.cons _ (.cons _ (.cons _ (.cons _ (.cons _ (.cons _ (.cons_cons _ (.cons_cons _ (xi9 _)))))))));refine ⟨xd1 (xd1 hH),?_⟩;refine s8 (i:=13) (by kernel_rfl) ?_;refine q8 rfl (z7 hS c9 (i:=10) rfl rfl rfl rfl (hS.rowRo 0 rfl) rfl (by simp only [xh8,xb0,xa2];omega)) rfl ?_;rintro _ w' ⟨ph,ch,rfl,hS'⟩;simp only [List.set,xh8] at hS' |-;clear hS;have hS:=hS';clear hS';have hH:St nF w w' [.blk g2 [.slice p1 sh.length c1,.slice p2 fr.length c2,.slice p3 sl.length c3,.slice p4 sps.length c4,.int .i64 hand],.blk gw [vsh',.slice (some ⟨bf,0,none⟩) fr'.length cf,.slice psl sl'.length csl,.slice (some ⟨bs,0,none⟩) sps'.length cs,.int .i64 hand',.int .i64 (sp:Nat),.slice none 0 0]]:=hS.drop.sub (.cons _ (.cons _ (.cons _ (.cons _ (.cons _ (.cons _ (.cons_cons _ (.cons_cons _ (xi9 _)))))))));refine ⟨xd1 (xd1 hH),?_⟩
  ((with_reducible apply l7 (nn 14) c9);rfl;kernel_rfl;exact (fun _ _ _ h=>h);exact xd1 hH;rfl;rfl)
  ((with_reducible apply l7 (nn 15) c9);rfl;kernel_rfl;exact (fun _ _ _ h=>h);exact xd1 hH;rfl;rfl)
  ((with_reducible apply l7 (nn 16) c9);rfl;kernel_rfl;exact (fun _ _ _ h=>h);exact xd1 hH;rfl;rfl)
  refine s8 (i:=17) (by kernel_rfl) ?_;refine a1S (Φ:=fun _ w'=>St _ _ w' _) rfl (o4 hS c9 (i:=8) rfl rfl rfl rfl rfl (xf5 rfl) (by intro u hu;simp [Value.cells] at hu;subst hu;rfl)) ?_;intro _ w' hS';simp only [List.set,n8] at hS';clear hS;have hS:=hS';clear hS';refine ⟨xd4 rfl,?_⟩;refine a2M (by kernel_rfl) ?_;replace hS:=hS.drop.drop;obtain ⟨psh,csh,rfl⟩:∃ p c,vsh'=.slice p sh'.length c:=hV0.ker.sh.sl.len
  (with_reducible apply a72)
  (with_reducible apply a8H)
  refine a7Q (fun w'=>St nF w w' [.blk g2 [.slice p1 sh.length c1,.slice p2 fr.length c2,.slice p3 sl.length c3,.slice p4 sps.length c4,.int .i64 hand],.blk gw [.slice psh sh'.length csh,.slice (some ⟨bf,0,none⟩) fr'.length cf,.slice psl sl'.length csl,.slice ph (sps'.length + 1) ch,.int .i64 hand',.int .i64 (sp:Nat),.slice none 0 0]]) 10 rfl hS (by kernel_rfl) ?_;intro w6 hS';clear hS;have hS:=hS';clear hS';have hH:St nF w w6 [.blk g2 [.slice p1 sh.length c1,.slice p2 fr.length c2,.slice p3 sl.length c3,.slice p4 sps.length c4,.int .i64 hand],.blk gw [.slice psh sh'.length csh,.slice (some ⟨bf,0,none⟩) fr'.length cf,.slice psl sl'.length csl,.slice ph (sps'.length + 1) ch,.int .i64 hand',.int .i64 (sp:Nat),.slice none 0 0]]:=hS.sub (.cons _ (.cons _ (.cons _ (.cons _ (.cons _ (.cons_cons _ (.cons_cons _ (xi9 _))))))))
  ((with_reducible apply k8 (nn 0) c9);rfl;kernel_rfl;exact (fun _ _ _ h=>h);exact hH;rfl;rfl)
  ((with_reducible apply k8 (nn 1) c9);rfl;kernel_rfl;exact (fun _ _ _ h=>h);exact hH;rfl;rfl)
  ((with_reducible apply k8 (nn 2) c9);rfl;kernel_rfl;exact (fun _ _ _ h=>h);exact hH;rfl;rfl)
  ((with_reducible apply a4e (nn 3));rfl;kernel_rfl;kernel_rfl;kernel_rfl;exact (fun _ _ _ h=>h);exact hH;rfl;(intro wd hd;replace hd:St _ _ wd _:=hd;(apply Ld.st c9;rfl;exact (hd.blkRk 1 0 5 rfl);rfl));rfl)
  ((with_reducible apply k8 (nn 4) c9);rfl;kernel_rfl;exact (fun _ _ _ h=>h);exact hH;rfl;rfl)
  ((with_reducible apply t7 (nn 5));rfl;kernel_rfl;exact (fun _ _ _ h=>h);exact hH;rfl;(intro wd hd;replace hd:St _ _ wd _:=hd;(apply Ld.sl c9;rfl;exact hd.blkC 0 rfl rfl));rfl)
  ((with_reducible apply k8 (nn 6) c9);rfl;kernel_rfl;exact (fun _ _ _ h=>h);exact hH;rfl;rfl)
  refine o7 (i:=7) (by kernel_rfl) ?_;simp only [xi4,xi5,xi0];refine s7 (Φ:=fun _ w'=>St _ _ w' _) rfl (o4 hS c9 (i:=4) rfl rfl rfl rfl rfl (xf5 rfl) (xc6.1 rfl)) ?_;intro _ w' hS';simp only [List.set] at hS';clear hS;have hS:=hS';clear hS';refine ⟨hS.sub (.cons _ (.cons _ (.cons _ (.cons _ (.cons _ (.cons_cons _ (.cons_cons _ (xi9 _)))))))),?_⟩;have hH:St nF w w' [.blk g2 [.slice p1 sh.length c1,.slice p2 fr.length c2,.slice p3 sl.length c3,.slice p4 sps.length c4,.int .i64 hand],.blk gw [.slice psh sh'.length csh,.slice (some ⟨bf,0,none⟩) fr'.length cf,.slice psl sl'.length csl,.slice ph (sps'.length + 1) ch,.int .i64 hand',.int .i64 (sp:Nat),.slice none 0 0]]:=hS.sub (.cons _ (.cons _ (.cons _ (.cons _ (.cons _ (.cons_cons _ (.cons_cons _ (xi9 _))))))))
  ((with_reducible apply k8 (nn 8) c9);rfl;kernel_rfl;exact (fun _ _ _ h=>h);exact hH;rfl;rfl)
  ((with_reducible apply k8 (nn 9) c9);rfl;kernel_rfl;exact (fun _ _ _ h=>h);exact hH;rfl;rfl)
  refine w8 (by kernel_rfl) ?_
  repeat' ((refine yDn (by with_reducible constructor) ?_))
  (apply a2e;repeat (first|exact ResL.nil|apply ResL.tmp;rfl|apply ResL.cell;rfl;(apply Ld.st c9;rfl;exact hS.blkR 4 rfl;rfl)))
  refine ⟨⟨sh',FRs,SLs,sps'++[⟨x.s,.slice qa x.s.areas.length da,.slice qe x.s.entries.length de⟩],hand',.slice psh sh'.length csh,.slice (some ⟨bf,0,none⟩) fr'.length cf,.slice psl sl'.length csl,.slice ph (sps'.length + 1) ch⟩,?_,?_,?_⟩
  ·rw [hRE,xe6 rfl];rfl
  ·rw [hRE,xe6 rfl];unfold a6U;rw [hxe,<- a50,a0v (a1r hx),hFRs,hSLs];generalize List.foldl r6 _ x.s.entries=kf at hsm |-;obtain ⟨a1,a2,a3,a4,a5,a6,a7,a8,a9⟩:=kf;obtain ⟨b1,b2,b3,-,-,-,-,-,-⟩:=hsm;dsimp only at b1 b2 b3;subst b1 b2 b3;unfold KV.K;dsimp only;rw [xi2];rfl
  ·refine xd1 ?_;unfold a32 frA slA a14 v7;dsimp only;rw [xi2,xi2,xi2];exact (hS.sub (.cons_cons _ (.cons_cons _ (.cons_cons _ (.cons_cons _ (.cons _ (.cons _ (.cons _ (.cons _ (.cons_cons _ (.refl _))))))))))).perm a5G
theorem Came.own {w w':World} {k:KV} (h:Came w w' k) {n:Nat} (hn:k.K.frames.length=n + 1):St nF w w' (a32 k):=by
 rcases h with ⟨rfl,-⟩|h
 ·cases hn
 ·exact h
structure b5j (K K':Ker) (sp:Nat) (page:Int):Prop where
 right:Right K'
 sheets:K'.sheets=K.sheets
 nfr:K'.frames.length=K.frames.length
 nsl:K'.slots.length=K.slots.length
 nsp:K'.spaces.length=K.spaces.length
 ar:∀ i,p9 K' i=p9 K i
 live:∀ i,(a0l K' i).live=(a0l K i).live
 peek:∀ i p,¬(i=sp/\p=page)->a2q K' i p=a2q K i p
theorem a7K {A B:List En} {e:En} (h:Rises (a07 (A++e::B))):Rises (a07 (A++B))/\∀ x ∈ A++B,x.page≠e.page:=by
 unfold a07 at h |-;rw [xi2,xb9] at h;rw [xi2];unfold Rises at h |-;rw [xe0,List.pairwise_cons] at h;obtain ⟨h1,⟨h2,h3⟩,h4⟩:=h;refine ⟨xe0.2 ⟨h1,h3,fun a ha b hb=>h4 a ha b (xc5 _ hb)⟩,fun x hx=>?_⟩;rcases xd9.1 hx with hx|hx
 ·have:=h4 x.page (xi8.2 ⟨x,hx,rfl⟩) e.page xc4;omega
 ·have:=h2 x.page (xi8.2 ⟨x,hx,rfl⟩);omega
theorem a8a {A B:List En} {e:En} {p:Int} (hp:p≠e.page):a2j (A++B) p=a2j (A++e::B) p:=by
 unfold a2j;rw [List.find?_append,List.find?_append,List.find?_cons,xj4 (fun h=>hp h.symm)]
theorem b2K {K:Ker} {e:En} {b:Nat} (hb:e.at_=(b:Nat)) (hl:e.kind=1->b < K.frames.length) (i:Nat):a0o (v9 K e).frames i=if e.kind=1/\b=i then a1A (a0o K.frames i) else a0o K.frames i:=by
 unfold v9;by_cases hk:e.kind=1
 ·rw [xe6 hk];show a0o (K.frames.set e.at_.toNat (a1A (a0o K.frames e.at_.toNat))) i=_;rw [hb,xh2,b0M];by_cases e2:b=i
  ·subst e2;rw [xe6 ⟨rfl,hl hk⟩,xe6 ⟨hk,rfl⟩]
  ·rw [xe7 (fun h=>e2 h.1),xe7 (fun h=>e2 h.2)]
 ·rw [xe7 hk,xe7 (fun h=>hk h.1)]
theorem b2v {K:Ker} {e:En} {b:Nat} (hb:e.at_=(b:Nat)) (hl:e.kind≠1->b < K.slots.length) (i:Nat):a0C (v9 K e).slots i=if e.kind≠1/\b=i then a1D (a0C K.slots i) else a0C K.slots i:=by
 unfold v9;by_cases hk:e.kind=1
 ·rw [xe6 hk,xe7 (fun h=>h.1 hk)]
 ·rw [xe7 hk];show a0C (K.slots.set e.at_.toNat (a1D (a0C K.slots e.at_.toNat))) i=_;rw [hb,xh2,b0N];by_cases e2:b=i
  ·subst e2;rw [xe6 ⟨rfl,hl hk⟩,xe6 ⟨hk,rfl⟩]
  ·rw [xe7 (fun h=>e2 h.1),xe7 (fun h=>e2 h.2)]
theorem b1K (K:Ker) (e:En):(v9 K e).frames.length=K.frames.length/\(v9 K e).slots.length=K.slots.length/\(v9 K e).sheets=K.sheets/\(v9 K e).spaces=K.spaces/\(v9 K e).hand=K.hand:=by
 unfold v9
 split
 ·exact ⟨xa7,rfl,rfl,rfl,rfl⟩
 ·exact ⟨rfl,xa7,rfl,rfl,rfl⟩
def rmK (K:Ker) (sp:Nat) (s':Sc) (e:En):Ker:=⟨K.sheets,(v9 K e).frames,(v9 K e).slots,K.spaces.set sp s',K.hand⟩
theorem b4A {K:Ker} {sp:Nat} {s:Sc} {A B:List En} {e:En} (h:Right K) (hs:K.spaces[sp]?=some s) (hE:s.entries=A++e::B):b5j K (rmK K sp ⟨s.live,s.areas,A++B⟩ e) sp e.page:=by
 have hsc:=a1B.1 (h.spaces s (xc8 hs));have hse:=a0v hs;obtain ⟨s',hs'⟩:∃ s':Sc,s'=⟨s.live,s.areas,A++B⟩:=⟨_,rfl⟩;rw [<- hs'];have hrs:=hsc.rises;rw [hE] at hrs;obtain ⟨hr1,hr2⟩:=a7K hrs;have heM:e ∈ s.entries:=by rw [hE];exact xe2 _ xc4
 have hin:=(h.ent hs heM).2;obtain ⟨b,hb,hb1,hb2,hk12⟩:∃ b:Nat,e.at_=(b:Nat)/\(e.kind=1->b < K.frames.length)/\(e.kind≠1->b < K.slots.length)/\(e.kind=1\/e.kind=2):=by
  rcases hin with ⟨k,b,hb,hl⟩|⟨k,b,hb,hl⟩
  ·exact ⟨b,hb,fun _=>hl,fun h=>absurd k h,xd4 k⟩
  ·exact ⟨b,hb,fun h=>by omega,fun _=>hl,xd1 k⟩
 obtain ⟨M,hMd⟩:∃ M:Int->Int->List Nm,M=fun k a=>nmL s k a (A++B)++i7 (K.spaces.eraseIdx sp) k a:=⟨_,rfl⟩;have hM:∀ k a,(i7 K.spaces k a).Perm (nmL s k a [e]++M k a):=fun k a=>by
  refine (a5d (s':=s') hs k a).2.trans ?_;rw [hMd];dsimp only;rw [<- xf3,<- b1Z];refine List.Perm.append_right _ (b1W ?_);rw [hE];exact xj6
 have hM':∀ k a,(i7 (K.spaces.set sp s') k a).Perm (M k a):=fun k a=>by
  refine (a5d (s':=s') hs k a).1.trans ?_;rw [hMd];have:nm1 s' k a=nmL s k a (A++B):=by rw [hs'];rfl
  rw [this]
 have hscs:∀ i,a0l (rmK K sp s' e) i=if i=sp then s' else a0l K i:=fun i=>by
  unfold a0l rmK;show ((K.spaces.set sp s')[i]?).getD sc0=_;rw [xd7];by_cases e:sp=i
  ·subst e;rw [xe6 rfl,xe6 (d8 hs),xe6 rfl];rfl
  ·rw [xe7 e,xe7 (fun hh=>e hh.symm)]
 have har:∀ i,p9 (rmK K sp s' e) i=p9 K i:=fun i=>by
  unfold p9;rw [hscs];by_cases e:i=sp
  ·subst e;rw [xe6 rfl,hse,hs']
  ·rw [xe7 e]
 have hlv:∀ i,(a0l (rmK K sp s' e) i).live=(a0l K i).live:=fun i=>by
  rw [hscs];by_cases e:i=sp
  ·subst e;rw [xe6 rfl,hse,hs']
  ·rw [xe7 e]
 have hen:∀ i p,¬(i=sp/\p=e.page)->a2j (x5 (rmK K sp s' e) i) p=a2j (x5 K i) p:=fun i p hno=>by
  unfold x5;rw [hscs];by_cases e2:i=sp
  ·subst e2;rw [xe6 rfl,hse,hs',hE];exact a8a (fun h=>hno ⟨rfl,h⟩)
  ·rw [xe7 e2]
 have hfr:∀ i,a0o (rmK K sp s' e).frames i=if e.kind=1/\b=i then a1A (a0o K.frames i) else a0o K.frames i:=b2K hb hb1;have hsl:∀ i,a0C (rmK K sp s' e).slots i=if e.kind≠1/\b=i then a1D (a0C K.slots i) else a0C K.slots i:=b2v hb hb2;obtain ⟨hlf,hls,-,-,-⟩:=b1K K e;have hN1:∀ i:Nat,e.kind=1/\b=i->(i7 K.spaces 1 (i:Nat)).Perm (a0D s e::M 1 (i:Nat)):=fun i ⟨h1,h2⟩=>by
  refine (hM 1 (i:Nat)).trans ?_;rw [a8U [] ⟨h1,by rw [hb,h2]⟩];exact List.Perm.refl _
 have hN2:∀ i:Nat,e.kind≠1/\b=i->(i7 K.spaces 2 (i:Nat)).Perm (a0D s e::M 2 (i:Nat)):=fun i ⟨h1,h2⟩=>by
  refine (hM 2 (i:Nat)).trans ?_;rw [a8U [] ⟨by omega,by rw [hb,h2]⟩];exact List.Perm.refl _
 have hNo:∀ (k:Int) (i:Nat),¬(e.kind=k/\b=i)->(i7 K.spaces k (i:Nat)).Perm (M k (i:Nat)):=fun k i hno=>by
  refine (hM k (i:Nat)).trans ?_;rw [b0h [] (fun hh=>hno ⟨hh.1,by have:=hh.2;rw [hb] at this;omega⟩)];exact List.Perm.refl _
 have hdata:∀ (x:En),(x.kind=1\/x.kind=2)->(∃ c:Nat,x.at_=(c:Nat)/\(x.kind=1->c < K.frames.length)/\(x.kind=2->c < K.slots.length))->M x.kind x.at_≠[]->a5R (rmK K sp s' e) x=a5R K x:=by
  rintro x hk ⟨c,hc,hc1,hc2⟩ hne;unfold a5R;rcases hk with hk|hk
  ·rw [xe6 hk,xe6 hk,hc,xh2,hfr];rw [hk,hc] at hne;by_cases hw:e.kind=1/\b=c
   ·rw [xe6 hw];have hbo:=(h.fr c _ (xd8 (hc1 hk))).perm (hN1 c hw);rw [a1q (xd8 (hc1 hk))]
    cases hMb:M 1 (c:Nat) with
    |nil=>exact absurd hMb hne
    |cons m N=>
     rw [hMb] at hbo;exact b1T hbo
   ·rw [xe7 hw]
  ·rw [xe7 (by omega),xe7 (by omega),hc,xh2,hsl];rw [hk,hc] at hne;by_cases hw:e.kind≠1/\b=c
   ·rw [xe6 hw];have hbo:=(h.sl c _ (xd8 (hc2 hk))).perm (hN2 c hw);rw [a1i (xd8 (hc2 hk))]
    cases hMb:M 2 (c:Nat) with
    |nil=>exact absurd hMb hne
    |cons m N=>
     rw [hMb] at hbo;exact a9F hbo
   ·rw [xe7 hw]
 have hcnt:=h.cnt;have hhand:=h.hand;refine ⟨⟨?_,h.rise,?_,fun x hx=>?_,?_,fun i g hg=>?_,fun i g hg=>?_⟩,rfl,hlf,hls,xa7,har,hlv,fun i p hno=>?_⟩
 ·show 3<=(v9 K e).frames.length/\(v9 K e).frames.length<=64/\(v9 K e).slots.length<=512/\1<=(K.spaces.set sp s').length/\(K.spaces.set sp s').length<=4/\K.sheets.length<=255;rw [hlf,hls,xa7];exact hcnt
 ·show 0<=K.hand/\K.hand < ((v9 K e).frames.length:Int);rw [hlf];exact hhand
 ·show n7 K.sheets (v9 K e).frames.length (v9 K e).slots.length x=true;rw [hlf,hls];have hx:x ∈ K.spaces.set sp s':=hx;rcases xj8 hx with hx|rfl
  ·exact h.spaces x hx
  ·rw [a1B,hs'];refine ⟨fun hl=>?_,hsc.ar,hsc.pages,fun x hx=>?_,hr1⟩
   ·have:=(hsc.dead hl).2;rw [hE] at this;simp at this
   ·refine hsc.ents x ?_;rw [hE];rcases xd9.1 hx with hx|hx
    ·exact xe1 _ hx
    ·exact xe2 _ (xc5 _ hx)
 ·show o6 (K.spaces.set sp s')<=((v9 K e).slots.length:Int);rw [hls];have:o6 (K.spaces.set sp s')=o6 K.spaces:=by
   unfold o6;rw [xj2,hs']
   congr 1
   refine xg5 fun j=>?_;rw [xd7];by_cases e:sp=j
   ·subst e;rw [xe6 rfl,xh8,xe6 (d8 hs),xg9,hs];rfl
   ·rw [xe7 e]
  rw [this];exact h.room
 ·have hg:(v9 K e).frames[i]?=some g:=hg;have hil:i < K.frames.length:=by have:=d8 hg;omega
  have hgi:=xd8 hil;have hge:=hfr i;rw [show a0o (rmK K sp s' e).frames i=g from a1q hg,a1q hgi] at hge;show FmOk K.sheets g (i7 (K.spaces.set sp s') 1 (i:Nat));by_cases hw:e.kind=1/\b=i
  ·rw [xe6 hw] at hge;rw [hge];exact ((h.fr i _ hgi).perm (hN1 i hw)).dec.perm (hM' 1 i).symm
  ·rw [xe7 hw] at hge;rw [hge];exact (h.fr i _ hgi).perm ((hNo 1 i hw).trans (hM' 1 i).symm)
 ·have hg:(v9 K e).slots[i]?=some g:=hg;have hil:i < K.slots.length:=by have:=d8 hg;omega
  have hgi:=xd8 hil;have hge:=hsl i;rw [show a0C (rmK K sp s' e).slots i=g from a1i hg,a1i hgi] at hge;show SwOk g (i7 (K.spaces.set sp s') 2 (i:Nat));by_cases hw:e.kind≠1/\b=i
  ·rw [xe6 hw] at hge;rw [hge];exact ((h.sl i _ hgi).perm (hN2 i hw)).dec.perm (hM' 2 i).symm
  ·rw [xe7 hw] at hge;rw [hge];exact (h.sl i _ hgi).perm ((hNo 2 i (fun hh=>hw ⟨by omega,hh.2⟩)).trans (hM' 2 i).symm)
 ·unfold a2q;rw [hen i p hno]
  cases hx:a2j (x5 K i) p with
  |none=>exact a7k (hs:=by rfl) (ha:=har i) p
  |some x=>
   show a5R _ x=a5R K x;obtain ⟨hx1,hx2⟩:=a82 hx
   cases hi:K.spaces[i]? with
   |none=>unfold x5 at hx1;rw [a5Q hi] at hx1;cases hx1
   |some t=>
    unfold x5 at hx1;rw [a0v hi] at hx1;have hin:=(h.ent hi hx1).2;have hk:x.kind=1\/x.kind=2:=by rcases hin with ⟨a,-⟩|⟨a,-⟩ <;> omega
    refine hdata x hk ?_ ?_
    ·rcases hin with ⟨a,b,c,d⟩|⟨a,b,c,d⟩
     ·exact ⟨b,c,fun _=>d,fun hh=>by omega⟩
     ·exact ⟨b,c,fun hh=>by omega,fun _=>d⟩
    ·rw [hMd];intro hnil;obtain ⟨h1,h2⟩:=xk6.1 hnil;by_cases e2:i=sp
     ·subst e2;rw [hs] at hi
      cases hi
      have hxR:x ∈ A++B:=by
       rw [hE] at hx1;rcases xd9.1 hx1 with h4|h4
       ·exact xe1 _ h4
       ·rcases xc3.1 h4 with rfl|h4
        ·exact absurd ⟨rfl,hx2.symm⟩ hno
        ·exact xe2 _ h4
      have:a0D s x ∈ nmL s x.kind x.at_ (A++B):=xi8.2 ⟨x,xk7.2 ⟨hxR,by simp⟩,rfl⟩;rw [h1] at this
      cases this
     ·have hte:t ∈ K.spaces.eraseIdx sp:=List.mem_eraseIdx_iff_getElem?.2 ⟨i,e2,hi⟩;have:a0D t x ∈ i7 (K.spaces.eraseIdx sp) x.kind x.at_:=by
       rw [a7C,List.mem_flatMap];exact ⟨t,hte,xi8.2 ⟨x,xk7.2 ⟨hx1,by simp⟩,rfl⟩⟩
      rw [h2] at this
      cases this
def b4h (fr:List Fm) (sl:List Sw):Prop:=(∀ f ∈ fr,0<=f.refs/\f.refs<=100000)/\∀ f ∈ sl,0<=f.refs/\f.refs<=100000
structure b5l (K K':Ker) (sp:Nat) (P:Int->Prop):Prop where
 right:Right K'
 sheets:K'.sheets=K.sheets
 nfr:K'.frames.length=K.frames.length
 nsl:K'.slots.length=K.slots.length
 nsp:K'.spaces.length=K.spaces.length
 ar:∀ i,p9 K' i=p9 K i
 live:∀ i,(a0l K' i).live=(a0l K i).live
 peek:∀ i p,¬(i=sp/\P p)->a2q K' i p=a2q K i p
theorem a9L {K1 K2:Ker} (h1:K1.frames=K2.frames) (h2:K1.slots=K2.slots) (e:En):(v9 K1 e).frames=(v9 K2 e).frames/\(v9 K1 e).slots=(v9 K2 e).slots:=by
 unfold v9
 split
 ·exact ⟨by dsimp only;rw [h1],h2⟩
 ·exact ⟨h1,by dsimp only;rw [h2]⟩
theorem a5O:∀ (l:List En) {K1 K2:Ker},K1.frames=K2.frames->K1.slots=K2.slots->(l.foldl v9 K1).frames=(l.foldl v9 K2).frames/\(l.foldl v9 K1).slots=(l.foldl v9 K2).slots
 |[],_,_,h1,h2=>⟨h1,h2⟩
 |e::l,_,_,h1,h2=>by
  obtain ⟨a,b⟩:=a9L h1 h2 e;exact a5O l a b
def fgK (K:Ker) (sp:Nat) (s:Sc) (p:En->Bool) (D R:List En):Ker:=⟨K.sheets,((R.filter p).foldl v9 K).frames,((R.filter p).foldl v9 K).slots,K.spaces.set sp ⟨s.live,s.areas,D++R.filter fun e=>!p e⟩,K.hand⟩
theorem b1Q {α:Type} {l:List α} {i:Nat} {x:α} (h:l[i]?=some x):l.set i x=l:=by
 refine xg5 fun j=>?_;rw [xd7];by_cases e:i=j
 ·subst e;rw [xe6 rfl,xe6 (d8 h),h]
 ·rw [xe7 e]
theorem b0P (p:En->Bool) {sp:Nat}:∀ (R:List En) {K:Ker} {s:Sc} {D:List En},Right K->K.spaces[sp]?=some s->s.entries=D++R->b5l K (fgK K sp s p D R) sp (fun q=>∃ e ∈ R,p e=true/\e.page=q)/\∀ j,b4h (((R.take j).filter p).foldl v9 K).frames (((R.take j).filter p).foldl v9 K).slots
 |[],K,s,D,h,hs,hE=>by
  have e:fgK K sp s p D []=K:=by
   unfold fgK;have:(⟨s.live,s.areas,D++List.filter (fun e=>!p e) []⟩:Sc)=s:=by
    rw [xk8,<- hE]
   rw [this,b1Q hs];rfl
  rw [e];refine ⟨⟨h,rfl,rfl,rfl,rfl,fun _=>rfl,fun _=>rfl,fun _ _ _=>rfl⟩,fun j=>?_⟩;rw [List.take_nil];exact a1U h
 |e::R,K,s,D,h,hs,hE=>by
  by_cases hp:p e=true
  ·have h1:=b4A h hs hE;have hs1:(rmK K sp ⟨s.live,s.areas,D++R⟩ e).spaces[sp]?=some ⟨s.live,s.areas,D++R⟩:=by
    show (K.spaces.set sp _)[sp]?=_;rw [xd7,xe6 rfl,xe6 (d8 hs)]
   obtain ⟨h2,h3⟩:=b0P p R (s:=⟨s.live,s.areas,D++R⟩) (D:=D) h1.right hs1 rfl;have hc:=fun l=>a5O l (K1:=rmK K sp ⟨s.live,s.areas,D++R⟩ e) (K2:=v9 K e) rfl rfl;have eK:fgK (rmK K sp ⟨s.live,s.areas,D++R⟩ e) sp ⟨s.live,s.areas,D++R⟩ p D R=fgK K sp s p D (e::R):=by
    unfold fgK;rw [xk9 hp,xl0 (by simp [hp]),xf4,(hc _).1,(hc _).2];show Ker.mk _ _ _ ((K.spaces.set sp _).set sp _) _=_;rw [xj3];rfl
   rw [eK] at h2;refine ⟨⟨h2.right,h2.sheets.trans h1.sheets,h2.nfr.trans h1.nfr,h2.nsl.trans h1.nsl,h2.nsp.trans h1.nsp,fun i=>(h2.ar i).trans (h1.ar i),fun i=>(h2.live i).trans (h1.live i),fun i q hno=>?_⟩,fun j=>?_⟩
   ·rw [h2.peek i q (fun hh=>hno ⟨hh.1,by obtain ⟨x,hx,h4⟩:=hh.2;exact ⟨x,xc5 _ hx,h4⟩⟩),h1.peek i q (fun hh=>hno ⟨hh.1,e,xc4,hp,hh.2.symm⟩)]
   ·cases j with
    |zero=>exact a1U h
    |succ j=>
     rw [xi4,xk9 hp,xf4,<- (hc _).1,<- (hc _).2];exact h3 j
  ·have hp':p e=false:=by simpa using hp
   obtain ⟨h2,h3⟩:=b0P p R (D:=D++[e]) h hs (by rw [hE,xf3];rfl);have eK:fgK K sp s p (D++[e]) R=fgK K sp s p D (e::R):=by
    unfold fgK;rw [xl0 hp,xk9 (by simp [hp']),xf3];rfl
   rw [eK] at h2;refine ⟨⟨h2.right,h2.sheets,h2.nfr,h2.nsl,h2.nsp,h2.ar,h2.live,fun i q hno=>h2.peek i q (fun hh=>hno ⟨hh.1,by obtain ⟨x,hx,h4⟩:=hh.2;exact ⟨x,xc5 _ hx,h4⟩⟩)⟩,fun j=>?_⟩
   cases j with
   |zero=>exact a1U h
   |succ j=>
    rw [xi4,xl0 hp];exact h3 j
def a4f (K:Ker) (sp:Nat) (p:En->Bool):Ker:=fgK K sp (a0l K sp) p [] (x5 K sp)
def a5F (K:Ker) (sp:Nat):Ker:=b1q (a4f K sp fun _=>true) sp sc0
def b4D (f:Fm) (n:Int):Fm:=⟨f.data,f.refs + n,f.dirty,f.seen⟩
def b4T (f:Sw) (n:Int):Sw:=⟨f.data,f.refs + n⟩
theorem a4V {α:Type} {N M:List α} (hs:∀ n ∈ M,n ∈ N) (h:N=[]):M=[]:=by
 cases M with
 |nil=>rfl
 |cons a l=>
  have:=hs a xc4;rw [h] at this
  cases this
theorem FmOk.add {sh:List Sh} {f:Fm} {N M:List Nm} (h:FmOk sh f N) (hs:∀ n ∈ M,n ∈ N):FmOk sh (b4D f (M.length:Nat)) (N++M):=by
 have hm:∀ n ∈ N++M,n ∈ N:=fun n hn=>by
  rcases xd9.1 hn with hn|hn
  ·exact hn
  ·exact hs n hn
 refine ⟨?_,fun hn=>?_,fun hn=>h.len (fun h0=>hn (by rw [h0,a4V hs h0];rfl)),fun n hn m hm2=>h.same n (hm n hn) m (hm m hm2),fun n hn=>h.data n (hm n hn)⟩
 ·show f.refs + _=_;rw [h.refs,xe5];omega
 ·obtain ⟨h1,h2⟩:=xk6.1 hn;rw [h2,h.nil h1];rfl
theorem SwOk.add {f:Sw} {N M:List Nm} (h:SwOk f N) (hs:∀ n ∈ M,n ∈ N):SwOk (b4T f (M.length:Nat)) (N++M):=by
 have hm:∀ n ∈ N++M,n ∈ N:=fun n hn=>by
  rcases xd9.1 hn with hn|hn
  ·exact hn
  ·exact hs n hn
 refine ⟨?_,fun hn=>?_,fun hn=>h.len (fun h0=>hn (by rw [h0,a4V hs h0];rfl)),fun n hn m hm2=>h.same n (hm n hn) m (hm m hm2)⟩
 ·show f.refs + _=_;rw [h.refs,xe5];omega
 ·obtain ⟨h1,h2⟩:=xk6.1 hn;rw [h2,h.nil h1];rfl
end Go.Proofs.YtejnpppejalhfacGreat
