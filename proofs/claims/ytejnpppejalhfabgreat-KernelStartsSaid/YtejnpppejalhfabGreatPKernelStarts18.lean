/- Texts that the proof stands on, one behind the other: Ke42, Ke43, Ke33, Lk13, Ke34, Ke35, LawStarts, Op1, OpA, OpK. -/
import Derived.Deep.Slices
import Derived.OpenShut
import Derived.WideShapes
import Derived.ProofKit
import Derived.Test.YtejnpppejalhfabGreatPKernelStarts17
namespace Go.Proofs.YtejnpppejalhfabGreat
set_option maxRecDepth 100000
set_option maxHeartbeats 8000000
open Go.RowKit Go.Sort
theorem a3B {w:World} {k k':KV} (hK:KerV w k) (hK':KerV w k') (he:k.K=k'.K):Fn Tryz.prog 22 [.agg (kvC k).toArray,.agg (kvC k').toArray] w (RBf (.bool true) w):=by
 have b1:=hK.fr.bound;have b2:=hK.sl.bound;have b3:=hK.sp.bound;have b4:=hK.sh.sl.bound;obtain ⟨sh,fr,sl,sps,hand,vsh,vfr,vsl,vsp⟩:=k;obtain ⟨sh',fr',sl',sps',hand',vsh',vfr',vsl',vsp'⟩:=k';unfold KV.K at he;injection he with e1 e2 e3 e4 e5
 dsimp only at e1 e2 e3 e4 e5;subst e2 e3 e5;have hsame:=fun w1 (h:ShsV w1 sh vsh) (h':ShsV w1 sh' vsh')=>a7E h h' e1;have hl4:sps.length=sps'.length:=by have:=congrArg List.length e4;simpa using this
 obtain ⟨k1,k2,k3,k4,k5⟩:=hK;obtain ⟨m1,m2,m3,m4,m5⟩:=hK';dsimp only at b1 b2 b3 b4 k1 k2 k3 k4 k5 m1 m2 m3 m4 m5;obtain ⟨p1,c1,rfl⟩:=k1.sl.len;obtain ⟨p2,c2,rfl⟩:=k2.len;obtain ⟨p3,c3,rfl⟩:=k3.len;obtain ⟨p4,c4,rfl⟩:=k4.len;obtain ⟨q1,d1,rfl⟩:=m1.sl.len;obtain ⟨q2,d2,rfl⟩:=m2.len;obtain ⟨q3,d3,rfl⟩:=m3.len;obtain ⟨q4,d4,rfl⟩:=m4.len;unfold kvC;dsimp only;have z0:(!decide (hand=hand))=false:=by rw [xi0 rfl];rfl
 have z2:(!decide ((fr.length:Int)=fr.length))=false:=by rw [xi0 rfl];rfl
 have z3:(!decide ((sl.length:Int)=sl.length))=false:=by rw [xi0 rfl];rfl
 have z4:(!decide ((sps.length:Int)=sps'.length))=false:=by rw [xi0 (by omega)];rfl
 refine yEn Tryz.func22 Tryz.ntmps22 (by kernel_rfl) (by kernel_rfl) rfl rfl ?_;have hS:=St.start w
 repeat' (first|(with_reducible apply b9 b8);rfl;rfl;rfl|(with_reducible apply c9);rfl;(first|apply Ld.sc b8;rfl;(first|exact hS.blkC 0 rfl rfl|exact hS.blkC 1 rfl rfl)|apply Ld.sl b8;rfl;(first|exact hS.blkC 0 rfl rfl|exact hS.blkC 1 rfl rfl));rfl|refine yDn (by with_reducible constructor) ?_|((with_reducible apply k6);(iterate 4 rfl);first|rfl|assumption)|(with_reducible apply e9);rfl;(first|rfl|assumption);rfl;rfl|(with_reducible apply f6);rfl;assumption|(with_reducible apply k9 hS);rfl;rfl;rfl;clear hS;intro g w' hS|(with_reducible apply d8 hS);rfl;rfl;rfl;refine ⟨_,hsame _ (k1.now hS) (m1.now hS),?_⟩;clear hS;intro w' hS)
 refine a0p hS 5 [2,3] rfl fr.length (fun _=>True) 0 rfl (xi5 _) trivial ?_;rintro i w1 hi - hS';clear hS;have hS:=hS';clear hS';by_cases hlt:i < fr.length
 ·obtain ⟨f,hf⟩:=i9 (l:=fr) (i:=i) (by omega);have hrow:=d9 (f:=fmC) hf;obtain ⟨b,off,rfl,hro⟩:=k2.at_ (i:=i) hlt;obtain ⟨b',off',rfl,hro'⟩:=m2.at_ (i:=i) hlt;have heq:=b6c f f;rw [xi0 rfl] at heq
  repeat' (first|(with_reducible apply b9 b8);rfl;rfl;rfl|(with_reducible apply c9);rfl;(apply Ld.sl b8;rfl;exact hS.blkC 1 rfl rfl);rfl|refine yDn (by with_reducible constructor) ?_|(with_reducible apply d7);rfl;all_goals (intro hb hp;try (exfalso;omega)))
  (focus ((with_reducible apply e6 _ _ _ (by kernel_rfl) (by kernel_rfl) hS);(repeat' (first|(first|(with_reducible apply j3 b8);rfl;rfl|(with_reducible apply j0);rfl;(intro wd hd;replace hd:St _ _ wd _:=hd;(first|apply Ld.sl b8;rfl;(first|exact hd.blkC 0 rfl rfl|exact hd.blkC 1 rfl rfl)|apply Ld.st b8;rfl;exact hd.roR (by assumption) (by assumption);rfl));rfl|(with_reducible apply a0s b8);rfl;rfl;rfl;rfl;omega;rfl)|(with_reducible apply a6D);rfl;rfl;exact heq;rfl));all_goals ((with_reducible apply k8);intro w' hS';clear hS;have hS:=hS';clear hS')))
  repeat' (first|(with_reducible apply b9 b8);rfl;rfl;rfl|(with_reducible apply f9);rfl;rfl;omega;omega;rfl|refine yDn (by with_reducible constructor) ?_|(with_reducible apply f6);rfl;rfl)
  exact v9 (i + 1) (by exact Fr.sub_of rfl) (by omega) trivial (by omega) hS
 repeat' (first|(with_reducible apply b9 b8);rfl;rfl;rfl|(with_reducible apply c9);rfl;(apply Ld.sl b8;rfl;exact hS.blkC 1 rfl rfl);rfl|refine yDn (by with_reducible constructor) ?_|(with_reducible apply d7);rfl;all_goals (intro hb hp;try (exfalso;omega)))
 refine a0p hS 6 [2,3] rfl sl.length (fun _=>True) 0 rfl (xi5 _) trivial ?_;rintro i w1 hi - hS';clear hS;have hS:=hS';clear hS';by_cases hlt:i < sl.length
 ·obtain ⟨f,hf⟩:=i9 (l:=sl) (i:=i) (by omega);have hrow:=d9 (f:=swC) hf;obtain ⟨b,off,rfl,hro⟩:=k3.at_ (i:=i) hlt;obtain ⟨b',off',rfl,hro'⟩:=m3.at_ (i:=i) hlt;have heq:=b4k f f;rw [xi0 rfl] at heq
  repeat' (first|(with_reducible apply b9 b8);rfl;rfl;rfl|(with_reducible apply c9);rfl;(apply Ld.sl b8;rfl;exact hS.blkC 1 rfl rfl);rfl|refine yDn (by with_reducible constructor) ?_|(with_reducible apply d7);rfl;all_goals (intro hb hp;try (exfalso;omega)))
  (focus ((with_reducible apply e6 _ _ _ (by kernel_rfl) (by kernel_rfl) hS);(repeat' (first|(first|(with_reducible apply j3 b8);rfl;rfl|(with_reducible apply j0);rfl;(intro wd hd;replace hd:St _ _ wd _:=hd;(first|apply Ld.sl b8;rfl;(first|exact hd.blkC 0 rfl rfl|exact hd.blkC 1 rfl rfl)|apply Ld.st b8;rfl;exact hd.roR (by assumption) (by assumption);rfl));rfl|(with_reducible apply a0s b8);rfl;rfl;rfl;rfl;omega;rfl)|(with_reducible apply a6D);rfl;rfl;exact heq;rfl));all_goals ((with_reducible apply k8);intro w' hS';clear hS;have hS:=hS';clear hS')))
  repeat' (first|(with_reducible apply b9 b8);rfl;rfl;rfl|(with_reducible apply f9);rfl;rfl;omega;omega;rfl|refine yDn (by with_reducible constructor) ?_|(with_reducible apply f6);rfl;rfl)
  exact v9 (i + 1) (by exact Fr.sub_of rfl) (by omega) trivial (by omega) hS
 repeat' (first|(with_reducible apply b9 b8);rfl;rfl;rfl|(with_reducible apply c9);rfl;(apply Ld.sl b8;rfl;exact hS.blkC 1 rfl rfl);rfl|refine yDn (by with_reducible constructor) ?_|(with_reducible apply d7);rfl;all_goals (intro hb hp;try (exfalso;omega)))
 refine a0p hS 7 [2,3] rfl sps.length (fun _=>True) 0 rfl (xi5 _) trivial ?_;rintro i w1 hi - hS';clear hS;have hS:=hS';clear hS';by_cases hlt:i < sps.length;rotate_left
 ·repeat' (first|(with_reducible apply b9 b8);rfl;rfl;rfl|(with_reducible apply c9);rfl;(apply Ld.sl b8;rfl;exact hS.blkC 1 rfl rfl);rfl|refine yDn (by with_reducible constructor) ?_|(with_reducible apply d7);rfl;all_goals (intro hb hp;try (exfalso;omega)))
  (refine j4 rfl ?_)
  exact ⟨rfl,hS.sub (xh2 _)⟩
 obtain ⟨x,hx⟩:=i9 (l:=sps) (i:=i) (by omega);obtain ⟨y,hy⟩:=i9 (l:=sps') (i:=i) (by omega);have hxy:x.s=y.s:=by
  have h1:(sps.map (·.s))[i]?=some x.s:=d9 (f:=fun p:Sp=>p.s) hx;have h2:(sps'.map (·.s))[i]?=some y.s:=d9 (f:=fun p:Sp=>p.s) hy;rw [e4,h2] at h1;exact (Option.some.inj h1).symm
 have hrow:=d9 (f:=spC) hx;have hrow':=d9 (f:=spC) hy;obtain ⟨b,off,rfl,hro⟩:=k4.at_ (i:=i) hlt;obtain ⟨b',off',rfl,hro'⟩:=m4.at_ (i:=i) (by omega);have hxv:=k5 x (xd0 hx);have hyv:=m5 y (xd0 hy);have ha:=hxv.ar;have hen:=hxv.en;have ha':=hyv.ar;have hen':=hyv.en;obtain ⟨s,va,ve⟩:=x;obtain ⟨s',va',ve'⟩:=y;dsimp only at hxy ha hen ha' hen';subst hxy;have be:=hen.bound;obtain ⟨pa,ca,rfl⟩:=ha.len;obtain ⟨pe,ce,rfl⟩:=hen.len;obtain ⟨pa',ca',rfl⟩:=ha'.len;obtain ⟨pe',ce',rfl⟩:=hen'.len;unfold spC at hrow hrow';dsimp only at hrow hrow';have hsa:=fun w1 (h:Sl nF w1 4 (.slice pa s.areas.length ca) (s.areas.map arC)) (h':Sl nF w1 4 (.slice pa' s.areas.length ca') (s.areas.map arC))=>b6o h h';rw [xi0 rfl] at hsa;have z5:(!decide ((s.entries.length:Int)=s.entries.length))=false:=by rw [xi0 rfl];rfl
 have z6:(!decide (s.live=s.live))=false:=by rw [xi0 rfl];rfl
 repeat' (first|(with_reducible apply b9 b8);rfl;rfl;rfl|(with_reducible apply c9);rfl;(apply Ld.sl b8;rfl;exact hS.blkC 1 rfl rfl);rfl|refine yDn (by with_reducible constructor) ?_|(with_reducible apply d7);rfl;all_goals (intro hb hp;try (exfalso;omega)))
 refine a4a 14 rfl hS (by kernel_rfl) ?_;intro wh hh;clear hS;have hS:=hh;clear hh
 ((with_reducible apply g8 (nn 0) b8);rfl;kernel_rfl;exact (fun _ _ _ h=>h);exact hS;rfl;rfl)
 ((with_reducible apply n5 (nn 1));rfl;kernel_rfl;exact (fun _ _ _ h=>h);exact hS;rfl;(intro wd hd;replace hd:St _ _ wd _:=hd;(apply Ld.sl b8;rfl;exact hd.blkC 1 rfl rfl));rfl)
 ((with_reducible apply g8 (nn 2) b8);rfl;kernel_rfl;exact (fun _ _ _ h=>h);exact hS;rfl;rfl)
 ((with_reducible apply b5d (nn 3) b8);rfl;kernel_rfl;kernel_rfl;kernel_rfl;exact (fun _ _ _ _ h=>h);exact hS;rfl;rfl;rfl;rfl;omega;rfl)
 ((with_reducible apply n5 (nn 4));rfl;kernel_rfl;exact (fun _ _ _ h=>h);exact hS;rfl;(intro wd hd;replace hd:St _ _ wd _:=hd;(apply Ld.st b8;rfl;exact hd.roR (by assumption) (by assumption);rfl));rfl)
 ((with_reducible apply g8 (nn 5) b8);rfl;kernel_rfl;exact (fun _ _ _ h=>h);exact hS;rfl;rfl)
 ((with_reducible apply n5 (nn 6));rfl;kernel_rfl;exact (fun _ _ _ h=>h);exact hS;rfl;(intro wd hd;replace hd:St _ _ wd _:=hd;(apply Ld.sl b8;rfl;exact hd.blkC 0 rfl rfl));rfl)
 ((with_reducible apply g8 (nn 7) b8);rfl;kernel_rfl;exact (fun _ _ _ h=>h);exact hS;rfl;rfl)
 ((with_reducible apply b5d (nn 8) b8);rfl;kernel_rfl;kernel_rfl;kernel_rfl;exact (fun _ _ _ _ h=>h);exact hS;rfl;rfl;rfl;rfl;omega;rfl)
 ((with_reducible apply n5 (nn 9));rfl;kernel_rfl;exact (fun _ _ _ h=>h);exact hS;rfl;(intro wd hd;replace hd:St _ _ wd _:=hd;(apply Ld.st b8;rfl;exact hd.roR (by assumption) (by assumption);rfl));rfl)
 refine a17 (i:=10) (j:=11) (by kernel_rfl) ?_ ?_
 ·refine j5 rfl (v6 hS b8 rfl rfl) rfl ?_;rintro _ w' ⟨g,rfl,hS'⟩;clear hS;have hS:=hS';clear hS';refine ⟨hS.drop,?_⟩;refine k7 (i:=11) (by kernel_rfl) ?_;refine j5 rfl (v6 hS b8 rfl rfl) rfl ?_;rintro _ w' ⟨g,rfl,hS'⟩;clear hS;have hS:=hS';clear hS';refine ⟨hS.drop.drop,?_⟩;refine k7 (i:=12) (by kernel_rfl) ?_;refine l9 (Φ:=fun _ w'=>St _ _ w' _) rfl (j9 hS b8 (i:=1) rfl rfl rfl rfl rfl (xg4 rfl) (xc7.1 rfl)) ?_;intro _ w' hS';simp only [List.set] at hS';clear hS;have hS:=hS';clear hS';refine ⟨hS.drop.drop,?_⟩;refine k7 (i:=13) (by kernel_rfl) ?_;refine l9 (Φ:=fun _ w'=>St _ _ w' _) rfl (j9 hS b8 (i:=0) rfl rfl rfl rfl rfl (xg4 rfl) (xc7.1 rfl)) ?_;intro _ w' hS';simp only [List.set] at hS';clear hS;have hS:=hS';clear hS';refine ⟨hS.drop.drop,?_⟩;refine o8 (by kernel_rfl) ?_
  repeat' (first|(with_reducible apply b9 b8);rfl;rfl;rfl|(with_reducible apply c9);rfl;(first|apply Ld.sc b8;rfl;(first|exact hS.blkC 0 rfl rfl|exact hS.blkC 1 rfl rfl)|apply Ld.sl b8;rfl;(first|exact hS.blkC 0 rfl rfl|exact hS.blkC 1 rfl rfl));rfl|(with_reducible apply b68 b8);(iterate 4 rfl)|refine yDn (by with_reducible constructor) ?_|((with_reducible apply k6);(iterate 4 rfl);first|rfl|assumption)|(with_reducible apply e9);rfl;(first|rfl|assumption);rfl;rfl|(with_reducible apply f6);rfl;assumption|(with_reducible apply d8 hS);rfl;rfl;rfl;refine ⟨_,hsa _ (ha.now hS) (ha'.now hS),?_⟩;clear hS;intro w' hS)
  refine a0p hS 10 [2,3,7,8,9] rfl s.entries.length (fun _=>True) 0 rfl (xi5 _) trivial ?_;rintro j w3 hj - hS';clear hS;have hS:=hS';clear hS';by_cases hjl:j < s.entries.length
  ·obtain ⟨e,he⟩:=i9 (l:=s.entries) (i:=j) (by omega);have hrow2:=d9 (f:=enC) he;obtain ⟨b2,off2,rfl,hro2⟩:=hen.at_ (i:=j) hjl;obtain ⟨b3,off3,rfl,hro3⟩:=hen'.at_ (i:=j) hjl;have heq:=b75 e e;rw [xi0 rfl] at heq
   repeat' (first|(with_reducible apply b9 b8);rfl;rfl;rfl|(with_reducible apply c9);rfl;(apply Ld.sl b8;rfl;exact hS.blkC 1 rfl rfl);rfl|refine yDn (by with_reducible constructor) ?_|(with_reducible apply d7);rfl;all_goals (intro hb hp;try (exfalso;omega)))
   (focus ((with_reducible apply e6 _ _ _ (by kernel_rfl) (by kernel_rfl) hS);(repeat' (first|(first|(with_reducible apply j3 b8);rfl;rfl|(with_reducible apply j0);rfl;(intro wd hd;replace hd:St _ _ wd _:=hd;(first|apply Ld.sl b8;rfl;(first|exact hd.blkC 0 rfl rfl|exact hd.blkC 1 rfl rfl)|apply Ld.st b8;rfl;exact hd.roR (by assumption) (by assumption);rfl));rfl|(with_reducible apply a0s b8);rfl;rfl;rfl;rfl;omega;rfl)|(with_reducible apply a6D);rfl;rfl;exact heq;rfl));all_goals ((with_reducible apply k8);intro w' hS';clear hS;have hS:=hS';clear hS')))
   repeat' (first|(with_reducible apply b9 b8);rfl;rfl;rfl|(with_reducible apply f9);rfl;rfl;omega;omega;rfl|refine yDn (by with_reducible constructor) ?_|(with_reducible apply f6);rfl;rfl)
   exact v9 (j + 1) (by exact Fr.sub_of rfl) (by omega) trivial (by omega) hS
  ·repeat' (first|(with_reducible apply b9 b8);rfl;rfl;rfl|(with_reducible apply c9);rfl;(apply Ld.sl b8;rfl;exact hS.blkC 1 rfl rfl);rfl|(with_reducible apply f9);rfl;rfl;omega;omega;rfl|refine yDn (by with_reducible constructor) ?_|(with_reducible apply d7);rfl;all_goals (intro hb hp;try (exfalso;omega)))
   exact v9 (i + 1) (by exact Fr.sub_of rfl) (by omega) trivial (by omega) hS.drop.drop
 ·refine j5 rfl (v6 hS b8 rfl rfl) rfl ?_;rintro _ w' ⟨g,rfl,hS'⟩;clear hS;have hS:=hS';clear hS';refine ⟨hS.drop,?_⟩;refine k7 (i:=10) (by kernel_rfl) ?_;refine j5 rfl (v6 hS b8 rfl rfl) rfl ?_;rintro _ w' ⟨g,rfl,hS'⟩;clear hS;have hS:=hS';clear hS';refine ⟨hS.drop.drop,?_⟩;refine k7 (i:=12) (by kernel_rfl) ?_;refine l9 (Φ:=fun _ w'=>St _ _ w' _) rfl (j9 hS b8 (i:=0) rfl rfl rfl rfl rfl (xg4 rfl) (xc7.1 rfl)) ?_;intro _ w' hS';simp only [List.set] at hS';clear hS;have hS:=hS';clear hS';refine ⟨hS.drop.drop,?_⟩;refine k7 (i:=13) (by kernel_rfl) ?_;refine l9 (Φ:=fun _ w'=>St _ _ w' _) rfl (j9 hS b8 (i:=1) rfl rfl rfl rfl rfl (xg4 rfl) (xc7.1 rfl)) ?_;intro _ w' hS';simp only [List.set] at hS';clear hS;have hS:=hS';clear hS';refine ⟨hS.drop.drop,?_⟩;refine o8 (by kernel_rfl) ?_
  repeat' (first|(with_reducible apply b9 b8);rfl;rfl;rfl|(with_reducible apply c9);rfl;(first|apply Ld.sc b8;rfl;(first|exact hS.blkC 0 rfl rfl|exact hS.blkC 1 rfl rfl)|apply Ld.sl b8;rfl;(first|exact hS.blkC 0 rfl rfl|exact hS.blkC 1 rfl rfl));rfl|(with_reducible apply b68 b8);(iterate 4 rfl)|refine yDn (by with_reducible constructor) ?_|((with_reducible apply k6);(iterate 4 rfl);first|rfl|assumption)|(with_reducible apply e9);rfl;(first|rfl|assumption);rfl;rfl|(with_reducible apply f6);rfl;assumption|(with_reducible apply d8 hS);rfl;rfl;rfl;refine ⟨_,hsa _ (ha.now hS) (ha'.now hS),?_⟩;clear hS;intro w' hS)
  refine a0p hS 10 [2,3,7,8,9] rfl s.entries.length (fun _=>True) 0 rfl (xi5 _) trivial ?_;rintro j w3 hj - hS';clear hS;have hS:=hS';clear hS';by_cases hjl:j < s.entries.length
  ·obtain ⟨e,he⟩:=i9 (l:=s.entries) (i:=j) (by omega);have hrow2:=d9 (f:=enC) he;obtain ⟨b2,off2,rfl,hro2⟩:=hen.at_ (i:=j) hjl;obtain ⟨b3,off3,rfl,hro3⟩:=hen'.at_ (i:=j) hjl;have heq:=b75 e e;rw [xi0 rfl] at heq
   repeat' (first|(with_reducible apply b9 b8);rfl;rfl;rfl|(with_reducible apply c9);rfl;(apply Ld.sl b8;rfl;exact hS.blkC 0 rfl rfl);rfl|refine yDn (by with_reducible constructor) ?_|(with_reducible apply d7);rfl;all_goals (intro hb hp;try (exfalso;omega)))
   (focus ((with_reducible apply e6 _ _ _ (by kernel_rfl) (by kernel_rfl) hS);(repeat' (first|(first|(with_reducible apply j3 b8);rfl;rfl|(with_reducible apply j0);rfl;(intro wd hd;replace hd:St _ _ wd _:=hd;(first|apply Ld.sl b8;rfl;(first|exact hd.blkC 0 rfl rfl|exact hd.blkC 1 rfl rfl)|apply Ld.st b8;rfl;exact hd.roR (by assumption) (by assumption);rfl));rfl|(with_reducible apply a0s b8);rfl;rfl;rfl;rfl;omega;rfl)|(with_reducible apply a6D);rfl;rfl;exact heq;rfl));all_goals ((with_reducible apply k8);intro w' hS';clear hS;have hS:=hS';clear hS')))
   repeat' (first|(with_reducible apply b9 b8);rfl;rfl;rfl|(with_reducible apply f9);rfl;rfl;omega;omega;rfl|refine yDn (by with_reducible constructor) ?_|(with_reducible apply f6);rfl;rfl)
   exact v9 (j + 1) (by exact Fr.sub_of rfl) (by omega) trivial (by omega) hS
  ·repeat' (first|(with_reducible apply b9 b8);rfl;rfl;rfl|(with_reducible apply c9);rfl;(apply Ld.sl b8;rfl;exact hS.blkC 0 rfl rfl);rfl|(with_reducible apply f9);rfl;rfl;omega;omega;rfl|refine yDn (by with_reducible constructor) ?_|(with_reducible apply d7);rfl;all_goals (intro hb hp;try (exfalso;omega)))
   exact v9 (i + 1) (by exact Fr.sub_of rfl) (by omega) trivial (by omega) hS.drop.drop
theorem Came.keep {w w':World} {k:KV} (h:Came w w' k):∃ Δ,St nF w w' Δ/\∀ {F:Nat->Prop} {w0 w2:World} {Γ:List Asr},St F w0 w2 Γ->(∀ A ∈ Δ,A ∈ Γ)->KerV w2 k:=by
 rcases h with ⟨rfl,h⟩|h
 ·exact ⟨[],h,fun _ _=>b4s _⟩
 ·refine ⟨a9c k,h,fun {F w0 w2 Γ} hS hm=>?_⟩;have hmem:∀ {e sz:Nat} {v:Value} {rows:List (List Value)},Asr.row e sz v rows ∈ a9c k->Sl nF w2 sz v rows:=fun h=>hS.slMem (hm _ h);have hr:∀ {A},A ∈ z9 k->A ∈ a9c k:=fun h=>xc6 _ (xc6 _ (xc6 _ (xe6 _ h)));refine ⟨⟨hmem (e:=94) (hr xc5),fun p hp=>?_⟩,hmem (e:=89) xc5,hmem (e:=143) (xc6 _ xc5),hmem (e:=75) (xc6 _ (xc6 _ xc5)),fun p hp=>⟨?_,?_⟩⟩
  ·exact hmem (e:=96) (hr (xc6 _ (xe5 _ (xh0.2 ⟨p,hp,rfl⟩))))
  ·exact hmem (e:=81) (hr (xc6 _ (xe6 _ (xh0.2 ⟨p,hp,rfl⟩))))
  ·exact hmem (e:=91) (xc6 _ (xc6 _ (xc6 _ (xe5 _ (xh0.2 ⟨p,hp,rfl⟩)))))
def a9k (f:Fm):Fm:=⟨f.data,f.refs + 1,f.dirty,f.seen⟩
def a9U (s:Sw):Sw:=⟨s.data,s.refs + 1⟩
def b6w (K:Ker) (e:En):Ker:=if e.kind=1 then ⟨K.sheets,K.frames.set e.at_.toNat (a9k (j7 K.frames e.at_.toNat)),K.slots,K.spaces,K.hand⟩ else ⟨K.sheets,K.frames,K.slots.set e.at_.toNat (a9U (a0T K.slots e.at_.toNat)),K.spaces,K.hand⟩
def a08 (k:KV) (e:En):KV:=if e.kind=1 then ⟨k.sh,k.fr.set e.at_.toNat (a9k (j7 k.fr e.at_.toNat)),k.sl,k.sp,k.hand,k.vsh,k.vfr,k.vsl,k.vsp⟩ else ⟨k.sh,k.fr,k.sl.set e.at_.toNat (a9U (a0T k.sl e.at_.toNat)),k.sp,k.hand,k.vsh,k.vfr,k.vsl,k.vsp⟩
theorem b12:∀ {l:List Sc},(∀ s ∈ l,0<=r6 s.areas)->0<=t5 l
 |[],_=>xj2 0
 |s::l,h=>by
  have h1:=h s xc5;have h2:=b12 (l:=l) fun x hx=>h x (xc6 _ hx);have e:t5 (s::l)=r6 s.areas + t5 l:=by unfold t5;simp
  omega
theorem b7K (k:KV) (e:En):(a08 k e).K=b6w k.K e:=by
 unfold a08 b6w
 split <;> rfl
def b36 (K:Ker) (sp:Nat):Ker :=
 let K1:=(j6 K sp).foldl b6w K
 ⟨K1.sheets,K1.frames,K1.slots,K1.spaces++[a0C K sp],K1.hand⟩
def a7T (K:Ker) (space:Int):Int:=if a03 K space=0 then (if K.spaces.length=4 then 2 else if (K.slots.length:Int) < t5 K.spaces + r6 (l5 K space.toNat) then 8 else 0) else a03 K space
def b3N (K:Ker) (space:Int):Ker:=if a7T K space=0 then b36 K space.toNat else a7D
def b48 (K:Ker) (space:Int):Int:=if a7T K space=0 then (K.spaces.length:Nat) else 0
theorem b3r (l:List En):∀ (k:KV),(l.foldl a08 k).K=l.foldl b6w k.K:=by
 induction l with
 |nil=>intro k;rfl
 |cons e l ih=>intro k;rw [xg3,ih,b7K];rfl
structure IncSame (k k':KV):Prop where
 sh:k'.sh=k.sh
 sp:k'.sp=k.sp
 hand:k'.hand=k.hand
 vsh:k'.vsh=k.vsh
 vfr:k'.vfr=k.vfr
 vsl:k'.vsl=k.vsl
 vsp:k'.vsp=k.vsp
 nfr:k'.fr.length=k.fr.length
 nsl:k'.sl.length=k.sl.length
theorem b23 (k:KV) (e:En):IncSame k (a08 k e):=by
 unfold a08
 split
 ·exact ⟨rfl,rfl,rfl,rfl,rfl,rfl,rfl,xa8,rfl⟩
 ·exact ⟨rfl,rfl,rfl,rfl,rfl,rfl,rfl,rfl,xa8⟩
theorem IncSame.trans {a b c:KV} (h:IncSame a b) (h2:IncSame b c):IncSame a c:=⟨h2.sh.trans h.sh,h2.sp.trans h.sp,h2.hand.trans h.hand,h2.vsh.trans h.vsh,h2.vfr.trans h.vfr,h2.vsl.trans h.vsl,h2.vsp.trans h.vsp,h2.nfr.trans h.nfr,h2.nsl.trans h.nsl⟩
def RefsB (k:KV) (b:Int):Prop:=(∀ f ∈ k.fr,0<=f.refs/\f.refs<=b)/\∀ f ∈ k.sl,0<=f.refs/\f.refs<=b
theorem RefsB.mono {k:KV} {b c:Int} (h:RefsB k b) (hbc:b<=c):RefsB k c:=⟨fun f hf=>by have:=h.1 f hf;omega,fun f hf=>by have:=h.2 f hf;omega⟩
theorem RefsB.inc {k:KV} {b:Int} (h:RefsB k b) (e:En) (hb:0<=b):RefsB (a08 k e) (b + 1):=by
 have hf0:∀ i,0<=(j7 k.fr i).refs/\(j7 k.fr i).refs<=b:=fun i=>by
  cases hi:k.fr[i]? with
  |none=>
   have:j7 k.fr i=fm0:=by unfold j7;rw [hi];rfl
   rw [this];exact ⟨xj2 0,hb⟩
  |some f=>rw [o7 hi];exact h.1 f (xd0 hi)
 have hs0:∀ i,0<=(a0T k.sl i).refs/\(a0T k.sl i).refs<=b:=fun i=>by
  cases hi:k.sl[i]? with
  |none=>
   have:a0T k.sl i=sw0:=by unfold a0T;rw [hi];rfl
   rw [this];exact ⟨xj2 0,hb⟩
  |some f=>rw [a1o hi];exact h.2 f (xd0 hi)
 unfold a08
 split
 ·refine ⟨fun f hf=>?_,fun f hf=>by have:=h.2 f hf;omega⟩;rcases xn0 hf with h1|h1
  ·have:=h.1 f h1;omega
  ·subst h1;have:=hf0 e.at_.toNat;show 0<=(j7 k.fr e.at_.toNat).refs + 1/\(j7 k.fr e.at_.toNat).refs + 1<=b + 1;omega
 ·refine ⟨fun f hf=>by have:=h.1 f hf;omega,fun f hf=>?_⟩;rcases xn0 hf with h1|h1
  ·have:=h.2 f h1;omega
  ·subst h1;have:=hs0 e.at_.toNat;show 0<=(a0T k.sl e.at_.toNat).refs + 1/\(a0T k.sl e.at_.toNat).refs + 1<=b + 1;omega
theorem b09 {k:KV} {b:Int} (h:RefsB k b) (hb:0<=b):∀ (l:List En),IncSame k (l.foldl a08 k)/\RefsB (l.foldl a08 k) (b + l.length):=by
 intro l
 induction l generalizing k b with
 |nil=>exact ⟨⟨rfl,rfl,rfl,rfl,rfl,rfl,rfl,rfl,rfl⟩,by rw [List.foldl_nil,xa2];exact h.mono (by omega)⟩
 |cons e l ih=>
  rw [xg3];obtain ⟨h1,h2⟩:=ih (h.inc e hb) (by omega);exact ⟨(b23 k e).trans h1,h2.mono (by rw [xb3];omega)⟩
theorem a8C {l:List En} {i:Nat} {e:En} (h:l[i]?=some e) (k:KV):(l.take (i + 1)).foldl a08 k=a08 ((l.take i).foldl a08 k) e:=by
 rw [xp5,h,xm9,xj4,xg3,List.foldl_nil]
theorem b4b {k:KV} {e:En} (h:e.kind=1):(a08 k e).fr=k.fr.set e.at_.toNat (a9k (j7 k.fr e.at_.toNat))/\(a08 k e).sl=k.sl:=by
 unfold a08;rw [xf0 h];exact ⟨rfl,rfl⟩
theorem b5m {k:KV} {e:En} (h:e.kind≠1):(a08 k e).sl=k.sl.set e.at_.toNat (a9U (a0T k.sl e.at_.toNat))/\(a08 k e).fr=k.fr:=by
 unfold a08;rw [xf1 h];exact ⟨rfl,rfl⟩
theorem b24 {α:Type} {ar en fr sl sp S:α} {E X A:List α}:(ar::en::fr::sl::sp::(E++(S::(X++A)))).Perm (fr::sl::sp::((E++[en])++(S::(X++(A++[ar]))))):=by
 refine (List.perm_append_comm_assoc [ar,en] [fr,sl,sp] (E++(S::(X++A)))).trans ?_;refine List.Perm.append_left [fr,sl,sp] ?_;show (ar::(en::(E++(S::(X++A))))).Perm _;refine (xp1 _ _).symm.trans ?_;have e1:(en::(E++(S::(X++A))))++[ar]=en::(E++(S::(X++(A++[ar])))):=by simp
 have e2:(E++[en])++(S::(X++(A++[ar])))=E++en::(S::(X++(A++[ar]))):=by simp
 rw [e1];exact List.perm_middle.symm.trans (List.Perm.of_eq e2.symm)
theorem b1L:∀ {l:List Sp} {i:Nat} {p:Sp},l[i]?=some p->[a5I p,a0F p].Sublist (spA l)
 |[],_,_,h=>by simp at h
 |q::l,0,p,h=>by
  have:q=p:=by simpa using h
  subst this;exact .cons_cons _ (.cons_cons _ (xh2 _))
 |q::l,i + 1,p,h=>.cons _ (.cons _ (b1L (l:=l) (i:=i) (by simpa using h)))
theorem b4c {g sp:Nat} {k:KV} {vh:Value} {held:List Nat} {a b:Asr} {R:List Asr}:(a::b::(wkS g k sp vh held++R)).Perm (frA k::slA k::a::b::.blk g (wkB k sp vh)::hdA vh held::a3u k::(k.sp.map a0F++R)) :=
 (xp2 (l₁:=[a,b,.blk g (wkB k sp vh),hdA vh held])).trans ((xp2 (l₁:=[a,b,.blk g (wkB k sp vh),hdA vh held])).cons _)
theorem b6I {w:World} {k:KV} (hK:KerV w k) (space:Int):Fn Tryz.prog 59 [.agg (kvC k).toArray,.int .i64 space] w (fun v w'=>∃ k',v=.tuple #[.agg (kvC k').toArray,.int .i64 (b48 k.K space),.int .i64 (a7T k.K space)]/\k'.K=b3N k.K space/\Came w w' k'):=by
 have hbeg:=fun w1 (h:KerV w1 k)=>a6s h space;have hK0:=hK;have hKown:Right k.K->∀ w1,KerV w1 k->Fn Tryz.prog 54 [.agg (kvC k).toArray] w1 (fun v w'=>∃ k':KV,v=.agg (kvC k').toArray/\k'.K=k.K/\St nF w1 w' (kA k')):=fun hr w1 h=>b00 h (b60 hr);obtain ⟨RE,hRE⟩:∃ e,e=a7T k.K space:=⟨_,rfl⟩;unfold b3N b48;rw [<- hRE];unfold a7T at hRE;obtain ⟨sh,fr,sl,sps,hand,vsh,vfr,vsl,vsp⟩:=k;obtain ⟨k1,k2,k3,k4,k5⟩:=hK;dsimp only at k1 k2 k3 k4 k5;obtain ⟨p1,c1,rfl⟩:=k1.sl.len;obtain ⟨p2,c2,rfl⟩:=k2.len;obtain ⟨p3,c3,rfl⟩:=k3.len;obtain ⟨p4,c4,rfl⟩:=k4.len;have hlS:(KV.K ⟨sh,fr,sl,sps,hand,.slice p1 sh.length c1,.slice p2 fr.length c2,.slice p3 sl.length c3,.slice p4 sps.length c4⟩).spaces.length=sps.length:=xh1 _;have hlL:(KV.K ⟨sh,fr,sl,sps,hand,.slice p1 sh.length c1,.slice p2 fr.length c2,.slice p3 sl.length c3,.slice p4 sps.length c4⟩).slots.length=sl.length:=rfl;generalize hKK:KV.K ⟨sh,fr,sl,sps,hand,.slice p1 sh.length c1,.slice p2 fr.length c2,.slice p3 sl.length c3,.slice p4 sps.length c4⟩=K at hbeg hRE hKown hlS hlL |-;have hpre:∀ w1 Γ1,St nF w w1 Γ1->KerV w1 ⟨sh,fr,sl,sps,hand,.slice p1 sh.length c1,.slice p2 fr.length c2,.slice p3 sl.length c3,.slice p4 sps.length c4⟩:=fun w1 Γ1 h=>hK0.now h;rw [hlS,hlL] at hRE;rw [hlS];unfold kvC at hbeg hKown |-;dsimp only at hbeg hKown |-;have hno:∀ {w1 Γ1},St nF w w1 Γ1->∀ {e:Int},e≠0->∃ k':KV,Value.tuple #[.agg #[.slice none 0 0,.slice none 0 0,.slice none 0 0,.slice none 0 0,.int .i64 0],.int .i64 0,.int .i64 e]=.tuple #[.agg [k'.vsh,k'.vfr,k'.vsl,k'.vsp,.int .i64 k'.hand].toArray,.int .i64 (if e=0 then ((sps.length:Nat):Int) else 0),.int .i64 e]/\k'.K=(if e=0 then b36 K space.toNat else a7D)/\Came w w1 k':=by
  intro w1 Γ1 h e he;exact ⟨kv0,by rw [xf1 he];rfl,by rw [xf1 he];rfl,xd6 ⟨rfl,h.sub (xh2 _)⟩⟩
 refine yEn Tryz.func59 Tryz.ntmps59 (by kernel_rfl) (by kernel_rfl) rfl rfl ?_;have hS:=St.start w
 repeat' (first|(with_reducible apply b9 b8);rfl;rfl;rfl|(with_reducible apply c9);rfl;(apply Ld.st b8;rfl;exact hS.blkR 1 rfl;rfl);rfl|refine yDn (by with_reducible constructor) ?_|(with_reducible apply k9 hS);rfl;rfl;rfl;clear hS;intro g w' hS|(with_reducible apply d6 hS b8);rfl;rfl;rfl;clear hS;intro g w' hS)
 rename_i g2 _;refine y7 rfl rfl (hbeg _ (hpre _ _ hS)) rfl ?_;clear hbeg;rintro v w2 (⟨he,rfl,hS'⟩|⟨gw,sp,k',he,hsp,rfl,hk',hS'⟩)
 ·replace hS:=hS.transA hS';simp only [s7] at hS;rw [xf1 he] at hRE;have hd:decide (a03 K space=0)=false:=xh9 he;rw [<- hRE] at he hd |-
  repeat' (first|(with_reducible apply b9 b8);rfl;rfl;rfl|(with_reducible apply l6 b8);rfl;rfl;exact (rfl:_=some [_,_,_,_,_]);rfl|refine yDn (by with_reducible constructor) ?_|(with_reducible apply d5 hS b8 (i:=0));(iterate 8 rfl);exact (rfl:_=[_,_,_,_,_]);clear hS;intro w' hS;simp only [List.set] at hS|(with_reducible apply a0K);rfl;all_goals (intro hb hp;try (exfalso;omega)))
  (apply a2e;repeat (first|exact ResL.nil|apply ResL.tmp;rfl|apply ResL.cell;rfl;(apply Ld.st b8;rfl;exact hS.blkR 0 rfl;rfl)))
  exact hno hS he
 rw [xf0 he] at hRE;replace hS:=hS.trans hS';clear hS';rw [xg2] at hS;have hV0:=WkV.own hS;obtain ⟨hr,sp2,hsp2,hspl,hlv⟩:=a7p he;obtain rfl:sp=sp2:=by omega
 subst hsp;rw [xa9] at hRE hno |-;subst hk';obtain ⟨x,hx⟩:∃ x,k'.sp[sp]?=some x:=by
  have:k'.K.spaces.length=k'.sp.length:=xh1 _;exact i9 (by omega)
 have hxm:=xd0 hx;obtain ⟨hsc,hel⟩:=a0J hr x.s (xd0 (a1D hx));have hxA:l5 k'.K sp=x.s.areas:=by unfold l5;rw [a0A (a1D hx)]
 have hxe:j6 k'.K sp=x.s.entries:=by unfold j6;rw [a0A (a1D hx)]
 rw [hxA] at hRE;have hsl3:k'.sp.length=sps.length:=by rw [<- hlS];exact (xh1 _).symm
 have hslL:k'.sl.length=sl.length:=hlL;obtain ⟨bs,os,cs,hvsp⟩:=hV0.ker.sp.form1 hx;obtain ⟨f0,hf0⟩:∃ f0,k'.fr[0]?=some f0:=i9 (by have:=hr.cnt.1;have h9:k'.K.frames.length=k'.fr.length:=rfl;omega);obtain ⟨bf,of_,cf,hvfr⟩:=hV0.ker.fr.form1 hf0;obtain ⟨psl,csl,hvsl⟩:=hV0.ker.sl.len;have hxv:=hV0.ker.spv x hxm;have hown:=hKown hr;clear hKown;have hcA:∀ p ∈ k'.sp,l7 p.s.areas=0:=fun p hp=>(a0J hr p.s (xh0.2 ⟨p,hp,rfl⟩)).1.ar;have hroom:t5 (k'.sp.map (·.s))=t5 k'.K.spaces:=rfl;have hsp4:=hr.cnt;obtain ⟨sh',fr',sl',sps',hand',vsh',vfr',vsl',vsp'⟩:=k';dsimp only at hvsp hvfr hvsl hx hxm hf0 hsl3 hslL hcA hroom;subst hvsp hvfr hvsl;have hrowS:=d9 (f:=spC) hx;unfold spC at hrowS;have hback:∀ {w1 a b},St nF w w1 (a::b::(wkS gw (⟨sh',fr',sl',sps',hand',vsh',.slice (some ⟨bf,of_,none⟩) fr'.length cf,.slice psl sl'.length csl,.slice (some ⟨bs,os,none⟩) sps'.length cs⟩:KV) sp (.slice none 0 0) []++z9 (⟨sh',fr',sl',sps',hand',vsh',.slice (some ⟨bf,of_,none⟩) fr'.length cf,.slice psl sl'.length csl,.slice (some ⟨bs,os,none⟩) sps'.length cs⟩:KV)))->St nF w w1 (wkS gw (⟨sh',fr',sl',sps',hand',vsh',.slice (some ⟨bf,of_,none⟩) fr'.length cf,.slice psl sl'.length csl,.slice (some ⟨bs,os,none⟩) sps'.length cs⟩:KV) sp (.slice none 0 0) []++(z9 (⟨sh',fr',sl',sps',hand',vsh',.slice (some ⟨bf,of_,none⟩) fr'.length cf,.slice psl sl'.length csl,.slice (some ⟨bs,os,none⟩) sps'.length cs⟩:KV)++[a,b])):=fun h=>by
  rw [<- xg2];exact h.perm (xi2 (l₁:=[_,_]))
 have hspc:=fun w1 a b (h:St nF w w1 (a::b::(wkS gw (⟨sh',fr',sl',sps',hand',vsh',.slice (some ⟨bf,of_,none⟩) fr'.length cf,.slice psl sl'.length csl,.slice (some ⟨bs,os,none⟩) sps'.length cs⟩:KV) sp (.slice none 0 0) []++z9 (⟨sh',fr',sl',sps',hand',vsh',.slice (some ⟨bf,of_,none⟩) fr'.length cf,.slice psl sl'.length csl,.slice (some ⟨bs,os,none⟩) sps'.length cs⟩:KV))))=>a2o (WkV.own (hback h)) (e7 hx);have hspV:=fun w1 a b (h:St nF w w1 (a::b::(wkS gw (⟨sh',fr',sl',sps',hand',vsh',.slice (some ⟨bf,of_,none⟩) fr'.length cf,.slice psl sl'.length csl,.slice (some ⟨bs,os,none⟩) sps'.length cs⟩:KV) sp (.slice none 0 0) []++z9 (⟨sh',fr',sl',sps',hand',vsh',.slice (some ⟨bf,of_,none⟩) fr'.length cf,.slice psl sl'.length csl,.slice (some ⟨bs,os,none⟩) sps'.length cs⟩:KV))))=>(WkV.own (hback h)).ker.sp;have htot:=fun w1 a b (h:St nF w w1 (a::b::(wkS gw (⟨sh',fr',sl',sps',hand',vsh',.slice (some ⟨bf,of_,none⟩) fr'.length cf,.slice psl sl'.length csl,.slice (some ⟨bs,os,none⟩) sps'.length cs⟩:KV) sp (.slice none 0 0) []++z9 (⟨sh',fr',sl',sps',hand',vsh',.slice (some ⟨bf,of_,none⟩) fr'.length cf,.slice psl sl'.length csl,.slice (some ⟨bs,os,none⟩) sps'.length cs⟩:KV))))=>a3R ((WkV.own (hback h)).ker.spv x hxm).ar;have hroo:=fun w1 a b (h:St nF w w1 (a::b::(wkS gw (⟨sh',fr',sl',sps',hand',vsh',.slice (some ⟨bf,of_,none⟩) fr'.length cf,.slice psl sl'.length csl,.slice (some ⟨bs,os,none⟩) sps'.length cs⟩:KV) sp (.slice none 0 0) []++z9 (⟨sh',fr',sl',sps',hand',vsh',.slice (some ⟨bf,of_,none⟩) fr'.length cf,.slice psl sl'.length csl,.slice (some ⟨bs,os,none⟩) sps'.length cs⟩:KV))))=>b3F (WkV.own (hback h)) hcA (by rw [hsl3,<- hlS];omega);dsimp only at hroo;rw [hroom] at hroo;unfold a13 at hspc;dsimp only at hspc hspV;rw [xf0 hsc.ar] at htot;rw [<- xg2] at hS;replace hS:=hS.perm xi2;dsimp only [List.cons_append,List.nil_append] at hS;obtain ⟨hT0,hT1⟩:0<=r6 x.s.areas/\r6 x.s.areas<=70000:=(a24 (hr.spaces x.s (xd0 (a1D hx)))).2;have hR0:0<=t5 (⟨sh',fr',sl',sps',hand',vsh',.slice (some ⟨bf,of_,none⟩) fr'.length cf,.slice psl sl'.length csl,.slice (some ⟨bs,os,none⟩) sps'.length cs⟩:KV).K.spaces:=b12 fun s hs=>(a24 (hr.spaces s hs)).2.1;have hR1:t5 (⟨sh',fr',sl',sps',hand',vsh',.slice (some ⟨bf,of_,none⟩) fr'.length cf,.slice psl sl'.length csl,.slice (some ⟨bs,os,none⟩) sps'.length cs⟩:KV).K.spaces<=512:=by have:=hr.room;omega
 obtain ⟨pe,ce,hve⟩:=hxv.en.len;rw [hve] at hrowS;generalize hRm:t5 (⟨sh',fr',sl',sps',hand',vsh',.slice (some ⟨bf,of_,none⟩) fr'.length cf,.slice psl sl'.length csl,.slice (some ⟨bs,os,none⟩) sps'.length cs⟩:KV).K.spaces=R at hroo hRE hR0 hR1;generalize hTm:r6 x.s.areas=T at htot hRE hT0 hT1;have hd0:decide (a03 (⟨sh',fr',sl',sps',hand',vsh',.slice (some ⟨bf,of_,none⟩) fr'.length cf,.slice psl sl'.length csl,.slice (some ⟨bs,os,none⟩) sps'.length cs⟩:KV).K (sp:Nat)=0)=true:=xi0 he;by_cases h4:sps.length=4
 ·rw [xf0 h4] at hRE;have hd:decide (((sps.length:Nat):Int)=4)=true:=xi0 (by omega);rw [hRE]
  repeat' (first|(with_reducible apply b9 b8);rfl;rfl;rfl|(with_reducible apply c9);rfl;(apply Ld.sl b8;rfl;exact hS.blkC 1 rfl rfl);rfl|(with_reducible apply l6 b8);rfl;rfl;exact (rfl:_=some [_,_,_,_,_]);rfl|refine yDn (by with_reducible constructor) ?_|(with_reducible apply e8);rfl;assumption|(with_reducible apply f6);rfl;rfl|(with_reducible apply d5 hS b8 (i:=0));(iterate 8 rfl);exact (rfl:_=[_,_,_,_,_]);clear hS;intro w' hS;simp only [List.set] at hS)
  (apply a2e;repeat (first|exact ResL.nil|apply ResL.tmp;rfl|apply ResL.cell;rfl;(apply Ld.st b8;rfl;exact hS.blkR 0 rfl;rfl)))
  exact hno hS (by omega)
 rw [xf1 h4] at hRE;have hd:decide (((sps.length:Nat):Int)=4)=false:=xh9 (by omega);by_cases h5:(sl.length:Int) < R + T
 ·rw [xf0 h5] at hRE;have hd2:decide ((sl.length:Int) < R + T)=true:=xi0 h5;rw [hRE]
  repeat' (first|(with_reducible apply b9 b8);rfl;rfl;rfl|(with_reducible apply c9);rfl;(apply Ld.sl b8;rfl;exact hS.blkC 1 rfl rfl);rfl|refine yDn (by with_reducible constructor) ?_|((with_reducible apply f6);rfl;first|rfl|assumption))
  (focus ((with_reducible apply e6 _ _ _ (by kernel_rfl) (by kernel_rfl) hS);(repeat' (first|(first|(with_reducible apply a12);rfl;rfl;omega;omega;rfl|(with_reducible apply j3 b8);rfl;rfl|(with_reducible apply j0);rfl;(intro wd hd;replace hd:St _ _ wd _:=hd;(apply Ld.sl b8;rfl;exact hd.blkC 1 rfl rfl));rfl)|(with_reducible apply m7);rfl;rfl;rfl;refine ⟨_,fun wd hd=>hroo _ _ _ hd,?_⟩|(with_reducible apply m7);rfl;rfl;rfl;refine ⟨_,fun wd hd=>hspc _ _ _ hd,?_⟩|(with_reducible apply j0);rfl;(intro wd hd;replace hd:St _ _ wd _:=hd;(apply Ld.sl b8;rfl;exact (hspV _ _ _ hd).cel hrowS rfl));rfl|(with_reducible apply m7);rfl;rfl;rfl;refine ⟨_,fun wd hd=>htot _ _ _ hd,?_⟩));all_goals ((with_reducible apply k8);intro w' hS';clear hS;have hS:=hS';clear hS')))
  repeat' (first|(with_reducible apply b9 b8);rfl;rfl;rfl|(with_reducible apply l6 b8);rfl;rfl;exact (rfl:_=some [_,_,_,_,_]);rfl|refine yDn (by with_reducible constructor) ?_|(with_reducible apply e8);rfl;assumption|(with_reducible apply d5 hS b8 (i:=0));(iterate 8 rfl);exact (rfl:_=[_,_,_,_,_]);clear hS;intro w' hS;simp only [List.set] at hS)
  (apply a2e;repeat (first|exact ResL.nil|apply ResL.tmp;rfl|apply ResL.cell;rfl;(apply Ld.st b8;rfl;exact hS.blkR 0 rfl;rfl)))
  exact hno hS (by omega)
 rw [xf1 h5] at hRE;have hd2:decide ((sl.length:Int) < R + T)=false:=xh9 h5
 repeat' (first|(with_reducible apply b9 b8);rfl;rfl;rfl|(with_reducible apply c9);rfl;(apply Ld.sl b8;rfl;exact hS.blkC 1 rfl rfl);rfl|refine yDn (by with_reducible constructor) ?_|((with_reducible apply f6);rfl;first|rfl|assumption))
 (focus ((with_reducible apply e6 _ _ _ (by kernel_rfl) (by kernel_rfl) hS);(repeat' (first|(first|(with_reducible apply a12);rfl;rfl;omega;omega;rfl|(with_reducible apply j3 b8);rfl;rfl|(with_reducible apply j0);rfl;(intro wd hd;replace hd:St _ _ wd _:=hd;(apply Ld.sl b8;rfl;exact hd.blkC 1 rfl rfl));rfl)|(with_reducible apply m7);rfl;rfl;rfl;refine ⟨_,fun wd hd=>hroo _ _ _ hd,?_⟩|(with_reducible apply m7);rfl;rfl;rfl;refine ⟨_,fun wd hd=>hspc _ _ _ hd,?_⟩|(with_reducible apply j0);rfl;(intro wd hd;replace hd:St _ _ wd _:=hd;(apply Ld.sl b8;rfl;exact (hspV _ _ _ hd).cel hrowS rfl));rfl|(with_reducible apply m7);rfl;rfl;rfl;refine ⟨_,fun wd hd=>htot _ _ _ hd,?_⟩));all_goals ((with_reducible apply k8);intro w' hS';clear hS;have hS:=hS';clear hS')))
 repeat' (first|(with_reducible apply b9 b8);rfl;rfl;rfl|refine yDn (by with_reducible constructor) ?_|(with_reducible apply f6);rfl;assumption|(with_reducible apply d8 hS);rfl;rfl;rfl;refine ⟨_,hspc _ _ _ hS,?_⟩;clear hS;intro w' hS|(with_reducible apply z7 b8);rfl;rfl;rfl;refine ⟨_,(hspV _ _ _ hS).cel hrowS rfl,?_⟩)
 obtain ⟨hrb1,hrb2⟩:=a86 hr;have hfold:=fun i=>b09 (k:=(⟨sh',fr',sl',sps',hand',vsh',.slice (some ⟨bf,of_,none⟩) fr'.length cf,.slice psl sl'.length csl,.slice (some ⟨bs,os,none⟩) sps'.length cs⟩:KV)) (b:=100000) ⟨hrb1,hrb2⟩ (by omega) (x.s.entries.take i);replace hS:=hS.perm b4c;unfold frA slA at hS;dsimp only at hS;have hof:of_=0:=by
  obtain ⟨gg,hgg⟩:=hS.rowSome 0 rfl (e7 hf0);injection hgg with hgg
  injection hgg
 subst hof;have hEn:∀ {w1 A B C D},St nF w w1 (A::B::C::D::.blk gw (wkB (⟨sh',fr',sl',sps',hand',vsh',.slice (some ⟨bf,0,none⟩) fr'.length cf,.slice psl sl'.length csl,.slice (some ⟨bs,os,none⟩) sps'.length cs⟩:KV) sp (.slice none 0 0))::hdA (.slice none 0 0) []::a3u (⟨sh',fr',sl',sps',hand',vsh',.slice (some ⟨bf,0,none⟩) fr'.length cf,.slice psl sl'.length csl,.slice (some ⟨bs,os,none⟩) sps'.length cs⟩:KV)::((⟨sh',fr',sl',sps',hand',vsh',.slice (some ⟨bf,0,none⟩) fr'.length cf,.slice psl sl'.length csl,.slice (some ⟨bs,os,none⟩) sps'.length cs⟩:KV).sp.map a0F++z9 (⟨sh',fr',sl',sps',hand',vsh',.slice (some ⟨bf,0,none⟩) fr'.length cf,.slice psl sl'.length csl,.slice (some ⟨bs,os,none⟩) sps'.length cs⟩:KV)))->Sl nF w1 3 (.slice pe x.s.entries.length ce) (x.s.entries.map enC):=fun h=>by
  rw [<- hve];exact h.slMem (e:=91) (by
   refine xc6 _ (xc6 _ (xc6 _ (xc6 _ (xc6 _ (xc6 _ (xc6 _ (xe5 _ ?_)))))));exact xh0.2 ⟨x,hxm,rfl⟩)
 refine l4 (F:=nF) (w0:=w) (X:=Nat) (fun i=>[(49,.int .i64 (i:Nat))]) [1,2,4,7,47,48] rfl (fun i=>[.row 89 4 (.slice (some ⟨bf,0,none⟩) fr'.length cf) (((x.s.entries.take i).foldl a08 (⟨sh',fr',sl',sps',hand',vsh',.slice (some ⟨bf,0,none⟩) fr'.length cf,.slice psl sl'.length csl,.slice (some ⟨bs,os,none⟩) sps'.length cs⟩:KV)).fr.map fmC),.row 143 2 (.slice psl sl'.length csl) (((x.s.entries.take i).foldl a08 (⟨sh',fr',sl',sps',hand',vsh',.slice (some ⟨bf,0,none⟩) fr'.length cf,.slice psl sl'.length csl,.slice (some ⟨bs,os,none⟩) sps'.length cs⟩:KV)).sl.map swC)]) (fun i=>i<=x.s.entries.length) (fun i=>x.s.entries.length - i) 0 (by exact Fr.sub_of rfl) (xi5 _) hS ?_;clear hS;intro i w3 hi hS;dsimp only [List.cons_append,List.nil_append] at hS |-;obtain ⟨hsm,hrf⟩:=hfold i;by_cases hlt:i < x.s.entries.length
 ·have hdl:decide ((i:Int) < (x.s.entries.length:Int))=true:=xi0 (by omega);obtain ⟨e,he2⟩:=i9 (l:=x.s.entries) (i:=i) (by omega);obtain ⟨b,off,rfl,-⟩:=(hEn hS).at_ hlt;have hrowE:=d9 (f:=enC) he2;unfold enC at hrowE;have hnx:=a8C he2 (⟨sh',fr',sl',sps',hand',vsh',.slice (some ⟨bf,0,none⟩) fr'.length cf,.slice psl sl'.length csl,.slice (some ⟨bs,os,none⟩) sps'.length cs⟩:KV);obtain ⟨hnm,-,-⟩:=a9X hr hx (xd0 he2);obtain ⟨epg,ekd,eat⟩:=e;dsimp only at hnm hrowE;have hln:(x.s.entries.take i).length<=255:=by rw [xa1];omega
  rcases hnm with ⟨hk,j,hj,hjl⟩|⟨hk,j,hj,hjl⟩
  ·subst hj;have hdk:decide (ekd=1)=true:=xi0 hk;have hjl':j < fr'.length:=hjl;obtain ⟨f1,hf1⟩:=i9 (l:=((x.s.entries.take i).foldl a08 (⟨sh',fr',sl',sps',hand',vsh',.slice (some ⟨bf,0,none⟩) fr'.length cf,.slice psl sl'.length csl,.slice (some ⟨bs,os,none⟩) sps'.length cs⟩:KV)).fr) (i:=j) (by rw [hsm.nfr];exact xp6.2 hjl');have hrb:=hrf.1 f1 (xd0 hf1);have hrowF:=d9 (f:=fmC) hf1;unfold fmC at hrowF;have hn1:((x.s.entries.take (i + 1)).foldl a08 (⟨sh',fr',sl',sps',hand',vsh',.slice (some ⟨bf,0,none⟩) fr'.length cf,.slice psl sl'.length csl,.slice (some ⟨bs,os,none⟩) sps'.length cs⟩:KV)).fr=((x.s.entries.take i).foldl a08 (⟨sh',fr',sl',sps',hand',vsh',.slice (some ⟨bf,0,none⟩) fr'.length cf,.slice psl sl'.length csl,.slice (some ⟨bs,os,none⟩) sps'.length cs⟩:KV)).fr.set j (a9k f1):=by
    rw [hnx,(b4b hk).1,xa9,o7 hf1]
   have hn2:((x.s.entries.take (i + 1)).foldl a08 (⟨sh',fr',sl',sps',hand',vsh',.slice (some ⟨bf,0,none⟩) fr'.length cf,.slice psl sl'.length csl,.slice (some ⟨bs,os,none⟩) sps'.length cs⟩:KV)).sl=((x.s.entries.take i).foldl a08 (⟨sh',fr',sl',sps',hand',vsh',.slice (some ⟨bf,0,none⟩) fr'.length cf,.slice psl sl'.length csl,.slice (some ⟨bs,os,none⟩) sps'.length cs⟩:KV)).sl:=by
    rw [hnx,(b4b hk).2]
   generalize hFR:((x.s.entries.take i).foldl a08 (⟨sh',fr',sl',sps',hand',vsh',.slice (some ⟨bf,0,none⟩) fr'.length cf,.slice psl sl'.length csl,.slice (some ⟨bs,os,none⟩) sps'.length cs⟩:KV)).fr=FR at *;generalize hSL:((x.s.entries.take i).foldl a08 (⟨sh',fr',sl',sps',hand',vsh',.slice (some ⟨bf,0,none⟩) fr'.length cf,.slice psl sl'.length csl,.slice (some ⟨bs,os,none⟩) sps'.length cs⟩:KV)).sl=SL at *;have e1:(FR.map fmC).set j (v5 [.string ⟨f1.data.toArray⟩,.int .i64 f1.refs,.bool f1.dirty,.bool f1.seen] 1 [.int .i64 (f1.refs + 1)])=(FR.set j (a9k f1)).map fmC:=by rw [xm7];rfl
   repeat' (first|(with_reducible apply b9 b8);rfl;rfl;rfl|(with_reducible apply c9);rfl;(apply Ld.sc b8;rfl;exact hS.blkC 0 rfl rfl);rfl|(with_reducible apply l8 b8);rfl;rfl;rfl;rfl;omega;rfl|refine yDn (by with_reducible constructor) ?_|(with_reducible apply e8);rfl;assumption|(with_reducible apply d6 hS b8);rfl;rfl;rfl;clear hS;intro g w' hS|(with_reducible apply d5 hS b8 (i:=0));(iterate 8 rfl);exact (rfl:_=[_,_,_]);clear hS;intro w' hS;simp only [List.set] at hS|(with_reducible apply a6q b8);rfl;rfl;rfl;refine ⟨_,(hEn hS).rng hrowE,rfl,?_⟩)
   (focus ((with_reducible apply a1f _ _ _ 13 (by kernel_rfl) (by kernel_rfl) hS);(simp only [xh3,xh4,xk3,xk4]);(repeat' ((first|(with_reducible apply a12);rfl;rfl;omega;omega;rfl|(with_reducible apply j3 b8);rfl;rfl|(with_reducible apply j0);rfl;(intro wd hd;replace hd:St _ _ wd _:=hd;(first|apply Ld.sc b8;rfl;(first|exact hd.blkC 0 rfl rfl|exact hd.rowCj 1 rfl (by assumption) rfl)|apply Ld.sl b8;rfl;exact hd.blkC 5 rfl rfl));rfl|(with_reducible apply a0s b8);rfl;rfl;rfl;rfl;omega;rfl)));all_goals ((with_reducible apply k8);intro w' hS';clear hS;have hS:=hS';clear hS')))
   repeat' (first|(with_reducible apply b9 b8);rfl;rfl;rfl|(with_reducible apply f9);rfl;rfl;omega;omega;rfl|refine yDn (by with_reducible constructor) ?_|(with_reducible apply a0D hS b8 (i:=1));(iterate 4 rfl);assumption;(iterate 5 rfl);intro w' hS';simp only [List.set] at hS';clear hS;have hS:=hS';clear hS')
   rw [e1] at hS;refine f8 (i + 1) (by exact Fr.sub_of rfl) (by omega) ?_ (by omega);dsimp only [List.cons_append,List.nil_append];rw [hn1,hn2];exact hS.drop
  ·subst hj;have hdk:decide (ekd=1)=false:=xh9 hk;have hjl':j < sl'.length:=hjl;obtain ⟨f1,hf1⟩:=i9 (l:=((x.s.entries.take i).foldl a08 (⟨sh',fr',sl',sps',hand',vsh',.slice (some ⟨bf,0,none⟩) fr'.length cf,.slice psl sl'.length csl,.slice (some ⟨bs,os,none⟩) sps'.length cs⟩:KV)).sl) (i:=j) (by rw [hsm.nsl];exact xp6.2 hjl');have hrb:=hrf.2 f1 (xd0 hf1);have hrowF:=d9 (f:=swC) hf1;unfold swC at hrowF;have hn1:((x.s.entries.take (i + 1)).foldl a08 (⟨sh',fr',sl',sps',hand',vsh',.slice (some ⟨bf,0,none⟩) fr'.length cf,.slice psl sl'.length csl,.slice (some ⟨bs,os,none⟩) sps'.length cs⟩:KV)).sl=((x.s.entries.take i).foldl a08 (⟨sh',fr',sl',sps',hand',vsh',.slice (some ⟨bf,0,none⟩) fr'.length cf,.slice psl sl'.length csl,.slice (some ⟨bs,os,none⟩) sps'.length cs⟩:KV)).sl.set j (a9U f1):=by
    rw [hnx,(b5m hk).1,xa9,a1o hf1]
   have hn2:((x.s.entries.take (i + 1)).foldl a08 (⟨sh',fr',sl',sps',hand',vsh',.slice (some ⟨bf,0,none⟩) fr'.length cf,.slice psl sl'.length csl,.slice (some ⟨bs,os,none⟩) sps'.length cs⟩:KV)).fr=((x.s.entries.take i).foldl a08 (⟨sh',fr',sl',sps',hand',vsh',.slice (some ⟨bf,0,none⟩) fr'.length cf,.slice psl sl'.length csl,.slice (some ⟨bs,os,none⟩) sps'.length cs⟩:KV)).fr:=by
    rw [hnx,(b5m hk).2]
   generalize hFR:((x.s.entries.take i).foldl a08 (⟨sh',fr',sl',sps',hand',vsh',.slice (some ⟨bf,0,none⟩) fr'.length cf,.slice psl sl'.length csl,.slice (some ⟨bs,os,none⟩) sps'.length cs⟩:KV)).fr=FR at *;generalize hSL:((x.s.entries.take i).foldl a08 (⟨sh',fr',sl',sps',hand',vsh',.slice (some ⟨bf,0,none⟩) fr'.length cf,.slice psl sl'.length csl,.slice (some ⟨bs,os,none⟩) sps'.length cs⟩:KV)).sl=SL at *;have e1:(SL.map swC).set j (v5 [.string ⟨f1.data.toArray⟩,.int .i64 f1.refs] 1 [.int .i64 (f1.refs + 1)])=(SL.set j (a9U f1)).map swC:=by rw [xm7];rfl
   obtain ⟨gs,rfl⟩:=hS.rowSome 1 rfl (by omega)
   repeat' (first|(with_reducible apply b9 b8);rfl;rfl;rfl|(with_reducible apply c9);rfl;(apply Ld.sc b8;rfl;exact hS.blkC 0 rfl rfl);rfl|(with_reducible apply l8 b8);rfl;rfl;rfl;rfl;omega;rfl|refine yDn (by with_reducible constructor) ?_|(with_reducible apply e8);rfl;assumption|(with_reducible apply f6);rfl;assumption|(with_reducible apply d6 hS b8);rfl;rfl;rfl;clear hS;intro g w' hS|(with_reducible apply d5 hS b8 (i:=0));(iterate 8 rfl);exact (rfl:_=[_,_,_]);clear hS;intro w' hS;simp only [List.set] at hS|(with_reducible apply a6q b8);rfl;rfl;rfl;refine ⟨_,(hEn hS).rng hrowE,rfl,?_⟩)
   (focus ((with_reducible apply a1f _ _ _ 13 (by kernel_rfl) (by kernel_rfl) hS);(simp only [xh3,xh4,xk3,xk4]);(repeat' ((first|(with_reducible apply a12);rfl;rfl;omega;omega;rfl|(with_reducible apply j3 b8);rfl;rfl|(with_reducible apply j0);rfl;(intro wd hd;replace hd:St _ _ wd _:=hd;(first|apply Ld.sc b8;rfl;(first|exact hd.blkC 0 rfl rfl|exact hd.rowCj 2 rfl (by assumption) rfl)|apply Ld.sl b8;rfl;exact hd.blkC 5 rfl rfl));rfl|(with_reducible apply a0s b8);rfl;rfl;rfl;rfl;omega;rfl)));all_goals ((with_reducible apply k8);intro w' hS';clear hS;have hS:=hS';clear hS')))
   repeat' (first|(with_reducible apply b9 b8);rfl;rfl;rfl|(with_reducible apply f9);rfl;rfl;omega;omega;rfl|refine yDn (by with_reducible constructor) ?_|(with_reducible apply a0D hS b8 (i:=2));(iterate 4 rfl);assumption;(iterate 5 rfl);intro w' hS';simp only [List.set] at hS';clear hS;have hS:=hS';clear hS')
   rw [e1] at hS;refine f8 (i + 1) (by exact Fr.sub_of rfl) (by omega) ?_ (by omega);dsimp only [List.cons_append,List.nil_append];rw [hn1,hn2];exact hS.drop
 ·have hdl:decide ((i:Int) < (x.s.entries.length:Int))=false:=xh9 (by omega);obtain rfl:i=x.s.entries.length:=by omega
  rw [xj1] at hS hsm hrf
  repeat' (first|(with_reducible apply b9 b8);rfl;rfl;rfl|refine yDn (by with_reducible constructor) ?_|(with_reducible apply f6);rfl;assumption)
  clear hroo htot hspV hspc hback hEn;obtain ⟨FRs,hFRs⟩:∃ F,F=(x.s.entries.foldl a08 (⟨sh',fr',sl',sps',hand',vsh',.slice (some ⟨bf,0,none⟩) fr'.length cf,.slice psl sl'.length csl,.slice (some ⟨bs,os,none⟩) sps'.length cs⟩:KV)).fr:=⟨_,rfl⟩;obtain ⟨SLs,hSLs⟩:∃ F,F=(x.s.entries.foldl a08 (⟨sh',fr',sl',sps',hand',vsh',.slice (some ⟨bf,0,none⟩) fr'.length cf,.slice psl sl'.length csl,.slice (some ⟨bs,os,none⟩) sps'.length cs⟩:KV)).sl:=⟨_,rfl⟩;rw [<- hFRs,<- hSLs] at hS;have hos:os=0:=by
   obtain ⟨gg,hgg⟩:=hS.rowSome 6 rfl (Nat.lt_of_le_of_lt (xi5 _) (e7 hx));injection hgg with hgg
   injection hgg
  subst hos;unfold a3u wkB at hS;dsimp only at hS;refine a3P (fun w'=>St nF w w' [.blk g2 [.slice p1 sh.length c1,.slice p2 fr.length c2,.slice p3 sl.length c3,.slice p4 sps.length c4,.int .i64 hand],.blk gw [vsh',.slice (some ⟨bf,0,none⟩) fr'.length cf,.slice psl sl'.length csl,.slice (some ⟨bs,0,none⟩) sps'.length cs,.int .i64 hand',.int .i64 (sp:Nat),.slice none 0 0]]) 17 18 rfl hS (by kernel_rfl) ?_;intro w4 hS';clear hS;have hS:=hS';clear hS';have hH:St nF w w4 [.blk g2 [.slice p1 sh.length c1,.slice p2 fr.length c2,.slice p3 sl.length c3,.slice p4 sps.length c4,.int .i64 hand],.blk gw [vsh',.slice (some ⟨bf,0,none⟩) fr'.length cf,.slice psl sl'.length csl,.slice (some ⟨bs,0,none⟩) sps'.length cs,.int .i64 hand',.int .i64 (sp:Nat),.slice none 0 0]]:=hS.sub (.cons _ (.cons _ (.cons _ (.cons_cons _ (.cons_cons _ (xh2 _))))))
  ((with_reducible apply f7 (nn 0) b8);rfl;kernel_rfl;exact (fun _ _ _ h=>h);exact xd3 hH;rfl;rfl)
  ((with_reducible apply f7 (nn 1) b8);rfl;kernel_rfl;exact (fun _ _ _ h=>h);exact xd3 hH;rfl;rfl)
  ((with_reducible apply f7 (nn 2) b8);rfl;kernel_rfl;exact (fun _ _ _ h=>h);exact xd3 hH;rfl;rfl)
  ((with_reducible apply f7 (nn 3) b8);rfl;kernel_rfl;exact (fun _ _ _ h=>h);exact xd3 hH;rfl;rfl)
  ((with_reducible apply f7 (nn 4) b8);rfl;kernel_rfl;exact (fun _ _ _ h=>h);exact xd3 hH;rfl;rfl)
  ((with_reducible apply n6 (nn 5));rfl;kernel_rfl;kernel_rfl;rfl;exact (fun _ _ _ h=>h);exact hH;rfl;(intro w2 hw2;(replace hw2:St _ _ w2 _:=hw2;(apply Ld.sl b8;rfl;exact hw2.blkC 1 rfl rfl)));rfl)
  ((with_reducible apply n6 (nn 6));rfl;kernel_rfl;kernel_rfl;rfl;exact (fun _ _ _ h=>h);exact hH;rfl;(intro w2 hw2;(replace hw2:St _ _ w2 _:=hw2;(apply Ld.st b8;rfl;exact hw2.blkR 0 rfl;rfl)));rfl)
  ((with_reducible apply f7 (nn 9) b8);rfl;kernel_rfl;exact (fun _ _ _ h=>h);exact xd3 hH;rfl;rfl)
  refine n8 (i:=7) (by kernel_rfl) ?_;refine m8 rfl (x8 (first:=[]) (caps:=[]) rfl rfl (hown _ (hpre _ _ hS))) rfl ?_;rintro _ w5 ⟨ko,rfl,hko,h2⟩;replace hS:=hS.trans h2;clear h2 hown;have hkos:ko.sp.map (·.s)=sps'.map (·.s):=by
   have:=congrArg Ker.spaces hko;exact this
  obtain ⟨po,hpo,hpos⟩:∃ po,ko.sp[sp]?=some po/\po.s=x.s:=by
   have h1:(ko.sp.map (·.s))[sp]?=some x.s:=by rw [hkos,xm3,hx];rfl
   rw [xm3] at h1;obtain ⟨po,h2,h3⟩:=xm6.1 h1;exact ⟨po,h2,h3⟩
  have hrowO:=d9 (f:=spC) hpo;unfold spC at hrowO;have hsub2:[Asr.row 75 3 ko.vsp (ko.sp.map spC),a5I po,a0F po].Sublist (kA ko):=.cons _ (.cons _ (.cons _ (.cons_cons _ ((b1L hpo).trans (xp7 _ _)))));replace hS:=hS.sub (hsub2.append_right _);dsimp only [List.cons_append,List.nil_append] at hS;obtain ⟨ps,pva,pve⟩:=po;dsimp only at hpos;subst hpos;unfold a5I a0F at hS;dsimp only at hS hrowO;obtain ⟨osh,ofr,osl,osp,ohand,ovsh,ovfr,ovsl,ovsp⟩:=ko;dsimp only at hkos hpo hrowO hS;obtain ⟨qo,do_,rfl⟩:=hS.rowSlice 0 rfl;obtain ⟨go,rfl⟩:=hS.rowSome 0 rfl (by have:=e7 hpo;rw [xh1];omega);obtain ⟨qa,da,rfl⟩:=hS.rowSlice 1 rfl;obtain ⟨qe,de,rfl⟩:=hS.rowSlice 2 rfl;simp only [xh1] at hS hrowO hpo |-;have hspo:=e7 hpo;have hH:St nF w w5 [.blk g2 [.slice p1 sh.length c1,.slice p2 fr.length c2,.slice p3 sl.length c3,.slice p4 sps.length c4,.int .i64 hand],.blk gw [vsh',.slice (some ⟨bf,0,none⟩) fr'.length cf,.slice psl sl'.length csl,.slice (some ⟨bs,0,none⟩) sps'.length cs,.int .i64 hand',.int .i64 (sp:Nat),.slice none 0 0]]:=hS.sub (.cons _ (.cons _ (.cons _ (.cons _ (.cons _ (.cons _ (.cons_cons _ (.cons_cons _ (xh2 _)))))))));refine ⟨xd3 (xd3 hH),?_⟩
  ((with_reducible apply f7 (nn 8) b8);rfl;kernel_rfl;exact (fun _ _ _ h=>h);exact xd3 hH;rfl;rfl)
  ((with_reducible apply a3k (nn 10));rfl;kernel_rfl;kernel_rfl;kernel_rfl;rfl;exact (fun _ _ _ h=>h);exact xd3 hH;(intro a ha;exact a89 b8 rfl rfl rfl rfl hspo a ha _);rfl)
  refine n8 (i:=11) (by kernel_rfl) ?_;refine m8 rfl (a8S rfl (by (apply Ld.st b8;rfl;exact ((hS.rowSl 0 rfl).rng hrowO);rfl))) rfl ?_;rintro _ _ ⟨rfl,rfl⟩;refine ⟨xd3 (xd3 hH),?_⟩;refine n8 (i:=12) (by kernel_rfl) ?_;refine m8 rfl (o0 hS b8 rfl rfl rfl rfl rfl rfl) rfl ?_;rintro _ w' ⟨gu,rfl,hS'⟩;clear hS;have hS:=hS';clear hS';have hH:St nF w w' [.blk g2 [.slice p1 sh.length c1,.slice p2 fr.length c2,.slice p3 sl.length c3,.slice p4 sps.length c4,.int .i64 hand],.blk gw [vsh',.slice (some ⟨bf,0,none⟩) fr'.length cf,.slice psl sl'.length csl,.slice (some ⟨bs,0,none⟩) sps'.length cs,.int .i64 hand',.int .i64 (sp:Nat),.slice none 0 0]]:=hS.drop.sub (.cons _ (.cons _ (.cons _ (.cons _ (.cons _ (.cons _ (.cons_cons _ (.cons_cons _ (xh2 _)))))))));refine ⟨xd3 (xd3 hH),?_⟩;refine n8 (i:=13) (by kernel_rfl) ?_;refine m8 rfl (a0t hS b8 (i:=10) rfl rfl rfl rfl (hS.rowRo 0 rfl) rfl (by simp only [xh1,xb3,xa2];omega)) rfl ?_;rintro _ w' ⟨ph,ch,rfl,hS'⟩;simp only [List.set,xh1] at hS' |-;clear hS;have hS:=hS';clear hS';have hH:St nF w w' [.blk g2 [.slice p1 sh.length c1,.slice p2 fr.length c2,.slice p3 sl.length c3,.slice p4 sps.length c4,.int .i64 hand],.blk gw [vsh',.slice (some ⟨bf,0,none⟩) fr'.length cf,.slice psl sl'.length csl,.slice (some ⟨bs,0,none⟩) sps'.length cs,.int .i64 hand',.int .i64 (sp:Nat),.slice none 0 0]]:=hS.drop.sub (.cons _ (.cons _ (.cons _ (.cons _ (.cons _ (.cons _ (.cons_cons _ (.cons_cons _ (xh2 _)))))))));refine ⟨xd3 (xd3 hH),?_⟩
  ((with_reducible apply f7 (nn 14) b8);rfl;kernel_rfl;exact (fun _ _ _ h=>h);exact xd3 hH;rfl;rfl)
  ((with_reducible apply f7 (nn 15) b8);rfl;kernel_rfl;exact (fun _ _ _ h=>h);exact xd3 hH;rfl;rfl)
  ((with_reducible apply f7 (nn 16) b8);rfl;kernel_rfl;exact (fun _ _ _ h=>h);exact xd3 hH;rfl;rfl)
  refine n8 (i:=17) (by kernel_rfl) ?_;refine a0I (Φ:=fun _ w'=>St _ _ w' _) rfl (j9 hS b8 (i:=8) rfl rfl rfl rfl rfl (xg4 rfl) (by intro u hu;simp [Value.cells] at hu;subst hu;rfl)) ?_;intro _ w' hS';simp only [List.set,v5] at hS';clear hS;have hS:=hS';clear hS';refine ⟨xd6 rfl,?_⟩;refine a1e (by kernel_rfl) ?_;replace hS:=hS.drop.drop;obtain ⟨psh,csh,rfl⟩:∃ p c,vsh'=.slice p sh'.length c:=hV0.ker.sh.sl.len
  (with_reducible apply a5z)
  (with_reducible apply a61)
  refine a1K (fun w'=>St nF w w' [.blk g2 [.slice p1 sh.length c1,.slice p2 fr.length c2,.slice p3 sl.length c3,.slice p4 sps.length c4,.int .i64 hand],.blk gw [.slice psh sh'.length csh,.slice (some ⟨bf,0,none⟩) fr'.length cf,.slice psl sl'.length csl,.slice ph (sps'.length + 1) ch,.int .i64 hand',.int .i64 (sp:Nat),.slice none 0 0]]) 10 rfl hS (by kernel_rfl) ?_;intro w6 hS';clear hS;have hS:=hS';clear hS';have hH:St nF w w6 [.blk g2 [.slice p1 sh.length c1,.slice p2 fr.length c2,.slice p3 sl.length c3,.slice p4 sps.length c4,.int .i64 hand],.blk gw [.slice psh sh'.length csh,.slice (some ⟨bf,0,none⟩) fr'.length cf,.slice psl sl'.length csl,.slice ph (sps'.length + 1) ch,.int .i64 hand',.int .i64 (sp:Nat),.slice none 0 0]]:=hS.sub (.cons _ (.cons _ (.cons _ (.cons _ (.cons _ (.cons_cons _ (.cons_cons _ (xh2 _))))))))
  ((with_reducible apply g8 (nn 0) b8);rfl;kernel_rfl;exact (fun _ _ _ h=>h);exact hH;rfl;rfl)
  ((with_reducible apply g8 (nn 1) b8);rfl;kernel_rfl;exact (fun _ _ _ h=>h);exact hH;rfl;rfl)
  ((with_reducible apply g8 (nn 2) b8);rfl;kernel_rfl;exact (fun _ _ _ h=>h);exact hH;rfl;rfl)
  ((with_reducible apply a4Y (nn 3));rfl;kernel_rfl;kernel_rfl;kernel_rfl;exact (fun _ _ _ h=>h);exact hH;rfl;(intro wd hd;replace hd:St _ _ wd _:=hd;(apply Ld.st b8;rfl;exact (hd.blkRk 1 0 5 rfl);rfl));rfl)
  ((with_reducible apply g8 (nn 4) b8);rfl;kernel_rfl;exact (fun _ _ _ h=>h);exact hH;rfl;rfl)
  ((with_reducible apply n5 (nn 5));rfl;kernel_rfl;exact (fun _ _ _ h=>h);exact hH;rfl;(intro wd hd;replace hd:St _ _ wd _:=hd;(apply Ld.sl b8;rfl;exact hd.blkC 0 rfl rfl));rfl)
  ((with_reducible apply g8 (nn 6) b8);rfl;kernel_rfl;exact (fun _ _ _ h=>h);exact hH;rfl;rfl)
  refine k7 (i:=7) (by kernel_rfl) ?_;simp only [xh3,xh4,xk4];refine l9 (Φ:=fun _ w'=>St _ _ w' _) rfl (j9 hS b8 (i:=4) rfl rfl rfl rfl rfl (xg4 rfl) (xc7.1 rfl)) ?_;intro _ w' hS';simp only [List.set] at hS';clear hS;have hS:=hS';clear hS';refine ⟨hS.sub (.cons _ (.cons _ (.cons _ (.cons _ (.cons _ (.cons_cons _ (.cons_cons _ (xh2 _)))))))),?_⟩;have hH:St nF w w' [.blk g2 [.slice p1 sh.length c1,.slice p2 fr.length c2,.slice p3 sl.length c3,.slice p4 sps.length c4,.int .i64 hand],.blk gw [.slice psh sh'.length csh,.slice (some ⟨bf,0,none⟩) fr'.length cf,.slice psl sl'.length csl,.slice ph (sps'.length + 1) ch,.int .i64 hand',.int .i64 (sp:Nat),.slice none 0 0]]:=hS.sub (.cons _ (.cons _ (.cons _ (.cons _ (.cons _ (.cons_cons _ (.cons_cons _ (xh2 _))))))))
  ((with_reducible apply g8 (nn 8) b8);rfl;kernel_rfl;exact (fun _ _ _ h=>h);exact hH;rfl;rfl)
  ((with_reducible apply g8 (nn 9) b8);rfl;kernel_rfl;exact (fun _ _ _ h=>h);exact hH;rfl;rfl)
  refine o8 (by kernel_rfl) ?_
  repeat' ((refine yDn (by with_reducible constructor) ?_))
  (apply a2e;repeat (first|exact ResL.nil|apply ResL.tmp;rfl|apply ResL.cell;rfl;(apply Ld.st b8;rfl;exact hS.blkR 4 rfl;rfl)))
  refine ⟨⟨sh',FRs,SLs,sps'++[⟨x.s,.slice qa x.s.areas.length da,.slice qe x.s.entries.length de⟩],hand',.slice psh sh'.length csh,.slice (some ⟨bf,0,none⟩) fr'.length cf,.slice psl sl'.length csl,.slice ph (sps'.length + 1) ch⟩,?_,?_,?_⟩
  ·rw [hRE,xf0 rfl];rfl
  ·rw [hRE,xf0 rfl];unfold b36;rw [hxe,<- b3r,a0A (a1D hx),hFRs,hSLs];generalize List.foldl a08 _ x.s.entries=kf at hsm |-;obtain ⟨a1,a2,a3,a4,a5,a6,a7,a8,a9⟩:=kf;obtain ⟨b1,b2,b3,-,-,-,-,-,-⟩:=hsm;dsimp only at b1 b2 b3;subst b1 b2 b3;unfold KV.K;dsimp only;rw [xk1];rfl
  ·refine xd3 ?_;unfold a9c frA slA a3u z9;dsimp only;rw [xk1,xk1,xk1];exact (hS.sub (.cons_cons _ (.cons_cons _ (.cons_cons _ (.cons_cons _ (.cons _ (.cons _ (.cons _ (.cons _ (.cons_cons _ (.refl _))))))))))).perm b24
def a8Z:Sg:=⟨0,1,b74 12 0 0 0 0,false,true⟩
def b11:Sg:=⟨1,2,[97,98,99],true,false⟩
def a0M:Im:=⟨[116],[],[a8Z,b11],[],[],0⟩
theorem a90:t9 a0M=0:=by
 have h1:a9F a0M=true:=by decide +kernel
 have h2:b0o a0M=true:=by decide +kernel
 have h3:a5y a0M=true:=by decide +kernel
 have h4:a7u a0M=true:=by
  refine a41 ⟨fun j a b h1 h2=>?_,?_,?_⟩
  ·match j with
   |0=>
    simp [a0M] at h1 h2;subst h1 h2
    decide
   |j + 1=>simp [a0M] at h2
  ·rintro ⟨i,j,x,_,h,_⟩;simp [a0M] at h
  ·rintro ⟨i,j,x,_,h,_⟩;simp [a0M] at h
 have h5:a9H a0M=true:=by
  refine a41 ⟨?_,?_,?_,?_,?_⟩
  ·intro s hs;simp [a0M] at hs
  ·intro k r h;simp [a0M] at h
  ·intro k q r h;simp [a0M] at h
  ·exact ⟨a8Z,by decide +kernel,rfl⟩
  ·decide
 unfold t9;simp [h1,h2,h3,h4,h5]
theorem b6u:ImB a0M:=⟨by decide,by decide,by decide,by decide⟩
theorem b6J:ImD a0M:=by intro s hs;simp [a0M] at hs;rcases hs with rfl|rfl <;> decide
def a3d (vs:Value) (a:Int):Ob:=⟨a0M,.slice none 0 0,vs,.slice none 0 0,.slice none 0 0,a⟩
theorem b1j (vs:Value) (a:Int):([a3d vs a]:List Ob).find? (fun o=>!decide (t9 o.im=0))=none:=by
 rw [xj0];intro x hx;simp only [xn1] at hx;subst hx;unfold a3d;rw [a90]
 decide
theorem a7W (vs:Value):a3X [a3d vs 0] 8 0 (x6 ([],1) (a3d vs 0))=some ([a3d vs 16],4):=rfl
theorem b0E (vs:Value):a4S (a3d vs 0) []=0:=by
 unfold a4S;rw [xf1 (by decide),b1j];dsimp only;rw [xf0 (by simp),a7W];rfl
def a8A:List Sh:=shO [(a0M,16)] a0M 1
def threeA:List Ar:=([a4g 1 a8Z,a4g 1 b11]).foldl a0j []
theorem b4A (w:World):Fn Tryz.prog 58 [] w (fun v w'=>∃ va vs N,v=lkA va vs 16/\shs N=a8A/\Sl nF w' 4 va (threeA.map arC)/\ShsV w' N vs/\St nF w w' []):=by
 have hlk:=fun (w1:World) (vs:Value) (h:ImV w1 a0M (.slice none 0 0) vs (.slice none 0 0) (.slice none 0 0))=>b6A (M:=a3d vs 0) (Lb:=[]) (vl:=.slice none 0 0) h (Sl.nil0 w1 6) (by simp) (by
  intro o ho;simp only [xn1] at ho;subst ho;exact ⟨b6u,b6J⟩)
 refine yEn Tryz.func58 Tryz.ntmps58 (by kernel_rfl) (by kernel_rfl) rfl rfl ?_;have hS:=St.start w
 repeat' (first|(with_reducible apply l6 b8);rfl;rfl;(first|exact (rfl:_=some [_,_,_,_,_])|exact (rfl:_=some [_,_,_,_,_,_]));rfl|refine yDn (by with_reducible constructor) ?_|(with_reducible apply d6 hS b8);rfl;rfl;rfl;clear hS;intro g w' hS|(with_reducible apply a0E hS b8);(iterate 7 rfl);clear hS;intro g w' hS|(with_reducible apply d8 hS);rfl;rfl;rfl;refine ⟨_,a7v 12 0 0 0 0 _,?_⟩;clear hS;intro w' hS)
 refine y7 rfl rfl (hlk _ (.slice (some ⟨g,0,none⟩) 2 2) ⟨Sl.nil0 _ 1,hS.rowSl 0 rfl,Sl.nil0 _ 2,Sl.nil0 _ 3⟩) rfl ?_;rintro v w2 (⟨h1,-,-⟩|⟨-,s,va,vh,N,h1,h2,rfl,h4⟩)
 ·exact absurd (b0E _) h1
 rw [a7W] at h1
 cases h1
 have e1:shs N=a8A:=h2.trans (Eq.trans (by rfl) (List.append_nil _));have e2:a3Y [a3d (.slice (some ⟨g,0,none⟩) 2 2) 16]=threeA:=rfl;rw [show a3Y ([a3d (.slice (some ⟨g,0,none⟩) 2 2) 16],(4:Int)).1=threeA from e2] at h4;obtain ⟨pa,ca,rfl⟩:∃ p c,va=.slice p threeA.length c:=by
  have:=h4.rowSlice 0 rfl
  rwa [xh1] at this
 obtain ⟨ph,ch,rfl⟩:∃ p c,vh=.slice p N.length c:=by
  have:=h4.rowSlice 1 rfl
  rwa [xh1] at this
 replace hS:=(hS.trans h4).perm xi2;dsimp only [List.cons_append,List.nil_append] at hS;clear h4 hlk
 repeat' (first|(with_reducible apply b9 b8);rfl;rfl;rfl|(with_reducible apply c9);rfl;(apply Ld.st b8;rfl;exact hS.blkR 0 rfl;rfl);rfl|refine yDn (by with_reducible constructor) ?_|(with_reducible apply d6 hS b8);rfl;rfl;rfl;clear hS;intro g w' hS|(with_reducible apply d5 hS b8 (i:=0));(iterate 8 rfl);exact (rfl:_=[_,_,_]);clear hS;intro w' hS;simp only [List.set] at hS|(with_reducible apply d5 hS b8 (i:=2));(iterate 8 rfl);exact (rfl:_=[_,_,_]);clear hS;intro w' hS;simp only [List.set] at hS)
 (apply a0r;repeat (first|exact ResL.nil|apply ResL.cell;rfl;(apply Ld.st b8;rfl;exact hS.blkR 2 rfl;rfl)))
 exact ⟨_,_,N,rfl,e1,hS.rowSl 3 rfl,⟨hS.rowSl 4 rfl,fun p hp=>hS.slMem (e:=96) (xc6 _ (xc6 _ (xc6 _ (xc6 _ (xc6 _ (xh0.2 ⟨p,hp,rfl⟩))))))⟩,hS.sub (xh2 _)⟩
def begK1:Ker:=b4g threeA a8A 16 3 8
def begK2:Ker:=a5J begK1 0 46 [119,120,121,122]
def begK3:Ker:=b3N begK2 0
def begK4:Ker:=a5J begK3 1 32 [113]
theorem b71:a82 threeA a8A 16 3 8=0:=by decide +kernel
theorem b6O:a0e begK1 0 (4:Nat) 1=0/\a2P begK1 0 46 (4:Nat) 1=(0,0):=by decide +kernel
theorem b6W:a7T begK2 0=0/\b48 begK2 0=1:=by decide +kernel
theorem b65:a0e begK3 1 (1:Nat) 1=0/\a2P begK3 1 32 (1:Nat) 1=(0,0):=by decide +kernel
theorem b3G:a4j begK4 0 2 0=0/\a4p begK4 0 32 2 0=(0,0)/\a4q begK4 0 32 2 0=[97,98]:=by decide +kernel
theorem b66:a9B begK4 1 2=0/\b3H begK4 1 2=[113,98,99,0,0,0,0,0,0,0,0,0,0,0,119,120]:=by decide +kernel
theorem b2e:begK1.frames.length=3/\begK2.frames.length=3/\begK3.frames.length=3/\begK4.frames.length=3:=by decide +kernel
theorem Came.own {w w':World} {k:KV} (h:Came w w' k) {n:Nat} (hn:k.K.frames.length=n + 1):St nF w w' (a9c k):=by
 rcases h with ⟨rfl,-⟩|h
 ·cases hn
 ·exact h
theorem b8f (a b c d:Int):a7t Tryz.prog 68 [.int .i64 a,.int .i64 b] [.int .i64 c,.int .i64 d] (decide (a=c/\b=d)):=by
 refine ⟨fun w=>?_,by kernel_rfl⟩;simp [go_sem]
 repeat' split
 all_goals simp_all
theorem a7f (w:World):Fn Tryz.prog 21 [] w (RBf (.bool true) w):=by
 refine yEn Tryz.func21 Tryz.ntmps21 (by kernel_rfl) (by kernel_rfl) rfl rfl ?_;have hS:=St.start w
 repeat' (first|(with_reducible apply b9 b8);rfl;rfl;rfl|refine yDn (by with_reducible constructor) ?_)
 refine y7 rfl rfl (b4A _) rfl ?_;rintro _ w2 ⟨va,vs,N,rfl,hN,hA,hL,hS'⟩;replace hS:=hS.transA hS';simp only [s7] at hS;clear hS'
 repeat' (fail)
 refine y7 rfl rfl (b4G hA hL (by omega) (by omega) (frames:=3) (slots:=8)) rfl ?_;rintro _ w3 ⟨k1,rfl,hk1,hc⟩;rw [hN,b71];rw [hN] at hk1;replace hk1:k1.K=begK1:=hk1;have hO:=hc.own (n:=2) (by rw [hk1];exact b2e.1);replace hS:=(hS.trans hO).perm xi2;dsimp only [List.cons_append,List.nil_append] at hS;have hV:KerV _ k1:=KerV.own (Γ:=[]) (by rw [List.append_nil];exact hO);clear hc hO;obtain ⟨sh,fr,sl,sps,hand,vsh,vfr,vsl,vsp⟩:=k1;obtain ⟨hV1,hV2,hV3,hV4,hV5⟩:=hV;dsimp only at hV1 hV2 hV3 hV4 hV5;obtain ⟨u1,t1,rfl⟩:=hV1.sl.len;obtain ⟨u2,t2,rfl⟩:=hV2.len;obtain ⟨u3,t3,rfl⟩:=hV3.len;obtain ⟨u4,t4,rfl⟩:=hV4.len;clear hV1 hV2 hV3 hV4 hV5
 repeat' (first|(with_reducible apply b9 b8);rfl;rfl;rfl|(with_reducible apply c9);rfl;(apply Ld.st b8;rfl;exact hS.blkR 0 rfl;rfl);rfl|refine yDn (by with_reducible constructor) ?_|(with_reducible apply d6 hS b8);rfl;rfl;rfl;clear hS;intro g w' hS|(with_reducible apply d5 hS b8 (i:=0));(iterate 8 rfl);exact (rfl:_=[_,_,_,_,_]);clear hS;intro w' hS;simp only [List.set] at hS)
 have hst:=a9g (KerV.own (hS.perm (xi2 (l₁:=[_])))) (space:=0) (addr:=46) (s:=[119,120,121,122]) (by omega) (by omega);rw [hk1,show ((([119,120,121,122]:List UInt8).length:Nat):Int)=((4:Nat):Int) from rfl,b6O.1,b6O.2] at hst;refine y7 rfl rfl hst rfl ?_;clear hst;rintro _ w4 ⟨k2,rfl,hk2,hc⟩;replace hk2:k2.K=begK2:=hk2;replace hS:=hS.sub (.cons_cons _ (xh2 _));have hO:=hc.own (n:=2) (by rw [hk2];exact b2e.2.1);replace hS:=(hS.trans hO).perm xi2;dsimp only [List.cons_append,List.nil_append] at hS;have hV:KerV _ k2:=KerV.own (Γ:=[]) (by rw [List.append_nil];exact hO);clear hc hO;obtain ⟨sh,fr,sl,sps,hand,vsh,vfr,vsl,vsp⟩:=k2;obtain ⟨hV1,hV2,hV3,hV4,hV5⟩:=hV;dsimp only at hV1 hV2 hV3 hV4 hV5;obtain ⟨u1,t1,rfl⟩:=hV1.sl.len;obtain ⟨u2,t2,rfl⟩:=hV2.len;obtain ⟨u3,t3,rfl⟩:=hV3.len;obtain ⟨u4,t4,rfl⟩:=hV4.len;clear hV1 hV2 hV3 hV4 hV5
 repeat' (first|(with_reducible apply b9 b8);rfl;rfl;rfl|(with_reducible apply c9);rfl;(apply Ld.st b8;rfl;exact hS.blkR 1 rfl;rfl);rfl|refine yDn (by with_reducible constructor) ?_|(with_reducible apply d6 hS b8);rfl;rfl;rfl;clear hS;intro g w' hS|(with_reducible apply d5 hS b8 (i:=0));(iterate 8 rfl);exact (rfl:_=[_,_]);clear hS;intro w' hS;simp only [List.set] at hS|(with_reducible apply d5 hS b8 (i:=1));(iterate 8 rfl);exact (rfl:_=[_,_,_,_,_]);clear hS;intro w' hS;simp only [List.set] at hS)
 have hst:=b6I (KerV.own (hS.perm (xi2 (l₁:=[_,_])))) 0;rw [hk2,b6W.1,b6W.2] at hst;refine y7 rfl rfl hst rfl ?_;clear hst;rintro _ w5 ⟨k3,rfl,hk3,hc⟩;replace hk3:k3.K=begK3:=hk3;replace hS:=hS.sub (.cons_cons _ (.cons_cons _ (xh2 _)));have hO:=hc.own (n:=2) (by rw [hk3];exact b2e.2.2.1);replace hS:=(hS.trans hO).perm xi2;dsimp only [List.cons_append,List.nil_append] at hS;have hV:KerV _ k3:=KerV.own (Γ:=[]) (by rw [List.append_nil];exact hO);clear hc hO;obtain ⟨sh,fr,sl,sps,hand,vsh,vfr,vsl,vsp⟩:=k3;obtain ⟨hV1,hV2,hV3,hV4,hV5⟩:=hV;dsimp only at hV1 hV2 hV3 hV4 hV5;obtain ⟨u1,t1,rfl⟩:=hV1.sl.len;obtain ⟨u2,t2,rfl⟩:=hV2.len;obtain ⟨u3,t3,rfl⟩:=hV3.len;obtain ⟨u4,t4,rfl⟩:=hV4.len;clear hV1 hV2 hV3 hV4 hV5
 repeat' (first|(with_reducible apply b9 b8);rfl;rfl;rfl|(with_reducible apply c9);rfl;(apply Ld.st b8;rfl;exact hS.blkR 1 rfl;rfl);rfl|refine yDn (by with_reducible constructor) ?_|(with_reducible apply d5 hS b8 (i:=1));(iterate 8 rfl);exact (rfl:_=[_,_,_,_,_]);clear hS;intro w' hS;simp only [List.set] at hS)
 have hst:=a9g (KerV.own (hS.perm (xi2 (l₁:=[_,_])))) (space:=1) (addr:=32) (s:=[113]) (by omega) (by omega);rw [hk3,show ((([113]:List UInt8).length:Nat):Int)=((1:Nat):Int) from rfl,b65.1,b65.2] at hst;refine y7 rfl rfl hst rfl ?_;clear hst;rintro _ w6 ⟨k4,rfl,hk4,hc⟩;replace hk4:k4.K=begK4:=hk4;replace hS:=hS.sub (.cons_cons _ (.cons_cons _ (xh2 _)));have hO:=hc.own (n:=2) (by rw [hk4];exact b2e.2.2.2);replace hS:=(hS.trans hO).perm xi2;dsimp only [List.cons_append,List.nil_append] at hS;have hV:KerV _ k4:=KerV.own (Γ:=[]) (by rw [List.append_nil];exact hO);clear hc hO;obtain ⟨sh,fr,sl,sps,hand,vsh,vfr,vsl,vsp⟩:=k4;obtain ⟨hV1,hV2,hV3,hV4,hV5⟩:=hV;dsimp only at hV1 hV2 hV3 hV4 hV5;obtain ⟨u1,t1,rfl⟩:=hV1.sl.len;obtain ⟨u2,t2,rfl⟩:=hV2.len;obtain ⟨u3,t3,rfl⟩:=hV3.len;obtain ⟨u4,t4,rfl⟩:=hV4.len;clear hV1 hV2 hV3 hV4 hV5
 repeat' (first|(with_reducible apply b9 b8);rfl;rfl;rfl|(with_reducible apply c9);rfl;(apply Ld.st b8;rfl;exact hS.blkR 2 rfl;rfl);rfl|refine yDn (by with_reducible constructor) ?_|(with_reducible apply d6 hS b8);rfl;rfl;rfl;clear hS;intro g w' hS|(with_reducible apply d5 hS b8 (i:=0));(iterate 8 rfl);exact (rfl:_=[_,_]);clear hS;intro w' hS;simp only [List.set] at hS|(with_reducible apply d5 hS b8 (i:=2));(iterate 8 rfl);exact (rfl:_=[_,_,_,_,_]);clear hS;intro w' hS;simp only [List.set] at hS)
 have hst:=b6F (KerV.own (hS.perm (xi2 (l₁:=[_,_,_])))) (space:=0) (addr:=32) (size:=2) (way:=0) (by omega) (by omega);rw [hk4,b3G.1,b3G.2.1,b3G.2.2] at hst;refine y7 rfl rfl hst rfl ?_;clear hst;rintro _ w7 ⟨k5,rfl,hk5,hc⟩;have hV:=hc.V;replace hS:=hS.trans hc.st;clear hc hk5;simp only [List.nil_append] at hS;obtain ⟨sh5,fr5,sl5,sps5,hand5,vsh5,vfr5,vsl5,vsp5⟩:=k5;obtain ⟨hV1,hV2,hV3,hV4,hV5⟩:=hV;dsimp only at hV1 hV2 hV3 hV4 hV5;obtain ⟨x1,y1,rfl⟩:=hV1.sl.len;obtain ⟨x2,y2,rfl⟩:=hV2.len;obtain ⟨x3,y3,rfl⟩:=hV3.len;obtain ⟨x4,y4,rfl⟩:=hV4.len;clear hV1 hV2 hV3 hV4 hV5
 repeat' (first|(with_reducible apply b9 b8);rfl;rfl;rfl|(with_reducible apply c9);rfl;(apply Ld.st b8;rfl;exact hS.blkR 4 rfl;rfl);rfl|refine yDn (by with_reducible constructor) ?_|(with_reducible apply d6 hS b8);rfl;rfl;rfl;clear hS;intro g w' hS|(with_reducible apply d5 hS b8 (i:=0));(iterate 8 rfl);exact (rfl:_=[_,_]);clear hS;intro w' hS;simp only [List.set] at hS|(with_reducible apply d5 hS b8 (i:=1));(iterate 8 rfl);exact (rfl:_=[_,_,_,_,_]);clear hS;intro w' hS;simp only [List.set] at hS)
 have hst:=b57 (KerV.own (hS.perm (xi2 (l₁:=[_,_,_,_,_])))) 1 2;rw [hk4,b66.1,b66.2] at hst
 repeat' (first|(with_reducible apply b9 b8);rfl;rfl;rfl|(with_reducible apply c9);rfl;(apply Ld.st b8;rfl;(first|exact hS.blkR 0 rfl|exact hS.blkR 2 rfl|exact hS.blkR 3 rfl);rfl);rfl|(with_reducible apply l6 b8);rfl;rfl;exact (rfl:_=some [_,_]);rfl|refine yDn (by with_reducible constructor) ?_|(with_reducible apply k6);(iterate 4 rfl);rfl|(with_reducible apply i7);rfl;rfl;rfl;rfl|(with_reducible apply d8 hS);rfl;rfl;rfl;refine ⟨_,hst,?_⟩;clear hS;intro w' hS|(with_reducible apply b6Y);rfl;rfl;exact b8f 0 0 0 0;rfl|(with_reducible apply b6y b8);rfl;rfl;rfl;omega;decide;rfl|(with_reducible apply a8p b8);rfl;rfl;rfl;omega;decide;rfl)
 (refine j4 rfl ?_)
 exact ⟨rfl,hS.sub (xh2 _)⟩
theorem a6a {w:World} {A:List Ar} {Lp:List (Sh×Value)} {va vs:Value} {en:Int} (hA:Sl nF w 4 va (A.map arC)) (hL:ShsV w Lp vs) (hen:-9223372036854775808<=en) (hen2:en<=9223372036854775807) (frames slots:Int) {k:KV} (hK:KerV w k):Fn Tryz.prog 4 [lkA va vs en,.int .i64 frames,.int .i64 slots,.agg (kvC k).toArray] w (RBf (.bool true) w):=by
 have hnew:=fun w1 Γ1 (h:St nF w w1 Γ1)=>b4G (hA.now h) (hL.now h) hen hen2 (frames:=frames) (slots:=slots);have hne:=fun w1 Γ1 (h:St nF w w1 Γ1)=>a9P (hA.now h) (hL.now h) hen hen2 frames slots;have hnk:=fun w1 Γ1 (h:St nF w w1 Γ1) (h0:a0H A (shs Lp) en=0) (nf ns:Nat) h1 h2=>a8V (hA.now h) (hL.now h) h0 (nf:=nf) (ns:=ns) h1 h2;have hck:=fun w1 (h:KerV w1 k)=>a5R h;have hcr:=fun w1 (h:KerV w1 k)=>a95 h;generalize a1g k.K=c at hck hcr;have hbg:=a7f;obtain ⟨pa,ca,rfl⟩:=hA.len;obtain ⟨ph,ch,rfl⟩:=hL.sl.len;unfold lkA at hnew hne hnk |-;obtain ⟨e,he⟩:∃ e,e=a82 A (shs Lp) en frames slots:=⟨_,rfl⟩;have hz:e=0->a0H A (shs Lp) en=0/\∃ nf ns:Nat,frames=(nf:Nat)/\slots=(ns:Nat)/\nf<=64/\ns<=512:=fun h0=>by
  rw [he] at h0;unfold a82 at h0;by_cases h1:a0H A (shs Lp) en=0
  ·rw [xf0 h1] at h0;by_cases h2:frames < 3
   ·rw [xf0 h2] at h0;cases h0
   rw [xf1 h2] at h0;by_cases h3:64 < frames\/slots < 0\/512 < slots
   ·rw [xf0 h3] at h0;cases h0
   exact ⟨h1,frames.toNat,slots.toNat,by omega,by omega,by omega,by omega⟩
  ·rw [xf1 h1] at h0;exact absurd h0 h1
 have hnew2:∀ K,K=b4g A (shs Lp) en frames slots->K=if e=0 then (⟨shs Lp,List.replicate frames.toNat fm0,List.replicate slots.toNat sw0,[⟨true,A,[]⟩],0⟩:Ker) else a7D:=fun K h=>by rw [h];unfold b4g;rw [<- he]
 rw [<- he] at hnew hne;have hd2:decide (c=c)=true:=xi0 rfl;have hd3:decide (e=e)=true:=xi0 rfl;clear he;obtain ⟨sh,fr,sl,sps,hand,vsh,vfr,vsl,vsp⟩:=k;have hK0:=hK;obtain ⟨k1,k2,k3,k4,k5⟩:=hK;dsimp only at k1 k2 k3 k4 k5;obtain ⟨p1,c1,rfl⟩:=k1.sl.len;obtain ⟨p2,c2,rfl⟩:=k2.len;obtain ⟨p3,c3,rfl⟩:=k3.len;obtain ⟨p4,c4,rfl⟩:=k4.len;unfold kvC at hck hcr |-;dsimp only at hck hcr |-;refine yEn Tryz.func4 Tryz.ntmps4 (by kernel_rfl) (by kernel_rfl) rfl rfl ?_;have hS:=St.start w
 (repeat ((refine yDn (by with_reducible constructor) ?_)))
 (((with_reducible apply k9 hS);rfl;rfl;rfl);clear hS;intro g4 w' hS)
 (((with_reducible apply k9 hS);rfl;rfl;rfl);clear hS;intro g7 w' hS)
 repeat' (first|(with_reducible apply b9 b8);rfl;rfl;rfl|(with_reducible apply c9);rfl;(apply Ld.st b8;rfl;exact hS.blkR 1 rfl;rfl);rfl|refine yDn (by with_reducible constructor) ?_|(with_reducible apply a0o);rfl;rfl;rfl;refine ⟨_,hnew _ _ hS,?_⟩;rintro _ w2 ⟨k1,rfl,hk1,hc1⟩)
 have hV:=hc1.V;obtain ⟨Δ1,hD1,hV1⟩:=(hc1).keep;replace hS:=(hS.trans hD1).perm xi2;simp only [List.cons_append,List.nil_append,xg2] at hS;clear hD1;replace hk1:=hnew2 _ hk1;clear hnew hnew2;obtain ⟨k1sh,k1fr,k1sl,k1sp,k1hand,k1vsh,k1vfr,k1vsl,k1vsp⟩:=k1;obtain ⟨k1m1,k1m2,k1m3,k1m4,-⟩:=hV;dsimp only at k1m1 k1m2 k1m3 k1m4;obtain ⟨k1x1,k1y1,rfl⟩:=k1m1.sl.len;obtain ⟨k1x2,k1y2,rfl⟩:=k1m2.len;obtain ⟨k1x3,k1y3,rfl⟩:=k1m3.len;obtain ⟨k1x4,k1y4,rfl⟩:=k1m4.len;clear k1m1 k1m2 k1m3 k1m4;unfold kvC;dsimp only;by_cases h0:e=0
 ·obtain ⟨hlk,nf,ns,rfl,rfl,hnf,hns⟩:=hz h0;have hd:decide (e=0)=true:=xi0 h0;rw [xf0 h0] at hk1;have hnk:=fun w1 Γ1 h=>hnk w1 Γ1 h hlk nf ns hnf hns
  repeat' (first|(with_reducible apply b9 b8);rfl;rfl;rfl|(with_reducible apply c9);rfl;(apply Ld.st b8;rfl;(first|exact hS.blkR 2 rfl|exact hS.blkR 3 rfl);rfl);rfl|refine yDn (by with_reducible constructor) ?_|(with_reducible apply d6 hS b8);rfl;rfl;rfl;clear hS;intro g w' hS|(with_reducible apply d5 hS b8 (i:=0));(iterate 8 rfl);exact (rfl:_=[_,_,_,_,_]);clear hS;intro w' hS;simp only [List.set] at hS|(with_reducible apply d8 hS);rfl;rfl;rfl;refine ⟨_,hne _ _ hS,?_⟩;clear hS;intro w' hS|first|(with_reducible apply e8);rfl;assumption|(with_reducible apply a0o);rfl;rfl;rfl;refine ⟨_,hnk _ _ hS,?_⟩;rintro _ w2 ⟨k2,rfl,hk2,h2⟩)
  have hc2:=b2h h2;have hV:=hc2.V;obtain ⟨Δ2,hD2,hV2⟩:=(hc2).keep;replace hS:=(hS.trans hD2).perm xi2;simp only [List.cons_append,List.nil_append,xg2] at hS;clear hD2;obtain ⟨k2sh,k2fr,k2sl,k2sp,k2hand,k2vsh,k2vfr,k2vsl,k2vsp⟩:=k2;obtain ⟨k2m1,k2m2,k2m3,k2m4,-⟩:=hV;dsimp only at k2m1 k2m2 k2m3 k2m4;obtain ⟨k2x1,k2y1,rfl⟩:=k2m1.sl.len;obtain ⟨k2x2,k2y2,rfl⟩:=k2m2.len;obtain ⟨k2x3,k2y3,rfl⟩:=k2m3.len;obtain ⟨k2x4,k2y4,rfl⟩:=k2m4.len;clear k2m1 k2m2 k2m3 k2m4;have hsm:=fun w1 h1 h2=>a3B (w:=w1) h1 h2 (hk1.trans hk2.symm);unfold kvC at hsm |-;dsimp only at hsm |-
  repeat' (first|refine yDn (by with_reducible constructor) ?_|(with_reducible apply d5 hS b8 (i:=0));(iterate 8 rfl);exact (rfl:_=[_,_,_,_,_]);clear hS;intro w' hS;simp only [List.set] at hS)
  (focus ((with_reducible apply e6 _ _ _ (by kernel_rfl) (by kernel_rfl) hS);(repeat' (first|(first|(with_reducible apply j3 b8);rfl;rfl|(with_reducible apply j0);rfl;(intro wd hd;replace hd:St _ _ wd _:=hd;(apply Ld.st b8;rfl;(first|exact hd.blkR 0 rfl|exact hd.blkR 1 rfl|exact hd.blkR 2 rfl);rfl));rfl|(first|((with_reducible apply a0g);(iterate 4 rfl);first|rfl|assumption)|(with_reducible apply p9);rfl;(first|rfl|assumption);rfl;rfl))|(with_reducible apply m7);rfl;rfl;rfl;refine ⟨_,fun wd hd=>hbg _,?_⟩|(with_reducible apply m7);rfl;rfl;rfl;refine ⟨_,fun wd hd=>hsm _ (hV1 hd (fun _ h=>by simp only [xc4,xe3,h,or_true,true_or])) (hV2 hd (fun _ h=>by simp only [xc4,xe3,h,or_true,true_or])),?_⟩|(with_reducible apply m7);rfl;rfl;rfl;refine ⟨_,fun wd hd=>hck _ (hK0.now hd),?_⟩|(with_reducible apply m7);rfl;rfl;rfl;refine ⟨_,fun wd hd=>hcr _ (hK0.now hd),?_⟩));all_goals ((with_reducible apply k8);intro w' hS';clear hS;have hS:=hS';clear hS')))
  repeat' ((refine yDn (by with_reducible constructor) ?_))
  (refine j4 rfl ?_)
  exact ⟨by rw [hd2],hS.sub (xh2 _)⟩
 ·have hd:decide (e=0)=false:=xh9 h0;rw [xf1 h0] at hk1;have hsm:=fun w1 h1=>a3B (w:=w1) h1 (b4s w1) hk1;unfold kvC kv0 at hsm;dsimp only at hsm
  repeat' (first|(with_reducible apply b9 b8);rfl;rfl;rfl|(with_reducible apply c9);rfl;(apply Ld.st b8;rfl;exact hS.blkR 2 rfl;rfl);rfl|refine yDn (by with_reducible constructor) ?_|(with_reducible apply d6 hS b8);rfl;rfl;rfl;clear hS;intro g w' hS|(with_reducible apply d5 hS b8 (i:=0));(iterate 8 rfl);exact (rfl:_=[_,_,_,_,_]);clear hS;intro w' hS;simp only [List.set] at hS|(with_reducible apply d8 hS);rfl;rfl;rfl;refine ⟨_,hne _ _ hS,?_⟩;clear hS;intro w' hS|(with_reducible apply f6);rfl;assumption)
  (focus ((with_reducible apply e6 _ _ _ (by kernel_rfl) (by kernel_rfl) hS);(repeat' (first|(first|(with_reducible apply j3 b8);rfl;rfl|(with_reducible apply j0);rfl;(intro wd hd;replace hd:St _ _ wd _:=hd;(apply Ld.st b8;rfl;(first|exact hd.blkR 0 rfl|exact hd.blkR 1 rfl|exact hd.blkR 2 rfl);rfl));rfl|(first|((with_reducible apply a0g);(iterate 4 rfl);first|rfl|assumption)|(with_reducible apply p9);rfl;(first|rfl|assumption);rfl;rfl))|(with_reducible apply m7);rfl;rfl;rfl;refine ⟨_,fun wd hd=>hbg _,?_⟩|(with_reducible apply m7);rfl;rfl;rfl;refine ⟨_,fun wd hd=>hsm _ (hV1 hd (fun _ h=>by simp only [xc4,xe3,h,or_true,true_or])),?_⟩|(with_reducible apply m7);rfl;rfl;rfl;refine ⟨_,fun wd hd=>hck _ (hK0.now hd),?_⟩|(with_reducible apply m7);rfl;rfl;rfl;refine ⟨_,fun wd hd=>hcr _ (hK0.now hd),?_⟩));all_goals ((with_reducible apply k8);intro w' hS';clear hS;have hS:=hS';clear hS')))
  repeat' ((refine yDn (by with_reducible constructor) ?_))
  (refine j4 rfl ?_)
  exact ⟨by rw [hd2],hS.sub (xh2 _)⟩
end Go.Proofs.YtejnpppejalhfabGreat
namespace Go.Proofs.YtejnpppejalhfabGreat
set_option maxRecDepth 100000
set_option maxHeartbeats 8000000
open Go.ChangeShapes Go.WideShapes Go.ChangeAt Go.RowKit Go.Deep
def b2j {α:Type} (R:α->List Value->Prop) (xs:List α) (rows:List (List Value)):Prop:=rows.length=xs.length/\∀ (i:Nat) (x:α) (r:List Value),xs[i]?=some x->rows[i]?=some r->R x r
section
variable {H:Type} {enc:TypeId×Value->H} {P:Program} {w:World} {base:Nat} {spare:Nat->Bool} {held:Bool}
theorem b6e {α:Type} [Inhabited α] {t e:TypeId} {fuel sz:Nat} {cs:List Value} {y:DataW H×List MemPlace} (ht:P.underlying t=some (.slice e)) (hsz:P.cellsOf e=sz) (hpos:0 < sz) (R:α->List Value->Prop) (hR1:∀ x r,R x r->r.all (·.oneCell')=true)
  (hR:∀ (n:Nat) (cs':List Value) (z:DataW H×List MemPlace),cs'.length=sz->DataW.trod enc P w base spare held n e cs'=some z->∃ x:α,R x cs') (h:DataW.trod enc P w base spare held fuel t cs=some y) :
  ∃ v xs rows,cs=[v]/\Sl nF w sz v rows/\b2j R xs rows/\v.oneCell'=true:=by
 rcases open_slice ht h with ⟨rfl,_⟩|⟨a,len,cap,m,n,D,Pl,rfl,hb,hl,hm,hmm,_,hx⟩
 ·exact ⟨_,[],[],rfl,xd6 ⟨_,_,rfl,rfl⟩,⟨rfl,fun i x r h=>by simp at h⟩,rfl⟩
 ·have hlm:len<=m:=by rw [hmm];split <;> omega
  rw [hsz] at hx;have key:∀ i,∃ r x,i < len->w.cells? base (a.add (i * sz)) sz=some r/\R x r/\r.length=sz:=fun i=>by
   by_cases hi:i < len
   ·obtain ⟨cs',h1,h2⟩:=hx i (by omega);have hl:=(World.cells?_some h1).2.1;obtain ⟨x,hr⟩:=hR n cs' _ hl h2;exact ⟨cs',x,fun _=>⟨h1,hr,hl⟩⟩
   ·exact ⟨[],default,fun h=>(hi h).elim⟩
  obtain ⟨r,hr⟩:=Classical.axiomOfChoice key;obtain ⟨x,hr⟩:=Classical.axiomOfChoice hr;refine ⟨_,(List.range len).map x,(List.range len).map r,rfl,?_,⟨by simp,fun i y r' h1 h2=>?_⟩,rfl⟩
  ·by_cases h0:len=0
   ·subst h0;exact xd6 ⟨_,_,rfl,rfl⟩
   ·obtain ⟨b,off,spot⟩:=a;have hcell:∀ i,i < len->∀ j,j < sz->w.cell? (((⟨b,off,spot⟩:Addr).add (i * sz)).add j)=(r i)[j]?:=fun i hi j hj=>(World.cells?_some (hr i hi).1).2.2 j hj;have h00:=hcell 0 (by omega) 0 hpos;obtain ⟨u0,hu0⟩:∃ u,(r 0)[0]?=some u:=⟨(r 0)[0]'(by rw [(hr 0 (by omega)).2.2];exact hpos),by simp⟩;rw [hu0] at h00;simp only [Nat.zero_mul,Addr.add,if_true] at h00;have hspot:spot=none:=by
     cases spot with
     |none=>rfl
     |some s=>simp [World.cell?] at h00;split at h00 <;> simp at h00
    subst hspot;have hbl:=World.block_lt_of_cell? w _ h00;refine xd3 ⟨b,off,cap,by simp,by simpa using hl,hm,⟨hbl,id,fun r' hr'=>?_,fun r' hr'=>?_,fun k r' hk j u hj=>?_⟩⟩
    ·obtain ⟨i,hi,rfl⟩:=xh0.1 hr';exact (hr i (by simpa using hi)).2.2
    ·obtain ⟨i,hi,rfl⟩:=xh0.1 hr';exact hR1 _ _ (hr i (by simpa using hi)).2.1
    ·have hk':k < len:=by have:=e7 hk;simpa using this
     simp [hk'] at hk;subst hk;have hjl:j < sz:=by have:=e7 hj;rwa [(hr k hk').2.2] at this
     have:=hcell k hk' j hjl;rw [hj] at this
     rwa [Addr.add_mid,Addr.add_mid] at this
  ·have hi:i < len:=by have:=e7 h1;simpa using this
   simp [hi] at h1 h2;subst h1 h2;exact (hr i hi).2.1
end
end Go.Proofs.YtejnpppejalhfabGreat
namespace Go.Proofs.YtejnpppejalhfabGreat
set_option maxRecDepth 100000
set_option maxHeartbeats 8000000
open Go.ChangeShapes Go.WideShapes Go.ChangeAt Go.RowKit
section
variable {H:Type} {enc:TypeId×Value->H} {W:World} {base b0:Nat} {sp:Nat->Bool} {held:Bool}
theorem cI {n:Nat} {t:TypeId} {c:Value} {o:Option (DataW H×List MemPlace)} (ht:(Tryz.prog).underlying t=some (.int .i64)) (h:DataW.trod enc Tryz.prog W base sp held n t [c]=o) (ho:o.isSome=true):∃ k:Int,c=.int .i64 k/\(Lit.int .i64 k).wf=true:=by
 obtain ⟨x,hx⟩:=xg7.1 ho;obtain ⟨k,hk,_,hw⟩:=DataW.trod_int ht (h.trans hx);simp only [List.cons.injEq,and_true] at hk;exact ⟨k,hk,hw⟩
theorem cB {n:Nat} {t:TypeId} {c:Value} {o:Option (DataW H×List MemPlace)} (ht:(Tryz.prog).underlying t=some .bool) (h:DataW.trod enc Tryz.prog W base sp held n t [c]=o) (ho:o.isSome=true):∃ b:Bool,c=.bool b:=by
 obtain ⟨x,hx⟩:=xg7.1 ho;obtain ⟨b,hb,_⟩:=DataW.trod_bool ht (h.trans hx);simp only [List.cons.injEq,and_true] at hb;exact ⟨b,hb⟩
theorem cS {n:Nat} {t:TypeId} {c:Value} {o:Option (DataW H×List MemPlace)} (ht:(Tryz.prog).underlying t=some .string) (h:DataW.trod enc Tryz.prog W base sp held n t [c]=o) (ho:o.isSome=true):∃ l:List UInt8,c=.string ⟨l.toArray⟩/\l.length<=maxLen:=by
 obtain ⟨x,hx⟩:=xg7.1 ho;obtain ⟨s,hs,_,hl⟩:=DataW.trod_string ht (h.trans hx);simp only [List.cons.injEq,and_true] at hs;obtain ⟨⟨l⟩⟩:=s;exact ⟨l,hs,by simpa [ByteArray.size] using hl⟩
theorem gS {α:Type} {l:List α} {i:Nat} (h:i < l.length):(l[i]?).isSome=true:=by simp [h]
theorem a3S:(Tryz.prog).cellsOf 3=1:=by kernel_rfl
theorem a8N:(Tryz.prog).cellsOf 4=1:=by kernel_rfl
theorem a37:(Tryz.prog).cellsOf 9=1:=by kernel_rfl
theorem b14:(Tryz.prog).cellsOf 81=4:=by kernel_rfl
instance:Inhabited Ar:=⟨⟨0,0,0,false⟩⟩
theorem a8g {n:Nat} {cs:List Value} {z:DataW H×List MemPlace} (hl:cs.length=4) (h:DataW.trod enc Tryz.prog W base sp held n 81 cs=some z):∃ a:Ar,cs=arC a:=by
 match cs,hl with
 |[c0,c1,c2,c3],_=>
  obtain ⟨xs,n,_,_,_,hl,hf⟩:=DataW.trod_struct Tryz.underlying81 h;have f0:=hf 0 _ rfl;have f1:=hf 1 _ rfl;have f2:=hf 2 _ rfl;have f3:=hf 3 _ rfl;simp only [xp8,xp9,xq0,a3S,a8N,xk3,xk4,xh3,xh4] at f0 f1 f2 f3;have hl:xs.length=4:=hl;obtain ⟨k0,rfl,_⟩:=cI Tryz.underlying3 f0 (gS (by omega));obtain ⟨k1,rfl,_⟩:=cI Tryz.underlying3 f1 (gS (by omega));obtain ⟨k2,rfl,_⟩:=cI Tryz.underlying3 f2 (gS (by omega));obtain ⟨k3,rfl⟩:=cB Tryz.underlying4 f3 (gS (by omega));exact ⟨⟨k0,k1,k2,k3⟩,rfl⟩
end
section
variable {H:Type} {enc:TypeId×Value->H} {W:World} {base b0:Nat} {sp:Nat->Bool} {held:Bool}
instance:Inhabited Fx:=⟨⟨0,[]⟩⟩
instance:Inhabited Sh:=⟨⟨0,[],[]⟩⟩
theorem b7E:(Tryz.prog).cellsOf 96=2:=by kernel_rfl
theorem b0q:(Tryz.prog).cellsOf 94=3:=by kernel_rfl
theorem b4E:(Tryz.prog).cellsOf 92=1:=by kernel_rfl
theorem b0r:(Tryz.prog).cellsOf 30=1:=by kernel_rfl
theorem a70:(Tryz.prog).cellsOf 31=1:=by kernel_rfl
theorem b3m:(Tryz.prog).cellsOf 33=3:=by kernel_rfl
theorem b0p {α:Type} {f:α->List Value} {G:α->Prop} {xs:List α} {rows:List (List Value)} (h:b2j (fun a r=>r=f a/\G a) xs rows):rows=xs.map f/\∀ x ∈ xs,G x:=by
 obtain ⟨h1,h2⟩:=h;refine ⟨?_,fun x hx=>?_⟩
 ·apply xm8;intro i;rw [xm3];by_cases hi:i < xs.length
  ·rw [xe1 hi,xe1 (by omega)];simp only [xn5,Option.some.injEq];exact (h2 i _ _ (xe1 hi) (xe1 (by omega))).1
  ·rw [xm2 (by omega),xm2 (by omega)];rfl
 ·obtain ⟨i,hi⟩:=xd9.1 hx;have hl:=e7 hi;exact (h2 i x _ hi (xe1 (by rw [h1];exact hl))).2
theorem cc1 {c v:Value} (h:[c]=[v]):c=v:=by simpa using h
theorem b5i {n:Nat} {cs:List Value} {z:DataW H×List MemPlace} (hl:cs.length=2) (h:DataW.trod enc Tryz.prog W base sp held n 96 cs=some z):∃ f:Fx,cs=fxC f:=by
 match cs,hl with
 |[c0,c1],_=>
  obtain ⟨xs,n,_,_,_,hl,hf⟩:=DataW.trod_struct Tryz.underlying96 h;have f0:=hf 0 _ rfl;have f1:=hf 1 _ rfl;simp only [xp8,xp9,xq0,a3S,a37,xk3,xk4,xh3,xh4] at f0 f1;have hl:xs.length=2:=hl;obtain ⟨k0,rfl,_⟩:=cI Tryz.underlying3 f0 (gS (by omega));obtain ⟨l1,rfl,_⟩:=cS Tryz.underlying9 f1 (gS (by omega));exact ⟨⟨k0,l1⟩,rfl⟩
theorem a1x {α:Type} [Inhabited α] {n:Nat} {t e sz:Nat} {c:Value} {o:Option (DataW H×List MemPlace)} (ht:(Tryz.prog).underlying t=some (.slice e)) (hsz:(Tryz.prog).cellsOf e=sz) (hpos:0 < sz) (f:α->List Value) (G:α->Prop) (h1:∀ x,(f x).all (·.oneCell')=true\/¬ G x)
  (hR:∀ (n:Nat) (cs':List Value) (z:DataW H×List MemPlace),cs'.length=sz->DataW.trod enc Tryz.prog W base sp held n e cs'=some z->∃ x:α,cs'=f x/\G x) (h:DataW.trod enc Tryz.prog W base sp held n t [c]=o) (ho:o.isSome=true):∃ xs:List α,Sl nF W sz c (xs.map f)/\(∀ x ∈ xs,G x)/\c.oneCell'=true:=by
 obtain ⟨x,hx⟩:=xg7.1 ho;obtain ⟨v,xs,rows,hv,hsl,hra,hone⟩:=b6e ht hsz hpos (fun (a:α) r=>r=f a/\G a) (fun x r h=>by
  obtain ⟨rfl,hg⟩:=h;rcases h1 x with h|h
  ·exact h
  ·exact absurd hg h) (fun n cs' z hl hz=>hR n cs' z hl hz) (h.trans hx)
 obtain rfl:=cc1 hv;obtain ⟨rfl,hg⟩:=b0p hra;exact ⟨xs,hsl,hg,hone⟩
theorem a5L {n:Nat} {cs:List Value} {z:DataW H×List MemPlace} (hl:cs.length=3) (h:DataW.trod enc Tryz.prog W base sp held n 94 cs=some z):∃ x:Sh×Value,cs=shC x.1 x.2/\ShV W x.1 x.2/\x.2.oneCell'=true:=by
 match cs,hl with
 |[c0,c1,c2],_=>
  obtain ⟨xs,n,_,_,_,hl,hf⟩:=DataW.trod_struct Tryz.underlying94 h;have f0:=hf 0 _ rfl;have f1:=hf 1 _ rfl;have f2:=hf 2 _ rfl;simp only [xp8,xp9,xq0,a3S,a37,b4E,xk3,xk4,xh3,xh4] at f0 f1 f2;have hl:xs.length=3:=hl;obtain ⟨k0,rfl,_⟩:=cI Tryz.underlying3 f0 (gS (by omega));obtain ⟨l1,rfl,_⟩:=cS Tryz.underlying9 f1 (gS (by omega));obtain ⟨fs,h2,_,h3⟩:=a1x Tryz.underlying92 b7E (by decide) fxC (fun _=>True) (fun x=>xd6 rfl) (fun _ _ _ hl hz=>by obtain ⟨f,hf⟩:=b5i hl hz;exact ⟨f,hf,trivial⟩) f2 (gS (by omega));exact ⟨(⟨k0,l1,fs⟩,c2),rfl,h2,h3⟩
theorem a9d {n:Nat} {cs:List Value} {z:DataW H×List MemPlace} (hl:cs.length=3) (h:DataW.trod enc Tryz.prog W base sp held n 33 cs=some z):∃ (A:List Ar) (Lp:List (Sh×Value)) (va vs:Value) (en:Int),.agg cs.toArray=lkA va vs en/\Sl nF W 4 va (A.map arC)/\ShsV W Lp vs/\(-9223372036854775808<=en/\en<=9223372036854775807):=by
 match cs,hl with
 |[c0,c1,c2],_=>
  obtain ⟨xs,n,_,_,_,hl,hf⟩:=DataW.trod_struct Tryz.underlying33 h;have f0:=hf 0 _ rfl;have f1:=hf 1 _ rfl;have f2:=hf 2 _ rfl;simp only [xp8,xp9,xq0,a3S,b0r,a70,xk3,xk4,xh3,xh4] at f0 f1 f2;have hl:xs.length=3:=hl;obtain ⟨A,h1,_,_⟩:=a1x Tryz.underlying30 b14 (by decide) arC (fun _=>True) (fun x=>xd6 rfl) (fun _ _ _ hl hz=>by obtain ⟨f,hf⟩:=a8g hl hz;exact ⟨f,hf,trivial⟩) f0 (gS (by omega));obtain ⟨Lp,h3,h4,_⟩:=a1x (α:=Sh×Value) Tryz.underlying31 b0q (by decide) (fun x=>shC x.1 x.2) (fun x=>ShV W x.1 x.2/\x.2.oneCell'=true) (fun x=>by
   by_cases hx:x.2.oneCell'=true
   ·left;unfold shC;simp only [xl3,List.all_nil,xl0,hx];rfl
   ·exact xd3 fun h=>hx h.2) (fun _ _ _ hl hz=>by obtain ⟨x,hx,h2,h3⟩:=a5L hl hz;exact ⟨x,hx,h2,h3⟩) f1 (gS (by omega))
  obtain ⟨k2,rfl,hw⟩:=cI Tryz.underlying3 f2 (gS (by omega));exact ⟨A,Lp,c0,c1,k2,rfl,h1,⟨h3,fun p hp=>(h4 p hp).1⟩,by simpa [Lit.wf,IntKind.min,IntKind.max,IntKind.signed,IntKind.bits] using hw⟩
theorem a9S {v:Value} {d:DataW H} {ps:List MemPlace} (hval:Value.okWide Tryz.prog W .any b0 33 v) (h:DataW.Trod enc Tryz.prog W base sp held 33 v d ps):∃ (A:List Ar) (Lp:List (Sh×Value)) (va vs:Value) (en:Int),v=lkA va vs en/\Sl nF W 4 va (A.map arC)/\ShsV W Lp vs/\(-9223372036854775808<=en/\en<=9223372036854775807):=by
 obtain ⟨cs,rfl,hsz⟩:=okWide_struct Tryz.underlying33 hval;obtain ⟨fuel,hf⟩:=h;have hc:(Value.agg cs).cells=cs:=rfl;rw [hc] at hf;have hlen:cs.toList.length=3:=by rw [xn9,hsz,b3m]
 obtain ⟨A,Lp,va,vs,en,h1,h2⟩:=a9d hlen hf;rw [xd2] at h1;exact ⟨A,Lp,va,vs,en,h1,h2⟩
end
end Go.Proofs.YtejnpppejalhfabGreat
