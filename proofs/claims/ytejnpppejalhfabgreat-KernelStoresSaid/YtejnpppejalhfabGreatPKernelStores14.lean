/- Texts that the proof stands on, one behind the other: Ke42, Ke43, Ke55, Ke44, Ke45. -/
import Derived.Test.YtejnpppejalhfabGreatPKernelStores13
set_option linter.unusedVariables false
set_option linter.unusedSimpArgs false
namespace Go.Proofs.YtejnpppejalhfabGreat
set_option maxRecDepth 100000
set_option maxHeartbeats 8000000
open Go.RowKit Go.Sort
theorem a2v {w:World} {k k':KV} (hK:KerV w k) (hK':KerV w k') (he:k.K=k'.K):Fn Tryz.prog 22 [.agg (kvC k).toArray,.agg (kvC k').toArray] w (RBf (.bool true) w):=by
 have b1:=hK.fr.bound;have b2:=hK.sl.bound;have b3:=hK.sp.bound;have b4:=hK.sh.sl.bound;obtain ⟨sh,fr,sl,sps,hand,vsh,vfr,vsl,vsp⟩:=k;obtain ⟨sh',fr',sl',sps',hand',vsh',vfr',vsl',vsp'⟩:=k';unfold KV.K at he;injection he with e1 e2 e3 e4 e5
 dsimp only at e1 e2 e3 e4 e5;subst e2 e3 e5;have hsame:=fun w1 (h:ShsV w1 sh vsh) (h':ShsV w1 sh' vsh')=>a7i h h' e1;have hl4:sps.length=sps'.length:=by have:=congrArg List.length e4;simpa using this
 obtain ⟨k1,k2,k3,k4,k5⟩:=hK;obtain ⟨m1,m2,m3,m4,m5⟩:=hK';dsimp only at b1 b2 b3 b4 k1 k2 k3 k4 k5 m1 m2 m3 m4 m5;obtain ⟨p1,c1,rfl⟩:=k1.sl.len;obtain ⟨p2,c2,rfl⟩:=k2.len;obtain ⟨p3,c3,rfl⟩:=k3.len;obtain ⟨p4,c4,rfl⟩:=k4.len;obtain ⟨q1,d1,rfl⟩:=m1.sl.len;obtain ⟨q2,d2,rfl⟩:=m2.len;obtain ⟨q3,d3,rfl⟩:=m3.len;obtain ⟨q4,d4,rfl⟩:=m4.len;unfold kvC;dsimp only;have z0:(!decide (hand=hand))=false:=by rw [xj7 rfl];rfl
 have z2:(!decide ((fr.length:Int)=fr.length))=false:=by rw [xj7 rfl];rfl
 have z3:(!decide ((sl.length:Int)=sl.length))=false:=by rw [xj7 rfl];rfl
 have z4:(!decide ((sps.length:Int)=sps'.length))=false:=by rw [xj7 (by omega)];rfl
 refine yEn Tryz.func22 Tryz.ntmps22 (by kernel_rfl) (by kernel_rfl) rfl rfl ?_;have hS:=St.start w
 repeat' (first|(with_reducible apply a8 a7);rfl;rfl;rfl|(with_reducible apply a9);rfl;(first|apply Ld.sc a7;rfl;(first|exact hS.blkC 0 rfl rfl|exact hS.blkC 1 rfl rfl)|apply Ld.sl a7;rfl;(first|exact hS.blkC 0 rfl rfl|exact hS.blkC 1 rfl rfl));rfl|refine yDn (by with_reducible constructor) ?_|((with_reducible apply k6);(iterate 4 rfl);first|rfl|assumption)|(with_reducible apply d9);rfl;(first|rfl|assumption);rfl;rfl|(with_reducible apply f8);rfl;assumption|(with_reducible apply l9 hS);rfl;rfl;rfl;clear hS;intro g w' hS|(with_reducible apply d6 hS);rfl;rfl;rfl;refine ⟨_,hsame _ (k1.now hS) (m1.now hS),?_⟩;clear hS;intro w' hS)
 refine a1A hS 5 [2,3] rfl fr.length (fun _=>True) 0 rfl (xg5 _) trivial ?_;rintro i w1 hi - hS';clear hS;have hS:=hS';clear hS';by_cases hlt:i < fr.length
 ·obtain ⟨f,hf⟩:=j5 (l:=fr) (i:=i) (by omega);have hrow:=d5 (f:=fmC) hf;obtain ⟨b,off,rfl,hro⟩:=k2.at_ (i:=i) hlt;obtain ⟨b',off',rfl,hro'⟩:=m2.at_ (i:=i) hlt;have heq:=b5e f f;rw [xj7 rfl] at heq
  repeat' (first|(with_reducible apply a8 a7);rfl;rfl;rfl|(with_reducible apply a9);rfl;(apply Ld.sl a7;rfl;exact hS.blkC 1 rfl rfl);rfl|refine yDn (by with_reducible constructor) ?_|(with_reducible apply b9);rfl;all_goals (intro hb hp;try (exfalso;omega)))
  (focus ((with_reducible apply d8 _ _ _ (by kernel_rfl) (by kernel_rfl) hS);(repeat' (first|(first|(with_reducible apply i9 a7);rfl;rfl|(with_reducible apply i7);rfl;(intro wd hd;replace hd:St _ _ wd _:=hd;(first|apply Ld.sl a7;rfl;(first|exact hd.blkC 0 rfl rfl|exact hd.blkC 1 rfl rfl)|apply Ld.st a7;rfl;exact hd.roR (by assumption) (by assumption);rfl));rfl|(with_reducible apply x6 a7);rfl;rfl;rfl;rfl;omega;rfl)|(with_reducible apply a6l);rfl;rfl;exact heq;rfl));all_goals ((with_reducible apply j9);intro w' hS';clear hS;have hS:=hS';clear hS')))
  repeat' (first|(with_reducible apply a8 a7);rfl;rfl;rfl|(with_reducible apply j4);rfl;rfl;omega;omega;rfl|refine yDn (by with_reducible constructor) ?_|(with_reducible apply f8);rfl;rfl)
  exact a0R (i + 1) (by exact Fr.sub_of rfl) (by omega) trivial (by omega) hS
 repeat' (first|(with_reducible apply a8 a7);rfl;rfl;rfl|(with_reducible apply a9);rfl;(apply Ld.sl a7;rfl;exact hS.blkC 1 rfl rfl);rfl|refine yDn (by with_reducible constructor) ?_|(with_reducible apply b9);rfl;all_goals (intro hb hp;try (exfalso;omega)))
 refine a1A hS 6 [2,3] rfl sl.length (fun _=>True) 0 rfl (xg5 _) trivial ?_;rintro i w1 hi - hS';clear hS;have hS:=hS';clear hS';by_cases hlt:i < sl.length
 ·obtain ⟨f,hf⟩:=j5 (l:=sl) (i:=i) (by omega);have hrow:=d5 (f:=swC) hf;obtain ⟨b,off,rfl,hro⟩:=k3.at_ (i:=i) hlt;obtain ⟨b',off',rfl,hro'⟩:=m3.at_ (i:=i) hlt;have heq:=b28 f f;rw [xj7 rfl] at heq
  repeat' (first|(with_reducible apply a8 a7);rfl;rfl;rfl|(with_reducible apply a9);rfl;(apply Ld.sl a7;rfl;exact hS.blkC 1 rfl rfl);rfl|refine yDn (by with_reducible constructor) ?_|(with_reducible apply b9);rfl;all_goals (intro hb hp;try (exfalso;omega)))
  (focus ((with_reducible apply d8 _ _ _ (by kernel_rfl) (by kernel_rfl) hS);(repeat' (first|(first|(with_reducible apply i9 a7);rfl;rfl|(with_reducible apply i7);rfl;(intro wd hd;replace hd:St _ _ wd _:=hd;(first|apply Ld.sl a7;rfl;(first|exact hd.blkC 0 rfl rfl|exact hd.blkC 1 rfl rfl)|apply Ld.st a7;rfl;exact hd.roR (by assumption) (by assumption);rfl));rfl|(with_reducible apply x6 a7);rfl;rfl;rfl;rfl;omega;rfl)|(with_reducible apply a6l);rfl;rfl;exact heq;rfl));all_goals ((with_reducible apply j9);intro w' hS';clear hS;have hS:=hS';clear hS')))
  repeat' (first|(with_reducible apply a8 a7);rfl;rfl;rfl|(with_reducible apply j4);rfl;rfl;omega;omega;rfl|refine yDn (by with_reducible constructor) ?_|(with_reducible apply f8);rfl;rfl)
  exact a0R (i + 1) (by exact Fr.sub_of rfl) (by omega) trivial (by omega) hS
 repeat' (first|(with_reducible apply a8 a7);rfl;rfl;rfl|(with_reducible apply a9);rfl;(apply Ld.sl a7;rfl;exact hS.blkC 1 rfl rfl);rfl|refine yDn (by with_reducible constructor) ?_|(with_reducible apply b9);rfl;all_goals (intro hb hp;try (exfalso;omega)))
 refine a1A hS 7 [2,3] rfl sps.length (fun _=>True) 0 rfl (xg5 _) trivial ?_;rintro i w1 hi - hS';clear hS;have hS:=hS';clear hS';by_cases hlt:i < sps.length;rotate_left
 ·repeat' (first|(with_reducible apply a8 a7);rfl;rfl;rfl|(with_reducible apply a9);rfl;(apply Ld.sl a7;rfl;exact hS.blkC 1 rfl rfl);rfl|refine yDn (by with_reducible constructor) ?_|(with_reducible apply b9);rfl;all_goals (intro hb hp;try (exfalso;omega)))
  (refine k8 rfl ?_)
  exact ⟨rfl,hS.sub (xj6 _)⟩
 obtain ⟨x,hx⟩:=j5 (l:=sps) (i:=i) (by omega);obtain ⟨y,hy⟩:=j5 (l:=sps') (i:=i) (by omega);have hxy:x.s=y.s:=by
  have h1:(sps.map (·.s))[i]?=some x.s:=d5 (f:=fun p:Sp=>p.s) hx;have h2:(sps'.map (·.s))[i]?=some y.s:=d5 (f:=fun p:Sp=>p.s) hy;rw [e4,h2] at h1;exact (Option.some.inj h1).symm
 have hrow:=d5 (f:=spC) hx;have hrow':=d5 (f:=spC) hy;obtain ⟨b,off,rfl,hro⟩:=k4.at_ (i:=i) hlt;obtain ⟨b',off',rfl,hro'⟩:=m4.at_ (i:=i) (by omega);have hxv:=k5 x (xd0 hx);have hyv:=m5 y (xd0 hy);have ha:=hxv.ar;have hen:=hxv.en;have ha':=hyv.ar;have hen':=hyv.en;obtain ⟨s,va,ve⟩:=x;obtain ⟨s',va',ve'⟩:=y;dsimp only at hxy ha hen ha' hen';subst hxy;have be:=hen.bound;obtain ⟨pa,ca,rfl⟩:=ha.len;obtain ⟨pe,ce,rfl⟩:=hen.len;obtain ⟨pa',ca',rfl⟩:=ha'.len;obtain ⟨pe',ce',rfl⟩:=hen'.len;unfold spC at hrow hrow';dsimp only at hrow hrow';have hsa:=fun w1 (h:Sl nF w1 4 (.slice pa s.areas.length ca) (s.areas.map arC)) (h':Sl nF w1 4 (.slice pa' s.areas.length ca') (s.areas.map arC))=>b5x h h';rw [xj7 rfl] at hsa;have z5:(!decide ((s.entries.length:Int)=s.entries.length))=false:=by rw [xj7 rfl];rfl
 have z6:(!decide (s.live=s.live))=false:=by rw [xj7 rfl];rfl
 repeat' (first|(with_reducible apply a8 a7);rfl;rfl;rfl|(with_reducible apply a9);rfl;(apply Ld.sl a7;rfl;exact hS.blkC 1 rfl rfl);rfl|refine yDn (by with_reducible constructor) ?_|(with_reducible apply b9);rfl;all_goals (intro hb hp;try (exfalso;omega)))
 refine a8f 14 rfl hS (by kernel_rfl) ?_;intro wh hh;clear hS;have hS:=hh;clear hh
 ((with_reducible apply q7 (nn 0) a7);rfl;kernel_rfl;exact (fun _ _ _ h=>h);exact hS;rfl;rfl)
 ((with_reducible apply a0o (nn 1));rfl;kernel_rfl;exact (fun _ _ _ h=>h);exact hS;rfl;(intro wd hd;replace hd:St _ _ wd _:=hd;(apply Ld.sl a7;rfl;exact hd.blkC 1 rfl rfl));rfl)
 ((with_reducible apply q7 (nn 2) a7);rfl;kernel_rfl;exact (fun _ _ _ h=>h);exact hS;rfl;rfl)
 ((with_reducible apply b6A (nn 3) a7);rfl;kernel_rfl;kernel_rfl;kernel_rfl;exact (fun _ _ _ _ h=>h);exact hS;rfl;rfl;rfl;rfl;omega;rfl)
 ((with_reducible apply a0o (nn 4));rfl;kernel_rfl;exact (fun _ _ _ h=>h);exact hS;rfl;(intro wd hd;replace hd:St _ _ wd _:=hd;(apply Ld.st a7;rfl;exact hd.roR (by assumption) (by assumption);rfl));rfl)
 ((with_reducible apply q7 (nn 5) a7);rfl;kernel_rfl;exact (fun _ _ _ h=>h);exact hS;rfl;rfl)
 ((with_reducible apply a0o (nn 6));rfl;kernel_rfl;exact (fun _ _ _ h=>h);exact hS;rfl;(intro wd hd;replace hd:St _ _ wd _:=hd;(apply Ld.sl a7;rfl;exact hd.blkC 0 rfl rfl));rfl)
 ((with_reducible apply q7 (nn 7) a7);rfl;kernel_rfl;exact (fun _ _ _ h=>h);exact hS;rfl;rfl)
 ((with_reducible apply b6A (nn 8) a7);rfl;kernel_rfl;kernel_rfl;kernel_rfl;exact (fun _ _ _ _ h=>h);exact hS;rfl;rfl;rfl;rfl;omega;rfl)
 ((with_reducible apply a0o (nn 9));rfl;kernel_rfl;exact (fun _ _ _ h=>h);exact hS;rfl;(intro wd hd;replace hd:St _ _ wd _:=hd;(apply Ld.st a7;rfl;exact hd.roR (by assumption) (by assumption);rfl));rfl)
 refine a4D (i:=10) (j:=11) (by kernel_rfl) ?_ ?_
 ·refine o7 rfl (r8 hS a7 rfl rfl) rfl ?_;rintro _ w' ⟨g,rfl,hS'⟩;clear hS;have hS:=hS';clear hS';refine ⟨hS.drop,?_⟩;refine t5 (i:=11) (by kernel_rfl) ?_;refine o7 rfl (r8 hS a7 rfl rfl) rfl ?_;rintro _ w' ⟨g,rfl,hS'⟩;clear hS;have hS:=hS';clear hS';refine ⟨hS.drop.drop,?_⟩;refine t5 (i:=12) (by kernel_rfl) ?_;refine y5 (Φ:=fun _ w'=>St _ _ w' _) rfl (n8 hS a7 (i:=1) rfl rfl rfl rfl rfl (xg2 rfl) (xc7.1 rfl)) ?_;intro _ w' hS';simp only [List.set] at hS';clear hS;have hS:=hS';clear hS';refine ⟨hS.drop.drop,?_⟩;refine t5 (i:=13) (by kernel_rfl) ?_;refine y5 (Φ:=fun _ w'=>St _ _ w' _) rfl (n8 hS a7 (i:=0) rfl rfl rfl rfl rfl (xg2 rfl) (xc7.1 rfl)) ?_;intro _ w' hS';simp only [List.set] at hS';clear hS;have hS:=hS';clear hS';refine ⟨hS.drop.drop,?_⟩;refine a0G (by kernel_rfl) ?_
  repeat' (first|(with_reducible apply a8 a7);rfl;rfl;rfl|(with_reducible apply a9);rfl;(first|apply Ld.sc a7;rfl;(first|exact hS.blkC 0 rfl rfl|exact hS.blkC 1 rfl rfl)|apply Ld.sl a7;rfl;(first|exact hS.blkC 0 rfl rfl|exact hS.blkC 1 rfl rfl));rfl|(with_reducible apply b5P a7);(iterate 4 rfl)|refine yDn (by with_reducible constructor) ?_|((with_reducible apply k6);(iterate 4 rfl);first|rfl|assumption)|(with_reducible apply d9);rfl;(first|rfl|assumption);rfl;rfl|(with_reducible apply f8);rfl;assumption|(with_reducible apply d6 hS);rfl;rfl;rfl;refine ⟨_,hsa _ (ha.now hS) (ha'.now hS),?_⟩;clear hS;intro w' hS)
  refine a1A hS 10 [2,3,7,8,9] rfl s.entries.length (fun _=>True) 0 rfl (xg5 _) trivial ?_;rintro j w3 hj - hS';clear hS;have hS:=hS';clear hS';by_cases hjl:j < s.entries.length
  ·obtain ⟨e,he⟩:=j5 (l:=s.entries) (i:=j) (by omega);have hrow2:=d5 (f:=enC) he;obtain ⟨b2,off2,rfl,hro2⟩:=hen.at_ (i:=j) hjl;obtain ⟨b3,off3,rfl,hro3⟩:=hen'.at_ (i:=j) hjl;have heq:=b7C e e;rw [xj7 rfl] at heq
   repeat' (first|(with_reducible apply a8 a7);rfl;rfl;rfl|(with_reducible apply a9);rfl;(apply Ld.sl a7;rfl;exact hS.blkC 1 rfl rfl);rfl|refine yDn (by with_reducible constructor) ?_|(with_reducible apply b9);rfl;all_goals (intro hb hp;try (exfalso;omega)))
   (focus ((with_reducible apply d8 _ _ _ (by kernel_rfl) (by kernel_rfl) hS);(repeat' (first|(first|(with_reducible apply i9 a7);rfl;rfl|(with_reducible apply i7);rfl;(intro wd hd;replace hd:St _ _ wd _:=hd;(first|apply Ld.sl a7;rfl;(first|exact hd.blkC 0 rfl rfl|exact hd.blkC 1 rfl rfl)|apply Ld.st a7;rfl;exact hd.roR (by assumption) (by assumption);rfl));rfl|(with_reducible apply x6 a7);rfl;rfl;rfl;rfl;omega;rfl)|(with_reducible apply a6l);rfl;rfl;exact heq;rfl));all_goals ((with_reducible apply j9);intro w' hS';clear hS;have hS:=hS';clear hS')))
   repeat' (first|(with_reducible apply a8 a7);rfl;rfl;rfl|(with_reducible apply j4);rfl;rfl;omega;omega;rfl|refine yDn (by with_reducible constructor) ?_|(with_reducible apply f8);rfl;rfl)
   exact a0R (j + 1) (by exact Fr.sub_of rfl) (by omega) trivial (by omega) hS
  ·repeat' (first|(with_reducible apply a8 a7);rfl;rfl;rfl|(with_reducible apply a9);rfl;(apply Ld.sl a7;rfl;exact hS.blkC 1 rfl rfl);rfl|(with_reducible apply j4);rfl;rfl;omega;omega;rfl|refine yDn (by with_reducible constructor) ?_|(with_reducible apply b9);rfl;all_goals (intro hb hp;try (exfalso;omega)))
   exact a0R (i + 1) (by exact Fr.sub_of rfl) (by omega) trivial (by omega) hS.drop.drop
 ·refine o7 rfl (r8 hS a7 rfl rfl) rfl ?_;rintro _ w' ⟨g,rfl,hS'⟩;clear hS;have hS:=hS';clear hS';refine ⟨hS.drop,?_⟩;refine t5 (i:=10) (by kernel_rfl) ?_;refine o7 rfl (r8 hS a7 rfl rfl) rfl ?_;rintro _ w' ⟨g,rfl,hS'⟩;clear hS;have hS:=hS';clear hS';refine ⟨hS.drop.drop,?_⟩;refine t5 (i:=12) (by kernel_rfl) ?_;refine y5 (Φ:=fun _ w'=>St _ _ w' _) rfl (n8 hS a7 (i:=0) rfl rfl rfl rfl rfl (xg2 rfl) (xc7.1 rfl)) ?_;intro _ w' hS';simp only [List.set] at hS';clear hS;have hS:=hS';clear hS';refine ⟨hS.drop.drop,?_⟩;refine t5 (i:=13) (by kernel_rfl) ?_;refine y5 (Φ:=fun _ w'=>St _ _ w' _) rfl (n8 hS a7 (i:=1) rfl rfl rfl rfl rfl (xg2 rfl) (xc7.1 rfl)) ?_;intro _ w' hS';simp only [List.set] at hS';clear hS;have hS:=hS';clear hS';refine ⟨hS.drop.drop,?_⟩;refine a0G (by kernel_rfl) ?_
  repeat' (first|(with_reducible apply a8 a7);rfl;rfl;rfl|(with_reducible apply a9);rfl;(first|apply Ld.sc a7;rfl;(first|exact hS.blkC 0 rfl rfl|exact hS.blkC 1 rfl rfl)|apply Ld.sl a7;rfl;(first|exact hS.blkC 0 rfl rfl|exact hS.blkC 1 rfl rfl));rfl|(with_reducible apply b5P a7);(iterate 4 rfl)|refine yDn (by with_reducible constructor) ?_|((with_reducible apply k6);(iterate 4 rfl);first|rfl|assumption)|(with_reducible apply d9);rfl;(first|rfl|assumption);rfl;rfl|(with_reducible apply f8);rfl;assumption|(with_reducible apply d6 hS);rfl;rfl;rfl;refine ⟨_,hsa _ (ha.now hS) (ha'.now hS),?_⟩;clear hS;intro w' hS)
  refine a1A hS 10 [2,3,7,8,9] rfl s.entries.length (fun _=>True) 0 rfl (xg5 _) trivial ?_;rintro j w3 hj - hS';clear hS;have hS:=hS';clear hS';by_cases hjl:j < s.entries.length
  ·obtain ⟨e,he⟩:=j5 (l:=s.entries) (i:=j) (by omega);have hrow2:=d5 (f:=enC) he;obtain ⟨b2,off2,rfl,hro2⟩:=hen.at_ (i:=j) hjl;obtain ⟨b3,off3,rfl,hro3⟩:=hen'.at_ (i:=j) hjl;have heq:=b7C e e;rw [xj7 rfl] at heq
   repeat' (first|(with_reducible apply a8 a7);rfl;rfl;rfl|(with_reducible apply a9);rfl;(apply Ld.sl a7;rfl;exact hS.blkC 0 rfl rfl);rfl|refine yDn (by with_reducible constructor) ?_|(with_reducible apply b9);rfl;all_goals (intro hb hp;try (exfalso;omega)))
   (focus ((with_reducible apply d8 _ _ _ (by kernel_rfl) (by kernel_rfl) hS);(repeat' (first|(first|(with_reducible apply i9 a7);rfl;rfl|(with_reducible apply i7);rfl;(intro wd hd;replace hd:St _ _ wd _:=hd;(first|apply Ld.sl a7;rfl;(first|exact hd.blkC 0 rfl rfl|exact hd.blkC 1 rfl rfl)|apply Ld.st a7;rfl;exact hd.roR (by assumption) (by assumption);rfl));rfl|(with_reducible apply x6 a7);rfl;rfl;rfl;rfl;omega;rfl)|(with_reducible apply a6l);rfl;rfl;exact heq;rfl));all_goals ((with_reducible apply j9);intro w' hS';clear hS;have hS:=hS';clear hS')))
   repeat' (first|(with_reducible apply a8 a7);rfl;rfl;rfl|(with_reducible apply j4);rfl;rfl;omega;omega;rfl|refine yDn (by with_reducible constructor) ?_|(with_reducible apply f8);rfl;rfl)
   exact a0R (j + 1) (by exact Fr.sub_of rfl) (by omega) trivial (by omega) hS
  ·repeat' (first|(with_reducible apply a8 a7);rfl;rfl;rfl|(with_reducible apply a9);rfl;(apply Ld.sl a7;rfl;exact hS.blkC 0 rfl rfl);rfl|(with_reducible apply j4);rfl;rfl;omega;omega;rfl|refine yDn (by with_reducible constructor) ?_|(with_reducible apply b9);rfl;all_goals (intro hb hp;try (exfalso;omega)))
   exact a0R (i + 1) (by exact Fr.sub_of rfl) (by omega) trivial (by omega) hS.drop.drop
theorem Came.keep {w w':World} {k:KV} (h:Came w w' k):∃ Δ,St nF w w' Δ/\∀ {F:Nat->Prop} {w0 w2:World} {Γ:List Asr},St F w0 w2 Γ->(∀ A ∈ Δ,A ∈ Γ)->KerV w2 k:=by
 rcases h with ⟨rfl,h⟩|h
 ·exact ⟨[],h,fun _ _=>b1q _⟩
 ·refine ⟨a38 k,h,fun {F w0 w2 Γ} hS hm=>?_⟩;have hmem:∀ {e sz:Nat} {v:Value} {rows:List (List Value)},Asr.row e sz v rows ∈ a38 k->Sl nF w2 sz v rows:=fun h=>hS.slMem (hm _ h);have hr:∀ {A},A ∈ a0L k->A ∈ a38 k:=fun h=>xc6 _ (xc6 _ (xc6 _ (xe6 _ h)));refine ⟨⟨hmem (e:=94) (hr xc5),fun p hp=>?_⟩,hmem (e:=89) xc5,hmem (e:=143) (xc6 _ xc5),hmem (e:=75) (xc6 _ (xc6 _ xc5)),fun p hp=>⟨?_,?_⟩⟩
  ·exact hmem (e:=96) (hr (xc6 _ (xe5 _ (xj0.2 ⟨p,hp,rfl⟩))))
  ·exact hmem (e:=81) (hr (xc6 _ (xe6 _ (xj0.2 ⟨p,hp,rfl⟩))))
  ·exact hmem (e:=91) (xc6 _ (xc6 _ (xc6 _ (xe5 _ (xj0.2 ⟨p,hp,rfl⟩)))))
theorem b2m {w:World} {va:Value} {A:List Ar} (hL:Sl nF w 4 va (A.map arC)) (hc:l7 A=0) {addr size way:Int} (hb0:-9223372036854775808<=addr) (hb1:addr<=9223372036854775807) (hs1:1<=size) (hs8:size<=8) (hway:way=0\/way=1\/way=2):Fn Tryz.prog 27 [va,.int .i64 addr,.int .i64 size,.int .i64 way] w (RBf (a26 (w8 A addr size way)) w):=by
 have hok:=a0Q (v6.1 hc).2;obtain ⟨n,hn⟩:∃ n:Nat,size=(n:Nat):=⟨size.toNat,by omega⟩;subst hn;refine yEn Tryz.func27 Tryz.ntmps27 (by kernel_rfl) (by kernel_rfl) rfl rfl ?_;have hS:=St.start w
 repeat (with_reducible apply a2T)
 (with_reducible apply a2X)
 (((with_reducible apply d7 hS a7);rfl;rfl;rfl);clear hS;intro g8 w' hS)
 (with_reducible apply a3A)
 (with_reducible apply a19)
 repeat (with_reducible apply a2T)
 have hS8:St nF w _ [.blk g8 [.int .i64 0,.int .i64 0]]:=hS;refine a1w (F:=nF) (w0:=w) (X:=Unit) (fun _=>[(0,va),(1,.int .i64 addr),(2,.int .i64 (n:Nat)),(3,.int .i64 way),(8,.pointer (some ⟨g8,0,none⟩)),(18,.bool (decide (way=2/\addr.tmod 8≠0)))]) (fun _=>[.blk g8 [.int .i64 0,.int .i64 0]]) (fun _=>True) ?_ ?_
 ·by_cases hw:way=2
  ·have hdw:decide (way=2)=true:=xj7 hw;have hdr:(!decide (addr.tmod 8=0))=decide (way=2/\addr.tmod 8≠0):=by
    by_cases h:addr.tmod 8=0
    ·rw [xj7 h,xj5 (fun h2=>h2.2 h)];rfl
    ·rw [xj5 h,xj7 ⟨hw,h⟩];rfl
   rw [<- hdr]
   repeat' (first|(with_reducible apply a8 a7);rfl;rfl;rfl|refine yDn (by with_reducible constructor) ?_|(with_reducible apply k6);(iterate 4 rfl);assumption|(with_reducible apply f7);rfl;assumption;rfl;rfl|(with_reducible apply a5c);rfl;rfl;omega;rfl)
   exact p8 () (by exact Fr.sub_of rfl) trivial hS
  ·have hdw:decide (way=2)=false:=xj5 hw;rw [show decide (way=2/\addr.tmod 8≠0)=false from xj5 (fun h=>hw h.1)]
   repeat' (first|(with_reducible apply a8 a7);rfl;rfl;rfl|refine yDn (by with_reducible constructor) ?_|(with_reducible apply r9);(iterate 4 rfl);assumption;rfl|(with_reducible apply d9);rfl;assumption;rfl;rfl)
   exact p8 () (by exact Fr.sub_of rfl) trivial hS
 clear hS hS8;rintro - w2 - hS;by_cases hal:way=2/\addr.tmod 8≠0
 ·have hF:w8 A addr (n:Nat) way=(3,addr):=by unfold w8;rw [xf0 hal]
  rw [xj7 hal]
  repeat' (first|(with_reducible apply a8 a7);rfl;rfl;rfl|(with_reducible apply l4 a7);rfl;rfl;exact (rfl:_=some [_,_]);rfl|refine yDn (by with_reducible constructor) ?_|(with_reducible apply f6);rfl;rfl|(with_reducible apply b8 hS a7 (i:=0));(iterate 8 rfl);exact (rfl:_=[_,_]);clear hS;intro w' hS;simp only [List.set] at hS)
  (apply t9;repeat (first|exact ResL.nil|apply ResL.cell;rfl;(apply Ld.st a7;rfl;exact hS.blkR 0 rfl;rfl)))
  exact ⟨by rw [hF];rfl,hS.sub (xj6 _)⟩
 rw [xj5 hal];obtain ⟨F,hF⟩:∃ F,F=w8 A addr (n:Nat) way:=⟨_,rfl⟩;rw [<- hF];have hstep:∀ i:Nat,(∀ j:Nat,j < i->n5 A way (addr + (j:Nat))=none)->1<=i->addr<=4095/\16<=addr:=fun i h h1=>by
  have h2:=a11 hc (h 0 (by omega));have h3:addr + ((0:Nat):Int)=addr:=by omega
  rw [h3] at h2;omega
 have hout:(addr < 0\/4096 < addr)->n5 A way (addr + ((0:Nat):Int))=some (1,addr):=fun h=>by
  rw [show addr + ((0:Nat):Int)=addr by omega];unfold n5
  cases hf:o9 A (addr.tdiv 16) with
  |none=>rfl
  |some a=>
   have hp:=a3N hc (p:=addr.tdiv 16) (by rw [hf];rfl);rcases h with h|h
   ·have:addr.tdiv 16<=0:=by
     rw [show addr=-(-addr) by omega,Int.neg_tdiv];have:=Int.tdiv_nonneg (a:=-addr) (b:=16) (by omega) (by omega);omega
    omega
   ·rw [xf2 (by omega)] at hp;omega
 repeat' (first|(with_reducible apply a8 a7);rfl;rfl;rfl|refine yDn (by with_reducible constructor) ?_|(with_reducible apply f8);rfl;rfl)
 refine l5 (F:=nF) (w0:=w) (X:=Nat) (fun x=>[(9,.int .i64 (x:Nat))]) [0,1,2,3,8] rfl (fun _=>[]) (fun i=>i<=n/\∀ j:Nat,j < i->n5 A way (addr + (j:Nat))=none) (fun i=>n - i) 0 (by exact Fr.sub_of rfl) ⟨xg5 _,fun j hj=>by omega⟩ hS ?_;clear hS;rintro i w1 ⟨hi,hall⟩ hS;dsimp only [List.cons_append,List.nil_append] at hi hall hS |-;by_cases hlt:i < n;rotate_left
 ·obtain rfl:i=n:=by omega
  have hff:F=(0,0):=hF.trans (a2F hal (fun j hj=>hall j (by omega)))
  repeat' (first|(with_reducible apply a8 a7);rfl;rfl;rfl|(with_reducible apply l4 a7);rfl;rfl;exact (rfl:_=some [_,_]);rfl|refine yDn (by with_reducible constructor) ?_|(with_reducible apply b8 hS a7 (i:=0));(iterate 8 rfl);exact (rfl:_=[_,_]);clear hS;intro w' hS;simp only [List.set] at hS|(with_reducible apply b9);rfl;all_goals (intro hb hp;try (exfalso;omega)))
  (apply t9;repeat (first|exact ResL.nil|apply ResL.cell;rfl;(apply Ld.st a7;rfl;exact hS.blkR 0 rfl;rfl)))
  exact ⟨by rw [hff];rfl,hS.sub (xj6 _)⟩
 have hi0:1<=i->addr<=4095/\16<=addr:=fun h=>hstep i hall h;by_cases hn0:addr < 0
 ·obtain rfl:i=0:=by
   by_cases h:1<=i
   ·have:=hi0 h;omega
   ·omega
  have hda:decide (addr < 0)=true:=xj7 hn0;have hff:F=(1,addr):=hF.trans (v5 (i:=0) hal (by omega) hall (hout (xd6 hn0)))
  repeat' (first|(with_reducible apply a8 a7);rfl;rfl;rfl|(with_reducible apply l4 a7);rfl;rfl;exact (rfl:_=some [_,_]);rfl|refine yDn (by with_reducible constructor) ?_|(with_reducible apply r9);(iterate 4 rfl);assumption;rfl|(with_reducible apply f7);rfl;assumption;rfl;rfl|(with_reducible apply f6);rfl;rfl|(with_reducible apply b8 hS a7 (i:=0));(iterate 8 rfl);exact (rfl:_=[_,_]);clear hS;intro w' hS;simp only [List.set] at hS|(with_reducible apply b9);rfl;all_goals (intro hb hp;try (exfalso;omega)))
  (apply t9;repeat (first|exact ResL.nil|apply ResL.cell;rfl;(apply Ld.st a7;rfl;exact hS.blkR 0 rfl;rfl)))
  exact ⟨by rw [hff];rfl,hS.sub (xj6 _)⟩
 have hda:decide (addr < 0)=false:=xj5 hn0;by_cases hn1:4096 < addr
 ·obtain rfl:i=0:=by
   by_cases h:1<=i
   ·have:=hi0 h;omega
   ·omega
  have hdb:decide (4096 < addr)=true:=xj7 hn1;have hff:F=(1,addr):=hF.trans (v5 (i:=0) hal (by omega) hall (hout (xd3 hn1)))
  repeat' (first|(with_reducible apply a8 a7);rfl;rfl;rfl|(with_reducible apply l4 a7);rfl;rfl;exact (rfl:_=some [_,_]);rfl|refine yDn (by with_reducible constructor) ?_|(with_reducible apply k6);(iterate 4 rfl);assumption|(with_reducible apply d9);rfl;assumption;rfl;rfl|(with_reducible apply f6);rfl;assumption|(with_reducible apply b8 hS a7 (i:=0));(iterate 8 rfl);exact (rfl:_=[_,_]);clear hS;intro w' hS;simp only [List.set] at hS|(with_reducible apply b9);rfl;all_goals (intro hb hp;try (exfalso;omega)))
  (apply t9;repeat (first|exact ResL.nil|apply ResL.cell;rfl;(apply Ld.st a7;rfl;exact hS.blkR 0 rfl;rfl)))
  exact ⟨by rw [hff];rfl,hS.sub (xj6 _)⟩
 have hdb:decide (4096 < addr)=false:=xj5 hn1;have hneg:¬ addr + (i:Nat) < 0:=by omega
 have haa:=fun w1 (h:Sl nF w1 4 va (A.map arC))=>a2Q ((addr + (i:Nat)).tdiv 16) h hok
 cases hfa:o9 A ((addr + (i:Nat)).tdiv 16) with
 |none=>
  rw [hfa] at haa;unfold a1I arC at haa;dsimp only [Option.getD,Option.isSome] at haa;have hff:F=(1,addr + (i:Nat)):=hF.trans (v5 hal (by omega) hall (by unfold n5;rw [hfa]))
  repeat' (first|(with_reducible apply a8 a7);rfl;rfl;rfl|(with_reducible apply j4);rfl;rfl;omega;omega;rfl|(with_reducible apply l4 a7);rfl;rfl;exact (rfl:_=some [_,_]);rfl|refine yDn (by with_reducible constructor) ?_|(with_reducible apply k6);(iterate 4 rfl);assumption|(with_reducible apply d9);rfl;assumption;rfl;rfl|(with_reducible apply f6);rfl;rfl|(with_reducible apply f8);rfl;assumption|(with_reducible apply d7 hS a7);rfl;rfl;rfl;clear hS;intro g w' hS|(with_reducible apply b8 hS a7 (i:=0));(iterate 8 rfl);exact (rfl:_=[_,_,_,_]);clear hS;intro w' hS;simp only [List.set] at hS|(with_reducible apply b8 hS a7 (i:=1));(iterate 8 rfl);exact (rfl:_=[_,_]);clear hS;intro w' hS;simp only [List.set] at hS|(with_reducible apply b9);rfl;all_goals (intro hb hp;try (exfalso;omega))|(with_reducible apply a0A);rfl;rfl;omega;omega;omega;rfl|(with_reducible apply d6 hS);rfl;rfl;rfl;refine ⟨_,haa _ (hL.now hS),?_⟩;clear hS;intro w' hS)
  (apply t9;repeat (first|exact ResL.nil|apply ResL.cell;rfl;(apply Ld.st a7;rfl;exact hS.blkR 1 rfl;rfl)))
  exact ⟨by rw [hff];rfl,hS.sub (xj6 _)⟩
 |some a=>
  rw [hfa] at haa;unfold a1I arC at haa;dsimp only [Option.getD,Option.isSome] at haa;have hdv:(addr + ((i:Nat):Int)).tdiv 16=(addr + (i:Nat)) / 16:=xf2 (by omega);have haok:a.ok:=(a0U hc (by rw [hdv] at hfa;exact hfa)).1;unfold Ar.ok at haok
  (skip)
  by_cases hw1:way=1
  ·have hdw:decide (way=1)=true:=xj7 hw1;by_cases hp1:a.prot.tmod 2=0
   ·have hdp:decide (a.prot.tmod 2=0)=true:=xj7 hp1;rw [xf3 (by omega)] at hp1;have hff:F=(2,addr + (i:Nat)):=hF.trans (v5 hal (by omega) hall (by
     unfold n5;rw [hfa];dsimp only;rw [xf1 hneg,xf0];omega))
    repeat' (first|(with_reducible apply a8 a7);rfl;rfl;rfl|(with_reducible apply a9);rfl;(apply Ld.sc a7;rfl;exact hS.blkC 0 rfl rfl);rfl|(with_reducible apply j4);rfl;rfl;omega;omega;rfl|(with_reducible apply l4 a7);rfl;rfl;exact (rfl:_=some [_,_]);rfl|refine yDn (by with_reducible constructor) ?_|(with_reducible apply k6);(iterate 4 rfl);assumption|(with_reducible apply r9);(iterate 4 rfl);assumption;rfl|(with_reducible apply a1e);(iterate 5 rfl)|(with_reducible apply f7);rfl;assumption;rfl;rfl|(with_reducible apply d9);rfl;assumption;rfl;rfl|(with_reducible apply f6);rfl;rfl|((with_reducible apply f8);rfl;first|rfl|assumption)|(with_reducible apply d7 hS a7);rfl;rfl;rfl;clear hS;intro g w' hS|(with_reducible apply b8 hS a7 (i:=0));(iterate 8 rfl);exact (rfl:_=[_,_,_,_]);clear hS;intro w' hS;simp only [List.set] at hS|(with_reducible apply b8 hS a7 (i:=1));(iterate 8 rfl);exact (rfl:_=[_,_]);clear hS;intro w' hS;simp only [List.set] at hS|(with_reducible apply b9);rfl;all_goals (intro hb hp;try (exfalso;omega))|(with_reducible apply a5c);rfl;rfl;omega;rfl|(with_reducible apply a0A);rfl;rfl;omega;omega;omega;rfl|(with_reducible apply d6 hS);rfl;rfl;rfl;refine ⟨_,haa _ (hL.now hS),?_⟩;clear hS;intro w' hS)
    (apply t9;repeat (first|exact ResL.nil|apply ResL.cell;rfl;(apply Ld.st a7;rfl;exact hS.blkR 1 rfl;rfl)))
    exact ⟨by rw [hff];rfl,hS.sub (xj6 _)⟩
   ·have hdp:decide (a.prot.tmod 2=0)=false:=xj5 hp1;have hdv:decide (way=2)=false:=xj5 (by omega);rw [xf3 (by omega)] at hp1;have hnx:n5 A way (addr + (i:Nat))=none:=by
     unfold n5;rw [hfa];dsimp only;rw [xf1 hneg,xf1];omega
    repeat' (first|(with_reducible apply a8 a7);rfl;rfl;rfl|(with_reducible apply a9);rfl;(apply Ld.sc a7;rfl;exact hS.blkC 0 rfl rfl);rfl|(with_reducible apply j4);rfl;rfl;omega;omega;rfl|refine yDn (by with_reducible constructor) ?_|(with_reducible apply k6);(iterate 4 rfl);assumption|(with_reducible apply r9);(iterate 4 rfl);assumption;rfl|(with_reducible apply f7);rfl;assumption;rfl;rfl|(with_reducible apply d9);rfl;assumption;rfl;rfl|((with_reducible apply f8);rfl;first|rfl|assumption)|(with_reducible apply d7 hS a7);rfl;rfl;rfl;clear hS;intro g w' hS|(with_reducible apply b8 hS a7 (i:=0));(iterate 8 rfl);exact (rfl:_=[_,_,_,_]);clear hS;intro w' hS;simp only [List.set] at hS|(with_reducible apply b9);rfl;all_goals (intro hb hp;try (exfalso;omega))|(with_reducible apply a5c);rfl;rfl;omega;rfl|(with_reducible apply a0A);rfl;rfl;omega;omega;omega;rfl|(with_reducible apply d6 hS);rfl;rfl;rfl;refine ⟨_,haa _ (hL.now hS),?_⟩;clear hS;intro w' hS)
    refine e9 (i + 1) (by exact Fr.sub_of rfl) ⟨by omega,fun j hj=>?_⟩ (hS.sub (by repeat (first|exact xm3 _|apply xm6))) (by omega);by_cases e:j=i
    ·rw [e];exact hnx
    ·exact hall j (by omega)
  ·have hdw:decide (way=1)=false:=xj5 hw1;by_cases hw2:way=2
   ·have hdv:decide (way=2)=true:=xj7 hw2;by_cases hp1:a.prot < 2
    ·have hdp:decide (a.prot < 2)=true:=xj7 hp1;have hff:F=(2,addr + (i:Nat)):=hF.trans (v5 hal (by omega) hall (by
      unfold n5;rw [hfa];dsimp only;rw [xf1 hneg,xf0];omega))
     repeat' (first|(with_reducible apply a8 a7);rfl;rfl;rfl|(with_reducible apply a9);rfl;(apply Ld.sc a7;rfl;exact hS.blkC 0 rfl rfl);rfl|(with_reducible apply j4);rfl;rfl;omega;omega;rfl|(with_reducible apply l4 a7);rfl;rfl;exact (rfl:_=some [_,_]);rfl|refine yDn (by with_reducible constructor) ?_|((with_reducible apply k6);(iterate 4 rfl);first|rfl|assumption)|(with_reducible apply r9);(iterate 4 rfl);assumption;rfl|(with_reducible apply f7);rfl;assumption;rfl;rfl|(with_reducible apply d9);rfl;(first|rfl|assumption);rfl;rfl|(with_reducible apply f6);rfl;assumption|((with_reducible apply f8);rfl;first|rfl|assumption)|(with_reducible apply d7 hS a7);rfl;rfl;rfl;clear hS;intro g w' hS|(with_reducible apply b8 hS a7 (i:=0));(iterate 8 rfl);exact (rfl:_=[_,_,_,_]);clear hS;intro w' hS;simp only [List.set] at hS|(with_reducible apply b8 hS a7 (i:=1));(iterate 8 rfl);exact (rfl:_=[_,_]);clear hS;intro w' hS;simp only [List.set] at hS|(with_reducible apply b9);rfl;all_goals (intro hb hp;try (exfalso;omega))|(with_reducible apply a0A);rfl;rfl;omega;omega;omega;rfl|(with_reducible apply d6 hS);rfl;rfl;rfl;refine ⟨_,haa _ (hL.now hS),?_⟩;clear hS;intro w' hS)
     (apply t9;repeat (first|exact ResL.nil|apply ResL.cell;rfl;(apply Ld.st a7;rfl;exact hS.blkR 1 rfl;rfl)))
     exact ⟨by rw [hff];rfl,hS.sub (xj6 _)⟩
    ·have hdp:decide (a.prot < 2)=false:=xj5 hp1;have hnx:n5 A way (addr + (i:Nat))=none:=by
      unfold n5;rw [hfa];dsimp only;rw [xf1 hneg,xf1];omega
     repeat' (first|(with_reducible apply a8 a7);rfl;rfl;rfl|(with_reducible apply a9);rfl;(apply Ld.sc a7;rfl;exact hS.blkC 0 rfl rfl);rfl|(with_reducible apply j4);rfl;rfl;omega;omega;rfl|refine yDn (by with_reducible constructor) ?_|((with_reducible apply k6);(iterate 4 rfl);first|rfl|assumption)|(with_reducible apply r9);(iterate 4 rfl);assumption;rfl|(with_reducible apply f7);rfl;assumption;rfl;rfl|(with_reducible apply d9);rfl;(first|rfl|assumption);rfl;rfl|((with_reducible apply f8);rfl;first|rfl|assumption)|(with_reducible apply d7 hS a7);rfl;rfl;rfl;clear hS;intro g w' hS|(with_reducible apply b8 hS a7 (i:=0));(iterate 8 rfl);exact (rfl:_=[_,_,_,_]);clear hS;intro w' hS;simp only [List.set] at hS|(with_reducible apply b9);rfl;all_goals (intro hb hp;try (exfalso;omega))|(with_reducible apply a0A);rfl;rfl;omega;omega;omega;rfl|(with_reducible apply d6 hS);rfl;rfl;rfl;refine ⟨_,haa _ (hL.now hS),?_⟩;clear hS;intro w' hS)
     refine e9 (i + 1) (by exact Fr.sub_of rfl) ⟨by omega,fun j hj=>?_⟩ (hS.sub (by repeat (first|exact xm3 _|apply xm6))) (by omega);by_cases e:j=i
     ·rw [e];exact hnx
     ·exact hall j (by omega)
   ·have hdv:decide (way=2)=false:=xj5 hw2;have hnx:n5 A way (addr + (i:Nat))=none:=by
     unfold n5;rw [hfa];dsimp only;rw [xf1 hneg,xf1];omega
    repeat' (first|(with_reducible apply a8 a7);rfl;rfl;rfl|(with_reducible apply j4);rfl;rfl;omega;omega;rfl|refine yDn (by with_reducible constructor) ?_|((with_reducible apply k6);(iterate 4 rfl);first|rfl|assumption)|(with_reducible apply r9);(iterate 4 rfl);assumption;rfl|(with_reducible apply d9);rfl;(first|rfl|assumption);rfl;rfl|((with_reducible apply f8);rfl;first|rfl|assumption)|(with_reducible apply d7 hS a7);rfl;rfl;rfl;clear hS;intro g w' hS|(with_reducible apply b8 hS a7 (i:=0));(iterate 8 rfl);exact (rfl:_=[_,_,_,_]);clear hS;intro w' hS;simp only [List.set] at hS|(with_reducible apply b9);rfl;all_goals (intro hb hp;try (exfalso;omega))|(with_reducible apply a0A);rfl;rfl;omega;omega;omega;rfl|(with_reducible apply d6 hS);rfl;rfl;rfl;refine ⟨_,haa _ (hL.now hS),?_⟩;clear hS;intro w' hS)
    refine e9 (i + 1) (by exact Fr.sub_of rfl) ⟨by omega,fun j hj=>?_⟩ (hS.sub (by repeat (first|exact xm3 _|apply xm6))) (by omega);by_cases e:j=i
    ·rw [e];exact hnx
    ·exact hall j (by omega)
def rkS (g:Nat) (k:KV):List Asr:=.blk g (kvC k)::frA k::slA k::a05 k::k.sp.map a0b
theorem KerV.rk {F:Nat->Prop} {w0 w:World} {Γ:List Asr} {g:Nat} {k:KV} (hS:St F w0 w (rkS g k++Γ)) (hR:KRo F w0 k):KerV w k:=by
 refine ⟨hR.sh.now hS,hS.rowSl 1 rfl,hS.rowSl 2 rfl,hS.rowSl 3 rfl,fun p hp=>⟨(hR.ar p hp).now hS,?_⟩⟩;refine hS.slMem (e:=91) (xe5 _ ?_);unfold rkS;exact xc6 _ (xc6 _ (xc6 _ (xc6 _ (xj0.2 ⟨p,hp,rfl⟩))))
theorem a74 {F:Nat->Prop} {w0 w:World} {Γ:List Asr} {g:Nat} {k:KV} (hS0:St F w0 w (rkS g k++Γ)) {e:En} (he:EntOk k e):Fn Tryz.prog 134 [.pointer (some ⟨g,0,none⟩),.agg (enC e).toArray] w (fun v w'=>v=.tuple #[]/\St (fps (rkS g k)) w w' (rkS g (a2a k e))):=by
 have hS:=St.startM hS0;obtain ⟨hn,hfr,hsl⟩:=he;generalize fps (rkS g k)=G at hS |-;obtain ⟨sh,fr,sl,sps,hand,vsh,vfr,vsl,vsp⟩:=k;dsimp only at hn hfr hsl;unfold rkS kvC frA slA a05 at hS;dsimp only [List.cons_append,List.nil_append] at hS;unfold enC;rcases hn with ⟨hk,i,hi,hil⟩|⟨hk,i,hi,hil⟩
 ·have hlv:a2a ⟨sh,fr,sl,sps,hand,vsh,vfr,vsl,vsp⟩ e=⟨sh,fr.set i (a3k (j7 fr i)),sl,sps,hand,vsh,vfr,vsl,vsp⟩:=by unfold a2a;rw [xf0 hk,hi];rfl
  rw [hlv];obtain ⟨f,hf⟩:=j5 (l:=fr) (i:=i) (by omega);have hrf:=hfr f (xd0 hf);rw [m8 hf];have hrow:=d5 (f:=fmC) hf;obtain ⟨pf,cf,rfl⟩:=hS.rowSlice 1 rfl;rw [xj4] at hS;obtain ⟨gf,rfl⟩:=hS.rowSome 1 rfl (by omega);have hd:decide (e.kind=1)=true:=xj7 hk;obtain ⟨epg,ekd,eat⟩:=e;dsimp only at hd hi hk hlv |-;subst hi;unfold fmC at hrow;unfold a3k;have e1:(fr.map fmC).set i (o5 [.string ⟨f.data.toArray⟩,.int .i64 f.refs,.bool f.dirty,.bool f.seen] 1 [.int .i64 (f.refs - 1)])=(fr.set i ⟨f.data,f.refs - 1,f.dirty,f.seen⟩).map fmC:=by rw [xl6];rfl
  have hrow1:((fr.set i ⟨f.data,f.refs - 1,f.dirty,f.seen⟩).map fmC)[i]?=some [.string ⟨f.data.toArray⟩,.int .i64 (f.refs - 1),.bool f.dirty,.bool f.seen]:=d5 (f:=fmC) (a2G (x:=(⟨f.data,f.refs - 1,f.dirty,f.seen⟩:Fm)) hil);by_cases h0:f.refs - 1=0
  ·have hd0:decide (f.refs - 1=0)=true:=xj7 h0;rw [xf0 h0];have e2:((fr.set i ⟨f.data,f.refs - 1,f.dirty,f.seen⟩).map fmC).set i (o5 [.string ⟨f.data.toArray⟩,.int .i64 (f.refs - 1),.bool f.dirty,.bool f.seen] 0 [.string ⟨#[]⟩,.int .i64 0,.bool false,.bool false])=(fr.set i fm0).map fmC:=by
    rw [xl6,xl6,xn0];rfl
   refine yEn Tryz.func134 Tryz.ntmps134 (by kernel_rfl) (by kernel_rfl) rfl rfl ?_
   repeat' (first|(with_reducible apply a8 a7);rfl;rfl;rfl|(with_reducible apply a9);rfl;(apply Ld.sc a7;rfl;exact hS.blkC 0 rfl rfl);rfl|refine yDn (by with_reducible constructor) ?_|(with_reducible apply f6);rfl;assumption|(with_reducible apply l9 hS);rfl;rfl;rfl;clear hS;intro g w' hS)
   (focus ((with_reducible apply a0c _ _ _ 12 (by kernel_rfl) (by kernel_rfl) hS);(simp only [xl7,xl8,xm1,xm2]);(repeat' ((first|(with_reducible apply a1B);rfl;rfl;omega;omega;rfl|(with_reducible apply i9 a7);rfl;rfl|(with_reducible apply i7);rfl;(intro wd hd;replace hd:St _ _ wd _:=hd;(first|apply Ld.sc a7;rfl;(first|exact hd.blkC 0 rfl rfl|exact hd.rowCj 2 rfl (by assumption) rfl)|apply Ld.sl a7;rfl;exact hd.blkC 1 rfl rfl));rfl|(with_reducible apply x6 a7);rfl;rfl;rfl;rfl;omega;rfl)));all_goals ((with_reducible apply j9);intro w' hS';clear hS;have hS:=hS';clear hS')))
   repeat' (first|refine yDn (by with_reducible constructor) ?_|(with_reducible apply t6 hS a7 (i:=2));(iterate 4 rfl);assumption;(iterate 5 rfl);intro w' hS';simp only [List.set] at hS';clear hS;have hS:=hS';clear hS')
   rw [e1] at hS
   (focus ((with_reducible apply d8 _ _ _ (by kernel_rfl) (by kernel_rfl) hS);(repeat' ((first|(with_reducible apply i9 a7);rfl;rfl|(with_reducible apply i7);rfl;(intro wd hd;replace hd:St _ _ wd _:=hd;(first|apply Ld.sc a7;rfl;(first|exact hd.blkC 0 rfl rfl|exact hd.rowCj 2 rfl (by assumption) rfl)|apply Ld.sl a7;rfl;exact hd.blkC 1 rfl rfl));rfl|(with_reducible apply x6 a7);rfl;rfl;rfl;rfl;omega;rfl)));all_goals ((with_reducible apply j9);intro w' hS';clear hS;have hS:=hS';clear hS')))
   repeat' (first|refine yDn (by with_reducible constructor) ?_|(with_reducible apply f6);rfl;assumption)
   (focus ((with_reducible apply a0c _ _ _ 8 (by kernel_rfl) (by kernel_rfl) hS);(simp only [xl7,xl8,xm1,xm2]);(repeat' ((first|(with_reducible apply i9 a7);rfl;rfl|(with_reducible apply i7);rfl;(intro wd hd;replace hd:St _ _ wd _:=hd;(first|apply Ld.sc a7;rfl;exact hd.blkC 0 rfl rfl|apply Ld.sl a7;rfl;exact hd.blkC 1 rfl rfl));rfl|(with_reducible apply x6 a7);rfl;rfl;rfl;rfl;omega;rfl|(with_reducible apply a1U a7);rfl;rfl;exact (rfl:_=some [_,_,_,_]);rfl)));all_goals ((with_reducible apply j9);intro w' hS';clear hS;have hS:=hS';clear hS')))
   repeat' (first|refine yDn (by with_reducible constructor) ?_|(with_reducible apply p7 hS a7 (i:=2));(iterate 4 rfl);assumption;(iterate 5 rfl);intro w' hS';simp only [List.set] at hS';clear hS;have hS:=hS';clear hS')
   rw [e2] at hS
   (refine b1M rfl ?_)
   exact ⟨rfl,by rw [xj4];exact hS.drop⟩
  ·have hd0:decide (f.refs - 1=0)=false:=xj5 h0;rw [xf1 h0];refine yEn Tryz.func134 Tryz.ntmps134 (by kernel_rfl) (by kernel_rfl) rfl rfl ?_
   repeat' (first|(with_reducible apply a8 a7);rfl;rfl;rfl|(with_reducible apply a9);rfl;(apply Ld.sc a7;rfl;exact hS.blkC 0 rfl rfl);rfl|refine yDn (by with_reducible constructor) ?_|(with_reducible apply f6);rfl;assumption|(with_reducible apply l9 hS);rfl;rfl;rfl;clear hS;intro g w' hS)
   (focus ((with_reducible apply a0c _ _ _ 12 (by kernel_rfl) (by kernel_rfl) hS);(simp only [xl7,xl8,xm1,xm2]);(repeat' ((first|(with_reducible apply a1B);rfl;rfl;omega;omega;rfl|(with_reducible apply i9 a7);rfl;rfl|(with_reducible apply i7);rfl;(intro wd hd;replace hd:St _ _ wd _:=hd;(first|apply Ld.sc a7;rfl;(first|exact hd.blkC 0 rfl rfl|exact hd.rowCj 2 rfl (by assumption) rfl)|apply Ld.sl a7;rfl;exact hd.blkC 1 rfl rfl));rfl|(with_reducible apply x6 a7);rfl;rfl;rfl;rfl;omega;rfl)));all_goals ((with_reducible apply j9);intro w' hS';clear hS;have hS:=hS';clear hS')))
   repeat' (first|refine yDn (by with_reducible constructor) ?_|(with_reducible apply t6 hS a7 (i:=2));(iterate 4 rfl);assumption;(iterate 5 rfl);intro w' hS';simp only [List.set] at hS';clear hS;have hS:=hS';clear hS')
   rw [e1] at hS
   (focus ((with_reducible apply d8 _ _ _ (by kernel_rfl) (by kernel_rfl) hS);(repeat' ((first|(with_reducible apply i9 a7);rfl;rfl|(with_reducible apply i7);rfl;(intro wd hd;replace hd:St _ _ wd _:=hd;(first|apply Ld.sc a7;rfl;(first|exact hd.blkC 0 rfl rfl|exact hd.rowCj 2 rfl (by assumption) rfl)|apply Ld.sl a7;rfl;exact hd.blkC 1 rfl rfl));rfl|(with_reducible apply x6 a7);rfl;rfl;rfl;rfl;omega;rfl)));all_goals ((with_reducible apply j9);intro w' hS';clear hS;have hS:=hS';clear hS')))
   repeat' (first|refine yDn (by with_reducible constructor) ?_|(with_reducible apply f8);rfl;assumption)
   (refine b1M rfl ?_)
   exact ⟨rfl,by rw [xj4];exact hS.drop⟩
 ·have hlv:a2a ⟨sh,fr,sl,sps,hand,vsh,vfr,vsl,vsp⟩ e=⟨sh,fr,sl.set i (a3j (a0K sl i)),sps,hand,vsh,vfr,vsl,vsp⟩:=by unfold a2a;rw [xf1 hk,hi];rfl
  rw [hlv];obtain ⟨f,hf⟩:=j5 (l:=sl) (i:=i) (by omega);have hrf:=hsl f (xd0 hf);rw [a1z hf];have hrow:=d5 (f:=swC) hf;obtain ⟨pf,cf,rfl⟩:=hS.rowSlice 2 rfl;rw [xj4] at hS;obtain ⟨gf,rfl⟩:=hS.rowSome 2 rfl (by omega);have hd:decide (e.kind=1)=false:=xj5 hk;obtain ⟨epg,ekd,eat⟩:=e;dsimp only at hd hi hk hlv |-;subst hi;unfold swC at hrow;unfold a3j;have e1:(sl.map swC).set i (o5 [.string ⟨f.data.toArray⟩,.int .i64 f.refs] 1 [.int .i64 (f.refs - 1)])=(sl.set i ⟨f.data,f.refs - 1⟩).map swC:=by rw [xl6];rfl
  have hrow1:((sl.set i ⟨f.data,f.refs - 1⟩).map swC)[i]?=some [.string ⟨f.data.toArray⟩,.int .i64 (f.refs - 1)]:=d5 (f:=swC) (a2G (x:=(⟨f.data,f.refs - 1⟩:Sw)) hil);by_cases h0:f.refs - 1=0
  ·have hd0:decide (f.refs - 1=0)=true:=xj7 h0;rw [xf0 h0];have e2:((sl.set i ⟨f.data,f.refs - 1⟩).map swC).set i (o5 [.string ⟨f.data.toArray⟩,.int .i64 (f.refs - 1)] 0 [.string ⟨#[]⟩,.int .i64 0])=(sl.set i sw0).map swC:=by
    rw [xl6,xl6,xn0];rfl
   refine yEn Tryz.func134 Tryz.ntmps134 (by kernel_rfl) (by kernel_rfl) rfl rfl ?_
   repeat' (first|(with_reducible apply a8 a7);rfl;rfl;rfl|(with_reducible apply a9);rfl;(apply Ld.sc a7;rfl;exact hS.blkC 0 rfl rfl);rfl|refine yDn (by with_reducible constructor) ?_|(with_reducible apply f8);rfl;assumption|(with_reducible apply l9 hS);rfl;rfl;rfl;clear hS;intro g w' hS)
   (focus ((with_reducible apply a0c _ _ _ 12 (by kernel_rfl) (by kernel_rfl) hS);(simp only [xl7,xl8,xm1,xm2]);(repeat' ((first|(with_reducible apply a1B);rfl;rfl;omega;omega;rfl|(with_reducible apply i9 a7);rfl;rfl|(with_reducible apply i7);rfl;(intro wd hd;replace hd:St _ _ wd _:=hd;(first|apply Ld.sc a7;rfl;(first|exact hd.blkC 0 rfl rfl|exact hd.rowCj 3 rfl (by assumption) rfl)|apply Ld.sl a7;rfl;exact hd.blkC 1 rfl rfl));rfl|(with_reducible apply x6 a7);rfl;rfl;rfl;rfl;omega;rfl)));all_goals ((with_reducible apply j9);intro w' hS';clear hS;have hS:=hS';clear hS')))
   repeat' (first|refine yDn (by with_reducible constructor) ?_|(with_reducible apply t6 hS a7 (i:=3));(iterate 4 rfl);assumption;(iterate 5 rfl);intro w' hS';simp only [List.set] at hS';clear hS;have hS:=hS';clear hS')
   rw [e1] at hS
   (focus ((with_reducible apply d8 _ _ _ (by kernel_rfl) (by kernel_rfl) hS);(repeat' ((first|(with_reducible apply i9 a7);rfl;rfl|(with_reducible apply i7);rfl;(intro wd hd;replace hd:St _ _ wd _:=hd;(first|apply Ld.sc a7;rfl;(first|exact hd.blkC 0 rfl rfl|exact hd.rowCj 3 rfl (by assumption) rfl)|apply Ld.sl a7;rfl;exact hd.blkC 1 rfl rfl));rfl|(with_reducible apply x6 a7);rfl;rfl;rfl;rfl;omega;rfl)));all_goals ((with_reducible apply j9);intro w' hS';clear hS;have hS:=hS';clear hS')))
   repeat' (first|refine yDn (by with_reducible constructor) ?_|(with_reducible apply f6);rfl;assumption)
   (focus ((with_reducible apply a0c _ _ _ 8 (by kernel_rfl) (by kernel_rfl) hS);(simp only [xl7,xl8,xm1,xm2]);(repeat' ((first|(with_reducible apply i9 a7);rfl;rfl|(with_reducible apply i7);rfl;(intro wd hd;replace hd:St _ _ wd _:=hd;(first|apply Ld.sc a7;rfl;exact hd.blkC 0 rfl rfl|apply Ld.sl a7;rfl;exact hd.blkC 1 rfl rfl));rfl|(with_reducible apply x6 a7);rfl;rfl;rfl;rfl;omega;rfl|(with_reducible apply a1U a7);rfl;rfl;exact (rfl:_=some [_,_]);rfl)));all_goals ((with_reducible apply j9);intro w' hS';clear hS;have hS:=hS';clear hS')))
   repeat' (first|refine yDn (by with_reducible constructor) ?_|(with_reducible apply p7 hS a7 (i:=3));(iterate 4 rfl);assumption;(iterate 5 rfl);intro w' hS';simp only [List.set] at hS';clear hS;have hS:=hS';clear hS')
   rw [e2] at hS
   (refine a5Z rfl ?_)
   exact ⟨rfl,by rw [xj4];exact hS.drop⟩
  ·have hd0:decide (f.refs - 1=0)=false:=xj5 h0;rw [xf1 h0];refine yEn Tryz.func134 Tryz.ntmps134 (by kernel_rfl) (by kernel_rfl) rfl rfl ?_
   repeat' (first|(with_reducible apply a8 a7);rfl;rfl;rfl|(with_reducible apply a9);rfl;(apply Ld.sc a7;rfl;exact hS.blkC 0 rfl rfl);rfl|refine yDn (by with_reducible constructor) ?_|(with_reducible apply f8);rfl;assumption|(with_reducible apply l9 hS);rfl;rfl;rfl;clear hS;intro g w' hS)
   (focus ((with_reducible apply a0c _ _ _ 12 (by kernel_rfl) (by kernel_rfl) hS);(simp only [xl7,xl8,xm1,xm2]);(repeat' ((first|(with_reducible apply a1B);rfl;rfl;omega;omega;rfl|(with_reducible apply i9 a7);rfl;rfl|(with_reducible apply i7);rfl;(intro wd hd;replace hd:St _ _ wd _:=hd;(first|apply Ld.sc a7;rfl;(first|exact hd.blkC 0 rfl rfl|exact hd.rowCj 3 rfl (by assumption) rfl)|apply Ld.sl a7;rfl;exact hd.blkC 1 rfl rfl));rfl|(with_reducible apply x6 a7);rfl;rfl;rfl;rfl;omega;rfl)));all_goals ((with_reducible apply j9);intro w' hS';clear hS;have hS:=hS';clear hS')))
   repeat' (first|refine yDn (by with_reducible constructor) ?_|(with_reducible apply t6 hS a7 (i:=3));(iterate 4 rfl);assumption;(iterate 5 rfl);intro w' hS';simp only [List.set] at hS';clear hS;have hS:=hS';clear hS')
   rw [e1] at hS
   (focus ((with_reducible apply d8 _ _ _ (by kernel_rfl) (by kernel_rfl) hS);(repeat' ((first|(with_reducible apply i9 a7);rfl;rfl|(with_reducible apply i7);rfl;(intro wd hd;replace hd:St _ _ wd _:=hd;(first|apply Ld.sc a7;rfl;(first|exact hd.blkC 0 rfl rfl|exact hd.rowCj 3 rfl (by assumption) rfl)|apply Ld.sl a7;rfl;exact hd.blkC 1 rfl rfl));rfl|(with_reducible apply x6 a7);rfl;rfl;rfl;rfl;omega;rfl)));all_goals ((with_reducible apply j9);intro w' hS';clear hS;have hS:=hS';clear hS')))
   repeat' (first|refine yDn (by with_reducible constructor) ?_|(with_reducible apply f8);rfl;assumption)
   (refine a5Z rfl ?_)
   exact ⟨rfl,by rw [xj4];exact hS.drop⟩
def en0:En:=⟨0,0,0⟩
theorem a8Q {l:List En} {i:Nat} {h x:En} (hi:i<=l.length):(l.take i++h::l.drop i).set i x=l.take i++x::l.drop i:=by
 have hl:(l.take i).length=i:=by rw [xa1];omega
 rw [xf6 _ _ (by omega),hl,xf8];rfl
theorem b1D {l:List En} {i:Nat} {y:En} (hy:l[i]?=some y):l.take (i + 1)++y::l.drop (i + 1)=l.take i++y::l.drop i:=by
 rw [q8 hy,a3P hy,xg1];rfl
theorem b49 {l:List En} {i j:Nat} {h:En} (hj:j < i) (hi:i<=l.length):(l.take i++h::l.drop i)[j]?=l[j]?:=by
 rw [xa6 (by rw [xa1];omega),xf5,xf0 hj]
theorem a8t {F:Nat->Prop} {w0 w:World} {Γ:List Asr} {g0:Nat} {k:KV} (hS0:St F w0 w (rkS g0 k++Γ)) (hR:KRo (fps (rkS g0 k)) w k) {sp:Nat} {x:Sp} (hx:k.sp[sp]?=some x) {e':En} (hr:Rises (j8 x.s.entries)) (hl:x.s.entries.length<=1000) :
  Fn Tryz.prog 133 [a14 k.vsp (sp * 3),.agg (enC e').toArray] w (fun v w'=>v=.tuple #[]/\∃ ve',St (fps (rkS g0 k)) w w' (rkS g0 ⟨k.sh,k.fr,k.sl,k.sp.set sp ⟨⟨x.s.live,x.s.areas,putE x.s.entries e'⟩,x.va,ve'⟩,k.hand,k.vsh,k.vfr,k.vsl,k.vsp⟩)):=by
 have hS:=St.startM hS0;have hxm:=xd0 hx;have hea:=fun w1 Γ1 (h:St (fps (rkS g0 k)) w w1 (rkS g0 k++Γ1))=>a2r ((KerV.rk h hR).spv x hxm) e'.page;have hspV:=fun w1 Γ1 (h:St (fps (rkS g0 k)) w w1 (rkS g0 k++Γ1))=>(KerV.rk h hR).sp;have hix:=a44 x.s.entries e'.page;generalize a1v (fun e:En=>decide (e.page=e'.page)) x.s.entries=ix at hea hix;generalize fps (rkS g0 k)=G at hS hea hspV |-;obtain ⟨sh,fr,sl,sps,hand,vsh,vfr,vsl,vsp⟩:=k;dsimp only at hx hxm hspV |-;have hrow:=d5 (f:=spC) hx;have hspl:=c9 hx;obtain ⟨ps,cs,rfl⟩:∃ p c,vsp=.slice p sps.length c:=by
  have h2:=hS;unfold rkS a05 at h2;obtain ⟨p,c,h⟩:=h2.rowSlice 3 rfl;rw [xj4] at h;exact ⟨p,c,h⟩
 obtain ⟨gs,rfl⟩:∃ g,ps=some ⟨g,0,none⟩:=by
  have h2:=hS;unfold rkS a05 at h2;exact h2.rowSome 3 rfl (by omega)
 unfold a14;dsimp only;obtain ⟨s,va,ve⟩:=x;dsimp only at hr hl hix |-;unfold spC at hrow hea;dsimp only at hrow hea;obtain ⟨epg,ekd,eat⟩:=e';dsimp only at hea hix;unfold enC;dsimp only;rw [<- List.append_nil (rkS _ _)] at hS;refine yEn Tryz.func133 Tryz.ntmps133 (by kernel_rfl) (by kernel_rfl) rfl rfl ?_
 repeat' (first|refine yDn (by with_reducible constructor) ?_|(with_reducible apply l9 hS);rfl;rfl;rfl;clear hS;intro g w' hS)
 (focus ((with_reducible apply d8 _ _ _ (by kernel_rfl) (by kernel_rfl) hS);(repeat' (first|(first|(with_reducible apply i9 a7);rfl;rfl|(with_reducible apply i7);rfl;(intro wd hd;replace hd:St _ _ wd _:=hd;(apply Ld.sc a7;rfl;exact hd.blkC 0 rfl rfl));rfl)|(with_reducible apply i7);rfl;(intro wd hd;replace hd:St _ _ wd _:=hd;(apply Ld.st a7;rfl;exact ((hspV _ _ hd.drop).rng hrow);rfl));rfl|(with_reducible apply y0);rfl;rfl;rfl;refine ⟨_,fun wd hd=>hea _ _ hd.drop,?_⟩));all_goals ((with_reducible apply j9);intro w' hS';clear hS;have hS:=hS';clear hS')))
 (with_reducible apply a3A)
 (with_reducible apply a19)
 rename Nat=>g3
 rw [List.append_nil] at hS;unfold rkS kvC frA slA a05 at hS;dsimp only [List.cons_append,List.nil_append] at hS;replace hS:=hS.pullE 5 hx rfl;simp only [xl7,xl8,t4] at hS;unfold a0b at hS;dsimp only at hS;obtain ⟨pe,ce,rfl⟩:=hS.rowSlice 0 rfl;rw [xj4] at hS hx hrow;have hback:∀ w1 (L:List En) (v:Value),St G w w1 (.row 91 3 v (L.map enC)::.blk g3 [.int .i64 epg,.int .i64 ekd,.int .i64 eat]::.blk g0 [vsh,vfr,vsl,.slice (some ⟨gs,0,none⟩) sps.length cs,.int .i64 hand]::.row 89 4 vfr (fr.map fmC)::.row 143 2 vsl (sl.map swC)::.row 75 3 (.slice (some ⟨gs,0,none⟩) sps.length cs) ((sps.set sp ⟨s,va,v⟩).map spC)::(sps.eraseIdx sp).map a0b)->St G w w1 (rkS g0 ⟨sh,fr,sl,sps.set sp ⟨⟨s.live,s.areas,L⟩,va,v⟩,hand,vsh,vfr,vsl,.slice (some ⟨gs,0,none⟩) sps.length cs⟩):=fun w1 L v h=>by
  have h2:=(St.pushE (y:=⟨⟨s.live,s.areas,L⟩,va,v⟩) h 5 hx rfl).drop;have h3:(sps.set sp ⟨⟨s.live,s.areas,L⟩,va,v⟩).map spC=(sps.set sp ⟨s,va,v⟩).map spC:=by rw [xl6,xl6];rfl
  unfold rkS kvC frA slA a05;dsimp only;rw [h3];exact h2
 rcases hix with ⟨h0,rfl⟩|⟨i,e,h0,rfl,hi⟩
 ·have hnm:epg ∉ j8 s.entries:=a1p.1 h0;have hpu:putE s.entries ⟨epg,ekd,eat⟩=a7l s.entries ⟨epg,ekd,eat⟩:=by unfold putE;rw [xf1 hnm]
  rw [hpu]
  repeat' (first|(with_reducible apply a8 a7);rfl;rfl;rfl|(with_reducible apply l4 a7);rfl;rfl;exact (rfl:_=some [_,_,_]);rfl|refine yDn (by with_reducible constructor) ?_|(with_reducible apply f8);rfl;rfl|(with_reducible apply a0T hS a7);(iterate 7 rfl);clear hS;intro g w' hS|(with_reducible apply a9);rfl;(apply Ld.sl a7;rfl;exact hS.rowCj 5 rfl hrow rfl);rfl|(with_reducible apply a2p hS a7 1);(iterate 4 rfl);exact hS.rowRo 0 rfl;rfl;(simp only [xj4,xb1,xa2,xe9];omega);rfl;intro p' cap' w' hS';simp only [List.set] at hS';clear hS;have hS:=hS';clear hS'|(with_reducible apply t6 hS a7 (i:=6));(iterate 4 rfl);assumption;(iterate 5 rfl);intro w' hS';simp only [List.set] at hS';clear hS;have hS:=hS';clear hS')
  simp only [xj4] at hS |-;have hspE:(sps.map spC).set sp (o5 [.bool s.live,va,.slice pe s.entries.length ce] 2 [.slice p' (s.entries.length + 1) cap'])=(sps.set sp ⟨s,va,.slice p' (s.entries.length + 1) cap'⟩).map spC:=by rw [xl6];rfl
  rw [hspE] at hS;have hE0:s.entries.map enC++[[.int .i64 0,.int .i64 0,.int .i64 0]]=(s.entries.take s.entries.length++en0::s.entries.drop s.entries.length).map enC:=by rw [xg7,xl9,xm0];rfl
  rw [hE0] at hS;have hrow1:((sps.set sp ⟨s,va,.slice p' (s.entries.length + 1) cap'⟩).map spC)[sp]?=some [.bool s.live,va,.slice p' (s.entries.length + 1) cap']:=d5 (f:=spC) (a2G (x:=(⟨s,va,.slice p' (s.entries.length + 1) cap'⟩:Sp)) hspl);obtain ⟨ge,hge⟩:=hS.rowSome (p:=p') (n:=s.entries.length + 1) (cap:=cap') (sz:=3) 1 rfl (by omega);subst hge;replace hS:=hS.drop;clear hrow hE0 hspE
  repeat' (first|(with_reducible apply a8 a7);rfl;rfl;rfl|(with_reducible apply a0h);rfl;rfl;omega;omega;rfl|refine yDn (by with_reducible constructor) ?_|(with_reducible apply a9);rfl;(apply Ld.sl a7;rfl;exact hS.rowCj 5 rfl hrow1 rfl);rfl)
  have hsub:(((s.entries.length + 1:Nat):Int) - 1)=(s.entries.length:Int):=by omega
  rw [hsub];refine l5 (X:=Nat×En) (fun x=>[(4,.int .i64 (x.1:Nat))]) [0,3] rfl (fun x=>[.row 91 3 (.slice (some ⟨ge,0,none⟩) (s.entries.length + 1) cap') ((s.entries.take x.1++x.2::s.entries.drop x.1).map enC)]) (fun x=>x.1<=s.entries.length/\∀ (j:Nat) (q:Int),x.1<=j->(j8 s.entries)[j]?=some q->epg<=q) (fun x=>x.1) (s.entries.length,en0) (by exact Fr.sub_of rfl) ⟨xd4 _,fun j q hj hq=>by have:=c9 hq;unfold j8 at this;rw [xj4] at this;omega⟩ hS ?_;clear hS;rintro ⟨i,h⟩ w1 ⟨hi,hge⟩ hS;dsimp only [List.cons_append,List.nil_append] at hi hge hS |-;have hLi:(s.entries.take i++h::s.entries.drop i)[i]?=some h:=by
   rw [xa5 (by rw [xa1];omega),xa1,xk4 hi,xf8];rfl
  have hrowE:=d5 (f:=enC) hLi;have hst:((s.entries.take i++h::s.entries.drop i).map enC).set i (o5 (enC h) 0 [.int .i64 epg,.int .i64 ekd,.int .i64 eat])=(s.entries.take i++(⟨epg,ekd,eat⟩:En)::s.entries.drop i).map enC:=by
   rw [<- a8Q (h:=h) (x:=(⟨epg,ekd,eat⟩:En)) hi,xl6];exact congrArg (List.set _ _) (a3V h ⟨epg,ekd,eat⟩)
  have a1G:(∀ (j:Nat) (q:Int),j < i->(j8 s.entries)[j]?=some q->q < epg)->a7l s.entries ⟨epg,ekd,eat⟩=s.entries.take i++(⟨epg,ekd,eat⟩:En)::s.entries.drop i:=fun hlo=>by
   have hlb:lbd (j8 s.entries) epg=i:=a8u (by unfold j8;rw [xj4];exact hi) hlo (fun q hq=>hge i q (xd4 _) hq);unfold a7l;rw [hlb]
  by_cases hz:i=0
  ·subst hz;rw [a1G (fun j q hj _=>by omega)];have hd0:decide (((0:Nat):Int) < ((0:Nat):Int))=false:=rfl;simp only [xl8,xm2] at hst
   repeat' ((refine yDn (by with_reducible constructor) ?_))
   (focus ((with_reducible apply d8 _ _ _ (by kernel_rfl) (by kernel_rfl) hS);(repeat' ((first|(with_reducible apply i9 a7);rfl;rfl|(first|(with_reducible apply a2j);(iterate 4 rfl);rfl;rfl|(with_reducible apply r7);rfl;rfl;rfl;rfl))));all_goals ((with_reducible apply j9);intro w' hS';clear hS;have hS:=hS';clear hS')))
   (with_reducible apply a3A)
   (with_reducible apply a19)
   repeat' (first|refine yDn (by with_reducible constructor) ?_|(with_reducible apply f8);rfl;rfl)
   (focus ((with_reducible apply a0c _ _ _ 7 (by kernel_rfl) (by kernel_rfl) hS);(simp only [xl7,xl8,xm1,xm2]);(repeat' (first|(first|(with_reducible apply i9 a7);rfl;rfl|(with_reducible apply i7);rfl;(intro wd hd;replace hd:St _ _ wd _:=hd;(apply Ld.st a7;rfl;exact hd.blkR 1 rfl;rfl));rfl|(with_reducible apply x6 a7);rfl;rfl;rfl;rfl;omega;rfl)|(with_reducible apply i7);rfl;(intro wd hd;replace hd:St _ _ wd _:=hd;(apply Ld.sl a7;rfl;exact hd.rowCj 5 rfl hrow1 rfl));rfl));all_goals ((with_reducible apply j9);intro w' hS';clear hS;have hS:=hS';clear hS')))
   repeat' (first|refine yDn (by with_reducible constructor) ?_|(with_reducible apply p7 hS a7 (i:=0));(iterate 4 rfl);assumption;(iterate 5 rfl);intro w' hS';simp only [List.set] at hS';clear hS;have hS:=hS';clear hS')
   rw [hst] at hS
   (apply a96;repeat ((exact ResL.nil)))
   exact ⟨rfl,_,hback _ _ _ hS⟩
  ·obtain ⟨i,rfl⟩:∃ j,i=j + 1:=⟨i - 1,by omega⟩;obtain ⟨y,hy⟩:=j5 (l:=s.entries) (i:=i) (by omega);have hyL:=b49 (h:=h) (Nat.lt_succ_self i) hi;rw [hy] at hyL;have hrowY:((s.entries.take (i + 1)++h::s.entries.drop (i + 1)).map enC)[(((i + 1:Nat):Int) - 1).toNat]?=some [.int .i64 y.page,.int .i64 y.kind,.int .i64 y.at_]:=by
    rw [show (((i + 1:Nat):Int) - 1).toNat=i from by omega];exact d5 (f:=enC) hyL
   have hd1:decide (((0:Nat):Int) < ((i + 1:Nat):Int))=true:=xj7 (by omega);have hsi:(((i + 1:Nat):Int) - 1)=(i:Int):=by omega
   by_cases hlt:epg < y.page
   ·have hd2:decide (epg < y.page)=true:=xj7 hlt
    repeat' ((refine yDn (by with_reducible constructor) ?_))
    (focus ((with_reducible apply d8 _ _ _ (by kernel_rfl) (by kernel_rfl) hS);(repeat' (first|(first|(with_reducible apply a1B);rfl;rfl;omega;omega;rfl|(with_reducible apply i9 a7);rfl;rfl|(with_reducible apply i7);rfl;(intro wd hd;replace hd:St _ _ wd _:=hd;(apply Ld.sc a7;rfl;(first|exact hd.blkC 1 rfl rfl|exact hd.rowC0 0 rfl (by assumption) rfl)));rfl|(with_reducible apply x6 a7);rfl;rfl;rfl;exact xo2 (by omega);omega;rfl|(first|(with_reducible apply a0p);(iterate 4 rfl);assumption|(with_reducible apply t7);rfl;assumption;rfl;rfl))|(with_reducible apply i7);rfl;(intro wd hd;replace hd:St _ _ wd _:=hd;(apply Ld.sl a7;rfl;exact hd.rowCj 5 rfl hrow1 rfl));rfl));all_goals ((with_reducible apply j9);intro w' hS';clear hS;have hS:=hS';clear hS')))
    (with_reducible apply a3A)
    (with_reducible apply a19)
    repeat' (first|refine yDn (by with_reducible constructor) ?_|(with_reducible apply f6);rfl;assumption)
    (focus ((with_reducible apply a0c _ _ _ 14 (by kernel_rfl) (by kernel_rfl) hS);(simp only [xl7,xl8,xm1,xm2]);(repeat' (first|(first|(with_reducible apply a1B);rfl;rfl;omega;omega;rfl|(with_reducible apply i9 a7);rfl;rfl|(with_reducible apply i7);rfl;(intro wd hd;replace hd:St _ _ wd _:=hd;(apply Ld.st a7;rfl;exact hd.rowR 0 rfl (by assumption);rfl));rfl|(with_reducible apply x6 a7);rfl;rfl;rfl;(first|rfl|exact xo2 (by omega));omega;rfl)|(with_reducible apply i7);rfl;(intro wd hd;replace hd:St _ _ wd _:=hd;(apply Ld.sl a7;rfl;exact hd.rowCj 5 rfl hrow1 rfl));rfl));all_goals ((with_reducible apply j9);intro w' hS';clear hS;have hS:=hS';clear hS')))
    repeat' (first|(with_reducible apply a8 a7);rfl;rfl;rfl|(with_reducible apply a0h);rfl;rfl;omega;omega;rfl|refine yDn (by with_reducible constructor) ?_|(with_reducible apply p7 hS a7 (i:=0));(iterate 4 rfl);assumption;(iterate 5 rfl);intro w' hS';simp only [List.set] at hS';clear hS;have hS:=hS';clear hS')
    have hmv:((s.entries.take (i + 1)++h::s.entries.drop (i + 1)).map enC).set (i + 1) (o5 (enC h) 0 [.int .i64 y.page,.int .i64 y.kind,.int .i64 y.at_])=(s.entries.take i++y::s.entries.drop i).map enC:=by
     rw [<- b1D hy,<- a8Q (h:=h) (x:=y) hi,xl6];exact congrArg (List.set _ _) (a3V h y)
    rw [hmv] at hS;rw [hsi];refine e9 (i,y) (by exact Fr.sub_of rfl) ⟨by show i<=s.entries.length;omega,fun j q hj hq=>?_⟩ hS (by show i < i + 1;omega);by_cases hji:j=i
    ·subst hji;have hyp:(j8 s.entries)[j]?=some y.page:=by unfold j8;rw [xh7,hy];rfl
     rw [hyp] at hq
     cases hq
     omega
    ·exact hge j q (by show i + 1<=j;have:i<=j:=hj;omega) hq
   ·have hd2:decide (epg < y.page)=false:=xj5 hlt;have hle:y.page<=epg:=by omega
    rw [a1G (fun j q hj hq=>by
     have hne:y.page≠epg:=fun h=>hnm (xj0.2 ⟨y,xd0 hy,h⟩);have hyp:(j8 s.entries)[i]?=some y.page:=by unfold j8;rw [xh7,hy];rfl
     by_cases hji:j=i
     ·subst hji;rw [hyp] at hq
      cases hq
      omega
     ·have:=hr.at_ (show j < i by omega) hq hyp;omega)]
    repeat' ((refine yDn (by with_reducible constructor) ?_))
    (focus ((with_reducible apply d8 _ _ _ (by kernel_rfl) (by kernel_rfl) hS);(repeat' (first|(first|(with_reducible apply a1B);rfl;rfl;omega;omega;rfl|(with_reducible apply i9 a7);rfl;rfl|(with_reducible apply i7);rfl;(intro wd hd;replace hd:St _ _ wd _:=hd;(apply Ld.sc a7;rfl;(first|exact hd.blkC 1 rfl rfl|exact hd.rowC0 0 rfl (by assumption) rfl)));rfl|(with_reducible apply x6 a7);rfl;rfl;rfl;exact xo2 (by omega);omega;rfl|(first|(with_reducible apply a0p);(iterate 4 rfl);assumption|(with_reducible apply t7);rfl;assumption;rfl;rfl))|(with_reducible apply i7);rfl;(intro wd hd;replace hd:St _ _ wd _:=hd;(apply Ld.sl a7;rfl;exact hd.rowCj 5 rfl hrow1 rfl));rfl));all_goals ((with_reducible apply j9);intro w' hS';clear hS;have hS:=hS';clear hS')))
    (with_reducible apply a3A)
    (with_reducible apply a19)
    repeat' (first|refine yDn (by with_reducible constructor) ?_|(with_reducible apply f8);rfl;assumption)
    (focus ((with_reducible apply a0c _ _ _ 7 (by kernel_rfl) (by kernel_rfl) hS);(simp only [xl7,xl8,xm1,xm2]);(repeat' (first|(first|(with_reducible apply i9 a7);rfl;rfl|(with_reducible apply i7);rfl;(intro wd hd;replace hd:St _ _ wd _:=hd;(apply Ld.st a7;rfl;exact hd.blkR 1 rfl;rfl));rfl|(with_reducible apply x6 a7);rfl;rfl;rfl;rfl;omega;rfl)|(with_reducible apply i7);rfl;(intro wd hd;replace hd:St _ _ wd _:=hd;(apply Ld.sl a7;rfl;exact hd.rowCj 5 rfl hrow1 rfl));rfl));all_goals ((with_reducible apply j9);intro w' hS';clear hS;have hS:=hS';clear hS')))
    repeat' (first|refine yDn (by with_reducible constructor) ?_|(with_reducible apply p7 hS a7 (i:=0));(iterate 4 rfl);assumption;(iterate 5 rfl);intro w' hS';simp only [List.set] at hS';clear hS;have hS:=hS';clear hS')
    rw [hst] at hS
    (apply a96;repeat ((exact ResL.nil)))
    exact ⟨rfl,_,hback _ _ _ hS⟩
 ·obtain ⟨hem,hep⟩:=y6 h0;have hm:epg ∈ j8 s.entries:=xj0.2 ⟨e,hem,hep⟩;have hlb:lbd (j8 s.entries) epg=i:=b00 hr (by unfold j8;rw [xh7,hi];exact congrArg some hep);have hpu:putE s.entries ⟨epg,ekd,eat⟩=s.entries.set i ⟨epg,ekd,eat⟩:=by unfold putE;rw [xf0 hm,hlb]
  rw [hpu];have hil:=c9 hi;obtain ⟨ge,hge⟩:=hS.rowSome (p:=pe) (n:=s.entries.length) (cap:=ce) (sz:=3) 0 rfl (by omega);subst hge;have hrowE:=d5 (f:=enC) hi;have hst:(s.entries.map enC).set i (o5 (enC e) 0 [.int .i64 epg,.int .i64 ekd,.int .i64 eat])=(s.entries.set i ⟨epg,ekd,eat⟩).map enC:=by
   rw [xl6];exact congrArg (List.set _ _) (a3V e ⟨epg,ekd,eat⟩)
  have hdi:decide (((0:Nat):Int)<=((i:Nat):Int))=true:=xj7 (by omega)
  repeat' (first|(with_reducible apply a8 a7);rfl;rfl;rfl|refine yDn (by with_reducible constructor) ?_|(with_reducible apply f6);rfl;rfl)
  (focus ((with_reducible apply a0c _ _ _ 7 (by kernel_rfl) (by kernel_rfl) hS);(simp only [xl7,xl8,xm1,xm2]);(repeat' (first|(first|(with_reducible apply i9 a7);rfl;rfl|(with_reducible apply i7);rfl;(intro wd hd;replace hd:St _ _ wd _:=hd;(apply Ld.st a7;rfl;exact hd.blkR 1 rfl;rfl));rfl|(with_reducible apply x6 a7);rfl;rfl;rfl;rfl;omega;rfl)|(with_reducible apply i7);rfl;(intro wd hd;replace hd:St _ _ wd _:=hd;(apply Ld.sl a7;rfl;exact hd.rowCj 5 rfl hrow rfl));rfl));all_goals ((with_reducible apply j9);intro w' hS';clear hS;have hS:=hS';clear hS')))
  repeat' (first|refine yDn (by with_reducible constructor) ?_|(with_reducible apply p7 hS a7 (i:=0));(iterate 4 rfl);assumption;(iterate 5 rfl);intro w' hS';simp only [List.set] at hS';clear hS;have hS:=hS';clear hS')
  rw [hst] at hS
  (refine b1M rfl ?_)
  refine ⟨rfl,.slice (some ⟨ge,0,none⟩) s.entries.length ce,hback _ (s.entries.set i ⟨epg,ekd,eat⟩) _ ?_⟩;rw [a2o hx];exact hS
end Go.Proofs.YtejnpppejalhfabGreat
