/- Texts that the proof stands on, one behind the other: Ke11, PlKer4, PlRun, PlRun2. -/
import Derived.Test.YtejnpppejalhfabGreatPRestKernels7
set_option linter.unusedVariables false
set_option linter.unusedSimpArgs false
namespace Go.Proofs.YtejnpppejalhfabGreat
set_option maxRecDepth 100000
set_option maxHeartbeats 8000000
open Go.RowKit Go.Sort
theorem a3g {A:List Ar} {nf ns last:Int} {e:En} (hs:(q8 A e.page).isSome=true) (hl:last < e.page) (h:(e.kind=1/\0<=e.at_/\e.at_ < nf)\/(e.kind=2/\0<=e.at_/\e.at_ < ns)):a17 A nf ns last e=true:=by
 unfold a17;rw [hs,xq0];exact xj2 ⟨hl,h⟩
theorem a1A {A:List Ar} {nf ns last:Int} {e:En} (_hl:last < e.page) (h:¬((e.kind=1/\0<=e.at_/\e.at_ < nf)\/(e.kind=2/\0<=e.at_/\e.at_ < ns))):a17 A nf ns last e=false:=by
 unfold a17;rw [xj0 (fun hh=>h hh.2),xq8]
theorem a8H {w:World} {k:KV} {p:Sp} (hK:KerV w k) (hp:SpV w p):Fn Tryz.prog 69 [.agg (kvC k).toArray,.agg (spC p).toArray] w (RBf (.bool (t9 (shs k.sh) k.fr.length k.sl.length p.s)) w):=by
 have b2:=hK.fr.bound;have b3:=hK.sl.bound;obtain ⟨sh,fr,sl,sp,hand,vsh,vfr,vsl,vsp⟩:=k;obtain ⟨k1,k2,k3,k4,k5⟩:=hK;dsimp only at k1 k2 k3 k4 k5 b2 b3 |-;have hso:=fun w1 q (h:ShsV w1 sh vsh)=>a6T h q;obtain ⟨p1,c1,rfl⟩:=k1.sl.len;obtain ⟨p2,c2,rfl⟩:=k2.len;obtain ⟨p3,c3,rfl⟩:=k3.len;obtain ⟨p4,c4,rfl⟩:=k4.len;obtain ⟨s,va,ve⟩:=p;obtain ⟨live,A,es⟩:=s;have har:=hp.ar;have hen:=hp.en;dsimp only at har hen;have bA:=har.bound;have bE:=hen.bound;obtain ⟨pa,ca,rfl⟩:=har.len;obtain ⟨pe,ce,rfl⟩:=hen.len;unfold kvC spC t9;dsimp only
 cases live with
 |false=>
  simp only [xp0,if_false];by_cases hA:A.length=0
  ·have hd:decide ((A.length:Int)=0)=true:=xj2 (by omega);refine yEn Tryz.func69 Tryz.ntmps69 (by kernel_rfl) (by kernel_rfl) rfl rfl ?_;have hS:=St.start w
   repeat' (first|(with_reducible apply a8 a7);rfl;rfl;rfl|(with_reducible apply a9);rfl;(first|apply Ld.sc a7;rfl;exact hS.blkC 0 rfl rfl|apply Ld.sl a7;rfl;exact hS.blkC 0 rfl rfl);rfl|refine yDn (by with_reducible constructor) ?_|(with_reducible apply k8);(iterate 4 rfl);assumption|(with_reducible apply j3);rfl;assumption;rfl;rfl|(with_reducible apply f6);rfl;rfl|(with_reducible apply l8 hS);rfl;rfl;rfl;clear hS;intro g w' hS)
   (refine k7 rfl ?_)
   refine ⟨?_,hS.sub (xj1 _)⟩
   congr 1
   refine xo2.2 ⟨fun h=>⟨xf3 hA,xf3 (by omega)⟩,fun h=>by rw [h.2];rfl⟩
  ·have hd:decide ((A.length:Int)=0)=false:=xj0 (by omega);refine yEn Tryz.func69 Tryz.ntmps69 (by kernel_rfl) (by kernel_rfl) rfl rfl ?_;have hS:=St.start w
   repeat' (first|(with_reducible apply a8 a7);rfl;rfl;rfl|(with_reducible apply a9);rfl;(first|apply Ld.sc a7;rfl;exact hS.blkC 0 rfl rfl|apply Ld.sl a7;rfl;exact hS.blkC 0 rfl rfl);rfl|refine yDn (by with_reducible constructor) ?_|(with_reducible apply x8);(iterate 4 rfl);assumption;rfl|(with_reducible apply f5);rfl;assumption;rfl;rfl|(with_reducible apply f6);rfl;rfl|(with_reducible apply l8 hS);rfl;rfl;rfl;clear hS;intro g w' hS)
   (refine k7 rfl ?_)
   refine ⟨?_,hS.sub (xj1 _)⟩;rw [xj0 (fun h=>hA (by rw [h.1];rfl))]
 |true=>
  simp only [if_true];have hchk:=fun w1 (h:Sl nF w1 4 (.slice pa A.length ca) (A.map arC))=>a7o h;by_cases hc:l5 A=0;rotate_left
  ·have hd:(!decide (l5 A=0))=true:=by rw [xj0 hc];rfl
   rw [xj0 hc,xq1];refine yEn Tryz.func69 Tryz.ntmps69 (by kernel_rfl) (by kernel_rfl) rfl rfl ?_;have hS:=St.start w
   repeat' (first|(with_reducible apply a8 a7);rfl;rfl;rfl|(with_reducible apply a9);rfl;(first|apply Ld.sc a7;rfl;exact hS.blkC 0 rfl rfl|apply Ld.sl a7;rfl;exact hS.blkC 0 rfl rfl);rfl|refine yDn (by with_reducible constructor) ?_|(with_reducible apply f6);rfl;assumption|(with_reducible apply f8);rfl;rfl|(with_reducible apply l8 hS);rfl;rfl;rfl;clear hS;intro g w' hS|(with_reducible apply d7 hS);rfl;rfl;rfl;refine ⟨_,hchk _ (har.now hS),?_⟩;clear hS;intro w' hS)
   (refine k7 rfl ?_)
   exact ⟨rfl,hS.sub (xj1 _)⟩
  have hd:(!decide (l5 A=0))=false:=by rw [xj2 hc];rfl
  obtain ⟨hAl,hgood⟩:=x7.1 hc;have hok:=a0X hgood;rw [xj2 hc,xq0];refine yEn Tryz.func69 Tryz.ntmps69 (by kernel_rfl) (by kernel_rfl) rfl rfl ?_;have hS:=St.start w
  repeat' (first|(with_reducible apply a8 a7);rfl;rfl;rfl|(with_reducible apply a9);rfl;(first|apply Ld.sc a7;rfl;exact hS.blkC 0 rfl rfl|apply Ld.sl a7;rfl;exact hS.blkC 0 rfl rfl);rfl|refine yDn (by with_reducible constructor) ?_|((with_reducible apply f8);rfl;first|rfl|assumption)|(with_reducible apply l8 hS);rfl;rfl;rfl;clear hS;intro g w' hS|(with_reducible apply d7 hS);rfl;rfl;rfl;refine ⟨_,hchk _ (har.now hS),?_⟩;clear hS;intro w' hS)
  refine k9 (X:=Nat×Int) (fun x=>[(5,.int .i64 (x.1:Nat))]) [2,3] rfl (fun _=>[]) (fun x=>x.1<=es.length/\((x.1=0/\x.2=0)\/(0 < x.1/\∃ y,es[x.1 - 1]?=some y/\x.2=y.page))/\a1y A fr.length sl.length 0 es=a1y A fr.length sl.length x.2 (es.drop x.1)) (fun x=>es.length - x.1) (0,0) (by exact Fr.sub_of rfl) ⟨xg4 _,xd6 ⟨rfl,rfl⟩,by simp⟩ hS ?_;clear hS;rintro ⟨i,last⟩ w1 ⟨hi,hlast,hents⟩ hS;dsimp only [List.cons_append,List.nil_append] at hi hlast hents hS |-;by_cases hlt:i < es.length
  ·obtain ⟨e,he⟩:=j0 (l:=es) (i:=i) (by omega);have hrow:=c9 (f:=enC) he;obtain ⟨b,off,rfl,hro⟩:=hen.at_ (i:=i) hlt;unfold enC at hrow;have haa:=fun w1 (h:Sl nF w1 4 (.slice pa A.length ca) (A.map arC))=>a3X e.page h hok;unfold a3j arC at haa;have hstep:=a75 (A:=A) (nf:=fr.length) (ns:=sl.length) (last:=last) he;rw [hstep] at hents;rw [hents]
   cases hsm:(q8 A e.page).isSome with
   |false=>
    rw [hsm] at haa;have hE:a17 A fr.length sl.length last e=false:=by unfold a17;rw [hsm,xq1]
    rw [hE,xq1,xq8]
    repeat' (first|(with_reducible apply a8 a7);rfl;rfl;rfl|(with_reducible apply a9);rfl;(first|apply Ld.sc a7;rfl;exact hS.blkC 0 rfl rfl|apply Ld.sl a7;rfl;(first|exact hS.blkC 0 rfl rfl|exact hS.blkC 1 rfl rfl)|apply Ld.st a7;rfl;exact hS.roR (by assumption) (by assumption);rfl);rfl|(with_reducible apply l7 a7);rfl;rfl;rfl;rfl;omega;rfl|refine yDn (by with_reducible constructor) ?_|(with_reducible apply d8 hS a7);rfl;rfl;rfl;clear hS;intro g w' hS|(with_reducible apply b8 hS a7 (i:=0));(iterate 8 rfl);(first|exact (rfl:_=[_,_,_])|exact (rfl:_=[_,_,_,_]));clear hS;intro w' hS;simp only [List.set] at hS|(with_reducible apply b9);rfl;all_goals (intro hb hp;try (exfalso;omega))|(with_reducible apply d7 hS);rfl;rfl;rfl;refine ⟨_,haa _ (har.now hS),?_⟩;clear hS;intro w' hS)
    (focus ((with_reducible apply d9 _ _ _ (by kernel_rfl) (by kernel_rfl) hS);(repeat' ((first|(with_reducible apply i7 a7);rfl;rfl|(first|(with_reducible apply a14);(iterate 4 rfl);rfl;rfl|(with_reducible apply a2G);(iterate 5 rfl)|(with_reducible apply t7);rfl;rfl;rfl;rfl))));all_goals ((with_reducible apply j7);intro w' hS';clear hS;have hS:=hS';clear hS')))
    repeat' (first|(with_reducible apply a8 a7);rfl;rfl;rfl|refine yDn (by with_reducible constructor) ?_|(with_reducible apply f6);rfl;rfl)
    (refine k7 rfl ?_)
    exact ⟨rfl,hS.sub (xj1 _)⟩
   |true=>
    rw [hsm] at haa;have hpos:=a6z hc hsm;obtain ⟨a,hag⟩:∃ a,(q8 A e.page).getD a2L=a:=⟨_,rfl⟩;rw [hag] at haa;rcases hlast with ⟨hi0,rfl⟩|⟨hi0,y,hy,rfl⟩
    ·have hl:(0:Int) < e.page:=hpos;by_cases k1':e.kind=1
     ·by_cases r:0<=e.at_/\e.at_<=(fr.length:Int) - 1
      ·have hE:=a3g (A:=A) (nf:=fr.length) (ns:=sl.length) hsm hl (xd6 ⟨k1',by omega,by omega⟩);rw [hE,xq0]
       repeat' (first|(with_reducible apply a8 a7);rfl;rfl;rfl|(with_reducible apply a9);rfl;(first|apply Ld.sc a7;rfl;exact hS.blkC 0 rfl rfl|apply Ld.sl a7;rfl;(first|exact hS.blkC 0 rfl rfl|exact hS.blkC 1 rfl rfl)|apply Ld.st a7;rfl;exact hS.roR (by assumption) (by assumption);rfl);rfl|(with_reducible apply l7 a7);rfl;rfl;rfl;rfl;omega;rfl|refine yDn (by with_reducible constructor) ?_|(with_reducible apply d8 hS a7);rfl;rfl;rfl;clear hS;intro g w' hS|(with_reducible apply b8 hS a7 (i:=0));(iterate 8 rfl);(first|exact (rfl:_=[_,_,_])|exact (rfl:_=[_,_,_,_]));clear hS;intro w' hS;simp only [List.set] at hS|(with_reducible apply b9);rfl;all_goals (intro hb hp;try (exfalso;omega))|(with_reducible apply d7 hS);rfl;rfl;rfl;refine ⟨_,haa _ (har.now hS),?_⟩;clear hS;intro w' hS)
       (focus ((with_reducible apply d9 _ _ _ (by kernel_rfl) (by kernel_rfl) hS);(repeat' ((first|(with_reducible apply i7 a7);rfl;rfl|(first|(with_reducible apply a0t);(iterate 4 rfl);rfl|(with_reducible apply a14);(iterate 4 rfl);assumption;rfl|(with_reducible apply a0F);rfl;rfl;rfl;all_goals (intro hb hp;try (exfalso;omega))|(with_reducible apply r7);rfl;(first|rfl|assumption);rfl;rfl))));all_goals ((with_reducible apply j7);intro w' hS';clear hS;have hS:=hS';clear hS')))
       repeat' (first|(with_reducible apply a8 a7);rfl;rfl;rfl|(with_reducible apply a9);rfl;(first|apply Ld.sc a7;rfl;exact hS.blkC 1 rfl rfl|apply Ld.sl a7;rfl;exact hS.blkC 3 rfl rfl);rfl|(with_reducible apply j4);rfl;rfl;omega;omega;rfl|(with_reducible apply a0m);rfl;rfl;omega;omega;rfl|refine yDn (by with_reducible constructor) ?_|(with_reducible apply f8);rfl;rfl|(with_reducible apply b9);rfl;all_goals (intro hb hp;try (exfalso;omega))|(with_reducible apply a08);rfl;all_goals (intro hb hp;try (exfalso;omega))|(with_reducible apply d7 hS);rfl;rfl;rfl;refine ⟨_,p7 _ _ _ _,?_⟩;clear hS;intro w' hS)
       exact e9 (i + 1,e.page) (by exact Fr.sub_of rfl) ⟨by show i + 1<=es.length;omega,xd3 ⟨by show 0 < i + 1;omega,_,he,rfl⟩,rfl⟩ hS.drop.drop (by show es.length - (i + 1) < es.length - i;omega)
      ·have hE:=a1A (A:=A) (nf:=fr.length) (ns:=sl.length) hl (fun h:(e.kind=1/\0<=e.at_/\e.at_ < (fr.length:Int))\/(e.kind=2/\0<=e.at_/\e.at_ < (sl.length:Int))=>by omega);rw [hE,xq1,xq8]
       repeat' (first|(with_reducible apply a8 a7);rfl;rfl;rfl|(with_reducible apply a9);rfl;(first|apply Ld.sc a7;rfl;exact hS.blkC 0 rfl rfl|apply Ld.sl a7;rfl;(first|exact hS.blkC 0 rfl rfl|exact hS.blkC 1 rfl rfl)|apply Ld.st a7;rfl;exact hS.roR (by assumption) (by assumption);rfl);rfl|(with_reducible apply l7 a7);rfl;rfl;rfl;rfl;omega;rfl|refine yDn (by with_reducible constructor) ?_|(with_reducible apply d8 hS a7);rfl;rfl;rfl;clear hS;intro g w' hS|(with_reducible apply b8 hS a7 (i:=0));(iterate 8 rfl);(first|exact (rfl:_=[_,_,_])|exact (rfl:_=[_,_,_,_]));clear hS;intro w' hS;simp only [List.set] at hS|(with_reducible apply b9);rfl;all_goals (intro hb hp;try (exfalso;omega))|(with_reducible apply d7 hS);rfl;rfl;rfl;refine ⟨_,haa _ (har.now hS),?_⟩;clear hS;intro w' hS)
       (focus ((with_reducible apply d9 _ _ _ (by kernel_rfl) (by kernel_rfl) hS);(repeat' ((first|(with_reducible apply i7 a7);rfl;rfl|(first|(with_reducible apply a0t);(iterate 4 rfl);rfl|(with_reducible apply a14);(iterate 4 rfl);assumption;rfl|(with_reducible apply a0F);rfl;rfl;rfl;all_goals (intro hb hp;try (exfalso;omega))|(with_reducible apply r7);rfl;(first|rfl|assumption);rfl;rfl))));all_goals ((with_reducible apply j7);intro w' hS';clear hS;have hS:=hS';clear hS')))
       repeat' (first|(with_reducible apply a8 a7);rfl;rfl;rfl|(with_reducible apply a9);rfl;(first|apply Ld.sc a7;rfl;exact hS.blkC 1 rfl rfl|apply Ld.sl a7;rfl;exact hS.blkC 3 rfl rfl);rfl|(with_reducible apply a0m);rfl;rfl;omega;omega;rfl|refine yDn (by with_reducible constructor) ?_|(with_reducible apply f8);rfl;rfl|(with_reducible apply b9);rfl;all_goals (intro hb hp;try (exfalso;omega))|(with_reducible apply a08);rfl;all_goals (intro hb hp;try (exfalso;omega))|(with_reducible apply d7 hS);rfl;rfl;rfl;refine ⟨_,p7 _ _ _ _,?_⟩;clear hS;intro w' hS)
       (refine k7 rfl ?_)
       exact ⟨rfl,hS.sub (xj1 _)⟩
     ·by_cases k2':e.kind=2
      ·by_cases r:0<=e.at_/\e.at_<=(sl.length:Int) - 1
       ·have hE:=a3g (A:=A) (nf:=fr.length) (ns:=sl.length) hsm hl (xd3 ⟨k2',by omega,by omega⟩);rw [hE,xq0]
        repeat' (first|(with_reducible apply a8 a7);rfl;rfl;rfl|(with_reducible apply a9);rfl;(first|apply Ld.sc a7;rfl;exact hS.blkC 0 rfl rfl|apply Ld.sl a7;rfl;(first|exact hS.blkC 0 rfl rfl|exact hS.blkC 1 rfl rfl)|apply Ld.st a7;rfl;exact hS.roR (by assumption) (by assumption);rfl);rfl|(with_reducible apply l7 a7);rfl;rfl;rfl;rfl;omega;rfl|refine yDn (by with_reducible constructor) ?_|(with_reducible apply d8 hS a7);rfl;rfl;rfl;clear hS;intro g w' hS|(with_reducible apply b8 hS a7 (i:=0));(iterate 8 rfl);(first|exact (rfl:_=[_,_,_])|exact (rfl:_=[_,_,_,_]));clear hS;intro w' hS;simp only [List.set] at hS|(with_reducible apply b9);rfl;all_goals (intro hb hp;try (exfalso;omega))|(with_reducible apply d7 hS);rfl;rfl;rfl;refine ⟨_,haa _ (har.now hS),?_⟩;clear hS;intro w' hS)
        (focus ((with_reducible apply d9 _ _ _ (by kernel_rfl) (by kernel_rfl) hS);(repeat' ((first|(with_reducible apply i7 a7);rfl;rfl|(first|(with_reducible apply a0t);(iterate 4 rfl);rfl|(with_reducible apply a14);(iterate 4 rfl);assumption;rfl|(with_reducible apply a0F);rfl;rfl;rfl;all_goals (intro hb hp;try (exfalso;omega))|(with_reducible apply r7);rfl;(first|rfl|assumption);rfl;rfl))));all_goals ((with_reducible apply j7);intro w' hS';clear hS;have hS:=hS';clear hS')))
        repeat' (first|(with_reducible apply a8 a7);rfl;rfl;rfl|(with_reducible apply a9);rfl;(first|apply Ld.sc a7;rfl;exact hS.blkC 1 rfl rfl|apply Ld.sl a7;rfl;exact hS.blkC 3 rfl rfl);rfl|(with_reducible apply j4);rfl;rfl;omega;omega;rfl|(with_reducible apply a0m);rfl;rfl;omega;omega;rfl|refine yDn (by with_reducible constructor) ?_|(with_reducible apply f8);rfl;rfl|(with_reducible apply b9);rfl;all_goals (intro hb hp;try (exfalso;omega))|(with_reducible apply a08);rfl;all_goals (intro hb hp;try (exfalso;omega))|(with_reducible apply d7 hS);rfl;rfl;rfl;refine ⟨_,p7 _ _ _ _,?_⟩;clear hS;intro w' hS)
        exact e9 (i + 1,e.page) (by exact Fr.sub_of rfl) ⟨by show i + 1<=es.length;omega,xd3 ⟨by show 0 < i + 1;omega,_,he,rfl⟩,rfl⟩ hS.drop.drop (by show es.length - (i + 1) < es.length - i;omega)
       ·have hE:=a1A (A:=A) (nf:=fr.length) (ns:=sl.length) hl (fun h:(e.kind=1/\0<=e.at_/\e.at_ < (fr.length:Int))\/(e.kind=2/\0<=e.at_/\e.at_ < (sl.length:Int))=>by omega);rw [hE,xq1,xq8]
        repeat' (first|(with_reducible apply a8 a7);rfl;rfl;rfl|(with_reducible apply a9);rfl;(first|apply Ld.sc a7;rfl;exact hS.blkC 0 rfl rfl|apply Ld.sl a7;rfl;(first|exact hS.blkC 0 rfl rfl|exact hS.blkC 1 rfl rfl)|apply Ld.st a7;rfl;exact hS.roR (by assumption) (by assumption);rfl);rfl|(with_reducible apply l7 a7);rfl;rfl;rfl;rfl;omega;rfl|refine yDn (by with_reducible constructor) ?_|(with_reducible apply d8 hS a7);rfl;rfl;rfl;clear hS;intro g w' hS|(with_reducible apply b8 hS a7 (i:=0));(iterate 8 rfl);(first|exact (rfl:_=[_,_,_])|exact (rfl:_=[_,_,_,_]));clear hS;intro w' hS;simp only [List.set] at hS|(with_reducible apply b9);rfl;all_goals (intro hb hp;try (exfalso;omega))|(with_reducible apply d7 hS);rfl;rfl;rfl;refine ⟨_,haa _ (har.now hS),?_⟩;clear hS;intro w' hS)
        (focus ((with_reducible apply d9 _ _ _ (by kernel_rfl) (by kernel_rfl) hS);(repeat' ((first|(with_reducible apply i7 a7);rfl;rfl|(first|(with_reducible apply a0t);(iterate 4 rfl);rfl|(with_reducible apply a14);(iterate 4 rfl);assumption;rfl|(with_reducible apply a0F);rfl;rfl;rfl;all_goals (intro hb hp;try (exfalso;omega))|(with_reducible apply r7);rfl;(first|rfl|assumption);rfl;rfl))));all_goals ((with_reducible apply j7);intro w' hS';clear hS;have hS:=hS';clear hS')))
        repeat' (first|(with_reducible apply a8 a7);rfl;rfl;rfl|(with_reducible apply a9);rfl;(first|apply Ld.sc a7;rfl;exact hS.blkC 1 rfl rfl|apply Ld.sl a7;rfl;exact hS.blkC 3 rfl rfl);rfl|(with_reducible apply a0m);rfl;rfl;omega;omega;rfl|refine yDn (by with_reducible constructor) ?_|(with_reducible apply f8);rfl;rfl|(with_reducible apply b9);rfl;all_goals (intro hb hp;try (exfalso;omega))|(with_reducible apply a08);rfl;all_goals (intro hb hp;try (exfalso;omega))|(with_reducible apply d7 hS);rfl;rfl;rfl;refine ⟨_,p7 _ _ _ _,?_⟩;clear hS;intro w' hS)
        (refine k7 rfl ?_)
        exact ⟨rfl,hS.sub (xj1 _)⟩
      ·have hE:=a1A (A:=A) (nf:=fr.length) (ns:=sl.length) hl (fun h:(e.kind=1/\0<=e.at_/\e.at_ < (fr.length:Int))\/(e.kind=2/\0<=e.at_/\e.at_ < (sl.length:Int))=>by omega);rw [hE,xq1,xq8]
       repeat' (first|(with_reducible apply a8 a7);rfl;rfl;rfl|(with_reducible apply a9);rfl;(first|apply Ld.sc a7;rfl;exact hS.blkC 0 rfl rfl|apply Ld.sl a7;rfl;(first|exact hS.blkC 0 rfl rfl|exact hS.blkC 1 rfl rfl)|apply Ld.st a7;rfl;exact hS.roR (by assumption) (by assumption);rfl);rfl|(with_reducible apply l7 a7);rfl;rfl;rfl;rfl;omega;rfl|refine yDn (by with_reducible constructor) ?_|(with_reducible apply d8 hS a7);rfl;rfl;rfl;clear hS;intro g w' hS|(with_reducible apply b8 hS a7 (i:=0));(iterate 8 rfl);(first|exact (rfl:_=[_,_,_])|exact (rfl:_=[_,_,_,_]));clear hS;intro w' hS;simp only [List.set] at hS|(with_reducible apply b9);rfl;all_goals (intro hb hp;try (exfalso;omega))|(with_reducible apply d7 hS);rfl;rfl;rfl;refine ⟨_,haa _ (har.now hS),?_⟩;clear hS;intro w' hS)
       (focus ((with_reducible apply d9 _ _ _ (by kernel_rfl) (by kernel_rfl) hS);(repeat' ((first|(with_reducible apply i7 a7);rfl;rfl|(first|(with_reducible apply a0t);(iterate 4 rfl);rfl|(with_reducible apply a14);(iterate 4 rfl);assumption;rfl|(with_reducible apply a0F);rfl;rfl;rfl;all_goals (intro hb hp;try (exfalso;omega))|(with_reducible apply r7);rfl;(first|rfl|assumption);rfl;rfl))));all_goals ((with_reducible apply j7);intro w' hS';clear hS;have hS:=hS';clear hS')))
       repeat' (first|(with_reducible apply a8 a7);rfl;rfl;rfl|(with_reducible apply a9);rfl;(apply Ld.sc a7;rfl;exact hS.blkC 1 rfl rfl);rfl|refine yDn (by with_reducible constructor) ?_|(with_reducible apply f6);rfl;rfl|(with_reducible apply f8);rfl;rfl|(with_reducible apply b9);rfl;all_goals (intro hb hp;try (exfalso;omega)))
       (refine k7 rfl ?_)
       exact ⟨rfl,hS.sub (xj1 _)⟩
    ·have e1:((i:Int) - 1).toNat=i - 1:=by omega
     have hrow2:(es.map fun (e:En)=>[Value.int .i64 e.page,Value.int .i64 e.kind,Value.int .i64 e.at_])[((i:Int) - 1).toNat]?=some [.int .i64 y.page,.int .i64 y.kind,.int .i64 y.at_]:=by rw [e1];exact c9 (f:=enC) hy
     by_cases hl:y.page < e.page
     ·by_cases k1':e.kind=1
      ·by_cases r:0<=e.at_/\e.at_<=(fr.length:Int) - 1
       ·have hE:=a3g (A:=A) (nf:=fr.length) (ns:=sl.length) hsm hl (xd6 ⟨k1',by omega,by omega⟩);rw [hE,xq0]
        repeat' (first|(with_reducible apply a8 a7);rfl;rfl;rfl|(with_reducible apply a9);rfl;(first|apply Ld.sc a7;rfl;exact hS.blkC 0 rfl rfl|apply Ld.sl a7;rfl;(first|exact hS.blkC 0 rfl rfl|exact hS.blkC 1 rfl rfl)|apply Ld.st a7;rfl;exact hS.roR (by assumption) (by assumption);rfl);rfl|(with_reducible apply l7 a7);rfl;rfl;rfl;rfl;omega;rfl|refine yDn (by with_reducible constructor) ?_|(with_reducible apply d8 hS a7);rfl;rfl;rfl;clear hS;intro g w' hS|(with_reducible apply b8 hS a7 (i:=0));(iterate 8 rfl);(first|exact (rfl:_=[_,_,_])|exact (rfl:_=[_,_,_,_]));clear hS;intro w' hS;simp only [List.set] at hS|(with_reducible apply b9);rfl;all_goals (intro hb hp;try (exfalso;omega))|(with_reducible apply d7 hS);rfl;rfl;rfl;refine ⟨_,haa _ (har.now hS),?_⟩;clear hS;intro w' hS)
        (focus ((with_reducible apply d9 _ _ _ (by kernel_rfl) (by kernel_rfl) hS);(repeat' ((first|(with_reducible apply a1C);rfl;rfl;omega;omega;rfl|(with_reducible apply i7 a7);rfl;rfl|(with_reducible apply i9);rfl;(intro wd hd;replace hd:St _ _ wd _:=hd;(first|apply Ld.sc a7;rfl;(first|exact hd.blkC 1 rfl rfl|exact hd.roC0 (by assumption) (by assumption) rfl)|apply Ld.sl a7;rfl;exact hd.blkC 2 rfl rfl));rfl|(with_reducible apply y8 a7);rfl;rfl;rfl;exact xn8 (by omega);omega;rfl|(first|((with_reducible apply a0t);(iterate 4 rfl);first|rfl|assumption)|(with_reducible apply a0F);rfl;rfl;rfl;all_goals (intro hb hp;try (exfalso;omega))|(with_reducible apply t7);rfl;assumption;rfl;rfl|(with_reducible apply r7);rfl;rfl;rfl;rfl))));all_goals ((with_reducible apply j7);intro w' hS';clear hS;have hS:=hS';clear hS')))
        repeat' (first|(with_reducible apply a8 a7);rfl;rfl;rfl|(with_reducible apply a9);rfl;(first|apply Ld.sc a7;rfl;exact hS.blkC 1 rfl rfl|apply Ld.sl a7;rfl;exact hS.blkC 3 rfl rfl);rfl|(with_reducible apply j4);rfl;rfl;omega;omega;rfl|(with_reducible apply a0m);rfl;rfl;omega;omega;rfl|refine yDn (by with_reducible constructor) ?_|(with_reducible apply b9);rfl;all_goals (intro hb hp;try (exfalso;omega))|(with_reducible apply a08);rfl;all_goals (intro hb hp;try (exfalso;omega))|(with_reducible apply d7 hS);rfl;rfl;rfl;refine ⟨_,p7 _ _ _ _,?_⟩;clear hS;intro w' hS)
        exact e9 (i + 1,e.page) (by exact Fr.sub_of rfl) ⟨by show i + 1<=es.length;omega,xd3 ⟨by show 0 < i + 1;omega,_,he,rfl⟩,rfl⟩ hS.drop.drop (by show es.length - (i + 1) < es.length - i;omega)
       ·have hE:=a1A (A:=A) (nf:=fr.length) (ns:=sl.length) hl (fun h:(e.kind=1/\0<=e.at_/\e.at_ < (fr.length:Int))\/(e.kind=2/\0<=e.at_/\e.at_ < (sl.length:Int))=>by omega);rw [hE,xq1,xq8]
        repeat' (first|(with_reducible apply a8 a7);rfl;rfl;rfl|(with_reducible apply a9);rfl;(first|apply Ld.sc a7;rfl;exact hS.blkC 0 rfl rfl|apply Ld.sl a7;rfl;(first|exact hS.blkC 0 rfl rfl|exact hS.blkC 1 rfl rfl)|apply Ld.st a7;rfl;exact hS.roR (by assumption) (by assumption);rfl);rfl|(with_reducible apply l7 a7);rfl;rfl;rfl;rfl;omega;rfl|refine yDn (by with_reducible constructor) ?_|(with_reducible apply d8 hS a7);rfl;rfl;rfl;clear hS;intro g w' hS|(with_reducible apply b8 hS a7 (i:=0));(iterate 8 rfl);(first|exact (rfl:_=[_,_,_])|exact (rfl:_=[_,_,_,_]));clear hS;intro w' hS;simp only [List.set] at hS|(with_reducible apply b9);rfl;all_goals (intro hb hp;try (exfalso;omega))|(with_reducible apply d7 hS);rfl;rfl;rfl;refine ⟨_,haa _ (har.now hS),?_⟩;clear hS;intro w' hS)
        (focus ((with_reducible apply d9 _ _ _ (by kernel_rfl) (by kernel_rfl) hS);(repeat' ((first|(with_reducible apply a1C);rfl;rfl;omega;omega;rfl|(with_reducible apply i7 a7);rfl;rfl|(with_reducible apply i9);rfl;(intro wd hd;replace hd:St _ _ wd _:=hd;(first|apply Ld.sc a7;rfl;(first|exact hd.blkC 1 rfl rfl|exact hd.roC0 (by assumption) (by assumption) rfl)|apply Ld.sl a7;rfl;exact hd.blkC 2 rfl rfl));rfl|(with_reducible apply y8 a7);rfl;rfl;rfl;exact xn8 (by omega);omega;rfl|(first|((with_reducible apply a0t);(iterate 4 rfl);first|rfl|assumption)|(with_reducible apply a0F);rfl;rfl;rfl;all_goals (intro hb hp;try (exfalso;omega))|(with_reducible apply t7);rfl;assumption;rfl;rfl|(with_reducible apply r7);rfl;rfl;rfl;rfl))));all_goals ((with_reducible apply j7);intro w' hS';clear hS;have hS:=hS';clear hS')))
        repeat' (first|(with_reducible apply a8 a7);rfl;rfl;rfl|(with_reducible apply a9);rfl;(first|apply Ld.sc a7;rfl;exact hS.blkC 1 rfl rfl|apply Ld.sl a7;rfl;exact hS.blkC 3 rfl rfl);rfl|(with_reducible apply a0m);rfl;rfl;omega;omega;rfl|refine yDn (by with_reducible constructor) ?_|(with_reducible apply b9);rfl;all_goals (intro hb hp;try (exfalso;omega))|(with_reducible apply a08);rfl;all_goals (intro hb hp;try (exfalso;omega))|(with_reducible apply d7 hS);rfl;rfl;rfl;refine ⟨_,p7 _ _ _ _,?_⟩;clear hS;intro w' hS)
        (refine k7 rfl ?_)
        exact ⟨rfl,hS.sub (xj1 _)⟩
      ·by_cases k2':e.kind=2
       ·by_cases r:0<=e.at_/\e.at_<=(sl.length:Int) - 1
        ·have hE:=a3g (A:=A) (nf:=fr.length) (ns:=sl.length) hsm hl (xd3 ⟨k2',by omega,by omega⟩);rw [hE,xq0]
         repeat' (first|(with_reducible apply a8 a7);rfl;rfl;rfl|(with_reducible apply a9);rfl;(first|apply Ld.sc a7;rfl;exact hS.blkC 0 rfl rfl|apply Ld.sl a7;rfl;(first|exact hS.blkC 0 rfl rfl|exact hS.blkC 1 rfl rfl)|apply Ld.st a7;rfl;exact hS.roR (by assumption) (by assumption);rfl);rfl|(with_reducible apply l7 a7);rfl;rfl;rfl;rfl;omega;rfl|refine yDn (by with_reducible constructor) ?_|(with_reducible apply d8 hS a7);rfl;rfl;rfl;clear hS;intro g w' hS|(with_reducible apply b8 hS a7 (i:=0));(iterate 8 rfl);(first|exact (rfl:_=[_,_,_])|exact (rfl:_=[_,_,_,_]));clear hS;intro w' hS;simp only [List.set] at hS|(with_reducible apply b9);rfl;all_goals (intro hb hp;try (exfalso;omega))|(with_reducible apply d7 hS);rfl;rfl;rfl;refine ⟨_,haa _ (har.now hS),?_⟩;clear hS;intro w' hS)
         (focus ((with_reducible apply d9 _ _ _ (by kernel_rfl) (by kernel_rfl) hS);(repeat' ((first|(with_reducible apply a1C);rfl;rfl;omega;omega;rfl|(with_reducible apply i7 a7);rfl;rfl|(with_reducible apply i9);rfl;(intro wd hd;replace hd:St _ _ wd _:=hd;(first|apply Ld.sc a7;rfl;(first|exact hd.blkC 1 rfl rfl|exact hd.roC0 (by assumption) (by assumption) rfl)|apply Ld.sl a7;rfl;exact hd.blkC 2 rfl rfl));rfl|(with_reducible apply y8 a7);rfl;rfl;rfl;exact xn8 (by omega);omega;rfl|(first|((with_reducible apply a0t);(iterate 4 rfl);first|rfl|assumption)|(with_reducible apply a0F);rfl;rfl;rfl;all_goals (intro hb hp;try (exfalso;omega))|(with_reducible apply t7);rfl;assumption;rfl;rfl|(with_reducible apply r7);rfl;rfl;rfl;rfl))));all_goals ((with_reducible apply j7);intro w' hS';clear hS;have hS:=hS';clear hS')))
         repeat' (first|(with_reducible apply a8 a7);rfl;rfl;rfl|(with_reducible apply a9);rfl;(first|apply Ld.sc a7;rfl;exact hS.blkC 1 rfl rfl|apply Ld.sl a7;rfl;exact hS.blkC 3 rfl rfl);rfl|(with_reducible apply j4);rfl;rfl;omega;omega;rfl|(with_reducible apply a0m);rfl;rfl;omega;omega;rfl|refine yDn (by with_reducible constructor) ?_|(with_reducible apply b9);rfl;all_goals (intro hb hp;try (exfalso;omega))|(with_reducible apply a08);rfl;all_goals (intro hb hp;try (exfalso;omega))|(with_reducible apply d7 hS);rfl;rfl;rfl;refine ⟨_,p7 _ _ _ _,?_⟩;clear hS;intro w' hS)
         exact e9 (i + 1,e.page) (by exact Fr.sub_of rfl) ⟨by show i + 1<=es.length;omega,xd3 ⟨by show 0 < i + 1;omega,_,he,rfl⟩,rfl⟩ hS.drop.drop (by show es.length - (i + 1) < es.length - i;omega)
        ·have hE:=a1A (A:=A) (nf:=fr.length) (ns:=sl.length) hl (fun h:(e.kind=1/\0<=e.at_/\e.at_ < (fr.length:Int))\/(e.kind=2/\0<=e.at_/\e.at_ < (sl.length:Int))=>by omega);rw [hE,xq1,xq8]
         repeat' (first|(with_reducible apply a8 a7);rfl;rfl;rfl|(with_reducible apply a9);rfl;(first|apply Ld.sc a7;rfl;exact hS.blkC 0 rfl rfl|apply Ld.sl a7;rfl;(first|exact hS.blkC 0 rfl rfl|exact hS.blkC 1 rfl rfl)|apply Ld.st a7;rfl;exact hS.roR (by assumption) (by assumption);rfl);rfl|(with_reducible apply l7 a7);rfl;rfl;rfl;rfl;omega;rfl|refine yDn (by with_reducible constructor) ?_|(with_reducible apply d8 hS a7);rfl;rfl;rfl;clear hS;intro g w' hS|(with_reducible apply b8 hS a7 (i:=0));(iterate 8 rfl);(first|exact (rfl:_=[_,_,_])|exact (rfl:_=[_,_,_,_]));clear hS;intro w' hS;simp only [List.set] at hS|(with_reducible apply b9);rfl;all_goals (intro hb hp;try (exfalso;omega))|(with_reducible apply d7 hS);rfl;rfl;rfl;refine ⟨_,haa _ (har.now hS),?_⟩;clear hS;intro w' hS)
         (focus ((with_reducible apply d9 _ _ _ (by kernel_rfl) (by kernel_rfl) hS);(repeat' ((first|(with_reducible apply a1C);rfl;rfl;omega;omega;rfl|(with_reducible apply i7 a7);rfl;rfl|(with_reducible apply i9);rfl;(intro wd hd;replace hd:St _ _ wd _:=hd;(first|apply Ld.sc a7;rfl;(first|exact hd.blkC 1 rfl rfl|exact hd.roC0 (by assumption) (by assumption) rfl)|apply Ld.sl a7;rfl;exact hd.blkC 2 rfl rfl));rfl|(with_reducible apply y8 a7);rfl;rfl;rfl;exact xn8 (by omega);omega;rfl|(first|((with_reducible apply a0t);(iterate 4 rfl);first|rfl|assumption)|(with_reducible apply a0F);rfl;rfl;rfl;all_goals (intro hb hp;try (exfalso;omega))|(with_reducible apply t7);rfl;assumption;rfl;rfl|(with_reducible apply r7);rfl;rfl;rfl;rfl))));all_goals ((with_reducible apply j7);intro w' hS';clear hS;have hS:=hS';clear hS')))
         repeat' (first|(with_reducible apply a8 a7);rfl;rfl;rfl|(with_reducible apply a9);rfl;(first|apply Ld.sc a7;rfl;exact hS.blkC 1 rfl rfl|apply Ld.sl a7;rfl;exact hS.blkC 3 rfl rfl);rfl|(with_reducible apply a0m);rfl;rfl;omega;omega;rfl|refine yDn (by with_reducible constructor) ?_|(with_reducible apply b9);rfl;all_goals (intro hb hp;try (exfalso;omega))|(with_reducible apply a08);rfl;all_goals (intro hb hp;try (exfalso;omega))|(with_reducible apply d7 hS);rfl;rfl;rfl;refine ⟨_,p7 _ _ _ _,?_⟩;clear hS;intro w' hS)
         (refine k7 rfl ?_)
         exact ⟨rfl,hS.sub (xj1 _)⟩
       ·have hE:=a1A (A:=A) (nf:=fr.length) (ns:=sl.length) hl (fun h:(e.kind=1/\0<=e.at_/\e.at_ < (fr.length:Int))\/(e.kind=2/\0<=e.at_/\e.at_ < (sl.length:Int))=>by omega);rw [hE,xq1,xq8]
        repeat' (first|(with_reducible apply a8 a7);rfl;rfl;rfl|(with_reducible apply a9);rfl;(first|apply Ld.sc a7;rfl;exact hS.blkC 0 rfl rfl|apply Ld.sl a7;rfl;(first|exact hS.blkC 0 rfl rfl|exact hS.blkC 1 rfl rfl)|apply Ld.st a7;rfl;exact hS.roR (by assumption) (by assumption);rfl);rfl|(with_reducible apply l7 a7);rfl;rfl;rfl;rfl;omega;rfl|refine yDn (by with_reducible constructor) ?_|(with_reducible apply d8 hS a7);rfl;rfl;rfl;clear hS;intro g w' hS|(with_reducible apply b8 hS a7 (i:=0));(iterate 8 rfl);(first|exact (rfl:_=[_,_,_])|exact (rfl:_=[_,_,_,_]));clear hS;intro w' hS;simp only [List.set] at hS|(with_reducible apply b9);rfl;all_goals (intro hb hp;try (exfalso;omega))|(with_reducible apply d7 hS);rfl;rfl;rfl;refine ⟨_,haa _ (har.now hS),?_⟩;clear hS;intro w' hS)
        (focus ((with_reducible apply d9 _ _ _ (by kernel_rfl) (by kernel_rfl) hS);(repeat' ((first|(with_reducible apply a1C);rfl;rfl;omega;omega;rfl|(with_reducible apply i7 a7);rfl;rfl|(with_reducible apply i9);rfl;(intro wd hd;replace hd:St _ _ wd _:=hd;(first|apply Ld.sc a7;rfl;(first|exact hd.blkC 1 rfl rfl|exact hd.roC0 (by assumption) (by assumption) rfl)|apply Ld.sl a7;rfl;exact hd.blkC 2 rfl rfl));rfl|(with_reducible apply y8 a7);rfl;rfl;rfl;exact xn8 (by omega);omega;rfl|(first|((with_reducible apply a0t);(iterate 4 rfl);first|rfl|assumption)|(with_reducible apply a0F);rfl;rfl;rfl;all_goals (intro hb hp;try (exfalso;omega))|(with_reducible apply t7);rfl;assumption;rfl;rfl|(with_reducible apply r7);rfl;rfl;rfl;rfl))));all_goals ((with_reducible apply j7);intro w' hS';clear hS;have hS:=hS';clear hS')))
        repeat' (first|(with_reducible apply a8 a7);rfl;rfl;rfl|(with_reducible apply a9);rfl;(apply Ld.sc a7;rfl;exact hS.blkC 1 rfl rfl);rfl|refine yDn (by with_reducible constructor) ?_|(with_reducible apply f6);rfl;rfl|(with_reducible apply b9);rfl;all_goals (intro hb hp;try (exfalso;omega)))
        (refine k7 rfl ?_)
        exact ⟨rfl,hS.sub (xj1 _)⟩
     ·have hE:a17 A fr.length sl.length y.page e=false:=by unfold a17;rw [xj0 (fun h=>hl h.1),xq8]
      rw [hE,xq1,xq8]
      repeat' (first|(with_reducible apply a8 a7);rfl;rfl;rfl|(with_reducible apply a9);rfl;(first|apply Ld.sc a7;rfl;exact hS.blkC 0 rfl rfl|apply Ld.sl a7;rfl;(first|exact hS.blkC 0 rfl rfl|exact hS.blkC 1 rfl rfl)|apply Ld.st a7;rfl;exact hS.roR (by assumption) (by assumption);rfl);rfl|(with_reducible apply l7 a7);rfl;rfl;rfl;rfl;omega;rfl|refine yDn (by with_reducible constructor) ?_|(with_reducible apply d8 hS a7);rfl;rfl;rfl;clear hS;intro g w' hS|(with_reducible apply b8 hS a7 (i:=0));(iterate 8 rfl);(first|exact (rfl:_=[_,_,_])|exact (rfl:_=[_,_,_,_]));clear hS;intro w' hS;simp only [List.set] at hS|(with_reducible apply b9);rfl;all_goals (intro hb hp;try (exfalso;omega))|(with_reducible apply d7 hS);rfl;rfl;rfl;refine ⟨_,haa _ (har.now hS),?_⟩;clear hS;intro w' hS)
      (focus ((with_reducible apply d9 _ _ _ (by kernel_rfl) (by kernel_rfl) hS);(repeat' ((first|(with_reducible apply a1C);rfl;rfl;omega;omega;rfl|(with_reducible apply i7 a7);rfl;rfl|(with_reducible apply i9);rfl;(intro wd hd;replace hd:St _ _ wd _:=hd;(first|apply Ld.sc a7;rfl;(first|exact hd.blkC 1 rfl rfl|exact hd.roC0 (by assumption) (by assumption) rfl)|apply Ld.sl a7;rfl;exact hd.blkC 2 rfl rfl));rfl|(with_reducible apply y8 a7);rfl;rfl;rfl;exact xn8 (by omega);omega;rfl|(first|((with_reducible apply a0t);(iterate 4 rfl);first|rfl|assumption)|(with_reducible apply a0F);rfl;rfl;rfl;all_goals (intro hb hp;try (exfalso;omega))|(with_reducible apply t7);rfl;assumption;rfl;rfl|(with_reducible apply r7);rfl;rfl;rfl;rfl))));all_goals ((with_reducible apply j7);intro w' hS';clear hS;have hS:=hS';clear hS')))
      repeat' (first|(with_reducible apply a8 a7);rfl;rfl;rfl|refine yDn (by with_reducible constructor) ?_|(with_reducible apply b9);rfl;all_goals (intro hb hp;try (exfalso;omega)))
      (refine k7 rfl ?_)
      exact ⟨rfl,hS.sub (xj1 _)⟩
  obtain rfl:i=es.length:=by omega
  rw [hents,xl4,show a1y A fr.length sl.length last []=true from rfl,xp5]
  repeat' (first|(with_reducible apply a8 a7);rfl;rfl;rfl|(with_reducible apply a9);rfl;(apply Ld.sl a7;rfl;exact hS.blkC 0 rfl rfl);rfl|refine yDn (by with_reducible constructor) ?_|(with_reducible apply b9);rfl;all_goals (intro hb hp;try (exfalso;omega)))
  refine k9 (X:=Int) (fun x=>[(9,.int .i64 x)]) [2,3] rfl (fun _=>[]) (fun x=>1<=x/\x<=256/\∀ p:Int,1<=p->p < x->a7Y (shs sh) A p=true) (fun x=>(256 - x).toNat) 1 (by exact Fr.sub_of rfl) ⟨by omega,by omega,fun p h1 h2=>by omega⟩ hS ?_;clear hS hents hlast;rintro q w2 ⟨hq1,hq2,hpre⟩ hS;dsimp only [List.cons_append,List.nil_append] at hS |-;by_cases hq:q<=255;rotate_left
  ·rw [(a61 hgood).2 (fun p h1 h2=>hpre p h1 (by omega))]
   repeat' (first|(with_reducible apply a8 a7);rfl;rfl;rfl|refine yDn (by with_reducible constructor) ?_|(with_reducible apply b9);rfl;all_goals (intro hb hp;try (exfalso;omega)))
   (refine k7 rfl ?_)
   exact ⟨rfl,hS.sub (xj1 _)⟩
  have haa:=fun w1 (h:Sl nF w1 4 (.slice pa A.length ca) (A.map arC))=>a3X q h hok;unfold a3j arC at haa;have hsq:=fun w1 (h:ShsV w1 sh (.slice p1 sh.length c1))=>hso w1 q h;have hpb:a7Y (shs sh) A q=(match q8 A q with|some a=>a.z||(a29 sh q).isSome|none=>true):=by
   unfold a7Y;rw [a5O,Option.isSome_map]
   cases q8 A q <;> rfl
  cases hsf:a29 sh q with
  |none=>
   rw [hsf] at hsq hpb;unfold a48 at hsq;dsimp only at hsq
   cases hf:q8 A q with
   |none=>
    rw [hf] at haa hpb;dsimp only [Option.getD,Option.isSome] at haa hpb
    repeat' (first|(with_reducible apply a8 a7);rfl;rfl;rfl|(with_reducible apply a9);rfl;(apply Ld.sl a7;rfl;(first|exact hS.blkC 0 rfl rfl|exact hS.blkC 2 rfl rfl));rfl|(with_reducible apply j4);rfl;rfl;omega;omega;rfl|refine yDn (by with_reducible constructor) ?_|(with_reducible apply x8);(iterate 4 rfl);rfl;rfl|(with_reducible apply f5);rfl;rfl;rfl;rfl|(with_reducible apply f8);rfl;rfl|(with_reducible apply d8 hS a7);rfl;rfl;rfl;clear hS;intro g w' hS|(with_reducible apply b8 hS a7 (i:=0));(iterate 8 rfl);(first|exact (rfl:_=[_,_,_])|exact (rfl:_=[_,_,_,_]));clear hS;intro w' hS;simp only [List.set] at hS|(with_reducible apply b9);rfl;all_goals (intro hb hp;try (exfalso;omega))|(with_reducible apply d7 hS);rfl;rfl;rfl;refine ⟨_,haa _ (har.now hS),?_⟩;clear hS;intro w' hS|(with_reducible apply d7 hS);rfl;rfl;rfl;refine ⟨_,hsq _ (k1.now hS),?_⟩;clear hS;intro w' hS)
    refine e9 (q + 1) (by exact Fr.sub_of rfl) ⟨by omega,by omega,fun p h1 h2=>?_⟩ hS.drop.drop (by omega);by_cases e:p=q
    ·subst e;exact hpb
    ·exact hpre p h1 (by omega)
   |some a=>
    rw [hf] at haa hpb;dsimp only [Option.getD,Option.isSome] at haa hpb
    cases hz:a.z with
    |true=>
     rw [hz] at hpb haa
     repeat' (first|(with_reducible apply a8 a7);rfl;rfl;rfl|(with_reducible apply a9);rfl;(first|apply Ld.sc a7;rfl;exact hS.blkC 1 rfl rfl|apply Ld.sl a7;rfl;(first|exact hS.blkC 0 rfl rfl|exact hS.blkC 2 rfl rfl));rfl|(with_reducible apply j4);rfl;rfl;omega;omega;rfl|refine yDn (by with_reducible constructor) ?_|(with_reducible apply k8);(iterate 4 rfl);rfl|(with_reducible apply x8);(iterate 4 rfl);rfl;rfl|(with_reducible apply j3);rfl;rfl;rfl;rfl|(with_reducible apply f5);rfl;rfl;rfl;rfl|(with_reducible apply f8);rfl;rfl|(with_reducible apply d8 hS a7);rfl;rfl;rfl;clear hS;intro g w' hS|(with_reducible apply b8 hS a7 (i:=0));(iterate 8 rfl);(first|exact (rfl:_=[_,_,_])|exact (rfl:_=[_,_,_,_]));clear hS;intro w' hS;simp only [List.set] at hS|(with_reducible apply b9);rfl;all_goals (intro hb hp;try (exfalso;omega))|(with_reducible apply d7 hS);rfl;rfl;rfl;refine ⟨_,haa _ (har.now hS),?_⟩;clear hS;intro w' hS|(with_reducible apply d7 hS);rfl;rfl;rfl;refine ⟨_,hsq _ (k1.now hS),?_⟩;clear hS;intro w' hS)
     refine e9 (q + 1) (by exact Fr.sub_of rfl) ⟨by omega,by omega,fun p h1 h2=>?_⟩ hS.drop.drop (by omega);by_cases e:p=q
     ·subst e;exact hpb
     ·exact hpre p h1 (by omega)
    |false=>
     rw [hz] at hpb haa;have hno:a1L (shs sh) A=false:=by
      rw [xq9];intro h;have:=(a61 hgood).1 h q hq1 hq;rw [hpb] at this
      cases this
     rw [hno]
     repeat' (first|(with_reducible apply a8 a7);rfl;rfl;rfl|(with_reducible apply a9);rfl;(first|apply Ld.sc a7;rfl;exact hS.blkC 1 rfl rfl|apply Ld.sl a7;rfl;(first|exact hS.blkC 0 rfl rfl|exact hS.blkC 2 rfl rfl));rfl|refine yDn (by with_reducible constructor) ?_|(with_reducible apply k8);(iterate 4 rfl);rfl|(with_reducible apply j3);rfl;rfl;rfl;rfl|(with_reducible apply f6);rfl;rfl|(with_reducible apply d8 hS a7);rfl;rfl;rfl;clear hS;intro g w' hS|(with_reducible apply b8 hS a7 (i:=0));(iterate 8 rfl);(first|exact (rfl:_=[_,_,_])|exact (rfl:_=[_,_,_,_]));clear hS;intro w' hS;simp only [List.set] at hS|(with_reducible apply b9);rfl;all_goals (intro hb hp;try (exfalso;omega))|(with_reducible apply d7 hS);rfl;rfl;rfl;refine ⟨_,haa _ (har.now hS),?_⟩;clear hS;intro w' hS|(with_reducible apply d7 hS);rfl;rfl;rfl;refine ⟨_,hsq _ (k1.now hS),?_⟩;clear hS;intro w' hS)
     (refine k7 rfl ?_)
     exact ⟨rfl,hS.sub (xj1 _)⟩
  |some y=>
   have hfx:=k1.fx y (xi1 hsf);obtain ⟨S,u⟩:=y;dsimp only at hfx;obtain ⟨pu,cu,rfl⟩:=hfx.len;rw [hsf] at hsq hpb;unfold a48 shC at hsq;dsimp only at hsq
   cases hf:q8 A q with
   |none=>
    rw [hf] at haa hpb;dsimp only [Option.getD,Option.isSome] at haa hpb
    repeat' (first|(with_reducible apply a8 a7);rfl;rfl;rfl|(with_reducible apply a9);rfl;(apply Ld.sl a7;rfl;(first|exact hS.blkC 0 rfl rfl|exact hS.blkC 2 rfl rfl));rfl|(with_reducible apply j4);rfl;rfl;omega;omega;rfl|refine yDn (by with_reducible constructor) ?_|(with_reducible apply x8);(iterate 4 rfl);rfl;rfl|(with_reducible apply f5);rfl;rfl;rfl;rfl|(with_reducible apply f8);rfl;rfl|(with_reducible apply d8 hS a7);rfl;rfl;rfl;clear hS;intro g w' hS|(with_reducible apply b8 hS a7 (i:=0));(iterate 8 rfl);(first|exact (rfl:_=[_,_,_])|exact (rfl:_=[_,_,_,_]));clear hS;intro w' hS;simp only [List.set] at hS|(with_reducible apply b9);rfl;all_goals (intro hb hp;try (exfalso;omega))|(with_reducible apply d7 hS);rfl;rfl;rfl;refine ⟨_,haa _ (har.now hS),?_⟩;clear hS;intro w' hS|(with_reducible apply d7 hS);rfl;rfl;rfl;refine ⟨_,hsq _ (k1.now hS),?_⟩;clear hS;intro w' hS)
    refine e9 (q + 1) (by exact Fr.sub_of rfl) ⟨by omega,by omega,fun p h1 h2=>?_⟩ hS.drop.drop (by omega);by_cases e:p=q
    ·subst e;exact hpb
    ·exact hpre p h1 (by omega)
   |some a=>
    rw [hf] at haa hpb;dsimp only [Option.getD,Option.isSome] at haa hpb;rw [Bool.or_true] at hpb
    cases hz:a.z with
    |true=>
     rw [hz] at haa
     repeat' (first|(with_reducible apply a8 a7);rfl;rfl;rfl|(with_reducible apply a9);rfl;(first|apply Ld.sc a7;rfl;exact hS.blkC 1 rfl rfl|apply Ld.sl a7;rfl;(first|exact hS.blkC 0 rfl rfl|exact hS.blkC 2 rfl rfl));rfl|(with_reducible apply j4);rfl;rfl;omega;omega;rfl|refine yDn (by with_reducible constructor) ?_|(with_reducible apply k8);(iterate 4 rfl);rfl|(with_reducible apply x8);(iterate 4 rfl);rfl;rfl|(with_reducible apply j3);rfl;rfl;rfl;rfl|(with_reducible apply f5);rfl;rfl;rfl;rfl|(with_reducible apply f8);rfl;rfl|(with_reducible apply d8 hS a7);rfl;rfl;rfl;clear hS;intro g w' hS|(with_reducible apply b8 hS a7 (i:=0));(iterate 8 rfl);(first|exact (rfl:_=[_,_,_])|exact (rfl:_=[_,_,_,_]));clear hS;intro w' hS;simp only [List.set] at hS|(with_reducible apply b9);rfl;all_goals (intro hb hp;try (exfalso;omega))|(with_reducible apply d7 hS);rfl;rfl;rfl;refine ⟨_,haa _ (har.now hS),?_⟩;clear hS;intro w' hS|(with_reducible apply d7 hS);rfl;rfl;rfl;refine ⟨_,hsq _ (k1.now hS),?_⟩;clear hS;intro w' hS)
     refine e9 (q + 1) (by exact Fr.sub_of rfl) ⟨by omega,by omega,fun p h1 h2=>?_⟩ hS.drop.drop (by omega);by_cases e:p=q
     ·subst e;exact hpb
     ·exact hpre p h1 (by omega)
    |false=>
     rw [hz] at haa
     repeat' (first|(with_reducible apply a8 a7);rfl;rfl;rfl|(with_reducible apply a9);rfl;(first|apply Ld.sc a7;rfl;exact hS.blkC 1 rfl rfl|apply Ld.sl a7;rfl;(first|exact hS.blkC 0 rfl rfl|exact hS.blkC 2 rfl rfl));rfl|(with_reducible apply j4);rfl;rfl;omega;omega;rfl|refine yDn (by with_reducible constructor) ?_|(with_reducible apply k8);(iterate 4 rfl);rfl|(with_reducible apply j3);rfl;rfl;rfl;rfl|(with_reducible apply f8);rfl;rfl|(with_reducible apply d8 hS a7);rfl;rfl;rfl;clear hS;intro g w' hS|(with_reducible apply b8 hS a7 (i:=0));(iterate 8 rfl);(first|exact (rfl:_=[_,_,_])|exact (rfl:_=[_,_,_,_]));clear hS;intro w' hS;simp only [List.set] at hS|(with_reducible apply b9);rfl;all_goals (intro hb hp;try (exfalso;omega))|(with_reducible apply d7 hS);rfl;rfl;rfl;refine ⟨_,haa _ (har.now hS),?_⟩;clear hS;intro w' hS|(with_reducible apply d7 hS);rfl;rfl;rfl;refine ⟨_,hsq _ (k1.now hS),?_⟩;clear hS;intro w' hS)
     refine e9 (q + 1) (by exact Fr.sub_of rfl) ⟨by omega,by omega,fun p h1 h2=>?_⟩ hS.drop.drop (by omega);by_cases e:p=q
     ·subst e;exact hpb
     ·exact hpre p h1 (by omega)
theorem b0A (l:List Nm):(a0W l).1=(l.length:Int):=by
 have:∀ (l:List Nm) (s:b1T),(l.foldl a2K s).1=s.1 + (l.length:Int):=by
  intro l
  induction l with
  |nil=>intro s;simp
  |cons m l ih=>intro s;rw [List.foldl_cons,ih,xb1];show s.1 + 1 + _=_;omega
 have h:=this l (0,0,true,a2L);unfold a0W;rw [h];simp
theorem a3H:∀ (l:List Nm) (k:Int) (page:Int) (same:Bool) (a:Ar),1<=k->(l.foldl a2K (k,page,same,a)).2.2.1=(same && l.all fun m=>decide (m.1.page=page/\m.2.z=a.z))/\((l.foldl a2K (k,page,same,a)).2.2.1=true->(l.foldl a2K (k,page,same,a)).2.1=page/\(l.foldl a2K (k,page,same,a)).2.2.2.z=a.z)
 |[],k,page,same,a,_=>by simp
 |m::l,k,page,same,a,hk=>by
  have hk0:decide (k=0)=false:=xj0 (by omega);have hs:a2K (k,page,same,a) m=(k + 1,m.1.page,same && decide (m.1.page=page/\m.2.z=a.z),m.2):=by
   unfold a2K;dsimp only;rw [hk0,xo1,Bool.decide_and]
  rw [List.foldl_cons,hs,xo6];by_cases h:m.1.page=page/\m.2.z=a.z
  ·have ih:=a3H l (k + 1) m.1.page same m.2 (by omega);rw [xj2 h,xp5,xq0];rw [h.1,h.2] at ih;rw [h.1];exact ih
  ·have ih:=a3H l (k + 1) m.1.page false m.2 (by omega);rw [xq1] at ih;rw [xj0 h,xq8,xq1,xq8];exact ⟨ih.1,fun hh=>by rw [ih.1] at hh;cases hh⟩
theorem a8x {n:Nm} {r:List Nm}:(a0W (n::r)).2.2.1=a0P (n::r)/\(a0P (n::r)=true->(a0W (n::r)).2.1=n.1.page/\(a0W (n::r)).2.2.2.z=n.2.z):=by
 have h:=a3H r 1 n.1.page true n.2 (by omega);have e:a0W (n::r)=r.foldl a2K (1,n.1.page,true,n.2):=rfl;rw [e];rw [xq0] at h;have ea:a0P (n::r)=r.all fun m=>decide (m.1.page=n.1.page/\m.2.z=n.2.z):=rfl;rw [ea];exact ⟨h.1,fun hh=>h.2 (h.1.trans hh)⟩
def l9 (l:List En) (p:Int):Option En:=l.find? fun e=>decide (e.page=p)
def j8 (l:List En):List Int:=l.map fun e=>e.page
def a7u (l:List En) (e:En):List En:=l.take (lbd (j8 l) e.page)++e::l.drop (lbd (j8 l) e.page)
def putE (l:List En) (e:En):List En:=if e.page ∈ j8 l then l.set (lbd (j8 l) e.page) e else a7u l e
def o8 (f:Int) (t:Option Int) (e:En):Option En:=if e.kind=1/\e.at_=f then t.map (fun s=>⟨e.page,2,s⟩) else some e
def z8 (f:Int) (t:Option Int) (s:Sc):Sc:=⟨s.live,s.areas,s.entries.filterMap (o8 f t)⟩
def a2a (l:List Sw):Option Nat:=l.findIdx? fun s=>decide (s.refs=0)
def a2O (l:List Fm):Option Nat:=l.findIdx? fun f=>decide (f.refs=0)
def m6 (l:List Fm) (i:Nat):Fm:=(l[i]?).getD fm0
def a0J (l:List Sw) (i:Nat):Sw:=(l[i]?).getD sw0
def a0w (K:Ker) (f:Nat):Option Nat:=if (m6 K.frames f).dirty then some ((a2a K.slots).getD 0) else none
def t4 (K:Ker) (f:Nat):Ker :=
 ⟨K.sheets,K.frames.set f fm0,(match a0w K f with
  |some t=>K.slots.set t ⟨(m6 K.frames f).data,(m6 K.frames f).refs⟩
  |none=>K.slots),K.spaces.map (z8 (f:Nat) ((a0w K f).map fun (t:Nat)=>(t:Int))),K.hand⟩
def x5 (n h:Nat):Nat:=if h + 1=n then 0 else h + 1
def a0s:Nat->List Fm->Nat->List Nat->List Fm×Nat×Nat
 |0,fr,h,_=>(fr,h,0)
 |k + 1,fr,h,held=>if h ∈ held then a0s k fr (x5 fr.length h) held else if (m6 fr h).seen then a0s k (fr.set h ⟨(m6 fr h).data,(m6 fr h).refs,(m6 fr h).dirty,false⟩) (x5 fr.length h) held else (fr,x5 fr.length h,h)
def a0o (K:Ker) (held:List Nat):List Fm×Nat×Nat:=a0s 5000 K.frames K.hand.toNat held
def a0d (K:Ker) (held:List Nat):Ker×Nat:=match a2O K.frames with
 |some i=>(K,i)
 |none=>(t4 ⟨K.sheets,(a0o K held).1,K.slots,K.spaces,((a0o K held).2.1:Nat)⟩ (a0o K held).2.2,(a0o K held).2.2)
def a3n (f:Fm):Fm:=if f.refs - 1=0 then fm0 else ⟨f.data,f.refs - 1,f.dirty,f.seen⟩
def a3m (s:Sw):Sw:=if s.refs - 1=0 then sw0 else ⟨s.data,s.refs - 1⟩
def a3q (K:Ker) (e:En):Ker:=if e.kind=1 then ⟨K.sheets,K.frames.set e.at_.toNat (a3n (m6 K.frames e.at_.toNat)),K.slots,K.spaces,K.hand⟩ else ⟨K.sheets,K.frames,K.slots.set e.at_.toNat (a3m (a0J K.slots e.at_.toNat)),K.spaces,K.hand⟩
def sc0:Sc:=⟨false,[],[]⟩
def a0E (K:Ker) (sp:Nat):Sc:=(K.spaces[sp]?).getD sc0
def j9 (K:Ker) (sp:Nat):List En:=(a0E K sp).entries
def n8 (K:Ker) (sp:Nat):List Ar:=(a0E K sp).areas
def a9O (K:Ker) (sp:Nat) (s:Sc):Ker:=⟨K.sheets,K.frames,K.slots,K.spaces.set sp s,K.hand⟩
def a10 (K:Ker) (sp:Nat) (l:List En):Ker:=a9O K sp ⟨(a0E K sp).live,(a0E K sp).areas,l⟩
def a0j (K:Ker) (f:Nat) (x:Fm):Ker:=⟨K.sheets,K.frames.set f x,K.slots,K.spaces,K.hand⟩
def a1W (K:Ker):Option En->Ker
 |some e=>a3q K e
 |none=>K
def inK (K:Ker) (sp:Nat) (page:Int) (f:Nat) (data:List UInt8) (dirty:Bool):Ker :=
 a10 (a1W (a0j K f ⟨data,1,dirty,false⟩) (l9 (j9 K sp) page)) sp (putE (j9 K sp) ⟨page,1,(f:Nat)⟩)
def zAt (K:Ker) (sp:Nat) (page:Int):Bool:=((q8 (n8 K sp) page).getD a2L).z
def a1v (K:Ker) (sp:Nat) (page:Int):List UInt8:=(a0I K.sheets (zAt K sp page) page).getD []
def a1Q (K:Ker) (sp:Nat) (page:Int) (held:List Nat):Ker×Nat:=match l9 (j9 K sp) page with
 |none=>(inK (a0d K held).1 sp page (a0d K held).2 (a1v K sp page) false,(a0d K held).2)
 |some e=>if e.kind=2 then (inK (a0d K held).1 sp page (a0d K held).2 (a0J K.slots e.at_.toNat).data true,(a0d K held).2) else (K,e.at_.toNat)
def a3E (K:Ker) (sp:Nat) (page:Int) (write:Bool) (held:List Nat) (f:Nat):Ker×Nat :=
 if write=true/\1 < (m6 K.frames f).refs then (inK (a0d K (held++[f])).1 sp page (a0d K (held++[f])).2 (m6 K.frames f).data true,(a0d K (held++[f])).2) else (K,f)
def a1O (K:Ker) (f:Nat) (write:Bool):Ker:=a0j K f ⟨(m6 K.frames f).data,(m6 K.frames f).refs,(m6 K.frames f).dirty||write,true⟩
def a1p (K:Ker) (sp:Nat) (page:Int) (write:Bool) (held:List Nat):Ker×Nat:=a3E (a1Q K sp page held).1 sp page write held (a1Q K sp page held).2
def a0z (K:Ker) (sp:Nat) (page:Int) (write:Bool) (held:List Nat):Ker×Nat:=(a1O (a1p K sp page write held).1 (a1p K sp page write held).2 write,(a1p K sp page write held).2)
def a1I (K:Ker) (sp:Nat) (addr size:Int) (write:Bool):Ker:=if (addr + size - 1) / 16=addr / 16 then (a0z K sp (addr / 16) write []).1 else (a0z (a0z K sp (addr / 16) write []).1 sp ((addr + size - 1) / 16) write [(a0z K sp (addr / 16) write []).2]).1
def a0y (K:Ker) (e:En):List UInt8:=if e.kind=1 then (m6 K.frames e.at_.toNat).data else (a0J K.slots e.at_.toNat).data
def a2o (K:Ker) (sp:Nat) (page:Int):List UInt8:=match l9 (j9 K sp) page with
 |some e=>a0y K e
 |none=>a1v K sp page
structure FmOk (sh:List Sh) (f:Fm) (N:List Nm):Prop where
 refs:f.refs=(N.length:Int)
 nil:N=[]->f=fm0
 len:N≠[]->f.data.length=16
 same:∀ n ∈ N,∀ m ∈ N,m.1.page=n.1.page/\m.2.z=n.2.z
 data:∀ n ∈ N,f.dirty=true\/some f.data=a0I sh n.2.z n.1.page
structure SwOk (s:Sw) (N:List Nm):Prop where
 refs:s.refs=(N.length:Int)
 nil:N=[]->s=sw0
 len:N≠[]->s.data.length=16
 same:∀ n ∈ N,∀ m ∈ N,m.1.page=n.1.page/\m.2.z=n.2.z
theorem a3c {N:List Nm}:a0P N=true ↔ ∀ n ∈ N,∀ m ∈ N,m.1.page=n.1.page/\m.2.z=n.2.z:=by
 cases N with
 |nil=>simp [a0P]
 |cons a r=>
  unfold a0P;rw [xc7];constructor
  ·intro h;have h':∀ m ∈ a::r,m.1.page=a.1.page/\m.2.z=a.2.z:=fun m hm=>by
    rcases xc4.1 hm with rfl|hm
    ·exact ⟨rfl,rfl⟩
    ·exact xn9 (h m hm)
   exact fun n hn m hm=>⟨(h' m hm).1.trans (h' n hn).1.symm,(h' m hm).2.trans (h' n hn).2.symm⟩
  ·exact fun h m hm=>xj2 (h a xc5 m (xc6 _ hm))
theorem a2t {sh:List Sh} {f:Fm} {N:List Nm}:a1t sh f N=true ↔ FmOk sh f N:=by
 cases N with
 |nil=>
  unfold a1t;rw [xb3];constructor
  ·rintro rfl;exact ⟨rfl,fun _=>rfl,fun h=>absurd rfl h,(fun _ h=>by cases h),(fun _ h=>by cases h)⟩
  ·exact fun h=>h.nil rfl
 |cons n r=>
  unfold a1t;rw [xb2,xb2,a3c,xb3,xo0,xb3];constructor
  ·rintro ⟨⟨h1,h2⟩,h3,h4⟩;refine ⟨h1,(fun h=>by cases h),fun _=>h2,h3,fun m hm=>?_⟩;have:=h3 n xc5 m hm;rw [this.1,this.2];exact h4
  ·intro h;exact ⟨⟨h.refs,h.len (by simp)⟩,h.same,h.data n xc5⟩
theorem a2N {s:Sw} {N:List Nm}:a16 s N=true ↔ SwOk s N:=by
 cases N with
 |nil=>
  unfold a16;rw [xb3];constructor
  ·rintro rfl;exact ⟨rfl,fun _=>rfl,fun h=>absurd rfl h,(fun _ h=>by cases h)⟩
  ·exact fun h=>h.nil rfl
 |cons n r=>
  unfold a16;rw [xb2,a3c,xb3];constructor
  ·rintro ⟨⟨h1,h2⟩,h3⟩;exact ⟨h1,(fun h=>by cases h),fun _=>h2,h3⟩
  ·intro h;exact ⟨⟨h.refs,h.len (by simp)⟩,h.same⟩
theorem FmOk.perm {sh:List Sh} {f:Fm} {N M:List Nm} (h:FmOk sh f N) (p:N.Perm M):FmOk sh f M :=
 ⟨by rw [<- p.length_eq];exact h.refs,fun e=>h.nil (by subst e;exact p.eq_nil),fun e=>h.len (fun e2=>e (by subst e2;exact p.symm.eq_nil)),fun n hn m hm=>h.same n (p.mem_iff.2 hn) m (p.mem_iff.2 hm),fun n hn=>h.data n (p.mem_iff.2 hn)⟩
theorem SwOk.perm {f:Sw} {N M:List Nm} (h:SwOk f N) (p:N.Perm M):SwOk f M :=
 ⟨by rw [<- p.length_eq];exact h.refs,fun e=>h.nil (by subst e;exact p.eq_nil),fun e=>h.len (fun e2=>e (by subst e2;exact p.symm.eq_nil)),fun n hn m hm=>h.same n (p.mem_iff.2 hn) m (p.mem_iff.2 hm)⟩
structure Right (K:Ker):Prop where
 cnt:3<=K.frames.length/\K.frames.length<=64/\K.slots.length<=512/\1<=K.spaces.length/\K.spaces.length<=4/\K.sheets.length<=255
 rise:a0C 0 K.sheets=true
 hand:0<=K.hand/\K.hand < K.frames.length
 spaces:∀ s ∈ K.spaces,t9 K.sheets K.frames.length K.slots.length s=true
 room:a0n K.spaces<=K.slots.length
 fr:∀ (i:Nat) f,K.frames[i]?=some f->FmOk K.sheets f (j6 K.spaces 1 (i:Nat))
 sl:∀ (i:Nat) s,K.slots[i]?=some s->SwOk s (j6 K.spaces 2 (i:Nat))
theorem a5P {K:Ker}:a0Y K=true ↔ ∀ (i:Nat) f,K.frames[i]?=some f->FmOk K.sheets f (j6 K.spaces 1 (i:Nat)):=by
 unfold a0Y;rw [xc7];constructor
 ·intro h i f hf;have:=h i (xi4.2 (d6 hf));rw [hf] at this;exact a2t.1 this
 ·intro h i hi;rw [xi4] at hi;rw [xe1 hi];exact a2t.2 (h i _ (xe1 hi))
theorem a6y {K:Ker}:a1S K=true ↔ ∀ (i:Nat) s,K.slots[i]?=some s->SwOk s (j6 K.spaces 2 (i:Nat)):=by
 unfold a1S;rw [xc7];constructor
 ·intro h i f hf;have:=h i (xi4.2 (d6 hf));rw [hf] at this;exact a2N.1 this
 ·intro h i hi;rw [xi4] at hi;rw [xe1 hi];exact a2N.2 (h i _ (xe1 hi))
theorem a2Z {K:Ker}:a0N K=0 ↔ Right K:=by
 unfold a0N;by_cases h1:a11 K=true;rotate_left
 ·rw [xf1 h1];refine ⟨(fun h=>by cases h),fun h=>?_⟩;exact absurd (by unfold a11;rw [xb3];exact h.cnt) h1
 rw [xf0 h1];unfold a11 at h1;rw [xb3] at h1;by_cases h2:a5E K=true
 ·rw [xf0 h2];refine ⟨fun _=>?_,fun _=>rfl⟩;unfold a5E at h2;simp only [xb2,xb3] at h2;obtain ⟨⟨a1,a2⟩,a3,a4,a5,a6⟩:=h2;exact ⟨h1,a1,a2,fun s hs=>xc7.1 a3 s hs,a4,a5P.1 a5,a6y.1 a6⟩
 ·rw [xf1 h2];refine ⟨(fun h=>by cases h),fun h=>?_⟩;refine absurd ?_ h2;unfold a5E;simp only [xb2,xb3];exact ⟨⟨h.rise,h.hand⟩,xc7.2 h.spaces,h.room,a5P.2 h.fr,a6y.2 h.sl⟩
def nm1 (s:Sc) (k a:Int):List Nm:=(s.entries.filter fun e=>decide (e.kind=k/\e.at_=a)).map (a0Q s)
theorem a0K (L:List Sc) (k a:Int):j6 L k a=L.flatMap fun s=>nm1 s k a:=rfl
def mvN (t:Int) (n:Nm):Nm:=(⟨n.1.page,2,t⟩,n.2)
theorem a6r (f:Int) (t:Option Int) (s:Sc):a0Q (z8 f t s)=a0Q s:=rfl
theorem a6R {f:Int} {t:Option Int} {k a:Int} (h1:¬(k=1/\a=f)) (h2:k=2->t≠some a):∀ (l:List En),(l.filterMap (o8 f t)).filter (fun e=>decide (e.kind=k/\e.at_=a))=l.filter (fun e=>decide (e.kind=k/\e.at_=a))
 |[]=>rfl
 |e::l=>by
  have ih:=a6R h1 h2 l;rw [xm9];unfold o8;by_cases he:e.kind=1/\e.at_=f
  ·rw [xf0 he];have hn:¬(e.kind=k/\e.at_=a):=fun h=>h1 ⟨h.1.symm.trans he.1,h.2.symm.trans he.2⟩;rw [xk8 (by simpa using hn)]
   cases t with
   |none=>exact ih
   |some s=>
    show List.filter _ (_::_)=_;rw [xk8]
    ·exact ih
    ·rw [xb3];rintro ⟨h3,h4⟩;exact h2 h3.symm (by rw [show s=a from h4])
  ·rw [xf1 he];show List.filter _ (e::_)=_;by_cases hn:e.kind=k/\e.at_=a
   ·rw [xk6 (by simpa using hn),xk6 (by simpa using hn)];exact congrArg _ ih
   ·rw [xk8 (by simpa using hn),xk8 (by simpa using hn)];exact ih
theorem a62 {f:Int} {t:Option Int}:∀ (l:List En),(l.filterMap (o8 f t)).filter (fun e=>decide (e.kind=1/\e.at_=f))=[]
 |[]=>rfl
 |e::l=>by
  have ih:=a62 (f:=f) (t:=t) l;rw [xm9];unfold o8;by_cases he:e.kind=1/\e.at_=f
  ·rw [xf0 he]
   cases t with
   |none=>exact ih
   |some s=>
    show List.filter _ (_::_)=_;rw [xk8]
    ·exact ih
    ·rw [xb3];rintro ⟨h3,-⟩
     cases h3
  ·rw [xf1 he];show List.filter _ (e::_)=_;rw [xk8 (by simpa using he)];exact ih
theorem a5C {f t:Int}:∀ (l:List En),(l.filter fun e=>decide (e.kind=2/\e.at_=t))=[]->(l.filterMap (o8 f (some t))).filter (fun e=>decide (e.kind=2/\e.at_=t))=(l.filter fun e=>decide (e.kind=1/\e.at_=f)).map fun e=>⟨e.page,2,t⟩
 |[],_=>rfl
 |e::l,h=>by
  have hn:¬(e.kind=2/\e.at_=t):=fun hh=>by
   rw [xk6 (by simpa using hh)] at h
   cases h
  rw [xk8 (by simpa using hn)] at h;have ih:=a5C (f:=f) (t:=t) l h;rw [xm9];unfold o8;by_cases he:e.kind=1/\e.at_=f
  ·rw [xf0 he,xk6 (by simpa using he)];show List.filter _ (_::_)=_;rw [xk6 (by simp),xc0];exact congrArg _ ih
  ·rw [xf1 he];show List.filter _ (e::_)=_;rw [xk8 (by simpa using hn),xk8 (by simpa using he)];exact ih
theorem b28 {f:Int} {t:Option Int} {k a:Int} (h1:¬(k=1/\a=f)) (h2:k=2->t≠some a) (s:Sc):nm1 (z8 f t s) k a=nm1 s k a:=by
 unfold nm1;rw [a6r];exact congrArg _ (a6R h1 h2 s.entries)
theorem b3c {f:Int} {t:Option Int} (s:Sc):nm1 (z8 f t s) 1 f=[]:=by
 unfold nm1;rw [show (z8 f t s).entries=s.entries.filterMap (o8 f t) from rfl,a62];rfl
theorem b13 {f t:Int} {s:Sc} (h:nm1 s 2 t=[]):nm1 (z8 f (some t) s) 2 t=(nm1 s 1 f).map (mvN t):=by
 unfold nm1 at h |-;rw [List.map_eq_nil_iff] at h;rw [a6r,show (z8 f (some t) s).entries=s.entries.filterMap (o8 f (some t)) from rfl,a5C _ h,xn6,xn6];rfl
theorem a3s {f:Int} {t:Option Int} {k a:Int} (h1:¬(k=1/\a=f)) (h2:k=2->t≠some a) (L:List Sc):j6 (L.map (z8 f t)) k a=j6 L k a:=by
 rw [a0K,a0K,List.flatMap_map];exact congrArg (fun g=>List.flatMap g L) (funext fun s=>b28 h1 h2 s)
theorem a5v {f:Int} {t:Option Int} (L:List Sc):j6 (L.map (z8 f t)) 1 f=[]:=by
 rw [a0K,List.flatMap_map,List.flatMap_eq_nil_iff];exact fun s _=>b3c s
theorem a4M {f t:Int}:∀ {L:List Sc},j6 L 2 t=[]->j6 (L.map (z8 f (some t))) 2 t=(j6 L 1 f).map (mvN t)
 |[],_=>rfl
 |s::L,h=>by
  rw [a0K,xl9,xo3] at h;rw [xc0,a0K,xl9,a0K,xl9,xl5,b13 h.1];exact congrArg _ (a4M h.2)
def b51 (A:List Ar) (nf ns:Int) (e:En):Prop:=(q8 A e.page).isSome=true/\((e.kind=1/\0<=e.at_/\e.at_ < nf)\/(e.kind=2/\0<=e.at_/\e.at_ < ns))
theorem a7X {A:List Ar} {nf ns:Int}:∀ {l:List En} {last:Int},a1y A nf ns last l=true ↔ (∀ e ∈ l,b51 A nf ns e/\last < e.page)/\Rises (j8 l)
 |[],last=>by simp [a1y,Rises,j8]
 |e::l,last=>by
  show (a17 A nf ns last e && a1y A nf ns e.page l)=true ↔ _;rw [xb2,a7X (l:=l)];unfold a17;rw [xb2,xb3];show _ ↔ _/\List.Pairwise _ (e.page::j8 l);rw [xd7];constructor
  ·rintro ⟨⟨h1,h2,h3⟩,h4,h5⟩;refine ⟨fun x hx=>?_,fun p hp=>?_,h5⟩
   ·rcases xc4.1 hx with rfl|hx
    ·exact ⟨⟨h1,h3⟩,h2⟩
    ·have:=h4 x hx;exact ⟨this.1,by omega⟩
   ·obtain ⟨x,hx,rfl⟩:=xm5.1 hp;exact (h4 x hx).2
  ·rintro ⟨h1,h2,h3⟩;have h0:=h1 e xc5;exact ⟨⟨h0.1.1,h0.2,h0.1.2⟩,fun x hx=>⟨(h1 x (xc6 _ hx)).1,h2 _ (xm5.2 ⟨x,hx,rfl⟩)⟩,h3⟩
structure b0X (sh:List Sh) (nf ns:Int) (s:Sc):Prop where
 dead:s.live=false->s.areas=[]/\s.entries=[]
 ar:l5 s.areas=0
 pages:a1L sh s.areas=true
 ents:∀ e ∈ s.entries,b51 s.areas nf ns e
 rises:Rises (j8 s.entries)
theorem a1b {sh:List Sh} {nf ns:Int} {s:Sc}:t9 sh nf ns s=true ↔ b0X sh nf ns s:=by
 unfold t9
 cases hl:s.live with
 |false=>
  rw [xf1 (by simp),xb3];constructor
  ·rintro ⟨h1,h2⟩;refine ⟨fun _=>⟨h1,h2⟩,by rw [h1];rfl,by rw [h1];rfl,by rw [h2];simp,by rw [h2];exact List.Pairwise.nil⟩
  ·exact fun h=>h.dead hl
 |true=>
  rw [xf0 rfl,xb2,xb2,xb3,a7X];constructor
  ·rintro ⟨h1,h2,h3,h4⟩;exact ⟨fun h=>(by rw [hl] at h;cases h),h1,h2,fun e he=>(h3 e he).1,h4⟩
  ·intro h;exact ⟨h.ar,h.pages,fun e he=>⟨h.ents e he,a6z h.ar (h.ents e he).1⟩,h.rises⟩
theorem a2H (f:Int) (t:Option Int):∀ (l:List En),(j8 (l.filterMap (o8 f t))).Sublist (j8 l)
 |[]=>xl8 _
 |e::l=>by
  have ih:=a2H f t l;rw [xm9];unfold o8;by_cases he:e.kind=1/\e.at_=f
  ·rw [xf0 he]
   cases t with
   |none=>exact xm1 _ ih
   |some s=>exact List.Sublist.cons_cons _ ih
  ·rw [xf1 he];exact List.Sublist.cons_cons _ ih
theorem b2E {sh:List Sh} {nf ns f:Int} {t:Option Int} {s:Sc} (h:b0X sh nf ns s) (ht:∀ a,t=some a->0<=a/\a < ns):b0X sh nf ns (z8 f t s):=by
 refine ⟨fun hl=>⟨(h.dead hl).1,?_⟩,h.ar,h.pages,fun e he=>?_,h.rises.sublist (a2H f t s.entries)⟩
 ·show s.entries.filterMap _=[];rw [(h.dead hl).2];rfl
 ·replace he:e ∈ s.entries.filterMap (o8 f t):=he;obtain ⟨x,hx,hxe⟩:=List.mem_filterMap.1 he;have h1:=h.ents x hx;unfold o8 at hxe
  split at hxe
  ·cases t with
   |none=>cases hxe
   |some a=>
    cases hxe
    exact ⟨h1.1,xd3 ⟨rfl,ht a rfl⟩⟩
  ·cases hxe
   exact h1
theorem a5I (f:Int) (t:Option Int) (L:List Sc):a0n (L.map (z8 f t))=a0n L:=by
 unfold a0n;rw [xn6];rfl
theorem p9 {l:List Fm} {i:Nat} {f:Fm} (h:l[i]?=some f):m6 l i=f:=by unfold m6;rw [h];rfl
theorem a1J {l:List Sw} {i:Nat} {f:Sw} (h:l[i]?=some f):a0J l i=f:=by unfold a0J;rw [h];rfl
theorem a2v {l:List Sw} {t:Nat} (h:a2a l=some t):∃ s,l[t]?=some s/\s.refs=0:=by
 unfold a2a at h;rw [xl0] at h;obtain ⟨h1,h2,-⟩:=h;exact ⟨l[t],xe1 h1,xn9 h2⟩
theorem b0P {l:List Fm} {t:Nat} (h:a2O l=some t):∃ s,l[t]?=some s/\s.refs=0:=by
 unfold a2O at h;rw [xl0] at h;obtain ⟨h1,h2,-⟩:=h;exact ⟨l[t],xe1 h1,xn9 h2⟩
theorem a4t {l:List Fm} (h:a2O l=none):∀ f ∈ l,f.refs≠0:=by
 unfold a2O at h;rw [xk9] at h;intro f hf;have:=h f hf
 simpa using this
theorem b0E {l:List Sw} (h:a2a l=none):∀ f ∈ l,f.refs≠0:=by
 unfold a2a at h;rw [xk9] at h;intro f hf;have:=h f hf
 simpa using this
theorem SwOk.free {s:Sw} {N:List Nm} (h:SwOk s N) (h0:s.refs=0):N=[]/\s=sw0:=by
 have h1:=h.refs;have:N=[]:=xf3 (by omega);exact ⟨this,h.nil this⟩
theorem FmOk.free {sh:List Sh} {s:Fm} {N:List Nm} (h:FmOk sh s N) (h0:s.refs=0):N=[]/\s=fm0:=by
 have h1:=h.refs;have:N=[]:=xf3 (by omega);exact ⟨this,h.nil this⟩
theorem FmOk.zero (sh:List Sh):FmOk sh fm0 []:=⟨rfl,fun _=>rfl,fun h=>absurd rfl h,(fun _ h=>by cases h),(fun _ h=>by cases h)⟩
theorem SwOk.zero:SwOk sw0 []:=⟨rfl,fun _=>rfl,fun h=>absurd rfl h,(fun _ h=>by cases h)⟩
theorem b1n {α:Type} {l:List α} {i j:Nat} {x y:α} (h:(l.set i x)[j]?=some y):(i=j/\y=x/\j < l.length)\/(i≠j/\l[j]?=some y):=by
 rw [xe0] at h;by_cases e:i=j
 ·rw [xf0 e] at h
  split at h
  ·rename_i hl;cases h;exact xd6 ⟨e,rfl,e ▸ hl⟩
  ·cases h
 ·rw [xf1 e] at h;exact xd3 ⟨e,h⟩
theorem a8m {K:Ker} (h:Right K) {f:Nat} (hf:f < K.frames.length) (hfree:(m6 K.frames f).dirty=true->∃ t,a2a K.slots=some t):Right (t4 K f):=by
 obtain ⟨hc,hr,hh,hsp,hroom,hfr,hsl⟩:=h;have hff:=xe1 hf;have hfo:=hfr f _ hff;have hmap:∀ (t:Option Int),(∀ a,t=some a->0<=a/\a < (K.slots.length:Int))->∀ s ∈ K.spaces.map (z8 (f:Nat) t),t9 K.sheets K.frames.length K.slots.length s=true:=fun t ht s hs=>by
  obtain ⟨x,hx,rfl⟩:=xm5.1 hs;exact a1b.2 (b2E (a1b.1 (hsp x hx)) ht)
 have hfrn:∀ (t:Option Int) (i:Nat) g,(K.frames.set f fm0)[i]?=some g->FmOk K.sheets g (j6 (K.spaces.map (z8 (f:Nat) t)) 1 (i:Nat)):=fun t i g hg=>by
  rcases b1n hg with ⟨rfl,rfl,_⟩|⟨hne,hg⟩
  ·rw [a5v];exact FmOk.zero _
  ·rw [a3s (by omega) (fun h=>by omega)];exact hfr i g hg
 unfold t4 a0w
 cases hd:(m6 K.frames f).dirty with
 |false=>
  rw [xf1 (by simp)];refine ⟨by simpa using hc,hr,by simpa using hh,by simpa using hmap none (fun a h=>by cases h),by rw [a5I];exact hroom,hfrn none,fun i s hs=>?_⟩;dsimp only at hs |-;rw [a3s (by omega) (fun _ h=>by cases h)];exact hsl i s hs
 |true=>
  obtain ⟨t,ht⟩:=hfree hd;obtain ⟨s0,hs0,hs1⟩:=a2v ht;have htl:=d6 hs0;have hz:=(hsl t s0 hs0).free hs1;rw [xf0 rfl,ht];rw [p9 hff] at hd |-;refine ⟨by simpa using hc,hr,by simpa using hh,by simpa using hmap (some (t:Nat)) (fun a h=>by cases h;omega),by rw [a5I];simpa using hroom,hfrn (some (t:Nat)),fun i s hs=>?_⟩;dsimp only [Option.map,Option.getD] at hs |-;rcases b1n hs with ⟨rfl,rfl,_⟩|⟨hne,hs⟩
  ·rw [a4M hz.1];refine ⟨by rw [xi9];exact hfo.refs,fun hn=>?_,fun hn=>hfo.len (fun e=>hn (by rw [e];rfl)),fun n hn m hm=>?_⟩
   ·rw [List.map_eq_nil_iff] at hn;rw [hfo.nil hn] at hd
    cases hd
   ·obtain ⟨n',hn',rfl⟩:=xm5.1 hn;obtain ⟨m',hm',rfl⟩:=xm5.1 hm;exact hfo.same n' hn' m' hm'
  ·rw [a3s (by omega) (fun _ h=>by cases h;omega)];exact hsl i s hs
end Go.Proofs.YtejnpppejalhfabGreat
