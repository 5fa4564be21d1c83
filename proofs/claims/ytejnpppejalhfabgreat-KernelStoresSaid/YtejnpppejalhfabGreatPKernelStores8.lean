/- Texts that the proof stands on, one behind the other: Ke11, PlKer4, PlRun, PlRun2. -/
import Derived.Test.YtejnpppejalhfabGreatPKernelStores7
set_option linter.unusedVariables false
set_option linter.unusedSimpArgs false
namespace Go.Proofs.YtejnpppejalhfabGreat
set_option maxRecDepth 100000
set_option maxHeartbeats 8000000
open Go.RowKit Go.Sort
theorem a22 {A:List Ar} {nf ns last:Int} {e:En} (hs:(o9 A e.page).isSome=true) (hl:last < e.page) (h:(e.kind=1/\0<=e.at_/\e.at_ < nf)\/(e.kind=2/\0<=e.at_/\e.at_ < ns)):a13 A nf ns last e=true:=by
 unfold a13;rw [hs,xq1];exact xj7 ⟨hl,h⟩
theorem a1t {A:List Ar} {nf ns last:Int} {e:En} (_hl:last < e.page) (h:¬((e.kind=1/\0<=e.at_/\e.at_ < nf)\/(e.kind=2/\0<=e.at_/\e.at_ < ns))):a13 A nf ns last e=false:=by
 unfold a13;rw [xj5 (fun hh=>h hh.2),xq9]
theorem a8H {w:World} {k:KV} {p:Sp} (hK:KerV w k) (hp:SpV w p):Fn Tryz.prog 69 [.agg (kvC k).toArray,.agg (spC p).toArray] w (RBf (.bool (t3 (shs k.sh) k.fr.length k.sl.length p.s)) w):=by
 have b2:=hK.fr.bound;have b3:=hK.sl.bound;obtain ⟨sh,fr,sl,sp,hand,vsh,vfr,vsl,vsp⟩:=k;obtain ⟨k1,k2,k3,k4,k5⟩:=hK;dsimp only at k1 k2 k3 k4 k5 b2 b3 |-;have hso:=fun w1 q (h:ShsV w1 sh vsh)=>a6d h q;obtain ⟨p1,c1,rfl⟩:=k1.sl.len;obtain ⟨p2,c2,rfl⟩:=k2.len;obtain ⟨p3,c3,rfl⟩:=k3.len;obtain ⟨p4,c4,rfl⟩:=k4.len;obtain ⟨s,va,ve⟩:=p;obtain ⟨live,A,es⟩:=s;have har:=hp.ar;have hen:=hp.en;dsimp only at har hen;have bA:=har.bound;have bE:=hen.bound;obtain ⟨pa,ca,rfl⟩:=har.len;obtain ⟨pe,ce,rfl⟩:=hen.len;unfold kvC spC t3;dsimp only
 cases live with
 |false=>
  simp only [xp3,if_false];by_cases hA:A.length=0
  ·have hd:decide ((A.length:Int)=0)=true:=xj7 (by omega);refine yEn Tryz.func69 Tryz.ntmps69 (by kernel_rfl) (by kernel_rfl) rfl rfl ?_;have hS:=St.start w
   repeat' (first|(with_reducible apply a8 a7);rfl;rfl;rfl|(with_reducible apply a9);rfl;(first|apply Ld.sc a7;rfl;exact hS.blkC 0 rfl rfl|apply Ld.sl a7;rfl;exact hS.blkC 0 rfl rfl);rfl|refine yDn (by with_reducible constructor) ?_|(with_reducible apply k6);(iterate 4 rfl);assumption|(with_reducible apply f7);rfl;assumption;rfl;rfl|(with_reducible apply f6);rfl;rfl|(with_reducible apply l9 hS);rfl;rfl;rfl;clear hS;intro g w' hS)
   (refine k8 rfl ?_)
   refine ⟨?_,hS.sub (xj6 _)⟩
   congr 1
   refine xo6.2 ⟨fun h=>⟨xf4 hA,xf4 (by omega)⟩,fun h=>by rw [h.2];rfl⟩
  ·have hd:decide ((A.length:Int)=0)=false:=xj5 (by omega);refine yEn Tryz.func69 Tryz.ntmps69 (by kernel_rfl) (by kernel_rfl) rfl rfl ?_;have hS:=St.start w
   repeat' (first|(with_reducible apply a8 a7);rfl;rfl;rfl|(with_reducible apply a9);rfl;(first|apply Ld.sc a7;rfl;exact hS.blkC 0 rfl rfl|apply Ld.sl a7;rfl;exact hS.blkC 0 rfl rfl);rfl|refine yDn (by with_reducible constructor) ?_|(with_reducible apply r9);(iterate 4 rfl);assumption;rfl|(with_reducible apply d9);rfl;assumption;rfl;rfl|(with_reducible apply f6);rfl;rfl|(with_reducible apply l9 hS);rfl;rfl;rfl;clear hS;intro g w' hS)
   (refine k8 rfl ?_)
   refine ⟨?_,hS.sub (xj6 _)⟩;rw [xj5 (fun h=>hA (by rw [h.1];rfl))]
 |true=>
  simp only [if_true];have hchk:=fun w1 (h:Sl nF w1 4 (.slice pa A.length ca) (A.map arC))=>a7f h;by_cases hc:l7 A=0;rotate_left
  ·have hd:(!decide (l7 A=0))=true:=by rw [xj5 hc];rfl
   rw [xj5 hc,xq2];refine yEn Tryz.func69 Tryz.ntmps69 (by kernel_rfl) (by kernel_rfl) rfl rfl ?_;have hS:=St.start w
   repeat' (first|(with_reducible apply a8 a7);rfl;rfl;rfl|(with_reducible apply a9);rfl;(first|apply Ld.sc a7;rfl;exact hS.blkC 0 rfl rfl|apply Ld.sl a7;rfl;exact hS.blkC 0 rfl rfl);rfl|refine yDn (by with_reducible constructor) ?_|(with_reducible apply f6);rfl;assumption|(with_reducible apply f8);rfl;rfl|(with_reducible apply l9 hS);rfl;rfl;rfl;clear hS;intro g w' hS|(with_reducible apply d6 hS);rfl;rfl;rfl;refine ⟨_,hchk _ (har.now hS),?_⟩;clear hS;intro w' hS)
   (refine k8 rfl ?_)
   exact ⟨rfl,hS.sub (xj6 _)⟩
  have hd:(!decide (l7 A=0))=false:=by rw [xj7 hc];rfl
  obtain ⟨hAl,hgood⟩:=v6.1 hc;have hok:=a0Q hgood;rw [xj7 hc,xq1];refine yEn Tryz.func69 Tryz.ntmps69 (by kernel_rfl) (by kernel_rfl) rfl rfl ?_;have hS:=St.start w
  repeat' (first|(with_reducible apply a8 a7);rfl;rfl;rfl|(with_reducible apply a9);rfl;(first|apply Ld.sc a7;rfl;exact hS.blkC 0 rfl rfl|apply Ld.sl a7;rfl;exact hS.blkC 0 rfl rfl);rfl|refine yDn (by with_reducible constructor) ?_|((with_reducible apply f8);rfl;first|rfl|assumption)|(with_reducible apply l9 hS);rfl;rfl;rfl;clear hS;intro g w' hS|(with_reducible apply d6 hS);rfl;rfl;rfl;refine ⟨_,hchk _ (har.now hS),?_⟩;clear hS;intro w' hS)
  refine l5 (X:=Nat×Int) (fun x=>[(5,.int .i64 (x.1:Nat))]) [2,3] rfl (fun _=>[]) (fun x=>x.1<=es.length/\((x.1=0/\x.2=0)\/(0 < x.1/\∃ y,es[x.1 - 1]?=some y/\x.2=y.page))/\a1s A fr.length sl.length 0 es=a1s A fr.length sl.length x.2 (es.drop x.1)) (fun x=>es.length - x.1) (0,0) (by exact Fr.sub_of rfl) ⟨xg5 _,xd6 ⟨rfl,rfl⟩,by simp⟩ hS ?_;clear hS;rintro ⟨i,last⟩ w1 ⟨hi,hlast,hents⟩ hS;dsimp only [List.cons_append,List.nil_append] at hi hlast hents hS |-;by_cases hlt:i < es.length
  ·obtain ⟨e,he⟩:=j5 (l:=es) (i:=i) (by omega);have hrow:=d5 (f:=enC) he;obtain ⟨b,off,rfl,hro⟩:=hen.at_ (i:=i) hlt;unfold enC at hrow;have haa:=fun w1 (h:Sl nF w1 4 (.slice pa A.length ca) (A.map arC))=>a2Q e.page h hok;unfold a1I arC at haa;have hstep:=a7s (A:=A) (nf:=fr.length) (ns:=sl.length) (last:=last) he;rw [hstep] at hents;rw [hents]
   cases hsm:(o9 A e.page).isSome with
   |false=>
    rw [hsm] at haa;have hE:a13 A fr.length sl.length last e=false:=by unfold a13;rw [hsm,xq2]
    rw [hE,xq2,xq9]
    repeat' (first|(with_reducible apply a8 a7);rfl;rfl;rfl|(with_reducible apply a9);rfl;(first|apply Ld.sc a7;rfl;exact hS.blkC 0 rfl rfl|apply Ld.sl a7;rfl;(first|exact hS.blkC 0 rfl rfl|exact hS.blkC 1 rfl rfl)|apply Ld.st a7;rfl;exact hS.roR (by assumption) (by assumption);rfl);rfl|(with_reducible apply l8 a7);rfl;rfl;rfl;rfl;omega;rfl|refine yDn (by with_reducible constructor) ?_|(with_reducible apply d7 hS a7);rfl;rfl;rfl;clear hS;intro g w' hS|(with_reducible apply b8 hS a7 (i:=0));(iterate 8 rfl);(first|exact (rfl:_=[_,_,_])|exact (rfl:_=[_,_,_,_]));clear hS;intro w' hS;simp only [List.set] at hS|(with_reducible apply b9);rfl;all_goals (intro hb hp;try (exfalso;omega))|(with_reducible apply d6 hS);rfl;rfl;rfl;refine ⟨_,haa _ (har.now hS),?_⟩;clear hS;intro w' hS)
    (focus ((with_reducible apply d8 _ _ _ (by kernel_rfl) (by kernel_rfl) hS);(repeat' ((first|(with_reducible apply i9 a7);rfl;rfl|(first|(with_reducible apply a2j);(iterate 4 rfl);rfl;rfl|(with_reducible apply a2A);(iterate 5 rfl)|(with_reducible apply t7);rfl;rfl;rfl;rfl))));all_goals ((with_reducible apply j9);intro w' hS';clear hS;have hS:=hS';clear hS')))
    repeat' (first|(with_reducible apply a8 a7);rfl;rfl;rfl|refine yDn (by with_reducible constructor) ?_|(with_reducible apply f6);rfl;rfl)
    (refine k8 rfl ?_)
    exact ⟨rfl,hS.sub (xj6 _)⟩
   |true=>
    rw [hsm] at haa;have hpos:=a6O hc hsm;obtain ⟨a,hag⟩:∃ a,(o9 A e.page).getD a2H=a:=⟨_,rfl⟩;rw [hag] at haa;rcases hlast with ⟨hi0,rfl⟩|⟨hi0,y,hy,rfl⟩
    ·have hl:(0:Int) < e.page:=hpos;by_cases k1':e.kind=1
     ·by_cases r:0<=e.at_/\e.at_<=(fr.length:Int) - 1
      ·have hE:=a22 (A:=A) (nf:=fr.length) (ns:=sl.length) hsm hl (xd6 ⟨k1',by omega,by omega⟩);rw [hE,xq1]
       repeat' (first|(with_reducible apply a8 a7);rfl;rfl;rfl|(with_reducible apply a9);rfl;(first|apply Ld.sc a7;rfl;exact hS.blkC 0 rfl rfl|apply Ld.sl a7;rfl;(first|exact hS.blkC 0 rfl rfl|exact hS.blkC 1 rfl rfl)|apply Ld.st a7;rfl;exact hS.roR (by assumption) (by assumption);rfl);rfl|(with_reducible apply l8 a7);rfl;rfl;rfl;rfl;omega;rfl|refine yDn (by with_reducible constructor) ?_|(with_reducible apply d7 hS a7);rfl;rfl;rfl;clear hS;intro g w' hS|(with_reducible apply b8 hS a7 (i:=0));(iterate 8 rfl);(first|exact (rfl:_=[_,_,_])|exact (rfl:_=[_,_,_,_]));clear hS;intro w' hS;simp only [List.set] at hS|(with_reducible apply b9);rfl;all_goals (intro hb hp;try (exfalso;omega))|(with_reducible apply d6 hS);rfl;rfl;rfl;refine ⟨_,haa _ (har.now hS),?_⟩;clear hS;intro w' hS)
       (focus ((with_reducible apply d8 _ _ _ (by kernel_rfl) (by kernel_rfl) hS);(repeat' ((first|(with_reducible apply i9 a7);rfl;rfl|(first|(with_reducible apply a0p);(iterate 4 rfl);rfl|(with_reducible apply a2j);(iterate 4 rfl);assumption;rfl|(with_reducible apply a0D);rfl;rfl;rfl;all_goals (intro hb hp;try (exfalso;omega))|(with_reducible apply r7);rfl;(first|rfl|assumption);rfl;rfl))));all_goals ((with_reducible apply j9);intro w' hS';clear hS;have hS:=hS';clear hS')))
       repeat' (first|(with_reducible apply a8 a7);rfl;rfl;rfl|(with_reducible apply a9);rfl;(first|apply Ld.sc a7;rfl;exact hS.blkC 1 rfl rfl|apply Ld.sl a7;rfl;exact hS.blkC 3 rfl rfl);rfl|(with_reducible apply j4);rfl;rfl;omega;omega;rfl|(with_reducible apply a0h);rfl;rfl;omega;omega;rfl|refine yDn (by with_reducible constructor) ?_|(with_reducible apply f8);rfl;rfl|(with_reducible apply b9);rfl;all_goals (intro hb hp;try (exfalso;omega))|(with_reducible apply a1u);rfl;all_goals (intro hb hp;try (exfalso;omega))|(with_reducible apply d6 hS);rfl;rfl;rfl;refine ⟨_,o4 _ _ _ _,?_⟩;clear hS;intro w' hS)
       exact e9 (i + 1,e.page) (by exact Fr.sub_of rfl) ⟨by show i + 1<=es.length;omega,xd3 ⟨by show 0 < i + 1;omega,_,he,rfl⟩,rfl⟩ hS.drop.drop (by show es.length - (i + 1) < es.length - i;omega)
      ·have hE:=a1t (A:=A) (nf:=fr.length) (ns:=sl.length) hl (fun h:(e.kind=1/\0<=e.at_/\e.at_ < (fr.length:Int))\/(e.kind=2/\0<=e.at_/\e.at_ < (sl.length:Int))=>by omega);rw [hE,xq2,xq9]
       repeat' (first|(with_reducible apply a8 a7);rfl;rfl;rfl|(with_reducible apply a9);rfl;(first|apply Ld.sc a7;rfl;exact hS.blkC 0 rfl rfl|apply Ld.sl a7;rfl;(first|exact hS.blkC 0 rfl rfl|exact hS.blkC 1 rfl rfl)|apply Ld.st a7;rfl;exact hS.roR (by assumption) (by assumption);rfl);rfl|(with_reducible apply l8 a7);rfl;rfl;rfl;rfl;omega;rfl|refine yDn (by with_reducible constructor) ?_|(with_reducible apply d7 hS a7);rfl;rfl;rfl;clear hS;intro g w' hS|(with_reducible apply b8 hS a7 (i:=0));(iterate 8 rfl);(first|exact (rfl:_=[_,_,_])|exact (rfl:_=[_,_,_,_]));clear hS;intro w' hS;simp only [List.set] at hS|(with_reducible apply b9);rfl;all_goals (intro hb hp;try (exfalso;omega))|(with_reducible apply d6 hS);rfl;rfl;rfl;refine ⟨_,haa _ (har.now hS),?_⟩;clear hS;intro w' hS)
       (focus ((with_reducible apply d8 _ _ _ (by kernel_rfl) (by kernel_rfl) hS);(repeat' ((first|(with_reducible apply i9 a7);rfl;rfl|(first|(with_reducible apply a0p);(iterate 4 rfl);rfl|(with_reducible apply a2j);(iterate 4 rfl);assumption;rfl|(with_reducible apply a0D);rfl;rfl;rfl;all_goals (intro hb hp;try (exfalso;omega))|(with_reducible apply r7);rfl;(first|rfl|assumption);rfl;rfl))));all_goals ((with_reducible apply j9);intro w' hS';clear hS;have hS:=hS';clear hS')))
       repeat' (first|(with_reducible apply a8 a7);rfl;rfl;rfl|(with_reducible apply a9);rfl;(first|apply Ld.sc a7;rfl;exact hS.blkC 1 rfl rfl|apply Ld.sl a7;rfl;exact hS.blkC 3 rfl rfl);rfl|(with_reducible apply a0h);rfl;rfl;omega;omega;rfl|refine yDn (by with_reducible constructor) ?_|(with_reducible apply f8);rfl;rfl|(with_reducible apply b9);rfl;all_goals (intro hb hp;try (exfalso;omega))|(with_reducible apply a1u);rfl;all_goals (intro hb hp;try (exfalso;omega))|(with_reducible apply d6 hS);rfl;rfl;rfl;refine ⟨_,o4 _ _ _ _,?_⟩;clear hS;intro w' hS)
       (refine k8 rfl ?_)
       exact ⟨rfl,hS.sub (xj6 _)⟩
     ·by_cases k2':e.kind=2
      ·by_cases r:0<=e.at_/\e.at_<=(sl.length:Int) - 1
       ·have hE:=a22 (A:=A) (nf:=fr.length) (ns:=sl.length) hsm hl (xd3 ⟨k2',by omega,by omega⟩);rw [hE,xq1]
        repeat' (first|(with_reducible apply a8 a7);rfl;rfl;rfl|(with_reducible apply a9);rfl;(first|apply Ld.sc a7;rfl;exact hS.blkC 0 rfl rfl|apply Ld.sl a7;rfl;(first|exact hS.blkC 0 rfl rfl|exact hS.blkC 1 rfl rfl)|apply Ld.st a7;rfl;exact hS.roR (by assumption) (by assumption);rfl);rfl|(with_reducible apply l8 a7);rfl;rfl;rfl;rfl;omega;rfl|refine yDn (by with_reducible constructor) ?_|(with_reducible apply d7 hS a7);rfl;rfl;rfl;clear hS;intro g w' hS|(with_reducible apply b8 hS a7 (i:=0));(iterate 8 rfl);(first|exact (rfl:_=[_,_,_])|exact (rfl:_=[_,_,_,_]));clear hS;intro w' hS;simp only [List.set] at hS|(with_reducible apply b9);rfl;all_goals (intro hb hp;try (exfalso;omega))|(with_reducible apply d6 hS);rfl;rfl;rfl;refine ⟨_,haa _ (har.now hS),?_⟩;clear hS;intro w' hS)
        (focus ((with_reducible apply d8 _ _ _ (by kernel_rfl) (by kernel_rfl) hS);(repeat' ((first|(with_reducible apply i9 a7);rfl;rfl|(first|(with_reducible apply a0p);(iterate 4 rfl);rfl|(with_reducible apply a2j);(iterate 4 rfl);assumption;rfl|(with_reducible apply a0D);rfl;rfl;rfl;all_goals (intro hb hp;try (exfalso;omega))|(with_reducible apply r7);rfl;(first|rfl|assumption);rfl;rfl))));all_goals ((with_reducible apply j9);intro w' hS';clear hS;have hS:=hS';clear hS')))
        repeat' (first|(with_reducible apply a8 a7);rfl;rfl;rfl|(with_reducible apply a9);rfl;(first|apply Ld.sc a7;rfl;exact hS.blkC 1 rfl rfl|apply Ld.sl a7;rfl;exact hS.blkC 3 rfl rfl);rfl|(with_reducible apply j4);rfl;rfl;omega;omega;rfl|(with_reducible apply a0h);rfl;rfl;omega;omega;rfl|refine yDn (by with_reducible constructor) ?_|(with_reducible apply f8);rfl;rfl|(with_reducible apply b9);rfl;all_goals (intro hb hp;try (exfalso;omega))|(with_reducible apply a1u);rfl;all_goals (intro hb hp;try (exfalso;omega))|(with_reducible apply d6 hS);rfl;rfl;rfl;refine ⟨_,o4 _ _ _ _,?_⟩;clear hS;intro w' hS)
        exact e9 (i + 1,e.page) (by exact Fr.sub_of rfl) ⟨by show i + 1<=es.length;omega,xd3 ⟨by show 0 < i + 1;omega,_,he,rfl⟩,rfl⟩ hS.drop.drop (by show es.length - (i + 1) < es.length - i;omega)
       ·have hE:=a1t (A:=A) (nf:=fr.length) (ns:=sl.length) hl (fun h:(e.kind=1/\0<=e.at_/\e.at_ < (fr.length:Int))\/(e.kind=2/\0<=e.at_/\e.at_ < (sl.length:Int))=>by omega);rw [hE,xq2,xq9]
        repeat' (first|(with_reducible apply a8 a7);rfl;rfl;rfl|(with_reducible apply a9);rfl;(first|apply Ld.sc a7;rfl;exact hS.blkC 0 rfl rfl|apply Ld.sl a7;rfl;(first|exact hS.blkC 0 rfl rfl|exact hS.blkC 1 rfl rfl)|apply Ld.st a7;rfl;exact hS.roR (by assumption) (by assumption);rfl);rfl|(with_reducible apply l8 a7);rfl;rfl;rfl;rfl;omega;rfl|refine yDn (by with_reducible constructor) ?_|(with_reducible apply d7 hS a7);rfl;rfl;rfl;clear hS;intro g w' hS|(with_reducible apply b8 hS a7 (i:=0));(iterate 8 rfl);(first|exact (rfl:_=[_,_,_])|exact (rfl:_=[_,_,_,_]));clear hS;intro w' hS;simp only [List.set] at hS|(with_reducible apply b9);rfl;all_goals (intro hb hp;try (exfalso;omega))|(with_reducible apply d6 hS);rfl;rfl;rfl;refine ⟨_,haa _ (har.now hS),?_⟩;clear hS;intro w' hS)
        (focus ((with_reducible apply d8 _ _ _ (by kernel_rfl) (by kernel_rfl) hS);(repeat' ((first|(with_reducible apply i9 a7);rfl;rfl|(first|(with_reducible apply a0p);(iterate 4 rfl);rfl|(with_reducible apply a2j);(iterate 4 rfl);assumption;rfl|(with_reducible apply a0D);rfl;rfl;rfl;all_goals (intro hb hp;try (exfalso;omega))|(with_reducible apply r7);rfl;(first|rfl|assumption);rfl;rfl))));all_goals ((with_reducible apply j9);intro w' hS';clear hS;have hS:=hS';clear hS')))
        repeat' (first|(with_reducible apply a8 a7);rfl;rfl;rfl|(with_reducible apply a9);rfl;(first|apply Ld.sc a7;rfl;exact hS.blkC 1 rfl rfl|apply Ld.sl a7;rfl;exact hS.blkC 3 rfl rfl);rfl|(with_reducible apply a0h);rfl;rfl;omega;omega;rfl|refine yDn (by with_reducible constructor) ?_|(with_reducible apply f8);rfl;rfl|(with_reducible apply b9);rfl;all_goals (intro hb hp;try (exfalso;omega))|(with_reducible apply a1u);rfl;all_goals (intro hb hp;try (exfalso;omega))|(with_reducible apply d6 hS);rfl;rfl;rfl;refine ⟨_,o4 _ _ _ _,?_⟩;clear hS;intro w' hS)
        (refine k8 rfl ?_)
        exact ⟨rfl,hS.sub (xj6 _)⟩
      ·have hE:=a1t (A:=A) (nf:=fr.length) (ns:=sl.length) hl (fun h:(e.kind=1/\0<=e.at_/\e.at_ < (fr.length:Int))\/(e.kind=2/\0<=e.at_/\e.at_ < (sl.length:Int))=>by omega);rw [hE,xq2,xq9]
       repeat' (first|(with_reducible apply a8 a7);rfl;rfl;rfl|(with_reducible apply a9);rfl;(first|apply Ld.sc a7;rfl;exact hS.blkC 0 rfl rfl|apply Ld.sl a7;rfl;(first|exact hS.blkC 0 rfl rfl|exact hS.blkC 1 rfl rfl)|apply Ld.st a7;rfl;exact hS.roR (by assumption) (by assumption);rfl);rfl|(with_reducible apply l8 a7);rfl;rfl;rfl;rfl;omega;rfl|refine yDn (by with_reducible constructor) ?_|(with_reducible apply d7 hS a7);rfl;rfl;rfl;clear hS;intro g w' hS|(with_reducible apply b8 hS a7 (i:=0));(iterate 8 rfl);(first|exact (rfl:_=[_,_,_])|exact (rfl:_=[_,_,_,_]));clear hS;intro w' hS;simp only [List.set] at hS|(with_reducible apply b9);rfl;all_goals (intro hb hp;try (exfalso;omega))|(with_reducible apply d6 hS);rfl;rfl;rfl;refine ⟨_,haa _ (har.now hS),?_⟩;clear hS;intro w' hS)
       (focus ((with_reducible apply d8 _ _ _ (by kernel_rfl) (by kernel_rfl) hS);(repeat' ((first|(with_reducible apply i9 a7);rfl;rfl|(first|(with_reducible apply a0p);(iterate 4 rfl);rfl|(with_reducible apply a2j);(iterate 4 rfl);assumption;rfl|(with_reducible apply a0D);rfl;rfl;rfl;all_goals (intro hb hp;try (exfalso;omega))|(with_reducible apply r7);rfl;(first|rfl|assumption);rfl;rfl))));all_goals ((with_reducible apply j9);intro w' hS';clear hS;have hS:=hS';clear hS')))
       repeat' (first|(with_reducible apply a8 a7);rfl;rfl;rfl|(with_reducible apply a9);rfl;(apply Ld.sc a7;rfl;exact hS.blkC 1 rfl rfl);rfl|refine yDn (by with_reducible constructor) ?_|(with_reducible apply f6);rfl;rfl|(with_reducible apply f8);rfl;rfl|(with_reducible apply b9);rfl;all_goals (intro hb hp;try (exfalso;omega)))
       (refine k8 rfl ?_)
       exact ⟨rfl,hS.sub (xj6 _)⟩
    ·have e1:((i:Int) - 1).toNat=i - 1:=by omega
     have hrow2:(es.map fun (e:En)=>[Value.int .i64 e.page,Value.int .i64 e.kind,Value.int .i64 e.at_])[((i:Int) - 1).toNat]?=some [.int .i64 y.page,.int .i64 y.kind,.int .i64 y.at_]:=by rw [e1];exact d5 (f:=enC) hy
     by_cases hl:y.page < e.page
     ·by_cases k1':e.kind=1
      ·by_cases r:0<=e.at_/\e.at_<=(fr.length:Int) - 1
       ·have hE:=a22 (A:=A) (nf:=fr.length) (ns:=sl.length) hsm hl (xd6 ⟨k1',by omega,by omega⟩);rw [hE,xq1]
        repeat' (first|(with_reducible apply a8 a7);rfl;rfl;rfl|(with_reducible apply a9);rfl;(first|apply Ld.sc a7;rfl;exact hS.blkC 0 rfl rfl|apply Ld.sl a7;rfl;(first|exact hS.blkC 0 rfl rfl|exact hS.blkC 1 rfl rfl)|apply Ld.st a7;rfl;exact hS.roR (by assumption) (by assumption);rfl);rfl|(with_reducible apply l8 a7);rfl;rfl;rfl;rfl;omega;rfl|refine yDn (by with_reducible constructor) ?_|(with_reducible apply d7 hS a7);rfl;rfl;rfl;clear hS;intro g w' hS|(with_reducible apply b8 hS a7 (i:=0));(iterate 8 rfl);(first|exact (rfl:_=[_,_,_])|exact (rfl:_=[_,_,_,_]));clear hS;intro w' hS;simp only [List.set] at hS|(with_reducible apply b9);rfl;all_goals (intro hb hp;try (exfalso;omega))|(with_reducible apply d6 hS);rfl;rfl;rfl;refine ⟨_,haa _ (har.now hS),?_⟩;clear hS;intro w' hS)
        (focus ((with_reducible apply d8 _ _ _ (by kernel_rfl) (by kernel_rfl) hS);(repeat' ((first|(with_reducible apply a1B);rfl;rfl;omega;omega;rfl|(with_reducible apply i9 a7);rfl;rfl|(with_reducible apply i7);rfl;(intro wd hd;replace hd:St _ _ wd _:=hd;(first|apply Ld.sc a7;rfl;(first|exact hd.blkC 1 rfl rfl|exact hd.roC0 (by assumption) (by assumption) rfl)|apply Ld.sl a7;rfl;exact hd.blkC 2 rfl rfl));rfl|(with_reducible apply x6 a7);rfl;rfl;rfl;exact xo2 (by omega);omega;rfl|(first|((with_reducible apply a0p);(iterate 4 rfl);first|rfl|assumption)|(with_reducible apply a0D);rfl;rfl;rfl;all_goals (intro hb hp;try (exfalso;omega))|(with_reducible apply t7);rfl;assumption;rfl;rfl|(with_reducible apply r7);rfl;rfl;rfl;rfl))));all_goals ((with_reducible apply j9);intro w' hS';clear hS;have hS:=hS';clear hS')))
        repeat' (first|(with_reducible apply a8 a7);rfl;rfl;rfl|(with_reducible apply a9);rfl;(first|apply Ld.sc a7;rfl;exact hS.blkC 1 rfl rfl|apply Ld.sl a7;rfl;exact hS.blkC 3 rfl rfl);rfl|(with_reducible apply j4);rfl;rfl;omega;omega;rfl|(with_reducible apply a0h);rfl;rfl;omega;omega;rfl|refine yDn (by with_reducible constructor) ?_|(with_reducible apply b9);rfl;all_goals (intro hb hp;try (exfalso;omega))|(with_reducible apply a1u);rfl;all_goals (intro hb hp;try (exfalso;omega))|(with_reducible apply d6 hS);rfl;rfl;rfl;refine ⟨_,o4 _ _ _ _,?_⟩;clear hS;intro w' hS)
        exact e9 (i + 1,e.page) (by exact Fr.sub_of rfl) ⟨by show i + 1<=es.length;omega,xd3 ⟨by show 0 < i + 1;omega,_,he,rfl⟩,rfl⟩ hS.drop.drop (by show es.length - (i + 1) < es.length - i;omega)
       ·have hE:=a1t (A:=A) (nf:=fr.length) (ns:=sl.length) hl (fun h:(e.kind=1/\0<=e.at_/\e.at_ < (fr.length:Int))\/(e.kind=2/\0<=e.at_/\e.at_ < (sl.length:Int))=>by omega);rw [hE,xq2,xq9]
        repeat' (first|(with_reducible apply a8 a7);rfl;rfl;rfl|(with_reducible apply a9);rfl;(first|apply Ld.sc a7;rfl;exact hS.blkC 0 rfl rfl|apply Ld.sl a7;rfl;(first|exact hS.blkC 0 rfl rfl|exact hS.blkC 1 rfl rfl)|apply Ld.st a7;rfl;exact hS.roR (by assumption) (by assumption);rfl);rfl|(with_reducible apply l8 a7);rfl;rfl;rfl;rfl;omega;rfl|refine yDn (by with_reducible constructor) ?_|(with_reducible apply d7 hS a7);rfl;rfl;rfl;clear hS;intro g w' hS|(with_reducible apply b8 hS a7 (i:=0));(iterate 8 rfl);(first|exact (rfl:_=[_,_,_])|exact (rfl:_=[_,_,_,_]));clear hS;intro w' hS;simp only [List.set] at hS|(with_reducible apply b9);rfl;all_goals (intro hb hp;try (exfalso;omega))|(with_reducible apply d6 hS);rfl;rfl;rfl;refine ⟨_,haa _ (har.now hS),?_⟩;clear hS;intro w' hS)
        (focus ((with_reducible apply d8 _ _ _ (by kernel_rfl) (by kernel_rfl) hS);(repeat' ((first|(with_reducible apply a1B);rfl;rfl;omega;omega;rfl|(with_reducible apply i9 a7);rfl;rfl|(with_reducible apply i7);rfl;(intro wd hd;replace hd:St _ _ wd _:=hd;(first|apply Ld.sc a7;rfl;(first|exact hd.blkC 1 rfl rfl|exact hd.roC0 (by assumption) (by assumption) rfl)|apply Ld.sl a7;rfl;exact hd.blkC 2 rfl rfl));rfl|(with_reducible apply x6 a7);rfl;rfl;rfl;exact xo2 (by omega);omega;rfl|(first|((with_reducible apply a0p);(iterate 4 rfl);first|rfl|assumption)|(with_reducible apply a0D);rfl;rfl;rfl;all_goals (intro hb hp;try (exfalso;omega))|(with_reducible apply t7);rfl;assumption;rfl;rfl|(with_reducible apply r7);rfl;rfl;rfl;rfl))));all_goals ((with_reducible apply j9);intro w' hS';clear hS;have hS:=hS';clear hS')))
        repeat' (first|(with_reducible apply a8 a7);rfl;rfl;rfl|(with_reducible apply a9);rfl;(first|apply Ld.sc a7;rfl;exact hS.blkC 1 rfl rfl|apply Ld.sl a7;rfl;exact hS.blkC 3 rfl rfl);rfl|(with_reducible apply a0h);rfl;rfl;omega;omega;rfl|refine yDn (by with_reducible constructor) ?_|(with_reducible apply b9);rfl;all_goals (intro hb hp;try (exfalso;omega))|(with_reducible apply a1u);rfl;all_goals (intro hb hp;try (exfalso;omega))|(with_reducible apply d6 hS);rfl;rfl;rfl;refine ⟨_,o4 _ _ _ _,?_⟩;clear hS;intro w' hS)
        (refine k8 rfl ?_)
        exact ⟨rfl,hS.sub (xj6 _)⟩
      ·by_cases k2':e.kind=2
       ·by_cases r:0<=e.at_/\e.at_<=(sl.length:Int) - 1
        ·have hE:=a22 (A:=A) (nf:=fr.length) (ns:=sl.length) hsm hl (xd3 ⟨k2',by omega,by omega⟩);rw [hE,xq1]
         repeat' (first|(with_reducible apply a8 a7);rfl;rfl;rfl|(with_reducible apply a9);rfl;(first|apply Ld.sc a7;rfl;exact hS.blkC 0 rfl rfl|apply Ld.sl a7;rfl;(first|exact hS.blkC 0 rfl rfl|exact hS.blkC 1 rfl rfl)|apply Ld.st a7;rfl;exact hS.roR (by assumption) (by assumption);rfl);rfl|(with_reducible apply l8 a7);rfl;rfl;rfl;rfl;omega;rfl|refine yDn (by with_reducible constructor) ?_|(with_reducible apply d7 hS a7);rfl;rfl;rfl;clear hS;intro g w' hS|(with_reducible apply b8 hS a7 (i:=0));(iterate 8 rfl);(first|exact (rfl:_=[_,_,_])|exact (rfl:_=[_,_,_,_]));clear hS;intro w' hS;simp only [List.set] at hS|(with_reducible apply b9);rfl;all_goals (intro hb hp;try (exfalso;omega))|(with_reducible apply d6 hS);rfl;rfl;rfl;refine ⟨_,haa _ (har.now hS),?_⟩;clear hS;intro w' hS)
         (focus ((with_reducible apply d8 _ _ _ (by kernel_rfl) (by kernel_rfl) hS);(repeat' ((first|(with_reducible apply a1B);rfl;rfl;omega;omega;rfl|(with_reducible apply i9 a7);rfl;rfl|(with_reducible apply i7);rfl;(intro wd hd;replace hd:St _ _ wd _:=hd;(first|apply Ld.sc a7;rfl;(first|exact hd.blkC 1 rfl rfl|exact hd.roC0 (by assumption) (by assumption) rfl)|apply Ld.sl a7;rfl;exact hd.blkC 2 rfl rfl));rfl|(with_reducible apply x6 a7);rfl;rfl;rfl;exact xo2 (by omega);omega;rfl|(first|((with_reducible apply a0p);(iterate 4 rfl);first|rfl|assumption)|(with_reducible apply a0D);rfl;rfl;rfl;all_goals (intro hb hp;try (exfalso;omega))|(with_reducible apply t7);rfl;assumption;rfl;rfl|(with_reducible apply r7);rfl;rfl;rfl;rfl))));all_goals ((with_reducible apply j9);intro w' hS';clear hS;have hS:=hS';clear hS')))
         repeat' (first|(with_reducible apply a8 a7);rfl;rfl;rfl|(with_reducible apply a9);rfl;(first|apply Ld.sc a7;rfl;exact hS.blkC 1 rfl rfl|apply Ld.sl a7;rfl;exact hS.blkC 3 rfl rfl);rfl|(with_reducible apply j4);rfl;rfl;omega;omega;rfl|(with_reducible apply a0h);rfl;rfl;omega;omega;rfl|refine yDn (by with_reducible constructor) ?_|(with_reducible apply b9);rfl;all_goals (intro hb hp;try (exfalso;omega))|(with_reducible apply a1u);rfl;all_goals (intro hb hp;try (exfalso;omega))|(with_reducible apply d6 hS);rfl;rfl;rfl;refine ⟨_,o4 _ _ _ _,?_⟩;clear hS;intro w' hS)
         exact e9 (i + 1,e.page) (by exact Fr.sub_of rfl) ⟨by show i + 1<=es.length;omega,xd3 ⟨by show 0 < i + 1;omega,_,he,rfl⟩,rfl⟩ hS.drop.drop (by show es.length - (i + 1) < es.length - i;omega)
        ·have hE:=a1t (A:=A) (nf:=fr.length) (ns:=sl.length) hl (fun h:(e.kind=1/\0<=e.at_/\e.at_ < (fr.length:Int))\/(e.kind=2/\0<=e.at_/\e.at_ < (sl.length:Int))=>by omega);rw [hE,xq2,xq9]
         repeat' (first|(with_reducible apply a8 a7);rfl;rfl;rfl|(with_reducible apply a9);rfl;(first|apply Ld.sc a7;rfl;exact hS.blkC 0 rfl rfl|apply Ld.sl a7;rfl;(first|exact hS.blkC 0 rfl rfl|exact hS.blkC 1 rfl rfl)|apply Ld.st a7;rfl;exact hS.roR (by assumption) (by assumption);rfl);rfl|(with_reducible apply l8 a7);rfl;rfl;rfl;rfl;omega;rfl|refine yDn (by with_reducible constructor) ?_|(with_reducible apply d7 hS a7);rfl;rfl;rfl;clear hS;intro g w' hS|(with_reducible apply b8 hS a7 (i:=0));(iterate 8 rfl);(first|exact (rfl:_=[_,_,_])|exact (rfl:_=[_,_,_,_]));clear hS;intro w' hS;simp only [List.set] at hS|(with_reducible apply b9);rfl;all_goals (intro hb hp;try (exfalso;omega))|(with_reducible apply d6 hS);rfl;rfl;rfl;refine ⟨_,haa _ (har.now hS),?_⟩;clear hS;intro w' hS)
         (focus ((with_reducible apply d8 _ _ _ (by kernel_rfl) (by kernel_rfl) hS);(repeat' ((first|(with_reducible apply a1B);rfl;rfl;omega;omega;rfl|(with_reducible apply i9 a7);rfl;rfl|(with_reducible apply i7);rfl;(intro wd hd;replace hd:St _ _ wd _:=hd;(first|apply Ld.sc a7;rfl;(first|exact hd.blkC 1 rfl rfl|exact hd.roC0 (by assumption) (by assumption) rfl)|apply Ld.sl a7;rfl;exact hd.blkC 2 rfl rfl));rfl|(with_reducible apply x6 a7);rfl;rfl;rfl;exact xo2 (by omega);omega;rfl|(first|((with_reducible apply a0p);(iterate 4 rfl);first|rfl|assumption)|(with_reducible apply a0D);rfl;rfl;rfl;all_goals (intro hb hp;try (exfalso;omega))|(with_reducible apply t7);rfl;assumption;rfl;rfl|(with_reducible apply r7);rfl;rfl;rfl;rfl))));all_goals ((with_reducible apply j9);intro w' hS';clear hS;have hS:=hS';clear hS')))
         repeat' (first|(with_reducible apply a8 a7);rfl;rfl;rfl|(with_reducible apply a9);rfl;(first|apply Ld.sc a7;rfl;exact hS.blkC 1 rfl rfl|apply Ld.sl a7;rfl;exact hS.blkC 3 rfl rfl);rfl|(with_reducible apply a0h);rfl;rfl;omega;omega;rfl|refine yDn (by with_reducible constructor) ?_|(with_reducible apply b9);rfl;all_goals (intro hb hp;try (exfalso;omega))|(with_reducible apply a1u);rfl;all_goals (intro hb hp;try (exfalso;omega))|(with_reducible apply d6 hS);rfl;rfl;rfl;refine ⟨_,o4 _ _ _ _,?_⟩;clear hS;intro w' hS)
         (refine k8 rfl ?_)
         exact ⟨rfl,hS.sub (xj6 _)⟩
       ·have hE:=a1t (A:=A) (nf:=fr.length) (ns:=sl.length) hl (fun h:(e.kind=1/\0<=e.at_/\e.at_ < (fr.length:Int))\/(e.kind=2/\0<=e.at_/\e.at_ < (sl.length:Int))=>by omega);rw [hE,xq2,xq9]
        repeat' (first|(with_reducible apply a8 a7);rfl;rfl;rfl|(with_reducible apply a9);rfl;(first|apply Ld.sc a7;rfl;exact hS.blkC 0 rfl rfl|apply Ld.sl a7;rfl;(first|exact hS.blkC 0 rfl rfl|exact hS.blkC 1 rfl rfl)|apply Ld.st a7;rfl;exact hS.roR (by assumption) (by assumption);rfl);rfl|(with_reducible apply l8 a7);rfl;rfl;rfl;rfl;omega;rfl|refine yDn (by with_reducible constructor) ?_|(with_reducible apply d7 hS a7);rfl;rfl;rfl;clear hS;intro g w' hS|(with_reducible apply b8 hS a7 (i:=0));(iterate 8 rfl);(first|exact (rfl:_=[_,_,_])|exact (rfl:_=[_,_,_,_]));clear hS;intro w' hS;simp only [List.set] at hS|(with_reducible apply b9);rfl;all_goals (intro hb hp;try (exfalso;omega))|(with_reducible apply d6 hS);rfl;rfl;rfl;refine ⟨_,haa _ (har.now hS),?_⟩;clear hS;intro w' hS)
        (focus ((with_reducible apply d8 _ _ _ (by kernel_rfl) (by kernel_rfl) hS);(repeat' ((first|(with_reducible apply a1B);rfl;rfl;omega;omega;rfl|(with_reducible apply i9 a7);rfl;rfl|(with_reducible apply i7);rfl;(intro wd hd;replace hd:St _ _ wd _:=hd;(first|apply Ld.sc a7;rfl;(first|exact hd.blkC 1 rfl rfl|exact hd.roC0 (by assumption) (by assumption) rfl)|apply Ld.sl a7;rfl;exact hd.blkC 2 rfl rfl));rfl|(with_reducible apply x6 a7);rfl;rfl;rfl;exact xo2 (by omega);omega;rfl|(first|((with_reducible apply a0p);(iterate 4 rfl);first|rfl|assumption)|(with_reducible apply a0D);rfl;rfl;rfl;all_goals (intro hb hp;try (exfalso;omega))|(with_reducible apply t7);rfl;assumption;rfl;rfl|(with_reducible apply r7);rfl;rfl;rfl;rfl))));all_goals ((with_reducible apply j9);intro w' hS';clear hS;have hS:=hS';clear hS')))
        repeat' (first|(with_reducible apply a8 a7);rfl;rfl;rfl|(with_reducible apply a9);rfl;(apply Ld.sc a7;rfl;exact hS.blkC 1 rfl rfl);rfl|refine yDn (by with_reducible constructor) ?_|(with_reducible apply f6);rfl;rfl|(with_reducible apply b9);rfl;all_goals (intro hb hp;try (exfalso;omega)))
        (refine k8 rfl ?_)
        exact ⟨rfl,hS.sub (xj6 _)⟩
     ·have hE:a13 A fr.length sl.length y.page e=false:=by unfold a13;rw [xj5 (fun h=>hl h.1),xq9]
      rw [hE,xq2,xq9]
      repeat' (first|(with_reducible apply a8 a7);rfl;rfl;rfl|(with_reducible apply a9);rfl;(first|apply Ld.sc a7;rfl;exact hS.blkC 0 rfl rfl|apply Ld.sl a7;rfl;(first|exact hS.blkC 0 rfl rfl|exact hS.blkC 1 rfl rfl)|apply Ld.st a7;rfl;exact hS.roR (by assumption) (by assumption);rfl);rfl|(with_reducible apply l8 a7);rfl;rfl;rfl;rfl;omega;rfl|refine yDn (by with_reducible constructor) ?_|(with_reducible apply d7 hS a7);rfl;rfl;rfl;clear hS;intro g w' hS|(with_reducible apply b8 hS a7 (i:=0));(iterate 8 rfl);(first|exact (rfl:_=[_,_,_])|exact (rfl:_=[_,_,_,_]));clear hS;intro w' hS;simp only [List.set] at hS|(with_reducible apply b9);rfl;all_goals (intro hb hp;try (exfalso;omega))|(with_reducible apply d6 hS);rfl;rfl;rfl;refine ⟨_,haa _ (har.now hS),?_⟩;clear hS;intro w' hS)
      (focus ((with_reducible apply d8 _ _ _ (by kernel_rfl) (by kernel_rfl) hS);(repeat' ((first|(with_reducible apply a1B);rfl;rfl;omega;omega;rfl|(with_reducible apply i9 a7);rfl;rfl|(with_reducible apply i7);rfl;(intro wd hd;replace hd:St _ _ wd _:=hd;(first|apply Ld.sc a7;rfl;(first|exact hd.blkC 1 rfl rfl|exact hd.roC0 (by assumption) (by assumption) rfl)|apply Ld.sl a7;rfl;exact hd.blkC 2 rfl rfl));rfl|(with_reducible apply x6 a7);rfl;rfl;rfl;exact xo2 (by omega);omega;rfl|(first|((with_reducible apply a0p);(iterate 4 rfl);first|rfl|assumption)|(with_reducible apply a0D);rfl;rfl;rfl;all_goals (intro hb hp;try (exfalso;omega))|(with_reducible apply t7);rfl;assumption;rfl;rfl|(with_reducible apply r7);rfl;rfl;rfl;rfl))));all_goals ((with_reducible apply j9);intro w' hS';clear hS;have hS:=hS';clear hS')))
      repeat' (first|(with_reducible apply a8 a7);rfl;rfl;rfl|refine yDn (by with_reducible constructor) ?_|(with_reducible apply b9);rfl;all_goals (intro hb hp;try (exfalso;omega)))
      (refine k8 rfl ?_)
      exact ⟨rfl,hS.sub (xj6 _)⟩
  obtain rfl:i=es.length:=by omega
  rw [hents,xl9,show a1s A fr.length sl.length last []=true from rfl,Bool.and_true]
  repeat' (first|(with_reducible apply a8 a7);rfl;rfl;rfl|(with_reducible apply a9);rfl;(apply Ld.sl a7;rfl;exact hS.blkC 0 rfl rfl);rfl|refine yDn (by with_reducible constructor) ?_|(with_reducible apply b9);rfl;all_goals (intro hb hp;try (exfalso;omega)))
  refine l5 (X:=Int) (fun x=>[(9,.int .i64 x)]) [2,3] rfl (fun _=>[]) (fun x=>1<=x/\x<=256/\∀ p:Int,1<=p->p < x->a7x (shs sh) A p=true) (fun x=>(256 - x).toNat) 1 (by exact Fr.sub_of rfl) ⟨by omega,by omega,fun p h1 h2=>by omega⟩ hS ?_;clear hS hents hlast;rintro q w2 ⟨hq1,hq2,hpre⟩ hS;dsimp only [List.cons_append,List.nil_append] at hS |-;by_cases hq:q<=255;rotate_left
  ·rw [(a6o hgood).2 (fun p h1 h2=>hpre p h1 (by omega))]
   repeat' (first|(with_reducible apply a8 a7);rfl;rfl;rfl|refine yDn (by with_reducible constructor) ?_|(with_reducible apply b9);rfl;all_goals (intro hb hp;try (exfalso;omega)))
   (refine k8 rfl ?_)
   exact ⟨rfl,hS.sub (xj6 _)⟩
  have haa:=fun w1 (h:Sl nF w1 4 (.slice pa A.length ca) (A.map arC))=>a2Q q h hok;unfold a1I arC at haa;have hsq:=fun w1 (h:ShsV w1 sh (.slice p1 sh.length c1))=>hso w1 q h;have hpb:a7x (shs sh) A q=(match o9 A q with|some a=>a.z||(a25 sh q).isSome|none=>true):=by
   unfold a7x;rw [a5H,Option.isSome_map]
   cases o9 A q <;> rfl
  cases hsf:a25 sh q with
  |none=>
   rw [hsf] at hsq hpb;unfold a5p at hsq;dsimp only at hsq
   cases hf:o9 A q with
   |none=>
    rw [hf] at haa hpb;dsimp only [Option.getD,Option.isSome] at haa hpb
    repeat' (first|(with_reducible apply a8 a7);rfl;rfl;rfl|(with_reducible apply a9);rfl;(apply Ld.sl a7;rfl;(first|exact hS.blkC 0 rfl rfl|exact hS.blkC 2 rfl rfl));rfl|(with_reducible apply j4);rfl;rfl;omega;omega;rfl|refine yDn (by with_reducible constructor) ?_|(with_reducible apply r9);(iterate 4 rfl);rfl;rfl|(with_reducible apply d9);rfl;rfl;rfl;rfl|(with_reducible apply f8);rfl;rfl|(with_reducible apply d7 hS a7);rfl;rfl;rfl;clear hS;intro g w' hS|(with_reducible apply b8 hS a7 (i:=0));(iterate 8 rfl);(first|exact (rfl:_=[_,_,_])|exact (rfl:_=[_,_,_,_]));clear hS;intro w' hS;simp only [List.set] at hS|(with_reducible apply b9);rfl;all_goals (intro hb hp;try (exfalso;omega))|(with_reducible apply d6 hS);rfl;rfl;rfl;refine ⟨_,haa _ (har.now hS),?_⟩;clear hS;intro w' hS|(with_reducible apply d6 hS);rfl;rfl;rfl;refine ⟨_,hsq _ (k1.now hS),?_⟩;clear hS;intro w' hS)
    refine e9 (q + 1) (by exact Fr.sub_of rfl) ⟨by omega,by omega,fun p h1 h2=>?_⟩ hS.drop.drop (by omega);by_cases e:p=q
    ·subst e;exact hpb
    ·exact hpre p h1 (by omega)
   |some a=>
    rw [hf] at haa hpb;dsimp only [Option.getD,Option.isSome] at haa hpb
    cases hz:a.z with
    |true=>
     rw [hz] at hpb haa
     repeat' (first|(with_reducible apply a8 a7);rfl;rfl;rfl|(with_reducible apply a9);rfl;(first|apply Ld.sc a7;rfl;exact hS.blkC 1 rfl rfl|apply Ld.sl a7;rfl;(first|exact hS.blkC 0 rfl rfl|exact hS.blkC 2 rfl rfl));rfl|(with_reducible apply j4);rfl;rfl;omega;omega;rfl|refine yDn (by with_reducible constructor) ?_|(with_reducible apply k6);(iterate 4 rfl);rfl|(with_reducible apply r9);(iterate 4 rfl);rfl;rfl|(with_reducible apply f7);rfl;rfl;rfl;rfl|(with_reducible apply d9);rfl;rfl;rfl;rfl|(with_reducible apply f8);rfl;rfl|(with_reducible apply d7 hS a7);rfl;rfl;rfl;clear hS;intro g w' hS|(with_reducible apply b8 hS a7 (i:=0));(iterate 8 rfl);(first|exact (rfl:_=[_,_,_])|exact (rfl:_=[_,_,_,_]));clear hS;intro w' hS;simp only [List.set] at hS|(with_reducible apply b9);rfl;all_goals (intro hb hp;try (exfalso;omega))|(with_reducible apply d6 hS);rfl;rfl;rfl;refine ⟨_,haa _ (har.now hS),?_⟩;clear hS;intro w' hS|(with_reducible apply d6 hS);rfl;rfl;rfl;refine ⟨_,hsq _ (k1.now hS),?_⟩;clear hS;intro w' hS)
     refine e9 (q + 1) (by exact Fr.sub_of rfl) ⟨by omega,by omega,fun p h1 h2=>?_⟩ hS.drop.drop (by omega);by_cases e:p=q
     ·subst e;exact hpb
     ·exact hpre p h1 (by omega)
    |false=>
     rw [hz] at hpb haa;have hno:a1C (shs sh) A=false:=by
      rw [xr0];intro h;have:=(a6o hgood).1 h q hq1 hq;rw [hpb] at this
      cases this
     rw [hno]
     repeat' (first|(with_reducible apply a8 a7);rfl;rfl;rfl|(with_reducible apply a9);rfl;(first|apply Ld.sc a7;rfl;exact hS.blkC 1 rfl rfl|apply Ld.sl a7;rfl;(first|exact hS.blkC 0 rfl rfl|exact hS.blkC 2 rfl rfl));rfl|refine yDn (by with_reducible constructor) ?_|(with_reducible apply k6);(iterate 4 rfl);rfl|(with_reducible apply f7);rfl;rfl;rfl;rfl|(with_reducible apply f6);rfl;rfl|(with_reducible apply d7 hS a7);rfl;rfl;rfl;clear hS;intro g w' hS|(with_reducible apply b8 hS a7 (i:=0));(iterate 8 rfl);(first|exact (rfl:_=[_,_,_])|exact (rfl:_=[_,_,_,_]));clear hS;intro w' hS;simp only [List.set] at hS|(with_reducible apply b9);rfl;all_goals (intro hb hp;try (exfalso;omega))|(with_reducible apply d6 hS);rfl;rfl;rfl;refine ⟨_,haa _ (har.now hS),?_⟩;clear hS;intro w' hS|(with_reducible apply d6 hS);rfl;rfl;rfl;refine ⟨_,hsq _ (k1.now hS),?_⟩;clear hS;intro w' hS)
     (refine k8 rfl ?_)
     exact ⟨rfl,hS.sub (xj6 _)⟩
  |some y=>
   have hfx:=k1.fx y (xi2 hsf);obtain ⟨S,u⟩:=y;dsimp only at hfx;obtain ⟨pu,cu,rfl⟩:=hfx.len;rw [hsf] at hsq hpb;unfold a5p shC at hsq;dsimp only at hsq
   cases hf:o9 A q with
   |none=>
    rw [hf] at haa hpb;dsimp only [Option.getD,Option.isSome] at haa hpb
    repeat' (first|(with_reducible apply a8 a7);rfl;rfl;rfl|(with_reducible apply a9);rfl;(apply Ld.sl a7;rfl;(first|exact hS.blkC 0 rfl rfl|exact hS.blkC 2 rfl rfl));rfl|(with_reducible apply j4);rfl;rfl;omega;omega;rfl|refine yDn (by with_reducible constructor) ?_|(with_reducible apply r9);(iterate 4 rfl);rfl;rfl|(with_reducible apply d9);rfl;rfl;rfl;rfl|(with_reducible apply f8);rfl;rfl|(with_reducible apply d7 hS a7);rfl;rfl;rfl;clear hS;intro g w' hS|(with_reducible apply b8 hS a7 (i:=0));(iterate 8 rfl);(first|exact (rfl:_=[_,_,_])|exact (rfl:_=[_,_,_,_]));clear hS;intro w' hS;simp only [List.set] at hS|(with_reducible apply b9);rfl;all_goals (intro hb hp;try (exfalso;omega))|(with_reducible apply d6 hS);rfl;rfl;rfl;refine ⟨_,haa _ (har.now hS),?_⟩;clear hS;intro w' hS|(with_reducible apply d6 hS);rfl;rfl;rfl;refine ⟨_,hsq _ (k1.now hS),?_⟩;clear hS;intro w' hS)
    refine e9 (q + 1) (by exact Fr.sub_of rfl) ⟨by omega,by omega,fun p h1 h2=>?_⟩ hS.drop.drop (by omega);by_cases e:p=q
    ·subst e;exact hpb
    ·exact hpre p h1 (by omega)
   |some a=>
    rw [hf] at haa hpb;dsimp only [Option.getD,Option.isSome] at haa hpb;rw [Bool.or_true] at hpb
    cases hz:a.z with
    |true=>
     rw [hz] at haa
     repeat' (first|(with_reducible apply a8 a7);rfl;rfl;rfl|(with_reducible apply a9);rfl;(first|apply Ld.sc a7;rfl;exact hS.blkC 1 rfl rfl|apply Ld.sl a7;rfl;(first|exact hS.blkC 0 rfl rfl|exact hS.blkC 2 rfl rfl));rfl|(with_reducible apply j4);rfl;rfl;omega;omega;rfl|refine yDn (by with_reducible constructor) ?_|(with_reducible apply k6);(iterate 4 rfl);rfl|(with_reducible apply r9);(iterate 4 rfl);rfl;rfl|(with_reducible apply f7);rfl;rfl;rfl;rfl|(with_reducible apply d9);rfl;rfl;rfl;rfl|(with_reducible apply f8);rfl;rfl|(with_reducible apply d7 hS a7);rfl;rfl;rfl;clear hS;intro g w' hS|(with_reducible apply b8 hS a7 (i:=0));(iterate 8 rfl);(first|exact (rfl:_=[_,_,_])|exact (rfl:_=[_,_,_,_]));clear hS;intro w' hS;simp only [List.set] at hS|(with_reducible apply b9);rfl;all_goals (intro hb hp;try (exfalso;omega))|(with_reducible apply d6 hS);rfl;rfl;rfl;refine ⟨_,haa _ (har.now hS),?_⟩;clear hS;intro w' hS|(with_reducible apply d6 hS);rfl;rfl;rfl;refine ⟨_,hsq _ (k1.now hS),?_⟩;clear hS;intro w' hS)
     refine e9 (q + 1) (by exact Fr.sub_of rfl) ⟨by omega,by omega,fun p h1 h2=>?_⟩ hS.drop.drop (by omega);by_cases e:p=q
     ·subst e;exact hpb
     ·exact hpre p h1 (by omega)
    |false=>
     rw [hz] at haa
     repeat' (first|(with_reducible apply a8 a7);rfl;rfl;rfl|(with_reducible apply a9);rfl;(first|apply Ld.sc a7;rfl;exact hS.blkC 1 rfl rfl|apply Ld.sl a7;rfl;(first|exact hS.blkC 0 rfl rfl|exact hS.blkC 2 rfl rfl));rfl|(with_reducible apply j4);rfl;rfl;omega;omega;rfl|refine yDn (by with_reducible constructor) ?_|(with_reducible apply k6);(iterate 4 rfl);rfl|(with_reducible apply f7);rfl;rfl;rfl;rfl|(with_reducible apply f8);rfl;rfl|(with_reducible apply d7 hS a7);rfl;rfl;rfl;clear hS;intro g w' hS|(with_reducible apply b8 hS a7 (i:=0));(iterate 8 rfl);(first|exact (rfl:_=[_,_,_])|exact (rfl:_=[_,_,_,_]));clear hS;intro w' hS;simp only [List.set] at hS|(with_reducible apply b9);rfl;all_goals (intro hb hp;try (exfalso;omega))|(with_reducible apply d6 hS);rfl;rfl;rfl;refine ⟨_,haa _ (har.now hS),?_⟩;clear hS;intro w' hS|(with_reducible apply d6 hS);rfl;rfl;rfl;refine ⟨_,hsq _ (k1.now hS),?_⟩;clear hS;intro w' hS)
     refine e9 (q + 1) (by exact Fr.sub_of rfl) ⟨by omega,by omega,fun p h1 h2=>?_⟩ hS.drop.drop (by omega);by_cases e:p=q
     ·subst e;exact hpb
     ·exact hpre p h1 (by omega)
theorem b0o (l:List Nm):(a0Y l).1=(l.length:Int):=by
 have:∀ (l:List Nm) (s:b2L),(l.foldl a2K s).1=s.1 + (l.length:Int):=by
  intro l
  induction l with
  |nil=>intro s;simp
  |cons m l ih=>intro s;rw [List.foldl_cons,ih,xb1];show s.1 + 1 + _=_;omega
 have h:=this l (0,0,true,a2H);unfold a0Y;rw [h];simp
theorem a3K:∀ (l:List Nm) (k:Int) (page:Int) (same:Bool) (a:Ar),1<=k->(l.foldl a2K (k,page,same,a)).2.2.1=(same && l.all fun m=>decide (m.1.page=page/\m.2.z=a.z))/\((l.foldl a2K (k,page,same,a)).2.2.1=true->(l.foldl a2K (k,page,same,a)).2.1=page/\(l.foldl a2K (k,page,same,a)).2.2.2.z=a.z)
 |[],k,page,same,a,_=>by simp
 |m::l,k,page,same,a,hk=>by
  have hk0:decide (k=0)=false:=xj5 (by omega);have hs:a2K (k,page,same,a) m=(k + 1,m.1.page,same && decide (m.1.page=page/\m.2.z=a.z),m.2):=by
   unfold a2K;dsimp only;rw [hk0,xo5,Bool.decide_and]
  rw [List.foldl_cons,hs,xp0];by_cases h:m.1.page=page/\m.2.z=a.z
  ·have ih:=a3K l (k + 1) m.1.page same m.2 (by omega);rw [xj7 h,Bool.and_true,xq1];rw [h.1,h.2] at ih;rw [h.1];exact ih
  ·have ih:=a3K l (k + 1) m.1.page false m.2 (by omega);rw [xq2] at ih;rw [xj5 h,xq9,xq2,xq9];exact ⟨ih.1,fun hh=>by rw [ih.1] at hh;cases hh⟩
theorem a8y {n:Nm} {r:List Nm}:(a0Y (n::r)).2.2.1=a0N (n::r)/\(a0N (n::r)=true->(a0Y (n::r)).2.1=n.1.page/\(a0Y (n::r)).2.2.2.z=n.2.z):=by
 have h:=a3K r 1 n.1.page true n.2 (by omega);have e:a0Y (n::r)=r.foldl a2K (1,n.1.page,true,n.2):=rfl;rw [e];rw [xq1] at h;have ea:a0N (n::r)=r.all fun m=>decide (m.1.page=n.1.page/\m.2.z=n.2.z):=rfl;rw [ea];exact ⟨h.1,fun hh=>h.2 (h.1.trans hh)⟩
def k7 (l:List En) (p:Int):Option En:=l.find? fun e=>decide (e.page=p)
def j8 (l:List En):List Int:=l.map fun e=>e.page
def a7l (l:List En) (e:En):List En:=l.take (lbd (j8 l) e.page)++e::l.drop (lbd (j8 l) e.page)
def putE (l:List En) (e:En):List En:=if e.page ∈ j8 l then l.set (lbd (j8 l) e.page) e else a7l l e
def n9 (f:Int) (t:Option Int) (e:En):Option En:=if e.kind=1/\e.at_=f then t.map (fun s=>⟨e.page,2,s⟩) else some e
def x9 (f:Int) (t:Option Int) (s:Sc):Sc:=⟨s.live,s.areas,s.entries.filterMap (n9 f t)⟩
def a16 (l:List Sw):Option Nat:=l.findIdx? fun s=>decide (s.refs=0)
def a2L (l:List Fm):Option Nat:=l.findIdx? fun f=>decide (f.refs=0)
def j7 (l:List Fm) (i:Nat):Fm:=(l[i]?).getD fm0
def a0K (l:List Sw) (i:Nat):Sw:=(l[i]?).getD sw0
def a0t (K:Ker) (f:Nat):Option Nat:=if (j7 K.frames f).dirty then some ((a16 K.slots).getD 0) else none
def s7 (K:Ker) (f:Nat):Ker :=
 ⟨K.sheets,K.frames.set f fm0,(match a0t K f with
  |some t=>K.slots.set t ⟨(j7 K.frames f).data,(j7 K.frames f).refs⟩
  |none=>K.slots),K.spaces.map (x9 (f:Nat) ((a0t K f).map fun (t:Nat)=>(t:Int))),K.hand⟩
def v7 (n h:Nat):Nat:=if h + 1=n then 0 else h + 1
def a0n:Nat->List Fm->Nat->List Nat->List Fm×Nat×Nat
 |0,fr,h,_=>(fr,h,0)
 |k + 1,fr,h,held=>if h ∈ held then a0n k fr (v7 fr.length h) held else if (j7 fr h).seen then a0n k (fr.set h ⟨(j7 fr h).data,(j7 fr h).refs,(j7 fr h).dirty,false⟩) (v7 fr.length h) held else (fr,v7 fr.length h,h)
def a0i (K:Ker) (held:List Nat):List Fm×Nat×Nat:=a0n 5000 K.frames K.hand.toNat held
def y9 (K:Ker) (held:List Nat):Ker×Nat:=match a2L K.frames with
 |some i=>(K,i)
 |none=>(s7 ⟨K.sheets,(a0i K held).1,K.slots,K.spaces,((a0i K held).2.1:Nat)⟩ (a0i K held).2.2,(a0i K held).2.2)
def a3k (f:Fm):Fm:=if f.refs - 1=0 then fm0 else ⟨f.data,f.refs - 1,f.dirty,f.seen⟩
def a3j (s:Sw):Sw:=if s.refs - 1=0 then sw0 else ⟨s.data,s.refs - 1⟩
def a3n (K:Ker) (e:En):Ker:=if e.kind=1 then ⟨K.sheets,K.frames.set e.at_.toNat (a3k (j7 K.frames e.at_.toNat)),K.slots,K.spaces,K.hand⟩ else ⟨K.sheets,K.frames,K.slots.set e.at_.toNat (a3j (a0K K.slots e.at_.toNat)),K.spaces,K.hand⟩
def sc0:Sc:=⟨false,[],[]⟩
def a0l (K:Ker) (sp:Nat):Sc:=(K.spaces[sp]?).getD sc0
def j3 (K:Ker) (sp:Nat):List En:=(a0l K sp).entries
def m6 (K:Ker) (sp:Nat):List Ar:=(a0l K sp).areas
def a8T (K:Ker) (sp:Nat) (s:Sc):Ker:=⟨K.sheets,K.frames,K.slots,K.spaces.set sp s,K.hand⟩
def a1W (K:Ker) (sp:Nat) (l:List En):Ker:=a8T K sp ⟨(a0l K sp).live,(a0l K sp).areas,l⟩
def x7 (K:Ker) (f:Nat) (x:Fm):Ker:=⟨K.sheets,K.frames.set f x,K.slots,K.spaces,K.hand⟩
def a1M (K:Ker):Option En->Ker
 |some e=>a3n K e
 |none=>K
def inK (K:Ker) (sp:Nat) (page:Int) (f:Nat) (data:List UInt8) (dirty:Bool):Ker :=
 a1W (a1M (x7 K f ⟨data,1,dirty,false⟩) (k7 (j3 K sp) page)) sp (putE (j3 K sp) ⟨page,1,(f:Nat)⟩)
def zAt (K:Ker) (sp:Nat) (page:Int):Bool:=((o9 (m6 K sp) page).getD a2H).z
def a1a (K:Ker) (sp:Nat) (page:Int):List UInt8:=(a0H K.sheets (zAt K sp page) page).getD []
def a1P (K:Ker) (sp:Nat) (page:Int) (held:List Nat):Ker×Nat:=match k7 (j3 K sp) page with
 |none=>(inK (y9 K held).1 sp page (y9 K held).2 (a1a K sp page) false,(y9 K held).2)
 |some e=>if e.kind=2 then (inK (y9 K held).1 sp page (y9 K held).2 (a0K K.slots e.at_.toNat).data true,(y9 K held).2) else (K,e.at_.toNat)
def a3H (K:Ker) (sp:Nat) (page:Int) (write:Bool) (held:List Nat) (f:Nat):Ker×Nat :=
 if write=true/\1 < (j7 K.frames f).refs then (inK (y9 K (held++[f])).1 sp page (y9 K (held++[f])).2 (j7 K.frames f).data true,(y9 K (held++[f])).2) else (K,f)
def a1H (K:Ker) (f:Nat) (write:Bool):Ker:=x7 K f ⟨(j7 K.frames f).data,(j7 K.frames f).refs,(j7 K.frames f).dirty||write,true⟩
def a1k (K:Ker) (sp:Nat) (page:Int) (write:Bool) (held:List Nat):Ker×Nat:=a3H (a1P K sp page held).1 sp page write held (a1P K sp page held).2
def a0y (K:Ker) (sp:Nat) (page:Int) (write:Bool) (held:List Nat):Ker×Nat:=(a1H (a1k K sp page write held).1 (a1k K sp page write held).2 write,(a1k K sp page write held).2)
def a0F (K:Ker) (sp:Nat) (addr size:Int) (write:Bool):Ker:=if (addr + size - 1) / 16=addr / 16 then (a0y K sp (addr / 16) write []).1 else (a0y (a0y K sp (addr / 16) write []).1 sp ((addr + size - 1) / 16) write [(a0y K sp (addr / 16) write []).2]).1
def z7 (K:Ker) (e:En):List UInt8:=if e.kind=1 then (j7 K.frames e.at_.toNat).data else (a0K K.slots e.at_.toNat).data
def a0q (K:Ker) (sp:Nat) (page:Int):List UInt8:=match k7 (j3 K sp) page with
 |some e=>z7 K e
 |none=>a1a K sp page
structure FmOk (sh:List Sh) (f:Fm) (N:List Nm):Prop where
 refs:f.refs=(N.length:Int)
 nil:N=[]->f=fm0
 len:N≠[]->f.data.length=16
 same:∀ n ∈ N,∀ m ∈ N,m.1.page=n.1.page/\m.2.z=n.2.z
 data:∀ n ∈ N,f.dirty=true\/some f.data=a0H sh n.2.z n.1.page
structure SwOk (s:Sw) (N:List Nm):Prop where
 refs:s.refs=(N.length:Int)
 nil:N=[]->s=sw0
 len:N≠[]->s.data.length=16
 same:∀ n ∈ N,∀ m ∈ N,m.1.page=n.1.page/\m.2.z=n.2.z
theorem a3b {N:List Nm}:a0N N=true ↔ ∀ n ∈ N,∀ m ∈ N,m.1.page=n.1.page/\m.2.z=n.2.z:=by
 cases N with
 |nil=>simp [a0N]
 |cons a r=>
  unfold a0N;rw [xc7];constructor
  ·intro h;have h':∀ m ∈ a::r,m.1.page=a.1.page/\m.2.z=a.2.z:=fun m hm=>by
    rcases xc4.1 hm with rfl|hm
    ·exact ⟨rfl,rfl⟩
    ·exact xo3 (h m hm)
   exact fun n hn m hm=>⟨(h' m hm).1.trans (h' n hn).1.symm,(h' m hm).2.trans (h' n hn).2.symm⟩
  ·exact fun h m hm=>xj7 (h a xc5 m (xc6 _ hm))
theorem a2k {sh:List Sh} {f:Fm} {N:List Nm}:a1m sh f N=true ↔ FmOk sh f N:=by
 cases N with
 |nil=>
  unfold a1m;rw [xb3];constructor
  ·rintro rfl;exact ⟨rfl,fun _=>rfl,fun h=>absurd rfl h,(fun _ h=>by cases h),(fun _ h=>by cases h)⟩
  ·exact fun h=>h.nil rfl
 |cons n r=>
  unfold a1m;rw [xb2,xb2,a3b,xb3,xo4,xb3];constructor
  ·rintro ⟨⟨h1,h2⟩,h3,h4⟩;refine ⟨h1,(fun h=>by cases h),fun _=>h2,h3,fun m hm=>?_⟩;have:=h3 n xc5 m hm;rw [this.1,this.2];exact h4
  ·intro h;exact ⟨⟨h.refs,h.len (by simp)⟩,h.same,h.data n xc5⟩
theorem a2S {s:Sw} {N:List Nm}:a1Z s N=true ↔ SwOk s N:=by
 cases N with
 |nil=>
  unfold a1Z;rw [xb3];constructor
  ·rintro rfl;exact ⟨rfl,fun _=>rfl,fun h=>absurd rfl h,(fun _ h=>by cases h)⟩
  ·exact fun h=>h.nil rfl
 |cons n r=>
  unfold a1Z;rw [xb2,a3b,xb3];constructor
  ·rintro ⟨⟨h1,h2⟩,h3⟩;exact ⟨h1,(fun h=>by cases h),fun _=>h2,h3⟩
  ·intro h;exact ⟨⟨h.refs,h.len (by simp)⟩,h.same⟩
theorem FmOk.perm {sh:List Sh} {f:Fm} {N M:List Nm} (h:FmOk sh f N) (p:N.Perm M):FmOk sh f M :=
 ⟨by rw [<- p.length_eq];exact h.refs,fun e=>h.nil (by subst e;exact p.eq_nil),fun e=>h.len (fun e2=>e (by subst e2;exact p.symm.eq_nil)),fun n hn m hm=>h.same n (p.mem_iff.2 hn) m (p.mem_iff.2 hm),fun n hn=>h.data n (p.mem_iff.2 hn)⟩
theorem SwOk.perm {f:Sw} {N M:List Nm} (h:SwOk f N) (p:N.Perm M):SwOk f M :=
 ⟨by rw [<- p.length_eq];exact h.refs,fun e=>h.nil (by subst e;exact p.eq_nil),fun e=>h.len (fun e2=>e (by subst e2;exact p.symm.eq_nil)),fun n hn m hm=>h.same n (p.mem_iff.2 hn) m (p.mem_iff.2 hm)⟩
structure Right (K:Ker):Prop where
 cnt:3<=K.frames.length/\K.frames.length<=64/\K.slots.length<=512/\1<=K.spaces.length/\K.spaces.length<=4/\K.sheets.length<=255
 rise:a0V 0 K.sheets=true
 hand:0<=K.hand/\K.hand < K.frames.length
 spaces:∀ s ∈ K.spaces,t3 K.sheets K.frames.length K.slots.length s=true
 room:a0g K.spaces<=K.slots.length
 fr:∀ (i:Nat) f,K.frames[i]?=some f->FmOk K.sheets f (j6 K.spaces 1 (i:Nat))
 sl:∀ (i:Nat) s,K.slots[i]?=some s->SwOk s (j6 K.spaces 2 (i:Nat))
theorem a5J {K:Ker}:a03 K=true ↔ ∀ (i:Nat) f,K.frames[i]?=some f->FmOk K.sheets f (j6 K.spaces 1 (i:Nat)):=by
 unfold a03;rw [xc7];constructor
 ·intro h i f hf;have:=h i (xi5.2 (c9 hf));rw [hf] at this;exact a2k.1 this
 ·intro h i hi;rw [xi5] at hi;rw [xe1 hi];exact a2k.2 (h i _ (xe1 hi))
theorem a6t {K:Ker}:a1O K=true ↔ ∀ (i:Nat) s,K.slots[i]?=some s->SwOk s (j6 K.spaces 2 (i:Nat)):=by
 unfold a1O;rw [xc7];constructor
 ·intro h i f hf;have:=h i (xi5.2 (c9 hf));rw [hf] at this;exact a2S.1 this
 ·intro h i hi;rw [xi5] at hi;rw [xe1 hi];exact a2S.2 (h i _ (xe1 hi))
theorem a35 {K:Ker}:a07 K=0 ↔ Right K:=by
 unfold a07;by_cases h1:a1V K=true;rotate_left
 ·rw [xf1 h1];refine ⟨(fun h=>by cases h),fun h=>?_⟩;exact absurd (by unfold a1V;rw [xb3];exact h.cnt) h1
 rw [xf0 h1];unfold a1V at h1;rw [xb3] at h1;by_cases h2:a5K K=true
 ·rw [xf0 h2];refine ⟨fun _=>?_,fun _=>rfl⟩;unfold a5K at h2;simp only [xb2,xb3] at h2;obtain ⟨⟨a1,a2⟩,a3,a4,a5,a6⟩:=h2;exact ⟨h1,a1,a2,fun s hs=>xc7.1 a3 s hs,a4,a5J.1 a5,a6t.1 a6⟩
 ·rw [xf1 h2];refine ⟨(fun h=>by cases h),fun h=>?_⟩;refine absurd ?_ h2;unfold a5K;simp only [xb2,xb3];exact ⟨⟨h.rise,h.hand⟩,xc7.2 h.spaces,h.room,a5J.2 h.fr,a6t.2 h.sl⟩
def nm1 (s:Sc) (k a:Int):List Nm:=(s.entries.filter fun e=>decide (e.kind=k/\e.at_=a)).map (a0J s)
theorem a0u (L:List Sc) (k a:Int):j6 L k a=L.flatMap fun s=>nm1 s k a:=rfl
def mvN (t:Int) (n:Nm):Nm:=(⟨n.1.page,2,t⟩,n.2)
theorem a6L (f:Int) (t:Option Int) (s:Sc):a0J (x9 f t s)=a0J s:=rfl
theorem a6E {f:Int} {t:Option Int} {k a:Int} (h1:¬(k=1/\a=f)) (h2:k=2->t≠some a):∀ (l:List En),(l.filterMap (n9 f t)).filter (fun e=>decide (e.kind=k/\e.at_=a))=l.filter (fun e=>decide (e.kind=k/\e.at_=a))
 |[]=>rfl
 |e::l=>by
  have ih:=a6E h1 h2 l;rw [xn3];unfold n9;by_cases he:e.kind=1/\e.at_=f
  ·rw [xf0 he];have hn:¬(e.kind=k/\e.at_=a):=fun h=>h1 ⟨h.1.symm.trans he.1,h.2.symm.trans he.2⟩;rw [xl3 (by simpa using hn)]
   cases t with
   |none=>exact ih
   |some s=>
    show List.filter _ (_::_)=_;rw [xl3]
    ·exact ih
    ·rw [xb3];rintro ⟨h3,h4⟩;exact h2 h3.symm (by rw [show s=a from h4])
  ·rw [xf1 he];show List.filter _ (e::_)=_;by_cases hn:e.kind=k/\e.at_=a
   ·rw [xl1 (by simpa using hn),xl1 (by simpa using hn)];exact congrArg _ ih
   ·rw [xl3 (by simpa using hn),xl3 (by simpa using hn)];exact ih
theorem a7d {f:Int} {t:Option Int}:∀ (l:List En),(l.filterMap (n9 f t)).filter (fun e=>decide (e.kind=1/\e.at_=f))=[]
 |[]=>rfl
 |e::l=>by
  have ih:=a7d (f:=f) (t:=t) l;rw [xn3];unfold n9;by_cases he:e.kind=1/\e.at_=f
  ·rw [xf0 he]
   cases t with
   |none=>exact ih
   |some s=>
    show List.filter _ (_::_)=_;rw [xl3]
    ·exact ih
    ·rw [xb3];rintro ⟨h3,-⟩
     cases h3
  ·rw [xf1 he];show List.filter _ (e::_)=_;rw [xl3 (by simpa using he)];exact ih
theorem a5I {f t:Int}:∀ (l:List En),(l.filter fun e=>decide (e.kind=2/\e.at_=t))=[]->(l.filterMap (n9 f (some t))).filter (fun e=>decide (e.kind=2/\e.at_=t))=(l.filter fun e=>decide (e.kind=1/\e.at_=f)).map fun e=>⟨e.page,2,t⟩
 |[],_=>rfl
 |e::l,h=>by
  have hn:¬(e.kind=2/\e.at_=t):=fun hh=>by
   rw [xl1 (by simpa using hh)] at h
   cases h
  rw [xl3 (by simpa using hn)] at h;have ih:=a5I (f:=f) (t:=t) l h;rw [xn3];unfold n9;by_cases he:e.kind=1/\e.at_=f
  ·rw [xf0 he,xl1 (by simpa using he)];show List.filter _ (_::_)=_;rw [xl1 (by simp),xc0];exact congrArg _ ih
  ·rw [xf1 he];show List.filter _ (e::_)=_;rw [xl3 (by simpa using hn),xl3 (by simpa using he)];exact ih
theorem b3E {f:Int} {t:Option Int} {k a:Int} (h1:¬(k=1/\a=f)) (h2:k=2->t≠some a) (s:Sc):nm1 (x9 f t s) k a=nm1 s k a:=by
 unfold nm1;rw [a6L];exact congrArg _ (a6E h1 h2 s.entries)
theorem b3w {f:Int} {t:Option Int} (s:Sc):nm1 (x9 f t s) 1 f=[]:=by
 unfold nm1;rw [show (x9 f t s).entries=s.entries.filterMap (n9 f t) from rfl,a7d];rfl
theorem b2h {f t:Int} {s:Sc} (h:nm1 s 2 t=[]):nm1 (x9 f (some t) s) 2 t=(nm1 s 1 f).map (mvN t):=by
 unfold nm1 at h |-;rw [List.map_eq_nil_iff] at h;rw [a6L,show (x9 f (some t) s).entries=s.entries.filterMap (n9 f (some t)) from rfl,a5I _ h,xo0,xo0];rfl
theorem a3J {f:Int} {t:Option Int} {k a:Int} (h1:¬(k=1/\a=f)) (h2:k=2->t≠some a) (L:List Sc):j6 (L.map (x9 f t)) k a=j6 L k a:=by
 rw [a0u,a0u,List.flatMap_map];exact congrArg (fun g=>List.flatMap g L) (funext fun s=>b3E h1 h2 s)
theorem a5M {f:Int} {t:Option Int} (L:List Sc):j6 (L.map (x9 f t)) 1 f=[]:=by
 rw [a0u,List.flatMap_map,List.flatMap_eq_nil_iff];exact fun s _=>b3w s
theorem a4J {f t:Int}:∀ {L:List Sc},j6 L 2 t=[]->j6 (L.map (x9 f (some t))) 2 t=(j6 L 1 f).map (mvN t)
 |[],_=>rfl
 |s::L,h=>by
  rw [a0u,xm4,xo7] at h;rw [xc0,a0u,xm4,a0u,xm4,xm0,b2h h.1];exact congrArg _ (a4J h.2)
def b5S (A:List Ar) (nf ns:Int) (e:En):Prop:=(o9 A e.page).isSome=true/\((e.kind=1/\0<=e.at_/\e.at_ < nf)\/(e.kind=2/\0<=e.at_/\e.at_ < ns))
theorem a7t {A:List Ar} {nf ns:Int}:∀ {l:List En} {last:Int},a1s A nf ns last l=true ↔ (∀ e ∈ l,b5S A nf ns e/\last < e.page)/\Rises (j8 l)
 |[],last=>by simp [a1s,Rises,j8]
 |e::l,last=>by
  show (a13 A nf ns last e && a1s A nf ns e.page l)=true ↔ _;rw [xb2,a7t (l:=l)];unfold a13;rw [xb2,xb3];show _ ↔ _/\List.Pairwise _ (e.page::j8 l);rw [xd7];constructor
  ·rintro ⟨⟨h1,h2,h3⟩,h4,h5⟩;refine ⟨fun x hx=>?_,fun p hp=>?_,h5⟩
   ·rcases xc4.1 hx with rfl|hx
    ·exact ⟨⟨h1,h3⟩,h2⟩
    ·have:=h4 x hx;exact ⟨this.1,by omega⟩
   ·obtain ⟨x,hx,rfl⟩:=xj0.1 hp;exact (h4 x hx).2
  ·rintro ⟨h1,h2,h3⟩;have h0:=h1 e xc5;exact ⟨⟨h0.1.1,h0.2,h0.1.2⟩,fun x hx=>⟨(h1 x (xc6 _ hx)).1,h2 _ (xj0.2 ⟨x,hx,rfl⟩)⟩,h3⟩
structure b0i (sh:List Sh) (nf ns:Int) (s:Sc):Prop where
 dead:s.live=false->s.areas=[]/\s.entries=[]
 ar:l7 s.areas=0
 pages:a1C sh s.areas=true
 ents:∀ e ∈ s.entries,b5S s.areas nf ns e
 rises:Rises (j8 s.entries)
theorem a08 {sh:List Sh} {nf ns:Int} {s:Sc}:t3 sh nf ns s=true ↔ b0i sh nf ns s:=by
 unfold t3
 cases hl:s.live with
 |false=>
  rw [xf1 (by simp),xb3];constructor
  ·rintro ⟨h1,h2⟩;refine ⟨fun _=>⟨h1,h2⟩,by rw [h1];rfl,by rw [h1];rfl,by rw [h2];simp,by rw [h2];exact List.Pairwise.nil⟩
  ·exact fun h=>h.dead hl
 |true=>
  rw [xf0 rfl,xb2,xb2,xb3,a7t];constructor
  ·rintro ⟨h1,h2,h3,h4⟩;exact ⟨fun h=>(by rw [hl] at h;cases h),h1,h2,fun e he=>(h3 e he).1,h4⟩
  ·intro h;exact ⟨h.ar,h.pages,fun e he=>⟨h.ents e he,a6O h.ar (h.ents e he).1⟩,h.rises⟩
theorem a2y (f:Int) (t:Option Int):∀ (l:List En),(j8 (l.filterMap (n9 f t))).Sublist (j8 l)
 |[]=>xm3 _
 |e::l=>by
  have ih:=a2y f t l;rw [xn3];unfold n9;by_cases he:e.kind=1/\e.at_=f
  ·rw [xf0 he]
   cases t with
   |none=>exact xm6 _ ih
   |some s=>exact List.Sublist.cons_cons _ ih
  ·rw [xf1 he];exact List.Sublist.cons_cons _ ih
theorem b1X {sh:List Sh} {nf ns f:Int} {t:Option Int} {s:Sc} (h:b0i sh nf ns s) (ht:∀ a,t=some a->0<=a/\a < ns):b0i sh nf ns (x9 f t s):=by
 refine ⟨fun hl=>⟨(h.dead hl).1,?_⟩,h.ar,h.pages,fun e he=>?_,h.rises.sublist (a2y f t s.entries)⟩
 ·show s.entries.filterMap _=[];rw [(h.dead hl).2];rfl
 ·replace he:e ∈ s.entries.filterMap (n9 f t):=he;obtain ⟨x,hx,hxe⟩:=List.mem_filterMap.1 he;have h1:=h.ents x hx;unfold n9 at hxe
  split at hxe
  ·cases t with
   |none=>cases hxe
   |some a=>
    cases hxe
    exact ⟨h1.1,xd3 ⟨rfl,ht a rfl⟩⟩
  ·cases hxe
   exact h1
theorem a5u (f:Int) (t:Option Int) (L:List Sc):a0g (L.map (x9 f t))=a0g L:=by
 unfold a0g;rw [xo0];rfl
theorem m8 {l:List Fm} {i:Nat} {f:Fm} (h:l[i]?=some f):j7 l i=f:=by unfold j7;rw [h];rfl
theorem a1z {l:List Sw} {i:Nat} {f:Sw} (h:l[i]?=some f):a0K l i=f:=by unfold a0K;rw [h];rfl
theorem a2m {l:List Sw} {t:Nat} (h:a16 l=some t):∃ s,l[t]?=some s/\s.refs=0:=by
 unfold a16 at h;rw [xl5] at h;obtain ⟨h1,h2,-⟩:=h;exact ⟨l[t],xe1 h1,xo3 h2⟩
theorem a97 {l:List Fm} {t:Nat} (h:a2L l=some t):∃ s,l[t]?=some s/\s.refs=0:=by
 unfold a2L at h;rw [xl5] at h;obtain ⟨h1,h2,-⟩:=h;exact ⟨l[t],xe1 h1,xo3 h2⟩
theorem a4m {l:List Fm} (h:a2L l=none):∀ f ∈ l,f.refs≠0:=by
 unfold a2L at h;rw [xl4] at h;intro f hf;have:=h f hf
 simpa using this
theorem b0E {l:List Sw} (h:a16 l=none):∀ f ∈ l,f.refs≠0:=by
 unfold a16 at h;rw [xl4] at h;intro f hf;have:=h f hf
 simpa using this
theorem SwOk.free {s:Sw} {N:List Nm} (h:SwOk s N) (h0:s.refs=0):N=[]/\s=sw0:=by
 have h1:=h.refs;have:N=[]:=xf4 (by omega);exact ⟨this,h.nil this⟩
theorem FmOk.free {sh:List Sh} {s:Fm} {N:List Nm} (h:FmOk sh s N) (h0:s.refs=0):N=[]/\s=fm0:=by
 have h1:=h.refs;have:N=[]:=xf4 (by omega);exact ⟨this,h.nil this⟩
theorem FmOk.zero (sh:List Sh):FmOk sh fm0 []:=⟨rfl,fun _=>rfl,fun h=>absurd rfl h,(fun _ h=>by cases h),(fun _ h=>by cases h)⟩
theorem SwOk.zero:SwOk sw0 []:=⟨rfl,fun _=>rfl,fun h=>absurd rfl h,(fun _ h=>by cases h)⟩
theorem b0W {α:Type} {l:List α} {i j:Nat} {x y:α} (h:(l.set i x)[j]?=some y):(i=j/\y=x/\j < l.length)\/(i≠j/\l[j]?=some y):=by
 rw [xe0] at h;by_cases e:i=j
 ·rw [xf0 e] at h
  split at h
  ·rename_i hl;cases h;exact xd6 ⟨e,rfl,e ▸ hl⟩
  ·cases h
 ·rw [xf1 e] at h;exact xd3 ⟨e,h⟩
theorem a8g {K:Ker} (h:Right K) {f:Nat} (hf:f < K.frames.length) (hfree:(j7 K.frames f).dirty=true->∃ t,a16 K.slots=some t):Right (s7 K f):=by
 obtain ⟨hc,hr,hh,hsp,hroom,hfr,hsl⟩:=h;have hff:=xe1 hf;have hfo:=hfr f _ hff;have hmap:∀ (t:Option Int),(∀ a,t=some a->0<=a/\a < (K.slots.length:Int))->∀ s ∈ K.spaces.map (x9 (f:Nat) t),t3 K.sheets K.frames.length K.slots.length s=true:=fun t ht s hs=>by
  obtain ⟨x,hx,rfl⟩:=xj0.1 hs;exact a08.2 (b1X (a08.1 (hsp x hx)) ht)
 have hfrn:∀ (t:Option Int) (i:Nat) g,(K.frames.set f fm0)[i]?=some g->FmOk K.sheets g (j6 (K.spaces.map (x9 (f:Nat) t)) 1 (i:Nat)):=fun t i g hg=>by
  rcases b0W hg with ⟨rfl,rfl,_⟩|⟨hne,hg⟩
  ·rw [a5M];exact FmOk.zero _
  ·rw [a3J (by omega) (fun h=>by omega)];exact hfr i g hg
 unfold s7 a0t
 cases hd:(j7 K.frames f).dirty with
 |false=>
  rw [xf1 (by simp)];refine ⟨by simpa using hc,hr,by simpa using hh,by simpa using hmap none (fun a h=>by cases h),by rw [a5u];exact hroom,hfrn none,fun i s hs=>?_⟩;dsimp only at hs |-;rw [a3J (by omega) (fun _ h=>by cases h)];exact hsl i s hs
 |true=>
  obtain ⟨t,ht⟩:=hfree hd;obtain ⟨s0,hs0,hs1⟩:=a2m ht;have htl:=c9 hs0;have hz:=(hsl t s0 hs0).free hs1;rw [xf0 rfl,ht];rw [m8 hff] at hd |-;refine ⟨by simpa using hc,hr,by simpa using hh,by simpa using hmap (some (t:Nat)) (fun a h=>by cases h;omega),by rw [a5u];simpa using hroom,hfrn (some (t:Nat)),fun i s hs=>?_⟩;dsimp only [Option.map,Option.getD] at hs |-;rcases b0W hs with ⟨rfl,rfl,_⟩|⟨hne,hs⟩
  ·rw [a4J hz.1];refine ⟨by rw [xj4];exact hfo.refs,fun hn=>?_,fun hn=>hfo.len (fun e=>hn (by rw [e];rfl)),fun n hn m hm=>?_⟩
   ·rw [List.map_eq_nil_iff] at hn;rw [hfo.nil hn] at hd
    cases hd
   ·obtain ⟨n',hn',rfl⟩:=xj0.1 hn;obtain ⟨m',hm',rfl⟩:=xj0.1 hm;exact hfo.same n' hn' m' hm'
  ·rw [a3J (by omega) (fun _ h=>by cases h;omega)];exact hsl i s hs
end Go.Proofs.YtejnpppejalhfabGreat
