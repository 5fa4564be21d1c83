/- Texts that the proof stands on, one behind the other: Ke11, PlKer4, PlRun, PlRun2. -/
import Derived.Test.YtejnpppejalhfabGreatPKernelStarts10
namespace Go.Proofs.YtejnpppejalhfabGreat
set_option maxRecDepth 100000
set_option maxHeartbeats 8000000
open Go.RowKit Go.Sort
theorem a28 {A:List Ar} {nf ns last:Int} {e:En} (hs:(n7 A e.page).isSome=true) (hl:last < e.page) (h:(e.kind=1/\0<=e.at_/\e.at_ < nf)\/(e.kind=2/\0<=e.at_/\e.at_ < ns)):a16 A nf ns last e=true:=by
 unfold a16;rw [hs,xh8];exact xi0 ⟨hl,h⟩
theorem a1u {A:List Ar} {nf ns last:Int} {e:En} (_hl:last < e.page) (h:¬((e.kind=1/\0<=e.at_/\e.at_ < nf)\/(e.kind=2/\0<=e.at_/\e.at_ < ns))):a16 A nf ns last e=false:=by
 unfold a16;rw [xh9 (fun hh=>h hh.2),xk6]
theorem a8M {w:World} {k:KV} {p:Sp} (hK:KerV w k) (hp:SpV w p):Fn Tryz.prog 69 [.agg (kvC k).toArray,.agg (spC p).toArray] w (RBf (.bool (t6 (shs k.sh) k.fr.length k.sl.length p.s)) w):=by
 have b2:=hK.fr.bound;have b3:=hK.sl.bound;obtain ⟨sh,fr,sl,sp,hand,vsh,vfr,vsl,vsp⟩:=k;obtain ⟨k1,k2,k3,k4,k5⟩:=hK;dsimp only at k1 k2 k3 k4 k5 b2 b3 |-;have hso:=fun w1 q (h:ShsV w1 sh vsh)=>a6C h q;obtain ⟨p1,c1,rfl⟩:=k1.sl.len;obtain ⟨p2,c2,rfl⟩:=k2.len;obtain ⟨p3,c3,rfl⟩:=k3.len;obtain ⟨p4,c4,rfl⟩:=k4.len;obtain ⟨s,va,ve⟩:=p;obtain ⟨live,A,es⟩:=s;have har:=hp.ar;have hen:=hp.en;dsimp only at har hen;have bA:=har.bound;have bE:=hen.bound;obtain ⟨pa,ca,rfl⟩:=har.len;obtain ⟨pe,ce,rfl⟩:=hen.len;unfold kvC spC t6;dsimp only
 cases live with
 |false=>
  simp only [Bool.false_eq_true,if_false];by_cases hA:A.length=0
  ·have hd:decide ((A.length:Int)=0)=true:=xi0 (by omega);refine yEn Tryz.func69 Tryz.ntmps69 (by kernel_rfl) (by kernel_rfl) rfl rfl ?_;have hS:=St.start w
   repeat' (first|(with_reducible apply b9 b8);rfl;rfl;rfl|(with_reducible apply c9);rfl;(first|apply Ld.sc b8;rfl;exact hS.blkC 0 rfl rfl|apply Ld.sl b8;rfl;exact hS.blkC 0 rfl rfl);rfl|refine yDn (by with_reducible constructor) ?_|(with_reducible apply k6);(iterate 4 rfl);assumption|(with_reducible apply i7);rfl;assumption;rfl;rfl|(with_reducible apply e8);rfl;rfl|(with_reducible apply k9 hS);rfl;rfl;rfl;clear hS;intro g w' hS)
   (refine j4 rfl ?_)
   refine ⟨?_,hS.sub (xh2 _)⟩
   congr 1
   refine xk7.2 ⟨fun h=>⟨xf4 hA,xf4 (by omega)⟩,fun h=>by rw [h.2];rfl⟩
  ·have hd:decide ((A.length:Int)=0)=false:=xh9 (by omega);refine yEn Tryz.func69 Tryz.ntmps69 (by kernel_rfl) (by kernel_rfl) rfl rfl ?_;have hS:=St.start w
   repeat' (first|(with_reducible apply b9 b8);rfl;rfl;rfl|(with_reducible apply c9);rfl;(first|apply Ld.sc b8;rfl;exact hS.blkC 0 rfl rfl|apply Ld.sl b8;rfl;exact hS.blkC 0 rfl rfl);rfl|refine yDn (by with_reducible constructor) ?_|(with_reducible apply q8);(iterate 4 rfl);assumption;rfl|(with_reducible apply e9);rfl;assumption;rfl;rfl|(with_reducible apply e8);rfl;rfl|(with_reducible apply k9 hS);rfl;rfl;rfl;clear hS;intro g w' hS)
   (refine j4 rfl ?_)
   refine ⟨?_,hS.sub (xh2 _)⟩;rw [xh9 (fun h=>hA (by rw [h.1];rfl))]
 |true=>
  simp only [if_true];have hchk:=fun w1 (h:Sl nF w1 4 (.slice pa A.length ca) (A.map arC))=>a4h h;by_cases hc:l7 A=0;rotate_left
  ·have hd:(!decide (l7 A=0))=true:=by rw [xh9 hc];rfl
   rw [xh9 hc,xh7];refine yEn Tryz.func69 Tryz.ntmps69 (by kernel_rfl) (by kernel_rfl) rfl rfl ?_;have hS:=St.start w
   repeat' (first|(with_reducible apply b9 b8);rfl;rfl;rfl|(with_reducible apply c9);rfl;(first|apply Ld.sc b8;rfl;exact hS.blkC 0 rfl rfl|apply Ld.sl b8;rfl;exact hS.blkC 0 rfl rfl);rfl|refine yDn (by with_reducible constructor) ?_|(with_reducible apply e8);rfl;assumption|(with_reducible apply f6);rfl;rfl|(with_reducible apply k9 hS);rfl;rfl;rfl;clear hS;intro g w' hS|(with_reducible apply d8 hS);rfl;rfl;rfl;refine ⟨_,hchk _ (har.now hS),?_⟩;clear hS;intro w' hS)
   (refine j4 rfl ?_)
   exact ⟨rfl,hS.sub (xh2 _)⟩
  have hd:(!decide (l7 A=0))=false:=by rw [xi0 hc];rfl
  obtain ⟨hAl,hgood⟩:=r7.1 hc;have hok:=a00 hgood;rw [xi0 hc,xh8];refine yEn Tryz.func69 Tryz.ntmps69 (by kernel_rfl) (by kernel_rfl) rfl rfl ?_;have hS:=St.start w
  repeat' (first|(with_reducible apply b9 b8);rfl;rfl;rfl|(with_reducible apply c9);rfl;(first|apply Ld.sc b8;rfl;exact hS.blkC 0 rfl rfl|apply Ld.sl b8;rfl;exact hS.blkC 0 rfl rfl);rfl|refine yDn (by with_reducible constructor) ?_|((with_reducible apply f6);rfl;first|rfl|assumption)|(with_reducible apply k9 hS);rfl;rfl;rfl;clear hS;intro g w' hS|(with_reducible apply d8 hS);rfl;rfl;rfl;refine ⟨_,hchk _ (har.now hS),?_⟩;clear hS;intro w' hS)
  refine l4 (X:=Nat×Int) (fun x=>[(5,.int .i64 (x.1:Nat))]) [2,3] rfl (fun _=>[]) (fun x=>x.1<=es.length/\((x.1=0/\x.2=0)\/(0 < x.1/\∃ y,es[x.1 - 1]?=some y/\x.2=y.page))/\a1v A fr.length sl.length 0 es=a1v A fr.length sl.length x.2 (es.drop x.1)) (fun x=>es.length - x.1) (0,0) (by exact Fr.sub_of rfl) ⟨xi5 _,xd6 ⟨rfl,rfl⟩,by simp⟩ hS ?_;clear hS;rintro ⟨i,last⟩ w1 ⟨hi,hlast,hents⟩ hS;dsimp only [List.cons_append,List.nil_append] at hi hlast hents hS |-;by_cases hlt:i < es.length
  ·obtain ⟨e,he⟩:=i9 (l:=es) (i:=i) (by omega);have hrow:=d9 (f:=enC) he;obtain ⟨b,off,rfl,hro⟩:=hen.at_ (i:=i) hlt;unfold enC at hrow;have haa:=fun w1 (h:Sl nF w1 4 (.slice pa A.length ca) (A.map arC))=>a32 e.page h hok;unfold a2f arC at haa;have hstep:=a8b (A:=A) (nf:=fr.length) (ns:=sl.length) (last:=last) he;rw [hstep] at hents;rw [hents]
   cases hsm:(n7 A e.page).isSome with
   |false=>
    rw [hsm] at haa;have hE:a16 A fr.length sl.length last e=false:=by unfold a16;rw [hsm,xh7]
    rw [hE,xh7,xk6]
    repeat' (first|(with_reducible apply b9 b8);rfl;rfl;rfl|(with_reducible apply c9);rfl;(first|apply Ld.sc b8;rfl;exact hS.blkC 0 rfl rfl|apply Ld.sl b8;rfl;(first|exact hS.blkC 0 rfl rfl|exact hS.blkC 1 rfl rfl)|apply Ld.st b8;rfl;exact hS.roR (by assumption) (by assumption);rfl);rfl|(with_reducible apply l8 b8);rfl;rfl;rfl;rfl;omega;rfl|refine yDn (by with_reducible constructor) ?_|(with_reducible apply d6 hS b8);rfl;rfl;rfl;clear hS;intro g w' hS|(with_reducible apply d5 hS b8 (i:=0));(iterate 8 rfl);(first|exact (rfl:_=[_,_,_])|exact (rfl:_=[_,_,_,_]));clear hS;intro w' hS;simp only [List.set] at hS|(with_reducible apply d7);rfl;all_goals (intro hb hp;try (exfalso;omega))|(with_reducible apply d8 hS);rfl;rfl;rfl;refine ⟨_,haa _ (har.now hS),?_⟩;clear hS;intro w' hS)
    (focus ((with_reducible apply e6 _ _ _ (by kernel_rfl) (by kernel_rfl) hS);(repeat' ((first|(with_reducible apply j3 b8);rfl;rfl|(first|(with_reducible apply a18);(iterate 4 rfl);rfl;rfl|(with_reducible apply a1X);(iterate 5 rfl)|(with_reducible apply p9);rfl;rfl;rfl;rfl))));all_goals ((with_reducible apply k8);intro w' hS';clear hS;have hS:=hS';clear hS')))
    repeat' (first|(with_reducible apply b9 b8);rfl;rfl;rfl|refine yDn (by with_reducible constructor) ?_|(with_reducible apply e8);rfl;rfl)
    (refine j4 rfl ?_)
    exact ⟨rfl,hS.sub (xh2 _)⟩
   |true=>
    rw [hsm] at haa;have hpos:=a6M hc hsm;obtain ⟨a,hag⟩:∃ a,(n7 A e.page).getD a2c=a:=⟨_,rfl⟩;rw [hag] at haa;rcases hlast with ⟨hi0,rfl⟩|⟨hi0,y,hy,rfl⟩
    ·have hl:(0:Int) < e.page:=hpos;by_cases k1':e.kind=1
     ·by_cases r:0<=e.at_/\e.at_<=(fr.length:Int) - 1
      ·have hE:=a28 (A:=A) (nf:=fr.length) (ns:=sl.length) hsm hl (xd6 ⟨k1',by omega,by omega⟩);rw [hE,xh8]
       repeat' (first|(with_reducible apply b9 b8);rfl;rfl;rfl|(with_reducible apply c9);rfl;(first|apply Ld.sc b8;rfl;exact hS.blkC 0 rfl rfl|apply Ld.sl b8;rfl;(first|exact hS.blkC 0 rfl rfl|exact hS.blkC 1 rfl rfl)|apply Ld.st b8;rfl;exact hS.roR (by assumption) (by assumption);rfl);rfl|(with_reducible apply l8 b8);rfl;rfl;rfl;rfl;omega;rfl|refine yDn (by with_reducible constructor) ?_|(with_reducible apply d6 hS b8);rfl;rfl;rfl;clear hS;intro g w' hS|(with_reducible apply d5 hS b8 (i:=0));(iterate 8 rfl);(first|exact (rfl:_=[_,_,_])|exact (rfl:_=[_,_,_,_]));clear hS;intro w' hS;simp only [List.set] at hS|(with_reducible apply d7);rfl;all_goals (intro hb hp;try (exfalso;omega))|(with_reducible apply d8 hS);rfl;rfl;rfl;refine ⟨_,haa _ (har.now hS),?_⟩;clear hS;intro w' hS)
       (focus ((with_reducible apply e6 _ _ _ (by kernel_rfl) (by kernel_rfl) hS);(repeat' ((first|(with_reducible apply j3 b8);rfl;rfl|(first|(with_reducible apply a0g);(iterate 4 rfl);rfl|(with_reducible apply a18);(iterate 4 rfl);assumption;rfl|(with_reducible apply a0c);rfl;rfl;rfl;all_goals (intro hb hp;try (exfalso;omega))|(with_reducible apply p7);rfl;(first|rfl|assumption);rfl;rfl))));all_goals ((with_reducible apply k8);intro w' hS';clear hS;have hS:=hS';clear hS')))
       repeat' (first|(with_reducible apply b9 b8);rfl;rfl;rfl|(with_reducible apply c9);rfl;(first|apply Ld.sc b8;rfl;exact hS.blkC 1 rfl rfl|apply Ld.sl b8;rfl;exact hS.blkC 3 rfl rfl);rfl|(with_reducible apply f9);rfl;rfl;omega;omega;rfl|(with_reducible apply a0R);rfl;rfl;omega;omega;rfl|refine yDn (by with_reducible constructor) ?_|(with_reducible apply f6);rfl;rfl|(with_reducible apply d7);rfl;all_goals (intro hb hp;try (exfalso;omega))|(with_reducible apply a0K);rfl;all_goals (intro hb hp;try (exfalso;omega))|(with_reducible apply d8 hS);rfl;rfl;rfl;refine ⟨_,q7 _ _ _ _,?_⟩;clear hS;intro w' hS)
       exact f8 (i + 1,e.page) (by exact Fr.sub_of rfl) ⟨by show i + 1<=es.length;omega,xd3 ⟨by show 0 < i + 1;omega,_,he,rfl⟩,rfl⟩ hS.drop.drop (by show es.length - (i + 1) < es.length - i;omega)
      ·have hE:=a1u (A:=A) (nf:=fr.length) (ns:=sl.length) hl (fun h:(e.kind=1/\0<=e.at_/\e.at_ < (fr.length:Int))\/(e.kind=2/\0<=e.at_/\e.at_ < (sl.length:Int))=>by omega);rw [hE,xh7,xk6]
       repeat' (first|(with_reducible apply b9 b8);rfl;rfl;rfl|(with_reducible apply c9);rfl;(first|apply Ld.sc b8;rfl;exact hS.blkC 0 rfl rfl|apply Ld.sl b8;rfl;(first|exact hS.blkC 0 rfl rfl|exact hS.blkC 1 rfl rfl)|apply Ld.st b8;rfl;exact hS.roR (by assumption) (by assumption);rfl);rfl|(with_reducible apply l8 b8);rfl;rfl;rfl;rfl;omega;rfl|refine yDn (by with_reducible constructor) ?_|(with_reducible apply d6 hS b8);rfl;rfl;rfl;clear hS;intro g w' hS|(with_reducible apply d5 hS b8 (i:=0));(iterate 8 rfl);(first|exact (rfl:_=[_,_,_])|exact (rfl:_=[_,_,_,_]));clear hS;intro w' hS;simp only [List.set] at hS|(with_reducible apply d7);rfl;all_goals (intro hb hp;try (exfalso;omega))|(with_reducible apply d8 hS);rfl;rfl;rfl;refine ⟨_,haa _ (har.now hS),?_⟩;clear hS;intro w' hS)
       (focus ((with_reducible apply e6 _ _ _ (by kernel_rfl) (by kernel_rfl) hS);(repeat' ((first|(with_reducible apply j3 b8);rfl;rfl|(first|(with_reducible apply a0g);(iterate 4 rfl);rfl|(with_reducible apply a18);(iterate 4 rfl);assumption;rfl|(with_reducible apply a0c);rfl;rfl;rfl;all_goals (intro hb hp;try (exfalso;omega))|(with_reducible apply p7);rfl;(first|rfl|assumption);rfl;rfl))));all_goals ((with_reducible apply k8);intro w' hS';clear hS;have hS:=hS';clear hS')))
       repeat' (first|(with_reducible apply b9 b8);rfl;rfl;rfl|(with_reducible apply c9);rfl;(first|apply Ld.sc b8;rfl;exact hS.blkC 1 rfl rfl|apply Ld.sl b8;rfl;exact hS.blkC 3 rfl rfl);rfl|(with_reducible apply a0R);rfl;rfl;omega;omega;rfl|refine yDn (by with_reducible constructor) ?_|(with_reducible apply f6);rfl;rfl|(with_reducible apply d7);rfl;all_goals (intro hb hp;try (exfalso;omega))|(with_reducible apply a0K);rfl;all_goals (intro hb hp;try (exfalso;omega))|(with_reducible apply d8 hS);rfl;rfl;rfl;refine ⟨_,q7 _ _ _ _,?_⟩;clear hS;intro w' hS)
       (refine j4 rfl ?_)
       exact ⟨rfl,hS.sub (xh2 _)⟩
     ·by_cases k2':e.kind=2
      ·by_cases r:0<=e.at_/\e.at_<=(sl.length:Int) - 1
       ·have hE:=a28 (A:=A) (nf:=fr.length) (ns:=sl.length) hsm hl (xd3 ⟨k2',by omega,by omega⟩);rw [hE,xh8]
        repeat' (first|(with_reducible apply b9 b8);rfl;rfl;rfl|(with_reducible apply c9);rfl;(first|apply Ld.sc b8;rfl;exact hS.blkC 0 rfl rfl|apply Ld.sl b8;rfl;(first|exact hS.blkC 0 rfl rfl|exact hS.blkC 1 rfl rfl)|apply Ld.st b8;rfl;exact hS.roR (by assumption) (by assumption);rfl);rfl|(with_reducible apply l8 b8);rfl;rfl;rfl;rfl;omega;rfl|refine yDn (by with_reducible constructor) ?_|(with_reducible apply d6 hS b8);rfl;rfl;rfl;clear hS;intro g w' hS|(with_reducible apply d5 hS b8 (i:=0));(iterate 8 rfl);(first|exact (rfl:_=[_,_,_])|exact (rfl:_=[_,_,_,_]));clear hS;intro w' hS;simp only [List.set] at hS|(with_reducible apply d7);rfl;all_goals (intro hb hp;try (exfalso;omega))|(with_reducible apply d8 hS);rfl;rfl;rfl;refine ⟨_,haa _ (har.now hS),?_⟩;clear hS;intro w' hS)
        (focus ((with_reducible apply e6 _ _ _ (by kernel_rfl) (by kernel_rfl) hS);(repeat' ((first|(with_reducible apply j3 b8);rfl;rfl|(first|(with_reducible apply a0g);(iterate 4 rfl);rfl|(with_reducible apply a18);(iterate 4 rfl);assumption;rfl|(with_reducible apply a0c);rfl;rfl;rfl;all_goals (intro hb hp;try (exfalso;omega))|(with_reducible apply p7);rfl;(first|rfl|assumption);rfl;rfl))));all_goals ((with_reducible apply k8);intro w' hS';clear hS;have hS:=hS';clear hS')))
        repeat' (first|(with_reducible apply b9 b8);rfl;rfl;rfl|(with_reducible apply c9);rfl;(first|apply Ld.sc b8;rfl;exact hS.blkC 1 rfl rfl|apply Ld.sl b8;rfl;exact hS.blkC 3 rfl rfl);rfl|(with_reducible apply f9);rfl;rfl;omega;omega;rfl|(with_reducible apply a0R);rfl;rfl;omega;omega;rfl|refine yDn (by with_reducible constructor) ?_|(with_reducible apply f6);rfl;rfl|(with_reducible apply d7);rfl;all_goals (intro hb hp;try (exfalso;omega))|(with_reducible apply a0K);rfl;all_goals (intro hb hp;try (exfalso;omega))|(with_reducible apply d8 hS);rfl;rfl;rfl;refine ⟨_,q7 _ _ _ _,?_⟩;clear hS;intro w' hS)
        exact f8 (i + 1,e.page) (by exact Fr.sub_of rfl) ⟨by show i + 1<=es.length;omega,xd3 ⟨by show 0 < i + 1;omega,_,he,rfl⟩,rfl⟩ hS.drop.drop (by show es.length - (i + 1) < es.length - i;omega)
       ·have hE:=a1u (A:=A) (nf:=fr.length) (ns:=sl.length) hl (fun h:(e.kind=1/\0<=e.at_/\e.at_ < (fr.length:Int))\/(e.kind=2/\0<=e.at_/\e.at_ < (sl.length:Int))=>by omega);rw [hE,xh7,xk6]
        repeat' (first|(with_reducible apply b9 b8);rfl;rfl;rfl|(with_reducible apply c9);rfl;(first|apply Ld.sc b8;rfl;exact hS.blkC 0 rfl rfl|apply Ld.sl b8;rfl;(first|exact hS.blkC 0 rfl rfl|exact hS.blkC 1 rfl rfl)|apply Ld.st b8;rfl;exact hS.roR (by assumption) (by assumption);rfl);rfl|(with_reducible apply l8 b8);rfl;rfl;rfl;rfl;omega;rfl|refine yDn (by with_reducible constructor) ?_|(with_reducible apply d6 hS b8);rfl;rfl;rfl;clear hS;intro g w' hS|(with_reducible apply d5 hS b8 (i:=0));(iterate 8 rfl);(first|exact (rfl:_=[_,_,_])|exact (rfl:_=[_,_,_,_]));clear hS;intro w' hS;simp only [List.set] at hS|(with_reducible apply d7);rfl;all_goals (intro hb hp;try (exfalso;omega))|(with_reducible apply d8 hS);rfl;rfl;rfl;refine ⟨_,haa _ (har.now hS),?_⟩;clear hS;intro w' hS)
        (focus ((with_reducible apply e6 _ _ _ (by kernel_rfl) (by kernel_rfl) hS);(repeat' ((first|(with_reducible apply j3 b8);rfl;rfl|(first|(with_reducible apply a0g);(iterate 4 rfl);rfl|(with_reducible apply a18);(iterate 4 rfl);assumption;rfl|(with_reducible apply a0c);rfl;rfl;rfl;all_goals (intro hb hp;try (exfalso;omega))|(with_reducible apply p7);rfl;(first|rfl|assumption);rfl;rfl))));all_goals ((with_reducible apply k8);intro w' hS';clear hS;have hS:=hS';clear hS')))
        repeat' (first|(with_reducible apply b9 b8);rfl;rfl;rfl|(with_reducible apply c9);rfl;(first|apply Ld.sc b8;rfl;exact hS.blkC 1 rfl rfl|apply Ld.sl b8;rfl;exact hS.blkC 3 rfl rfl);rfl|(with_reducible apply a0R);rfl;rfl;omega;omega;rfl|refine yDn (by with_reducible constructor) ?_|(with_reducible apply f6);rfl;rfl|(with_reducible apply d7);rfl;all_goals (intro hb hp;try (exfalso;omega))|(with_reducible apply a0K);rfl;all_goals (intro hb hp;try (exfalso;omega))|(with_reducible apply d8 hS);rfl;rfl;rfl;refine ⟨_,q7 _ _ _ _,?_⟩;clear hS;intro w' hS)
        (refine j4 rfl ?_)
        exact ⟨rfl,hS.sub (xh2 _)⟩
      ·have hE:=a1u (A:=A) (nf:=fr.length) (ns:=sl.length) hl (fun h:(e.kind=1/\0<=e.at_/\e.at_ < (fr.length:Int))\/(e.kind=2/\0<=e.at_/\e.at_ < (sl.length:Int))=>by omega);rw [hE,xh7,xk6]
       repeat' (first|(with_reducible apply b9 b8);rfl;rfl;rfl|(with_reducible apply c9);rfl;(first|apply Ld.sc b8;rfl;exact hS.blkC 0 rfl rfl|apply Ld.sl b8;rfl;(first|exact hS.blkC 0 rfl rfl|exact hS.blkC 1 rfl rfl)|apply Ld.st b8;rfl;exact hS.roR (by assumption) (by assumption);rfl);rfl|(with_reducible apply l8 b8);rfl;rfl;rfl;rfl;omega;rfl|refine yDn (by with_reducible constructor) ?_|(with_reducible apply d6 hS b8);rfl;rfl;rfl;clear hS;intro g w' hS|(with_reducible apply d5 hS b8 (i:=0));(iterate 8 rfl);(first|exact (rfl:_=[_,_,_])|exact (rfl:_=[_,_,_,_]));clear hS;intro w' hS;simp only [List.set] at hS|(with_reducible apply d7);rfl;all_goals (intro hb hp;try (exfalso;omega))|(with_reducible apply d8 hS);rfl;rfl;rfl;refine ⟨_,haa _ (har.now hS),?_⟩;clear hS;intro w' hS)
       (focus ((with_reducible apply e6 _ _ _ (by kernel_rfl) (by kernel_rfl) hS);(repeat' ((first|(with_reducible apply j3 b8);rfl;rfl|(first|(with_reducible apply a0g);(iterate 4 rfl);rfl|(with_reducible apply a18);(iterate 4 rfl);assumption;rfl|(with_reducible apply a0c);rfl;rfl;rfl;all_goals (intro hb hp;try (exfalso;omega))|(with_reducible apply p7);rfl;(first|rfl|assumption);rfl;rfl))));all_goals ((with_reducible apply k8);intro w' hS';clear hS;have hS:=hS';clear hS')))
       repeat' (first|(with_reducible apply b9 b8);rfl;rfl;rfl|(with_reducible apply c9);rfl;(apply Ld.sc b8;rfl;exact hS.blkC 1 rfl rfl);rfl|refine yDn (by with_reducible constructor) ?_|(with_reducible apply e8);rfl;rfl|(with_reducible apply f6);rfl;rfl|(with_reducible apply d7);rfl;all_goals (intro hb hp;try (exfalso;omega)))
       (refine j4 rfl ?_)
       exact ⟨rfl,hS.sub (xh2 _)⟩
    ·have e1:((i:Int) - 1).toNat=i - 1:=by omega
     have hrow2:(es.map fun (e:En)=>[Value.int .i64 e.page,Value.int .i64 e.kind,Value.int .i64 e.at_])[((i:Int) - 1).toNat]?=some [.int .i64 y.page,.int .i64 y.kind,.int .i64 y.at_]:=by rw [e1];exact d9 (f:=enC) hy
     by_cases hl:y.page < e.page
     ·by_cases k1':e.kind=1
      ·by_cases r:0<=e.at_/\e.at_<=(fr.length:Int) - 1
       ·have hE:=a28 (A:=A) (nf:=fr.length) (ns:=sl.length) hsm hl (xd6 ⟨k1',by omega,by omega⟩);rw [hE,xh8]
        repeat' (first|(with_reducible apply b9 b8);rfl;rfl;rfl|(with_reducible apply c9);rfl;(first|apply Ld.sc b8;rfl;exact hS.blkC 0 rfl rfl|apply Ld.sl b8;rfl;(first|exact hS.blkC 0 rfl rfl|exact hS.blkC 1 rfl rfl)|apply Ld.st b8;rfl;exact hS.roR (by assumption) (by assumption);rfl);rfl|(with_reducible apply l8 b8);rfl;rfl;rfl;rfl;omega;rfl|refine yDn (by with_reducible constructor) ?_|(with_reducible apply d6 hS b8);rfl;rfl;rfl;clear hS;intro g w' hS|(with_reducible apply d5 hS b8 (i:=0));(iterate 8 rfl);(first|exact (rfl:_=[_,_,_])|exact (rfl:_=[_,_,_,_]));clear hS;intro w' hS;simp only [List.set] at hS|(with_reducible apply d7);rfl;all_goals (intro hb hp;try (exfalso;omega))|(with_reducible apply d8 hS);rfl;rfl;rfl;refine ⟨_,haa _ (har.now hS),?_⟩;clear hS;intro w' hS)
        (focus ((with_reducible apply e6 _ _ _ (by kernel_rfl) (by kernel_rfl) hS);(repeat' ((first|(with_reducible apply a1G);rfl;rfl;omega;omega;rfl|(with_reducible apply j3 b8);rfl;rfl|(with_reducible apply j0);rfl;(intro wd hd;replace hd:St _ _ wd _:=hd;(first|apply Ld.sc b8;rfl;(first|exact hd.blkC 1 rfl rfl|exact hd.roC0 (by assumption) (by assumption) rfl)|apply Ld.sl b8;rfl;exact hd.blkC 2 rfl rfl));rfl|(with_reducible apply a0s b8);rfl;rfl;rfl;exact xk8 (by omega);omega;rfl|(first|((with_reducible apply a0g);(iterate 4 rfl);first|rfl|assumption)|(with_reducible apply a0c);rfl;rfl;rfl;all_goals (intro hb hp;try (exfalso;omega))|(with_reducible apply p9);rfl;assumption;rfl;rfl|(with_reducible apply p7);rfl;rfl;rfl;rfl))));all_goals ((with_reducible apply k8);intro w' hS';clear hS;have hS:=hS';clear hS')))
        repeat' (first|(with_reducible apply b9 b8);rfl;rfl;rfl|(with_reducible apply c9);rfl;(first|apply Ld.sc b8;rfl;exact hS.blkC 1 rfl rfl|apply Ld.sl b8;rfl;exact hS.blkC 3 rfl rfl);rfl|(with_reducible apply f9);rfl;rfl;omega;omega;rfl|(with_reducible apply a0R);rfl;rfl;omega;omega;rfl|refine yDn (by with_reducible constructor) ?_|(with_reducible apply d7);rfl;all_goals (intro hb hp;try (exfalso;omega))|(with_reducible apply a0K);rfl;all_goals (intro hb hp;try (exfalso;omega))|(with_reducible apply d8 hS);rfl;rfl;rfl;refine ⟨_,q7 _ _ _ _,?_⟩;clear hS;intro w' hS)
        exact f8 (i + 1,e.page) (by exact Fr.sub_of rfl) ⟨by show i + 1<=es.length;omega,xd3 ⟨by show 0 < i + 1;omega,_,he,rfl⟩,rfl⟩ hS.drop.drop (by show es.length - (i + 1) < es.length - i;omega)
       ·have hE:=a1u (A:=A) (nf:=fr.length) (ns:=sl.length) hl (fun h:(e.kind=1/\0<=e.at_/\e.at_ < (fr.length:Int))\/(e.kind=2/\0<=e.at_/\e.at_ < (sl.length:Int))=>by omega);rw [hE,xh7,xk6]
        repeat' (first|(with_reducible apply b9 b8);rfl;rfl;rfl|(with_reducible apply c9);rfl;(first|apply Ld.sc b8;rfl;exact hS.blkC 0 rfl rfl|apply Ld.sl b8;rfl;(first|exact hS.blkC 0 rfl rfl|exact hS.blkC 1 rfl rfl)|apply Ld.st b8;rfl;exact hS.roR (by assumption) (by assumption);rfl);rfl|(with_reducible apply l8 b8);rfl;rfl;rfl;rfl;omega;rfl|refine yDn (by with_reducible constructor) ?_|(with_reducible apply d6 hS b8);rfl;rfl;rfl;clear hS;intro g w' hS|(with_reducible apply d5 hS b8 (i:=0));(iterate 8 rfl);(first|exact (rfl:_=[_,_,_])|exact (rfl:_=[_,_,_,_]));clear hS;intro w' hS;simp only [List.set] at hS|(with_reducible apply d7);rfl;all_goals (intro hb hp;try (exfalso;omega))|(with_reducible apply d8 hS);rfl;rfl;rfl;refine ⟨_,haa _ (har.now hS),?_⟩;clear hS;intro w' hS)
        (focus ((with_reducible apply e6 _ _ _ (by kernel_rfl) (by kernel_rfl) hS);(repeat' ((first|(with_reducible apply a1G);rfl;rfl;omega;omega;rfl|(with_reducible apply j3 b8);rfl;rfl|(with_reducible apply j0);rfl;(intro wd hd;replace hd:St _ _ wd _:=hd;(first|apply Ld.sc b8;rfl;(first|exact hd.blkC 1 rfl rfl|exact hd.roC0 (by assumption) (by assumption) rfl)|apply Ld.sl b8;rfl;exact hd.blkC 2 rfl rfl));rfl|(with_reducible apply a0s b8);rfl;rfl;rfl;exact xk8 (by omega);omega;rfl|(first|((with_reducible apply a0g);(iterate 4 rfl);first|rfl|assumption)|(with_reducible apply a0c);rfl;rfl;rfl;all_goals (intro hb hp;try (exfalso;omega))|(with_reducible apply p9);rfl;assumption;rfl;rfl|(with_reducible apply p7);rfl;rfl;rfl;rfl))));all_goals ((with_reducible apply k8);intro w' hS';clear hS;have hS:=hS';clear hS')))
        repeat' (first|(with_reducible apply b9 b8);rfl;rfl;rfl|(with_reducible apply c9);rfl;(first|apply Ld.sc b8;rfl;exact hS.blkC 1 rfl rfl|apply Ld.sl b8;rfl;exact hS.blkC 3 rfl rfl);rfl|(with_reducible apply a0R);rfl;rfl;omega;omega;rfl|refine yDn (by with_reducible constructor) ?_|(with_reducible apply d7);rfl;all_goals (intro hb hp;try (exfalso;omega))|(with_reducible apply a0K);rfl;all_goals (intro hb hp;try (exfalso;omega))|(with_reducible apply d8 hS);rfl;rfl;rfl;refine ⟨_,q7 _ _ _ _,?_⟩;clear hS;intro w' hS)
        (refine j4 rfl ?_)
        exact ⟨rfl,hS.sub (xh2 _)⟩
      ·by_cases k2':e.kind=2
       ·by_cases r:0<=e.at_/\e.at_<=(sl.length:Int) - 1
        ·have hE:=a28 (A:=A) (nf:=fr.length) (ns:=sl.length) hsm hl (xd3 ⟨k2',by omega,by omega⟩);rw [hE,xh8]
         repeat' (first|(with_reducible apply b9 b8);rfl;rfl;rfl|(with_reducible apply c9);rfl;(first|apply Ld.sc b8;rfl;exact hS.blkC 0 rfl rfl|apply Ld.sl b8;rfl;(first|exact hS.blkC 0 rfl rfl|exact hS.blkC 1 rfl rfl)|apply Ld.st b8;rfl;exact hS.roR (by assumption) (by assumption);rfl);rfl|(with_reducible apply l8 b8);rfl;rfl;rfl;rfl;omega;rfl|refine yDn (by with_reducible constructor) ?_|(with_reducible apply d6 hS b8);rfl;rfl;rfl;clear hS;intro g w' hS|(with_reducible apply d5 hS b8 (i:=0));(iterate 8 rfl);(first|exact (rfl:_=[_,_,_])|exact (rfl:_=[_,_,_,_]));clear hS;intro w' hS;simp only [List.set] at hS|(with_reducible apply d7);rfl;all_goals (intro hb hp;try (exfalso;omega))|(with_reducible apply d8 hS);rfl;rfl;rfl;refine ⟨_,haa _ (har.now hS),?_⟩;clear hS;intro w' hS)
         (focus ((with_reducible apply e6 _ _ _ (by kernel_rfl) (by kernel_rfl) hS);(repeat' ((first|(with_reducible apply a1G);rfl;rfl;omega;omega;rfl|(with_reducible apply j3 b8);rfl;rfl|(with_reducible apply j0);rfl;(intro wd hd;replace hd:St _ _ wd _:=hd;(first|apply Ld.sc b8;rfl;(first|exact hd.blkC 1 rfl rfl|exact hd.roC0 (by assumption) (by assumption) rfl)|apply Ld.sl b8;rfl;exact hd.blkC 2 rfl rfl));rfl|(with_reducible apply a0s b8);rfl;rfl;rfl;exact xk8 (by omega);omega;rfl|(first|((with_reducible apply a0g);(iterate 4 rfl);first|rfl|assumption)|(with_reducible apply a0c);rfl;rfl;rfl;all_goals (intro hb hp;try (exfalso;omega))|(with_reducible apply p9);rfl;assumption;rfl;rfl|(with_reducible apply p7);rfl;rfl;rfl;rfl))));all_goals ((with_reducible apply k8);intro w' hS';clear hS;have hS:=hS';clear hS')))
         repeat' (first|(with_reducible apply b9 b8);rfl;rfl;rfl|(with_reducible apply c9);rfl;(first|apply Ld.sc b8;rfl;exact hS.blkC 1 rfl rfl|apply Ld.sl b8;rfl;exact hS.blkC 3 rfl rfl);rfl|(with_reducible apply f9);rfl;rfl;omega;omega;rfl|(with_reducible apply a0R);rfl;rfl;omega;omega;rfl|refine yDn (by with_reducible constructor) ?_|(with_reducible apply d7);rfl;all_goals (intro hb hp;try (exfalso;omega))|(with_reducible apply a0K);rfl;all_goals (intro hb hp;try (exfalso;omega))|(with_reducible apply d8 hS);rfl;rfl;rfl;refine ⟨_,q7 _ _ _ _,?_⟩;clear hS;intro w' hS)
         exact f8 (i + 1,e.page) (by exact Fr.sub_of rfl) ⟨by show i + 1<=es.length;omega,xd3 ⟨by show 0 < i + 1;omega,_,he,rfl⟩,rfl⟩ hS.drop.drop (by show es.length - (i + 1) < es.length - i;omega)
        ·have hE:=a1u (A:=A) (nf:=fr.length) (ns:=sl.length) hl (fun h:(e.kind=1/\0<=e.at_/\e.at_ < (fr.length:Int))\/(e.kind=2/\0<=e.at_/\e.at_ < (sl.length:Int))=>by omega);rw [hE,xh7,xk6]
         repeat' (first|(with_reducible apply b9 b8);rfl;rfl;rfl|(with_reducible apply c9);rfl;(first|apply Ld.sc b8;rfl;exact hS.blkC 0 rfl rfl|apply Ld.sl b8;rfl;(first|exact hS.blkC 0 rfl rfl|exact hS.blkC 1 rfl rfl)|apply Ld.st b8;rfl;exact hS.roR (by assumption) (by assumption);rfl);rfl|(with_reducible apply l8 b8);rfl;rfl;rfl;rfl;omega;rfl|refine yDn (by with_reducible constructor) ?_|(with_reducible apply d6 hS b8);rfl;rfl;rfl;clear hS;intro g w' hS|(with_reducible apply d5 hS b8 (i:=0));(iterate 8 rfl);(first|exact (rfl:_=[_,_,_])|exact (rfl:_=[_,_,_,_]));clear hS;intro w' hS;simp only [List.set] at hS|(with_reducible apply d7);rfl;all_goals (intro hb hp;try (exfalso;omega))|(with_reducible apply d8 hS);rfl;rfl;rfl;refine ⟨_,haa _ (har.now hS),?_⟩;clear hS;intro w' hS)
         (focus ((with_reducible apply e6 _ _ _ (by kernel_rfl) (by kernel_rfl) hS);(repeat' ((first|(with_reducible apply a1G);rfl;rfl;omega;omega;rfl|(with_reducible apply j3 b8);rfl;rfl|(with_reducible apply j0);rfl;(intro wd hd;replace hd:St _ _ wd _:=hd;(first|apply Ld.sc b8;rfl;(first|exact hd.blkC 1 rfl rfl|exact hd.roC0 (by assumption) (by assumption) rfl)|apply Ld.sl b8;rfl;exact hd.blkC 2 rfl rfl));rfl|(with_reducible apply a0s b8);rfl;rfl;rfl;exact xk8 (by omega);omega;rfl|(first|((with_reducible apply a0g);(iterate 4 rfl);first|rfl|assumption)|(with_reducible apply a0c);rfl;rfl;rfl;all_goals (intro hb hp;try (exfalso;omega))|(with_reducible apply p9);rfl;assumption;rfl;rfl|(with_reducible apply p7);rfl;rfl;rfl;rfl))));all_goals ((with_reducible apply k8);intro w' hS';clear hS;have hS:=hS';clear hS')))
         repeat' (first|(with_reducible apply b9 b8);rfl;rfl;rfl|(with_reducible apply c9);rfl;(first|apply Ld.sc b8;rfl;exact hS.blkC 1 rfl rfl|apply Ld.sl b8;rfl;exact hS.blkC 3 rfl rfl);rfl|(with_reducible apply a0R);rfl;rfl;omega;omega;rfl|refine yDn (by with_reducible constructor) ?_|(with_reducible apply d7);rfl;all_goals (intro hb hp;try (exfalso;omega))|(with_reducible apply a0K);rfl;all_goals (intro hb hp;try (exfalso;omega))|(with_reducible apply d8 hS);rfl;rfl;rfl;refine ⟨_,q7 _ _ _ _,?_⟩;clear hS;intro w' hS)
         (refine j4 rfl ?_)
         exact ⟨rfl,hS.sub (xh2 _)⟩
       ·have hE:=a1u (A:=A) (nf:=fr.length) (ns:=sl.length) hl (fun h:(e.kind=1/\0<=e.at_/\e.at_ < (fr.length:Int))\/(e.kind=2/\0<=e.at_/\e.at_ < (sl.length:Int))=>by omega);rw [hE,xh7,xk6]
        repeat' (first|(with_reducible apply b9 b8);rfl;rfl;rfl|(with_reducible apply c9);rfl;(first|apply Ld.sc b8;rfl;exact hS.blkC 0 rfl rfl|apply Ld.sl b8;rfl;(first|exact hS.blkC 0 rfl rfl|exact hS.blkC 1 rfl rfl)|apply Ld.st b8;rfl;exact hS.roR (by assumption) (by assumption);rfl);rfl|(with_reducible apply l8 b8);rfl;rfl;rfl;rfl;omega;rfl|refine yDn (by with_reducible constructor) ?_|(with_reducible apply d6 hS b8);rfl;rfl;rfl;clear hS;intro g w' hS|(with_reducible apply d5 hS b8 (i:=0));(iterate 8 rfl);(first|exact (rfl:_=[_,_,_])|exact (rfl:_=[_,_,_,_]));clear hS;intro w' hS;simp only [List.set] at hS|(with_reducible apply d7);rfl;all_goals (intro hb hp;try (exfalso;omega))|(with_reducible apply d8 hS);rfl;rfl;rfl;refine ⟨_,haa _ (har.now hS),?_⟩;clear hS;intro w' hS)
        (focus ((with_reducible apply e6 _ _ _ (by kernel_rfl) (by kernel_rfl) hS);(repeat' ((first|(with_reducible apply a1G);rfl;rfl;omega;omega;rfl|(with_reducible apply j3 b8);rfl;rfl|(with_reducible apply j0);rfl;(intro wd hd;replace hd:St _ _ wd _:=hd;(first|apply Ld.sc b8;rfl;(first|exact hd.blkC 1 rfl rfl|exact hd.roC0 (by assumption) (by assumption) rfl)|apply Ld.sl b8;rfl;exact hd.blkC 2 rfl rfl));rfl|(with_reducible apply a0s b8);rfl;rfl;rfl;exact xk8 (by omega);omega;rfl|(first|((with_reducible apply a0g);(iterate 4 rfl);first|rfl|assumption)|(with_reducible apply a0c);rfl;rfl;rfl;all_goals (intro hb hp;try (exfalso;omega))|(with_reducible apply p9);rfl;assumption;rfl;rfl|(with_reducible apply p7);rfl;rfl;rfl;rfl))));all_goals ((with_reducible apply k8);intro w' hS';clear hS;have hS:=hS';clear hS')))
        repeat' (first|(with_reducible apply b9 b8);rfl;rfl;rfl|(with_reducible apply c9);rfl;(apply Ld.sc b8;rfl;exact hS.blkC 1 rfl rfl);rfl|refine yDn (by with_reducible constructor) ?_|(with_reducible apply e8);rfl;rfl|(with_reducible apply d7);rfl;all_goals (intro hb hp;try (exfalso;omega)))
        (refine j4 rfl ?_)
        exact ⟨rfl,hS.sub (xh2 _)⟩
     ·have hE:a16 A fr.length sl.length y.page e=false:=by unfold a16;rw [xh9 (fun h=>hl h.1),xk6]
      rw [hE,xh7,xk6]
      repeat' (first|(with_reducible apply b9 b8);rfl;rfl;rfl|(with_reducible apply c9);rfl;(first|apply Ld.sc b8;rfl;exact hS.blkC 0 rfl rfl|apply Ld.sl b8;rfl;(first|exact hS.blkC 0 rfl rfl|exact hS.blkC 1 rfl rfl)|apply Ld.st b8;rfl;exact hS.roR (by assumption) (by assumption);rfl);rfl|(with_reducible apply l8 b8);rfl;rfl;rfl;rfl;omega;rfl|refine yDn (by with_reducible constructor) ?_|(with_reducible apply d6 hS b8);rfl;rfl;rfl;clear hS;intro g w' hS|(with_reducible apply d5 hS b8 (i:=0));(iterate 8 rfl);(first|exact (rfl:_=[_,_,_])|exact (rfl:_=[_,_,_,_]));clear hS;intro w' hS;simp only [List.set] at hS|(with_reducible apply d7);rfl;all_goals (intro hb hp;try (exfalso;omega))|(with_reducible apply d8 hS);rfl;rfl;rfl;refine ⟨_,haa _ (har.now hS),?_⟩;clear hS;intro w' hS)
      (focus ((with_reducible apply e6 _ _ _ (by kernel_rfl) (by kernel_rfl) hS);(repeat' ((first|(with_reducible apply a1G);rfl;rfl;omega;omega;rfl|(with_reducible apply j3 b8);rfl;rfl|(with_reducible apply j0);rfl;(intro wd hd;replace hd:St _ _ wd _:=hd;(first|apply Ld.sc b8;rfl;(first|exact hd.blkC 1 rfl rfl|exact hd.roC0 (by assumption) (by assumption) rfl)|apply Ld.sl b8;rfl;exact hd.blkC 2 rfl rfl));rfl|(with_reducible apply a0s b8);rfl;rfl;rfl;exact xk8 (by omega);omega;rfl|(first|((with_reducible apply a0g);(iterate 4 rfl);first|rfl|assumption)|(with_reducible apply a0c);rfl;rfl;rfl;all_goals (intro hb hp;try (exfalso;omega))|(with_reducible apply p9);rfl;assumption;rfl;rfl|(with_reducible apply p7);rfl;rfl;rfl;rfl))));all_goals ((with_reducible apply k8);intro w' hS';clear hS;have hS:=hS';clear hS')))
      repeat' (first|(with_reducible apply b9 b8);rfl;rfl;rfl|refine yDn (by with_reducible constructor) ?_|(with_reducible apply d7);rfl;all_goals (intro hb hp;try (exfalso;omega)))
      (refine j4 rfl ?_)
      exact ⟨rfl,hS.sub (xh2 _)⟩
  obtain rfl:i=es.length:=by omega
  rw [hents,xk9,show a1v A fr.length sl.length last []=true from rfl,xl0]
  repeat' (first|(with_reducible apply b9 b8);rfl;rfl;rfl|(with_reducible apply c9);rfl;(apply Ld.sl b8;rfl;exact hS.blkC 0 rfl rfl);rfl|refine yDn (by with_reducible constructor) ?_|(with_reducible apply d7);rfl;all_goals (intro hb hp;try (exfalso;omega)))
  refine l4 (X:=Int) (fun x=>[(9,.int .i64 x)]) [2,3] rfl (fun _=>[]) (fun x=>1<=x/\x<=256/\∀ p:Int,1<=p->p < x->a7L (shs sh) A p=true) (fun x=>(256 - x).toNat) 1 (by exact Fr.sub_of rfl) ⟨by omega,by omega,fun p h1 h2=>by omega⟩ hS ?_;clear hS hents hlast;rintro q w2 ⟨hq1,hq2,hpre⟩ hS;dsimp only [List.cons_append,List.nil_append] at hS |-;by_cases hq:q<=255;rotate_left
  ·rw [(a7d hgood).2 (fun p h1 h2=>hpre p h1 (by omega))]
   repeat' (first|(with_reducible apply b9 b8);rfl;rfl;rfl|refine yDn (by with_reducible constructor) ?_|(with_reducible apply d7);rfl;all_goals (intro hb hp;try (exfalso;omega)))
   (refine j4 rfl ?_)
   exact ⟨rfl,hS.sub (xh2 _)⟩
  have haa:=fun w1 (h:Sl nF w1 4 (.slice pa A.length ca) (A.map arC))=>a32 q h hok;unfold a2f arC at haa;have hsq:=fun w1 (h:ShsV w1 sh (.slice p1 sh.length c1))=>hso w1 q h;have hpb:a7L (shs sh) A q=(match n7 A q with|some a=>a.z||(a29 sh q).isSome|none=>true):=by
   unfold a7L;rw [a5U,Option.isSome_map]
   cases n7 A q <;> rfl
  cases hsf:a29 sh q with
  |none=>
   rw [hsf] at hsq hpb;unfold a5r at hsq;dsimp only at hsq
   cases hf:n7 A q with
   |none=>
    rw [hf] at haa hpb;dsimp only [Option.getD,Option.isSome] at haa hpb
    repeat' (first|(with_reducible apply b9 b8);rfl;rfl;rfl|(with_reducible apply c9);rfl;(apply Ld.sl b8;rfl;(first|exact hS.blkC 0 rfl rfl|exact hS.blkC 2 rfl rfl));rfl|(with_reducible apply f9);rfl;rfl;omega;omega;rfl|refine yDn (by with_reducible constructor) ?_|(with_reducible apply q8);(iterate 4 rfl);rfl;rfl|(with_reducible apply e9);rfl;rfl;rfl;rfl|(with_reducible apply f6);rfl;rfl|(with_reducible apply d6 hS b8);rfl;rfl;rfl;clear hS;intro g w' hS|(with_reducible apply d5 hS b8 (i:=0));(iterate 8 rfl);(first|exact (rfl:_=[_,_,_])|exact (rfl:_=[_,_,_,_]));clear hS;intro w' hS;simp only [List.set] at hS|(with_reducible apply d7);rfl;all_goals (intro hb hp;try (exfalso;omega))|(with_reducible apply d8 hS);rfl;rfl;rfl;refine ⟨_,haa _ (har.now hS),?_⟩;clear hS;intro w' hS|(with_reducible apply d8 hS);rfl;rfl;rfl;refine ⟨_,hsq _ (k1.now hS),?_⟩;clear hS;intro w' hS)
    refine f8 (q + 1) (by exact Fr.sub_of rfl) ⟨by omega,by omega,fun p h1 h2=>?_⟩ hS.drop.drop (by omega);by_cases e:p=q
    ·subst e;exact hpb
    ·exact hpre p h1 (by omega)
   |some a=>
    rw [hf] at haa hpb;dsimp only [Option.getD,Option.isSome] at haa hpb
    cases hz:a.z with
    |true=>
     rw [hz] at hpb haa
     repeat' (first|(with_reducible apply b9 b8);rfl;rfl;rfl|(with_reducible apply c9);rfl;(first|apply Ld.sc b8;rfl;exact hS.blkC 1 rfl rfl|apply Ld.sl b8;rfl;(first|exact hS.blkC 0 rfl rfl|exact hS.blkC 2 rfl rfl));rfl|(with_reducible apply f9);rfl;rfl;omega;omega;rfl|refine yDn (by with_reducible constructor) ?_|(with_reducible apply k6);(iterate 4 rfl);rfl|(with_reducible apply q8);(iterate 4 rfl);rfl;rfl|(with_reducible apply i7);rfl;rfl;rfl;rfl|(with_reducible apply e9);rfl;rfl;rfl;rfl|(with_reducible apply f6);rfl;rfl|(with_reducible apply d6 hS b8);rfl;rfl;rfl;clear hS;intro g w' hS|(with_reducible apply d5 hS b8 (i:=0));(iterate 8 rfl);(first|exact (rfl:_=[_,_,_])|exact (rfl:_=[_,_,_,_]));clear hS;intro w' hS;simp only [List.set] at hS|(with_reducible apply d7);rfl;all_goals (intro hb hp;try (exfalso;omega))|(with_reducible apply d8 hS);rfl;rfl;rfl;refine ⟨_,haa _ (har.now hS),?_⟩;clear hS;intro w' hS|(with_reducible apply d8 hS);rfl;rfl;rfl;refine ⟨_,hsq _ (k1.now hS),?_⟩;clear hS;intro w' hS)
     refine f8 (q + 1) (by exact Fr.sub_of rfl) ⟨by omega,by omega,fun p h1 h2=>?_⟩ hS.drop.drop (by omega);by_cases e:p=q
     ·subst e;exact hpb
     ·exact hpre p h1 (by omega)
    |false=>
     rw [hz] at hpb haa;have hno:a1B (shs sh) A=false:=by
      rw [xl1];intro h;have:=(a7d hgood).1 h q hq1 hq;rw [hpb] at this
      cases this
     rw [hno]
     repeat' (first|(with_reducible apply b9 b8);rfl;rfl;rfl|(with_reducible apply c9);rfl;(first|apply Ld.sc b8;rfl;exact hS.blkC 1 rfl rfl|apply Ld.sl b8;rfl;(first|exact hS.blkC 0 rfl rfl|exact hS.blkC 2 rfl rfl));rfl|refine yDn (by with_reducible constructor) ?_|(with_reducible apply k6);(iterate 4 rfl);rfl|(with_reducible apply i7);rfl;rfl;rfl;rfl|(with_reducible apply e8);rfl;rfl|(with_reducible apply d6 hS b8);rfl;rfl;rfl;clear hS;intro g w' hS|(with_reducible apply d5 hS b8 (i:=0));(iterate 8 rfl);(first|exact (rfl:_=[_,_,_])|exact (rfl:_=[_,_,_,_]));clear hS;intro w' hS;simp only [List.set] at hS|(with_reducible apply d7);rfl;all_goals (intro hb hp;try (exfalso;omega))|(with_reducible apply d8 hS);rfl;rfl;rfl;refine ⟨_,haa _ (har.now hS),?_⟩;clear hS;intro w' hS|(with_reducible apply d8 hS);rfl;rfl;rfl;refine ⟨_,hsq _ (k1.now hS),?_⟩;clear hS;intro w' hS)
     (refine j4 rfl ?_)
     exact ⟨rfl,hS.sub (xh2 _)⟩
  |some y=>
   have hfx:=k1.fx y (xj3 hsf);obtain ⟨S,u⟩:=y;dsimp only at hfx;obtain ⟨pu,cu,rfl⟩:=hfx.len;rw [hsf] at hsq hpb;unfold a5r shC at hsq;dsimp only at hsq
   cases hf:n7 A q with
   |none=>
    rw [hf] at haa hpb;dsimp only [Option.getD,Option.isSome] at haa hpb
    repeat' (first|(with_reducible apply b9 b8);rfl;rfl;rfl|(with_reducible apply c9);rfl;(apply Ld.sl b8;rfl;(first|exact hS.blkC 0 rfl rfl|exact hS.blkC 2 rfl rfl));rfl|(with_reducible apply f9);rfl;rfl;omega;omega;rfl|refine yDn (by with_reducible constructor) ?_|(with_reducible apply q8);(iterate 4 rfl);rfl;rfl|(with_reducible apply e9);rfl;rfl;rfl;rfl|(with_reducible apply f6);rfl;rfl|(with_reducible apply d6 hS b8);rfl;rfl;rfl;clear hS;intro g w' hS|(with_reducible apply d5 hS b8 (i:=0));(iterate 8 rfl);(first|exact (rfl:_=[_,_,_])|exact (rfl:_=[_,_,_,_]));clear hS;intro w' hS;simp only [List.set] at hS|(with_reducible apply d7);rfl;all_goals (intro hb hp;try (exfalso;omega))|(with_reducible apply d8 hS);rfl;rfl;rfl;refine ⟨_,haa _ (har.now hS),?_⟩;clear hS;intro w' hS|(with_reducible apply d8 hS);rfl;rfl;rfl;refine ⟨_,hsq _ (k1.now hS),?_⟩;clear hS;intro w' hS)
    refine f8 (q + 1) (by exact Fr.sub_of rfl) ⟨by omega,by omega,fun p h1 h2=>?_⟩ hS.drop.drop (by omega);by_cases e:p=q
    ·subst e;exact hpb
    ·exact hpre p h1 (by omega)
   |some a=>
    rw [hf] at haa hpb;dsimp only [Option.getD,Option.isSome] at haa hpb;rw [Bool.or_true] at hpb
    cases hz:a.z with
    |true=>
     rw [hz] at haa
     repeat' (first|(with_reducible apply b9 b8);rfl;rfl;rfl|(with_reducible apply c9);rfl;(first|apply Ld.sc b8;rfl;exact hS.blkC 1 rfl rfl|apply Ld.sl b8;rfl;(first|exact hS.blkC 0 rfl rfl|exact hS.blkC 2 rfl rfl));rfl|(with_reducible apply f9);rfl;rfl;omega;omega;rfl|refine yDn (by with_reducible constructor) ?_|(with_reducible apply k6);(iterate 4 rfl);rfl|(with_reducible apply q8);(iterate 4 rfl);rfl;rfl|(with_reducible apply i7);rfl;rfl;rfl;rfl|(with_reducible apply e9);rfl;rfl;rfl;rfl|(with_reducible apply f6);rfl;rfl|(with_reducible apply d6 hS b8);rfl;rfl;rfl;clear hS;intro g w' hS|(with_reducible apply d5 hS b8 (i:=0));(iterate 8 rfl);(first|exact (rfl:_=[_,_,_])|exact (rfl:_=[_,_,_,_]));clear hS;intro w' hS;simp only [List.set] at hS|(with_reducible apply d7);rfl;all_goals (intro hb hp;try (exfalso;omega))|(with_reducible apply d8 hS);rfl;rfl;rfl;refine ⟨_,haa _ (har.now hS),?_⟩;clear hS;intro w' hS|(with_reducible apply d8 hS);rfl;rfl;rfl;refine ⟨_,hsq _ (k1.now hS),?_⟩;clear hS;intro w' hS)
     refine f8 (q + 1) (by exact Fr.sub_of rfl) ⟨by omega,by omega,fun p h1 h2=>?_⟩ hS.drop.drop (by omega);by_cases e:p=q
     ·subst e;exact hpb
     ·exact hpre p h1 (by omega)
    |false=>
     rw [hz] at haa
     repeat' (first|(with_reducible apply b9 b8);rfl;rfl;rfl|(with_reducible apply c9);rfl;(first|apply Ld.sc b8;rfl;exact hS.blkC 1 rfl rfl|apply Ld.sl b8;rfl;(first|exact hS.blkC 0 rfl rfl|exact hS.blkC 2 rfl rfl));rfl|(with_reducible apply f9);rfl;rfl;omega;omega;rfl|refine yDn (by with_reducible constructor) ?_|(with_reducible apply k6);(iterate 4 rfl);rfl|(with_reducible apply i7);rfl;rfl;rfl;rfl|(with_reducible apply f6);rfl;rfl|(with_reducible apply d6 hS b8);rfl;rfl;rfl;clear hS;intro g w' hS|(with_reducible apply d5 hS b8 (i:=0));(iterate 8 rfl);(first|exact (rfl:_=[_,_,_])|exact (rfl:_=[_,_,_,_]));clear hS;intro w' hS;simp only [List.set] at hS|(with_reducible apply d7);rfl;all_goals (intro hb hp;try (exfalso;omega))|(with_reducible apply d8 hS);rfl;rfl;rfl;refine ⟨_,haa _ (har.now hS),?_⟩;clear hS;intro w' hS|(with_reducible apply d8 hS);rfl;rfl;rfl;refine ⟨_,hsq _ (k1.now hS),?_⟩;clear hS;intro w' hS)
     refine f8 (q + 1) (by exact Fr.sub_of rfl) ⟨by omega,by omega,fun p h1 h2=>?_⟩ hS.drop.drop (by omega);by_cases e:p=q
     ·subst e;exact hpb
     ·exact hpre p h1 (by omega)
theorem b1q (l:List Nm):(a06 l).1=(l.length:Int):=by
 have:∀ (l:List Nm) (s:b2J),(l.foldl a2U s).1=s.1 + (l.length:Int):=by
  intro l
  induction l with
  |nil=>intro s;simp
  |cons m l ih=>intro s;rw [xg3,ih,xb3];show s.1 + 1 + _=_;omega
 have h:=this l (0,0,true,a2c);unfold a06;rw [h];simp
theorem a3E:∀ (l:List Nm) (k:Int) (page:Int) (same:Bool) (a:Ar),1<=k->(l.foldl a2U (k,page,same,a)).2.2.1=(same && l.all fun m=>decide (m.1.page=page/\m.2.z=a.z))/\((l.foldl a2U (k,page,same,a)).2.2.1=true->(l.foldl a2U (k,page,same,a)).2.1=page/\(l.foldl a2U (k,page,same,a)).2.2.2.z=a.z)
 |[],k,page,same,a,_=>by simp
 |m::l,k,page,same,a,hk=>by
  have hk0:decide (k=0)=false:=xh9 (by omega);have hs:a2U (k,page,same,a) m=(k + 1,m.1.page,same && decide (m.1.page=page/\m.2.z=a.z),m.2):=by
   unfold a2U;dsimp only;rw [hk0,xl2,Bool.decide_and]
  rw [xg3,hs,xl3];by_cases h:m.1.page=page/\m.2.z=a.z
  ·have ih:=a3E l (k + 1) m.1.page same m.2 (by omega);rw [xi0 h,xl0,xh8];rw [h.1,h.2] at ih;rw [h.1];exact ih
  ·have ih:=a3E l (k + 1) m.1.page false m.2 (by omega);rw [xh7] at ih;rw [xh9 h,xk6,xh7,xk6];exact ⟨ih.1,fun hh=>by rw [ih.1] at hh;cases hh⟩
theorem a9a {n:Nm} {r:List Nm}:(a06 (n::r)).2.2.1=a0X (n::r)/\(a0X (n::r)=true->(a06 (n::r)).2.1=n.1.page/\(a06 (n::r)).2.2.2.z=n.2.z):=by
 have h:=a3E r 1 n.1.page true n.2 (by omega);have e:a06 (n::r)=r.foldl a2U (1,n.1.page,true,n.2):=rfl;rw [e];rw [xh8] at h;have ea:a0X (n::r)=r.all fun m=>decide (m.1.page=n.1.page/\m.2.z=n.2.z):=rfl;rw [ea];exact ⟨h.1,fun hh=>h.2 (h.1.trans hh)⟩
def m6 (l:List En) (p:Int):Option En:=l.find? fun e=>decide (e.page=p)
def m0 (l:List En):List Int:=l.map fun e=>e.page
def b0Y (l:List En) (e:En):List En:=l.take (lbd (m0 l) e.page)++e::l.drop (lbd (m0 l) e.page)
def a2r (l:List En) (e:En):List En:=if e.page ∈ m0 l then l.set (lbd (m0 l) e.page) e else b0Y l e
def y9 (f:Int) (t:Option Int) (e:En):Option En:=if e.kind=1/\e.at_=f then t.map (fun s=>⟨e.page,2,s⟩) else some e
def a0y (f:Int) (t:Option Int) (s:Sc):Sc:=⟨s.live,s.areas,s.entries.filterMap (y9 f t)⟩
def a2B (l:List Sw):Option Nat:=l.findIdx? fun s=>decide (s.refs=0)
def a4V (l:List Fm):Option Nat:=l.findIdx? fun f=>decide (f.refs=0)
def j7 (l:List Fm) (i:Nat):Fm:=(l[i]?).getD fm0
def a0T (l:List Sw) (i:Nat):Sw:=(l[i]?).getD sw0
def a0W (K:Ker) (f:Nat):Option Nat:=if (j7 K.frames f).dirty then some ((a2B K.slots).getD 0) else none
def v7 (K:Ker) (f:Nat):Ker :=
 ⟨K.sheets,K.frames.set f fm0,(match a0W K f with
  |some t=>K.slots.set t ⟨(j7 K.frames f).data,(j7 K.frames f).refs⟩
  |none=>K.slots),K.spaces.map (a0y (f:Nat) ((a0W K f).map fun (t:Nat)=>(t:Int))),K.hand⟩
def a0m (n h:Nat):Nat:=if h + 1=n then 0 else h + 1
def a01:Nat->List Fm->Nat->List Nat->List Fm×Nat×Nat
 |0,fr,h,_=>(fr,h,0)
 |k + 1,fr,h,held=>if h ∈ held then a01 k fr (a0m fr.length h) held else if (j7 fr h).seen then a01 k (fr.set h ⟨(j7 fr h).data,(j7 fr h).refs,(j7 fr h).dirty,false⟩) (a0m fr.length h) held else (fr,a0m fr.length h,h)
def a0w (K:Ker) (held:List Nat):List Fm×Nat×Nat:=a01 5000 K.frames K.hand.toNat held
def a0Z (K:Ker) (held:List Nat):Ker×Nat:=match a4V K.frames with
 |some i=>(K,i)
 |none=>(v7 ⟨K.sheets,(a0w K held).1,K.slots,K.spaces,((a0w K held).2.1:Nat)⟩ (a0w K held).2.2,(a0w K held).2.2)
def a4k (f:Fm):Fm:=if f.refs - 1=0 then fm0 else ⟨f.data,f.refs - 1,f.dirty,f.seen⟩
def a4n (s:Sw):Sw:=if s.refs - 1=0 then sw0 else ⟨s.data,s.refs - 1⟩
def a46 (K:Ker) (e:En):Ker:=if e.kind=1 then ⟨K.sheets,K.frames.set e.at_.toNat (a4k (j7 K.frames e.at_.toNat)),K.slots,K.spaces,K.hand⟩ else ⟨K.sheets,K.frames,K.slots.set e.at_.toNat (a4n (a0T K.slots e.at_.toNat)),K.spaces,K.hand⟩
def sc0:Sc:=⟨false,[],[]⟩
def a0C (K:Ker) (sp:Nat):Sc:=(K.spaces[sp]?).getD sc0
def j6 (K:Ker) (sp:Nat):List En:=(a0C K sp).entries
def l5 (K:Ker) (sp:Nat):List Ar:=(a0C K sp).areas
def b3P (K:Ker) (sp:Nat) (s:Sc):Ker:=⟨K.sheets,K.frames,K.slots,K.spaces.set sp s,K.hand⟩
def a8J (K:Ker) (sp:Nat) (l:List En):Ker:=b3P K sp ⟨(a0C K sp).live,(a0C K sp).areas,l⟩
def a0h (K:Ker) (f:Nat) (x:Fm):Ker:=⟨K.sheets,K.frames.set f x,K.slots,K.spaces,K.hand⟩
def a1P (K:Ker):Option En->Ker
 |some e=>a46 K e
 |none=>K
def inK (K:Ker) (sp:Nat) (page:Int) (f:Nat) (data:List UInt8) (dirty:Bool):Ker :=
 a8J (a1P (a0h K f ⟨data,1,dirty,false⟩) (m6 (j6 K sp) page)) sp (a2r (j6 K sp) ⟨page,1,(f:Nat)⟩)
def zAt (K:Ker) (sp:Nat) (page:Int):Bool:=((n7 (l5 K sp) page).getD a2c).z
def a1d (K:Ker) (sp:Nat) (page:Int):List UInt8:=(a0Q K.sheets (zAt K sp page) page).getD []
def a3c (K:Ker) (sp:Nat) (page:Int) (held:List Nat):Ker×Nat:=match m6 (j6 K sp) page with
 |none=>(inK (a0Z K held).1 sp page (a0Z K held).2 (a1d K sp page) false,(a0Z K held).2)
 |some e=>if e.kind=2 then (inK (a0Z K held).1 sp page (a0Z K held).2 (a0T K.slots e.at_.toNat).data true,(a0Z K held).2) else (K,e.at_.toNat)
def a7g (K:Ker) (sp:Nat) (page:Int) (write:Bool) (held:List Nat) (f:Nat):Ker×Nat :=
 if write=true/\1 < (j7 K.frames f).refs then (inK (a0Z K (held++[f])).1 sp page (a0Z K (held++[f])).2 (j7 K.frames f).data true,(a0Z K (held++[f])).2) else (K,f)
def a2g (K:Ker) (f:Nat) (write:Bool):Ker:=a0h K f ⟨(j7 K.frames f).data,(j7 K.frames f).refs,(j7 K.frames f).dirty||write,true⟩
def a1W (K:Ker) (sp:Nat) (page:Int) (write:Bool) (held:List Nat):Ker×Nat:=a7g (a3c K sp page held).1 sp page write held (a3c K sp page held).2
def a1c (K:Ker) (sp:Nat) (page:Int) (write:Bool) (held:List Nat):Ker×Nat:=(a2g (a1W K sp page write held).1 (a1W K sp page write held).2 write,(a1W K sp page write held).2)
def a1H (K:Ker) (sp:Nat) (addr size:Int) (write:Bool):Ker:=if (addr + size - 1) / 16=addr / 16 then (a1c K sp (addr / 16) write []).1 else (a1c (a1c K sp (addr / 16) write []).1 sp ((addr + size - 1) / 16) write [(a1c K sp (addr / 16) write []).2]).1
def a0a (K:Ker) (e:En):List UInt8:=if e.kind=1 then (j7 K.frames e.at_.toNat).data else (a0T K.slots e.at_.toNat).data
def a0b (K:Ker) (sp:Nat) (page:Int):List UInt8:=match m6 (j6 K sp) page with
 |some e=>a0a K e
 |none=>a1d K sp page
structure FmOk (sh:List Sh) (f:Fm) (N:List Nm):Prop where
 refs:f.refs=(N.length:Int)
 nil:N=[]->f=fm0
 len:N≠[]->f.data.length=16
 same:∀ n ∈ N,∀ m ∈ N,m.1.page=n.1.page/\m.2.z=n.2.z
 data:∀ n ∈ N,f.dirty=true\/some f.data=a0Q sh n.2.z n.1.page
structure SwOk (s:Sw) (N:List Nm):Prop where
 refs:s.refs=(N.length:Int)
 nil:N=[]->s=sw0
 len:N≠[]->s.data.length=16
 same:∀ n ∈ N,∀ m ∈ N,m.1.page=n.1.page/\m.2.z=n.2.z
theorem a3j {N:List Nm}:a0X N=true ↔ ∀ n ∈ N,∀ m ∈ N,m.1.page=n.1.page/\m.2.z=n.2.z:=by
 cases N with
 |nil=>simp [a0X]
 |cons a r=>
  unfold a0X;rw [xc7];constructor
  ·intro h;have h':∀ m ∈ a::r,m.1.page=a.1.page/\m.2.z=a.2.z:=fun m hm=>by
    rcases xc4.1 hm with rfl|hm
    ·exact ⟨rfl,rfl⟩
    ·exact xl4 (h m hm)
   exact fun n hn m hm=>⟨(h' m hm).1.trans (h' n hn).1.symm,(h' m hm).2.trans (h' n hn).2.symm⟩
  ·exact fun h m hm=>xi0 (h a xc5 m (xc6 _ hm))
theorem a2t {sh:List Sh} {f:Fm} {N:List Nm}:a1s sh f N=true ↔ FmOk sh f N:=by
 cases N with
 |nil=>
  unfold a1s;rw [xb5];constructor
  ·rintro rfl;exact ⟨rfl,fun _=>rfl,fun h=>absurd rfl h,(fun _ h=>by cases h),(fun _ h=>by cases h)⟩
  ·exact fun h=>h.nil rfl
 |cons n r=>
  unfold a1s;rw [xb4,xb4,a3j,xb5,Bool.or_eq_true,xb5];constructor
  ·rintro ⟨⟨h1,h2⟩,h3,h4⟩;refine ⟨h1,(fun h=>by cases h),fun _=>h2,h3,fun m hm=>?_⟩;have:=h3 n xc5 m hm;rw [this.1,this.2];exact h4
  ·intro h;exact ⟨⟨h.refs,h.len (by simp)⟩,h.same,h.data n xc5⟩
theorem a22 {s:Sw} {N:List Nm}:a15 s N=true ↔ SwOk s N:=by
 cases N with
 |nil=>
  unfold a15;rw [xb5];constructor
  ·rintro rfl;exact ⟨rfl,fun _=>rfl,fun h=>absurd rfl h,(fun _ h=>by cases h)⟩
  ·exact fun h=>h.nil rfl
 |cons n r=>
  unfold a15;rw [xb4,a3j,xb5];constructor
  ·rintro ⟨⟨h1,h2⟩,h3⟩;exact ⟨h1,(fun h=>by cases h),fun _=>h2,h3⟩
  ·intro h;exact ⟨⟨h.refs,h.len (by simp)⟩,h.same⟩
theorem FmOk.perm {sh:List Sh} {f:Fm} {N M:List Nm} (h:FmOk sh f N) (p:N.Perm M):FmOk sh f M :=
 ⟨by rw [<- p.length_eq];exact h.refs,fun e=>h.nil (by subst e;exact p.eq_nil),fun e=>h.len (fun e2=>e (by subst e2;exact p.symm.eq_nil)),fun n hn m hm=>h.same n (p.mem_iff.2 hn) m (p.mem_iff.2 hm),fun n hn=>h.data n (p.mem_iff.2 hn)⟩
theorem SwOk.perm {f:Sw} {N M:List Nm} (h:SwOk f N) (p:N.Perm M):SwOk f M :=
 ⟨by rw [<- p.length_eq];exact h.refs,fun e=>h.nil (by subst e;exact p.eq_nil),fun e=>h.len (fun e2=>e (by subst e2;exact p.symm.eq_nil)),fun n hn m hm=>h.same n (p.mem_iff.2 hn) m (p.mem_iff.2 hm)⟩
structure Right (K:Ker):Prop where
 cnt:3<=K.frames.length/\K.frames.length<=64/\K.slots.length<=512/\1<=K.spaces.length/\K.spaces.length<=4/\K.sheets.length<=255
 rise:a0B 0 K.sheets=true
 hand:0<=K.hand/\K.hand < K.frames.length
 spaces:∀ s ∈ K.spaces,t6 K.sheets K.frames.length K.slots.length s=true
 room:t5 K.spaces<=K.slots.length
 fr:∀ (i:Nat) f,K.frames[i]?=some f->FmOk K.sheets f (j8 K.spaces 1 (i:Nat))
 sl:∀ (i:Nat) s,K.slots[i]?=some s->SwOk s (j8 K.spaces 2 (i:Nat))
theorem a5W {K:Ker}:a1a K=true ↔ ∀ (i:Nat) f,K.frames[i]?=some f->FmOk K.sheets f (j8 K.spaces 1 (i:Nat)):=by
 unfold a1a;rw [xc7];constructor
 ·intro h i f hf;have:=h i (xi8.2 (e7 hf));rw [hf] at this;exact a2t.1 this
 ·intro h i hi;rw [xi8] at hi;rw [xe1 hi];exact a2t.2 (h i _ (xe1 hi))
theorem a6J {K:Ker}:a1N K=true ↔ ∀ (i:Nat) s,K.slots[i]?=some s->SwOk s (j8 K.spaces 2 (i:Nat)):=by
 unfold a1N;rw [xc7];constructor
 ·intro h i f hf;have:=h i (xi8.2 (e7 hf));rw [hf] at this;exact a22.1 this
 ·intro h i hi;rw [xi8] at hi;rw [xe1 hi];exact a22.2 (h i _ (xe1 hi))
theorem a34 {K:Ker}:a1g K=0 ↔ Right K:=by
 unfold a1g;by_cases h1:a1T K=true;rotate_left
 ·rw [xf1 h1];refine ⟨(fun h=>by cases h),fun h=>?_⟩;exact absurd (by unfold a1T;rw [xb5];exact h.cnt) h1
 rw [xf0 h1];unfold a1T at h1;rw [xb5] at h1;by_cases h2:a52 K=true
 ·rw [xf0 h2];refine ⟨fun _=>?_,fun _=>rfl⟩;unfold a52 at h2;simp only [xb4,xb5] at h2;obtain ⟨⟨a1,a2⟩,a3,a4,a5,a6⟩:=h2;exact ⟨h1,a1,a2,fun s hs=>xc7.1 a3 s hs,a4,a5W.1 a5,a6J.1 a6⟩
 ·rw [xf1 h2];refine ⟨(fun h=>by cases h),fun h=>?_⟩;refine absurd ?_ h2;unfold a52;simp only [xb4,xb5];exact ⟨⟨h.rise,h.hand⟩,xc7.2 h.spaces,h.room,a5W.2 h.fr,a6J.2 h.sl⟩
def nm1 (s:Sc) (k a:Int):List Nm:=(s.entries.filter fun e=>decide (e.kind=k/\e.at_=a)).map (a0U s)
theorem a0G (L:List Sc) (k a:Int):j8 L k a=L.flatMap fun s=>nm1 s k a:=rfl
def mvN (t:Int) (n:Nm):Nm:=(⟨n.1.page,2,t⟩,n.2)
theorem a7r (f:Int) (t:Option Int) (s:Sc):a0U (a0y f t s)=a0U s:=rfl
theorem a6X {f:Int} {t:Option Int} {k a:Int} (h1:¬(k=1/\a=f)) (h2:k=2->t≠some a):∀ (l:List En),(l.filterMap (y9 f t)).filter (fun e=>decide (e.kind=k/\e.at_=a))=l.filter (fun e=>decide (e.kind=k/\e.at_=a))
 |[]=>rfl
 |e::l=>by
  have ih:=a6X h1 h2 l;rw [xl5];unfold y9;by_cases he:e.kind=1/\e.at_=f
  ·rw [xf0 he];have hn:¬(e.kind=k/\e.at_=a):=fun h=>h1 ⟨h.1.symm.trans he.1,h.2.symm.trans he.2⟩;rw [xk2 (by simpa using hn)]
   cases t with
   |none=>exact ih
   |some s=>
    show List.filter _ (_::_)=_;rw [xk2]
    ·exact ih
    ·rw [xb5];rintro ⟨h3,h4⟩;exact h2 h3.symm (by rw [show s=a from h4])
  ·rw [xf1 he];show List.filter _ (e::_)=_;by_cases hn:e.kind=k/\e.at_=a
   ·rw [xj9 (by simpa using hn),xj9 (by simpa using hn)];exact congrArg _ ih
   ·rw [xk2 (by simpa using hn),xk2 (by simpa using hn)];exact ih
theorem a7m {f:Int} {t:Option Int}:∀ (l:List En),(l.filterMap (y9 f t)).filter (fun e=>decide (e.kind=1/\e.at_=f))=[]
 |[]=>rfl
 |e::l=>by
  have ih:=a7m (f:=f) (t:=t) l;rw [xl5];unfold y9;by_cases he:e.kind=1/\e.at_=f
  ·rw [xf0 he]
   cases t with
   |none=>exact ih
   |some s=>
    show List.filter _ (_::_)=_;rw [xk2]
    ·exact ih
    ·rw [xb5];rintro ⟨h3,-⟩
     cases h3
  ·rw [xf1 he];show List.filter _ (e::_)=_;rw [xk2 (by simpa using he)];exact ih
theorem a5N {f t:Int}:∀ (l:List En),(l.filter fun e=>decide (e.kind=2/\e.at_=t))=[]->(l.filterMap (y9 f (some t))).filter (fun e=>decide (e.kind=2/\e.at_=t))=(l.filter fun e=>decide (e.kind=1/\e.at_=f)).map fun e=>⟨e.page,2,t⟩
 |[],_=>rfl
 |e::l,h=>by
  have hn:¬(e.kind=2/\e.at_=t):=fun hh=>by
   rw [xj9 (by simpa using hh)] at h
   cases h
  rw [xk2 (by simpa using hn)] at h;have ih:=a5N (f:=f) (t:=t) l h;rw [xl5];unfold y9;by_cases he:e.kind=1/\e.at_=f
  ·rw [xf0 he,xj9 (by simpa using he)];show List.filter _ (_::_)=_;rw [xj9 (by simp),xc2];exact congrArg _ ih
  ·rw [xf1 he];show List.filter _ (e::_)=_;rw [xk2 (by simpa using hn),xk2 (by simpa using he)];exact ih
theorem b4a {f:Int} {t:Option Int} {k a:Int} (h1:¬(k=1/\a=f)) (h2:k=2->t≠some a) (s:Sc):nm1 (a0y f t s) k a=nm1 s k a:=by
 unfold nm1;rw [a7r];exact congrArg _ (a6X h1 h2 s.entries)
theorem b3Q {f:Int} {t:Option Int} (s:Sc):nm1 (a0y f t s) 1 f=[]:=by
 unfold nm1;rw [show (a0y f t s).entries=s.entries.filterMap (y9 f t) from rfl,a7m];rfl
theorem b3j {f t:Int} {s:Sc} (h:nm1 s 2 t=[]):nm1 (a0y f (some t) s) 2 t=(nm1 s 1 f).map (mvN t):=by
 unfold nm1 at h |-;rw [List.map_eq_nil_iff] at h;rw [a7r,show (a0y f (some t) s).entries=s.entries.filterMap (y9 f (some t)) from rfl,a5N _ h,xl6,xl6];rfl
theorem a3z {f:Int} {t:Option Int} {k a:Int} (h1:¬(k=1/\a=f)) (h2:k=2->t≠some a) (L:List Sc):j8 (L.map (a0y f t)) k a=j8 L k a:=by
 rw [a0G,a0G,List.flatMap_map];exact congrArg (fun g=>List.flatMap g L) (funext fun s=>b4a h1 h2 s)
theorem a5X {f:Int} {t:Option Int} (L:List Sc):j8 (L.map (a0y f t)) 1 f=[]:=by
 rw [a0G,List.flatMap_map,List.flatMap_eq_nil_iff];exact fun s _=>b3Q s
theorem a40 {f t:Int}:∀ {L:List Sc},j8 L 2 t=[]->j8 (L.map (a0y f (some t))) 2 t=(j8 L 1 f).map (mvN t)
 |[],_=>rfl
 |s::L,h=>by
  rw [a0G,xj6,xl7] at h;rw [xc2,a0G,xj6,a0G,xj6,xk1,b3j h.1];exact congrArg _ (a40 h.2)
def b69 (A:List Ar) (nf ns:Int) (e:En):Prop:=(n7 A e.page).isSome=true/\((e.kind=1/\0<=e.at_/\e.at_ < nf)\/(e.kind=2/\0<=e.at_/\e.at_ < ns))
theorem a75 {A:List Ar} {nf ns:Int}:∀ {l:List En} {last:Int},a1v A nf ns last l=true ↔ (∀ e ∈ l,b69 A nf ns e/\last < e.page)/\Rises (m0 l)
 |[],last=>by simp [a1v,Rises,m0]
 |e::l,last=>by
  show (a16 A nf ns last e && a1v A nf ns e.page l)=true ↔ _;rw [xb4,a75 (l:=l)];unfold a16;rw [xb4,xb5];show _ ↔ _/\List.Pairwise _ (e.page::m0 l);rw [xd7];constructor
  ·rintro ⟨⟨h1,h2,h3⟩,h4,h5⟩;refine ⟨fun x hx=>?_,fun p hp=>?_,h5⟩
   ·rcases xc4.1 hx with rfl|hx
    ·exact ⟨⟨h1,h3⟩,h2⟩
    ·have:=h4 x hx;exact ⟨this.1,by omega⟩
   ·obtain ⟨x,hx,rfl⟩:=xh0.1 hp;exact (h4 x hx).2
  ·rintro ⟨h1,h2,h3⟩;have h0:=h1 e xc5;exact ⟨⟨h0.1.1,h0.2,h0.1.2⟩,fun x hx=>⟨(h1 x (xc6 _ hx)).1,h2 _ (xh0.2 ⟨x,hx,rfl⟩)⟩,h3⟩
structure b0G (sh:List Sh) (nf ns:Int) (s:Sc):Prop where
 dead:s.live=false->s.areas=[]/\s.entries=[]
 ar:l7 s.areas=0
 pages:a1B sh s.areas=true
 ents:∀ e ∈ s.entries,b69 s.areas nf ns e
 rises:Rises (m0 s.entries)
theorem a1h {sh:List Sh} {nf ns:Int} {s:Sc}:t6 sh nf ns s=true ↔ b0G sh nf ns s:=by
 unfold t6
 cases hl:s.live with
 |false=>
  rw [xf1 (by simp),xb5];constructor
  ·rintro ⟨h1,h2⟩;refine ⟨fun _=>⟨h1,h2⟩,by rw [h1];rfl,by rw [h1];rfl,by rw [h2];simp,by rw [h2];exact List.Pairwise.nil⟩
  ·exact fun h=>h.dead hl
 |true=>
  rw [xf0 rfl,xb4,xb4,xb5,a75];constructor
  ·rintro ⟨h1,h2,h3,h4⟩;exact ⟨fun h=>(by rw [hl] at h;cases h),h1,h2,fun e he=>(h3 e he).1,h4⟩
  ·intro h;exact ⟨h.ar,h.pages,fun e he=>⟨h.ents e he,a6M h.ar (h.ents e he).1⟩,h.rises⟩
theorem a2H (f:Int) (t:Option Int):∀ (l:List En),(m0 (l.filterMap (y9 f t))).Sublist (m0 l)
 |[]=>xh5 _
 |e::l=>by
  have ih:=a2H f t l;rw [xl5];unfold y9;by_cases he:e.kind=1/\e.at_=f
  ·rw [xf0 he]
   cases t with
   |none=>exact xh6 _ ih
   |some s=>exact List.Sublist.cons_cons _ ih
  ·rw [xf1 he];exact List.Sublist.cons_cons _ ih
theorem b2A {sh:List Sh} {nf ns f:Int} {t:Option Int} {s:Sc} (h:b0G sh nf ns s) (ht:∀ a,t=some a->0<=a/\a < ns):b0G sh nf ns (a0y f t s):=by
 refine ⟨fun hl=>⟨(h.dead hl).1,?_⟩,h.ar,h.pages,fun e he=>?_,h.rises.sublist (a2H f t s.entries)⟩
 ·show s.entries.filterMap _=[];rw [(h.dead hl).2];rfl
 ·replace he:e ∈ s.entries.filterMap (y9 f t):=he;obtain ⟨x,hx,hxe⟩:=List.mem_filterMap.1 he;have h1:=h.ents x hx;unfold y9 at hxe
  split at hxe
  ·cases t with
   |none=>cases hxe
   |some a=>
    cases hxe
    exact ⟨h1.1,xd3 ⟨rfl,ht a rfl⟩⟩
  ·cases hxe
   exact h1
theorem a54 (f:Int) (t:Option Int) (L:List Sc):t5 (L.map (a0y f t))=t5 L:=by
 unfold t5;rw [xl6];rfl
theorem o7 {l:List Fm} {i:Nat} {f:Fm} (h:l[i]?=some f):j7 l i=f:=by unfold j7;rw [h];rfl
theorem a1o {l:List Sw} {i:Nat} {f:Sw} (h:l[i]?=some f):a0T l i=f:=by unfold a0T;rw [h];rfl
theorem a4M {l:List Sw} {t:Nat} (h:a2B l=some t):∃ s,l[t]?=some s/\s.refs=0:=by
 unfold a2B at h;rw [xl8] at h;obtain ⟨h1,h2,-⟩:=h;exact ⟨l[t],xe1 h1,xl4 h2⟩
theorem b0H {l:List Fm} {t:Nat} (h:a4V l=some t):∃ s,l[t]?=some s/\s.refs=0:=by
 unfold a4V at h;rw [xl8] at h;obtain ⟨h1,h2,-⟩:=h;exact ⟨l[t],xe1 h1,xl4 h2⟩
theorem a4L {l:List Fm} (h:a4V l=none):∀ f ∈ l,f.refs≠0:=by
 unfold a4V at h;rw [xl9] at h;intro f hf;have:=h f hf
 simpa using this
theorem b0I {l:List Sw} (h:a2B l=none):∀ f ∈ l,f.refs≠0:=by
 unfold a2B at h;rw [xl9] at h;intro f hf;have:=h f hf
 simpa using this
theorem SwOk.free {s:Sw} {N:List Nm} (h:SwOk s N) (h0:s.refs=0):N=[]/\s=sw0:=by
 have h1:=h.refs;have:N=[]:=xf4 (by omega);exact ⟨this,h.nil this⟩
theorem FmOk.free {sh:List Sh} {s:Fm} {N:List Nm} (h:FmOk sh s N) (h0:s.refs=0):N=[]/\s=fm0:=by
 have h1:=h.refs;have:N=[]:=xf4 (by omega);exact ⟨this,h.nil this⟩
theorem FmOk.zero (sh:List Sh):FmOk sh fm0 []:=⟨rfl,fun _=>rfl,fun h=>absurd rfl h,(fun _ h=>by cases h),(fun _ h=>by cases h)⟩
theorem SwOk.zero:SwOk sw0 []:=⟨rfl,fun _=>rfl,fun h=>absurd rfl h,(fun _ h=>by cases h)⟩
theorem b1M {α:Type} {l:List α} {i j:Nat} {x y:α} (h:(l.set i x)[j]?=some y):(i=j/\y=x/\j < l.length)\/(i≠j/\l[j]?=some y):=by
 rw [xe0] at h;by_cases e:i=j
 ·rw [xf0 e] at h
  split at h
  ·rename_i hl;cases h;exact xd6 ⟨e,rfl,e ▸ hl⟩
  ·cases h
 ·rw [xf1 e] at h;exact xd3 ⟨e,h⟩
theorem a8G {K:Ker} (h:Right K) {f:Nat} (hf:f < K.frames.length) (hfree:(j7 K.frames f).dirty=true->∃ t,a2B K.slots=some t):Right (v7 K f):=by
 obtain ⟨hc,hr,hh,hsp,hroom,hfr,hsl⟩:=h;have hff:=xe1 hf;have hfo:=hfr f _ hff;have hmap:∀ (t:Option Int),(∀ a,t=some a->0<=a/\a < (K.slots.length:Int))->∀ s ∈ K.spaces.map (a0y (f:Nat) t),t6 K.sheets K.frames.length K.slots.length s=true:=fun t ht s hs=>by
  obtain ⟨x,hx,rfl⟩:=xh0.1 hs;exact a1h.2 (b2A (a1h.1 (hsp x hx)) ht)
 have hfrn:∀ (t:Option Int) (i:Nat) g,(K.frames.set f fm0)[i]?=some g->FmOk K.sheets g (j8 (K.spaces.map (a0y (f:Nat) t)) 1 (i:Nat)):=fun t i g hg=>by
  rcases b1M hg with ⟨rfl,rfl,_⟩|⟨hne,hg⟩
  ·rw [a5X];exact FmOk.zero _
  ·rw [a3z (by omega) (fun h=>by omega)];exact hfr i g hg
 unfold v7 a0W
 cases hd:(j7 K.frames f).dirty with
 |false=>
  rw [xf1 (by simp)];refine ⟨by simpa using hc,hr,by simpa using hh,by simpa using hmap none (fun a h=>by cases h),by rw [a54];exact hroom,hfrn none,fun i s hs=>?_⟩;dsimp only at hs |-;rw [a3z (by omega) (fun _ h=>by cases h)];exact hsl i s hs
 |true=>
  obtain ⟨t,ht⟩:=hfree hd;obtain ⟨s0,hs0,hs1⟩:=a4M ht;have htl:=e7 hs0;have hz:=(hsl t s0 hs0).free hs1;rw [xf0 rfl,ht];rw [o7 hff] at hd |-;refine ⟨by simpa using hc,hr,by simpa using hh,by simpa using hmap (some (t:Nat)) (fun a h=>by cases h;omega),by rw [a54];simpa using hroom,hfrn (some (t:Nat)),fun i s hs=>?_⟩;dsimp only [Option.map,Option.getD] at hs |-;rcases b1M hs with ⟨rfl,rfl,_⟩|⟨hne,hs⟩
  ·rw [a40 hz.1];refine ⟨by rw [xh1];exact hfo.refs,fun hn=>?_,fun hn=>hfo.len (fun e=>hn (by rw [e];rfl)),fun n hn m hm=>?_⟩
   ·rw [List.map_eq_nil_iff] at hn;rw [hfo.nil hn] at hd
    cases hd
   ·obtain ⟨n',hn',rfl⟩:=xh0.1 hn;obtain ⟨m',hm',rfl⟩:=xh0.1 hm;exact hfo.same n' hn' m' hm'
  ·rw [a3z (by omega) (fun _ h=>by cases h;omega)];exact hsl i s hs
end Go.Proofs.YtejnpppejalhfabGreat
