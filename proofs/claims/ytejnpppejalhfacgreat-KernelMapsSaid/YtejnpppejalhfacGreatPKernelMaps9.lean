/- Texts that the proof stands on, one behind the other: Ke11, PlKer4, PlRun, PlRun2. -/
import Derived.Test.YtejnpppejalhfacGreatPKernelMaps8
set_option linter.unusedVariables false
set_option linter.unusedSimpArgs false
namespace Go.Proofs.YtejnpppejalhfacGreat
set_option maxRecDepth 100000
set_option maxHeartbeats 8000000
open Go.RowKit Go.Sort
theorem a2P {A:List Ar} {nf ns last:Int} {e:En} (hs:(m9 A e.page).isSome=true) (hl:last < e.page) (h:(e.kind=1/\0<=e.at_/\e.at_ < nf)\/(e.kind=2/\0<=e.at_/\e.at_ < ns)):a1C A nf ns last e=true:=by
 unfold a1C;rw [hs,xi6];exact xi8 ⟨hl,h⟩
theorem a00 {A:List Ar} {nf ns last:Int} {e:En} (_hl:last < e.page) (h:¬((e.kind=1/\0<=e.at_/\e.at_ < nf)\/(e.kind=2/\0<=e.at_/\e.at_ < ns))):a1C A nf ns last e=false:=by
 unfold a1C;rw [xi7 (fun hh=>h hh.2),xp5]
theorem a7J {w:World} {k:KV} {p:Sp} (hK:KerV w k) (hp:SpV w p):Fn Tryz.prog 130 [.agg (kvC k).toArray,.agg (spC p).toArray] w (RBf (.bool (r6 (shs k.sh) k.fr.length k.sl.length p.s)) w):=by
 have b2:=hK.fr.bound;have b3:=hK.sl.bound;obtain ⟨sh,fr,sl,sp,hand,vsh,vfr,vsl,vsp⟩:=k;obtain ⟨k1,k2,k3,k4,k5⟩:=hK;dsimp only at k1 k2 k3 k4 k5 b2 b3 |-;have hso:=fun w1 q (h:ShsV w1 sh vsh)=>a56 h q;obtain ⟨p1,c1,rfl⟩:=k1.sl.len;obtain ⟨p2,c2,rfl⟩:=k2.len;obtain ⟨p3,c3,rfl⟩:=k3.len;obtain ⟨p4,c4,rfl⟩:=k4.len;obtain ⟨s,va,ve⟩:=p;obtain ⟨live,A,es⟩:=s;have har:=hp.ar;have hen:=hp.en;dsimp only at har hen;have bA:=har.bound;have bE:=hen.bound;obtain ⟨pa,ca,rfl⟩:=har.len;obtain ⟨pe,ce,rfl⟩:=hen.len;unfold kvC spC r6;dsimp only
 cases live with
 |false=>
  simp only [xn9,if_false];by_cases hA:A.length=0
  ·have hd:decide ((A.length:Int)=0)=true:=xi8 (by omega);refine yEn Tryz.func130 Tryz.ntmps130 (by kernel_rfl) (by kernel_rfl) rfl rfl ?_;have hS:=St.start w
   repeat' (first|(with_reducible apply d5 c9);rfl;rfl;rfl|(with_reducible apply d6);rfl;(first|apply Ld.sc c9;rfl;exact hS.blkC 0 rfl rfl|apply Ld.sl c9;rfl;exact hS.blkC 0 rfl rfl);rfl|refine yDn (by with_reducible constructor) ?_|(with_reducible apply l8);(iterate 4 rfl);assumption|(with_reducible apply j9);rfl;assumption;rfl;rfl|(with_reducible apply i6);rfl;rfl|(with_reducible apply j6 hS);rfl;rfl;rfl;clear hS;intro g w' hS)
   (refine l4 rfl ?_)
   refine ⟨?_,hS.sub (xi4 _)⟩
   congr 1
   refine xp1.2 ⟨fun h=>⟨xe8 hA,xe8 (by omega)⟩,fun h=>by rw [h.2];rfl⟩
  ·have hd:decide ((A.length:Int)=0)=false:=xi7 (by omega);refine yEn Tryz.func130 Tryz.ntmps130 (by kernel_rfl) (by kernel_rfl) rfl rfl ?_;have hS:=St.start w
   repeat' (first|(with_reducible apply d5 c9);rfl;rfl;rfl|(with_reducible apply d6);rfl;(first|apply Ld.sc c9;rfl;exact hS.blkC 0 rfl rfl|apply Ld.sl c9;rfl;exact hS.blkC 0 rfl rfl);rfl|refine yDn (by with_reducible constructor) ?_|(with_reducible apply a0a);(iterate 4 rfl);assumption;rfl|(with_reducible apply i4);rfl;assumption;rfl;rfl|(with_reducible apply i6);rfl;rfl|(with_reducible apply j6 hS);rfl;rfl;rfl;clear hS;intro g w' hS)
   (refine l4 rfl ?_)
   refine ⟨?_,hS.sub (xi4 _)⟩;rw [xi7 (fun h=>hA (by rw [h.1];rfl))]
 |true=>
  simp only [if_true];have hchk:=fun w1 (h:Sl nF w1 4 (.slice pa A.length ca) (A.map arC))=>a6s h;by_cases hc:g6 A=0;rotate_left
  ·have hd:(!decide (g6 A=0))=true:=by rw [xi7 hc];rfl
   rw [xi7 hc,xi5];refine yEn Tryz.func130 Tryz.ntmps130 (by kernel_rfl) (by kernel_rfl) rfl rfl ?_;have hS:=St.start w
   repeat' (first|(with_reducible apply d5 c9);rfl;rfl;rfl|(with_reducible apply d6);rfl;(first|apply Ld.sc c9;rfl;exact hS.blkC 0 rfl rfl|apply Ld.sl c9;rfl;exact hS.blkC 0 rfl rfl);rfl|refine yDn (by with_reducible constructor) ?_|(with_reducible apply i6);rfl;assumption|(with_reducible apply i9);rfl;rfl|(with_reducible apply j6 hS);rfl;rfl;rfl;clear hS;intro g w' hS|(with_reducible apply f9 hS);rfl;rfl;rfl;refine ⟨_,hchk _ (har.now hS),?_⟩;clear hS;intro w' hS)
   (refine l4 rfl ?_)
   exact ⟨rfl,hS.sub (xi4 _)⟩
  have hd:(!decide (g6 A=0))=false:=by rw [xi8 hc];rfl
  obtain ⟨hAl,hgood⟩:=k9.1 hc;have hok:=y9 hgood;rw [xi8 hc,xi6];refine yEn Tryz.func130 Tryz.ntmps130 (by kernel_rfl) (by kernel_rfl) rfl rfl ?_;have hS:=St.start w
  repeat' (first|(with_reducible apply d5 c9);rfl;rfl;rfl|(with_reducible apply d6);rfl;(first|apply Ld.sc c9;rfl;exact hS.blkC 0 rfl rfl|apply Ld.sl c9;rfl;exact hS.blkC 0 rfl rfl);rfl|refine yDn (by with_reducible constructor) ?_|((with_reducible apply i9);rfl;first|rfl|assumption)|(with_reducible apply j6 hS);rfl;rfl;rfl;clear hS;intro g w' hS|(with_reducible apply f9 hS);rfl;rfl;rfl;refine ⟨_,hchk _ (har.now hS),?_⟩;clear hS;intro w' hS)
  refine n9 (X:=Nat×Int) (fun x=>[(5,.int .i64 (x.1:Nat))]) [2,3] rfl (fun _=>[]) (fun x=>x.1<=es.length/\((x.1=0/\x.2=0)\/(0 < x.1/\∃ y,es[x.1 - 1]?=some y/\x.2=y.page))/\a03 A fr.length sl.length 0 es=a03 A fr.length sl.length x.2 (es.drop x.1)) (fun x=>es.length - x.1) (0,0) (by exact Fr.sub_of rfl) ⟨xf9 _,xd4 ⟨rfl,rfl⟩,by simp⟩ hS ?_;clear hS;rintro ⟨i,last⟩ w1 ⟨hi,hlast,hents⟩ hS;dsimp only [List.cons_append,List.nil_append] at hi hlast hents hS |-;by_cases hlt:i < es.length
  ·obtain ⟨e,he⟩:=j4 (l:=es) (i:=i) (by omega);have hrow:=f8 (f:=enC) he;obtain ⟨b,off,rfl,hro⟩:=hen.at_ (i:=i) hlt;unfold enC at hrow;have haa:=fun w1 (h:Sl nF w1 4 (.slice pa A.length ca) (A.map arC))=>a4z e.page h hok;unfold a41 arC at haa;have hstep:=a6D (A:=A) (nf:=fr.length) (ns:=sl.length) (last:=last) he;rw [hstep] at hents;rw [hents]
   cases hsm:(m9 A e.page).isSome with
   |false=>
    rw [hsm] at haa;have hE:a1C A fr.length sl.length last e=false:=by unfold a1C;rw [hsm,xi5]
    rw [hE,xi5,xp5]
    repeat' (first|(with_reducible apply d5 c9);rfl;rfl;rfl|(with_reducible apply d6);rfl;(first|apply Ld.sc c9;rfl;exact hS.blkC 0 rfl rfl|apply Ld.sl c9;rfl;(first|exact hS.blkC 0 rfl rfl|exact hS.blkC 1 rfl rfl)|apply Ld.st c9;rfl;exact hS.roR (by assumption) (by assumption);rfl);rfl|(with_reducible apply m8 c9);rfl;rfl;rfl;rfl;omega;rfl|refine yDn (by with_reducible constructor) ?_|(with_reducible apply f5 hS c9);rfl;rfl;rfl;clear hS;intro g w' hS|(with_reducible apply d7 hS c9 (i:=0));(iterate 8 rfl);(first|exact (rfl:_=[_,_,_])|exact (rfl:_=[_,_,_,_]));clear hS;intro w' hS;simp only [List.set] at hS|(with_reducible apply d8);rfl;all_goals (intro hb hp;try (exfalso;omega))|(with_reducible apply f9 hS);rfl;rfl;rfl;refine ⟨_,haa _ (har.now hS),?_⟩;clear hS;intro w' hS)
    (focus ((with_reducible apply d9 _ _ _ (by kernel_rfl) (by kernel_rfl) hS);(repeat' ((first|(with_reducible apply g8 c9);rfl;rfl|(first|(with_reducible apply a1I);(iterate 4 rfl);rfl;rfl|(with_reducible apply a2c);(iterate 5 rfl)|(with_reducible apply q7);rfl;rfl;rfl;rfl))));all_goals ((with_reducible apply k8);intro w' hS';clear hS;have hS:=hS';clear hS')))
    repeat' (first|(with_reducible apply d5 c9);rfl;rfl;rfl|refine yDn (by with_reducible constructor) ?_|(with_reducible apply i6);rfl;rfl)
    (refine l4 rfl ?_)
    exact ⟨rfl,hS.sub (xi4 _)⟩
   |true=>
    rw [hsm] at haa;have hpos:=a5N hc hsm;obtain ⟨a,hag⟩:∃ a,(m9 A e.page).getD a0r=a:=⟨_,rfl⟩;rw [hag] at haa;rcases hlast with ⟨hi0,rfl⟩|⟨hi0,y,hy,rfl⟩
    ·have hl:(0:Int) < e.page:=hpos;by_cases k1':e.kind=1
     ·by_cases r:0<=e.at_/\e.at_<=(fr.length:Int) - 1
      ·have hE:=a2P (A:=A) (nf:=fr.length) (ns:=sl.length) hsm hl (xd4 ⟨k1',by omega,by omega⟩);rw [hE,xi6]
       repeat' (first|(with_reducible apply d5 c9);rfl;rfl;rfl|(with_reducible apply d6);rfl;(first|apply Ld.sc c9;rfl;exact hS.blkC 0 rfl rfl|apply Ld.sl c9;rfl;(first|exact hS.blkC 0 rfl rfl|exact hS.blkC 1 rfl rfl)|apply Ld.st c9;rfl;exact hS.roR (by assumption) (by assumption);rfl);rfl|(with_reducible apply m8 c9);rfl;rfl;rfl;rfl;omega;rfl|refine yDn (by with_reducible constructor) ?_|(with_reducible apply f5 hS c9);rfl;rfl;rfl;clear hS;intro g w' hS|(with_reducible apply d7 hS c9 (i:=0));(iterate 8 rfl);(first|exact (rfl:_=[_,_,_])|exact (rfl:_=[_,_,_,_]));clear hS;intro w' hS;simp only [List.set] at hS|(with_reducible apply d8);rfl;all_goals (intro hb hp;try (exfalso;omega))|(with_reducible apply f9 hS);rfl;rfl;rfl;refine ⟨_,haa _ (har.now hS),?_⟩;clear hS;intro w' hS)
       (focus ((with_reducible apply d9 _ _ _ (by kernel_rfl) (by kernel_rfl) hS);(repeat' ((first|(with_reducible apply g8 c9);rfl;rfl|(first|(with_reducible apply y7);(iterate 4 rfl);rfl|(with_reducible apply a1I);(iterate 4 rfl);assumption;rfl|(with_reducible apply y5);rfl;rfl;rfl;all_goals (intro hb hp;try (exfalso;omega))|(with_reducible apply o5);rfl;(first|rfl|assumption);rfl;rfl))));all_goals ((with_reducible apply k8);intro w' hS';clear hS;have hS:=hS';clear hS')))
       repeat' (first|(with_reducible apply d5 c9);rfl;rfl;rfl|(with_reducible apply d6);rfl;(first|apply Ld.sc c9;rfl;exact hS.blkC 1 rfl rfl|apply Ld.sl c9;rfl;exact hS.blkC 3 rfl rfl);rfl|(with_reducible apply j7);rfl;rfl;omega;omega;rfl|(with_reducible apply a0w);rfl;rfl;omega;omega;rfl|refine yDn (by with_reducible constructor) ?_|(with_reducible apply i9);rfl;rfl|(with_reducible apply d8);rfl;all_goals (intro hb hp;try (exfalso;omega))|(with_reducible apply a0j);rfl;all_goals (intro hb hp;try (exfalso;omega))|(with_reducible apply f9 hS);rfl;rfl;rfl;refine ⟨_,n6 _ _ _ _,?_⟩;clear hS;intro w' hS)
       exact i5 (i + 1,e.page) (by exact Fr.sub_of rfl) ⟨by show i + 1<=es.length;omega,xd1 ⟨by show 0 < i + 1;omega,_,he,rfl⟩,rfl⟩ hS.drop.drop (by show es.length - (i + 1) < es.length - i;omega)
      ·have hE:=a00 (A:=A) (nf:=fr.length) (ns:=sl.length) hl (fun h:(e.kind=1/\0<=e.at_/\e.at_ < (fr.length:Int))\/(e.kind=2/\0<=e.at_/\e.at_ < (sl.length:Int))=>by omega);rw [hE,xi5,xp5]
       repeat' (first|(with_reducible apply d5 c9);rfl;rfl;rfl|(with_reducible apply d6);rfl;(first|apply Ld.sc c9;rfl;exact hS.blkC 0 rfl rfl|apply Ld.sl c9;rfl;(first|exact hS.blkC 0 rfl rfl|exact hS.blkC 1 rfl rfl)|apply Ld.st c9;rfl;exact hS.roR (by assumption) (by assumption);rfl);rfl|(with_reducible apply m8 c9);rfl;rfl;rfl;rfl;omega;rfl|refine yDn (by with_reducible constructor) ?_|(with_reducible apply f5 hS c9);rfl;rfl;rfl;clear hS;intro g w' hS|(with_reducible apply d7 hS c9 (i:=0));(iterate 8 rfl);(first|exact (rfl:_=[_,_,_])|exact (rfl:_=[_,_,_,_]));clear hS;intro w' hS;simp only [List.set] at hS|(with_reducible apply d8);rfl;all_goals (intro hb hp;try (exfalso;omega))|(with_reducible apply f9 hS);rfl;rfl;rfl;refine ⟨_,haa _ (har.now hS),?_⟩;clear hS;intro w' hS)
       (focus ((with_reducible apply d9 _ _ _ (by kernel_rfl) (by kernel_rfl) hS);(repeat' ((first|(with_reducible apply g8 c9);rfl;rfl|(first|(with_reducible apply y7);(iterate 4 rfl);rfl|(with_reducible apply a1I);(iterate 4 rfl);assumption;rfl|(with_reducible apply y5);rfl;rfl;rfl;all_goals (intro hb hp;try (exfalso;omega))|(with_reducible apply o5);rfl;(first|rfl|assumption);rfl;rfl))));all_goals ((with_reducible apply k8);intro w' hS';clear hS;have hS:=hS';clear hS')))
       repeat' (first|(with_reducible apply d5 c9);rfl;rfl;rfl|(with_reducible apply d6);rfl;(first|apply Ld.sc c9;rfl;exact hS.blkC 1 rfl rfl|apply Ld.sl c9;rfl;exact hS.blkC 3 rfl rfl);rfl|(with_reducible apply a0w);rfl;rfl;omega;omega;rfl|refine yDn (by with_reducible constructor) ?_|(with_reducible apply i9);rfl;rfl|(with_reducible apply d8);rfl;all_goals (intro hb hp;try (exfalso;omega))|(with_reducible apply a0j);rfl;all_goals (intro hb hp;try (exfalso;omega))|(with_reducible apply f9 hS);rfl;rfl;rfl;refine ⟨_,n6 _ _ _ _,?_⟩;clear hS;intro w' hS)
       (refine l4 rfl ?_)
       exact ⟨rfl,hS.sub (xi4 _)⟩
     ·by_cases k2':e.kind=2
      ·by_cases r:0<=e.at_/\e.at_<=(sl.length:Int) - 1
       ·have hE:=a2P (A:=A) (nf:=fr.length) (ns:=sl.length) hsm hl (xd1 ⟨k2',by omega,by omega⟩);rw [hE,xi6]
        repeat' (first|(with_reducible apply d5 c9);rfl;rfl;rfl|(with_reducible apply d6);rfl;(first|apply Ld.sc c9;rfl;exact hS.blkC 0 rfl rfl|apply Ld.sl c9;rfl;(first|exact hS.blkC 0 rfl rfl|exact hS.blkC 1 rfl rfl)|apply Ld.st c9;rfl;exact hS.roR (by assumption) (by assumption);rfl);rfl|(with_reducible apply m8 c9);rfl;rfl;rfl;rfl;omega;rfl|refine yDn (by with_reducible constructor) ?_|(with_reducible apply f5 hS c9);rfl;rfl;rfl;clear hS;intro g w' hS|(with_reducible apply d7 hS c9 (i:=0));(iterate 8 rfl);(first|exact (rfl:_=[_,_,_])|exact (rfl:_=[_,_,_,_]));clear hS;intro w' hS;simp only [List.set] at hS|(with_reducible apply d8);rfl;all_goals (intro hb hp;try (exfalso;omega))|(with_reducible apply f9 hS);rfl;rfl;rfl;refine ⟨_,haa _ (har.now hS),?_⟩;clear hS;intro w' hS)
        (focus ((with_reducible apply d9 _ _ _ (by kernel_rfl) (by kernel_rfl) hS);(repeat' ((first|(with_reducible apply g8 c9);rfl;rfl|(first|(with_reducible apply y7);(iterate 4 rfl);rfl|(with_reducible apply a1I);(iterate 4 rfl);assumption;rfl|(with_reducible apply y5);rfl;rfl;rfl;all_goals (intro hb hp;try (exfalso;omega))|(with_reducible apply o5);rfl;(first|rfl|assumption);rfl;rfl))));all_goals ((with_reducible apply k8);intro w' hS';clear hS;have hS:=hS';clear hS')))
        repeat' (first|(with_reducible apply d5 c9);rfl;rfl;rfl|(with_reducible apply d6);rfl;(first|apply Ld.sc c9;rfl;exact hS.blkC 1 rfl rfl|apply Ld.sl c9;rfl;exact hS.blkC 3 rfl rfl);rfl|(with_reducible apply j7);rfl;rfl;omega;omega;rfl|(with_reducible apply a0w);rfl;rfl;omega;omega;rfl|refine yDn (by with_reducible constructor) ?_|(with_reducible apply i9);rfl;rfl|(with_reducible apply d8);rfl;all_goals (intro hb hp;try (exfalso;omega))|(with_reducible apply a0j);rfl;all_goals (intro hb hp;try (exfalso;omega))|(with_reducible apply f9 hS);rfl;rfl;rfl;refine ⟨_,n6 _ _ _ _,?_⟩;clear hS;intro w' hS)
        exact i5 (i + 1,e.page) (by exact Fr.sub_of rfl) ⟨by show i + 1<=es.length;omega,xd1 ⟨by show 0 < i + 1;omega,_,he,rfl⟩,rfl⟩ hS.drop.drop (by show es.length - (i + 1) < es.length - i;omega)
       ·have hE:=a00 (A:=A) (nf:=fr.length) (ns:=sl.length) hl (fun h:(e.kind=1/\0<=e.at_/\e.at_ < (fr.length:Int))\/(e.kind=2/\0<=e.at_/\e.at_ < (sl.length:Int))=>by omega);rw [hE,xi5,xp5]
        repeat' (first|(with_reducible apply d5 c9);rfl;rfl;rfl|(with_reducible apply d6);rfl;(first|apply Ld.sc c9;rfl;exact hS.blkC 0 rfl rfl|apply Ld.sl c9;rfl;(first|exact hS.blkC 0 rfl rfl|exact hS.blkC 1 rfl rfl)|apply Ld.st c9;rfl;exact hS.roR (by assumption) (by assumption);rfl);rfl|(with_reducible apply m8 c9);rfl;rfl;rfl;rfl;omega;rfl|refine yDn (by with_reducible constructor) ?_|(with_reducible apply f5 hS c9);rfl;rfl;rfl;clear hS;intro g w' hS|(with_reducible apply d7 hS c9 (i:=0));(iterate 8 rfl);(first|exact (rfl:_=[_,_,_])|exact (rfl:_=[_,_,_,_]));clear hS;intro w' hS;simp only [List.set] at hS|(with_reducible apply d8);rfl;all_goals (intro hb hp;try (exfalso;omega))|(with_reducible apply f9 hS);rfl;rfl;rfl;refine ⟨_,haa _ (har.now hS),?_⟩;clear hS;intro w' hS)
        (focus ((with_reducible apply d9 _ _ _ (by kernel_rfl) (by kernel_rfl) hS);(repeat' ((first|(with_reducible apply g8 c9);rfl;rfl|(first|(with_reducible apply y7);(iterate 4 rfl);rfl|(with_reducible apply a1I);(iterate 4 rfl);assumption;rfl|(with_reducible apply y5);rfl;rfl;rfl;all_goals (intro hb hp;try (exfalso;omega))|(with_reducible apply o5);rfl;(first|rfl|assumption);rfl;rfl))));all_goals ((with_reducible apply k8);intro w' hS';clear hS;have hS:=hS';clear hS')))
        repeat' (first|(with_reducible apply d5 c9);rfl;rfl;rfl|(with_reducible apply d6);rfl;(first|apply Ld.sc c9;rfl;exact hS.blkC 1 rfl rfl|apply Ld.sl c9;rfl;exact hS.blkC 3 rfl rfl);rfl|(with_reducible apply a0w);rfl;rfl;omega;omega;rfl|refine yDn (by with_reducible constructor) ?_|(with_reducible apply i9);rfl;rfl|(with_reducible apply d8);rfl;all_goals (intro hb hp;try (exfalso;omega))|(with_reducible apply a0j);rfl;all_goals (intro hb hp;try (exfalso;omega))|(with_reducible apply f9 hS);rfl;rfl;rfl;refine ⟨_,n6 _ _ _ _,?_⟩;clear hS;intro w' hS)
        (refine l4 rfl ?_)
        exact ⟨rfl,hS.sub (xi4 _)⟩
      ·have hE:=a00 (A:=A) (nf:=fr.length) (ns:=sl.length) hl (fun h:(e.kind=1/\0<=e.at_/\e.at_ < (fr.length:Int))\/(e.kind=2/\0<=e.at_/\e.at_ < (sl.length:Int))=>by omega);rw [hE,xi5,xp5]
       repeat' (first|(with_reducible apply d5 c9);rfl;rfl;rfl|(with_reducible apply d6);rfl;(first|apply Ld.sc c9;rfl;exact hS.blkC 0 rfl rfl|apply Ld.sl c9;rfl;(first|exact hS.blkC 0 rfl rfl|exact hS.blkC 1 rfl rfl)|apply Ld.st c9;rfl;exact hS.roR (by assumption) (by assumption);rfl);rfl|(with_reducible apply m8 c9);rfl;rfl;rfl;rfl;omega;rfl|refine yDn (by with_reducible constructor) ?_|(with_reducible apply f5 hS c9);rfl;rfl;rfl;clear hS;intro g w' hS|(with_reducible apply d7 hS c9 (i:=0));(iterate 8 rfl);(first|exact (rfl:_=[_,_,_])|exact (rfl:_=[_,_,_,_]));clear hS;intro w' hS;simp only [List.set] at hS|(with_reducible apply d8);rfl;all_goals (intro hb hp;try (exfalso;omega))|(with_reducible apply f9 hS);rfl;rfl;rfl;refine ⟨_,haa _ (har.now hS),?_⟩;clear hS;intro w' hS)
       (focus ((with_reducible apply d9 _ _ _ (by kernel_rfl) (by kernel_rfl) hS);(repeat' ((first|(with_reducible apply g8 c9);rfl;rfl|(first|(with_reducible apply y7);(iterate 4 rfl);rfl|(with_reducible apply a1I);(iterate 4 rfl);assumption;rfl|(with_reducible apply y5);rfl;rfl;rfl;all_goals (intro hb hp;try (exfalso;omega))|(with_reducible apply o5);rfl;(first|rfl|assumption);rfl;rfl))));all_goals ((with_reducible apply k8);intro w' hS';clear hS;have hS:=hS';clear hS')))
       repeat' (first|(with_reducible apply d5 c9);rfl;rfl;rfl|(with_reducible apply d6);rfl;(apply Ld.sc c9;rfl;exact hS.blkC 1 rfl rfl);rfl|refine yDn (by with_reducible constructor) ?_|(with_reducible apply i6);rfl;rfl|(with_reducible apply i9);rfl;rfl|(with_reducible apply d8);rfl;all_goals (intro hb hp;try (exfalso;omega)))
       (refine l4 rfl ?_)
       exact ⟨rfl,hS.sub (xi4 _)⟩
    ·have e1:((i:Int) - 1).toNat=i - 1:=by omega
     have hrow2:(es.map fun (e:En)=>[Value.int .i64 e.page,Value.int .i64 e.kind,Value.int .i64 e.at_])[((i:Int) - 1).toNat]?=some [.int .i64 y.page,.int .i64 y.kind,.int .i64 y.at_]:=by rw [e1];exact f8 (f:=enC) hy
     by_cases hl:y.page < e.page
     ·by_cases k1':e.kind=1
      ·by_cases r:0<=e.at_/\e.at_<=(fr.length:Int) - 1
       ·have hE:=a2P (A:=A) (nf:=fr.length) (ns:=sl.length) hsm hl (xd4 ⟨k1',by omega,by omega⟩);rw [hE,xi6]
        repeat' (first|(with_reducible apply d5 c9);rfl;rfl;rfl|(with_reducible apply d6);rfl;(first|apply Ld.sc c9;rfl;exact hS.blkC 0 rfl rfl|apply Ld.sl c9;rfl;(first|exact hS.blkC 0 rfl rfl|exact hS.blkC 1 rfl rfl)|apply Ld.st c9;rfl;exact hS.roR (by assumption) (by assumption);rfl);rfl|(with_reducible apply m8 c9);rfl;rfl;rfl;rfl;omega;rfl|refine yDn (by with_reducible constructor) ?_|(with_reducible apply f5 hS c9);rfl;rfl;rfl;clear hS;intro g w' hS|(with_reducible apply d7 hS c9 (i:=0));(iterate 8 rfl);(first|exact (rfl:_=[_,_,_])|exact (rfl:_=[_,_,_,_]));clear hS;intro w' hS;simp only [List.set] at hS|(with_reducible apply d8);rfl;all_goals (intro hb hp;try (exfalso;omega))|(with_reducible apply f9 hS);rfl;rfl;rfl;refine ⟨_,haa _ (har.now hS),?_⟩;clear hS;intro w' hS)
        (focus ((with_reducible apply d9 _ _ _ (by kernel_rfl) (by kernel_rfl) hS);(repeat' ((first|(with_reducible apply a1M);rfl;rfl;omega;omega;rfl|(with_reducible apply g8 c9);rfl;rfl|(with_reducible apply i7);rfl;(intro wd hd;replace hd:St _ _ wd _:=hd;(first|apply Ld.sc c9;rfl;(first|exact hd.blkC 1 rfl rfl|exact hd.roC0 (by assumption) (by assumption) rfl)|apply Ld.sl c9;rfl;exact hd.blkC 2 rfl rfl));rfl|(with_reducible apply a0f c9);rfl;rfl;rfl;exact xp0 (by omega);omega;rfl|(first|((with_reducible apply y7);(iterate 4 rfl);first|rfl|assumption)|(with_reducible apply y5);rfl;rfl;rfl;all_goals (intro hb hp;try (exfalso;omega))|(with_reducible apply q7);rfl;assumption;rfl;rfl|(with_reducible apply o5);rfl;rfl;rfl;rfl))));all_goals ((with_reducible apply k8);intro w' hS';clear hS;have hS:=hS';clear hS')))
        repeat' (first|(with_reducible apply d5 c9);rfl;rfl;rfl|(with_reducible apply d6);rfl;(first|apply Ld.sc c9;rfl;exact hS.blkC 1 rfl rfl|apply Ld.sl c9;rfl;exact hS.blkC 3 rfl rfl);rfl|(with_reducible apply j7);rfl;rfl;omega;omega;rfl|(with_reducible apply a0w);rfl;rfl;omega;omega;rfl|refine yDn (by with_reducible constructor) ?_|(with_reducible apply d8);rfl;all_goals (intro hb hp;try (exfalso;omega))|(with_reducible apply a0j);rfl;all_goals (intro hb hp;try (exfalso;omega))|(with_reducible apply f9 hS);rfl;rfl;rfl;refine ⟨_,n6 _ _ _ _,?_⟩;clear hS;intro w' hS)
        exact i5 (i + 1,e.page) (by exact Fr.sub_of rfl) ⟨by show i + 1<=es.length;omega,xd1 ⟨by show 0 < i + 1;omega,_,he,rfl⟩,rfl⟩ hS.drop.drop (by show es.length - (i + 1) < es.length - i;omega)
       ·have hE:=a00 (A:=A) (nf:=fr.length) (ns:=sl.length) hl (fun h:(e.kind=1/\0<=e.at_/\e.at_ < (fr.length:Int))\/(e.kind=2/\0<=e.at_/\e.at_ < (sl.length:Int))=>by omega);rw [hE,xi5,xp5]
        repeat' (first|(with_reducible apply d5 c9);rfl;rfl;rfl|(with_reducible apply d6);rfl;(first|apply Ld.sc c9;rfl;exact hS.blkC 0 rfl rfl|apply Ld.sl c9;rfl;(first|exact hS.blkC 0 rfl rfl|exact hS.blkC 1 rfl rfl)|apply Ld.st c9;rfl;exact hS.roR (by assumption) (by assumption);rfl);rfl|(with_reducible apply m8 c9);rfl;rfl;rfl;rfl;omega;rfl|refine yDn (by with_reducible constructor) ?_|(with_reducible apply f5 hS c9);rfl;rfl;rfl;clear hS;intro g w' hS|(with_reducible apply d7 hS c9 (i:=0));(iterate 8 rfl);(first|exact (rfl:_=[_,_,_])|exact (rfl:_=[_,_,_,_]));clear hS;intro w' hS;simp only [List.set] at hS|(with_reducible apply d8);rfl;all_goals (intro hb hp;try (exfalso;omega))|(with_reducible apply f9 hS);rfl;rfl;rfl;refine ⟨_,haa _ (har.now hS),?_⟩;clear hS;intro w' hS)
        (focus ((with_reducible apply d9 _ _ _ (by kernel_rfl) (by kernel_rfl) hS);(repeat' ((first|(with_reducible apply a1M);rfl;rfl;omega;omega;rfl|(with_reducible apply g8 c9);rfl;rfl|(with_reducible apply i7);rfl;(intro wd hd;replace hd:St _ _ wd _:=hd;(first|apply Ld.sc c9;rfl;(first|exact hd.blkC 1 rfl rfl|exact hd.roC0 (by assumption) (by assumption) rfl)|apply Ld.sl c9;rfl;exact hd.blkC 2 rfl rfl));rfl|(with_reducible apply a0f c9);rfl;rfl;rfl;exact xp0 (by omega);omega;rfl|(first|((with_reducible apply y7);(iterate 4 rfl);first|rfl|assumption)|(with_reducible apply y5);rfl;rfl;rfl;all_goals (intro hb hp;try (exfalso;omega))|(with_reducible apply q7);rfl;assumption;rfl;rfl|(with_reducible apply o5);rfl;rfl;rfl;rfl))));all_goals ((with_reducible apply k8);intro w' hS';clear hS;have hS:=hS';clear hS')))
        repeat' (first|(with_reducible apply d5 c9);rfl;rfl;rfl|(with_reducible apply d6);rfl;(first|apply Ld.sc c9;rfl;exact hS.blkC 1 rfl rfl|apply Ld.sl c9;rfl;exact hS.blkC 3 rfl rfl);rfl|(with_reducible apply a0w);rfl;rfl;omega;omega;rfl|refine yDn (by with_reducible constructor) ?_|(with_reducible apply d8);rfl;all_goals (intro hb hp;try (exfalso;omega))|(with_reducible apply a0j);rfl;all_goals (intro hb hp;try (exfalso;omega))|(with_reducible apply f9 hS);rfl;rfl;rfl;refine ⟨_,n6 _ _ _ _,?_⟩;clear hS;intro w' hS)
        (refine l4 rfl ?_)
        exact ⟨rfl,hS.sub (xi4 _)⟩
      ·by_cases k2':e.kind=2
       ·by_cases r:0<=e.at_/\e.at_<=(sl.length:Int) - 1
        ·have hE:=a2P (A:=A) (nf:=fr.length) (ns:=sl.length) hsm hl (xd1 ⟨k2',by omega,by omega⟩);rw [hE,xi6]
         repeat' (first|(with_reducible apply d5 c9);rfl;rfl;rfl|(with_reducible apply d6);rfl;(first|apply Ld.sc c9;rfl;exact hS.blkC 0 rfl rfl|apply Ld.sl c9;rfl;(first|exact hS.blkC 0 rfl rfl|exact hS.blkC 1 rfl rfl)|apply Ld.st c9;rfl;exact hS.roR (by assumption) (by assumption);rfl);rfl|(with_reducible apply m8 c9);rfl;rfl;rfl;rfl;omega;rfl|refine yDn (by with_reducible constructor) ?_|(with_reducible apply f5 hS c9);rfl;rfl;rfl;clear hS;intro g w' hS|(with_reducible apply d7 hS c9 (i:=0));(iterate 8 rfl);(first|exact (rfl:_=[_,_,_])|exact (rfl:_=[_,_,_,_]));clear hS;intro w' hS;simp only [List.set] at hS|(with_reducible apply d8);rfl;all_goals (intro hb hp;try (exfalso;omega))|(with_reducible apply f9 hS);rfl;rfl;rfl;refine ⟨_,haa _ (har.now hS),?_⟩;clear hS;intro w' hS)
         (focus ((with_reducible apply d9 _ _ _ (by kernel_rfl) (by kernel_rfl) hS);(repeat' ((first|(with_reducible apply a1M);rfl;rfl;omega;omega;rfl|(with_reducible apply g8 c9);rfl;rfl|(with_reducible apply i7);rfl;(intro wd hd;replace hd:St _ _ wd _:=hd;(first|apply Ld.sc c9;rfl;(first|exact hd.blkC 1 rfl rfl|exact hd.roC0 (by assumption) (by assumption) rfl)|apply Ld.sl c9;rfl;exact hd.blkC 2 rfl rfl));rfl|(with_reducible apply a0f c9);rfl;rfl;rfl;exact xp0 (by omega);omega;rfl|(first|((with_reducible apply y7);(iterate 4 rfl);first|rfl|assumption)|(with_reducible apply y5);rfl;rfl;rfl;all_goals (intro hb hp;try (exfalso;omega))|(with_reducible apply q7);rfl;assumption;rfl;rfl|(with_reducible apply o5);rfl;rfl;rfl;rfl))));all_goals ((with_reducible apply k8);intro w' hS';clear hS;have hS:=hS';clear hS')))
         repeat' (first|(with_reducible apply d5 c9);rfl;rfl;rfl|(with_reducible apply d6);rfl;(first|apply Ld.sc c9;rfl;exact hS.blkC 1 rfl rfl|apply Ld.sl c9;rfl;exact hS.blkC 3 rfl rfl);rfl|(with_reducible apply j7);rfl;rfl;omega;omega;rfl|(with_reducible apply a0w);rfl;rfl;omega;omega;rfl|refine yDn (by with_reducible constructor) ?_|(with_reducible apply d8);rfl;all_goals (intro hb hp;try (exfalso;omega))|(with_reducible apply a0j);rfl;all_goals (intro hb hp;try (exfalso;omega))|(with_reducible apply f9 hS);rfl;rfl;rfl;refine ⟨_,n6 _ _ _ _,?_⟩;clear hS;intro w' hS)
         exact i5 (i + 1,e.page) (by exact Fr.sub_of rfl) ⟨by show i + 1<=es.length;omega,xd1 ⟨by show 0 < i + 1;omega,_,he,rfl⟩,rfl⟩ hS.drop.drop (by show es.length - (i + 1) < es.length - i;omega)
        ·have hE:=a00 (A:=A) (nf:=fr.length) (ns:=sl.length) hl (fun h:(e.kind=1/\0<=e.at_/\e.at_ < (fr.length:Int))\/(e.kind=2/\0<=e.at_/\e.at_ < (sl.length:Int))=>by omega);rw [hE,xi5,xp5]
         repeat' (first|(with_reducible apply d5 c9);rfl;rfl;rfl|(with_reducible apply d6);rfl;(first|apply Ld.sc c9;rfl;exact hS.blkC 0 rfl rfl|apply Ld.sl c9;rfl;(first|exact hS.blkC 0 rfl rfl|exact hS.blkC 1 rfl rfl)|apply Ld.st c9;rfl;exact hS.roR (by assumption) (by assumption);rfl);rfl|(with_reducible apply m8 c9);rfl;rfl;rfl;rfl;omega;rfl|refine yDn (by with_reducible constructor) ?_|(with_reducible apply f5 hS c9);rfl;rfl;rfl;clear hS;intro g w' hS|(with_reducible apply d7 hS c9 (i:=0));(iterate 8 rfl);(first|exact (rfl:_=[_,_,_])|exact (rfl:_=[_,_,_,_]));clear hS;intro w' hS;simp only [List.set] at hS|(with_reducible apply d8);rfl;all_goals (intro hb hp;try (exfalso;omega))|(with_reducible apply f9 hS);rfl;rfl;rfl;refine ⟨_,haa _ (har.now hS),?_⟩;clear hS;intro w' hS)
         (focus ((with_reducible apply d9 _ _ _ (by kernel_rfl) (by kernel_rfl) hS);(repeat' ((first|(with_reducible apply a1M);rfl;rfl;omega;omega;rfl|(with_reducible apply g8 c9);rfl;rfl|(with_reducible apply i7);rfl;(intro wd hd;replace hd:St _ _ wd _:=hd;(first|apply Ld.sc c9;rfl;(first|exact hd.blkC 1 rfl rfl|exact hd.roC0 (by assumption) (by assumption) rfl)|apply Ld.sl c9;rfl;exact hd.blkC 2 rfl rfl));rfl|(with_reducible apply a0f c9);rfl;rfl;rfl;exact xp0 (by omega);omega;rfl|(first|((with_reducible apply y7);(iterate 4 rfl);first|rfl|assumption)|(with_reducible apply y5);rfl;rfl;rfl;all_goals (intro hb hp;try (exfalso;omega))|(with_reducible apply q7);rfl;assumption;rfl;rfl|(with_reducible apply o5);rfl;rfl;rfl;rfl))));all_goals ((with_reducible apply k8);intro w' hS';clear hS;have hS:=hS';clear hS')))
         repeat' (first|(with_reducible apply d5 c9);rfl;rfl;rfl|(with_reducible apply d6);rfl;(first|apply Ld.sc c9;rfl;exact hS.blkC 1 rfl rfl|apply Ld.sl c9;rfl;exact hS.blkC 3 rfl rfl);rfl|(with_reducible apply a0w);rfl;rfl;omega;omega;rfl|refine yDn (by with_reducible constructor) ?_|(with_reducible apply d8);rfl;all_goals (intro hb hp;try (exfalso;omega))|(with_reducible apply a0j);rfl;all_goals (intro hb hp;try (exfalso;omega))|(with_reducible apply f9 hS);rfl;rfl;rfl;refine ⟨_,n6 _ _ _ _,?_⟩;clear hS;intro w' hS)
         (refine l4 rfl ?_)
         exact ⟨rfl,hS.sub (xi4 _)⟩
       ·have hE:=a00 (A:=A) (nf:=fr.length) (ns:=sl.length) hl (fun h:(e.kind=1/\0<=e.at_/\e.at_ < (fr.length:Int))\/(e.kind=2/\0<=e.at_/\e.at_ < (sl.length:Int))=>by omega);rw [hE,xi5,xp5]
        repeat' (first|(with_reducible apply d5 c9);rfl;rfl;rfl|(with_reducible apply d6);rfl;(first|apply Ld.sc c9;rfl;exact hS.blkC 0 rfl rfl|apply Ld.sl c9;rfl;(first|exact hS.blkC 0 rfl rfl|exact hS.blkC 1 rfl rfl)|apply Ld.st c9;rfl;exact hS.roR (by assumption) (by assumption);rfl);rfl|(with_reducible apply m8 c9);rfl;rfl;rfl;rfl;omega;rfl|refine yDn (by with_reducible constructor) ?_|(with_reducible apply f5 hS c9);rfl;rfl;rfl;clear hS;intro g w' hS|(with_reducible apply d7 hS c9 (i:=0));(iterate 8 rfl);(first|exact (rfl:_=[_,_,_])|exact (rfl:_=[_,_,_,_]));clear hS;intro w' hS;simp only [List.set] at hS|(with_reducible apply d8);rfl;all_goals (intro hb hp;try (exfalso;omega))|(with_reducible apply f9 hS);rfl;rfl;rfl;refine ⟨_,haa _ (har.now hS),?_⟩;clear hS;intro w' hS)
        (focus ((with_reducible apply d9 _ _ _ (by kernel_rfl) (by kernel_rfl) hS);(repeat' ((first|(with_reducible apply a1M);rfl;rfl;omega;omega;rfl|(with_reducible apply g8 c9);rfl;rfl|(with_reducible apply i7);rfl;(intro wd hd;replace hd:St _ _ wd _:=hd;(first|apply Ld.sc c9;rfl;(first|exact hd.blkC 1 rfl rfl|exact hd.roC0 (by assumption) (by assumption) rfl)|apply Ld.sl c9;rfl;exact hd.blkC 2 rfl rfl));rfl|(with_reducible apply a0f c9);rfl;rfl;rfl;exact xp0 (by omega);omega;rfl|(first|((with_reducible apply y7);(iterate 4 rfl);first|rfl|assumption)|(with_reducible apply y5);rfl;rfl;rfl;all_goals (intro hb hp;try (exfalso;omega))|(with_reducible apply q7);rfl;assumption;rfl;rfl|(with_reducible apply o5);rfl;rfl;rfl;rfl))));all_goals ((with_reducible apply k8);intro w' hS';clear hS;have hS:=hS';clear hS')))
        repeat' (first|(with_reducible apply d5 c9);rfl;rfl;rfl|(with_reducible apply d6);rfl;(apply Ld.sc c9;rfl;exact hS.blkC 1 rfl rfl);rfl|refine yDn (by with_reducible constructor) ?_|(with_reducible apply i6);rfl;rfl|(with_reducible apply d8);rfl;all_goals (intro hb hp;try (exfalso;omega)))
        (refine l4 rfl ?_)
        exact ⟨rfl,hS.sub (xi4 _)⟩
     ·have hE:a1C A fr.length sl.length y.page e=false:=by unfold a1C;rw [xi7 (fun h=>hl h.1),xp5]
      rw [hE,xi5,xp5]
      repeat' (first|(with_reducible apply d5 c9);rfl;rfl;rfl|(with_reducible apply d6);rfl;(first|apply Ld.sc c9;rfl;exact hS.blkC 0 rfl rfl|apply Ld.sl c9;rfl;(first|exact hS.blkC 0 rfl rfl|exact hS.blkC 1 rfl rfl)|apply Ld.st c9;rfl;exact hS.roR (by assumption) (by assumption);rfl);rfl|(with_reducible apply m8 c9);rfl;rfl;rfl;rfl;omega;rfl|refine yDn (by with_reducible constructor) ?_|(with_reducible apply f5 hS c9);rfl;rfl;rfl;clear hS;intro g w' hS|(with_reducible apply d7 hS c9 (i:=0));(iterate 8 rfl);(first|exact (rfl:_=[_,_,_])|exact (rfl:_=[_,_,_,_]));clear hS;intro w' hS;simp only [List.set] at hS|(with_reducible apply d8);rfl;all_goals (intro hb hp;try (exfalso;omega))|(with_reducible apply f9 hS);rfl;rfl;rfl;refine ⟨_,haa _ (har.now hS),?_⟩;clear hS;intro w' hS)
      (focus ((with_reducible apply d9 _ _ _ (by kernel_rfl) (by kernel_rfl) hS);(repeat' ((first|(with_reducible apply a1M);rfl;rfl;omega;omega;rfl|(with_reducible apply g8 c9);rfl;rfl|(with_reducible apply i7);rfl;(intro wd hd;replace hd:St _ _ wd _:=hd;(first|apply Ld.sc c9;rfl;(first|exact hd.blkC 1 rfl rfl|exact hd.roC0 (by assumption) (by assumption) rfl)|apply Ld.sl c9;rfl;exact hd.blkC 2 rfl rfl));rfl|(with_reducible apply a0f c9);rfl;rfl;rfl;exact xp0 (by omega);omega;rfl|(first|((with_reducible apply y7);(iterate 4 rfl);first|rfl|assumption)|(with_reducible apply y5);rfl;rfl;rfl;all_goals (intro hb hp;try (exfalso;omega))|(with_reducible apply q7);rfl;assumption;rfl;rfl|(with_reducible apply o5);rfl;rfl;rfl;rfl))));all_goals ((with_reducible apply k8);intro w' hS';clear hS;have hS:=hS';clear hS')))
      repeat' (first|(with_reducible apply d5 c9);rfl;rfl;rfl|refine yDn (by with_reducible constructor) ?_|(with_reducible apply d8);rfl;all_goals (intro hb hp;try (exfalso;omega)))
      (refine l4 rfl ?_)
      exact ⟨rfl,hS.sub (xi4 _)⟩
  obtain rfl:i=es.length:=by omega
  rw [hents,List.drop_length,show a03 A fr.length sl.length last []=true from rfl,Bool.and_true]
  repeat' (first|(with_reducible apply d5 c9);rfl;rfl;rfl|(with_reducible apply d6);rfl;(apply Ld.sl c9;rfl;exact hS.blkC 0 rfl rfl);rfl|refine yDn (by with_reducible constructor) ?_|(with_reducible apply d8);rfl;all_goals (intro hb hp;try (exfalso;omega)))
  refine n9 (X:=Int) (fun x=>[(9,.int .i64 x)]) [2,3] rfl (fun _=>[]) (fun x=>1<=x/\x<=256/\∀ p:Int,1<=p->p < x->a7a (shs sh) A p=true) (fun x=>(256 - x).toNat) 1 (by exact Fr.sub_of rfl) ⟨by omega,by omega,fun p h1 h2=>by omega⟩ hS ?_;clear hS hents hlast;rintro q w2 ⟨hq1,hq2,hpre⟩ hS;dsimp only [List.cons_append,List.nil_append] at hS |-;by_cases hq:q<=255;rotate_left
  ·rw [(a5x hgood).2 (fun p h1 h2=>hpre p h1 (by omega))]
   repeat' (first|(with_reducible apply d5 c9);rfl;rfl;rfl|refine yDn (by with_reducible constructor) ?_|(with_reducible apply d8);rfl;all_goals (intro hb hp;try (exfalso;omega)))
   (refine l4 rfl ?_)
   exact ⟨rfl,hS.sub (xi4 _)⟩
  have haa:=fun w1 (h:Sl nF w1 4 (.slice pa A.length ca) (A.map arC))=>a4z q h hok;unfold a41 arC at haa;have hsq:=fun w1 (h:ShsV w1 sh (.slice p1 sh.length c1))=>hso w1 q h;have hpb:a7a (shs sh) A q=(match m9 A q with|some a=>a.z||(a2B sh q).isSome|none=>true):=by
   unfold a7a;rw [a4W,Option.isSome_map]
   cases m9 A q <;> rfl
  cases hsf:a2B sh q with
  |none=>
   rw [hsf] at hsq hpb;unfold a4D at hsq;dsimp only at hsq
   cases hf:m9 A q with
   |none=>
    rw [hf] at haa hpb;dsimp only [Option.getD,Option.isSome] at haa hpb
    repeat' (first|(with_reducible apply d5 c9);rfl;rfl;rfl|(with_reducible apply d6);rfl;(apply Ld.sl c9;rfl;(first|exact hS.blkC 0 rfl rfl|exact hS.blkC 2 rfl rfl));rfl|(with_reducible apply j7);rfl;rfl;omega;omega;rfl|refine yDn (by with_reducible constructor) ?_|(with_reducible apply a0a);(iterate 4 rfl);rfl;rfl|(with_reducible apply i4);rfl;rfl;rfl;rfl|(with_reducible apply i9);rfl;rfl|(with_reducible apply f5 hS c9);rfl;rfl;rfl;clear hS;intro g w' hS|(with_reducible apply d7 hS c9 (i:=0));(iterate 8 rfl);(first|exact (rfl:_=[_,_,_])|exact (rfl:_=[_,_,_,_]));clear hS;intro w' hS;simp only [List.set] at hS|(with_reducible apply d8);rfl;all_goals (intro hb hp;try (exfalso;omega))|(with_reducible apply f9 hS);rfl;rfl;rfl;refine ⟨_,haa _ (har.now hS),?_⟩;clear hS;intro w' hS|(with_reducible apply f9 hS);rfl;rfl;rfl;refine ⟨_,hsq _ (k1.now hS),?_⟩;clear hS;intro w' hS)
    refine i5 (q + 1) (by exact Fr.sub_of rfl) ⟨by omega,by omega,fun p h1 h2=>?_⟩ hS.drop.drop (by omega);by_cases e:p=q
    ·subst e;exact hpb
    ·exact hpre p h1 (by omega)
   |some a=>
    rw [hf] at haa hpb;dsimp only [Option.getD,Option.isSome] at haa hpb
    cases hz:a.z with
    |true=>
     rw [hz] at hpb haa
     repeat' (first|(with_reducible apply d5 c9);rfl;rfl;rfl|(with_reducible apply d6);rfl;(first|apply Ld.sc c9;rfl;exact hS.blkC 1 rfl rfl|apply Ld.sl c9;rfl;(first|exact hS.blkC 0 rfl rfl|exact hS.blkC 2 rfl rfl));rfl|(with_reducible apply j7);rfl;rfl;omega;omega;rfl|refine yDn (by with_reducible constructor) ?_|(with_reducible apply l8);(iterate 4 rfl);rfl|(with_reducible apply a0a);(iterate 4 rfl);rfl;rfl|(with_reducible apply j9);rfl;rfl;rfl;rfl|(with_reducible apply i4);rfl;rfl;rfl;rfl|(with_reducible apply i9);rfl;rfl|(with_reducible apply f5 hS c9);rfl;rfl;rfl;clear hS;intro g w' hS|(with_reducible apply d7 hS c9 (i:=0));(iterate 8 rfl);(first|exact (rfl:_=[_,_,_])|exact (rfl:_=[_,_,_,_]));clear hS;intro w' hS;simp only [List.set] at hS|(with_reducible apply d8);rfl;all_goals (intro hb hp;try (exfalso;omega))|(with_reducible apply f9 hS);rfl;rfl;rfl;refine ⟨_,haa _ (har.now hS),?_⟩;clear hS;intro w' hS|(with_reducible apply f9 hS);rfl;rfl;rfl;refine ⟨_,hsq _ (k1.now hS),?_⟩;clear hS;intro w' hS)
     refine i5 (q + 1) (by exact Fr.sub_of rfl) ⟨by omega,by omega,fun p h1 h2=>?_⟩ hS.drop.drop (by omega);by_cases e:p=q
     ·subst e;exact hpb
     ·exact hpre p h1 (by omega)
    |false=>
     rw [hz] at hpb haa;have hno:a1q (shs sh) A=false:=by
      rw [xj0];intro h;have:=(a5x hgood).1 h q hq1 hq;rw [hpb] at this
      cases this
     rw [hno]
     repeat' (first|(with_reducible apply d5 c9);rfl;rfl;rfl|(with_reducible apply d6);rfl;(first|apply Ld.sc c9;rfl;exact hS.blkC 1 rfl rfl|apply Ld.sl c9;rfl;(first|exact hS.blkC 0 rfl rfl|exact hS.blkC 2 rfl rfl));rfl|refine yDn (by with_reducible constructor) ?_|(with_reducible apply l8);(iterate 4 rfl);rfl|(with_reducible apply j9);rfl;rfl;rfl;rfl|(with_reducible apply i6);rfl;rfl|(with_reducible apply f5 hS c9);rfl;rfl;rfl;clear hS;intro g w' hS|(with_reducible apply d7 hS c9 (i:=0));(iterate 8 rfl);(first|exact (rfl:_=[_,_,_])|exact (rfl:_=[_,_,_,_]));clear hS;intro w' hS;simp only [List.set] at hS|(with_reducible apply d8);rfl;all_goals (intro hb hp;try (exfalso;omega))|(with_reducible apply f9 hS);rfl;rfl;rfl;refine ⟨_,haa _ (har.now hS),?_⟩;clear hS;intro w' hS|(with_reducible apply f9 hS);rfl;rfl;rfl;refine ⟨_,hsq _ (k1.now hS),?_⟩;clear hS;intro w' hS)
     (refine l4 rfl ?_)
     exact ⟨rfl,hS.sub (xi4 _)⟩
  |some y=>
   have hfx:=k1.fx y (xh9 hsf);obtain ⟨S,u⟩:=y;dsimp only at hfx;obtain ⟨pu,cu,rfl⟩:=hfx.len;rw [hsf] at hsq hpb;unfold a4D shC at hsq;dsimp only at hsq
   cases hf:m9 A q with
   |none=>
    rw [hf] at haa hpb;dsimp only [Option.getD,Option.isSome] at haa hpb
    repeat' (first|(with_reducible apply d5 c9);rfl;rfl;rfl|(with_reducible apply d6);rfl;(apply Ld.sl c9;rfl;(first|exact hS.blkC 0 rfl rfl|exact hS.blkC 2 rfl rfl));rfl|(with_reducible apply j7);rfl;rfl;omega;omega;rfl|refine yDn (by with_reducible constructor) ?_|(with_reducible apply a0a);(iterate 4 rfl);rfl;rfl|(with_reducible apply i4);rfl;rfl;rfl;rfl|(with_reducible apply i9);rfl;rfl|(with_reducible apply f5 hS c9);rfl;rfl;rfl;clear hS;intro g w' hS|(with_reducible apply d7 hS c9 (i:=0));(iterate 8 rfl);(first|exact (rfl:_=[_,_,_])|exact (rfl:_=[_,_,_,_]));clear hS;intro w' hS;simp only [List.set] at hS|(with_reducible apply d8);rfl;all_goals (intro hb hp;try (exfalso;omega))|(with_reducible apply f9 hS);rfl;rfl;rfl;refine ⟨_,haa _ (har.now hS),?_⟩;clear hS;intro w' hS|(with_reducible apply f9 hS);rfl;rfl;rfl;refine ⟨_,hsq _ (k1.now hS),?_⟩;clear hS;intro w' hS)
    refine i5 (q + 1) (by exact Fr.sub_of rfl) ⟨by omega,by omega,fun p h1 h2=>?_⟩ hS.drop.drop (by omega);by_cases e:p=q
    ·subst e;exact hpb
    ·exact hpre p h1 (by omega)
   |some a=>
    rw [hf] at haa hpb;dsimp only [Option.getD,Option.isSome] at haa hpb;rw [Bool.or_true] at hpb
    cases hz:a.z with
    |true=>
     rw [hz] at haa
     repeat' (first|(with_reducible apply d5 c9);rfl;rfl;rfl|(with_reducible apply d6);rfl;(first|apply Ld.sc c9;rfl;exact hS.blkC 1 rfl rfl|apply Ld.sl c9;rfl;(first|exact hS.blkC 0 rfl rfl|exact hS.blkC 2 rfl rfl));rfl|(with_reducible apply j7);rfl;rfl;omega;omega;rfl|refine yDn (by with_reducible constructor) ?_|(with_reducible apply l8);(iterate 4 rfl);rfl|(with_reducible apply a0a);(iterate 4 rfl);rfl;rfl|(with_reducible apply j9);rfl;rfl;rfl;rfl|(with_reducible apply i4);rfl;rfl;rfl;rfl|(with_reducible apply i9);rfl;rfl|(with_reducible apply f5 hS c9);rfl;rfl;rfl;clear hS;intro g w' hS|(with_reducible apply d7 hS c9 (i:=0));(iterate 8 rfl);(first|exact (rfl:_=[_,_,_])|exact (rfl:_=[_,_,_,_]));clear hS;intro w' hS;simp only [List.set] at hS|(with_reducible apply d8);rfl;all_goals (intro hb hp;try (exfalso;omega))|(with_reducible apply f9 hS);rfl;rfl;rfl;refine ⟨_,haa _ (har.now hS),?_⟩;clear hS;intro w' hS|(with_reducible apply f9 hS);rfl;rfl;rfl;refine ⟨_,hsq _ (k1.now hS),?_⟩;clear hS;intro w' hS)
     refine i5 (q + 1) (by exact Fr.sub_of rfl) ⟨by omega,by omega,fun p h1 h2=>?_⟩ hS.drop.drop (by omega);by_cases e:p=q
     ·subst e;exact hpb
     ·exact hpre p h1 (by omega)
    |false=>
     rw [hz] at haa
     repeat' (first|(with_reducible apply d5 c9);rfl;rfl;rfl|(with_reducible apply d6);rfl;(first|apply Ld.sc c9;rfl;exact hS.blkC 1 rfl rfl|apply Ld.sl c9;rfl;(first|exact hS.blkC 0 rfl rfl|exact hS.blkC 2 rfl rfl));rfl|(with_reducible apply j7);rfl;rfl;omega;omega;rfl|refine yDn (by with_reducible constructor) ?_|(with_reducible apply l8);(iterate 4 rfl);rfl|(with_reducible apply j9);rfl;rfl;rfl;rfl|(with_reducible apply i9);rfl;rfl|(with_reducible apply f5 hS c9);rfl;rfl;rfl;clear hS;intro g w' hS|(with_reducible apply d7 hS c9 (i:=0));(iterate 8 rfl);(first|exact (rfl:_=[_,_,_])|exact (rfl:_=[_,_,_,_]));clear hS;intro w' hS;simp only [List.set] at hS|(with_reducible apply d8);rfl;all_goals (intro hb hp;try (exfalso;omega))|(with_reducible apply f9 hS);rfl;rfl;rfl;refine ⟨_,haa _ (har.now hS),?_⟩;clear hS;intro w' hS|(with_reducible apply f9 hS);rfl;rfl;rfl;refine ⟨_,hsq _ (k1.now hS),?_⟩;clear hS;intro w' hS)
     refine i5 (q + 1) (by exact Fr.sub_of rfl) ⟨by omega,by omega,fun p h1 h2=>?_⟩ hS.drop.drop (by omega);by_cases e:p=q
     ·subst e;exact hpb
     ·exact hpre p h1 (by omega)
theorem a9g (l:List Nm):(a0q l).1=(l.length:Int):=by
 have:∀ (l:List Nm) (s:b1k),(l.foldl a2j s).1=s.1 + (l.length:Int):=by
  intro l
  induction l with
  |nil=>intro s;simp
  |cons m l ih=>intro s;rw [xf5,ih,xb0];show s.1 + 1 + _=_;omega
 have h:=this l (0,0,true,a0r);unfold a0q;rw [h];simp
theorem a3f:∀ (l:List Nm) (k:Int) (page:Int) (same:Bool) (a:Ar),1<=k->(l.foldl a2j (k,page,same,a)).2.2.1=(same && l.all fun m=>decide (m.1.page=page/\m.2.z=a.z))/\((l.foldl a2j (k,page,same,a)).2.2.1=true->(l.foldl a2j (k,page,same,a)).2.1=page/\(l.foldl a2j (k,page,same,a)).2.2.2.z=a.z)
 |[],k,page,same,a,_=>by simp
 |m::l,k,page,same,a,hk=>by
  have hk0:decide (k=0)=false:=xi7 (by omega);have hs:a2j (k,page,same,a) m=(k + 1,m.1.page,same && decide (m.1.page=page/\m.2.z=a.z),m.2):=by
   unfold a2j;dsimp only;rw [hk0,xj1,Bool.decide_and]
  rw [xf5,hs,xi9];by_cases h:m.1.page=page/\m.2.z=a.z
  ·have ih:=a3f l (k + 1) m.1.page same m.2 (by omega);rw [xi8 h,Bool.and_true,xi6];rw [h.1,h.2] at ih;rw [h.1];exact ih
  ·have ih:=a3f l (k + 1) m.1.page false m.2 (by omega);rw [xi5] at ih;rw [xi7 h,xp5,xi5,xp5];exact ⟨ih.1,fun hh=>by rw [ih.1] at hh;cases hh⟩
theorem a7B {n:Nm} {r:List Nm}:(a0q (n::r)).2.2.1=a0n (n::r)/\(a0n (n::r)=true->(a0q (n::r)).2.1=n.1.page/\(a0q (n::r)).2.2.2.z=n.2.z):=by
 have h:=a3f r 1 n.1.page true n.2 (by omega);have e:a0q (n::r)=r.foldl a2j (1,n.1.page,true,n.2):=rfl;rw [e];rw [xi6] at h;have ea:a0n (n::r)=r.all fun m=>decide (m.1.page=n.1.page/\m.2.z=n.2.z):=rfl;rw [ea];exact ⟨h.1,fun hh=>h.2 (h.1.trans hh)⟩
def a3g (l:List En) (p:Int):Option En:=l.find? fun e=>decide (e.page=p)
def a13 (l:List En):List Int:=l.map fun e=>e.page
def b7T (l:List En) (e:En):List En:=l.take (lbd (a13 l) e.page)++e::l.drop (lbd (a13 l) e.page)
def putE (l:List En) (e:En):List En:=if e.page ∈ a13 l then l.set (lbd (a13 l) e.page) e else b7T l e
def a16 (l:List Fm) (i:Nat):Fm:=(l[i]?).getD fm0
def a2J (l:List Sw) (i:Nat):Sw:=(l[i]?).getD sw0
def a2o (f:Fm):Fm:=if f.refs - 1=0 then fm0 else ⟨f.data,f.refs - 1,f.dirty,f.seen⟩
def a2w (s:Sw):Sw:=if s.refs - 1=0 then sw0 else ⟨s.data,s.refs - 1⟩
def a0m (K:Ker) (e:En):Ker:=if e.kind=1 then ⟨K.sheets,K.frames.set e.at_.toNat (a2o (a16 K.frames e.at_.toNat)),K.slots,K.spaces,K.hand⟩ else ⟨K.sheets,K.frames,K.slots.set e.at_.toNat (a2w (a2J K.slots e.at_.toNat)),K.spaces,K.hand⟩
def sc0:Sc:=⟨false,[],[]⟩
def a0I (K:Ker) (sp:Nat):Sc:=(K.spaces[sp]?).getD sc0
def w9 (K:Ker) (sp:Nat):List En:=(a0I K sp).entries
def m6 (K:Ker) (sp:Nat):List Ar:=(a0I K sp).areas
def a2S (K:Ker) (sp:Nat) (s:Sc):Ker:=⟨K.sheets,K.frames,K.slots,K.spaces.set sp s,K.hand⟩
def zAt (K:Ker) (sp:Nat) (page:Int):Bool:=((m9 (m6 K sp) page).getD a0r).z
def a7v (K:Ker) (sp:Nat) (page:Int):List UInt8:=(a0L K.sheets (zAt K sp page) page).getD []
def a60 (K:Ker) (e:En):List UInt8:=if e.kind=1 then (a16 K.frames e.at_.toNat).data else (a2J K.slots e.at_.toNat).data
def a24 (K:Ker) (sp:Nat) (page:Int):List UInt8:=match a3g (w9 K sp) page with
 |some e=>a60 K e
 |none=>a7v K sp page
structure FmOk (sh:List Sh) (f:Fm) (N:List Nm):Prop where
 refs:f.refs=(N.length:Int)
 nil:N=[]->f=fm0
 len:N≠[]->f.data.length=16
 same:∀ n ∈ N,∀ m ∈ N,m.1.page=n.1.page/\m.2.z=n.2.z
 data:∀ n ∈ N,f.dirty=true\/some f.data=a0L sh n.2.z n.1.page
structure SwOk (s:Sw) (N:List Nm):Prop where
 refs:s.refs=(N.length:Int)
 nil:N=[]->s=sw0
 len:N≠[]->s.data.length=16
 same:∀ n ∈ N,∀ m ∈ N,m.1.page=n.1.page/\m.2.z=n.2.z
theorem a2E {N:List Nm}:a0n N=true ↔ ∀ n ∈ N,∀ m ∈ N,m.1.page=n.1.page/\m.2.z=n.2.z:=by
 cases N with
 |nil=>simp [a0n]
 |cons a r=>
  unfold a0n;rw [xc6];constructor
  ·intro h;have h':∀ m ∈ a::r,m.1.page=a.1.page/\m.2.z=a.2.z:=fun m hm=>by
    rcases xc3.1 hm with rfl|hm
    ·exact ⟨rfl,rfl⟩
    ·exact xn8 (h m hm)
   exact fun n hn m hm=>⟨(h' m hm).1.trans (h' n hn).1.symm,(h' m hm).2.trans (h' n hn).2.symm⟩
  ·exact fun h m hm=>xi8 (h a xc4 m (xc5 _ hm))
theorem a11 {sh:List Sh} {f:Fm} {N:List Nm}:a0Y sh f N=true ↔ FmOk sh f N:=by
 cases N with
 |nil=>
  unfold a0Y;rw [xb2];constructor
  ·rintro rfl;exact ⟨rfl,fun _=>rfl,fun h=>absurd rfl h,(fun _ h=>by cases h),(fun _ h=>by cases h)⟩
  ·exact fun h=>h.nil rfl
 |cons n r=>
  unfold a0Y;rw [xb1,xb1,a2E,xb2,Bool.or_eq_true,xb2];constructor
  ·rintro ⟨⟨h1,h2⟩,h3,h4⟩;refine ⟨h1,(fun h=>by cases h),fun _=>h2,h3,fun m hm=>?_⟩;have:=h3 n xc4 m hm;rw [this.1,this.2];exact h4
  ·intro h;exact ⟨⟨h.refs,h.len (by simp)⟩,h.same,h.data n xc4⟩
theorem a2l {s:Sw} {N:List Nm}:a1A s N=true ↔ SwOk s N:=by
 cases N with
 |nil=>
  unfold a1A;rw [xb2];constructor
  ·rintro rfl;exact ⟨rfl,fun _=>rfl,fun h=>absurd rfl h,(fun _ h=>by cases h)⟩
  ·exact fun h=>h.nil rfl
 |cons n r=>
  unfold a1A;rw [xb1,a2E,xb2];constructor
  ·rintro ⟨⟨h1,h2⟩,h3⟩;exact ⟨h1,(fun h=>by cases h),fun _=>h2,h3⟩
  ·intro h;exact ⟨⟨h.refs,h.len (by simp)⟩,h.same⟩
theorem FmOk.perm {sh:List Sh} {f:Fm} {N M:List Nm} (h:FmOk sh f N) (p:N.Perm M):FmOk sh f M :=
 ⟨by rw [<- p.length_eq];exact h.refs,fun e=>h.nil (by subst e;exact p.eq_nil),fun e=>h.len (fun e2=>e (by subst e2;exact p.symm.eq_nil)),fun n hn m hm=>h.same n (p.mem_iff.2 hn) m (p.mem_iff.2 hm),fun n hn=>h.data n (p.mem_iff.2 hn)⟩
theorem SwOk.perm {f:Sw} {N M:List Nm} (h:SwOk f N) (p:N.Perm M):SwOk f M :=
 ⟨by rw [<- p.length_eq];exact h.refs,fun e=>h.nil (by subst e;exact p.eq_nil),fun e=>h.len (fun e2=>e (by subst e2;exact p.symm.eq_nil)),fun n hn m hm=>h.same n (p.mem_iff.2 hn) m (p.mem_iff.2 hm)⟩
structure Right (K:Ker):Prop where
 cnt:3<=K.frames.length/\K.frames.length<=64/\K.slots.length<=512/\1<=K.spaces.length/\K.spaces.length<=4/\K.sheets.length<=255
 rise:a0u 0 K.sheets=true
 hand:0<=K.hand/\K.hand < K.frames.length
 spaces:∀ s ∈ K.spaces,r6 K.sheets K.frames.length K.slots.length s=true
 room:o8 K.spaces<=K.slots.length
 fr:∀ (i:Nat) f,K.frames[i]?=some f->FmOk K.sheets f (j8 K.spaces 1 (i:Nat))
 sl:∀ (i:Nat) s,K.slots[i]?=some s->SwOk s (j8 K.spaces 2 (i:Nat))
theorem a4S {K:Ker}:a0t K=true ↔ ∀ (i:Nat) f,K.frames[i]?=some f->FmOk K.sheets f (j8 K.spaces 1 (i:Nat)):=by
 unfold a0t;rw [xc6];constructor
 ·intro h i f hf;have:=h i (xi1.2 (f7 hf));rw [hf] at this;exact a11.1 this
 ·intro h i hi;rw [xi1] at hi;rw [xd8 hi];exact a11.2 (h i _ (xd8 hi))
theorem a59 {K:Ker}:a1j K=true ↔ ∀ (i:Nat) s,K.slots[i]?=some s->SwOk s (j8 K.spaces 2 (i:Nat)):=by
 unfold a1j;rw [xc6];constructor
 ·intro h i f hf;have:=h i (xi1.2 (f7 hf));rw [hf] at this;exact a2l.1 this
 ·intro h i hi;rw [xi1] at hi;rw [xd8 hi];exact a2l.2 (h i _ (xd8 hi))
theorem a7b {K:Ker}:a09 K=0 ↔ Right K:=by
 unfold a09;by_cases h1:a1s K=true;rotate_left
 ·rw [xe7 h1];refine ⟨(fun h=>by cases h),fun h=>?_⟩;exact absurd (by unfold a1s;rw [xb2];exact h.cnt) h1
 rw [xe6 h1];unfold a1s at h1;rw [xb2] at h1;by_cases h2:a4U K=true
 ·rw [xe6 h2];refine ⟨fun _=>?_,fun _=>rfl⟩;unfold a4U at h2;simp only [xb1,xb2] at h2;obtain ⟨⟨a1,a2⟩,a3,a4,a5,a6⟩:=h2;exact ⟨h1,a1,a2,fun s hs=>xc6.1 a3 s hs,a4,a4S.1 a5,a59.1 a6⟩
 ·rw [xe7 h2];refine ⟨(fun h=>by cases h),fun h=>?_⟩;refine absurd ?_ h2;unfold a4U;simp only [xb1,xb2];exact ⟨⟨h.rise,h.hand⟩,xc6.2 h.spaces,h.room,a4S.2 h.fr,a59.2 h.sl⟩
def nm1 (s:Sc) (k a:Int):List Nm:=(s.entries.filter fun e=>decide (e.kind=k/\e.at_=a)).map (a1i s)
theorem a8Y (L:List Sc) (k a:Int):j8 L k a=L.flatMap fun s=>nm1 s k a:=rfl
def b5w (A:List Ar) (nf ns:Int) (e:En):Prop:=(m9 A e.page).isSome=true/\((e.kind=1/\0<=e.at_/\e.at_ < nf)\/(e.kind=2/\0<=e.at_/\e.at_ < ns))
theorem a6G {A:List Ar} {nf ns:Int}:∀ {l:List En} {last:Int},a03 A nf ns last l=true ↔ (∀ e ∈ l,b5w A nf ns e/\last < e.page)/\Rises (a13 l)
 |[],last=>by simp [a03,Rises,a13]
 |e::l,last=>by
  show (a1C A nf ns last e && a03 A nf ns e.page l)=true ↔ _;rw [xb1,a6G (l:=l)];unfold a1C;rw [xb1,xb2];show _ ↔ _/\List.Pairwise _ (e.page::a13 l);rw [List.pairwise_cons];constructor
  ·rintro ⟨⟨h1,h2,h3⟩,h4,h5⟩;refine ⟨fun x hx=>?_,fun p hp=>?_,h5⟩
   ·rcases xc3.1 hx with rfl|hx
    ·exact ⟨⟨h1,h3⟩,h2⟩
    ·have:=h4 x hx;exact ⟨this.1,by omega⟩
   ·obtain ⟨x,hx,rfl⟩:=xh6.1 hp;exact (h4 x hx).2
  ·rintro ⟨h1,h2,h3⟩;have h0:=h1 e xc4;exact ⟨⟨h0.1.1,h0.2,h0.1.2⟩,fun x hx=>⟨(h1 x (xc5 _ hx)).1,h2 _ (xh6.2 ⟨x,hx,rfl⟩)⟩,h3⟩
structure b60 (sh:List Sh) (nf ns:Int) (s:Sc):Prop where
 dead:s.live=false->s.areas=[]/\s.entries=[]
 ar:g6 s.areas=0
 pages:a1q sh s.areas=true
 ents:∀ e ∈ s.entries,b5w s.areas nf ns e
 rises:Rises (a13 s.entries)
theorem a2x {sh:List Sh} {nf ns:Int} {s:Sc}:r6 sh nf ns s=true ↔ b60 sh nf ns s:=by
 unfold r6
 cases hl:s.live with
 |false=>
  rw [xe7 (by simp),xb2];constructor
  ·rintro ⟨h1,h2⟩;refine ⟨fun _=>⟨h1,h2⟩,by rw [h1];rfl,by rw [h1];rfl,by rw [h2];simp,by rw [h2];exact List.Pairwise.nil⟩
  ·exact fun h=>h.dead hl
 |true=>
  rw [xe6 rfl,xb1,xb1,xb2,a6G];constructor
  ·rintro ⟨h1,h2,h3,h4⟩;exact ⟨fun h=>(by rw [hl] at h;cases h),h1,h2,fun e he=>(h3 e he).1,h4⟩
  ·intro h;exact ⟨h.ar,h.pages,fun e he=>⟨h.ents e he,a5N h.ar (h.ents e he).1⟩,h.rises⟩
theorem a38 {l:List Fm} {i:Nat} {f:Fm} (h:l[i]?=some f):a16 l i=f:=by unfold a16;rw [h];rfl
theorem a37 {l:List Sw} {i:Nat} {f:Sw} (h:l[i]?=some f):a2J l i=f:=by unfold a2J;rw [h];rfl
theorem SwOk.free {s:Sw} {N:List Nm} (h:SwOk s N) (h0:s.refs=0):N=[]/\s=sw0:=by
 have h1:=h.refs;have:N=[]:=xe8 (by omega);exact ⟨this,h.nil this⟩
theorem FmOk.free {sh:List Sh} {s:Fm} {N:List Nm} (h:FmOk sh s N) (h0:s.refs=0):N=[]/\s=fm0:=by
 have h1:=h.refs;have:N=[]:=xe8 (by omega);exact ⟨this,h.nil this⟩
theorem FmOk.zero (sh:List Sh):FmOk sh fm0 []:=⟨rfl,fun _=>rfl,fun h=>absurd rfl h,(fun _ h=>by cases h),(fun _ h=>by cases h)⟩
theorem SwOk.zero:SwOk sw0 []:=⟨rfl,fun _=>rfl,fun h=>absurd rfl h,(fun _ h=>by cases h)⟩
end Go.Proofs.YtejnpppejalhfacGreat
