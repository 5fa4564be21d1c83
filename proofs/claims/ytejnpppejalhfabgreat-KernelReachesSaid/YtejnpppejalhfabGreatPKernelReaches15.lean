/- Texts that the proof stands on, one behind the other: Ke45, Ke46, Ke54. -/
import Derived.Test.YtejnpppejalhfabGreatPKernelReaches14
set_option linter.unusedVariables false
set_option linter.unusedSimpArgs false
namespace Go.Proofs.YtejnpppejalhfabGreat
set_option maxRecDepth 100000
set_option maxHeartbeats 8000000
open Go.RowKit Go.Sort
def en0:En:=⟨0,0,0⟩
theorem a9z {l:List En} {i:Nat} {h x:En} (hi:i<=l.length):(l.take i++h::l.drop i).set i x=l.take i++x::l.drop i:=by
 have hl:(l.take i).length=i:=by rw [xa1];omega
 rw [xf6 _ _ (by omega),hl,xf8];rfl
theorem b2q {l:List En} {i:Nat} {y:En} (hy:l[i]?=some y):l.take (i + 1)++y::l.drop (i + 1)=l.take i++y::l.drop i:=by
 rw [q9 hy,a3Y hy,xg2];rfl
theorem b4Q {l:List En} {i j:Nat} {h:En} (hj:j < i) (hi:i<=l.length):(l.take i++h::l.drop i)[j]?=l[j]?:=by
 rw [xa6 (by rw [xa1];omega),xf5,xf0 hj]
theorem a8R {F:Nat->Prop} {w0 w:World} {Γ:List Asr} {g0:Nat} {k:KV} (hS0:St F w0 w (rkS g0 k++Γ)) (hR:KRo (fps (rkS g0 k)) w k) {sp:Nat} {x:Sp} (hx:k.sp[sp]?=some x) {e':En} (hr:Rises (j8 x.s.entries)) (hl:x.s.entries.length<=1000) :
  Fn Tryz.prog 133 [a11 k.vsp (sp * 3),.agg (enC e').toArray] w (fun v w'=>v=.tuple #[]/\∃ ve',St (fps (rkS g0 k)) w w' (rkS g0 ⟨k.sh,k.fr,k.sl,k.sp.set sp ⟨⟨x.s.live,x.s.areas,putE x.s.entries e'⟩,x.va,ve'⟩,k.hand,k.vsh,k.vfr,k.vsl,k.vsp⟩)):=by
 have hS:=St.startM hS0;have hxm:=xd0 hx;have hea:=fun w1 Γ1 (h:St (fps (rkS g0 k)) w w1 (rkS g0 k++Γ1))=>a2s ((KerV.rk h hR).spv x hxm) e'.page;have hspV:=fun w1 Γ1 (h:St (fps (rkS g0 k)) w w1 (rkS g0 k++Γ1))=>(KerV.rk h hR).sp;have hix:=a4T x.s.entries e'.page;generalize a1u (fun e:En=>decide (e.page=e'.page)) x.s.entries=ix at hea hix;generalize fps (rkS g0 k)=G at hS hea hspV |-;obtain ⟨sh,fr,sl,sps,hand,vsh,vfr,vsl,vsp⟩:=k;dsimp only at hx hxm hspV |-;have hrow:=c9 (f:=spC) hx;have hspl:=b9 hx;obtain ⟨ps,cs,rfl⟩:∃ p c,vsp=.slice p sps.length c:=by
  have h2:=hS;unfold rkS a08 at h2;obtain ⟨p,c,h⟩:=h2.rowSlice 3 rfl;rw [xj1] at h;exact ⟨p,c,h⟩
 obtain ⟨gs,rfl⟩:∃ g,ps=some ⟨g,0,none⟩:=by
  have h2:=hS;unfold rkS a08 at h2;exact h2.rowSome 3 rfl (by omega)
 unfold a11;dsimp only;obtain ⟨s,va,ve⟩:=x;dsimp only at hr hl hix |-;unfold spC at hrow hea;dsimp only at hrow hea;obtain ⟨epg,ekd,eat⟩:=e';dsimp only at hea hix;unfold enC;dsimp only;rw [<- List.append_nil (rkS _ _)] at hS;refine yEn Tryz.func133 Tryz.ntmps133 (by kernel_rfl) (by kernel_rfl) rfl rfl ?_
 repeat' (first|refine yDn (by with_reducible constructor) ?_|(with_reducible apply l6 hS);rfl;rfl;rfl;clear hS;intro g w' hS)
 (focus ((with_reducible apply d8 _ _ _ (by kernel_rfl) (by kernel_rfl) hS);(repeat' (first|(first|(with_reducible apply i9 a7);rfl;rfl|(with_reducible apply i7);rfl;(intro wd hd;replace hd:St _ _ wd _:=hd;(apply Ld.sc a7;rfl;exact hd.blkC 0 rfl rfl));rfl)|(with_reducible apply i7);rfl;(intro wd hd;replace hd:St _ _ wd _:=hd;(apply Ld.st a7;rfl;exact ((hspV _ _ hd.drop).rng hrow);rfl));rfl|(with_reducible apply y8);rfl;rfl;rfl;refine ⟨_,fun wd hd=>hea _ _ hd.drop,?_⟩));all_goals ((with_reducible apply j7);intro w' hS';clear hS;have hS:=hS';clear hS')))
 (with_reducible apply a3t)
 (with_reducible apply a2a)
 rename Nat=>g3
 rw [List.append_nil] at hS;unfold rkS kvC frA slA a08 at hS;dsimp only [List.cons_append,List.nil_append] at hS;replace hS:=hS.pullE 5 hx rfl;simp only [xl4,xl5,v7] at hS;unfold a0j at hS;dsimp only at hS;obtain ⟨pe,ce,rfl⟩:=hS.rowSlice 0 rfl;rw [xj1] at hS hx hrow;have hback:∀ w1 (L:List En) (v:Value),St G w w1 (.row 91 3 v (L.map enC)::.blk g3 [.int .i64 epg,.int .i64 ekd,.int .i64 eat]::.blk g0 [vsh,vfr,vsl,.slice (some ⟨gs,0,none⟩) sps.length cs,.int .i64 hand]::.row 89 4 vfr (fr.map fmC)::.row 143 2 vsl (sl.map swC)::.row 75 3 (.slice (some ⟨gs,0,none⟩) sps.length cs) ((sps.set sp ⟨s,va,v⟩).map spC)::(sps.eraseIdx sp).map a0j)->St G w w1 (rkS g0 ⟨sh,fr,sl,sps.set sp ⟨⟨s.live,s.areas,L⟩,va,v⟩,hand,vsh,vfr,vsl,.slice (some ⟨gs,0,none⟩) sps.length cs⟩):=fun w1 L v h=>by
  have h2:=(St.pushE (y:=⟨⟨s.live,s.areas,L⟩,va,v⟩) h 5 hx rfl).drop;have h3:(sps.set sp ⟨⟨s.live,s.areas,L⟩,va,v⟩).map spC=(sps.set sp ⟨s,va,v⟩).map spC:=by rw [xl3,xl3];rfl
  unfold rkS kvC frA slA a08;dsimp only;rw [h3];exact h2
 rcases hix with ⟨h0,rfl⟩|⟨i,e,h0,rfl,hi⟩
 ·have hnm:epg ∉ j8 s.entries:=a1m.1 h0;have hpu:putE s.entries ⟨epg,ekd,eat⟩=a7p s.entries ⟨epg,ekd,eat⟩:=by unfold putE;rw [xf1 hnm]
  rw [hpu]
  repeat' (first|(with_reducible apply a8 a7);rfl;rfl;rfl|(with_reducible apply l4 a7);rfl;rfl;exact (rfl:_=some [_,_,_]);rfl|refine yDn (by with_reducible constructor) ?_|(with_reducible apply f6);rfl;rfl|(with_reducible apply a0S hS a7);(iterate 7 rfl);clear hS;intro g w' hS|(with_reducible apply a9);rfl;(apply Ld.sl a7;rfl;exact hS.rowCj 5 rfl hrow rfl);rfl|(with_reducible apply a2t hS a7 1);(iterate 4 rfl);exact hS.rowRo 0 rfl;rfl;(simp only [xj1,xb1,xa2,xe9];omega);rfl;intro p' cap' w' hS';simp only [List.set] at hS';clear hS;have hS:=hS';clear hS'|(with_reducible apply t9 hS a7 (i:=6));(iterate 4 rfl);assumption;(iterate 5 rfl);intro w' hS';simp only [List.set] at hS';clear hS;have hS:=hS';clear hS')
  simp only [xj1] at hS |-;have hspE:(sps.map spC).set sp (p7 [.bool s.live,va,.slice pe s.entries.length ce] 2 [.slice p' (s.entries.length + 1) cap'])=(sps.set sp ⟨s,va,.slice p' (s.entries.length + 1) cap'⟩).map spC:=by rw [xl3];rfl
  rw [hspE] at hS;have hE0:s.entries.map enC++[[.int .i64 0,.int .i64 0,.int .i64 0]]=(s.entries.take s.entries.length++en0::s.entries.drop s.entries.length).map enC:=by rw [xg8,xl6,xl7];rfl
  rw [hE0] at hS;have hrow1:((sps.set sp ⟨s,va,.slice p' (s.entries.length + 1) cap'⟩).map spC)[sp]?=some [.bool s.live,va,.slice p' (s.entries.length + 1) cap']:=c9 (f:=spC) (a2K (x:=(⟨s,va,.slice p' (s.entries.length + 1) cap'⟩:Sp)) hspl);obtain ⟨ge,hge⟩:=hS.rowSome (p:=p') (n:=s.entries.length + 1) (cap:=cap') (sz:=3) 1 rfl (by omega);subst hge;replace hS:=hS.drop;clear hrow hE0 hspE
  repeat' (first|(with_reducible apply a8 a7);rfl;rfl;rfl|(with_reducible apply a0h);rfl;rfl;omega;omega;rfl|refine yDn (by with_reducible constructor) ?_|(with_reducible apply a9);rfl;(apply Ld.sl a7;rfl;exact hS.rowCj 5 rfl hrow1 rfl);rfl)
  have hsub:(((s.entries.length + 1:Nat):Int) - 1)=(s.entries.length:Int):=by omega
  rw [hsub];refine l7 (X:=Nat×En) (fun x=>[(4,.int .i64 (x.1:Nat))]) [0,3] rfl (fun x=>[.row 91 3 (.slice (some ⟨ge,0,none⟩) (s.entries.length + 1) cap') ((s.entries.take x.1++x.2::s.entries.drop x.1).map enC)]) (fun x=>x.1<=s.entries.length/\∀ (j:Nat) (q:Int),x.1<=j->(j8 s.entries)[j]?=some q->epg<=q) (fun x=>x.1) (s.entries.length,en0) (by exact Fr.sub_of rfl) ⟨xd4 _,fun j q hj hq=>by have:=b9 hq;unfold j8 at this;rw [xj1] at this;omega⟩ hS ?_;clear hS;rintro ⟨i,h⟩ w1 ⟨hi,hge⟩ hS;dsimp only [List.cons_append,List.nil_append] at hi hge hS |-;have hLi:(s.entries.take i++h::s.entries.drop i)[i]?=some h:=by
   rw [xa5 (by rw [xa1];omega),xa1,xk1 hi,xf8];rfl
  have hrowE:=c9 (f:=enC) hLi;have hst:((s.entries.take i++h::s.entries.drop i).map enC).set i (p7 (enC h) 0 [.int .i64 epg,.int .i64 ekd,.int .i64 eat])=(s.entries.take i++(⟨epg,ekd,eat⟩:En)::s.entries.drop i).map enC:=by
   rw [<- a9z (h:=h) (x:=(⟨epg,ekd,eat⟩:En)) hi,xl3];exact congrArg (List.set _ _) (a33 h ⟨epg,ekd,eat⟩)
  have a1D:(∀ (j:Nat) (q:Int),j < i->(j8 s.entries)[j]?=some q->q < epg)->a7p s.entries ⟨epg,ekd,eat⟩=s.entries.take i++(⟨epg,ekd,eat⟩:En)::s.entries.drop i:=fun hlo=>by
   have hlb:lbd (j8 s.entries) epg=i:=a8M (by unfold j8;rw [xj1];exact hi) hlo (fun q hq=>hge i q (xd4 _) hq);unfold a7p;rw [hlb]
  by_cases hz:i=0
  ·subst hz;rw [a1D (fun j q hj _=>by omega)];have hd0:decide (((0:Nat):Int) < ((0:Nat):Int))=false:=rfl;simp only [xl5,xl9] at hst
   repeat' ((refine yDn (by with_reducible constructor) ?_))
   (focus ((with_reducible apply d8 _ _ _ (by kernel_rfl) (by kernel_rfl) hS);(repeat' ((first|(with_reducible apply i9 a7);rfl;rfl|(first|(with_reducible apply a2p);(iterate 4 rfl);rfl;rfl|(with_reducible apply t2);rfl;rfl;rfl;rfl))));all_goals ((with_reducible apply j7);intro w' hS';clear hS;have hS:=hS';clear hS')))
   (with_reducible apply a3t)
   (with_reducible apply a2a)
   repeat' (first|refine yDn (by with_reducible constructor) ?_|(with_reducible apply f6);rfl;rfl)
   (focus ((with_reducible apply a0b _ _ _ 7 (by kernel_rfl) (by kernel_rfl) hS);(simp only [xl4,xl5,xl8,xl9]);(repeat' (first|(first|(with_reducible apply i9 a7);rfl;rfl|(with_reducible apply i7);rfl;(intro wd hd;replace hd:St _ _ wd _:=hd;(apply Ld.st a7;rfl;exact hd.blkR 1 rfl;rfl));rfl|(with_reducible apply x7 a7);rfl;rfl;rfl;rfl;omega;rfl)|(with_reducible apply i7);rfl;(intro wd hd;replace hd:St _ _ wd _:=hd;(apply Ld.sl a7;rfl;exact hd.rowCj 5 rfl hrow1 rfl));rfl));all_goals ((with_reducible apply j7);intro w' hS';clear hS;have hS:=hS';clear hS')))
   repeat' (first|refine yDn (by with_reducible constructor) ?_|(with_reducible apply q7 hS a7 (i:=0));(iterate 4 rfl);assumption;(iterate 5 rfl);intro w' hS';simp only [List.set] at hS';clear hS;have hS:=hS';clear hS')
   rw [hst] at hS
   (apply b0G;repeat ((exact ResL.nil)))
   exact ⟨rfl,_,hback _ _ _ hS⟩
  ·obtain ⟨i,rfl⟩:∃ j,i=j + 1:=⟨i - 1,by omega⟩;obtain ⟨y,hy⟩:=j3 (l:=s.entries) (i:=i) (by omega);have hyL:=b4Q (h:=h) (Nat.lt_succ_self i) hi;rw [hy] at hyL;have hrowY:((s.entries.take (i + 1)++h::s.entries.drop (i + 1)).map enC)[(((i + 1:Nat):Int) - 1).toNat]?=some [.int .i64 y.page,.int .i64 y.kind,.int .i64 y.at_]:=by
    rw [show (((i + 1:Nat):Int) - 1).toNat=i from by omega];exact c9 (f:=enC) hyL
   have hd1:decide (((0:Nat):Int) < ((i + 1:Nat):Int))=true:=xj4 (by omega);have hsi:(((i + 1:Nat):Int) - 1)=(i:Int):=by omega
   by_cases hlt:epg < y.page
   ·have hd2:decide (epg < y.page)=true:=xj4 hlt
    repeat' ((refine yDn (by with_reducible constructor) ?_))
    (focus ((with_reducible apply d8 _ _ _ (by kernel_rfl) (by kernel_rfl) hS);(repeat' (first|(first|(with_reducible apply a1A);rfl;rfl;omega;omega;rfl|(with_reducible apply i9 a7);rfl;rfl|(with_reducible apply i7);rfl;(intro wd hd;replace hd:St _ _ wd _:=hd;(apply Ld.sc a7;rfl;(first|exact hd.blkC 1 rfl rfl|exact hd.rowC0 0 rfl (by assumption) rfl)));rfl|(with_reducible apply x7 a7);rfl;rfl;rfl;exact xo1 (by omega);omega;rfl|(first|(with_reducible apply a0p);(iterate 4 rfl);assumption|(with_reducible apply t8);rfl;assumption;rfl;rfl))|(with_reducible apply i7);rfl;(intro wd hd;replace hd:St _ _ wd _:=hd;(apply Ld.sl a7;rfl;exact hd.rowCj 5 rfl hrow1 rfl));rfl));all_goals ((with_reducible apply j7);intro w' hS';clear hS;have hS:=hS';clear hS')))
    (with_reducible apply a3t)
    (with_reducible apply a2a)
    repeat' (first|refine yDn (by with_reducible constructor) ?_|(with_reducible apply d9);rfl;assumption)
    (focus ((with_reducible apply a0b _ _ _ 14 (by kernel_rfl) (by kernel_rfl) hS);(simp only [xl4,xl5,xl8,xl9]);(repeat' (first|(first|(with_reducible apply a1A);rfl;rfl;omega;omega;rfl|(with_reducible apply i9 a7);rfl;rfl|(with_reducible apply i7);rfl;(intro wd hd;replace hd:St _ _ wd _:=hd;(apply Ld.st a7;rfl;exact hd.rowR 0 rfl (by assumption);rfl));rfl|(with_reducible apply x7 a7);rfl;rfl;rfl;(first|rfl|exact xo1 (by omega));omega;rfl)|(with_reducible apply i7);rfl;(intro wd hd;replace hd:St _ _ wd _:=hd;(apply Ld.sl a7;rfl;exact hd.rowCj 5 rfl hrow1 rfl));rfl));all_goals ((with_reducible apply j7);intro w' hS';clear hS;have hS:=hS';clear hS')))
    repeat' (first|(with_reducible apply a8 a7);rfl;rfl;rfl|(with_reducible apply a0h);rfl;rfl;omega;omega;rfl|refine yDn (by with_reducible constructor) ?_|(with_reducible apply q7 hS a7 (i:=0));(iterate 4 rfl);assumption;(iterate 5 rfl);intro w' hS';simp only [List.set] at hS';clear hS;have hS:=hS';clear hS')
    have hmv:((s.entries.take (i + 1)++h::s.entries.drop (i + 1)).map enC).set (i + 1) (p7 (enC h) 0 [.int .i64 y.page,.int .i64 y.kind,.int .i64 y.at_])=(s.entries.take i++y::s.entries.drop i).map enC:=by
     rw [<- b2q hy,<- a9z (h:=h) (x:=y) hi,xl3];exact congrArg (List.set _ _) (a33 h y)
    rw [hmv] at hS;rw [hsi];refine f7 (i,y) (by exact Fr.sub_of rfl) ⟨by show i<=s.entries.length;omega,fun j q hj hq=>?_⟩ hS (by show i < i + 1;omega);by_cases hji:j=i
    ·subst hji;have hyp:(j8 s.entries)[j]?=some y.page:=by unfold j8;rw [xh8,hy];rfl
     rw [hyp] at hq
     cases hq
     omega
    ·exact hge j q (by show i + 1<=j;have:i<=j:=hj;omega) hq
   ·have hd2:decide (epg < y.page)=false:=xj2 hlt;have hle:y.page<=epg:=by omega
    rw [a1D (fun j q hj hq=>by
     have hne:y.page≠epg:=fun h=>hnm (xm7.2 ⟨y,xd0 hy,h⟩);have hyp:(j8 s.entries)[i]?=some y.page:=by unfold j8;rw [xh8,hy];rfl
     by_cases hji:j=i
     ·subst hji;rw [hyp] at hq
      cases hq
      omega
     ·have:=hr.at_ (show j < i by omega) hq hyp;omega)]
    repeat' ((refine yDn (by with_reducible constructor) ?_))
    (focus ((with_reducible apply d8 _ _ _ (by kernel_rfl) (by kernel_rfl) hS);(repeat' (first|(first|(with_reducible apply a1A);rfl;rfl;omega;omega;rfl|(with_reducible apply i9 a7);rfl;rfl|(with_reducible apply i7);rfl;(intro wd hd;replace hd:St _ _ wd _:=hd;(apply Ld.sc a7;rfl;(first|exact hd.blkC 1 rfl rfl|exact hd.rowC0 0 rfl (by assumption) rfl)));rfl|(with_reducible apply x7 a7);rfl;rfl;rfl;exact xo1 (by omega);omega;rfl|(first|(with_reducible apply a0p);(iterate 4 rfl);assumption|(with_reducible apply t8);rfl;assumption;rfl;rfl))|(with_reducible apply i7);rfl;(intro wd hd;replace hd:St _ _ wd _:=hd;(apply Ld.sl a7;rfl;exact hd.rowCj 5 rfl hrow1 rfl));rfl));all_goals ((with_reducible apply j7);intro w' hS';clear hS;have hS:=hS';clear hS')))
    (with_reducible apply a3t)
    (with_reducible apply a2a)
    repeat' (first|refine yDn (by with_reducible constructor) ?_|(with_reducible apply f6);rfl;assumption)
    (focus ((with_reducible apply a0b _ _ _ 7 (by kernel_rfl) (by kernel_rfl) hS);(simp only [xl4,xl5,xl8,xl9]);(repeat' (first|(first|(with_reducible apply i9 a7);rfl;rfl|(with_reducible apply i7);rfl;(intro wd hd;replace hd:St _ _ wd _:=hd;(apply Ld.st a7;rfl;exact hd.blkR 1 rfl;rfl));rfl|(with_reducible apply x7 a7);rfl;rfl;rfl;rfl;omega;rfl)|(with_reducible apply i7);rfl;(intro wd hd;replace hd:St _ _ wd _:=hd;(apply Ld.sl a7;rfl;exact hd.rowCj 5 rfl hrow1 rfl));rfl));all_goals ((with_reducible apply j7);intro w' hS';clear hS;have hS:=hS';clear hS')))
    repeat' (first|refine yDn (by with_reducible constructor) ?_|(with_reducible apply q7 hS a7 (i:=0));(iterate 4 rfl);assumption;(iterate 5 rfl);intro w' hS';simp only [List.set] at hS';clear hS;have hS:=hS';clear hS')
    rw [hst] at hS
    (apply b0G;repeat ((exact ResL.nil)))
    exact ⟨rfl,_,hback _ _ _ hS⟩
 ·obtain ⟨hem,hep⟩:=y7 h0;have hm:epg ∈ j8 s.entries:=xm7.2 ⟨e,hem,hep⟩;have hlb:lbd (j8 s.entries) epg=i:=b1y hr (by unfold j8;rw [xh8,hi];exact congrArg some hep);have hpu:putE s.entries ⟨epg,ekd,eat⟩=s.entries.set i ⟨epg,ekd,eat⟩:=by unfold putE;rw [xf0 hm,hlb]
  rw [hpu];have hil:=b9 hi;obtain ⟨ge,hge⟩:=hS.rowSome (p:=pe) (n:=s.entries.length) (cap:=ce) (sz:=3) 0 rfl (by omega);subst hge;have hrowE:=c9 (f:=enC) hi;have hst:(s.entries.map enC).set i (p7 (enC e) 0 [.int .i64 epg,.int .i64 ekd,.int .i64 eat])=(s.entries.set i ⟨epg,ekd,eat⟩).map enC:=by
   rw [xl3];exact congrArg (List.set _ _) (a33 e ⟨epg,ekd,eat⟩)
  have hdi:decide (((0:Nat):Int)<=((i:Nat):Int))=true:=xj4 (by omega)
  repeat' (first|(with_reducible apply a8 a7);rfl;rfl;rfl|refine yDn (by with_reducible constructor) ?_|(with_reducible apply d9);rfl;rfl)
  (focus ((with_reducible apply a0b _ _ _ 7 (by kernel_rfl) (by kernel_rfl) hS);(simp only [xl4,xl5,xl8,xl9]);(repeat' (first|(first|(with_reducible apply i9 a7);rfl;rfl|(with_reducible apply i7);rfl;(intro wd hd;replace hd:St _ _ wd _:=hd;(apply Ld.st a7;rfl;exact hd.blkR 1 rfl;rfl));rfl|(with_reducible apply x7 a7);rfl;rfl;rfl;rfl;omega;rfl)|(with_reducible apply i7);rfl;(intro wd hd;replace hd:St _ _ wd _:=hd;(apply Ld.sl a7;rfl;exact hd.rowCj 5 rfl hrow rfl));rfl));all_goals ((with_reducible apply j7);intro w' hS';clear hS;have hS:=hS';clear hS')))
  repeat' (first|refine yDn (by with_reducible constructor) ?_|(with_reducible apply q7 hS a7 (i:=0));(iterate 4 rfl);assumption;(iterate 5 rfl);intro w' hS';simp only [List.set] at hS';clear hS;have hS:=hS';clear hS')
  rw [hst] at hS
  (refine b2I rfl ?_)
  refine ⟨rfl,.slice (some ⟨ge,0,none⟩) s.entries.length ce,hback _ (s.entries.set i ⟨epg,ekd,eat⟩) _ ?_⟩;rw [a2u hx];exact hS
structure RLike (k k':KV):Prop where
 like:KLike k k'
 vfr:k'.vfr=k.vfr
 vsl:k'.vsl=k.vsl
 vsp:k'.vsp=k.vsp
theorem RLike.refl (k:KV):RLike k k:=⟨KLike.refl k,rfl,rfl,rfl⟩
theorem RLike.trans {a b c:KV} (h:RLike a b) (h2:RLike b c):RLike a c:=⟨h.like.trans h2.like,h2.vfr.trans h.vfr,h2.vsl.trans h.vsl,h2.vsp.trans h.vsp⟩
theorem a8J {l:List Sw} {t j:Nat} {s:Sw} (h:a17 l=some t) (hj:j < t) (hs:l[j]?=some s):s.refs≠0:=by
 unfold a17 at h;rw [xl2] at h;obtain ⟨h1,h2,h3⟩:=h;have h4:=h3 j hj;rw [xe1 (by omega)] at hs
 cases hs
 exact fun h5=>h4 (xj4 h5)
def sAt:Option Nat->Int
 |some t=>(t:Nat)
 |none=>-1
theorem b1W {F:Nat->Prop} {w0 w:World} {Γ:List Asr} {g0:Nat} {k:KV} (hS0:St F w0 w (rkS g0 k++Γ)) {f:Nat} (hA:b0V k f):Fn Tryz.prog 155 [.pointer (some ⟨g0,0,none⟩),.int .i64 (f:Nat)] w (fun v w'=>v=.tuple #[]/\∃ k',k'.K=t4 k.K f/\RLike k k'/\St (fps (rkS g0 k)) w w' (rkS g0 k')):=by
 have hS:=St.startM hS0;obtain ⟨hfl,hfree,hlen,hkd,hspl⟩:=hA;generalize fps (rkS g0 k)=G at hS |-;obtain ⟨sh,fr,sl,sps,hand,vsh,vfr,vsl,vsp⟩:=k;dsimp only at hfl hfree hlen hkd hspl;obtain ⟨fm,hfm⟩:=j3 (l:=fr) (i:=f) (by omega);have hrow:=c9 (f:=fmC) hfm;rw [o3 hfm] at hfree;unfold rkS kvC frA slA a08 at hS;dsimp only [List.cons_append,List.nil_append] at hS;obtain ⟨pf,cf,rfl⟩:=hS.rowSlice 1 rfl;rw [xj1] at hS;obtain ⟨gf,rfl⟩:=hS.rowSome 1 rfl (by omega);obtain ⟨psl,csl,rfl⟩:=hS.rowSlice 2 rfl;rw [xj1] at hS;obtain ⟨psp,csp,rfl⟩:=hS.rowSlice 3 rfl;rw [xj1] at hS;unfold fmC at hrow;obtain ⟨aT,haT⟩:∃ o,o=a0q (⟨sh,fr,sl,sps,hand,vsh,.slice (some ⟨gf,0,none⟩) fr.length cf,.slice psl sl.length csl,.slice psp sps.length csp⟩:KV).K f:=⟨_,rfl⟩;have haT2:aT=if fm.dirty then some ((a17 sl).getD 0) else none:=by
  rw [haT];unfold a0q KV.K;dsimp only;rw [o3 hfm]
 have hb2:=(hS.rowSl 2 rfl).bound;simp only [xj1];refine yEn Tryz.func155 Tryz.ntmps155 (by kernel_rfl) (by kernel_rfl) rfl rfl ?_
 repeat' (first|(with_reducible apply a8 a7);rfl;rfl;rfl|(with_reducible apply a9);rfl;(apply Ld.sl a7;rfl;exact hS.blkC 0 rfl rfl);rfl|(with_reducible apply a0h);rfl;rfl;omega;omega;rfl|(with_reducible first|apply a2T|apply a2X|apply a3t|apply a2a))
 refine a1H (F:=G) (w0:=w) (X:=Int) (fun x=>[(0,.pointer (some ⟨g0,0,none⟩)),(1,.int .i64 (f:Nat)),(4,.int .i64 x)]) (fun _=>[.blk g0 [vsh,.slice (some ⟨gf,0,none⟩) fr.length cf,.slice psl sl.length csl,.slice psp sps.length csp,.int .i64 hand],.row 89 4 (.slice (some ⟨gf,0,none⟩) fr.length cf) (fr.map fmC),.row 143 2 (.slice psl sl.length csl) (sl.map swC),.row 75 3 (.slice psp sps.length csp) (sps.map spC)]++sps.map a0j) (fun x=>x=sAt aT) ?_ ?_
 ·cases hd:fm.dirty with
  |false=>
   rw [hd,xf1 (by simp)] at haT2;rw [hd] at hrow
   repeat' ((refine yDn (by with_reducible constructor) ?_))
   refine l7 (X:=Unit) (fun _=>[]) [0,1,4,5] rfl (fun _=>[]) (fun _=>True) (fun _=>0) () (by exact Fr.sub_of rfl) trivial hS ?_;clear hS;rintro _ w1 - hS;dsimp only [List.cons_append,List.nil_append] at hS |-;by_cases h0:(0:Int)<=(sl.length:Int) - 1
   ·have hd1:decide ((0:Int)<=(sl.length:Int) - 1)=true:=xj4 h0
    repeat' (first|(with_reducible apply a8 a7);rfl;rfl;rfl|(with_reducible apply a9);rfl;(first|apply Ld.sc a7;rfl;exact hS.rowCj 1 rfl (by assumption) rfl|apply Ld.sl a7;rfl;exact hS.blkC 0 rfl rfl);rfl|(with_reducible apply l9 a7);rfl;rfl;rfl;rfl;omega;rfl|refine yDn (by with_reducible constructor) ?_|(with_reducible apply j5);(iterate 4 rfl);assumption|(with_reducible apply e9);rfl;assumption;rfl;rfl|(with_reducible apply f6);rfl;rfl)
    exact r6 (-1) (by exact Fr.sub_of rfl) (by rw [haT2];rfl) hS
   ·have hd1:decide ((0:Int)<=(sl.length:Int) - 1)=false:=xj2 h0
    repeat' (first|(with_reducible apply a8 a7);rfl;rfl;rfl|refine yDn (by with_reducible constructor) ?_|(with_reducible apply s9);(iterate 4 rfl);assumption;rfl|(with_reducible apply f5);rfl;assumption;rfl;rfl|(with_reducible apply f6);rfl;rfl)
    exact r6 (-1) (by exact Fr.sub_of rfl) (by rw [haT2];rfl) hS
  |true=>
   obtain ⟨t,ht⟩:=hfree hd;rw [hd,xf0 rfl,ht] at haT2;rw [hd] at hrow;obtain ⟨s0,hs0,hs1⟩:=a2k ht;have htl:=b9 hs0
   repeat' ((refine yDn (by with_reducible constructor) ?_))
   refine l7 (X:=Nat×Int) (fun x=>[(4,.int .i64 x.2),(5,.int .i64 ((x.1:Nat) - 1:Int))]) [0,1] rfl (fun _=>[]) (fun x=>x.1<=sl.length/\(x.1<=t->x.2=(t:Nat))) (fun x=>x.1) (sl.length,-1) (by exact Fr.sub_of rfl) ⟨xd4 _,fun h=>by have:sl.length<=t:=h;omega⟩ hS ?_;clear hS;rintro ⟨n,s⟩ w1 ⟨hn,hst⟩ hS;dsimp only [List.cons_append,List.nil_append] at hn hst hS |-
   cases n with
   |zero=>
    have hd1:decide ((0:Int)<=((0:Nat):Int) - 1)=false:=rfl
    repeat' (first|(with_reducible apply a8 a7);rfl;rfl;rfl|refine yDn (by with_reducible constructor) ?_|(with_reducible apply s9);(iterate 4 rfl);rfl;rfl|(with_reducible apply f5);rfl;rfl;rfl;rfl|(with_reducible apply f6);rfl;rfl)
    exact r6 s (by exact Fr.sub_of rfl) (by rw [haT2];exact hst (xg6 _)) hS
   |succ m=>
    have e5:((m + 1:Nat):Int) - 1=((m:Nat):Int):=by omega
    rw [e5];have hd1:decide ((0:Int)<=((m:Nat):Int))=true:=xj4 (by omega);obtain ⟨sm,hsm⟩:=j3 (l:=sl) (i:=m) (by omega);have hrowS:=c9 (f:=swC) hsm;unfold swC at hrowS;obtain ⟨gsl,hgs⟩:=hS.rowSome 2 rfl (by omega);subst hgs;by_cases h0:sm.refs=0
    ·have hd0:decide (sm.refs=0)=true:=xj4 h0
     repeat' (first|(with_reducible apply a8 a7);rfl;rfl;rfl|(with_reducible apply a9);rfl;(first|apply Ld.sc a7;rfl;(first|exact hS.rowCj 1 rfl (by assumption) rfl|exact hS.rowCj 2 rfl (by assumption) rfl)|apply Ld.sl a7;rfl;exact hS.blkC 0 rfl rfl);rfl|(with_reducible apply l9 a7);rfl;rfl;rfl;rfl;omega;rfl|(with_reducible apply a0h);rfl;rfl;omega;omega;rfl|refine yDn (by with_reducible constructor) ?_|(with_reducible apply j5);(iterate 4 rfl);rfl|(with_reducible apply e9);rfl;rfl;rfl;rfl|((with_reducible apply d9);rfl;first|rfl|assumption))
     refine f7 (m,((m:Nat):Int)) (by exact Fr.sub_of rfl) ⟨by show m<=sl.length;omega,fun h=>?_⟩ hS (by show m < m + 1;omega);have h:m<=t:=h;by_cases hmt:m=t
     ·rw [hmt]
     ·exact absurd h0 (a8J ht (by omega) hsm)
    ·have hd0:decide (sm.refs=0)=false:=xj2 h0
     repeat' (first|(with_reducible apply a8 a7);rfl;rfl;rfl|(with_reducible apply a9);rfl;(first|apply Ld.sc a7;rfl;(first|exact hS.rowCj 1 rfl (by assumption) rfl|exact hS.rowCj 2 rfl (by assumption) rfl)|apply Ld.sl a7;rfl;exact hS.blkC 0 rfl rfl);rfl|(with_reducible apply l9 a7);rfl;rfl;rfl;rfl;omega;rfl|(with_reducible apply a0h);rfl;rfl;omega;omega;rfl|refine yDn (by with_reducible constructor) ?_|(with_reducible apply j5);(iterate 4 rfl);rfl|(with_reducible apply e9);rfl;rfl;rfl;rfl|(with_reducible apply d9);rfl;rfl|(with_reducible apply f6);rfl;assumption)
     refine f7 (m,s) (by exact Fr.sub_of rfl) ⟨by show m<=sl.length;omega,fun h=>?_⟩ hS (by show m < m + 1;omega);have h:m<=t:=h;by_cases hmt:m=t
     ·subst hmt;rw [hsm] at hs0
      cases hs0
      exact absurd hs1 h0
     ·exact hst (by omega)
 clear hS;rintro _ w1 rfl hS;dsimp only [List.cons_append,List.nil_append] at hS;obtain ⟨T,hT⟩:∃ T:Option Int,T=aT.map fun (t:Nat)=>(t:Int):=⟨_,rfl⟩
 repeat' (first|(with_reducible apply a8 a7);rfl;rfl;rfl|refine yDn (by with_reducible constructor) ?_)
 refine l7 (F:=G) (w0:=w) (X:=Nat×List Sp) (fun x=>[(6,.int .i64 (x.1:Nat))]) [0,1,4] rfl (fun x=>[.blk g0 [vsh,.slice (some ⟨gf,0,none⟩) fr.length cf,.slice psl sl.length csl,.slice psp sps.length csp,.int .i64 hand],.row 89 4 (.slice (some ⟨gf,0,none⟩) fr.length cf) (fr.map fmC),.row 143 2 (.slice psl sl.length csl) (sl.map swC),.row 75 3 (.slice psp sps.length csp) (x.2.map spC)]++x.2.map a0j) (Γ:=[]) (fun x=>x.1<=sps.length/\x.2.length=sps.length/\∀ (j:Nat) y,sps[j]?=some y->(x.1<=j->x.2[j]?=some y)/\(j < x.1->∃ ve',x.2[j]?=some ⟨y6 (f:Nat) T y.s,y.va,ve'⟩)) (fun x=>sps.length - x.1) (0,sps) (by exact Fr.sub_of rfl) ⟨xg6 _,rfl,fun j y hy=>⟨fun _=>hy,fun h=>by have:j < 0:=h;omega⟩⟩ (by rw [List.append_nil];exact hS) ?_;clear hS;rintro ⟨i,SPS⟩ w2 ⟨hi,hSl,hinv⟩ hS;dsimp only [List.cons_append,List.nil_append] at hi hSl hinv hS |-;rw [List.append_nil] at hS;by_cases hlt:i < sps.length;rotate_left
 ·obtain rfl:i=sps.length:=by omega
  have hinv2:∀ (j:Nat) y,sps[j]?=some y->∃ ve',SPS[j]?=some ⟨y6 (f:Nat) T y.s,y.va,ve'⟩:=fun j y hy=>(hinv j y hy).2 (b9 hy);have hfs:(fr.map fmC).set f (p7 [.string ⟨fm.data.toArray⟩,.int .i64 fm.refs,.bool fm.dirty,.bool fm.seen] 0 [.string ⟨#[]⟩,.int .i64 0,.bool false,.bool false])=(fr.set f fm0).map fmC:=by
   rw [xl3];rfl
  have hfin:∀ sl' w3,sl'=slT aT sl ⟨fm.data,fm.refs⟩->sl'.length=sl.length->St G w w3 (.blk g0 [vsh,.slice (some ⟨gf,0,none⟩) fr.length cf,.slice psl sl.length csl,.slice psp sps.length csp,.int .i64 hand]::.row 89 4 (.slice (some ⟨gf,0,none⟩) fr.length cf) ((fr.set f fm0).map fmC)::.row 143 2 (.slice psl sl.length csl) (sl'.map swC)::.row 75 3 (.slice psp sps.length csp) (SPS.map spC)::SPS.map a0j)->∃ k',k'.K=t4 (KV.K ⟨sh,fr,sl,sps,hand,vsh,.slice (some ⟨gf,0,none⟩) fr.length cf,.slice psl sl.length csl,.slice psp sps.length csp⟩) f/\RLike ⟨sh,fr,sl,sps,hand,vsh,.slice (some ⟨gf,0,none⟩) fr.length cf,.slice psl sl.length csl,.slice psp sps.length csp⟩ k'/\St G w w3 (rkS g0 k'):=by
   intro sl' w3 hsl' hsll h;refine ⟨⟨sh,fr.set f fm0,sl',SPS,hand,vsh,.slice (some ⟨gf,0,none⟩) fr.length cf,.slice psl sl.length csl,.slice psp sps.length csp⟩,?_,⟨⟨rfl,rfl,?_⟩,rfl,rfl,rfl⟩,?_⟩
   ·unfold KV.K t4;have h1:SPS.map (·.s)=(sps.map (·.s)).map (y6 (f:Nat) T):=by
     refine xh3 fun j=>?_;rw [xh8,xh8,xh8]
     cases hj:sps[j]? with
     |none=>
      rw [xn2] at hj;rw [xi0 (by omega)];rfl
     |some y=>
      obtain ⟨ve',h⟩:=hinv2 j y hj;rw [h];rfl
    dsimp only;rw [h1,hsl',hT];have h2:a0q (⟨shs sh,fr,sl,sps.map (·.s),hand⟩:Ker) f=aT:=by rw [haT];rfl
    rw [h2,o3 hfm]
    cases aT <;> rfl
   ·show (SPS.map fun p=>(p.va,p.s.areas))=sps.map fun p=>(p.va,p.s.areas);refine xh3 fun j=>?_;rw [xh8,xh8]
    cases hj:sps[j]? with
    |none=>
     rw [xn2] at hj;rw [xi0 (by omega)]
    |some y=>
     obtain ⟨ve',h⟩:=hinv2 j y hj;rw [h];rfl
   ·exact h
  cases hA:aT with
  |none=>
   have hd4:decide ((0:Int)<=sAt none)=false:=rfl
   repeat' (first|(with_reducible apply a8 a7);rfl;rfl;rfl|(with_reducible apply a9);rfl;(apply Ld.sl a7;rfl;exact hS.blkC 0 rfl rfl);rfl|(with_reducible apply l9 a7);rfl;rfl;rfl;rfl;omega;rfl|(with_reducible apply l4 a7);rfl;rfl;exact (rfl:_=some [_,_,_,_]);rfl|refine yDn (by with_reducible constructor) ?_|(with_reducible apply f6);rfl;rfl|(with_reducible apply d5);rfl;all_goals (intro hb hp;try (exfalso;omega))|(with_reducible apply q7 hS a7 (i:=1));(iterate 4 rfl);assumption;(iterate 5 rfl);intro w' hS';simp only [List.set] at hS';clear hS;have hS:=hS';clear hS')
   (refine a56 rfl ?_)
   rw [hfs] at hS;exact ⟨rfl,hfin sl _ (by rw [hA];rfl) rfl hS⟩
  |some t=>
   have htl:t < sl.length:=by
    rw [hA] at haT2
    cases hd:fm.dirty with
    |false=>rw [hd] at haT2;simp at haT2
    |true=>
     obtain ⟨t',ht'⟩:=hfree hd;rw [hd,xf0 rfl,ht'] at haT2;injection haT2 with e
     obtain ⟨s0,hs0,-⟩:=a2k ht';rw [e];exact b9 hs0
   obtain ⟨s0,hs0⟩:=j3 (l:=sl) (i:=t) (by omega);have hd4:decide ((0:Int)<=sAt (some t))=true:=xj4 (by show (0:Int)<=((t:Nat):Int);omega);have hrowS:=c9 (f:=swC) hs0;obtain ⟨gsl,rfl⟩:=hS.rowSome 2 rfl (by omega);have est:(sl.map swC).set t (p7 (swC s0) 0 [.string ⟨fm.data.toArray⟩,.int .i64 fm.refs])=(sl.set t ⟨fm.data,fm.refs⟩).map swC:=by
    rw [xl3];exact congrArg (List.set _ _) (b1h s0 ⟨fm.data,fm.refs⟩)
   have e4:sAt (some t)=((t:Nat):Int):=rfl;rw [e4] at hd4 |-
   repeat' (first|(with_reducible apply a8 a7);rfl;rfl;rfl|(with_reducible apply a9);rfl;(apply Ld.sl a7;rfl;exact hS.blkC 0 rfl rfl);rfl|refine yDn (by with_reducible constructor) ?_|(with_reducible apply d9);rfl;rfl|(with_reducible apply d5);rfl;all_goals (intro hb hp;try (exfalso;omega)))
   (focus ((with_reducible apply a0b _ _ _ 23 (by kernel_rfl) (by kernel_rfl) hS);(simp only [xl4,xl5,xl8,xl9]);(repeat' ((first|(with_reducible apply i9 a7);rfl;rfl|(with_reducible apply i7);rfl;(intro wd hd;replace hd:St _ _ wd _:=hd;(first|apply Ld.sc a7;rfl;(first|exact hd.rowC0 1 rfl (by assumption) rfl|exact hd.rowCj 1 rfl (by assumption) rfl)|apply Ld.sl a7;rfl;exact hd.blkC 0 rfl rfl));rfl|(with_reducible apply x7 a7);rfl;rfl;rfl;rfl;omega;rfl|(with_reducible apply a1W a7);rfl;rfl;exact (rfl:_=some [_,_]);rfl)));all_goals ((with_reducible apply j7);intro w' hS';clear hS;have hS:=hS';clear hS')))
   repeat' (first|(with_reducible apply a8 a7);rfl;rfl;rfl|(with_reducible apply a9);rfl;(apply Ld.sl a7;rfl;exact hS.blkC 0 rfl rfl);rfl|(with_reducible apply l9 a7);rfl;rfl;rfl;rfl;omega;rfl|(with_reducible apply l4 a7);rfl;rfl;exact (rfl:_=some [_,_,_,_]);rfl|refine yDn (by with_reducible constructor) ?_|(with_reducible apply q7 hS a7 (i:=2));(iterate 4 rfl);assumption;(iterate 5 rfl);intro w' hS';simp only [List.set] at hS';clear hS;have hS:=hS';clear hS')
   rw [est] at hS
   repeat' (first|refine yDn (by with_reducible constructor) ?_|(with_reducible apply q7 hS a7 (i:=1));(iterate 4 rfl);assumption;(iterate 5 rfl);intro w' hS';simp only [List.set] at hS';clear hS;have hS:=hS';clear hS')
   (refine a56 rfl ?_)
   rw [hfs] at hS;exact ⟨rfl,hfin (sl.set t ⟨fm.data,fm.refs⟩) _ (by rw [hA];rfl) xa8 hS⟩
 obtain ⟨x,hx0⟩:=j3 (l:=sps) (i:=i) (by omega);have hx:=(hinv i x hx0).1 (xd4 _);have hlx:=hlen x (xd0 hx0);have hrowi:=c9 (f:=spC) hx;obtain ⟨gs,rfl⟩:=hS.rowSome 3 rfl (by omega);obtain ⟨s,va,ve⟩:=x;dsimp only at hlx;unfold spC at hrowi;dsimp only at hrowi;replace hS:=hS.pullE 4 hx rfl;simp only [xl4,xl5,v7] at hS;unfold a0j at hS;dsimp only at hS;obtain ⟨pe,ce,rfl⟩:=hS.rowSlice 0 rfl;simp only [xj1] at hS hx0 hx hrowi;replace hS:=hS.addNil 91 3
 repeat' (first|(with_reducible apply a8 a7);rfl;rfl;rfl|(with_reducible apply a9);rfl;(apply Ld.sl a7;rfl;exact hS.blkC 2 rfl rfl);rfl|refine yDn (by with_reducible constructor) ?_|(with_reducible apply d5);rfl;all_goals (intro hb hp;try (exfalso;omega)))
 obtain ⟨M,hM⟩:∃ M:Nat->List En,M=fun j=>(s.entries.take j).filterMap (o4 (f:Nat) T):=⟨_,rfl⟩;have hMl:∀ j,(M j).length<=s.entries.length:=fun j=>by
  rw [hM];exact xd5 (List.length_filterMap_le _ _) (List.length_take_le' _ _)
 have hM0:M 0=[]:=by rw [hM];rfl
 have hMs:∀ j e,s.entries[j]?=some e->M (j + 1)=M j++(o4 (f:Nat) T e).toList:=fun j e he=>by
  rw [hM];dsimp only;rw [q9 he,List.filterMap_append,xn1,List.filterMap_nil]
  cases o4 (f:Nat) T e <;> rfl
 have hMn:M s.entries.length=s.entries.filterMap (o4 (f:Nat) T):=by rw [hM];dsimp only;rw [xg8]
 clear hM;refine l7 (X:=Option Addr×Nat×Nat) (fun x=>[(7,.slice x.1 (M x.2.2).length x.2.1),(8,.int .i64 (x.2.2:Nat))]) [0,1,4,6] rfl (fun x=>[.row 91 3 (.slice x.1 (M x.2.2).length x.2.1) ((M x.2.2).map enC)]) (fun x=>x.2.2<=s.entries.length) (fun x=>s.entries.length - x.2.2) (none,0,0) (by dsimp only;rw [hM0];exact Fr.sub_of rfl) (xg6 _) (by dsimp only;rw [hM0];exact hS) ?_;clear hS;rintro ⟨pm,cm,j⟩ w3 hj hS;dsimp only [List.cons_append,List.nil_append] at hj hS |-;have hMj:=hMl j;by_cases hjl:j < s.entries.length
 ·obtain ⟨e,he⟩:=j3 (l:=s.entries) (i:=j) (by omega);have hrowj:=c9 (f:=enC) he;have hMse:=hMs j e he;obtain ⟨ge,hge⟩:=hS.rowSome (p:=pe) (n:=s.entries.length) (cap:=ce) (sz:=3) 1 rfl (by omega);subst hge;unfold enC at hrowj;have hadd:∀ e2:En,o4 (f:Nat) T e=some e2->(M (j + 1)).length=(M j).length + 1/\(M (j + 1)).map enC=(M j).map enC++[enC e2]:=fun e2 h=>by
   rw [hMse,h];simp [xe9,xl7]
  by_cases hk1:e.kind=1
  ·have hd1:decide (e.kind=1)=true:=xj4 hk1;by_cases hka:e.at_=(f:Nat)
   ·have hd2:decide (e.at_=((f:Nat):Int))=true:=xj4 hka;have has:o4 (f:Nat) T e=T.map (fun s=>(⟨e.page,2,s⟩:En)):=by unfold o4;rw [xf0 ⟨hk1,hka⟩]
    cases hA:aT with
    |none=>
     have hd4:decide (sAt none < (0:Int))=true:=rfl;have hT2:T=none:=by rw [hT,hA];rfl
     have has2:o4 (f:Nat) T e=none:=by rw [has,hT2];rfl
     rw [has2] at hMse;replace hMse:M (j + 1)=M j:=by rw [hMse];exact List.append_nil _
     repeat' (first|(with_reducible apply a8 a7);rfl;rfl;rfl|(with_reducible apply a9);rfl;(first|apply Ld.sc a7;rfl;exact hS.blkC 0 rfl rfl|apply Ld.sl a7;rfl;exact hS.blkC 2 rfl rfl|apply Ld.st a7;rfl;exact hS.rowR 1 rfl (by assumption);rfl);rfl|(with_reducible apply l9 a7);rfl;rfl;rfl;rfl;omega;rfl|(with_reducible apply j0);rfl;rfl;omega;omega;rfl|refine yDn (by with_reducible constructor) ?_|(with_reducible apply j5);(iterate 4 rfl);assumption|(with_reducible apply e9);rfl;assumption;rfl;rfl|((with_reducible apply d9);rfl;first|rfl|assumption)|(with_reducible apply d7 hS a7);rfl;rfl;rfl;clear hS;intro g w' hS|(with_reducible apply b8 hS a7 (i:=0));(iterate 8 rfl);exact (rfl:_=[_,_,_]);clear hS;intro w' hS;simp only [List.set] at hS|(with_reducible apply d5);rfl;all_goals (intro hb hp;try (exfalso;omega))|(with_reducible apply a9);rfl;(apply Ld.sl a7;rfl;exact hS.rowCj 5 rfl hrowi rfl);rfl)
     refine f7 (pm,cm,j + 1) (by dsimp only;rw [hMse];exact Fr.sub_of rfl) (by show j + 1<=s.entries.length;omega) (by dsimp only;rw [hMse];exact hS.drop) (by show s.entries.length - (j + 1) < s.entries.length - j;omega)
    |some t=>
     have hd4:decide (((t:Nat):Int) < (0:Int))=false:=xj2 (by omega);have e4:sAt (some t)=((t:Nat):Int):=rfl;rw [e4];have hT2:T=some ((t:Nat):Int):=by rw [hT,hA];rfl
     obtain ⟨ha1,ha2⟩:=hadd ⟨e.page,2,(t:Nat)⟩ (by rw [has,hT2];rfl)
     repeat' (first|(with_reducible apply a8 a7);rfl;rfl;rfl|(with_reducible apply a9);rfl;(first|apply Ld.sc a7;rfl;exact hS.blkC 0 rfl rfl|apply Ld.sl a7;rfl;exact hS.blkC 2 rfl rfl|apply Ld.st a7;rfl;(first|exact hS.blkR 0 rfl|exact hS.rowR 1 rfl (by assumption));rfl);rfl|(with_reducible apply l9 a7);rfl;rfl;rfl;rfl;omega;rfl|(with_reducible apply j0);rfl;rfl;omega;omega;rfl|(with_reducible apply l4 a7);rfl;rfl;exact (rfl:_=some [_,_,_]);rfl|refine yDn (by with_reducible constructor) ?_|(with_reducible apply j5);(iterate 4 rfl);assumption|(with_reducible apply e9);rfl;assumption;rfl;rfl|(with_reducible apply d9);rfl;assumption|(with_reducible apply f6);rfl;rfl|(with_reducible apply d7 hS a7);rfl;rfl;rfl;clear hS;intro g w' hS|(with_reducible apply a0S hS a7);(iterate 7 rfl);clear hS;intro g w' hS|(with_reducible apply b8 hS a7 (i:=0));(iterate 8 rfl);exact (rfl:_=[_,_,_]);clear hS;intro w' hS;simp only [List.set] at hS|(with_reducible apply d5);rfl;all_goals (intro hb hp;try (exfalso;omega))|(with_reducible apply a9);rfl;(apply Ld.sl a7;rfl;exact hS.rowCj 5 rfl hrowi rfl);rfl|(with_reducible apply a2t hS a7 2);(iterate 4 rfl);exact hS.rowRo 0 rfl;rfl;(simp only [xj1,xb1,xa2,xe9];omega);rfl;intro p' cap' w' hS';simp only [List.set] at hS';clear hS;have hS:=hS';clear hS')
     rw [xj1] at hS |-;refine f7 (p',cap',j + 1) (by dsimp only;rw [ha1];exact Fr.sub_of rfl) (by show j + 1<=s.entries.length;omega) (by dsimp only;rw [ha1,ha2];exact hS.drop.drop) (by show s.entries.length - (j + 1) < s.entries.length - j;omega)
   ·have hd2:decide (e.at_=((f:Nat):Int))=false:=xj2 hka;obtain ⟨ha1,ha2⟩:=hadd e (by unfold o4;rw [xf1 (fun h=>hka h.2)])
    repeat' (first|(with_reducible apply a8 a7);rfl;rfl;rfl|(with_reducible apply a9);rfl;(first|apply Ld.sc a7;rfl;exact hS.blkC 0 rfl rfl|apply Ld.sl a7;rfl;exact hS.blkC 2 rfl rfl|apply Ld.st a7;rfl;(first|exact hS.blkR 0 rfl|exact hS.rowR 1 rfl (by assumption));rfl);rfl|(with_reducible apply l9 a7);rfl;rfl;rfl;rfl;omega;rfl|(with_reducible apply j0);rfl;rfl;omega;omega;rfl|refine yDn (by with_reducible constructor) ?_|(with_reducible apply j5);(iterate 4 rfl);assumption|(with_reducible apply e9);rfl;assumption;rfl;rfl|(with_reducible apply f6);rfl;assumption|(with_reducible apply d7 hS a7);rfl;rfl;rfl;clear hS;intro g w' hS|(with_reducible apply a0S hS a7);(iterate 7 rfl);clear hS;intro g w' hS|(with_reducible apply b8 hS a7 (i:=0));(iterate 8 rfl);exact (rfl:_=[_,_,_]);clear hS;intro w' hS;simp only [List.set] at hS|(with_reducible apply d5);rfl;all_goals (intro hb hp;try (exfalso;omega))|(with_reducible apply a9);rfl;(apply Ld.sl a7;rfl;exact hS.rowCj 5 rfl hrowi rfl);rfl|(with_reducible apply a2t hS a7 2);(iterate 4 rfl);exact hS.rowRo 0 rfl;rfl;(simp only [xj1,xb1,xa2,xe9];omega);rfl;intro p' cap' w' hS';simp only [List.set] at hS';clear hS;have hS:=hS';clear hS')
    rw [xj1] at hS |-;refine f7 (p',cap',j + 1) (by dsimp only;rw [ha1];exact Fr.sub_of rfl) (by show j + 1<=s.entries.length;omega) (by dsimp only;rw [ha1,ha2];exact hS.drop.drop) (by show s.entries.length - (j + 1) < s.entries.length - j;omega)
  ·have hd1:decide (e.kind=1)=false:=xj2 hk1;obtain ⟨ha1,ha2⟩:=hadd e (by unfold o4;rw [xf1 (fun h=>hk1 h.1)])
   repeat' (first|(with_reducible apply a8 a7);rfl;rfl;rfl|(with_reducible apply a9);rfl;(first|apply Ld.sc a7;rfl;exact hS.blkC 0 rfl rfl|apply Ld.sl a7;rfl;exact hS.blkC 2 rfl rfl|apply Ld.st a7;rfl;(first|exact hS.blkR 0 rfl|exact hS.rowR 1 rfl (by assumption));rfl);rfl|(with_reducible apply l9 a7);rfl;rfl;rfl;rfl;omega;rfl|(with_reducible apply j0);rfl;rfl;omega;omega;rfl|refine yDn (by with_reducible constructor) ?_|(with_reducible apply s9);(iterate 4 rfl);assumption;rfl|(with_reducible apply f5);rfl;assumption;rfl;rfl|(with_reducible apply f6);rfl;rfl|(with_reducible apply d7 hS a7);rfl;rfl;rfl;clear hS;intro g w' hS|(with_reducible apply a0S hS a7);(iterate 7 rfl);clear hS;intro g w' hS|(with_reducible apply b8 hS a7 (i:=0));(iterate 8 rfl);exact (rfl:_=[_,_,_]);clear hS;intro w' hS;simp only [List.set] at hS|(with_reducible apply d5);rfl;all_goals (intro hb hp;try (exfalso;omega))|(with_reducible apply a9);rfl;(apply Ld.sl a7;rfl;exact hS.rowCj 5 rfl hrowi rfl);rfl|(with_reducible apply a2t hS a7 2);(iterate 4 rfl);exact hS.rowRo 0 rfl;rfl;(simp only [xj1,xb1,xa2,xe9];omega);rfl;intro p' cap' w' hS';simp only [List.set] at hS';clear hS;have hS:=hS';clear hS')
   rw [xj1] at hS |-;refine f7 (p',cap',j + 1) (by dsimp only;rw [ha1];exact Fr.sub_of rfl) (by show j + 1<=s.entries.length;omega) (by dsimp only;rw [ha1,ha2];exact hS.drop.drop) (by show s.entries.length - (j + 1) < s.entries.length - j;omega)
 ·obtain rfl:j=s.entries.length:=by omega
  rw [hMn] at hS |-
  repeat' (first|(with_reducible apply a8 a7);rfl;rfl;rfl|(with_reducible apply a9);rfl;(apply Ld.sl a7;rfl;exact hS.blkC 2 rfl rfl);rfl|(with_reducible apply l9 a7);rfl;rfl;rfl;rfl;omega;rfl|(with_reducible apply j0);rfl;rfl;omega;omega;rfl|refine yDn (by with_reducible constructor) ?_|(with_reducible apply d5);rfl;all_goals (intro hb hp;try (exfalso;omega))|(with_reducible apply a9);rfl;(apply Ld.sl a7;rfl;exact hS.rowCj 5 rfl hrowi rfl);rfl|(with_reducible apply t9 hS a7 (i:=5));(iterate 4 rfl);assumption;(iterate 5 rfl);intro w' hS';simp only [List.set] at hS';clear hS;have hS:=hS';clear hS')
  have hsp1:(SPS.map spC).set i (p7 [.bool s.live,va,.slice pe s.entries.length ce] 2 [.slice pm (s.entries.filterMap (o4 (f:Nat) T)).length cm])=(SPS.set i ⟨y6 (f:Nat) T s,va,.slice pm (s.entries.filterMap (o4 (f:Nat) T)).length cm⟩).map spC:=by
   rw [xl3];rfl
  rw [hsp1] at hS;replace hS:=hS.reorderT 6 [0,2,3,4,5] (by decide) rfl;simp only [v7,xl8,xl9] at hS;replace hS:=St.pushE (y:=⟨y6 (f:Nat) T s,va,.slice pm (s.entries.filterMap (o4 (f:Nat) T)).length cm⟩) hS 4 hx rfl;simp only [xl4,xl5,v7] at hS;refine f7 (i + 1,SPS.set i ⟨y6 (f:Nat) T s,va,.slice pm (s.entries.filterMap (o4 (f:Nat) T)).length cm⟩) (by exact Fr.sub_of rfl) ⟨by show i + 1<=sps.length;omega,by show (SPS.set i _).length=_;rw [xa8];exact hSl,fun j y hy=>?_⟩ (by rw [List.append_nil];exact hS) (by show sps.length - (i + 1) < sps.length - i;omega);obtain ⟨h1,h2⟩:=hinv j y hy;refine ⟨fun h=>?_,fun h=>?_⟩
  ·show (SPS.set i _)[j]?=some y;rw [xn3 (by have:i + 1<=j:=h;omega)];exact h1 (by have:i + 1<=j:=h;omega)
  ·show ∃ ve',(SPS.set i _)[j]?=_;by_cases hij:i=j
   ·subst hij;rw [hx0] at hy
    cases hy
    exact ⟨_,a2K (by omega)⟩
   ·rw [xn3 hij];exact h2 (by have:j < i + 1:=h;omega)
theorem b17 {n h:Nat} (hh:h < n):(((h:Nat):Int) + 1).tmod ((n:Nat):Int)=((v9 n h:Nat):Int):=by
 unfold v9;by_cases hn:h + 1=n
 ·rw [xf0 hn,<- hn,show ((h:Nat):Int) + 1=((h + 1:Nat):Int) by omega,Int.tmod_self];rfl
 ·rw [xf1 hn,show ((h:Nat):Int) + 1=((h + 1:Nat):Int) by omega];exact Int.tmod_eq_of_lt (by omega) (by omega)
theorem b3O {l:List Fm} {i:Nat} {f:Fm} (hb:∀ j,j < i->∀ g,l[j]?=some g->g.refs≠0) (hf:l[i]?=some f) (h0:f.refs=0):a2S l=some i:=by
 unfold a2S;rw [xl2];have hl:=b9 hf;rw [xe1 hl] at hf
 cases hf
 exact ⟨hl,xj4 h0,fun j hj h=>hb j hj _ (xe1 (by omega)) (xo2 h)⟩
theorem b3k {l:List Fm} (hb:∀ j,j < l.length->∀ g,l[j]?=some g->g.refs≠0):a2S l=none:=by
 unfold a2S;rw [xl1];intro x hx;obtain ⟨j,hj⟩:=List.getElem?_of_mem hx;exact xj2 (hb j (b9 hj) x hj)
theorem a7r {l:List Nat} {x j h:Nat} (hj:l[x]?=some j):decide (h ∈ l.take (x + 1))=(decide (h ∈ l.take x)||decide (j=h)):=by
 rw [q9 hj,xc9,xo3,xb3,xb3,xb3,xe3,xj0];exact ⟨fun h=>h.imp id Eq.symm,fun h=>h.imp id Eq.symm⟩
theorem b03 {F:Nat->Prop} {w0 w:World} {Γ:List Asr} {g0:Nat} {k:KV} {vh:Value} {held:List Nat} (hS0:St F w0 w (rkS g0 k++Γ)) (hH:Sl (fps (rkS g0 k)) w 1 vh (held.map a21)) (hA:a8I k held):Fn Tryz.prog 132 [.pointer (some ⟨g0,0,none⟩),vh] w (fun v w'=>v=.int .i64 ((z9 k.K held).2:Nat)/\∃ k',k'.K=(z9 k.K held).1/\RLike k k'/\St (fps (rkS g0 k)) w w' (rkS g0 k')):=by
 have hS:=St.startM hS0;obtain ⟨hhand,hnf,hheld,hfree,hlen,hkd,hspl⟩:=hA;generalize fps (rkS g0 k)=G at hS hH |-;obtain ⟨sh,fr,sl,sps,hand,vsh,vfr,vsl,vsp⟩:=k;dsimp only at hhand hnf hfree hlen hkd hspl;unfold rkS kvC frA slA a08 at hS;dsimp only [List.cons_append,List.nil_append] at hS;obtain ⟨pf,cf,rfl⟩:=hS.rowSlice 1 rfl;simp only [xj1] at hS;obtain ⟨gf,rfl⟩:=hS.rowSome 1 rfl (by omega);obtain ⟨ph,ch,rfl⟩:=(hH.now hS).len;obtain ⟨h0,rfl⟩:∃ h0:Nat,hand=(h0:Nat):=⟨hand.toNat,by omega⟩;have hKf:(KV.K ⟨sh,fr,sl,sps,((h0:Nat):Int),vsh,.slice (some ⟨gf,0,none⟩) (fr.map fmC).length cf,vsl,vsp⟩).frames=fr:=rfl;unfold z9;rw [hKf];simp only [xj1] at hH |-;refine yEn Tryz.func132 Tryz.ntmps132 (by kernel_rfl) (by kernel_rfl) rfl rfl ?_
 repeat' (first|(with_reducible apply a8 a7);rfl;rfl;rfl|refine yDn (by with_reducible constructor) ?_)
 refine l7 (F:=G) (w0:=w) (X:=Nat) (fun x=>[(5,.int .i64 (x:Nat))]) [0,1] rfl (fun _=>[]) (fun x=>x<=fr.length/\∀ j,j < x->∀ g,fr[j]?=some g->g.refs≠0) (fun x=>fr.length - x) 0 (by exact Fr.sub_of rfl) ⟨xg6 _,fun j hj=>by omega⟩ hS ?_;clear hS;rintro i w1 ⟨hi,hbf⟩ hS;dsimp only [List.cons_append,List.nil_append] at hi hbf hS |-;by_cases hlt:i < fr.length
 ·obtain ⟨fm,hfm⟩:=j3 (l:=fr) (i:=i) (by omega);have hrow:=c9 (f:=fmC) hfm;unfold fmC at hrow;by_cases hr0:fm.refs=0
  ·have hd0:decide (fm.refs=0)=true:=xj4 hr0;have hff:=b3O hbf hfm hr0;rw [hff]
   repeat' (first|(with_reducible apply a8 a7);rfl;rfl;rfl|(with_reducible apply a9);rfl;(first|apply Ld.sc a7;rfl;exact hS.rowCj 1 rfl (by assumption) rfl|apply Ld.sl a7;rfl;exact hS.blkC 0 rfl rfl);rfl|(with_reducible apply l9 a7);rfl;rfl;rfl;rfl;omega;rfl|refine yDn (by with_reducible constructor) ?_|(with_reducible apply d9);rfl;assumption|(with_reducible apply d5);rfl;all_goals (intro hb hp;try (exfalso;omega)))
   (refine k6 rfl ?_)
   exact ⟨rfl,_,rfl,RLike.refl _,hS⟩
  ·have hd0:decide (fm.refs=0)=false:=xj2 hr0
   repeat' (first|(with_reducible apply a8 a7);rfl;rfl;rfl|(with_reducible apply a9);rfl;(first|apply Ld.sc a7;rfl;exact hS.rowCj 1 rfl (by assumption) rfl|apply Ld.sl a7;rfl;exact hS.blkC 0 rfl rfl);rfl|(with_reducible apply l9 a7);rfl;rfl;rfl;rfl;omega;rfl|(with_reducible apply j0);rfl;rfl;omega;omega;rfl|refine yDn (by with_reducible constructor) ?_|(with_reducible apply f6);rfl;assumption|(with_reducible apply d5);rfl;all_goals (intro hb hp;try (exfalso;omega)))
   exact f7 (i + 1) (by exact Fr.sub_of rfl) ⟨by omega,fun j hj g hg=>by
    by_cases hji:j=i
    ·subst hji;rw [hfm] at hg;cases hg;exact hr0
    ·exact hbf j (by omega) g hg⟩ hS (by omega)
 obtain rfl:i=fr.length:=by omega
 have hff:=b3k hbf;have hfree2:=hfree hff;rw [hff];dsimp only;have hclk:a0k (KV.K ⟨sh,fr,sl,sps,((h0:Nat):Int),vsh,.slice (some ⟨gf,0,none⟩) fr.length cf,vsl,vsp⟩) held=a0n 5000 fr h0 held:=rfl;rw [hclk];generalize hRR:a0n 5000 fr h0 held=R
 repeat' (first|(with_reducible apply a8 a7);rfl;rfl;rfl|(with_reducible apply a9);rfl;(apply Ld.sl a7;rfl;exact hS.blkC 0 rfl rfl);rfl|refine yDn (by with_reducible constructor) ?_|(with_reducible apply d5);rfl;all_goals (intro hb hp;try (exfalso;omega)))
 refine l7 (F:=G) (w0:=w) (X:=Nat×List Fm×Nat) (fun _=>[]) [0,1] rfl (fun x=>[.blk g0 [vsh,.slice (some ⟨gf,0,none⟩) fr.length cf,vsl,vsp,.int .i64 (x.2.2:Nat)],.row 89 4 (.slice (some ⟨gf,0,none⟩) fr.length cf) (x.2.1.map fmC)]) (fun x=>a0n x.1 x.2.1 x.2.2 held=R/\a0L x.2.1 x.2.2 held < x.1/\x.2.2 < fr.length/\x.2.1.length=fr.length) (fun x=>x.1) (5000,fr,h0) (by exact Fr.sub_of rfl) ⟨hRR,a5b hnf.2 _ _,by show h0 < fr.length;omega,rfl⟩ hS ?_;clear hS;rintro ⟨n,fr',h⟩ w2 ⟨hcl,hm,hh,hfl⟩ hS;dsimp only [List.cons_append,List.nil_append] at hcl hm hh hfl hS |-;obtain ⟨m,rfl⟩:∃ m,n=m + 1:=⟨n - 1,by omega⟩;have hmod:=b17 (n:=fr.length) (h:=h) hh;have hnl:v9 fr.length h < fr.length:=by unfold v9;split <;> omega
 obtain ⟨fm,hfm⟩:=j3 (l:=fr') (i:=h) (by omega);have hrow:=c9 (f:=fmC) hfm;unfold fmC at hrow;unfold a0n at hcl;rw [hfl] at hcl
 repeat' (first|(with_reducible apply a8 a7);rfl;rfl;rfl|(with_reducible apply a9);rfl;(first|apply Ld.sc a7;rfl;exact hS.blkC 0 rfl rfl|apply Ld.sl a7;rfl;exact hS.blkC 0 rfl rfl);rfl|(with_reducible apply j0);rfl;rfl;omega;omega;rfl|refine yDn (by with_reducible constructor) ?_|(with_reducible apply b8 hS a7 (i:=0));(iterate 8 rfl);exact (rfl:_=[_,_,_,_,_]);clear hS;intro w' hS;simp only [List.set] at hS|(with_reducible apply a4n);rfl;rfl;omega;rfl)
 rw [hmod] at hS;refine l7 (F:=G) (w0:=w) (X:=Nat) (fun x=>[(7,.bool (decide (h ∈ held.take x))),(8,.int .i64 (x:Nat))]) [0,1,6] rfl (fun _=>[]) (fun x=>x<=held.length) (fun x=>held.length - x) 0 (by exact Fr.sub_of rfl) (xg6 _) hS ?_;clear hS;rintro x w3 hx hS;dsimp only [List.cons_append,List.nil_append] at hx hS |-;by_cases hxl:x < held.length
 ·obtain ⟨j,hj⟩:=j3 (l:=held) (i:=x) (by omega);have hrowH:=c9 (f:=a21) hj;unfold a21 at hrowH;have hsn:=a7r (h:=h) hj;obtain ⟨bh,oh,hph,-⟩:=(hH.now hS).at_ (i:=x) hxl;subst hph
  cases hin:decide (h ∈ held.take x) with
  |true=>
   rw [hin,Bool.true_or] at hsn
   repeat' (first|(with_reducible apply a8 a7);rfl;rfl;rfl|(with_reducible apply j0);rfl;rfl;omega;omega;rfl|refine yDn (by with_reducible constructor) ?_|(with_reducible apply s9);(iterate 4 rfl);rfl;rfl|(with_reducible apply e9);rfl;rfl;rfl;rfl|(with_reducible apply d5);rfl;all_goals (intro hb hp;try (exfalso;omega)))
   exact f7 (x + 1) (by rw [hsn];exact Fr.sub_of rfl) (by show x + 1<=held.length;omega) hS (by show held.length - (x + 1) < held.length - x;omega)
  |false=>
   rw [hin,xo4] at hsn;have hjh:decide (((j:Nat):Int)=((h:Nat):Int))=decide (j=h):=by rw [xc9,xb3,xb3];omega
   rw [<- hjh] at hsn
   repeat' (first|(with_reducible apply a8 a7);rfl;rfl;rfl|(with_reducible apply l9 a7);rfl;rfl;rfl;rfl;omega;rfl|(with_reducible apply j0);rfl;rfl;omega;omega;rfl|refine yDn (by with_reducible constructor) ?_|(with_reducible apply j5);(iterate 4 rfl);rfl|(with_reducible apply f5);rfl;rfl;rfl;rfl|(with_reducible apply d5);rfl;all_goals (intro hb hp;try (exfalso;omega))|(with_reducible apply a3J a7);rfl;rfl;rfl;refine ⟨_,(hH.now hS).cel0 hrowH rfl,?_⟩)
   exact f7 (x + 1) (by rw [hsn];exact Fr.sub_of rfl) (by show x + 1<=held.length;omega) hS (by show held.length - (x + 1) < held.length - x;omega)
 obtain rfl:x=held.length:=by omega
 rw [xg8];have hdd:=a2v fr'.length 0 held;have hdd1:=a2v fr'.length (h + 1) held;have hdd2:=a2v fr'.length (v9 fr.length h) held;by_cases hhl:h ∈ held
 ·rw [xf0 hhl] at hcl;rw [xj4 hhl];have hdn:=a4o (n:=fr'.length) (by omega) (by omega) hheld hhl;rw [hfl] at hdn
  repeat' (first|(with_reducible apply a8 a7);rfl;rfl;rfl|refine yDn (by with_reducible constructor) ?_|(with_reducible apply d9);rfl;rfl|(with_reducible apply d5);rfl;all_goals (intro hb hp;try (exfalso;omega)))
  exact f7 (m,fr',v9 fr.length h) (by exact Fr.sub_of rfl) ⟨hcl,by show a0L fr' (v9 fr.length h) held < m;unfold a0L at hm |-;rw [hfl] at hm |-;omega,hnl,hfl⟩ hS (by show m < m + 1;omega)
 rw [xf1 hhl,o3 hfm] at hcl;rw [xj2 hhl];by_cases hsn:fm.seen=true
 ·rw [xf0 hsn] at hcl;have hse:=a3V (x:=⟨fm.data,fm.refs,fm.dirty,false⟩) hfm hsn rfl;rw [hsn] at hrow;have hst:(fr'.map fmC).set h (p7 [.string ⟨fm.data.toArray⟩,.int .i64 fm.refs,.bool fm.dirty,.bool true] 3 [.bool false])=(fr'.set h ⟨fm.data,fm.refs,fm.dirty,false⟩).map fmC:=by
   rw [xl3];rfl
  repeat' (first|(with_reducible apply a8 a7);rfl;rfl;rfl|(with_reducible apply a9);rfl;(first|apply Ld.sc a7;rfl;exact hS.rowCj 1 rfl (by assumption) rfl|apply Ld.sl a7;rfl;exact hS.blkC 0 rfl rfl);rfl|(with_reducible apply l9 a7);rfl;rfl;rfl;rfl;omega;rfl|refine yDn (by with_reducible constructor) ?_|(with_reducible apply d9);rfl;rfl|(with_reducible apply f6);rfl;rfl|(with_reducible apply d5);rfl;all_goals (intro hb hp;try (exfalso;omega))|(with_reducible apply t9 hS a7 (i:=1));(iterate 4 rfl);assumption;(iterate 5 rfl);intro w' hS';simp only [List.set] at hS';clear hS;have hS:=hS';clear hS')
  rw [hst] at hS;exact f7 (m,fr'.set h ⟨fm.data,fm.refs,fm.dirty,false⟩,v9 fr.length h) (by exact Fr.sub_of rfl) ⟨hcl,by show a0L (fr'.set h ⟨fm.data,fm.refs,fm.dirty,false⟩) (v9 fr.length h) held < m;unfold a0L at hm |-;rw [xa8];omega,hnl,by show (fr'.set h _).length=_;rw [xa8];exact hfl⟩ hS (by show m < m + 1;omega)
 ·rw [xf1 hsn] at hcl;have hsf:fm.seen=false:=by simpa using hsn
  rw [hsf] at hrow;have hall:=fun w2 (h':St G w w2 (rkS g0 ⟨sh,fr',sl,sps,((v9 fr.length h:Nat):Int),vsh,.slice (some ⟨gf,0,none⟩) fr.length cf,vsl,vsp⟩))=>b1W (Γ:=[]) (by rw [List.append_nil];exact h') (f:=h) ⟨by show h < fr'.length;omega,fun _=>hfree2,hlen,hkd,hspl⟩
  repeat' (first|(with_reducible apply a8 a7);rfl;rfl;rfl|(with_reducible apply a9);rfl;(first|apply Ld.sc a7;rfl;exact hS.rowCj 1 rfl (by assumption) rfl|apply Ld.sl a7;rfl;exact hS.blkC 0 rfl rfl);rfl|(with_reducible apply l9 a7);rfl;rfl;rfl;rfl;omega;rfl|refine yDn (by with_reducible constructor) ?_|(with_reducible apply f6);rfl;rfl|(with_reducible apply d5);rfl;all_goals (intro hb hp;try (exfalso;omega))|(with_reducible apply m9);rfl;rfl;rfl;refine ⟨_,hall _ hS,?_⟩;rintro _ w2 ⟨rfl,k',hk1,hk2,h2⟩)
  (refine k6 rfl ?_)
  replace hS:=St.transM (Γ:=[]) (by rw [List.append_nil];exact hS) h2;rw [List.append_nil] at hS;rw [<- hcl];dsimp only;refine ⟨rfl,k',?_,?_,hS⟩
  ·rw [hk1];rfl
  ·exact ⟨⟨hk2.like.sh,hk2.like.vsh,hk2.like.ar⟩,hk2.vfr,hk2.vsl,hk2.vsp⟩
end Go.Proofs.YtejnpppejalhfabGreat
