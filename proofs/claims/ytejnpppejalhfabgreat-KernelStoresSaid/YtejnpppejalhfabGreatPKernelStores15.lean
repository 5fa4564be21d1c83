/- Texts that the proof stands on, one behind the other: Ke46, Ke54. -/
import Derived.Test.YtejnpppejalhfabGreatPKernelStores14
set_option linter.unusedVariables false
set_option linter.unusedSimpArgs false
namespace Go.Proofs.YtejnpppejalhfabGreat
set_option maxRecDepth 100000
set_option maxHeartbeats 8000000
open Go.RowKit Go.Sort
structure RLike (k k':KV):Prop where
 like:KLike k k'
 vfr:k'.vfr=k.vfr
 vsl:k'.vsl=k.vsl
 vsp:k'.vsp=k.vsp
theorem RLike.refl (k:KV):RLike k k:=⟨KLike.refl k,rfl,rfl,rfl⟩
theorem RLike.trans {a b c:KV} (h:RLike a b) (h2:RLike b c):RLike a c:=⟨h.like.trans h2.like,h2.vfr.trans h.vfr,h2.vsl.trans h.vsl,h2.vsp.trans h.vsp⟩
theorem a8j {l:List Sw} {t j:Nat} {s:Sw} (h:a16 l=some t) (hj:j < t) (hs:l[j]?=some s):s.refs≠0:=by
 unfold a16 at h;rw [xl5] at h;obtain ⟨h1,h2,h3⟩:=h;have h4:=h3 j hj;rw [xe1 (by omega)] at hs
 cases hs
 exact fun h5=>h4 (xj7 h5)
def sAt:Option Nat->Int
 |some t=>(t:Nat)
 |none=>-1
theorem b2r {F:Nat->Prop} {w0 w:World} {Γ:List Asr} {g0:Nat} {k:KV} (hS0:St F w0 w (rkS g0 k++Γ)) {f:Nat} (hA:b1b k f):Fn Tryz.prog 155 [.pointer (some ⟨g0,0,none⟩),.int .i64 (f:Nat)] w (fun v w'=>v=.tuple #[]/\∃ k',k'.K=s7 k.K f/\RLike k k'/\St (fps (rkS g0 k)) w w' (rkS g0 k')):=by
 have hS:=St.startM hS0;obtain ⟨hfl,hfree,hlen,hkd,hspl⟩:=hA;generalize fps (rkS g0 k)=G at hS |-;obtain ⟨sh,fr,sl,sps,hand,vsh,vfr,vsl,vsp⟩:=k;dsimp only at hfl hfree hlen hkd hspl;obtain ⟨fm,hfm⟩:=j5 (l:=fr) (i:=f) (by omega);have hrow:=d5 (f:=fmC) hfm;rw [m8 hfm] at hfree;unfold rkS kvC frA slA a05 at hS;dsimp only [List.cons_append,List.nil_append] at hS;obtain ⟨pf,cf,rfl⟩:=hS.rowSlice 1 rfl;rw [xj4] at hS;obtain ⟨gf,rfl⟩:=hS.rowSome 1 rfl (by omega);obtain ⟨psl,csl,rfl⟩:=hS.rowSlice 2 rfl;rw [xj4] at hS;obtain ⟨psp,csp,rfl⟩:=hS.rowSlice 3 rfl;rw [xj4] at hS;unfold fmC at hrow;obtain ⟨aT,haT⟩:∃ o,o=a0t (⟨sh,fr,sl,sps,hand,vsh,.slice (some ⟨gf,0,none⟩) fr.length cf,.slice psl sl.length csl,.slice psp sps.length csp⟩:KV).K f:=⟨_,rfl⟩;have haT2:aT=if fm.dirty then some ((a16 sl).getD 0) else none:=by
  rw [haT];unfold a0t KV.K;dsimp only;rw [m8 hfm]
 have hb2:=(hS.rowSl 2 rfl).bound;simp only [xj4];refine yEn Tryz.func155 Tryz.ntmps155 (by kernel_rfl) (by kernel_rfl) rfl rfl ?_
 repeat' (first|(with_reducible apply a8 a7);rfl;rfl;rfl|(with_reducible apply a9);rfl;(apply Ld.sl a7;rfl;exact hS.blkC 0 rfl rfl);rfl|(with_reducible apply a0h);rfl;rfl;omega;omega;rfl|(with_reducible first|apply a2T|apply a2X|apply a3A|apply a19))
 refine a1w (F:=G) (w0:=w) (X:=Int) (fun x=>[(0,.pointer (some ⟨g0,0,none⟩)),(1,.int .i64 (f:Nat)),(4,.int .i64 x)]) (fun _=>[.blk g0 [vsh,.slice (some ⟨gf,0,none⟩) fr.length cf,.slice psl sl.length csl,.slice psp sps.length csp,.int .i64 hand],.row 89 4 (.slice (some ⟨gf,0,none⟩) fr.length cf) (fr.map fmC),.row 143 2 (.slice psl sl.length csl) (sl.map swC),.row 75 3 (.slice psp sps.length csp) (sps.map spC)]++sps.map a0b) (fun x=>x=sAt aT) ?_ ?_
 ·cases hd:fm.dirty with
  |false=>
   rw [hd,xf1 (by simp)] at haT2;rw [hd] at hrow
   repeat' ((refine yDn (by with_reducible constructor) ?_))
   refine l5 (X:=Unit) (fun _=>[]) [0,1,4,5] rfl (fun _=>[]) (fun _=>True) (fun _=>0) () (by exact Fr.sub_of rfl) trivial hS ?_;clear hS;rintro _ w1 - hS;dsimp only [List.cons_append,List.nil_append] at hS |-;by_cases h0:(0:Int)<=(sl.length:Int) - 1
   ·have hd1:decide ((0:Int)<=(sl.length:Int) - 1)=true:=xj7 h0
    repeat' (first|(with_reducible apply a8 a7);rfl;rfl;rfl|(with_reducible apply a9);rfl;(first|apply Ld.sc a7;rfl;exact hS.rowCj 1 rfl (by assumption) rfl|apply Ld.sl a7;rfl;exact hS.blkC 0 rfl rfl);rfl|(with_reducible apply l8 a7);rfl;rfl;rfl;rfl;omega;rfl|refine yDn (by with_reducible constructor) ?_|(with_reducible apply k6);(iterate 4 rfl);assumption|(with_reducible apply f7);rfl;assumption;rfl;rfl|(with_reducible apply f8);rfl;rfl)
    exact p8 (-1) (by exact Fr.sub_of rfl) (by rw [haT2];rfl) hS
   ·have hd1:decide ((0:Int)<=(sl.length:Int) - 1)=false:=xj5 h0
    repeat' (first|(with_reducible apply a8 a7);rfl;rfl;rfl|refine yDn (by with_reducible constructor) ?_|(with_reducible apply r9);(iterate 4 rfl);assumption;rfl|(with_reducible apply d9);rfl;assumption;rfl;rfl|(with_reducible apply f8);rfl;rfl)
    exact p8 (-1) (by exact Fr.sub_of rfl) (by rw [haT2];rfl) hS
  |true=>
   obtain ⟨t,ht⟩:=hfree hd;rw [hd,xf0 rfl,ht] at haT2;rw [hd] at hrow;obtain ⟨s0,hs0,hs1⟩:=a2m ht;have htl:=c9 hs0
   repeat' ((refine yDn (by with_reducible constructor) ?_))
   refine l5 (X:=Nat×Int) (fun x=>[(4,.int .i64 x.2),(5,.int .i64 ((x.1:Nat) - 1:Int))]) [0,1] rfl (fun _=>[]) (fun x=>x.1<=sl.length/\(x.1<=t->x.2=(t:Nat))) (fun x=>x.1) (sl.length,-1) (by exact Fr.sub_of rfl) ⟨xd4 _,fun h=>by have:sl.length<=t:=h;omega⟩ hS ?_;clear hS;rintro ⟨n,s⟩ w1 ⟨hn,hst⟩ hS;dsimp only [List.cons_append,List.nil_append] at hn hst hS |-
   cases n with
   |zero=>
    have hd1:decide ((0:Int)<=((0:Nat):Int) - 1)=false:=rfl
    repeat' (first|(with_reducible apply a8 a7);rfl;rfl;rfl|refine yDn (by with_reducible constructor) ?_|(with_reducible apply r9);(iterate 4 rfl);rfl;rfl|(with_reducible apply d9);rfl;rfl;rfl;rfl|(with_reducible apply f8);rfl;rfl)
    exact p8 s (by exact Fr.sub_of rfl) (by rw [haT2];exact hst (xg5 _)) hS
   |succ m=>
    have e5:((m + 1:Nat):Int) - 1=((m:Nat):Int):=by omega
    rw [e5];have hd1:decide ((0:Int)<=((m:Nat):Int))=true:=xj7 (by omega);obtain ⟨sm,hsm⟩:=j5 (l:=sl) (i:=m) (by omega);have hrowS:=d5 (f:=swC) hsm;unfold swC at hrowS;obtain ⟨gsl,hgs⟩:=hS.rowSome 2 rfl (by omega);subst hgs;by_cases h0:sm.refs=0
    ·have hd0:decide (sm.refs=0)=true:=xj7 h0
     repeat' (first|(with_reducible apply a8 a7);rfl;rfl;rfl|(with_reducible apply a9);rfl;(first|apply Ld.sc a7;rfl;(first|exact hS.rowCj 1 rfl (by assumption) rfl|exact hS.rowCj 2 rfl (by assumption) rfl)|apply Ld.sl a7;rfl;exact hS.blkC 0 rfl rfl);rfl|(with_reducible apply l8 a7);rfl;rfl;rfl;rfl;omega;rfl|(with_reducible apply a0h);rfl;rfl;omega;omega;rfl|refine yDn (by with_reducible constructor) ?_|(with_reducible apply k6);(iterate 4 rfl);rfl|(with_reducible apply f7);rfl;rfl;rfl;rfl|((with_reducible apply f6);rfl;first|rfl|assumption))
     refine e9 (m,((m:Nat):Int)) (by exact Fr.sub_of rfl) ⟨by show m<=sl.length;omega,fun h=>?_⟩ hS (by show m < m + 1;omega);have h:m<=t:=h;by_cases hmt:m=t
     ·rw [hmt]
     ·exact absurd h0 (a8j ht (by omega) hsm)
    ·have hd0:decide (sm.refs=0)=false:=xj5 h0
     repeat' (first|(with_reducible apply a8 a7);rfl;rfl;rfl|(with_reducible apply a9);rfl;(first|apply Ld.sc a7;rfl;(first|exact hS.rowCj 1 rfl (by assumption) rfl|exact hS.rowCj 2 rfl (by assumption) rfl)|apply Ld.sl a7;rfl;exact hS.blkC 0 rfl rfl);rfl|(with_reducible apply l8 a7);rfl;rfl;rfl;rfl;omega;rfl|(with_reducible apply a0h);rfl;rfl;omega;omega;rfl|refine yDn (by with_reducible constructor) ?_|(with_reducible apply k6);(iterate 4 rfl);rfl|(with_reducible apply f7);rfl;rfl;rfl;rfl|(with_reducible apply f6);rfl;rfl|(with_reducible apply f8);rfl;assumption)
     refine e9 (m,s) (by exact Fr.sub_of rfl) ⟨by show m<=sl.length;omega,fun h=>?_⟩ hS (by show m < m + 1;omega);have h:m<=t:=h;by_cases hmt:m=t
     ·subst hmt;rw [hsm] at hs0
      cases hs0
      exact absurd hs1 h0
     ·exact hst (by omega)
 clear hS;rintro _ w1 rfl hS;dsimp only [List.cons_append,List.nil_append] at hS;obtain ⟨T,hT⟩:∃ T:Option Int,T=aT.map fun (t:Nat)=>(t:Int):=⟨_,rfl⟩
 repeat' (first|(with_reducible apply a8 a7);rfl;rfl;rfl|refine yDn (by with_reducible constructor) ?_)
 refine l5 (F:=G) (w0:=w) (X:=Nat×List Sp) (fun x=>[(6,.int .i64 (x.1:Nat))]) [0,1,4] rfl (fun x=>[.blk g0 [vsh,.slice (some ⟨gf,0,none⟩) fr.length cf,.slice psl sl.length csl,.slice psp sps.length csp,.int .i64 hand],.row 89 4 (.slice (some ⟨gf,0,none⟩) fr.length cf) (fr.map fmC),.row 143 2 (.slice psl sl.length csl) (sl.map swC),.row 75 3 (.slice psp sps.length csp) (x.2.map spC)]++x.2.map a0b) (Γ:=[]) (fun x=>x.1<=sps.length/\x.2.length=sps.length/\∀ (j:Nat) y,sps[j]?=some y->(x.1<=j->x.2[j]?=some y)/\(j < x.1->∃ ve',x.2[j]?=some ⟨x9 (f:Nat) T y.s,y.va,ve'⟩)) (fun x=>sps.length - x.1) (0,sps) (by exact Fr.sub_of rfl) ⟨xg5 _,rfl,fun j y hy=>⟨fun _=>hy,fun h=>by have:j < 0:=h;omega⟩⟩ (by rw [List.append_nil];exact hS) ?_;clear hS;rintro ⟨i,SPS⟩ w2 ⟨hi,hSl,hinv⟩ hS;dsimp only [List.cons_append,List.nil_append] at hi hSl hinv hS |-;rw [List.append_nil] at hS;by_cases hlt:i < sps.length;rotate_left
 ·obtain rfl:i=sps.length:=by omega
  have hinv2:∀ (j:Nat) y,sps[j]?=some y->∃ ve',SPS[j]?=some ⟨x9 (f:Nat) T y.s,y.va,ve'⟩:=fun j y hy=>(hinv j y hy).2 (c9 hy);have hfs:(fr.map fmC).set f (o5 [.string ⟨fm.data.toArray⟩,.int .i64 fm.refs,.bool fm.dirty,.bool fm.seen] 0 [.string ⟨#[]⟩,.int .i64 0,.bool false,.bool false])=(fr.set f fm0).map fmC:=by
   rw [xl6];rfl
  have hfin:∀ sl' w3,sl'=slT aT sl ⟨fm.data,fm.refs⟩->sl'.length=sl.length->St G w w3 (.blk g0 [vsh,.slice (some ⟨gf,0,none⟩) fr.length cf,.slice psl sl.length csl,.slice psp sps.length csp,.int .i64 hand]::.row 89 4 (.slice (some ⟨gf,0,none⟩) fr.length cf) ((fr.set f fm0).map fmC)::.row 143 2 (.slice psl sl.length csl) (sl'.map swC)::.row 75 3 (.slice psp sps.length csp) (SPS.map spC)::SPS.map a0b)->∃ k',k'.K=s7 (KV.K ⟨sh,fr,sl,sps,hand,vsh,.slice (some ⟨gf,0,none⟩) fr.length cf,.slice psl sl.length csl,.slice psp sps.length csp⟩) f/\RLike ⟨sh,fr,sl,sps,hand,vsh,.slice (some ⟨gf,0,none⟩) fr.length cf,.slice psl sl.length csl,.slice psp sps.length csp⟩ k'/\St G w w3 (rkS g0 k'):=by
   intro sl' w3 hsl' hsll h;refine ⟨⟨sh,fr.set f fm0,sl',SPS,hand,vsh,.slice (some ⟨gf,0,none⟩) fr.length cf,.slice psl sl.length csl,.slice psp sps.length csp⟩,?_,⟨⟨rfl,rfl,?_⟩,rfl,rfl,rfl⟩,?_⟩
   ·unfold KV.K s7;have h1:SPS.map (·.s)=(sps.map (·.s)).map (x9 (f:Nat) T):=by
     refine xh2 fun j=>?_;rw [xh7,xh7,xh7]
     cases hj:sps[j]? with
     |none=>
      rw [xn4] at hj;rw [xh9 (by omega)];rfl
     |some y=>
      obtain ⟨ve',h⟩:=hinv2 j y hj;rw [h];rfl
    dsimp only;rw [h1,hsl',hT];have h2:a0t (⟨shs sh,fr,sl,sps.map (·.s),hand⟩:Ker) f=aT:=by rw [haT];rfl
    rw [h2,m8 hfm]
    cases aT <;> rfl
   ·show (SPS.map fun p=>(p.va,p.s.areas))=sps.map fun p=>(p.va,p.s.areas);refine xh2 fun j=>?_;rw [xh7,xh7]
    cases hj:sps[j]? with
    |none=>
     rw [xn4] at hj;rw [xh9 (by omega)]
    |some y=>
     obtain ⟨ve',h⟩:=hinv2 j y hj;rw [h];rfl
   ·exact h
  cases hA:aT with
  |none=>
   have hd4:decide ((0:Int)<=sAt none)=false:=rfl
   repeat' (first|(with_reducible apply a8 a7);rfl;rfl;rfl|(with_reducible apply a9);rfl;(apply Ld.sl a7;rfl;exact hS.blkC 0 rfl rfl);rfl|(with_reducible apply l8 a7);rfl;rfl;rfl;rfl;omega;rfl|(with_reducible apply l4 a7);rfl;rfl;exact (rfl:_=some [_,_,_,_]);rfl|refine yDn (by with_reducible constructor) ?_|(with_reducible apply f8);rfl;rfl|(with_reducible apply b9);rfl;all_goals (intro hb hp;try (exfalso;omega))|(with_reducible apply p7 hS a7 (i:=1));(iterate 4 rfl);assumption;(iterate 5 rfl);intro w' hS';simp only [List.set] at hS';clear hS;have hS:=hS';clear hS')
   (refine a5Z rfl ?_)
   rw [hfs] at hS;exact ⟨rfl,hfin sl _ (by rw [hA];rfl) rfl hS⟩
  |some t=>
   have htl:t < sl.length:=by
    rw [hA] at haT2
    cases hd:fm.dirty with
    |false=>rw [hd] at haT2;simp at haT2
    |true=>
     obtain ⟨t',ht'⟩:=hfree hd;rw [hd,xf0 rfl,ht'] at haT2;injection haT2 with e
     obtain ⟨s0,hs0,-⟩:=a2m ht';rw [e];exact c9 hs0
   obtain ⟨s0,hs0⟩:=j5 (l:=sl) (i:=t) (by omega);have hd4:decide ((0:Int)<=sAt (some t))=true:=xj7 (by show (0:Int)<=((t:Nat):Int);omega);have hrowS:=d5 (f:=swC) hs0;obtain ⟨gsl,rfl⟩:=hS.rowSome 2 rfl (by omega);have est:(sl.map swC).set t (o5 (swC s0) 0 [.string ⟨fm.data.toArray⟩,.int .i64 fm.refs])=(sl.set t ⟨fm.data,fm.refs⟩).map swC:=by
    rw [xl6];exact congrArg (List.set _ _) (b02 s0 ⟨fm.data,fm.refs⟩)
   have e4:sAt (some t)=((t:Nat):Int):=rfl;rw [e4] at hd4 |-
   repeat' (first|(with_reducible apply a8 a7);rfl;rfl;rfl|(with_reducible apply a9);rfl;(apply Ld.sl a7;rfl;exact hS.blkC 0 rfl rfl);rfl|refine yDn (by with_reducible constructor) ?_|(with_reducible apply f6);rfl;rfl|(with_reducible apply b9);rfl;all_goals (intro hb hp;try (exfalso;omega)))
   (focus ((with_reducible apply a0c _ _ _ 23 (by kernel_rfl) (by kernel_rfl) hS);(simp only [xl7,xl8,xm1,xm2]);(repeat' ((first|(with_reducible apply i9 a7);rfl;rfl|(with_reducible apply i7);rfl;(intro wd hd;replace hd:St _ _ wd _:=hd;(first|apply Ld.sc a7;rfl;(first|exact hd.rowC0 1 rfl (by assumption) rfl|exact hd.rowCj 1 rfl (by assumption) rfl)|apply Ld.sl a7;rfl;exact hd.blkC 0 rfl rfl));rfl|(with_reducible apply x6 a7);rfl;rfl;rfl;rfl;omega;rfl|(with_reducible apply a1U a7);rfl;rfl;exact (rfl:_=some [_,_]);rfl)));all_goals ((with_reducible apply j9);intro w' hS';clear hS;have hS:=hS';clear hS')))
   repeat' (first|(with_reducible apply a8 a7);rfl;rfl;rfl|(with_reducible apply a9);rfl;(apply Ld.sl a7;rfl;exact hS.blkC 0 rfl rfl);rfl|(with_reducible apply l8 a7);rfl;rfl;rfl;rfl;omega;rfl|(with_reducible apply l4 a7);rfl;rfl;exact (rfl:_=some [_,_,_,_]);rfl|refine yDn (by with_reducible constructor) ?_|(with_reducible apply p7 hS a7 (i:=2));(iterate 4 rfl);assumption;(iterate 5 rfl);intro w' hS';simp only [List.set] at hS';clear hS;have hS:=hS';clear hS')
   rw [est] at hS
   repeat' (first|refine yDn (by with_reducible constructor) ?_|(with_reducible apply p7 hS a7 (i:=1));(iterate 4 rfl);assumption;(iterate 5 rfl);intro w' hS';simp only [List.set] at hS';clear hS;have hS:=hS';clear hS')
   (refine a5Z rfl ?_)
   rw [hfs] at hS;exact ⟨rfl,hfin (sl.set t ⟨fm.data,fm.refs⟩) _ (by rw [hA];rfl) xa8 hS⟩
 obtain ⟨x,hx0⟩:=j5 (l:=sps) (i:=i) (by omega);have hx:=(hinv i x hx0).1 (xd4 _);have hlx:=hlen x (xd0 hx0);have hrowi:=d5 (f:=spC) hx;obtain ⟨gs,rfl⟩:=hS.rowSome 3 rfl (by omega);obtain ⟨s,va,ve⟩:=x;dsimp only at hlx;unfold spC at hrowi;dsimp only at hrowi;replace hS:=hS.pullE 4 hx rfl;simp only [xl7,xl8,t4] at hS;unfold a0b at hS;dsimp only at hS;obtain ⟨pe,ce,rfl⟩:=hS.rowSlice 0 rfl;simp only [xj4] at hS hx0 hx hrowi;replace hS:=hS.addNil 91 3
 repeat' (first|(with_reducible apply a8 a7);rfl;rfl;rfl|(with_reducible apply a9);rfl;(apply Ld.sl a7;rfl;exact hS.blkC 2 rfl rfl);rfl|refine yDn (by with_reducible constructor) ?_|(with_reducible apply b9);rfl;all_goals (intro hb hp;try (exfalso;omega)))
 obtain ⟨M,hM⟩:∃ M:Nat->List En,M=fun j=>(s.entries.take j).filterMap (n9 (f:Nat) T):=⟨_,rfl⟩;have hMl:∀ j,(M j).length<=s.entries.length:=fun j=>by
  rw [hM];exact xd5 (List.length_filterMap_le _ _) (List.length_take_le' _ _)
 have hM0:M 0=[]:=by rw [hM];rfl
 have hMs:∀ j e,s.entries[j]?=some e->M (j + 1)=M j++(n9 (f:Nat) T e).toList:=fun j e he=>by
  rw [hM];dsimp only;rw [q8 he,List.filterMap_append,xn3,List.filterMap_nil]
  cases n9 (f:Nat) T e <;> rfl
 have hMn:M s.entries.length=s.entries.filterMap (n9 (f:Nat) T):=by rw [hM];dsimp only;rw [xg7]
 clear hM;refine l5 (X:=Option Addr×Nat×Nat) (fun x=>[(7,.slice x.1 (M x.2.2).length x.2.1),(8,.int .i64 (x.2.2:Nat))]) [0,1,4,6] rfl (fun x=>[.row 91 3 (.slice x.1 (M x.2.2).length x.2.1) ((M x.2.2).map enC)]) (fun x=>x.2.2<=s.entries.length) (fun x=>s.entries.length - x.2.2) (none,0,0) (by dsimp only;rw [hM0];exact Fr.sub_of rfl) (xg5 _) (by dsimp only;rw [hM0];exact hS) ?_;clear hS;rintro ⟨pm,cm,j⟩ w3 hj hS;dsimp only [List.cons_append,List.nil_append] at hj hS |-;have hMj:=hMl j;by_cases hjl:j < s.entries.length
 ·obtain ⟨e,he⟩:=j5 (l:=s.entries) (i:=j) (by omega);have hrowj:=d5 (f:=enC) he;have hMse:=hMs j e he;obtain ⟨ge,hge⟩:=hS.rowSome (p:=pe) (n:=s.entries.length) (cap:=ce) (sz:=3) 1 rfl (by omega);subst hge;unfold enC at hrowj;have hadd:∀ e2:En,n9 (f:Nat) T e=some e2->(M (j + 1)).length=(M j).length + 1/\(M (j + 1)).map enC=(M j).map enC++[enC e2]:=fun e2 h=>by
   rw [hMse,h];simp [xe9,xm0]
  by_cases hk1:e.kind=1
  ·have hd1:decide (e.kind=1)=true:=xj7 hk1;by_cases hka:e.at_=(f:Nat)
   ·have hd2:decide (e.at_=((f:Nat):Int))=true:=xj7 hka;have has:n9 (f:Nat) T e=T.map (fun s=>(⟨e.page,2,s⟩:En)):=by unfold n9;rw [xf0 ⟨hk1,hka⟩]
    cases hA:aT with
    |none=>
     have hd4:decide (sAt none < (0:Int))=true:=rfl;have hT2:T=none:=by rw [hT,hA];rfl
     have has2:n9 (f:Nat) T e=none:=by rw [has,hT2];rfl
     rw [has2] at hMse;replace hMse:M (j + 1)=M j:=by rw [hMse];exact List.append_nil _
     repeat' (first|(with_reducible apply a8 a7);rfl;rfl;rfl|(with_reducible apply a9);rfl;(first|apply Ld.sc a7;rfl;exact hS.blkC 0 rfl rfl|apply Ld.sl a7;rfl;exact hS.blkC 2 rfl rfl|apply Ld.st a7;rfl;exact hS.rowR 1 rfl (by assumption);rfl);rfl|(with_reducible apply l8 a7);rfl;rfl;rfl;rfl;omega;rfl|(with_reducible apply j4);rfl;rfl;omega;omega;rfl|refine yDn (by with_reducible constructor) ?_|(with_reducible apply k6);(iterate 4 rfl);assumption|(with_reducible apply f7);rfl;assumption;rfl;rfl|((with_reducible apply f6);rfl;first|rfl|assumption)|(with_reducible apply d7 hS a7);rfl;rfl;rfl;clear hS;intro g w' hS|(with_reducible apply b8 hS a7 (i:=0));(iterate 8 rfl);exact (rfl:_=[_,_,_]);clear hS;intro w' hS;simp only [List.set] at hS|(with_reducible apply b9);rfl;all_goals (intro hb hp;try (exfalso;omega))|(with_reducible apply a9);rfl;(apply Ld.sl a7;rfl;exact hS.rowCj 5 rfl hrowi rfl);rfl)
     refine e9 (pm,cm,j + 1) (by dsimp only;rw [hMse];exact Fr.sub_of rfl) (by show j + 1<=s.entries.length;omega) (by dsimp only;rw [hMse];exact hS.drop) (by show s.entries.length - (j + 1) < s.entries.length - j;omega)
    |some t=>
     have hd4:decide (((t:Nat):Int) < (0:Int))=false:=xj5 (by omega);have e4:sAt (some t)=((t:Nat):Int):=rfl;rw [e4];have hT2:T=some ((t:Nat):Int):=by rw [hT,hA];rfl
     obtain ⟨ha1,ha2⟩:=hadd ⟨e.page,2,(t:Nat)⟩ (by rw [has,hT2];rfl)
     repeat' (first|(with_reducible apply a8 a7);rfl;rfl;rfl|(with_reducible apply a9);rfl;(first|apply Ld.sc a7;rfl;exact hS.blkC 0 rfl rfl|apply Ld.sl a7;rfl;exact hS.blkC 2 rfl rfl|apply Ld.st a7;rfl;(first|exact hS.blkR 0 rfl|exact hS.rowR 1 rfl (by assumption));rfl);rfl|(with_reducible apply l8 a7);rfl;rfl;rfl;rfl;omega;rfl|(with_reducible apply j4);rfl;rfl;omega;omega;rfl|(with_reducible apply l4 a7);rfl;rfl;exact (rfl:_=some [_,_,_]);rfl|refine yDn (by with_reducible constructor) ?_|(with_reducible apply k6);(iterate 4 rfl);assumption|(with_reducible apply f7);rfl;assumption;rfl;rfl|(with_reducible apply f6);rfl;assumption|(with_reducible apply f8);rfl;rfl|(with_reducible apply d7 hS a7);rfl;rfl;rfl;clear hS;intro g w' hS|(with_reducible apply a0T hS a7);(iterate 7 rfl);clear hS;intro g w' hS|(with_reducible apply b8 hS a7 (i:=0));(iterate 8 rfl);exact (rfl:_=[_,_,_]);clear hS;intro w' hS;simp only [List.set] at hS|(with_reducible apply b9);rfl;all_goals (intro hb hp;try (exfalso;omega))|(with_reducible apply a9);rfl;(apply Ld.sl a7;rfl;exact hS.rowCj 5 rfl hrowi rfl);rfl|(with_reducible apply a2p hS a7 2);(iterate 4 rfl);exact hS.rowRo 0 rfl;rfl;(simp only [xj4,xb1,xa2,xe9];omega);rfl;intro p' cap' w' hS';simp only [List.set] at hS';clear hS;have hS:=hS';clear hS')
     rw [xj4] at hS |-;refine e9 (p',cap',j + 1) (by dsimp only;rw [ha1];exact Fr.sub_of rfl) (by show j + 1<=s.entries.length;omega) (by dsimp only;rw [ha1,ha2];exact hS.drop.drop) (by show s.entries.length - (j + 1) < s.entries.length - j;omega)
   ·have hd2:decide (e.at_=((f:Nat):Int))=false:=xj5 hka;obtain ⟨ha1,ha2⟩:=hadd e (by unfold n9;rw [xf1 (fun h=>hka h.2)])
    repeat' (first|(with_reducible apply a8 a7);rfl;rfl;rfl|(with_reducible apply a9);rfl;(first|apply Ld.sc a7;rfl;exact hS.blkC 0 rfl rfl|apply Ld.sl a7;rfl;exact hS.blkC 2 rfl rfl|apply Ld.st a7;rfl;(first|exact hS.blkR 0 rfl|exact hS.rowR 1 rfl (by assumption));rfl);rfl|(with_reducible apply l8 a7);rfl;rfl;rfl;rfl;omega;rfl|(with_reducible apply j4);rfl;rfl;omega;omega;rfl|refine yDn (by with_reducible constructor) ?_|(with_reducible apply k6);(iterate 4 rfl);assumption|(with_reducible apply f7);rfl;assumption;rfl;rfl|(with_reducible apply f8);rfl;assumption|(with_reducible apply d7 hS a7);rfl;rfl;rfl;clear hS;intro g w' hS|(with_reducible apply a0T hS a7);(iterate 7 rfl);clear hS;intro g w' hS|(with_reducible apply b8 hS a7 (i:=0));(iterate 8 rfl);exact (rfl:_=[_,_,_]);clear hS;intro w' hS;simp only [List.set] at hS|(with_reducible apply b9);rfl;all_goals (intro hb hp;try (exfalso;omega))|(with_reducible apply a9);rfl;(apply Ld.sl a7;rfl;exact hS.rowCj 5 rfl hrowi rfl);rfl|(with_reducible apply a2p hS a7 2);(iterate 4 rfl);exact hS.rowRo 0 rfl;rfl;(simp only [xj4,xb1,xa2,xe9];omega);rfl;intro p' cap' w' hS';simp only [List.set] at hS';clear hS;have hS:=hS';clear hS')
    rw [xj4] at hS |-;refine e9 (p',cap',j + 1) (by dsimp only;rw [ha1];exact Fr.sub_of rfl) (by show j + 1<=s.entries.length;omega) (by dsimp only;rw [ha1,ha2];exact hS.drop.drop) (by show s.entries.length - (j + 1) < s.entries.length - j;omega)
  ·have hd1:decide (e.kind=1)=false:=xj5 hk1;obtain ⟨ha1,ha2⟩:=hadd e (by unfold n9;rw [xf1 (fun h=>hk1 h.1)])
   repeat' (first|(with_reducible apply a8 a7);rfl;rfl;rfl|(with_reducible apply a9);rfl;(first|apply Ld.sc a7;rfl;exact hS.blkC 0 rfl rfl|apply Ld.sl a7;rfl;exact hS.blkC 2 rfl rfl|apply Ld.st a7;rfl;(first|exact hS.blkR 0 rfl|exact hS.rowR 1 rfl (by assumption));rfl);rfl|(with_reducible apply l8 a7);rfl;rfl;rfl;rfl;omega;rfl|(with_reducible apply j4);rfl;rfl;omega;omega;rfl|refine yDn (by with_reducible constructor) ?_|(with_reducible apply r9);(iterate 4 rfl);assumption;rfl|(with_reducible apply d9);rfl;assumption;rfl;rfl|(with_reducible apply f8);rfl;rfl|(with_reducible apply d7 hS a7);rfl;rfl;rfl;clear hS;intro g w' hS|(with_reducible apply a0T hS a7);(iterate 7 rfl);clear hS;intro g w' hS|(with_reducible apply b8 hS a7 (i:=0));(iterate 8 rfl);exact (rfl:_=[_,_,_]);clear hS;intro w' hS;simp only [List.set] at hS|(with_reducible apply b9);rfl;all_goals (intro hb hp;try (exfalso;omega))|(with_reducible apply a9);rfl;(apply Ld.sl a7;rfl;exact hS.rowCj 5 rfl hrowi rfl);rfl|(with_reducible apply a2p hS a7 2);(iterate 4 rfl);exact hS.rowRo 0 rfl;rfl;(simp only [xj4,xb1,xa2,xe9];omega);rfl;intro p' cap' w' hS';simp only [List.set] at hS';clear hS;have hS:=hS';clear hS')
   rw [xj4] at hS |-;refine e9 (p',cap',j + 1) (by dsimp only;rw [ha1];exact Fr.sub_of rfl) (by show j + 1<=s.entries.length;omega) (by dsimp only;rw [ha1,ha2];exact hS.drop.drop) (by show s.entries.length - (j + 1) < s.entries.length - j;omega)
 ·obtain rfl:j=s.entries.length:=by omega
  rw [hMn] at hS |-
  repeat' (first|(with_reducible apply a8 a7);rfl;rfl;rfl|(with_reducible apply a9);rfl;(apply Ld.sl a7;rfl;exact hS.blkC 2 rfl rfl);rfl|(with_reducible apply l8 a7);rfl;rfl;rfl;rfl;omega;rfl|(with_reducible apply j4);rfl;rfl;omega;omega;rfl|refine yDn (by with_reducible constructor) ?_|(with_reducible apply b9);rfl;all_goals (intro hb hp;try (exfalso;omega))|(with_reducible apply a9);rfl;(apply Ld.sl a7;rfl;exact hS.rowCj 5 rfl hrowi rfl);rfl|(with_reducible apply t6 hS a7 (i:=5));(iterate 4 rfl);assumption;(iterate 5 rfl);intro w' hS';simp only [List.set] at hS';clear hS;have hS:=hS';clear hS')
  have hsp1:(SPS.map spC).set i (o5 [.bool s.live,va,.slice pe s.entries.length ce] 2 [.slice pm (s.entries.filterMap (n9 (f:Nat) T)).length cm])=(SPS.set i ⟨x9 (f:Nat) T s,va,.slice pm (s.entries.filterMap (n9 (f:Nat) T)).length cm⟩).map spC:=by
   rw [xl6];rfl
  rw [hsp1] at hS;replace hS:=hS.reorderT 6 [0,2,3,4,5] (by decide) rfl;simp only [t4,xm1,xm2] at hS;replace hS:=St.pushE (y:=⟨x9 (f:Nat) T s,va,.slice pm (s.entries.filterMap (n9 (f:Nat) T)).length cm⟩) hS 4 hx rfl;simp only [xl7,xl8,t4] at hS;refine e9 (i + 1,SPS.set i ⟨x9 (f:Nat) T s,va,.slice pm (s.entries.filterMap (n9 (f:Nat) T)).length cm⟩) (by exact Fr.sub_of rfl) ⟨by show i + 1<=sps.length;omega,by show (SPS.set i _).length=_;rw [xa8];exact hSl,fun j y hy=>?_⟩ (by rw [List.append_nil];exact hS) (by show sps.length - (i + 1) < sps.length - i;omega);obtain ⟨h1,h2⟩:=hinv j y hy;refine ⟨fun h=>?_,fun h=>?_⟩
  ·show (SPS.set i _)[j]?=some y;rw [xn5 (by have:i + 1<=j:=h;omega)];exact h1 (by have:i + 1<=j:=h;omega)
  ·show ∃ ve',(SPS.set i _)[j]?=_;by_cases hij:i=j
   ·subst hij;rw [hx0] at hy
    cases hy
    exact ⟨_,a2G (by omega)⟩
   ·rw [xn5 hij];exact h2 (by have:j < i + 1:=h;omega)
theorem b2d {n h:Nat} (hh:h < n):(((h:Nat):Int) + 1).tmod ((n:Nat):Int)=((v7 n h:Nat):Int):=by
 unfold v7;by_cases hn:h + 1=n
 ·rw [xf0 hn,<- hn,show ((h:Nat):Int) + 1=((h + 1:Nat):Int) by omega,Int.tmod_self];rfl
 ·rw [xf1 hn,show ((h:Nat):Int) + 1=((h + 1:Nat):Int) by omega];exact Int.tmod_eq_of_lt (by omega) (by omega)
theorem b3j {l:List Fm} {i:Nat} {f:Fm} (hb:∀ j,j < i->∀ g,l[j]?=some g->g.refs≠0) (hf:l[i]?=some f) (h0:f.refs=0):a2L l=some i:=by
 unfold a2L;rw [xl5];have hl:=c9 hf;rw [xe1 hl] at hf
 cases hf
 exact ⟨hl,xj7 h0,fun j hj h=>hb j hj _ (xe1 (by omega)) (xo3 h)⟩
theorem b4l {l:List Fm} (hb:∀ j,j < l.length->∀ g,l[j]?=some g->g.refs≠0):a2L l=none:=by
 unfold a2L;rw [xl4];intro x hx;obtain ⟨j,hj⟩:=List.getElem?_of_mem hx;exact xj5 (hb j (c9 hj) x hj)
theorem a7n {l:List Nat} {x j h:Nat} (hj:l[x]?=some j):decide (h ∈ l.take (x + 1))=(decide (h ∈ l.take x)||decide (j=h)):=by
 rw [q8 hj,xc9,xo4,xb3,xb3,xb3,xe3,xi9];exact ⟨fun h=>h.imp id Eq.symm,fun h=>h.imp id Eq.symm⟩
theorem b07 {F:Nat->Prop} {w0 w:World} {Γ:List Asr} {g0:Nat} {k:KV} {vh:Value} {held:List Nat} (hS0:St F w0 w (rkS g0 k++Γ)) (hH:Sl (fps (rkS g0 k)) w 1 vh (held.map a2U)) (hA:a8r k held):Fn Tryz.prog 132 [.pointer (some ⟨g0,0,none⟩),vh] w (fun v w'=>v=.int .i64 ((y9 k.K held).2:Nat)/\∃ k',k'.K=(y9 k.K held).1/\RLike k k'/\St (fps (rkS g0 k)) w w' (rkS g0 k')):=by
 have hS:=St.startM hS0;obtain ⟨hhand,hnf,hheld,hfree,hlen,hkd,hspl⟩:=hA;generalize fps (rkS g0 k)=G at hS hH |-;obtain ⟨sh,fr,sl,sps,hand,vsh,vfr,vsl,vsp⟩:=k;dsimp only at hhand hnf hfree hlen hkd hspl;unfold rkS kvC frA slA a05 at hS;dsimp only [List.cons_append,List.nil_append] at hS;obtain ⟨pf,cf,rfl⟩:=hS.rowSlice 1 rfl;simp only [xj4] at hS;obtain ⟨gf,rfl⟩:=hS.rowSome 1 rfl (by omega);obtain ⟨ph,ch,rfl⟩:=(hH.now hS).len;obtain ⟨h0,rfl⟩:∃ h0:Nat,hand=(h0:Nat):=⟨hand.toNat,by omega⟩;have hKf:(KV.K ⟨sh,fr,sl,sps,((h0:Nat):Int),vsh,.slice (some ⟨gf,0,none⟩) (fr.map fmC).length cf,vsl,vsp⟩).frames=fr:=rfl;unfold y9;rw [hKf];simp only [xj4] at hH |-;refine yEn Tryz.func132 Tryz.ntmps132 (by kernel_rfl) (by kernel_rfl) rfl rfl ?_
 repeat' (first|(with_reducible apply a8 a7);rfl;rfl;rfl|refine yDn (by with_reducible constructor) ?_)
 refine l5 (F:=G) (w0:=w) (X:=Nat) (fun x=>[(5,.int .i64 (x:Nat))]) [0,1] rfl (fun _=>[]) (fun x=>x<=fr.length/\∀ j,j < x->∀ g,fr[j]?=some g->g.refs≠0) (fun x=>fr.length - x) 0 (by exact Fr.sub_of rfl) ⟨xg5 _,fun j hj=>by omega⟩ hS ?_;clear hS;rintro i w1 ⟨hi,hbf⟩ hS;dsimp only [List.cons_append,List.nil_append] at hi hbf hS |-;by_cases hlt:i < fr.length
 ·obtain ⟨fm,hfm⟩:=j5 (l:=fr) (i:=i) (by omega);have hrow:=d5 (f:=fmC) hfm;unfold fmC at hrow;by_cases hr0:fm.refs=0
  ·have hd0:decide (fm.refs=0)=true:=xj7 hr0;have hff:=b3j hbf hfm hr0;rw [hff]
   repeat' (first|(with_reducible apply a8 a7);rfl;rfl;rfl|(with_reducible apply a9);rfl;(first|apply Ld.sc a7;rfl;exact hS.rowCj 1 rfl (by assumption) rfl|apply Ld.sl a7;rfl;exact hS.blkC 0 rfl rfl);rfl|(with_reducible apply l8 a7);rfl;rfl;rfl;rfl;omega;rfl|refine yDn (by with_reducible constructor) ?_|(with_reducible apply f6);rfl;assumption|(with_reducible apply b9);rfl;all_goals (intro hb hp;try (exfalso;omega)))
   (refine k8 rfl ?_)
   exact ⟨rfl,_,rfl,RLike.refl _,hS⟩
  ·have hd0:decide (fm.refs=0)=false:=xj5 hr0
   repeat' (first|(with_reducible apply a8 a7);rfl;rfl;rfl|(with_reducible apply a9);rfl;(first|apply Ld.sc a7;rfl;exact hS.rowCj 1 rfl (by assumption) rfl|apply Ld.sl a7;rfl;exact hS.blkC 0 rfl rfl);rfl|(with_reducible apply l8 a7);rfl;rfl;rfl;rfl;omega;rfl|(with_reducible apply j4);rfl;rfl;omega;omega;rfl|refine yDn (by with_reducible constructor) ?_|(with_reducible apply f8);rfl;assumption|(with_reducible apply b9);rfl;all_goals (intro hb hp;try (exfalso;omega)))
   exact e9 (i + 1) (by exact Fr.sub_of rfl) ⟨by omega,fun j hj g hg=>by
    by_cases hji:j=i
    ·subst hji;rw [hfm] at hg;cases hg;exact hr0
    ·exact hbf j (by omega) g hg⟩ hS (by omega)
 obtain rfl:i=fr.length:=by omega
 have hff:=b4l hbf;have hfree2:=hfree hff;rw [hff];dsimp only;have hclk:a0i (KV.K ⟨sh,fr,sl,sps,((h0:Nat):Int),vsh,.slice (some ⟨gf,0,none⟩) fr.length cf,vsl,vsp⟩) held=a0n 5000 fr h0 held:=rfl;rw [hclk];generalize hRR:a0n 5000 fr h0 held=R
 repeat' (first|(with_reducible apply a8 a7);rfl;rfl;rfl|(with_reducible apply a9);rfl;(apply Ld.sl a7;rfl;exact hS.blkC 0 rfl rfl);rfl|refine yDn (by with_reducible constructor) ?_|(with_reducible apply b9);rfl;all_goals (intro hb hp;try (exfalso;omega)))
 refine l5 (F:=G) (w0:=w) (X:=Nat×List Fm×Nat) (fun _=>[]) [0,1] rfl (fun x=>[.blk g0 [vsh,.slice (some ⟨gf,0,none⟩) fr.length cf,vsl,vsp,.int .i64 (x.2.2:Nat)],.row 89 4 (.slice (some ⟨gf,0,none⟩) fr.length cf) (x.2.1.map fmC)]) (fun x=>a0n x.1 x.2.1 x.2.2 held=R/\a0O x.2.1 x.2.2 held < x.1/\x.2.2 < fr.length/\x.2.1.length=fr.length) (fun x=>x.1) (5000,fr,h0) (by exact Fr.sub_of rfl) ⟨hRR,a5h hnf.2 _ _,by show h0 < fr.length;omega,rfl⟩ hS ?_;clear hS;rintro ⟨n,fr',h⟩ w2 ⟨hcl,hm,hh,hfl⟩ hS;dsimp only [List.cons_append,List.nil_append] at hcl hm hh hfl hS |-;obtain ⟨m,rfl⟩:∃ m,n=m + 1:=⟨n - 1,by omega⟩;have hmod:=b2d (n:=fr.length) (h:=h) hh;have hnl:v7 fr.length h < fr.length:=by unfold v7;split <;> omega
 obtain ⟨fm,hfm⟩:=j5 (l:=fr') (i:=h) (by omega);have hrow:=d5 (f:=fmC) hfm;unfold fmC at hrow;unfold a0n at hcl;rw [hfl] at hcl
 repeat' (first|(with_reducible apply a8 a7);rfl;rfl;rfl|(with_reducible apply a9);rfl;(first|apply Ld.sc a7;rfl;exact hS.blkC 0 rfl rfl|apply Ld.sl a7;rfl;exact hS.blkC 0 rfl rfl);rfl|(with_reducible apply j4);rfl;rfl;omega;omega;rfl|refine yDn (by with_reducible constructor) ?_|(with_reducible apply b8 hS a7 (i:=0));(iterate 8 rfl);exact (rfl:_=[_,_,_,_,_]);clear hS;intro w' hS;simp only [List.set] at hS|(with_reducible apply a5c);rfl;rfl;omega;rfl)
 rw [hmod] at hS;refine l5 (F:=G) (w0:=w) (X:=Nat) (fun x=>[(7,.bool (decide (h ∈ held.take x))),(8,.int .i64 (x:Nat))]) [0,1,6] rfl (fun _=>[]) (fun x=>x<=held.length) (fun x=>held.length - x) 0 (by exact Fr.sub_of rfl) (xg5 _) hS ?_;clear hS;rintro x w3 hx hS;dsimp only [List.cons_append,List.nil_append] at hx hS |-;by_cases hxl:x < held.length
 ·obtain ⟨j,hj⟩:=j5 (l:=held) (i:=x) (by omega);have hrowH:=d5 (f:=a2U) hj;unfold a2U at hrowH;have hsn:=a7n (h:=h) hj;obtain ⟨bh,oh,hph,-⟩:=(hH.now hS).at_ (i:=x) hxl;subst hph
  cases hin:decide (h ∈ held.take x) with
  |true=>
   rw [hin,Bool.true_or] at hsn
   repeat' (first|(with_reducible apply a8 a7);rfl;rfl;rfl|(with_reducible apply j4);rfl;rfl;omega;omega;rfl|refine yDn (by with_reducible constructor) ?_|(with_reducible apply r9);(iterate 4 rfl);rfl;rfl|(with_reducible apply f7);rfl;rfl;rfl;rfl|(with_reducible apply b9);rfl;all_goals (intro hb hp;try (exfalso;omega)))
   exact e9 (x + 1) (by rw [hsn];exact Fr.sub_of rfl) (by show x + 1<=held.length;omega) hS (by show held.length - (x + 1) < held.length - x;omega)
  |false=>
   rw [hin,xo5] at hsn;have hjh:decide (((j:Nat):Int)=((h:Nat):Int))=decide (j=h):=by rw [xc9,xb3,xb3];omega
   rw [<- hjh] at hsn
   repeat' (first|(with_reducible apply a8 a7);rfl;rfl;rfl|(with_reducible apply l8 a7);rfl;rfl;rfl;rfl;omega;rfl|(with_reducible apply j4);rfl;rfl;omega;omega;rfl|refine yDn (by with_reducible constructor) ?_|(with_reducible apply k6);(iterate 4 rfl);rfl|(with_reducible apply d9);rfl;rfl;rfl;rfl|(with_reducible apply b9);rfl;all_goals (intro hb hp;try (exfalso;omega))|(with_reducible apply a3w a7);rfl;rfl;rfl;refine ⟨_,(hH.now hS).cel0 hrowH rfl,?_⟩)
   exact e9 (x + 1) (by rw [hsn];exact Fr.sub_of rfl) (by show x + 1<=held.length;omega) hS (by show held.length - (x + 1) < held.length - x;omega)
 obtain rfl:x=held.length:=by omega
 rw [xg7];have hdd:=a2i fr'.length 0 held;have hdd1:=a2i fr'.length (h + 1) held;have hdd2:=a2i fr'.length (v7 fr.length h) held;by_cases hhl:h ∈ held
 ·rw [xf0 hhl] at hcl;rw [xj7 hhl];have hdn:=a4l (n:=fr'.length) (by omega) (by omega) hheld hhl;rw [hfl] at hdn
  repeat' (first|(with_reducible apply a8 a7);rfl;rfl;rfl|refine yDn (by with_reducible constructor) ?_|(with_reducible apply f6);rfl;rfl|(with_reducible apply b9);rfl;all_goals (intro hb hp;try (exfalso;omega)))
  exact e9 (m,fr',v7 fr.length h) (by exact Fr.sub_of rfl) ⟨hcl,by show a0O fr' (v7 fr.length h) held < m;unfold a0O at hm |-;rw [hfl] at hm |-;omega,hnl,hfl⟩ hS (by show m < m + 1;omega)
 rw [xf1 hhl,m8 hfm] at hcl;rw [xj5 hhl];by_cases hsn:fm.seen=true
 ·rw [xf0 hsn] at hcl;have hse:=a3S (x:=⟨fm.data,fm.refs,fm.dirty,false⟩) hfm hsn rfl;rw [hsn] at hrow;have hst:(fr'.map fmC).set h (o5 [.string ⟨fm.data.toArray⟩,.int .i64 fm.refs,.bool fm.dirty,.bool true] 3 [.bool false])=(fr'.set h ⟨fm.data,fm.refs,fm.dirty,false⟩).map fmC:=by
   rw [xl6];rfl
  repeat' (first|(with_reducible apply a8 a7);rfl;rfl;rfl|(with_reducible apply a9);rfl;(first|apply Ld.sc a7;rfl;exact hS.rowCj 1 rfl (by assumption) rfl|apply Ld.sl a7;rfl;exact hS.blkC 0 rfl rfl);rfl|(with_reducible apply l8 a7);rfl;rfl;rfl;rfl;omega;rfl|refine yDn (by with_reducible constructor) ?_|(with_reducible apply f6);rfl;rfl|(with_reducible apply f8);rfl;rfl|(with_reducible apply b9);rfl;all_goals (intro hb hp;try (exfalso;omega))|(with_reducible apply t6 hS a7 (i:=1));(iterate 4 rfl);assumption;(iterate 5 rfl);intro w' hS';simp only [List.set] at hS';clear hS;have hS:=hS';clear hS')
  rw [hst] at hS;exact e9 (m,fr'.set h ⟨fm.data,fm.refs,fm.dirty,false⟩,v7 fr.length h) (by exact Fr.sub_of rfl) ⟨hcl,by show a0O (fr'.set h ⟨fm.data,fm.refs,fm.dirty,false⟩) (v7 fr.length h) held < m;unfold a0O at hm |-;rw [xa8];omega,hnl,by show (fr'.set h _).length=_;rw [xa8];exact hfl⟩ hS (by show m < m + 1;omega)
 ·rw [xf1 hsn] at hcl;have hsf:fm.seen=false:=by simpa using hsn
  rw [hsf] at hrow;have hall:=fun w2 (h':St G w w2 (rkS g0 ⟨sh,fr',sl,sps,((v7 fr.length h:Nat):Int),vsh,.slice (some ⟨gf,0,none⟩) fr.length cf,vsl,vsp⟩))=>b2r (Γ:=[]) (by rw [List.append_nil];exact h') (f:=h) ⟨by show h < fr'.length;omega,fun _=>hfree2,hlen,hkd,hspl⟩
  repeat' (first|(with_reducible apply a8 a7);rfl;rfl;rfl|(with_reducible apply a9);rfl;(first|apply Ld.sc a7;rfl;exact hS.rowCj 1 rfl (by assumption) rfl|apply Ld.sl a7;rfl;exact hS.blkC 0 rfl rfl);rfl|(with_reducible apply l8 a7);rfl;rfl;rfl;rfl;omega;rfl|refine yDn (by with_reducible constructor) ?_|(with_reducible apply f8);rfl;rfl|(with_reducible apply b9);rfl;all_goals (intro hb hp;try (exfalso;omega))|(with_reducible apply o8);rfl;rfl;rfl;refine ⟨_,hall _ hS,?_⟩;rintro _ w2 ⟨rfl,k',hk1,hk2,h2⟩)
  (refine k8 rfl ?_)
  replace hS:=St.transM (Γ:=[]) (by rw [List.append_nil];exact hS) h2;rw [List.append_nil] at hS;rw [<- hcl];dsimp only;refine ⟨rfl,k',?_,?_,hS⟩
  ·rw [hk1];rfl
  ·exact ⟨⟨hk2.like.sh,hk2.like.vsh,hk2.like.ar⟩,hk2.vfr,hk2.vsl,hk2.vsp⟩
end Go.Proofs.YtejnpppejalhfabGreat
