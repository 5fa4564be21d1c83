/- Texts that the proof stands on, one behind the other: Ke56, Ke33, Lk13, Ke34, Ke35, PlRun10, PlRun11, PlRun12, PlRun13, PlRun14, Ke36, Ke37, Ke47, Ke57, Ke58, Ke59. -/
import Derived.Test.YtejnpppejalhfabGreatPKernelStores15
set_option linter.unusedVariables false
set_option linter.unusedSimpArgs false
namespace Go.Proofs.YtejnpppejalhfabGreat
set_option maxRecDepth 100000
set_option maxHeartbeats 8000000
open Go.RowKit Go.Sort
def a0M (k:KV) (f:Nat) (x:Fm):KV:=⟨k.sh,k.fr.set f x,k.sl,k.sp,k.hand,k.vsh,k.vfr,k.vsl,k.vsp⟩
theorem a1L (k:KV) (f:Nat) (x:Fm):RLike k (a0M k f x):=⟨⟨rfl,rfl,rfl⟩,rfl,rfl,rfl⟩
theorem a8x (k:KV) (f:Nat) (x:Fm):(a0M k f x).K=x7 k.K f x:=rfl
def a5T (k:KV) (sp:Nat) (x:Sp) (L:List En) (v:Value):KV:=⟨k.sh,k.fr,k.sl,k.sp.set sp ⟨⟨x.s.live,x.s.areas,L⟩,x.va,v⟩,k.hand,k.vsh,k.vfr,k.vsl,k.vsp⟩
theorem a9T {k:KV} {sp:Nat} {x:Sp} (hx:k.sp[sp]?=some x) (L:List En) (v:Value):(a5T k sp x L v).K=a1W k.K sp L:=by
 have h:=a00 (a1J hx);unfold a5T a1W a8T;rw [h];unfold KV.K;dsimp only;rw [xl6]
theorem a48 {k:KV} {sp:Nat} {x:Sp} (hx:k.sp[sp]?=some x) (L:List En) (v:Value):RLike k (a5T k sp x L v):=by
 refine ⟨⟨rfl,rfl,?_⟩,rfl,rfl,rfl⟩;show (k.sp.set sp _).map (fun p=>(p.va,p.s.areas))=_;rw [xl6];refine a2o ?_;rw [xh7,hx];rfl
theorem a6V (k:KV) (e:En):RLike k (a2a k e):=by
 refine ⟨b2o k e,?_,?_,(b4Q k e).2.1⟩ <;> (unfold a2a;split <;> rfl)
theorem b4c (K:Ker) (sp:Nat) (l:List En) (e:En):a3n (a1W K sp l) e=a1W (a3n K e) sp l:=by
 unfold a3n a1W a8T a0l
 split <;> rfl
theorem b7e {K:Ker} {sp:Nat} {page:Int} (h:k7 (j3 K sp) page=none) (f:Nat) (data:List UInt8) (dirty:Bool):a1W (x7 K f ⟨data,1,dirty,false⟩) sp (putE (j3 K sp) ⟨page,1,(f:Nat)⟩)=inK K sp page f data dirty:=by
 unfold inK;rw [h];rfl
theorem b04 {K:Ker} {sp:Nat} {page:Int} {e:En} (h:k7 (j3 K sp) page=some e) (f:Nat) (data:List UInt8) (dirty:Bool):a3n (a1W (x7 K f ⟨data,1,dirty,false⟩) sp (putE (j3 K sp) ⟨page,1,(f:Nat)⟩)) e=inK K sp page f data dirty:=by
 rw [b4c];unfold inK;rw [h];rfl
theorem EntOk.setF {k:KV} {e:En} (h:EntOk k e) (f:Nat) (d:List UInt8) (y s:Bool):EntOk (a0M k f ⟨d,1,y,s⟩) e:=by
 obtain ⟨h1,h2,h3⟩:=h;refine ⟨?_,fun g hg=>?_,h3⟩
 ·show (e.kind=1/\∃ i:Nat,e.at_=(i:Nat)/\i < (k.fr.set f _).length)\/_;rw [xa8];exact h1
 ·rcases xn2 hg with h|rfl
  ·exact h2 g h
  ·exact ⟨by show (0:Int)<=1;decide,by show (1:Int)<=100000;decide⟩
theorem EntOk.put {k:KV} {e:En} (h:EntOk k e) (sp:Nat) (x:Sp) (L:List En) (v:Value):EntOk (a5T k sp x L v) e:=⟨h.names,h.fr,h.sl⟩
theorem a7u {F:Nat->Prop} {w0 w:World} {Γ:List Asr} {g0:Nat} {k:KV} (hS0:St F w0 w (rkS g0 k++Γ)) (hR0:KRo (fps (rkS g0 k)) w k) (hr:Right k.K) {sp:Nat} {page:Int} (ha:At k.K sp page) {way:Int} {held:List Nat} {vh:Value} (hH:Sl (fps (rkS g0 k)) w 1 vh (held.map a2U)) (hl:held.length<=1) (hh:∀ i ∈ held,∃ p,p≠page/\k7 (j3 k.K sp) p=some ⟨p,1,(i:Nat)⟩):Fn Tryz.prog 85 [.pointer (some ⟨g0,0,none⟩),.int .i64 (sp:Nat),.int .i64 page,.int .i64 way,vh] w (fun v w'=>v=.int .i64 ((a0y k.K sp page (decide (way=1)) held).2:Nat)/\∃ k',k'.K=(a0y k.K sp page (decide (way=1)) held).1/\RLike k k'/\St (fps (rkS g0 k)) w w' (rkS g0 k')):=by
 have hS:=St.startM hS0;have hR:=hR0;generalize fps (rkS g0 k)=G at hS hR hH |-;clear hR0 hS0;rw [<- List.append_nil (rkS g0 k)] at hS;obtain ⟨x,hx,hxl,hxa,hxe,hxr⟩:=a4h ha;obtain ⟨hsc,hel⟩:=y8 hr x.s (xd0 (a1J hx));have hpg:=a3N hsc.ar hxa;have hbA:=a47 hr ha hl hh;unfold a0y a1k;obtain ⟨A,hA⟩:∃ A,A=a1P k.K sp page held:=⟨_,rfl⟩;rw [<- hA] at hbA |-;have hxm:=xd0 hx;have hspl:=c9 hx;have hrd:=hr.cnt.1;have hrd2:k.K.frames.length=k.fr.length:=rfl;have hfo:=a21 hr (held:=held) (by omega);have hg:=a3Y hr (held:=held) (by omega);have hget:=fun w1 Γ1 (h:St G w w1 (rkS g0 k++Γ1))=>b07 h (hH.nowM h) hfo;have hea:=fun w1 Γ1 (h:St G w w1 (rkS g0 k++Γ1))=>a2r ((KerV.rk h hR).spv x hxm) page;have hspV:=fun w1 Γ1 (h:St G w w1 (rkS g0 k++Γ1))=>(KerV.rk h hR).sp;have haa:=fun w1 Γ1 (h:St G w w1 (rkS g0 k++Γ1))=>a2Q page ((KerV.rk h hR).spv x hxm).ar (a0Q (v6.1 hsc.ar).2);have hix:=a44 x.s.entries page;generalize a1v (fun e:En=>decide (e.page=page)) x.s.entries=ix at hea hix;obtain ⟨a,hfa⟩:=xi3.1 hxa;rw [hfa] at haa;unfold a1I at haa;dsimp only [Option.getD,Option.isSome] at haa;obtain ⟨bs,cs,hvsp⟩:∃ b c,k.vsp=.slice (some ⟨b,0,none⟩) k.sp.length c:=by
  have h2:=hS;unfold rkS a05 at h2;obtain ⟨p,c,h⟩:=h2.rowSlice 3 rfl;rw [xj4] at h;rw [h] at h2 |-;obtain ⟨g,rfl⟩:=h2.rowSome 3 rfl (by omega);exact ⟨g,c,rfl⟩
 obtain ⟨bf,cf,hvfr⟩:∃ b c,k.vfr=.slice (some ⟨b,0,none⟩) k.fr.length c:=by
  have h2:=hS;unfold rkS frA at h2;obtain ⟨p,c,h⟩:=h2.rowSlice 1 rfl;rw [xj4] at h;rw [h] at h2 |-;obtain ⟨g,rfl⟩:=h2.rowSome 1 rfl (by omega);exact ⟨g,c,rfl⟩
 obtain ⟨sh,fr,sl,sps,hand,vsh,vfr,vsl,vsp⟩:=k;dsimp only at hvsp hvfr hx hxm hspl hrd2 hspV |-;subst hvsp hvfr;have hrowS:=d5 (f:=spC) hx;unfold spC at hrowS hea;unfold arC at haa
 try dsimp only at haa hspV hea
 refine yEn Tryz.func85 Tryz.ntmps85 (by kernel_rfl) (by kernel_rfl) rfl rfl ?_
 repeat' (first|(with_reducible apply a8 a7);rfl;rfl;rfl|(with_reducible apply a9);rfl;(apply Ld.sl a7;rfl;(first|exact hS.blkC 0 rfl rfl|exact hS.rowCj 3 rfl (by assumption) rfl));rfl|(with_reducible apply l8 a7);rfl;rfl;rfl;rfl;omega;rfl|(with_reducible first|apply a2T|apply a2X|apply a3A|apply a19)|(with_reducible apply d7 hS a7);rfl;rfl;rfl;clear hS;intro g w' hS|(with_reducible apply b8 hS a7 (i:=0));(iterate 8 rfl);exact (rfl:_=[_,_,_,_]);clear hS;intro w' hS;simp only [List.set] at hS|(with_reducible apply d6 hS);rfl;rfl;rfl;refine ⟨_,haa _ _ hS,?_⟩;clear hS;intro w' hS|(with_reducible apply a9I a7);rfl;rfl;rfl;refine ⟨_,(hspV _ _ hS.drop).rng hrowS,rfl,?_⟩|(with_reducible apply d6 hS);rfl;rfl;rfl;refine ⟨_,hea _ _ hS.drop,?_⟩;clear hS;intro w' hS)
 rename Nat=>gA
 obtain ⟨k0,hk0⟩:∃ k0:KV,k0=⟨sh,fr,sl,sps,hand,vsh,.slice (some ⟨bf,0,none⟩) fr.length cf,vsl,.slice (some ⟨bs,0,none⟩) sps.length cs⟩:=⟨_,rfl⟩;refine a1w (F:=G) (w0:=w) (X:=KV) (fun _=>[(0,.pointer (some ⟨g0,0,none⟩)),(1,.int .i64 (sp:Nat)),(2,.int .i64 page),(3,.int .i64 way),(4,vh),(11,.pointer (some ⟨bs,0 + sp * 3,none⟩))]) (fun k'=>rkS g0 k') (fun k'=>k'.K=A.1/\RLike k0 k') ?_ ?_
 ·rcases hix with ⟨he,rfl⟩|⟨ei,e,he,rfl,hei⟩
  ·obtain ⟨d,d1,d2,d3⟩:=a6q hr ha;have hz:zAt (KV.K ⟨sh,fr,sl,sps,hand,vsh,.slice (some ⟨bf,0,none⟩) fr.length cf,vsl,.slice (some ⟨bs,0,none⟩) sps.length cs⟩) sp page=a.z:=by unfold zAt;rw [hxr,hfa];rfl
   rw [hz] at d1;have hAe:A=(inK (y9 (KV.K ⟨sh,fr,sl,sps,hand,vsh,.slice (some ⟨bf,0,none⟩) fr.length cf,vsl,.slice (some ⟨bs,0,none⟩) sps.length cs⟩) held).1 sp page (y9 (KV.K ⟨sh,fr,sl,sps,hand,vsh,.slice (some ⟨bf,0,none⟩) fr.length cf,vsl,.slice (some ⟨bs,0,none⟩) sps.length cs⟩) held).2 d false,(y9 (KV.K ⟨sh,fr,sl,sps,hand,vsh,.slice (some ⟨bf,0,none⟩) fr.length cf,vsl,.slice (some ⟨bs,0,none⟩) sps.length cs⟩) held).2):=by
    rw [hA];unfold a1P;rw [hxe,he,d3]
   rw [<- hk0] at hS hget hR hr ha hg hAe;have hd1:a0H (shs k0.sh) a.z page=some d:=by rw [hk0];exact d1
   have hn0:k7 (j3 k0.K sp) page=none:=by rw [hk0,hxe];exact he
   have hv0:k0.vfr=.slice (some ⟨bf,0,none⟩) fr.length cf/\k0.vsp=.slice (some ⟨bs,0,none⟩) sps.length cs/\k0.fr.length=fr.length:=by rw [hk0];exact ⟨rfl,rfl,rfl⟩
   obtain ⟨R,hRe⟩:∃ R,R=y9 k0.K held:=⟨_,rfl⟩;rw [<- hRe] at hget hg hAe;clear hea hspV haa hk0 hrd2;replace hS:=hS.perm List.perm_middle.symm
   repeat' (first|(with_reducible apply a8 a7);rfl;rfl;rfl|refine yDn (by with_reducible constructor) ?_|(with_reducible apply f6);rfl;rfl|(with_reducible apply o8);rfl;rfl;rfl;refine ⟨_,hget _ _ hS,?_⟩;rintro _ w2 ⟨rfl,k1,e1,l1,h2⟩;(replace hS:=St.transM hS h2);clear h2)
   clear hget;have hr1:Right k1.K:=by rw [e1];exact hg.right
   have ha1:At k1.K sp page:=by rw [e1];exact ha.same hg.same.ar hg.same.live
   obtain ⟨x1,hx1,-,-,hxe1,-⟩:=a4h ha1;obtain ⟨hsc1,hel1⟩:=y8 hr1 x1.s (xd0 (a1J hx1));have hvf1:=l1.vfr.trans hv0.1;have hvs1:=l1.vsp.trans hv0.2.1;have hfl0:R.2 < fr.length:=by
    have h1:=hg.lt;rw [show k0.K.frames.length=k0.fr.length from rfl,hv0.2.2] at h1;exact h1
   have hfl:R.2 < k1.fr.length:=by
    have h1:=hg.lt;have h2:k1.fr.length=k1.K.frames.length:=rfl;rw [h2,e1,hg.same.nfr];exact h1
   have hR1:=hR.like l1.like;have hfil:=fun w1 Γ1 (h:St G w w1 (rkS g0 k1++Γ1))=>a80 (a:=a) (KerV.rk h hR1) hr1.rise (p:=page) (x:=d) (by rw [l1.like.sh];exact hd1);obtain ⟨sh1,fr1,sl1,sps1,hand1,vsh1,vfr1,vsl1,vsp1⟩:=k1;dsimp only at hvf1 hvs1 hx1 hfl;subst hvf1 hvs1;obtain ⟨fm1,hfm1⟩:=j5 (l:=fr1) (i:=R.2) (by omega);have hrowF:=d5 (f:=fmC) hfm1;unfold fmC at hrowF;have est:(fr1.map fmC).set R.2 (o5 [.string ⟨fm1.data.toArray⟩,.int .i64 fm1.refs,.bool fm1.dirty,.bool fm1.seen] 0 [.string ⟨d.toArray⟩,.int .i64 1,.bool false,.bool false])=(fr1.set R.2 ⟨d,1,false,false⟩).map fmC:=by
    rw [xl6];rfl
   replace hS:=hS.perm xm9;rw [<- List.append_nil (rkS _ _)] at hS;unfold rkS kvC frA slA a05 at hS;dsimp only [List.cons_append,List.nil_append] at hS
   repeat' (fail)
   (focus ((with_reducible apply a0c _ _ _ 13 (by kernel_rfl) (by kernel_rfl) hS);(simp only [xl7,xl8,xm1,xm2]);(repeat' (first|(first|(with_reducible apply i9 a7);rfl;rfl|(with_reducible apply i7);rfl;(intro wd hd;replace hd:St _ _ wd _:=hd;(first|apply Ld.sl a7;rfl;exact hd.blkC 1 rfl rfl|apply Ld.st a7;rfl;(first|exact hd.blkR 0 rfl|exact hd.blkR 1 rfl);rfl));rfl|(with_reducible apply x6 a7);rfl;rfl;rfl;rfl;omega;rfl|(with_reducible apply a1U a7);rfl;rfl;exact (rfl:_=some [_,_,_,_]);rfl)|(with_reducible apply y0);rfl;rfl;rfl;refine ⟨_,fun wd hd=>hfil _ _ hd.drop,?_⟩));all_goals ((with_reducible apply j9);intro w' hS';clear hS;have hS:=hS';clear hS')))
   repeat' (first|(with_reducible apply a8 a7);rfl;rfl;rfl|(with_reducible apply l4 a7);rfl;rfl;exact (rfl:_=some [_,_,_]);rfl|refine yDn (by with_reducible constructor) ?_|(with_reducible apply p7 hS a7 (i:=2));(iterate 4 rfl);assumption;(iterate 5 rfl);intro w' hS';simp only [List.set] at hS';clear hS;have hS:=hS';clear hS')
   rw [est] at hS;obtain ⟨k1,hk1⟩:∃ k1:KV,k1=⟨sh1,fr1,sl1,sps1,hand1,vsh1,.slice (some ⟨bf,0,none⟩) fr.length cf,vsl1,.slice (some ⟨bs,0,none⟩) sps.length cs⟩:=⟨_,rfl⟩;replace hS:St G w w' (.blk gA (arC a)::(rkS g0 (a0M k1 R.2 ⟨d,1,false,false⟩)++[])):=by rw [hk1];exact hS
   have hvs:k1.vsp=.slice (some ⟨bs,0,none⟩) sps.length cs:=by rw [hk1]
   rw [<- hk1] at e1 l1 hr1 ha1 hxe1 hR1;replace hx1:k1.sp[sp]?=some x1:=by rw [hk1];exact hx1
   replace hS:=hS.perm List.perm_middle.symm;have hR2:=hR1.like (a1L k1 R.2 ⟨d,1,false,false⟩).like;have hput:=a8t hS (hR2.nowM hS) hx1 (e':=⟨page,1,(R.2:Nat)⟩) hsc1.rises (by omega);have hep:a14 (a0M k1 R.2 ⟨d,1,false,false⟩).vsp (sp * 3)=.pointer (some ⟨bs,0 + sp * 3,none⟩):=by
    rw [show (a0M k1 R.2 ⟨d,1,false,false⟩).vsp=k1.vsp from rfl,hvs];rfl
   rw [hep] at hput;unfold enC at hput;dsimp only at hput
   repeat' (first|refine yDn (by with_reducible constructor) ?_|(with_reducible apply o8);rfl;rfl;rfl;refine ⟨_,hput,?_⟩;rintro _ w3 ⟨rfl,ve',h3⟩;skip)
   replace hS:=St.transM (Δ:=rkS g0 (a5T (a0M k1 R.2 ⟨d,1,false,false⟩) sp x1 (putE x1.s.entries ⟨page,1,(R.2:Nat)⟩) ve')) hS h3;clear h3;clear hput;have hn1:k7 (j3 k1.K sp) page=none:=by rw [e1];exact hg.none_ _ _ hn0
   refine p8 (a5T (a0M k1 R.2 ⟨d,1,false,false⟩) sp x1 (putE x1.s.entries ⟨page,1,(R.2:Nat)⟩) ve') (by exact Fr.sub_of rfl) ⟨?_,(l1.trans (a1L _ _ _)).trans (a48 (k:=a0M k1 R.2 ⟨d,1,false,false⟩) hx1 _ _)⟩ (hS.sub (xm8 _ _));rw [a9T (k:=a0M k1 R.2 ⟨d,1,false,false⟩) hx1,a8x,<- hxe1,b7e hn1,hAe,e1]
  ·have hxv0:=(KerV.rk hS.drop hR).spv x hxm;obtain ⟨b,off,c,hve⟩:=hxv0.en.form1 hei;have hentV:=fun w1 Γ1 (h:St G w w1 (rkS g0 ⟨sh,fr,sl,sps,hand,vsh,.slice (some ⟨bf,0,none⟩) fr.length cf,vsl,.slice (some ⟨bs,0,none⟩) sps.length cs⟩++Γ1))=>((KerV.rk h hR).spv x hxm).en;rw [hve] at hentV;have hrowE:=d5 (f:=enC) hei;unfold enC at hrowE;rw [hve] at hrowS;have heil:=c9 hei;have hnm:=(a3g hr (sp:=sp) (p:=page) (e:=e) (by rw [hxe];exact he));by_cases hk:e.kind=2;rotate_left
   ·have hd2:decide (e.kind=2)=false:=xj5 hk;have hAe:A.1=k0.K:=by
     rw [hA,hk0];unfold a1P;rw [hxe,he];dsimp only;rw [xf1 hk]
    repeat' (first|(with_reducible apply a8 a7);rfl;rfl;rfl|(with_reducible apply l8 a7);rfl;rfl;rfl;rfl;omega;rfl|refine yDn (by with_reducible constructor) ?_|((with_reducible apply f8);rfl;first|rfl|assumption)|(with_reducible apply a0a a7);rfl;rfl;rfl;refine ⟨_,(hspV _ _ hS.drop).cel hrowS rfl,?_⟩|(with_reducible apply a3w a7);rfl;rfl;rfl;refine ⟨_,(hentV _ _ hS.drop).cel hrowE rfl,?_⟩)
    rw [<- hk0] at hS;exact p8 k0 (by exact Fr.sub_of rfl) ⟨hAe.symm,RLike.refl _⟩ (hS.drop.sub (xm8 _ _))
   have hd2:decide (e.kind=2)=true:=xj7 hk;obtain ⟨hep0,hnm2,-⟩:=hnm;rcases hnm2 with ⟨hk1,-⟩|⟨-,j,hj,hjl,hjr,hjd⟩
   ·omega
   obtain ⟨epg,ekd,eat⟩:=e;dsimp only at hj hk hep0 hd2;subst hj;have hAe:A=(inK (y9 (KV.K ⟨sh,fr,sl,sps,hand,vsh,.slice (some ⟨bf,0,none⟩) fr.length cf,vsl,.slice (some ⟨bs,0,none⟩) sps.length cs⟩) held).1 sp page (y9 (KV.K ⟨sh,fr,sl,sps,hand,vsh,.slice (some ⟨bf,0,none⟩) fr.length cf,vsl,.slice (some ⟨bs,0,none⟩) sps.length cs⟩) held).2 (a0K sl j).data true,(y9 (KV.K ⟨sh,fr,sl,sps,hand,vsh,.slice (some ⟨bf,0,none⟩) fr.length cf,vsl,.slice (some ⟨bs,0,none⟩) sps.length cs⟩) held).2):=by
    rw [hA];unfold a1P;rw [hxe,he];dsimp only;rw [xf0 hk];rfl
   repeat' (first|(with_reducible apply a8 a7);rfl;rfl;rfl|(with_reducible apply l8 a7);rfl;rfl;rfl;rfl;omega;rfl|refine yDn (by with_reducible constructor) ?_|(with_reducible apply f6);rfl;assumption|(with_reducible apply f8);rfl;rfl|(with_reducible apply a0a a7);rfl;rfl;rfl;refine ⟨_,(hspV _ _ hS.drop).cel hrowS rfl,?_⟩|(with_reducible apply a3w a7);rfl;rfl;rfl;refine ⟨_,(hentV _ _ hS.drop).cel hrowE rfl,?_⟩)
   rw [<- hk0] at hS hget hR hr ha hg hAe;have hn0:k7 (j3 k0.K sp) page=some ⟨epg,ekd,(j:Nat)⟩:=by rw [hk0,hxe];exact he
   have hv0:k0.vfr=.slice (some ⟨bf,0,none⟩) fr.length cf/\k0.vsp=.slice (some ⟨bs,0,none⟩) sps.length cs/\k0.fr.length=fr.length:=by rw [hk0];exact ⟨rfl,rfl,rfl⟩
   have hjr0:(a0K k0.K.slots j).refs≠0:=by rw [hk0];exact hjr
   have hsl0:a0K k0.K.slots j=a0K sl j:=by rw [hk0];rfl
   obtain ⟨R,hRe⟩:∃ R,R=y9 k0.K held:=⟨_,rfl⟩;rw [<- hRe] at hget hg hAe;have hjl0:j < k0.K.slots.length:=by rw [hk0];exact hjl
   clear hea hspV haa hk0 hrd2 hentV hrowS hrowE hfo;replace hS:=hS.perm List.perm_middle.symm
   repeat' (first|(with_reducible apply a8 a7);rfl;rfl;rfl|refine yDn (by with_reducible constructor) ?_|(with_reducible apply o8);rfl;rfl;rfl;refine ⟨_,hget _ _ hS,?_⟩;rintro _ w2 ⟨rfl,k1,e1,l1,h2⟩;(replace hS:=St.transM hS h2);clear h2)
   clear hget;have hr1:Right k1.K:=by rw [e1];exact hg.right
   have ha1:At k1.K sp page:=by rw [e1];exact ha.same hg.same.ar hg.same.live
   obtain ⟨x1,hx1,-,-,hxe1,-⟩:=a4h ha1;obtain ⟨hsc1,hel1⟩:=y8 hr1 x1.s (xd0 (a1J hx1));have hvf1:=l1.vfr.trans hv0.1;have hvs1:=l1.vsp.trans hv0.2.1;have hfl0:R.2 < fr.length:=by
    have h1:=hg.lt;rw [show k0.K.frames.length=k0.fr.length from rfl,hv0.2.2] at h1;exact h1
   have hfl:R.2 < k1.fr.length:=by
    have h1:=hg.lt;have h2:k1.fr.length=k1.K.frames.length:=rfl;rw [h2,e1,hg.same.nfr];exact h1
   have hR1:=hR.like l1.like;have hn1:k7 (j3 k1.K sp) page=some ⟨epg,ekd,(j:Nat)⟩:=by rw [e1];exact hg.some_ _ _ _ hn0 (xd6 (by show ekd≠1;omega))
   have hsl1:a0K k1.K.slots j=a0K sl j:=by rw [e1,hg.slots j hjr0,hsl0]
   have hxm1:=xd0 hx1;have hea:=fun w1 (h:SpV w1 x1)=>a2r h page;have hix1:=a44 x1.s.entries page;generalize a1v (fun e:En=>decide (e.page=page)) x1.s.entries=ix1 at hea hix1;rw [<- hxe1,hn1] at hix1;rcases hix1 with ⟨h0,-⟩|⟨ei1,e',h0,rfl,hei1⟩
   ·cases h0
   cases h0
   rw [hxe1] at hei1;have heil1:=c9 hei1;replace hS:=hS.sub (xm8 _ _);rw [<- List.append_nil (rkS g0 k1)] at hS;obtain ⟨b1,off1,c1,hve1⟩:=((KerV.rk hS hR1).spv x1 (xd0 hx1)).en.form1 hei1;have hslV1:=fun w1 Γ1 (h:St G w w1 (rkS g0 k1++Γ1))=>(KerV.rk h hR1).sl;have hjl1:j < k1.sl.length:=by
    have h2:k1.sl.length=k1.K.slots.length:=rfl;rw [h2,e1,hg.same.nsl];exact hjl0
   obtain ⟨s1,va1,ve1⟩:=x1;dsimp only at hve1 hsc1 hel1 hei1 hxe1 heil1;subst hve1;have hrowS1:=d5 (f:=spC) hx1;have hrowE1:=d5 (f:=enC) hei1;unfold spC at hrowS1 hea;unfold enC at hrowE1
   try dsimp only at hrowS1 hea hrowE1
   obtain ⟨sh1,fr1,sl1,sps1,hand1,vsh1,vfr1,vsl1,vsp1⟩:=k1;dsimp only at hvf1 hvs1 hx1 hxm1 hfl hslV1 hjl1 hrowS1;subst hvf1 hvs1
   repeat' (fail)
   refine a1w (F:=G) (w0:=w) (X:=Nat) (fun g=>[(0,.pointer (some ⟨g0,0,none⟩)),(1,.int .i64 (sp:Nat)),(2,.int .i64 page),(3,.int .i64 way),(4,vh),(11,.pointer (some ⟨bs,0 + sp * 3,none⟩)),(16,.int .i64 (R.2:Nat)),(17,.pointer (some ⟨g,0,none⟩))]) (fun g=>.blk g [.int .i64 epg,.int .i64 ekd,.int .i64 (j:Nat)]::(rkS g0 ⟨sh1,fr1,sl1,sps1,hand1,vsh1,.slice (some ⟨bf,0,none⟩) fr.length cf,vsl1,.slice (some ⟨bs,0,none⟩) sps.length cs⟩++[])) (fun _=>True) ?_ ?_
   ·rw [List.append_nil] at hS;unfold rkS kvC frA slA a05 at hS;dsimp only [List.cons_append,List.nil_append] at hS;replace hS:=hS.pullE 4 hx1 rfl;simp only [xl7,xl8,t4] at hS;unfold a0b at hS;dsimp only at hS;have hoff:off1=0:=by
     rcases hS.rowForm 0 rfl with ⟨h1,-⟩|⟨q1,q2,h1,-⟩
     ·cases h1
     ·injection h1 with h1 _ _
      injection h1 with h1
      injection h1
    subst hoff;replace hS:=hS.reorderT 5 [0,4,1,2,3] (by decide) rfl;simp only [t4,xm1,xm2] at hS;refine a1l 2 12 13 rfl hS (by kernel_rfl) ?_;intro w10 hS';clear hS;have hS:=hS';clear hS';simp only [xl7,xl8];have hH:=hS.sub (xm8 [_,_] _)
    ((with_reducible apply j0 (nn 0) a7);rfl;kernel_rfl;exact (fun _ _ _ h=>h);exact xd3 hH;rfl;rfl)
    ((with_reducible apply j0 (nn 1) a7);rfl;kernel_rfl;exact (fun _ _ _ h=>h);exact xd3 hH;rfl;rfl)
    ((with_reducible apply j0 (nn 2) a7);rfl;kernel_rfl;exact (fun _ _ _ h=>h);exact xd3 hH;rfl;rfl)
    ((with_reducible apply k9 (nn 3));rfl;kernel_rfl;kernel_rfl;rfl;exact (fun _ _ _ h=>h);exact hH;rfl;(intro w2 hw2;(replace hw2:St _ _ w2 _:=hw2;apply Ld.sl a7;rfl;exact hw2.rowCj 1 rfl hrowS1 rfl));rfl)
    ((with_reducible apply j0 (nn 4) a7);rfl;kernel_rfl;exact (fun _ _ _ h=>h);exact xd3 hH;rfl;rfl)
    ((with_reducible apply j0 (nn 5) a7);rfl;kernel_rfl;exact (fun _ _ _ h=>h);exact xd3 hH;rfl;rfl)
    ((with_reducible apply k9 (nn 6));rfl;kernel_rfl;kernel_rfl;rfl;exact (fun _ _ _ h=>h);exact hH;rfl;(intro w2 hw2;(replace hw2:St _ _ w2 _:=hw2;apply Ld.st a7;rfl;exact (hw2.rowSl 1 rfl).rng hrowS1;rfl));rfl)
    ((with_reducible apply j0 (nn 7) a7);rfl;kernel_rfl;exact (fun _ _ _ h=>h);exact xd3 hH;rfl;rfl)
    refine a67 (i:=8) (j:=11) (by kernel_rfl) ?_ ?_
    ·refine l6 rfl (a0f (first:=[]) (caps:=[]) rfl rfl (hea _ ⟨(hR1.ar _ hxm1).now hS,hS.rowSl 0 rfl⟩)) rfl ?_;rintro _ w' ⟨rfl,hS'⟩;replace hS:=hS.transA hS';simp only [t4] at hS;clear hS';have hH:=hS.sub (xm8 [_,_] _);refine ⟨xd3 (xd3 hH),?_⟩
     ((with_reducible apply a0X (nn 9));rfl;kernel_rfl;kernel_rfl;kernel_rfl;rfl;exact (fun _ _ _ h=>h);exact xd3 hH;(intro a ha;exact a3s a7 (j:=ei1) rfl rfl rfl rfl (by omega) a ha _);rfl)
     ((with_reducible apply k9 (nn 10));rfl;kernel_rfl;kernel_rfl;rfl;exact (fun _ _ _ h=>h);exact hH;rfl;(intro w2 hw2;(replace hw2:St _ _ w2 _:=hw2;apply Ld.st a7;rfl;exact (hw2.rowSl 0 rfl).rng hrowE1;rfl));rfl)
     refine n7 (i:=11) (by kernel_rfl) ?_;refine l6 rfl (r8 hS a7 rfl rfl) rfl ?_;rintro _ w' ⟨gE,rfl,hS'⟩;clear hS;have hS:=hS';clear hS';have hH:=hS.drop.sub (xm8 [_,_] _);refine ⟨xd3 (xd3 hH),?_⟩;refine n7 (i:=12) (by kernel_rfl) ?_;refine a0E (Φ:=fun _ w'=>St _ _ w' _) rfl (n8 hS a7 (i:=0) rfl rfl rfl rfl rfl (xg2 rfl) (by intro u hu;simp [Value.cells] at hu;rcases hu with rfl|rfl|rfl <;> rfl)) ?_;intro _ w' hS';simp only [List.set] at hS';clear hS;have hS:=hS';clear hS';refine ⟨xd6 rfl,?_⟩;refine a0P (by kernel_rfl) ?_;replace hS:=hS.reorderT 6 [0,1,3,4,5,2] (by decide) rfl;simp only [t4,xm1,xm2] at hS;replace hS:=(hS.perm (List.Perm.swap _ _ _));replace hS:=St.pushE (y:=⟨s1,va1,.slice (some ⟨b1,0,none⟩) s1.entries.length c1⟩) hS 5 hx1 rfl;rw [a2o hx1] at hS;simp only [xl7,xl8,t4] at hS
     repeat' (fail)
     refine p8 _ (by exact Fr.sub_of rfl) trivial ?_;unfold rkS kvC frA slA a05;rw [List.append_nil];exact hS
    ·refine l6 rfl (r8 hS a7 rfl rfl) rfl ?_;rintro _ w' ⟨gE,rfl,hS'⟩;clear hS;have hS:=hS';clear hS';have hH:=hS.drop.sub (xm8 [_,_] _);refine ⟨xd3 (xd3 hH),?_⟩;refine n7 (i:=8) (by kernel_rfl) ?_;refine l6 rfl (a0f (first:=[]) (caps:=[]) rfl rfl (hea _ ⟨(hR1.ar _ hxm1).now hS,hS.rowSl 1 rfl⟩)) rfl ?_;rintro _ w' ⟨rfl,hS'⟩;replace hS:=hS.transA hS';simp only [t4] at hS;clear hS';have hH:=hS.drop.sub (xm8 [_,_] _);refine ⟨xd3 (xd3 hH),?_⟩
     ((with_reducible apply a0X (nn 9));rfl;kernel_rfl;kernel_rfl;kernel_rfl;rfl;exact (fun _ _ _ h=>h);exact xd3 hH;(intro a ha;exact a3s a7 (j:=ei1) rfl rfl rfl rfl (by omega) a ha _);rfl)
     ((with_reducible apply k9 (nn 10));rfl;kernel_rfl;kernel_rfl;rfl;exact (fun _ _ _ h=>h);exact hH;rfl;(intro w2 hw2;(replace hw2:St _ _ w2 _:=hw2;apply Ld.st a7;rfl;exact (hw2.rowSl 0 rfl).rng hrowE1;rfl));rfl)
     refine n7 (i:=12) (by kernel_rfl) ?_;refine a0E (Φ:=fun _ w'=>St _ _ w' _) rfl (n8 hS a7 (i:=0) rfl rfl rfl rfl rfl (xg2 rfl) (by intro u hu;simp [Value.cells] at hu;rcases hu with rfl|rfl|rfl <;> rfl)) ?_;intro _ w' hS';simp only [List.set] at hS';clear hS;have hS:=hS';clear hS';refine ⟨xd6 rfl,?_⟩;refine a0P (by kernel_rfl) ?_;replace hS:=hS.reorderT 6 [0,1,3,4,5,2] (by decide) rfl;simp only [t4,xm1,xm2] at hS;replace hS:=(hS.perm (List.Perm.swap _ _ _));replace hS:=St.pushE (y:=⟨s1,va1,.slice (some ⟨b1,0,none⟩) s1.entries.length c1⟩) hS 5 hx1 rfl;rw [a2o hx1] at hS;simp only [xl7,xl8,t4] at hS
     repeat' (fail)
     refine p8 _ (by exact Fr.sub_of rfl) trivial ?_;unfold rkS kvC frA slA a05;rw [List.append_nil];exact hS
   clear hS;rintro gE w3 - hS;obtain ⟨sw1,hs1⟩:=j5 (l:=sl1) (i:=j) (by omega);obtain ⟨bl,ol,cl,hvl⟩:=(hslV1 _ _ hS.drop).form1 hs1;subst hvl;have hrowL:=d5 (f:=swC) hs1;unfold swC at hrowL;have hs1d:sw1=a0K sl j:=by rw [<- hsl1];exact (a1z hs1).symm
   obtain ⟨fm1,hfm1⟩:=j5 (l:=fr1) (i:=R.2) (by omega);have hrowF:=d5 (f:=fmC) hfm1;unfold fmC at hrowF;have est:(fr1.map fmC).set R.2 (o5 [.string ⟨fm1.data.toArray⟩,.int .i64 fm1.refs,.bool fm1.dirty,.bool fm1.seen] 0 [.string ⟨sw1.data.toArray⟩,.int .i64 1,.bool true,.bool false])=(fr1.set R.2 ⟨sw1.data,1,true,false⟩).map fmC:=by
    rw [xl6];rfl
   unfold rkS kvC frA slA a05 at hS;dsimp only [List.cons_append,List.nil_append] at hS
   repeat' ((refine yDn (by with_reducible constructor) ?_))
   (focus ((with_reducible apply a0c _ _ _ 16 (by kernel_rfl) (by kernel_rfl) hS);(simp only [xl7,xl8,xm1,xm2]);(repeat' (first|(first|(with_reducible apply i9 a7);rfl;rfl|(with_reducible apply i7);rfl;(intro wd hd;replace hd:St _ _ wd _:=hd;(first|apply Ld.sc a7;rfl;exact hd.blkC 0 rfl rfl|apply Ld.sl a7;rfl;exact hd.blkC 1 rfl rfl));rfl|(with_reducible apply x6 a7);rfl;rfl;rfl;rfl;omega;rfl|(with_reducible apply a1U a7);rfl;rfl;exact (rfl:_=some [_,_,_,_]);rfl)|(with_reducible apply i7);rfl;(intro wd hd;replace hd:St _ _ wd _:=hd;(apply Ld.sc a7;rfl;exact (hslV1 _ _ hd.drop).cel0 hrowL rfl));rfl));all_goals ((with_reducible apply j9);intro w' hS';clear hS;have hS:=hS';clear hS')))
   repeat' (first|(with_reducible apply a8 a7);rfl;rfl;rfl|(with_reducible apply l4 a7);rfl;rfl;exact (rfl:_=some [_,_,_]);rfl|refine yDn (by with_reducible constructor) ?_|(with_reducible apply p7 hS a7 (i:=2));(iterate 4 rfl);assumption;(iterate 5 rfl);intro w' hS';simp only [List.set] at hS';clear hS;have hS:=hS';clear hS')
   rw [est] at hS;obtain ⟨k1,hk1⟩:∃ k1:KV,k1=⟨sh1,fr1,sl1,sps1,hand1,vsh1,.slice (some ⟨bf,0,none⟩) fr.length cf,.slice (some ⟨bl,ol,none⟩) sl1.length cl,.slice (some ⟨bs,0,none⟩) sps.length cs⟩:=⟨_,rfl⟩;replace hS:St G w w' (.blk gE (enC ⟨epg,ekd,(j:Nat)⟩)::(rkS g0 (a0M k1 R.2 ⟨sw1.data,1,true,false⟩)++[])):=by rw [hk1];exact hS
   have hvs:k1.vsp=.slice (some ⟨bs,0,none⟩) sps.length cs:=by rw [hk1]
   rw [<- hk1] at e1 l1 hr1 ha1 hxe1 hR1 hn1;obtain ⟨x1,hx1e⟩:∃ x1:Sp,x1=⟨s1,va1,.slice (some ⟨b1,off1,none⟩) s1.entries.length c1⟩:=⟨_,rfl⟩;have hxs:x1.s=s1:=by rw [hx1e]
   rw [<- hxs] at hsc1 hel1 hei1 hxe1;replace hx1:k1.sp[sp]?=some x1:=by rw [hk1,hx1e];exact hx1
   replace hS:=hS.perm List.perm_middle.symm;have hR2:=hR1.like (a1L k1 R.2 ⟨sw1.data,1,true,false⟩).like;have hput:=a8t hS (hR2.nowM hS) hx1 (e':=⟨page,1,(R.2:Nat)⟩) hsc1.rises (by omega);have hep:a14 (a0M k1 R.2 ⟨sw1.data,1,true,false⟩).vsp (sp * 3)=.pointer (some ⟨bs,0 + sp * 3,none⟩):=by
    rw [show (a0M k1 R.2 ⟨sw1.data,1,true,false⟩).vsp=k1.vsp from rfl,hvs];rfl
   rw [hep] at hput;unfold enC at hput;dsimp only at hput
   repeat' (first|(with_reducible apply a8 a7);rfl;rfl;rfl|refine yDn (by with_reducible constructor) ?_|(with_reducible apply o8);rfl;rfl;rfl;refine ⟨_,hput,?_⟩;rintro _ w3 ⟨rfl,ve',h3⟩;skip)
   replace hS:=St.transM (Δ:=rkS g0 (a5T (a0M k1 R.2 ⟨sw1.data,1,true,false⟩) sp x1 (putE x1.s.entries ⟨page,1,(R.2:Nat)⟩) ve')) hS h3;clear h3;clear hput;replace hS:St G w w3 (.blk gE [.int .i64 epg,.int .i64 ekd,.int .i64 (j:Nat)]::(rkS g0 (a5T (a0M k1 R.2 ⟨sw1.data,1,true,false⟩) sp x1 (putE x1.s.entries ⟨page,1,(R.2:Nat)⟩) ve')++[])):=hS.perm xn1
   repeat' (((with_reducible apply a9);rfl;(apply Ld.st a7;rfl;exact hS.blkR 0 rfl;rfl);rfl))
   replace hS:=hS.perm List.perm_middle.symm;have heo:=((a6y hr1 hx1 (xd0 hei1)).setF R.2 sw1.data true false).put sp x1 (putE x1.s.entries ⟨page,1,(R.2:Nat)⟩) ve';have hlet:=a74 hS heo;unfold enC at hlet;dsimp only at hlet
   repeat' (first|refine yDn (by with_reducible constructor) ?_|(with_reducible apply o8);rfl;rfl;rfl;refine ⟨_,hlet,?_⟩;rintro _ w4 ⟨rfl,h4⟩;skip)
   replace hS:=St.transM hS h4;clear h4 hlet;refine p8 (a2a (a5T (a0M k1 R.2 ⟨sw1.data,1,true,false⟩) sp x1 (putE x1.s.entries ⟨page,1,(R.2:Nat)⟩) ve') ⟨epg,ekd,(j:Nat)⟩) (by exact Fr.sub_of rfl) ⟨?_,((l1.trans (a1L _ _ _)).trans (a48 (k:=a0M k1 R.2 ⟨sw1.data,1,true,false⟩) hx1 _ _)).trans (a6V _ _)⟩ (hS.sub (xm8 _ _));rw [b0j,a9T (k:=a0M k1 R.2 ⟨sw1.data,1,true,false⟩) hx1,a8x,<- hxe1,b04 hn1,hAe,e1,hs1d]
 clear hS;rintro k1 w1 ⟨e1,l1⟩ hS;clear hea hspV haa hget;have hR0:KRo G w k0:=by rw [hk0];exact hR
 have hR1:=hR0.like l1.like;have hr1:Right k1.K:=by rw [e1];exact hbA.right
 have ha1:At k1.K sp page:=by rw [e1];exact ha.same hbA.same.ar hbA.same.live
 obtain ⟨x1,hx1,-,-,hxe1,-⟩:=a4h ha1;obtain ⟨hsc1,hel1⟩:=y8 hr1 x1.s (xd0 (a1J hx1));have hvf1:k1.vfr=.slice (some ⟨bf,0,none⟩) fr.length cf:=by rw [l1.vfr,hk0]
 have hvs1:k1.vsp=.slice (some ⟨bs,0,none⟩) sps.length cs:=by rw [l1.vsp,hk0]
 have hxm1:=xd0 hx1;have hn1:k7 (j3 k1.K sp) page=some ⟨page,1,(A.2:Nat)⟩:=by rw [e1];exact hbA.ent
 obtain ⟨f1,hf1⟩:∃ f1,f1=A.2:=⟨_,rfl⟩;rw [<- hf1] at hn1 |-;have hnf:=a1E hr1 hn1;have hfl1:f1 < k1.fr.length:=hnf.1;have hlen:k1.fr.length=fr.length:=by
  have h1:k1.fr.length=k1.K.frames.length:=rfl;rw [h1,e1,hbA.same.nfr];rfl
 have hea:=fun w1 (h:SpV w1 x1)=>a2r h page;have hix1:=a44 x1.s.entries page;generalize a1v (fun e:En=>decide (e.page=page)) x1.s.entries=ix1 at hea hix1;rw [<- hxe1,hn1] at hix1;rcases hix1 with ⟨h0,-⟩|⟨ei1,e',h0,rfl,hei1⟩
 ·cases h0
 cases h0
 rw [hxe1] at hei1;have heil1:=c9 hei1;rw [<- List.append_nil (rkS g0 k1)] at hS;obtain ⟨b1,off1,c1,hve1⟩:=((KerV.rk hS hR1).spv x1 (xd0 hx1)).en.form1 hei1;obtain ⟨s1,va1,ve1⟩:=x1;dsimp only at hve1 hsc1 hel1 hei1 hxe1 heil1;subst hve1;have hrowS1:=d5 (f:=spC) hx1;have hrowE1:=d5 (f:=enC) hei1;unfold spC at hrowS1 hea;unfold enC at hrowE1
 try dsimp only at hrowS1 hea hrowE1
 obtain ⟨sh1,fr1,sl1,sps1,hand1,vsh1,vfr1,vsl1,vsp1⟩:=k1;dsimp only at hvf1 hvs1 hx1 hxm1 hfl1 hlen hrowS1;subst hvf1 hvs1
 repeat' ((with_reducible apply a2T))
 refine a1w (F:=G) (w0:=w) (X:=Nat) (fun g=>[(0,.pointer (some ⟨g0,0,none⟩)),(1,.int .i64 (sp:Nat)),(2,.int .i64 page),(3,.int .i64 way),(4,vh),(11,.pointer (some ⟨bs,0 + sp * 3,none⟩)),(18,.pointer (some ⟨g,0,none⟩))]) (fun g=>.blk g [.int .i64 page,.int .i64 1,.int .i64 (f1:Nat)]::(rkS g0 ⟨sh1,fr1,sl1,sps1,hand1,vsh1,.slice (some ⟨bf,0,none⟩) fr.length cf,vsl1,.slice (some ⟨bs,0,none⟩) sps.length cs⟩++[])) (fun _=>True) ?_ ?_
 ·rw [List.append_nil] at hS;unfold rkS kvC frA slA a05 at hS;dsimp only [List.cons_append,List.nil_append] at hS;replace hS:=hS.pullE 4 hx1 rfl;simp only [xl7,xl8,t4] at hS;unfold a0b at hS;dsimp only at hS;have hoff:off1=0:=by
   rcases hS.rowForm 0 rfl with ⟨h1,-⟩|⟨q1,q2,h1,-⟩
   ·cases h1
   ·injection h1 with h1 _ _
    injection h1 with h1
    injection h1
  subst hoff;replace hS:=hS.reorderT 5 [0,4,1,2,3] (by decide) rfl;simp only [t4,xm1,xm2] at hS;refine a1l 2 12 13 rfl hS (by kernel_rfl) ?_;intro w10 hS';clear hS;have hS:=hS';clear hS';simp only [xl7,xl8];have hH:=hS.sub (xm8 [_,_] _)
  ((with_reducible apply j0 (nn 0) a7);rfl;kernel_rfl;exact (fun _ _ _ h=>h);exact xd3 hH;rfl;rfl)
  ((with_reducible apply j0 (nn 1) a7);rfl;kernel_rfl;exact (fun _ _ _ h=>h);exact xd3 hH;rfl;rfl)
  ((with_reducible apply j0 (nn 2) a7);rfl;kernel_rfl;exact (fun _ _ _ h=>h);exact xd3 hH;rfl;rfl)
  ((with_reducible apply k9 (nn 3));rfl;kernel_rfl;kernel_rfl;rfl;exact (fun _ _ _ h=>h);exact hH;rfl;(intro w2 hw2;(replace hw2:St _ _ w2 _:=hw2;apply Ld.sl a7;rfl;exact hw2.rowCj 1 rfl hrowS1 rfl));rfl)
  ((with_reducible apply j0 (nn 4) a7);rfl;kernel_rfl;exact (fun _ _ _ h=>h);exact xd3 hH;rfl;rfl)
  ((with_reducible apply j0 (nn 5) a7);rfl;kernel_rfl;exact (fun _ _ _ h=>h);exact xd3 hH;rfl;rfl)
  ((with_reducible apply k9 (nn 6));rfl;kernel_rfl;kernel_rfl;rfl;exact (fun _ _ _ h=>h);exact hH;rfl;(intro w2 hw2;(replace hw2:St _ _ w2 _:=hw2;apply Ld.st a7;rfl;exact (hw2.rowSl 1 rfl).rng hrowS1;rfl));rfl)
  ((with_reducible apply j0 (nn 7) a7);rfl;kernel_rfl;exact (fun _ _ _ h=>h);exact xd3 hH;rfl;rfl)
  refine a67 (i:=8) (j:=11) (by kernel_rfl) ?_ ?_
  ·refine l6 rfl (a0f (first:=[]) (caps:=[]) rfl rfl (hea _ ⟨(hR1.ar _ hxm1).now hS,hS.rowSl 0 rfl⟩)) rfl ?_;rintro _ w' ⟨rfl,hS'⟩;replace hS:=hS.transA hS';simp only [t4] at hS;clear hS';have hH:=hS.sub (xm8 [_,_] _);refine ⟨xd3 (xd3 hH),?_⟩
   ((with_reducible apply a0X (nn 9));rfl;kernel_rfl;kernel_rfl;kernel_rfl;rfl;exact (fun _ _ _ h=>h);exact xd3 hH;(intro a ha;exact a3s a7 (j:=ei1) rfl rfl rfl rfl (by omega) a ha _);rfl)
   ((with_reducible apply k9 (nn 10));rfl;kernel_rfl;kernel_rfl;rfl;exact (fun _ _ _ h=>h);exact hH;rfl;(intro w2 hw2;(replace hw2:St _ _ w2 _:=hw2;apply Ld.st a7;rfl;exact (hw2.rowSl 0 rfl).rng hrowE1;rfl));rfl)
   refine n7 (i:=11) (by kernel_rfl) ?_;refine l6 rfl (r8 hS a7 rfl rfl) rfl ?_;rintro _ w' ⟨gE,rfl,hS'⟩;clear hS;have hS:=hS';clear hS';have hH:=hS.drop.sub (xm8 [_,_] _);refine ⟨xd3 (xd3 hH),?_⟩;refine n7 (i:=12) (by kernel_rfl) ?_;refine a0E (Φ:=fun _ w'=>St _ _ w' _) rfl (n8 hS a7 (i:=0) rfl rfl rfl rfl rfl (xg2 rfl) (by intro u hu;simp [Value.cells] at hu;rcases hu with rfl|rfl|rfl <;> rfl)) ?_;intro _ w' hS';simp only [List.set] at hS';clear hS;have hS:=hS';clear hS';refine ⟨xd6 rfl,?_⟩;refine a0P (by kernel_rfl) ?_;replace hS:=hS.reorderT 6 [0,1,3,4,5,2] (by decide) rfl;simp only [t4,xm1,xm2] at hS;replace hS:=(hS.perm (List.Perm.swap _ _ _));replace hS:=St.pushE (y:=⟨s1,va1,.slice (some ⟨b1,0,none⟩) s1.entries.length c1⟩) hS 5 hx1 rfl;rw [a2o hx1] at hS;simp only [xl7,xl8,t4] at hS
   repeat' (fail)
   refine p8 _ (by exact Fr.sub_of rfl) trivial ?_;unfold rkS kvC frA slA a05;rw [List.append_nil];exact hS
  ·refine l6 rfl (r8 hS a7 rfl rfl) rfl ?_;rintro _ w' ⟨gE,rfl,hS'⟩;clear hS;have hS:=hS';clear hS';have hH:=hS.drop.sub (xm8 [_,_] _);refine ⟨xd3 (xd3 hH),?_⟩;refine n7 (i:=8) (by kernel_rfl) ?_;refine l6 rfl (a0f (first:=[]) (caps:=[]) rfl rfl (hea _ ⟨(hR1.ar _ hxm1).now hS,hS.rowSl 1 rfl⟩)) rfl ?_;rintro _ w' ⟨rfl,hS'⟩;replace hS:=hS.transA hS';simp only [t4] at hS;clear hS';have hH:=hS.drop.sub (xm8 [_,_] _);refine ⟨xd3 (xd3 hH),?_⟩
   ((with_reducible apply a0X (nn 9));rfl;kernel_rfl;kernel_rfl;kernel_rfl;rfl;exact (fun _ _ _ h=>h);exact xd3 hH;(intro a ha;exact a3s a7 (j:=ei1) rfl rfl rfl rfl (by omega) a ha _);rfl)
   ((with_reducible apply k9 (nn 10));rfl;kernel_rfl;kernel_rfl;rfl;exact (fun _ _ _ h=>h);exact hH;rfl;(intro w2 hw2;(replace hw2:St _ _ w2 _:=hw2;apply Ld.st a7;rfl;exact (hw2.rowSl 0 rfl).rng hrowE1;rfl));rfl)
   refine n7 (i:=12) (by kernel_rfl) ?_;refine a0E (Φ:=fun _ w'=>St _ _ w' _) rfl (n8 hS a7 (i:=0) rfl rfl rfl rfl rfl (xg2 rfl) (by intro u hu;simp [Value.cells] at hu;rcases hu with rfl|rfl|rfl <;> rfl)) ?_;intro _ w' hS';simp only [List.set] at hS';clear hS;have hS:=hS';clear hS';refine ⟨xd6 rfl,?_⟩;refine a0P (by kernel_rfl) ?_;replace hS:=hS.reorderT 6 [0,1,3,4,5,2] (by decide) rfl;simp only [t4,xm1,xm2] at hS;replace hS:=(hS.perm (List.Perm.swap _ _ _));replace hS:=St.pushE (y:=⟨s1,va1,.slice (some ⟨b1,0,none⟩) s1.entries.length c1⟩) hS 5 hx1 rfl;rw [a2o hx1] at hS;simp only [xl7,xl8,t4] at hS
   repeat' (fail)
   refine p8 _ (by exact Fr.sub_of rfl) trivial ?_;unfold rkS kvC frA slA a05;rw [List.append_nil];exact hS
 clear hS;rintro gB w3 - hS;obtain ⟨fm1,hfm1⟩:=j5 (l:=fr1) (i:=f1) (by omega);have hrowF:=d5 (f:=fmC) hfm1;unfold fmC at hrowF;have hH0:=hH;clear hH;obtain ⟨B,hB⟩:∃ B,B=a3H A.1 sp page (decide (way=1)) held f1:=⟨_,rfl⟩;rw [<- hB];obtain ⟨k2,hk2⟩:∃ k2:KV,k2=⟨sh1,fr1,sl1,sps1,hand1,vsh1,.slice (some ⟨bf,0,none⟩) fr.length cf,vsl1,.slice (some ⟨bs,0,none⟩) sps.length cs⟩:=⟨_,rfl⟩;rw [<- hk2] at l1 e1 hr1 hR1 ha1 hn1 hxe1;have hx2:k2.sp[sp]?=some ⟨s1,va1,.slice (some ⟨b1,off1,none⟩) s1.entries.length c1⟩:=by rw [hk2];exact hx1
 have hfmA:j7 A.1.frames f1=fm1:=by rw [<- e1,hk2];exact m8 hfm1
 have hfold:∀ w1,St G w w1 (.blk gB [.int .i64 page,.int .i64 1,.int .i64 (f1:Nat)]::.blk g0 [vsh1,.slice (some ⟨bf,0,none⟩) fr.length cf,vsl1,.slice (some ⟨bs,0,none⟩) sps.length cs,.int .i64 hand1]::.row 89 4 (.slice (some ⟨bf,0,none⟩) fr.length cf) (fr1.map fmC)::.row 143 2 vsl1 (sl1.map swC)::.row 75 3 (.slice (some ⟨bs,0,none⟩) sps.length cs) (sps1.map spC)::(sps1.map a0b++[]))->St G w w1 (.blk gB [.int .i64 page,.int .i64 1,.int .i64 (f1:Nat)]::(rkS g0 k2++[])):=fun w1 h=>by rw [hk2];exact h
 unfold rkS kvC frA slA a05 at hS;dsimp only [List.cons_append,List.nil_append] at hS
 repeat' ((with_reducible apply a2T))
 refine a1w (F:=G) (w0:=w) (X:=Unit) (fun _=>[(0,.pointer (some ⟨g0,0,none⟩)),(1,.int .i64 (sp:Nat)),(2,.int .i64 page),(3,.int .i64 way),(4,vh),(11,.pointer (some ⟨bs,0 + sp * 3,none⟩)),(18,.pointer (some ⟨gB,0,none⟩)),(134,.bool (decide (way=1/\1 < fm1.refs)))]) (fun _=>(.blk gB [.int .i64 page,.int .i64 1,.int .i64 (f1:Nat)]::.blk g0 [vsh1,.slice (some ⟨bf,0,none⟩) fr.length cf,vsl1,.slice (some ⟨bs,0,none⟩) sps.length cs,.int .i64 hand1]::.row 89 4 (.slice (some ⟨bf,0,none⟩) fr.length cf) (fr1.map fmC)::.row 143 2 vsl1 (sl1.map swC)::.row 75 3 (.slice (some ⟨bs,0,none⟩) sps.length cs) (sps1.map spC)::(sps1.map a0b++[]))) (fun _=>True) ?_ ?_
 ·by_cases hw:way=1
  ·have hdw:decide (way=1)=true:=xj7 hw;have hdr:decide (1 < fm1.refs)=decide (way=1/\1 < fm1.refs):=xo6.2 ⟨fun h=>⟨hw,h⟩,fun h=>h.2⟩;rw [<- hdr]
   (focus ((with_reducible apply d8 _ _ _ (by kernel_rfl) (by kernel_rfl) hS);(repeat' ((first|(with_reducible apply i9 a7);rfl;rfl|(with_reducible apply i7);rfl;(intro wd hd;replace hd:St _ _ wd _:=hd;(first|apply Ld.sc a7;rfl;(first|exact hd.blkC 0 rfl rfl|exact hd.rowCj 2 rfl (by assumption) rfl)|apply Ld.sl a7;rfl;exact hd.blkC 1 rfl rfl));rfl|(with_reducible apply x6 a7);rfl;rfl;rfl;rfl;omega;rfl|(first|(with_reducible apply a0p);(iterate 4 rfl);assumption|(with_reducible apply t7);rfl;assumption;rfl;rfl))));all_goals ((with_reducible apply j9);intro w' hS';clear hS;have hS:=hS';clear hS')))
   repeat' ((refine yDn (by with_reducible constructor) ?_))
   exact p8 () (by exact Fr.sub_of rfl) trivial hS
  ·have hdw:decide (way=1)=false:=xj5 hw;rw [show decide (way=1/\1 < fm1.refs)=false from xj5 (fun h=>hw h.1)]
   (focus ((with_reducible apply d8 _ _ _ (by kernel_rfl) (by kernel_rfl) hS);(repeat' ((first|(with_reducible apply i9 a7);rfl;rfl|(first|(with_reducible apply a2j);(iterate 4 rfl);assumption;rfl|(with_reducible apply r7);rfl;assumption;rfl;rfl))));all_goals ((with_reducible apply j9);intro w' hS';clear hS;have hS:=hS';clear hS')))
   repeat' ((refine yDn (by with_reducible constructor) ?_))
   exact p8 () (by exact Fr.sub_of rfl) trivial hS
 clear hS;rintro - w4 - hS
 repeat' (fail)
 refine a1w (F:=G) (w0:=w) (X:=KV) (fun _=>[(0,.pointer (some ⟨g0,0,none⟩)),(3,.int .i64 way),(18,.pointer (some ⟨gB,0,none⟩))]) (fun k'=>.blk gB [.int .i64 page,.int .i64 1,.int .i64 (B.2:Nat)]::(rkS g0 k'++[])) (fun k'=>k'.K=B.1/\RLike k2 k') ?_ ?_
 ·by_cases hwr:way=1/\1 < fm1.refs;rotate_left
  ·have hBe:B=(A.1,f1):=by
    rw [hB];unfold a3H;rw [hfmA,xf1 (fun h=>hwr ⟨xo3 h.1,h.2⟩)]
   rw [hBe];rw [xj5 hwr]
   repeat' (first|refine yDn (by with_reducible constructor) ?_|(with_reducible apply f8);rfl;rfl)
   exact p8 k2 (by exact Fr.sub_of rfl) ⟨e1,RLike.refl _⟩ (hfold _ hS)
  rw [xj7 hwr];have hBe:B=(inK (y9 A.1 (held++[f1])).1 sp page (y9 A.1 (held++[f1])).2 fm1.data true,(y9 A.1 (held++[f1])).2):=by
   rw [hB];unfold a3H;rw [hfmA,xf0 ⟨xj7 hwr.1,hwr.2⟩]
  have hl2:(held++[f1]).length<=2:=by rw [xe9,xi7];omega
  rw [<- e1] at hBe;have hg:=a3Y hr1 (held:=held++[f1]) hl2;have hfo:=a21 hr1 (held:=held++[f1]) hl2;obtain ⟨R,hRe⟩:∃ R,R=y9 k2.K (held++[f1]):=⟨_,rfl⟩;have hgt:=fun w1 Γ1 v (h:St G w w1 (rkS g0 k2++Γ1)) (hv:Sl (fps (rkS g0 k2)) w1 1 v ((held++[f1]).map a2U))=>b07 h hv hfo;rw [<- hRe] at hg hBe hgt
  repeat' (first|refine yDn (by with_reducible constructor) ?_|(with_reducible apply f6);rfl;rfl)
  refine a1w (F:=G) (w0:=w) (X:=KV) (fun _=>[(0,.pointer (some ⟨g0,0,none⟩)),(2,.int .i64 page),(3,.int .i64 way),(11,.pointer (some ⟨bs,0 + sp * 3,none⟩)),(18,.pointer (some ⟨gB,0,none⟩)),(19,.int .i64 (R.2:Nat))]) (fun k'=>.blk gB [.int .i64 page,.int .i64 1,.int .i64 (f1:Nat)]::(rkS g0 k'++[])) (fun k'=>k'.K=R.1/\RLike k2 k') ?_ ?_
  ·rw [List.append_nil] at hS;refine a1l 1 9 10 rfl hS (by kernel_rfl) ?_;intro w10 hS';clear hS;have hS:=hS';clear hS';simp only [xl7,xl8];have hH:=hS.sub (xm8 [_] _)
   ((with_reducible apply j0 (nn 0) a7);rfl;kernel_rfl;exact (fun _ _ _ h=>h);exact xd3 hH;rfl;rfl)
   ((with_reducible apply j0 (nn 2) a7);rfl;kernel_rfl;exact (fun _ _ _ h=>h);exact xd3 hH;rfl;rfl)
   ((with_reducible apply j0 (nn 4) a7);rfl;kernel_rfl;exact (fun _ _ _ h=>h);exact xd3 hH;rfl;rfl)
   ((with_reducible apply k9 (nn 5));rfl;kernel_rfl;kernel_rfl;rfl;exact (fun _ _ _ h=>h);exact hH;rfl;(intro w2 hw2;(replace hw2:St _ _ w2 _:=hw2;(apply Ld.sc a7;rfl;exact hw2.blkC 0 rfl rfl)));rfl)
   refine a67 (i:=1) (j:=6) (by kernel_rfl) ?_ ?_
   ·refine l6 rfl (w9 hS a7 rfl rfl rfl rfl rfl rfl) rfl ?_;rintro _ w' ⟨gA,rfl,hS'⟩;clear hS;have hS:=hS';clear hS';refine ⟨xd3 (xd3 (hS.drop.sub (xm8 [_] _))),?_⟩;refine a67 (i:=3) (j:=6) (by kernel_rfl) ?_ ?_
    ·refine l6 rfl (a0B hS a7 (i:=0) rfl rfl rfl rfl (hH0.now hS) (by simp only [xj4,xa2];omega)) rfl ?_;rintro _ w' ⟨qA,cA,rfl,hS'⟩;simp only [List.set,xa2,xj4,xa9,List.nil_append] at hS' |-;clear hS;have hS:=hS';clear hS';refine ⟨xd3 (xd3 (hS.drop.sub (xm8 [_] _))),?_⟩;refine n7 (i:=6) (by kernel_rfl) ?_;refine l6 rfl (w9 hS a7 rfl rfl rfl rfl rfl rfl) rfl ?_;rintro _ w' ⟨gC,rfl,hS'⟩;clear hS;have hS:=hS';clear hS';refine ⟨xd3 (xd3 (hS.drop.drop.sub (xm8 [_] _))),?_⟩;refine n7 (i:=7) (by kernel_rfl) ?_;refine l6 rfl (a0w hS a7 (i:=1) rfl rfl rfl rfl (hS.rowRo 0 rfl) rfl (by simp only [xj4,xb1,xa2];omega)) rfl ?_;rintro _ w' ⟨p',c',rfl,hS'⟩;simp only [List.set,xj4] at hS' |-;clear hS;have hS:=hS';clear hS';have hH:=hS.drop.drop.sub (xm8 [_] _);refine ⟨xd3 (xd3 hH),?_⟩;have hrws:held.map a2U++[[Value.int .i64 (f1:Nat)]]=(held++[f1]).map a2U:=by rw [xm0];rfl
     rw [hrws] at hS;have hS2:=hS.perm (xm9 (l₁:=[_,_,_]));replace hS2:St G w w' (rkS g0 k2++[.row 3 1 (.slice (some ⟨gC,0,none⟩) 1 1) [[.int .i64 (f1:Nat)]],.row 3 1 (.slice p' (held.length + 1) c') ((held++[f1]).map a2U),.blk gB [.int .i64 page,.int .i64 1,.int .i64 (f1:Nat)]]):=by rw [hk2];exact hS2
     refine n7 (i:=8) (by kernel_rfl) ?_;refine l6 rfl (a0f (first:=[]) (caps:=[]) rfl rfl (hgt _ _ _ hS2 (hS2.ownSl 1 rfl))) rfl ?_;rintro _ w' ⟨rfl,k3,e3,l3,h3⟩;replace hS:=(St.transM hS2 h3).perm xm9;have hH:=hS.drop.drop.sub (xm8 [_] _);refine ⟨xd3 (xd3 hH),?_⟩;refine n7 (i:=9) (by kernel_rfl) ?_;refine l6 rfl (Gets.pure a7 rfl) rfl ?_;rintro _ _ ⟨rfl,rfl⟩;refine ⟨xd6 rfl,?_⟩;refine a0P (by kernel_rfl) ?_
     repeat' (fail)
     refine p8 k3 (by exact Fr.sub_of rfl) ⟨e3,l3⟩ ?_;rw [List.append_nil];exact hS.drop.drop
    ·refine l6 rfl (w9 hS a7 rfl rfl rfl rfl rfl rfl) rfl ?_;rintro _ w' ⟨gC,rfl,hS'⟩;clear hS;have hS:=hS';clear hS';refine ⟨xd3 (xd3 (hS.drop.drop.sub (xm8 [_] _))),?_⟩;refine n7 (i:=3) (by kernel_rfl) ?_;refine l6 rfl (a0B hS a7 (i:=1) rfl rfl rfl rfl (hH0.now hS) (by simp only [xj4,xa2];omega)) rfl ?_;rintro _ w' ⟨qA,cA,rfl,hS'⟩;simp only [List.set,xa2,xj4,xa9,List.nil_append] at hS' |-;clear hS;have hS:=hS';clear hS';refine ⟨xd3 (xd3 (hS.drop.drop.sub (xm8 [_] _))),?_⟩;refine n7 (i:=7) (by kernel_rfl) ?_;refine l6 rfl (a0w hS a7 (i:=1) rfl rfl rfl rfl (hS.rowRo 0 rfl) rfl (by simp only [xj4,xb1,xa2];omega)) rfl ?_;rintro _ w' ⟨p',c',rfl,hS'⟩;simp only [List.set,xj4] at hS' |-;clear hS;have hS:=hS';clear hS';have hH:=hS.drop.drop.sub (xm8 [_] _);refine ⟨xd3 (xd3 hH),?_⟩;have hrws:held.map a2U++[[Value.int .i64 (f1:Nat)]]=(held++[f1]).map a2U:=by rw [xm0];rfl
     rw [hrws] at hS;have hS2:=hS.perm (xm9 (l₁:=[_,_,_]));replace hS2:St G w w' (rkS g0 k2++[.row 3 1 (.slice (some ⟨gC,0,none⟩) 1 1) [[.int .i64 (f1:Nat)]],.row 3 1 (.slice p' (held.length + 1) c') ((held++[f1]).map a2U),.blk gB [.int .i64 page,.int .i64 1,.int .i64 (f1:Nat)]]):=by rw [hk2];exact hS2
     refine n7 (i:=8) (by kernel_rfl) ?_;refine l6 rfl (a0f (first:=[]) (caps:=[]) rfl rfl (hgt _ _ _ hS2 (hS2.ownSl 1 rfl))) rfl ?_;rintro _ w' ⟨rfl,k3,e3,l3,h3⟩;replace hS:=(St.transM hS2 h3).perm xm9;have hH:=hS.drop.drop.sub (xm8 [_] _);refine ⟨xd3 (xd3 hH),?_⟩;refine n7 (i:=9) (by kernel_rfl) ?_;refine l6 rfl (Gets.pure a7 rfl) rfl ?_;rintro _ _ ⟨rfl,rfl⟩;refine ⟨xd6 rfl,?_⟩;refine a0P (by kernel_rfl) ?_
     repeat' (fail)
     refine p8 k3 (by exact Fr.sub_of rfl) ⟨e3,l3⟩ ?_;rw [List.append_nil];exact hS.drop.drop
   ·refine l6 rfl (w9 hS a7 rfl rfl rfl rfl rfl rfl) rfl ?_;rintro _ w' ⟨gC,rfl,hS'⟩;clear hS;have hS:=hS';clear hS';refine ⟨xd3 (xd3 (hS.drop.sub (xm8 [_] _))),?_⟩;refine n7 (i:=1) (by kernel_rfl) ?_;refine l6 rfl (w9 hS a7 rfl rfl rfl rfl rfl rfl) rfl ?_;rintro _ w' ⟨gA,rfl,hS'⟩;clear hS;have hS:=hS';clear hS';refine ⟨xd3 (xd3 (hS.drop.drop.sub (xm8 [_] _))),?_⟩;refine n7 (i:=3) (by kernel_rfl) ?_;refine l6 rfl (a0B hS a7 (i:=0) rfl rfl rfl rfl (hH0.now hS) (by simp only [xj4,xa2];omega)) rfl ?_;rintro _ w' ⟨qA,cA,rfl,hS'⟩;simp only [List.set,xa2,xj4,xa9,List.nil_append] at hS' |-;clear hS;have hS:=hS';clear hS';refine ⟨xd3 (xd3 (hS.drop.drop.sub (xm8 [_] _))),?_⟩;replace hS:=St.reorderT 2 [1,0] hS (by decide) rfl;simp only [t4,xm1,xm2] at hS;refine n7 (i:=7) (by kernel_rfl) ?_;refine l6 rfl (a0w hS a7 (i:=1) rfl rfl rfl rfl (hS.rowRo 0 rfl) rfl (by simp only [xj4,xb1,xa2];omega)) rfl ?_;rintro _ w' ⟨p',c',rfl,hS'⟩;simp only [List.set,xj4] at hS' |-;clear hS;have hS:=hS';clear hS';have hH:=hS.drop.drop.sub (xm8 [_] _);refine ⟨xd3 (xd3 hH),?_⟩;have hrws:held.map a2U++[[Value.int .i64 (f1:Nat)]]=(held++[f1]).map a2U:=by rw [xm0];rfl
    rw [hrws] at hS;have hS2:=hS.perm (xm9 (l₁:=[_,_,_]));replace hS2:St G w w' (rkS g0 k2++[.row 3 1 (.slice (some ⟨gC,0,none⟩) 1 1) [[.int .i64 (f1:Nat)]],.row 3 1 (.slice p' (held.length + 1) c') ((held++[f1]).map a2U),.blk gB [.int .i64 page,.int .i64 1,.int .i64 (f1:Nat)]]):=by rw [hk2];exact hS2
    refine n7 (i:=8) (by kernel_rfl) ?_;refine l6 rfl (a0f (first:=[]) (caps:=[]) rfl rfl (hgt _ _ _ hS2 (hS2.ownSl 1 rfl))) rfl ?_;rintro _ w' ⟨rfl,k3,e3,l3,h3⟩;replace hS:=(St.transM hS2 h3).perm xm9;have hH:=hS.drop.drop.sub (xm8 [_] _);refine ⟨xd3 (xd3 hH),?_⟩;refine n7 (i:=9) (by kernel_rfl) ?_;refine l6 rfl (Gets.pure a7 rfl) rfl ?_;rintro _ _ ⟨rfl,rfl⟩;refine ⟨xd6 rfl,?_⟩;refine a0P (by kernel_rfl) ?_
    repeat' (fail)
    refine p8 k3 (by exact Fr.sub_of rfl) ⟨e3,l3⟩ ?_;rw [List.append_nil];exact hS.drop.drop
  clear hS;rintro k1 w5 ⟨e3,l3⟩ hS;have hnf2:(j7 k2.K.frames f1).refs≠0:=by rw [hk2];exact hnf.2.1
  have hkp:=hg.kept f1 (xe6 _ xc5) hnf2;have hn3:k7 (j3 k1.K sp) page=some ⟨page,1,(f1:Nat)⟩:=by rw [e3];exact hg.some_ _ _ _ hn1 (xd3 ⟨f1,xe6 _ xc5,rfl,hnf2⟩)
  have hR1:=hR1.like l3.like;have hr3:Right k1.K:=by rw [e3];exact hg.right
  have ha3:At k1.K sp page:=by rw [e3];exact ha1.same hg.same.ar hg.same.live
  clear hsc1 hel1 hei1 hxe1 hx1 hxm1 hrowF hfm1 hfold;obtain ⟨x1,hx1,-,-,hxe1,-⟩:=a4h ha3;obtain ⟨hsc1,hel1⟩:=y8 hr3 x1.s (xd0 (a1J hx1));have hvs:k1.vsp=.slice (some ⟨bs,0,none⟩) sps.length cs:=by rw [l3.vsp,hk2]
  have hvf3:k1.vfr=.slice (some ⟨bf,0,none⟩) fr.length cf:=by rw [l3.vfr,hk2]
  have hfmd:j7 k1.fr f1=fm1:=by
   have h1:k1.fr=k1.K.frames:=rfl;rw [h1,e3,hkp.2,e1];exact hfmA
  have hl3:k1.fr.length=fr.length:=by
   have h1:k1.fr.length=k1.K.frames.length:=rfl;rw [h1,e3,hg.same.nfr,hk2];exact hlen
  have hRl:R.2 < fr.length:=by
   have h1:=hg.lt;rw [hk2] at h1;have h2:R.2 < fr1.length:=h1;omega
  obtain ⟨i1,hi1⟩:∃ i1:Nat,x1.s.entries[i1]?=some ⟨page,1,(f1:Nat)⟩:=by
   rw [hxe1] at hn3;exact List.getElem?_of_mem (y6 hn3).1
  have heo0:=a6y hr3 hx1 (xd0 hi1);obtain ⟨sh3,fr3,sl3,sps3,hand3,vsh3,vfr3,vsl3,vsp3⟩:=k1;dsimp only at hvf3 hvs hx1 hl3 hfmd;subst hvf3 hvs;obtain ⟨fm3,hfm3⟩:=j5 (l:=fr3) (i:=f1) (by omega);rw [m8 hfm3] at hfmd;subst hfmd;have hrowF3:=d5 (f:=fmC) hfm3;unfold fmC at hrowF3;obtain ⟨fm4,hfm4⟩:=j5 (l:=fr3) (i:=R.2) (by omega);have hrowF4:=d5 (f:=fmC) hfm4;unfold fmC at hrowF4;have est:(fr3.map fmC).set R.2 (o5 [.string ⟨fm4.data.toArray⟩,.int .i64 fm4.refs,.bool fm4.dirty,.bool fm4.seen] 0 [.string ⟨fm3.data.toArray⟩,.int .i64 1,.bool true,.bool false])=(fr3.set R.2 ⟨fm3.data,1,true,false⟩).map fmC:=by
   rw [xl6];rfl
  unfold rkS kvC frA slA a05 at hS;dsimp only [List.cons_append,List.nil_append] at hS
  repeat' ((refine yDn (by with_reducible constructor) ?_))
  (focus ((with_reducible apply a0c _ _ _ 16 (by kernel_rfl) (by kernel_rfl) hS);(simp only [xl7,xl8,xm1,xm2]);(repeat' ((first|(with_reducible apply i9 a7);rfl;rfl|(with_reducible apply i7);rfl;(intro wd hd;replace hd:St _ _ wd _:=hd;(first|apply Ld.sc a7;rfl;(first|exact hd.blkC 0 rfl rfl|exact hd.rowC0 2 rfl (by assumption) rfl)|apply Ld.sl a7;rfl;exact hd.blkC 1 rfl rfl));rfl|(with_reducible apply x6 a7);rfl;rfl;rfl;rfl;omega;rfl|(with_reducible apply a1U a7);rfl;rfl;exact (rfl:_=some [_,_,_,_]);rfl)));all_goals ((with_reducible apply j9);intro w' hS';clear hS;have hS:=hS';clear hS')))
  repeat' (first|(with_reducible apply a8 a7);rfl;rfl;rfl|(with_reducible apply l4 a7);rfl;rfl;exact (rfl:_=some [_,_,_]);rfl|refine yDn (by with_reducible constructor) ?_|(with_reducible apply p7 hS a7 (i:=2));(iterate 4 rfl);assumption;(iterate 5 rfl);intro w' hS';simp only [List.set] at hS';clear hS;have hS:=hS';clear hS')
  rw [est] at hS;obtain ⟨k1,hk1⟩:∃ k1:KV,k1=⟨sh3,fr3,sl3,sps3,hand3,vsh3,.slice (some ⟨bf,0,none⟩) fr.length cf,vsl3,.slice (some ⟨bs,0,none⟩) sps.length cs⟩:=⟨_,rfl⟩;replace hS:St G w w' (.blk gB [.int .i64 page,.int .i64 1,.int .i64 (f1:Nat)]::(rkS g0 (a0M k1 R.2 ⟨fm3.data,1,true,false⟩)++[])):=by rw [hk1];exact hS
  have hvs:k1.vsp=.slice (some ⟨bs,0,none⟩) sps.length cs:=by rw [hk1]
  rw [<- hk1] at e3 l3 hxe1 hR1 hn3 heo0;replace hx1:k1.sp[sp]?=some x1:=by rw [hk1];exact hx1
  replace hS:=hS.perm List.perm_middle.symm;have hR2:=hR1.like (a1L k1 R.2 ⟨fm3.data,1,true,false⟩).like;have hput:=a8t hS (hR2.nowM hS) hx1 (e':=⟨page,1,(R.2:Nat)⟩) hsc1.rises (by omega);have hep:a14 (a0M k1 R.2 ⟨fm3.data,1,true,false⟩).vsp (sp * 3)=.pointer (some ⟨bs,0 + sp * 3,none⟩):=by
   rw [show (a0M k1 R.2 ⟨fm3.data,1,true,false⟩).vsp=k1.vsp from rfl,hvs];rfl
  rw [hep] at hput;unfold enC at hput;dsimp only at hput
  repeat' (first|(with_reducible apply a8 a7);rfl;rfl;rfl|refine yDn (by with_reducible constructor) ?_|(with_reducible apply o8);rfl;rfl;rfl;refine ⟨_,hput,?_⟩;rintro _ w3 ⟨rfl,ve',h3⟩;skip)
  replace hS:=St.transM (Δ:=rkS g0 (a5T (a0M k1 R.2 ⟨fm3.data,1,true,false⟩) sp x1 (putE x1.s.entries ⟨page,1,(R.2:Nat)⟩) ve')) hS h3;clear h3;clear hput;replace hS:St G w w3 (.blk gB [.int .i64 page,.int .i64 1,.int .i64 (f1:Nat)]::(rkS g0 (a5T (a0M k1 R.2 ⟨fm3.data,1,true,false⟩) sp x1 (putE x1.s.entries ⟨page,1,(R.2:Nat)⟩) ve')++[])):=hS.perm xn1
  repeat' (((with_reducible apply a9);rfl;(apply Ld.st a7;rfl;exact hS.blkR 0 rfl;rfl);rfl))
  replace hS:=hS.perm List.perm_middle.symm;have heo:=(heo0.setF R.2 fm3.data true false).put sp x1 (putE x1.s.entries ⟨page,1,(R.2:Nat)⟩) ve';have hlet:=a74 hS heo;unfold enC at hlet;dsimp only at hlet
  repeat' (first|(with_reducible apply a8 a7);rfl;rfl;rfl|refine yDn (by with_reducible constructor) ?_|(with_reducible apply o8);rfl;rfl;rfl;refine ⟨_,hlet,?_⟩;rintro _ w6 ⟨rfl,h4⟩;skip)
  replace hS:=(St.transM hS h4).perm xn1;clear h4 hlet
  repeat' (first|refine yDn (by with_reducible constructor) ?_|(with_reducible apply b8 hS a7 (i:=0));(iterate 8 rfl);exact (rfl:_=[_,_,_]);clear hS;intro w' hS;simp only [List.set] at hS)
  refine p8 (a2a (a5T (a0M k1 R.2 ⟨fm3.data,1,true,false⟩) sp x1 (putE x1.s.entries ⟨page,1,(R.2:Nat)⟩) ve') ⟨page,1,(f1:Nat)⟩) (by exact Fr.sub_of rfl) ⟨?_,((l3.trans (a1L _ _ _)).trans (a48 (k:=a0M k1 R.2 ⟨fm3.data,1,true,false⟩) hx1 _ _)).trans (a6V _ _)⟩ ?_
  ·rw [b0j,a9T (k:=a0M k1 R.2 ⟨fm3.data,1,true,false⟩) hx1,a8x,<- hxe1,b04 hn3,hBe,e3]
  ·rw [hBe];exact hS
 clear hS hfold;rintro k3 w5 ⟨e3,l3⟩ hS;have hAB:=(a4o hr ha (decide (way=1)) hl hh).1;unfold a1k at hAB;rw [<- hA,<- hf1,<- hB] at hAB;have hvf3:k3.vfr=.slice (some ⟨bf,0,none⟩) fr.length cf:=by rw [l3.vfr,hk2]
 have hBl:B.2 < fr.length:=by
  have h1:=(a1E hAB.right hAB.ent).1;rw [hAB.same.nfr] at h1;exact h1
 have hl3:k3.fr.length=fr.length:=by
  have h1:k3.fr.length=k3.K.frames.length:=rfl;rw [h1,e3,hAB.same.nfr];rfl
 have hlk:RLike ⟨sh,fr,sl,sps,hand,vsh,.slice (some ⟨bf,0,none⟩) fr.length cf,vsl,.slice (some ⟨bs,0,none⟩) sps.length cs⟩ k3:=by rw [<- hk0];exact l1.trans l3
 obtain ⟨sh3,fr3,sl3,sps3,hand3,vsh3,vfr3,vsl3,vsp3⟩:=k3;dsimp only at hvf3 hl3;subst hvf3;obtain ⟨fm2,hfm2⟩:=j5 (l:=fr3) (i:=B.2) (by omega);have hrowF2:=d5 (f:=fmC) hfm2;unfold fmC at hrowF2;have hs1:(fr3.map fmC).set B.2 (o5 [.string ⟨fm2.data.toArray⟩,.int .i64 fm2.refs,.bool fm2.dirty,.bool fm2.seen] 3 [.bool true])=(fr3.set B.2 ⟨fm2.data,fm2.refs,fm2.dirty,true⟩).map fmC:=by rw [xl6];rfl
 have hrowF3:((fr3.set B.2 ⟨fm2.data,fm2.refs,fm2.dirty,true⟩).map fmC)[B.2]?=some [.string ⟨fm2.data.toArray⟩,.int .i64 fm2.refs,.bool fm2.dirty,.bool true]:=d5 (f:=fmC) (a2G (x:=(⟨fm2.data,fm2.refs,fm2.dirty,true⟩:Fm)) (by omega));have hs2:((fr3.set B.2 ⟨fm2.data,fm2.refs,fm2.dirty,true⟩).map fmC).set B.2 (o5 [.string ⟨fm2.data.toArray⟩,.int .i64 fm2.refs,.bool fm2.dirty,.bool true] 2 [.bool true])=(fr3.set B.2 ⟨fm2.data,fm2.refs,true,true⟩).map fmC:=by
  rw [xl6,xl6,xn0];rfl
 have hfin:∀ dt,dt=(fm2.dirty||decide (way=1))->(⟨sh3,fr3.set B.2 ⟨fm2.data,fm2.refs,dt,true⟩,sl3,sps3,hand3,vsh3,.slice (some ⟨bf,0,none⟩) fr.length cf,vsl3,vsp3⟩:KV).K=a1H B.1 B.2 (decide (way=1)):=fun dt hdt=>by
  rw [<- e3,hdt];unfold a1H x7 KV.K;dsimp only;rw [m8 hfm2]
 have hlk2:∀ fr',RLike ⟨sh,fr,sl,sps,hand,vsh,.slice (some ⟨bf,0,none⟩) fr.length cf,vsl,.slice (some ⟨bs,0,none⟩) sps.length cs⟩ ⟨sh3,fr',sl3,sps3,hand3,vsh3,.slice (some ⟨bf,0,none⟩) fr.length cf,vsl3,vsp3⟩:=fun fr'=>⟨⟨hlk.like.sh,hlk.like.vsh,hlk.like.ar⟩,hlk.vfr,hlk.vsl,hlk.vsp⟩;unfold rkS kvC frA slA a05 at hS;dsimp only [List.cons_append,List.nil_append] at hS;rw [List.append_nil] at hS
 repeat' ((with_reducible apply a2T))
 (focus ((with_reducible apply a0c _ _ _ 8 (by kernel_rfl) (by kernel_rfl) hS);(simp only [xl7,xl8,xm1,xm2]);(repeat' ((first|(with_reducible apply i9 a7);rfl;rfl|(with_reducible apply i7);rfl;(intro wd hd;replace hd:St _ _ wd _:=hd;(first|apply Ld.sc a7;rfl;exact hd.blkC 0 rfl rfl|apply Ld.sl a7;rfl;exact hd.blkC 1 rfl rfl));rfl|(with_reducible apply x6 a7);rfl;rfl;rfl;rfl;omega;rfl)));all_goals ((with_reducible apply j9);intro w' hS';clear hS;have hS:=hS';clear hS')))
 by_cases hw:way=1
 ·have hdw:decide (way=1)=true:=xj7 hw
  repeat' (first|(with_reducible apply a8 a7);rfl;rfl;rfl|refine yDn (by with_reducible constructor) ?_|(with_reducible apply f6);rfl;assumption|(with_reducible apply t6 hS a7 (i:=2));(iterate 4 rfl);assumption;(iterate 5 rfl);intro w' hS';simp only [List.set] at hS';clear hS;have hS:=hS';clear hS')
  rw [hs1] at hS
  (focus ((with_reducible apply a0c _ _ _ 8 (by kernel_rfl) (by kernel_rfl) hS);(simp only [xl7,xl8,xm1,xm2]);(repeat' ((first|(with_reducible apply i9 a7);rfl;rfl|(with_reducible apply i7);rfl;(intro wd hd;replace hd:St _ _ wd _:=hd;(first|apply Ld.sc a7;rfl;exact hd.blkC 0 rfl rfl|apply Ld.sl a7;rfl;exact hd.blkC 1 rfl rfl));rfl|(with_reducible apply x6 a7);rfl;rfl;rfl;rfl;omega;rfl)));all_goals ((with_reducible apply j9);intro w' hS';clear hS;have hS:=hS';clear hS')))
  repeat' (first|(with_reducible apply a8 a7);rfl;rfl;rfl|(with_reducible apply a9);rfl;(apply Ld.sc a7;rfl;exact hS.blkC 0 rfl rfl);rfl|refine yDn (by with_reducible constructor) ?_|(with_reducible apply t6 hS a7 (i:=2));(iterate 4 rfl);assumption;(iterate 5 rfl);intro w' hS';simp only [List.set] at hS';clear hS;have hS:=hS';clear hS')
  rw [hs2] at hS
  (refine k8 rfl ?_)
  exact ⟨rfl,_,hfin true (by rw [hdw];simp),hlk2 _,hS.drop⟩
 ·have hdw:decide (way=1)=false:=xj5 hw
  repeat' (first|(with_reducible apply a8 a7);rfl;rfl;rfl|(with_reducible apply a9);rfl;(apply Ld.sc a7;rfl;exact hS.blkC 0 rfl rfl);rfl|refine yDn (by with_reducible constructor) ?_|(with_reducible apply f8);rfl;assumption|(with_reducible apply t6 hS a7 (i:=2));(iterate 4 rfl);assumption;(iterate 5 rfl);intro w' hS';simp only [List.set] at hS';clear hS;have hS:=hS';clear hS')
  rw [hs1] at hS
  (refine k8 rfl ?_)
  exact ⟨rfl,_,hfin fm2.dirty (by rw [hdw];simp),hlk2 _,hS.drop⟩
structure IncSame (k k':KV):Prop where
 sh:k'.sh=k.sh
 sp:k'.sp=k.sp
 hand:k'.hand=k.hand
 vsh:k'.vsh=k.vsh
 vfr:k'.vfr=k.vfr
 vsl:k'.vsl=k.vsl
 vsp:k'.vsp=k.vsp
 nfr:k'.fr.length=k.fr.length
 nsl:k'.sl.length=k.sl.length
theorem IncSame.trans {a b c:KV} (h:IncSame a b) (h2:IncSame b c):IncSame a c:=⟨h2.sh.trans h.sh,h2.sp.trans h.sp,h2.hand.trans h.hand,h2.vsh.trans h.vsh,h2.vfr.trans h.vfr,h2.vsl.trans h.vsl,h2.vsp.trans h.vsp,h2.nfr.trans h.nfr,h2.nsl.trans h.nsl⟩
def RefsB (k:KV) (b:Int):Prop:=(∀ f ∈ k.fr,0<=f.refs/\f.refs<=b)/\∀ f ∈ k.sl,0<=f.refs/\f.refs<=b
theorem RefsB.mono {k:KV} {b c:Int} (h:RefsB k b) (hbc:b<=c):RefsB k c:=⟨fun f hf=>by have:=h.1 f hf;omega,fun f hf=>by have:=h.2 f hf;omega⟩
theorem Came.own {w w':World} {k:KV} (h:Came w w' k) {n:Nat} (hn:k.K.frames.length=n + 1):St nF w w' (a38 k):=by
 rcases h with ⟨rfl,-⟩|h
 ·cases hn
 ·exact h
theorem b6a {K:Ker} {space addr size way:Int} (h:okR K space addr size way):∃ sp:Nat,space=(sp:Nat)/\Right K/\1<=size/\size<=8/\16<=addr/\addr + size<=4096/\b0J K space addr size way=a0F K sp addr size (decide (way=1))/\∀ i,0<=i->i < size->At K sp ((addr + i) / 16):=by
 have h0:=h;obtain ⟨he,hf⟩:=h;have hl:a0S K space=0:=by
  unfold a0x at he;by_cases hl:a0S K space=0
  ·exact hl
  ·rw [xf1 hl] at he;exact absurd he hl
 obtain ⟨hr,sp,hsp,-,-⟩:=a7b hl;obtain ⟨h1,h2,h3,-,h4,h5,h6⟩:=a6j he hsp (by rw [hsp] at hf;exact hf);refine ⟨sp,hsp,hr,h2,h3,h4,h5,?_,h6⟩;unfold b0J;rw [xf0 h0,hsp,xi0]
def b7y (f:Fm) (n:Int):Fm:=⟨f.data,f.refs + n,f.dirty,f.seen⟩
def b7r (f:Sw) (n:Int):Sw:=⟨f.data,f.refs + n⟩
theorem a6i {α:Type} {N M:List α} (hs:∀ n ∈ M,n ∈ N) (h:N=[]):M=[]:=by
 cases M with
 |nil=>rfl
 |cons a l=>
  have:=hs a xc5;rw [h] at this
  cases this
theorem FmOk.add {sh:List Sh} {f:Fm} {N M:List Nm} (h:FmOk sh f N) (hs:∀ n ∈ M,n ∈ N):FmOk sh (b7y f (M.length:Nat)) (N++M):=by
 have hm:∀ n ∈ N++M,n ∈ N:=fun n hn=>by
  rcases xe3.1 hn with hn|hn
  ·exact hn
  ·exact hs n hn
 refine ⟨?_,fun hn=>?_,fun hn=>h.len (fun h0=>hn (by rw [h0,a6i hs h0];rfl)),fun n hn m hm2=>h.same n (hm n hn) m (hm m hm2),fun n hn=>h.data n (hm n hn)⟩
 ·show f.refs + _=_;rw [h.refs,xe9];omega
 ·obtain ⟨h1,h2⟩:=xo7.1 hn;rw [h2,h.nil h1];rfl
theorem SwOk.add {f:Sw} {N M:List Nm} (h:SwOk f N) (hs:∀ n ∈ M,n ∈ N):SwOk (b7r f (M.length:Nat)) (N++M):=by
 have hm:∀ n ∈ N++M,n ∈ N:=fun n hn=>by
  rcases xe3.1 hn with hn|hn
  ·exact hn
  ·exact hs n hn
 refine ⟨?_,fun hn=>?_,fun hn=>h.len (fun h0=>hn (by rw [h0,a6i hs h0];rfl)),fun n hn m hm2=>h.same n (hm n hn) m (hm m hm2)⟩
 ·show f.refs + _=_;rw [h.refs,xe9];omega
 ·obtain ⟨h1,h2⟩:=xo7.1 hn;rw [h2,h.nil h1];rfl
theorem a5f {α β:Type} (f:α->β):∀ {l:List α} {i:Nat} {x:α},l[i]?=some x->(l.map f).Perm (f x::(l.eraseIdx i).map f)
 |[],_,_,h=>by simp at h
 |a::l,0,x,h=>by
  have:a=x:=by simpa using h
  subst this;exact List.Perm.refl _
 |a::l,i + 1,x,h=>((a5f f (l:=l) (i:=i) (by simpa using h)).cons _).trans (List.Perm.swap _ _ _)
theorem b6m {F:Nat->Prop} {w0 w:World} {g:Nat} {k:KV} {Δ:List Asr} (hS:St F w0 w (.blk g (kvC k)::(a38 k++Δ))):St F w0 w (rkS g k++(a0L k++Δ)):=by
 unfold a38 at hS;unfold rkS
 simpa only [List.cons_append,xg1] using hS
theorem b3k {F:Nat->Prop} {w0 w:World} {g:Nat} {k:KV} {Δ:List Asr} (hS:St F w0 w (rkS g k++(a0L k++Δ))):St F w0 w (.blk g (kvC k)::(a38 k++Δ)):=by
 unfold rkS at hS;unfold a38
 simpa only [List.cons_append,xg1] using hS
theorem Sl.nilF (F:Nat->Prop) (w:World) (sz:Nat):Sl F w sz (.slice none 0 0) []:=xd6 ⟨_,_,rfl,rfl⟩
structure ReOk (K:Ker) (sp:Nat) (addr size:Int):Prop where
 right:Right K
 lo:0<=addr
 s1:1<=size
 s8:size<=8
 at_:∀ i,0<=i->i < size->At K sp ((addr + i) / 16)
theorem ReOk.hi {K:Ker} {sp:Nat} {addr size:Int} (h:ReOk K sp addr size):addr<=5000:=by
 have h1:=h.at_ 0 (by omega) (by have:=h.s1;omega);obtain ⟨s,hs,-,hf⟩:=h1.sc;have hsc:=(y8 h.right s (xd0 hs)).1;have:=a3N hsc.ar hf;omega
theorem a9l {w:World} {k:KV} (hK:KerV w k) {sp:Nat} {addr size way:Int} (h:ReOk k.K sp addr size):Fn Tryz.prog 34 [.agg (kvC k).toArray,.int .i64 (sp:Nat),.int .i64 addr,.int .i64 size,.int .i64 way] w (fun v w'=>∃ k',v=.agg (kvC k').toArray/\k'.K=a0F k.K sp addr size (decide (way=1))/\St nF w w' (a38 k')):=by
 have hhi:=h.hi;obtain ⟨hr,hlo,hs1,hs8,hat⟩:=h;have hown:=fun w1 (h:KerV w1 k)=>b5C h (b50 hr);have hp1:addr.tdiv 16=addr / 16:=xf2 hlo;have hp2:(addr + size - 1).tdiv 16=(addr + size - 1) / 16:=xf2 (by omega);have ha1:At k.K sp (addr / 16):=by have:=hat 0 (by omega) (by omega);rw [Int.add_zero] at this;exact this
 have ha2:At k.K sp ((addr + size - 1) / 16):=by have:=hat (size - 1) (by omega) (by omega);rw [show addr + (size - 1)=addr + size - 1 by omega] at this;exact this
 unfold a0F;obtain ⟨B,hB⟩:∃ B,B=a0y k.K sp (addr / 16) (decide (way=1)) []:=⟨_,rfl⟩;have hbo:=(a3U hr ha1 (decide (way=1)) (held:=[]) (by simp) (by simp)).1;rw [<- hB] at hbo |-;generalize hKK:k.K=K at *;obtain ⟨sh,fr,sl,sps,hand,vsh,vfr,vsl,vsp⟩:=k;have hK0:=hK;obtain ⟨k1,k2,k3,k4,k5⟩:=hK;dsimp only at k1 k2 k3 k4 k5;obtain ⟨p1,c1,rfl⟩:=k1.sl.len;obtain ⟨p2,c2,rfl⟩:=k2.len;obtain ⟨p3,c3,rfl⟩:=k3.len;obtain ⟨p4,c4,rfl⟩:=k4.len;unfold kvC at hown |-;dsimp only at hown |-;refine yEn Tryz.func34 Tryz.ntmps34 (by kernel_rfl) (by kernel_rfl) rfl rfl ?_;have hS:=St.start w
 repeat' (first|(with_reducible apply a9);rfl;(apply Ld.st a7;rfl;exact hS.blkR 1 rfl;rfl);rfl|refine yDn (by with_reducible constructor) ?_|(with_reducible apply l9 hS);rfl;rfl;rfl;clear hS;intro g w' hS|(with_reducible apply d7 hS a7);rfl;rfl;rfl;clear hS;intro g w' hS|(with_reducible apply o8);rfl;rfl;rfl;refine ⟨_,hown _ (hK0.now hS),?_⟩;rintro _ w2 ⟨k2,rfl,hk2,h2⟩)
 replace hS:=hS.trans (h2.perm (b1p k2));clear h2 hown;have hV:=KerV.own hS
 rename Nat=>g10
 obtain ⟨sh2,fr2,sl2,sp2,hand2,vsh2,vfr2,vsl2,vsp2⟩:=k2;obtain ⟨q1,d1,rfl⟩:∃ p c,vsh2=.slice p sh2.length c:=hV.sh.sl.len;obtain ⟨q2,d2,rfl⟩:∃ p c,vfr2=.slice p fr2.length c:=hV.fr.len;obtain ⟨q3,d3,rfl⟩:∃ p c,vsl2=.slice p sl2.length c:=hV.sl.len;obtain ⟨q4,d4,rfl⟩:∃ p c,vsp2=.slice p sp2.length c:=hV.sp.len
 (repeat (fail))
 (((with_reducible apply d7 hS a7);rfl;rfl;rfl);clear hS;intro g11 w' hS)
 repeat' (first|(with_reducible apply a8 a7);rfl;rfl;rfl|(with_reducible apply j4);rfl;rfl;omega;omega;rfl|(with_reducible apply a0h);rfl;rfl;omega;omega;rfl|refine yDn (by with_reducible constructor) ?_|(with_reducible apply b8 hS a7 (i:=0));(iterate 8 rfl);exact (rfl:_=[_,_,_,_,_]);clear hS;intro w' hS;simp only [List.set] at hS|(with_reducible apply a0A);rfl;rfl;omega;omega;omega;rfl)
 rename Nat=>gz
 rw [hp1,hp2];obtain ⟨k2,hk2e⟩:∃ k2:KV,k2=⟨sh2,fr2,sl2,sp2,hand2,.slice q1 sh2.length d1,.slice q2 fr2.length d2,.slice q3 sl2.length d3,.slice q4 sp2.length d4⟩:=⟨_,rfl⟩;replace hS:=b6m (g:=gz) (k:=⟨sh2,fr2,sl2,sp2,hand2,.slice q1 sh2.length d1,.slice q2 fr2.length d2,.slice q3 sl2.length d3,.slice q4 sp2.length d4⟩) hS;rw [<- hk2e] at hk2 hS;have hbr:=a7u hS (KRo.ownG (Θ:=rkS gz k2) hS) (by rw [hk2];exact hr) (sp:=sp) (page:=addr / 16) (by rw [hk2];exact ha1) (way:=way) (held:=[]) (vh:=.slice none 0 0) (Sl.nilF _ _ _) (by simp) (fun _ hi=>by cases hi);rw [hk2,<- hB] at hbr;clear hk2e;by_cases hpp:(addr + size - 1) / 16=addr / 16
 ·have hd:(!decide ((addr + size - 1) / 16=addr / 16))=false:=by rw [xj7 hpp];rfl
  rw [xf0 hpp]
  repeat' (first|(with_reducible apply a8 a7);rfl;rfl;rfl|(with_reducible apply a9);rfl;(apply Ld.st a7;rfl;exact hS.blkR 0 rfl;rfl);rfl|refine yDn (by with_reducible constructor) ?_|(with_reducible apply f8);rfl;assumption|(with_reducible apply o8);rfl;rfl;rfl;refine ⟨_,hbr,?_⟩;rintro _ w3 ⟨rfl,k3,hk3,hl3,h3⟩;(replace hS:=St.transM hS h3;rw [<- a1Q hl3.like] at hS;replace hS:=b3k hS))
  have hV3:=KerV.own hS.drop;replace hS:=hS.perm (xm9 (l₁:=_::_));obtain ⟨k3sh,k3fr,k3sl,k3sp,k3hand,k3vsh,k3vfr,k3vsl,k3vsp⟩:=k3;obtain ⟨k3m1,k3m2,k3m3,k3m4,-⟩:=hV3;dsimp only at k3m1 k3m2 k3m3 k3m4;obtain ⟨k3x1,k3y1,rfl⟩:=k3m1.sl.len;obtain ⟨k3x2,k3y2,rfl⟩:=k3m2.len;obtain ⟨k3x3,k3y3,rfl⟩:=k3m3.len;obtain ⟨k3x4,k3y4,rfl⟩:=k3m4.len;clear k3m1 k3m2 k3m3 k3m4
  try unfold kvC at hS
  try unfold kvC
  dsimp only [List.cons_append,List.nil_append] at hS |-
  repeat' (first|refine yDn (by with_reducible constructor) ?_|(with_reducible apply b8 hS a7 (i:=0));(iterate 8 rfl);exact (rfl:_=[_,_,_,_,_]);clear hS;intro w' hS;simp only [List.set] at hS)
  (apply t9;repeat (first|exact ResL.nil|apply ResL.cell;rfl;(apply Ld.st a7;rfl;exact hS.blkR 0 rfl;rfl)))
  exact ⟨_,rfl,hk3,hS.drop.drop.drop⟩
 ·have hd:(!decide ((addr + size - 1) / 16=addr / 16))=true:=by rw [xj5 hpp];rfl
  rw [xf1 hpp]
  repeat' (first|(with_reducible apply a8 a7);rfl;rfl;rfl|refine yDn (by with_reducible constructor) ?_|(with_reducible apply f6);rfl;assumption|(with_reducible apply a0T hS a7);(iterate 7 rfl);clear hS;intro g w' hS|(with_reducible apply o8);rfl;rfl;rfl;refine ⟨_,hbr,?_⟩;rintro _ w3 ⟨rfl,k3,hk3,hl3,h3⟩;(replace hS:=St.transM hS h3;rw [<- a1Q hl3.like] at hS))
  rename Nat=>gB
  have hR3:=KRo.ownG (Θ:=rkS gz k3) hS.drop;replace hS:=hS.perm List.perm_middle.symm;have hbr2:=a7u hS hR3 (by rw [hk3];exact hbo.right) (sp:=sp) (page:=(addr + size - 1) / 16) (by rw [hk3];exact ha2.same hbo.same.ar hbo.same.live) (way:=way) (held:=[B.2]) (vh:=.slice (some ⟨gB,0,none⟩) 1 1) (hS.ownSl 0 rfl) (by simp) (fun i hi=>by
   rw [xi9] at hi;subst hi;exact ⟨addr / 16,fun h=>hpp h.symm,by rw [hk3];exact hbo.ent⟩)
  rw [hk3] at hbr2
  repeat' (first|(with_reducible apply a9);rfl;(apply Ld.st a7;rfl;exact hS.blkR 0 rfl;rfl);rfl|refine yDn (by with_reducible constructor) ?_|(with_reducible apply o8);rfl;rfl;rfl;refine ⟨_,hbr2,?_⟩;rintro _ w4 ⟨rfl,k4,hk4,hl4,h4⟩;(replace hS:=((St.transM hS h4).perm xn1).drop;rw [<- a1Q hl4.like] at hS;replace hS:=b3k hS))
  have hV3:=KerV.own hS.drop;replace hS:=hS.perm (xm9 (l₁:=_::_));obtain ⟨k4sh,k4fr,k4sl,k4sp,k4hand,k4vsh,k4vfr,k4vsl,k4vsp⟩:=k4;obtain ⟨k4m1,k4m2,k4m3,k4m4,-⟩:=hV3;dsimp only at k4m1 k4m2 k4m3 k4m4;obtain ⟨k4x1,k4y1,rfl⟩:=k4m1.sl.len;obtain ⟨k4x2,k4y2,rfl⟩:=k4m2.len;obtain ⟨k4x3,k4y3,rfl⟩:=k4m3.len;obtain ⟨k4x4,k4y4,rfl⟩:=k4m4.len;clear k4m1 k4m2 k4m3 k4m4
  try unfold kvC at hS
  try unfold kvC
  dsimp only [List.cons_append,List.nil_append] at hS |-
  repeat' (first|refine yDn (by with_reducible constructor) ?_|(with_reducible apply b8 hS a7 (i:=0));(iterate 8 rfl);exact (rfl:_=[_,_,_,_,_]);clear hS;intro w' hS;simp only [List.set] at hS)
  (apply t9;repeat (first|exact ResL.nil|apply ResL.cell;rfl;(apply Ld.st a7;rfl;exact hS.blkR 0 rfl;rfl)))
  exact ⟨_,rfl,hk4,hS.drop.drop.drop⟩
theorem b1m {α:Type} {e:α} {X E E' R:List α} (hE:E.Perm (e::E')):(X++(E++R)).Perm (e::(X++(E'++R))):=((hE.append_right R).append_left X).trans xn1
theorem b2k (X E R:List Asr) (b c:Asr):(X++(E++(R++[b,c]))).Perm (b::c::(X++(E++R))):=by
 have h:X++(E++(R++[b,c]))=(X++(E++R))++[b,c]:=by simp only [xg1]
 rw [h];exact xm9
theorem a9e {w:World} {k:KV} (hK:KerV w k) {sp a:Nat} {s:List UInt8} (h:ReOk k.K sp (a:Nat) (s.length:Nat)):Fn Tryz.prog 28 [.agg (kvC k).toArray,.int .i64 (sp:Nat),.int .i64 (a:Nat),.string ⟨s.toArray⟩] w (fun v w'=>∃ k',v=.agg (kvC k').toArray/\k'.K=a0j (a0F k.K sp (a:Nat) (s.length:Nat) true) sp (a:Nat) s s.length/\St nF w w' (a38 k')):=by
 have hhi:=h.hi;have hro:=fun w1 (h1:KerV w1 k)=>a9l h1 h (way:=1);obtain ⟨hr,hlo,hs1,hs8,hat⟩:=h;obtain ⟨hr1,hsame,hpr⟩:=a3R hr hlo hs1 hs8 hat true;have hat1:∀ i,0<=i->i < ((s.length:Nat):Int)->At (a0F k.K sp (a:Nat) (s.length:Nat) true) sp ((((a:Nat):Int) + i) / 16):=fun i h0 h1=>(hat i h0 h1).same hsame.ar hsame.live;rw [show decide ((1:Int)=1)=true from rfl] at hro;clear hsame hat;generalize a0F k.K sp (a:Nat) (s.length:Nat) true=K1 at hro hr1 hpr hat1 |-;clear hr;obtain ⟨sh,fr,sl,sps,hand,vsh,vfr,vsl,vsp⟩:=k;have hK0:=hK;obtain ⟨k1,k2,k3,k4,k5⟩:=hK;dsimp only at k1 k2 k3 k4 k5;obtain ⟨p1,c1,rfl⟩:=k1.sl.len;obtain ⟨p2,c2,rfl⟩:=k2.len;obtain ⟨p3,c3,rfl⟩:=k3.len;obtain ⟨p4,c4,rfl⟩:=k4.len;unfold kvC at hro |-;dsimp only at hro |-;refine yEn Tryz.func28 Tryz.ntmps28 (by kernel_rfl) (by kernel_rfl) rfl rfl ?_;have hS:=St.start w
 repeat' (first|(with_reducible apply a8 a7);rfl;rfl;rfl|(with_reducible apply a9);rfl;(apply Ld.st a7;rfl;exact hS.blkR 1 rfl;rfl);rfl|refine yDn (by with_reducible constructor) ?_|(with_reducible apply l9 hS);rfl;rfl;rfl;clear hS;intro g w' hS|(with_reducible apply d7 hS a7);rfl;rfl;rfl;clear hS;intro g w' hS|(with_reducible apply o8);rfl;rfl;rfl;refine ⟨_,hro _ (hK0.now hS),?_⟩;rintro _ w2 ⟨k1,rfl,hk1,hc1⟩)
 replace hS:=hS.trans hc1;clear hc1 hro;have hV:=KerV.own hS
 rename Nat=>g8
 rw [<- hk1] at hr1 hpr hat1 |-;clear hk1;obtain ⟨x,hx,-,hxa,hxe,-⟩:=a4h (hat1 0 (by omega) (by omega));have hxm:=xd0 hx;obtain ⟨hsc,hel⟩:=y8 hr1 x.s (xd0 (a1J hx));obtain ⟨k0,hk0⟩:∃ k0:KV,k0=k1:=⟨_,rfl⟩;obtain ⟨sh2,fr2,sl2,sp2,hand2,vsh2,vfr2,vsl2,vsp2⟩:=k1;obtain ⟨q1,d1,rfl⟩:∃ p c,vsh2=.slice p sh2.length c:=hV.sh.sl.len;obtain ⟨q2,d2,rfl⟩:∃ p c,vfr2=.slice p fr2.length c:=hV.fr.len;obtain ⟨q3,d3,rfl⟩:∃ p c,vsl2=.slice p sl2.length c:=hV.sl.len;obtain ⟨q4,d4,rfl⟩:∃ p c,vsp2=.slice p sp2.length c:=hV.sp.len;dsimp only at hx hxm;have hspl2:=c9 hx
 (repeat (fail))
 (((with_reducible apply d7 hS a7);rfl;rfl;rfl);clear hS;intro g9 w' hS)
 repeat' (first|(with_reducible apply a8 a7);rfl;rfl;rfl|refine yDn (by with_reducible constructor) ?_|(with_reducible apply b8 hS a7 (i:=0));(iterate 8 rfl);exact (rfl:_=[_,_,_,_,_]);clear hS;intro w' hS;simp only [List.set] at hS)
 rename Nat=>g9
 unfold a38 frA slA a05 at hS;dsimp only [List.cons_append,List.nil_append] at hS;rw [xg1] at hS;replace hS:=hS.perm (b1m (X:=[_,_,_,_]) (a5f a0b hx));dsimp only [List.cons_append,List.nil_append] at hS;unfold a0b at hS;obtain ⟨xs,xva,xve⟩:=x;dsimp only at hS hsc hel hxa hxe;obtain ⟨pe,ce,rfl⟩:=hS.rowSlice 0 rfl;rw [xj4] at hS hx hxm;obtain ⟨bs,rfl⟩:=hS.rowSome 4 rfl (by omega);have hrowS:=d5 (f:=spC) hx;unfold spC at hrowS;dsimp only at hrowS;replace hS:=hS.reorderT 5 [2,0,4,1,3] (by decide) rfl;simp only [t4,xm1,xm2] at hS;rw [<- hk0] at hr1 hpr hat1 hxe |-;obtain ⟨RR,hS,hmar,hbk⟩:∃ RR,St nF w w' (.row 89 4 (.slice q2 fr2.length d2) (fr2.map fmC)::.row 91 3 (.slice pe xs.entries.length ce) (xs.entries.map enC)::.row 75 3 (.slice (some ⟨bs,0,none⟩) sp2.length d4) (sp2.map spC)::.blk g9 [.slice q1 sh2.length d1,.slice q2 fr2.length d2,.slice q3 sl2.length d3,.slice (some ⟨bs,0,none⟩) sp2.length d4,.int .i64 hand2]::.row 143 2 (.slice q3 sl2.length d3) (sl2.map swC)::RR)/\(∀ w1 X,St nF w w1 (X++RR)->Sl nF w1 4 xva (xs.areas.map arC))/\∀ w1 fr',St nF w w1 (.row 89 4 (.slice q2 fr2.length d2) (fr'.map fmC)::.row 91 3 (.slice pe xs.entries.length ce) (xs.entries.map enC)::.row 75 3 (.slice (some ⟨bs,0,none⟩) sp2.length d4) (sp2.map spC)::.blk g9 [.slice q1 sh2.length d1,.slice q2 fr2.length d2,.slice q3 sl2.length d3,.slice (some ⟨bs,0,none⟩) sp2.length d4,.int .i64 hand2]::.row 143 2 (.slice q3 sl2.length d3) (sl2.map swC)::RR)->St nF w w1 (.blk g8 [.slice none 0 0,.slice none 0 0,.slice none 0 0,.slice none 0 0,.int .i64 0]::.blk g9 [.slice q1 sh2.length d1,.slice q2 fr2.length d2,.slice q3 sl2.length d3,.slice (some ⟨bs,0,none⟩) sp2.length d4,.int .i64 hand2]::a38 ⟨sh2,fr',sl2,sp2,hand2,.slice q1 sh2.length d1,.slice q2 fr2.length d2,.slice q3 sl2.length d3,.slice (some ⟨bs,0,none⟩) sp2.length d4⟩):=by
  refine ⟨_,hS,fun w1 X h=>?_,fun w1 fr' h=>?_⟩
  ·exact h.slMem (e:=81) (xe6 _ (xe6 _ (xe5 _ (by
    unfold a0L;exact xc6 _ (xe6 _ (xj0.2 ⟨_,hxm,rfl⟩))))))
  ·replace h:=h.reorderT 5 [1,3,0,4,2] (by decide) rfl;simp only [t4,xm1,xm2] at h;replace h:=h.perm (b1m (X:=[_,_,_,_]) (a5f a0b hx)).symm;have h3:=(h.perm (b2k [_,_,_,_] _ _ _ _)).sub (.cons_cons _ (.cons _ (xm3 _)));exact h3
 refine l5 (F:=nF) (w0:=w) (X:=Nat) (fun i=>[(10,.int .i64 (i:Nat))]) [1,2,3,8,9] rfl (fun i=>[.row 89 4 (.slice q2 fr2.length d2) ((kvS k0 sp a s i).fr.map fmC)]) (fun i=>i<=s.length) (fun i=>s.length - i) 0 (by exact Fr.sub_of rfl) (xg5 _) (by rw [b4B,hk0];exact hS) ?_;clear hS;intro i w1 hi hS;dsimp only [List.cons_append,List.nil_append] at hS |-;by_cases hlt:i < s.length
 ·obtain ⟨f,hf0,-⟩:=hpr (i:Nat) (by omega) (by omega);have hok:=a5d hr1 (s:=s) (addr:=(a:Nat)) (by omega) (fun i hi=>hpr (i:Nat) (by omega) (by omega)) i hi;have hp1:(((a:Nat):Int) + ((i:Nat):Int)).tdiv 16=((a:Nat) + (i:Nat):Int) / 16:=xf2 (by omega);have hf:=hf0;rw [hxe] at hf;have hea:=fun w1 (h:SpV w1 ⟨xs,xva,.slice pe xs.entries.length ce⟩)=>a2r h (((a:Nat) + (i:Nat):Int) / 16);have hix1:=a44 xs.entries (((a:Nat) + (i:Nat):Int) / 16);generalize a1v (fun e:En=>decide (e.page=((a:Nat) + (i:Nat):Int) / 16)) xs.entries=ix1 at hea hix1;rw [hf] at hix1;rcases hix1 with ⟨h0,-⟩|⟨ei1,e',h0,rfl,hei1⟩
  ·cases h0
  cases h0
  have heil1:=c9 hei1;have hrowE:=d5 (f:=enC) hei1;unfold enC at hrowE;unfold spC at hea;dsimp only at hea hrowE;obtain ⟨be,rfl⟩:=hS.rowSome (p:=pe) (n:=xs.entries.length) (cap:=ce) (sz:=3) 1 rfl (by omega);have he3:j3 (a0j k0.K sp (a:Nat) s i) sp=j3 k0.K sp:=by unfold j3 a0l;rw [hok.spaces]
  obtain ⟨hfl,-,hdl⟩:=a1E hok.right (by rw [he3];exact hf0);replace hdl:(j7 (kvS k0 sp a s i).fr f).data.length=16:=hdl;have hfl0:=hfl;rw [hok.nfr,hk0] at hfl0;replace hfl0:f < fr2.length:=hfl0;replace hfl:f < (kvS k0 sp a s i).fr.length:=hfl;obtain ⟨y,hy⟩:=j5 (l:=s) (i:=i) (by omega);have hnx:=a81 hf0 hy
  repeat' (first|(with_reducible apply a8 a7);rfl;rfl;rfl|refine yDn (by with_reducible constructor) ?_|(with_reducible apply b9);rfl;all_goals (intro hb hp;try (exfalso;omega)))
  refine a1w (F:=nF) (w0:=w) (X:=Nat) (fun g=>[(1,.int .i64 (sp:Nat)),(2,.int .i64 (a:Nat)),(3,.string ⟨s.toArray⟩),(8,.pointer (some ⟨g8,0,none⟩)),(9,.pointer (some ⟨g9,0,none⟩)),(10,.int .i64 (i:Nat)),(11,.pointer (some ⟨g,0,none⟩))]) (fun g=>.blk g [.int .i64 (((a:Nat) + (i:Nat):Int) / 16),.int .i64 1,.int .i64 (f:Nat)]::.row 91 3 (.slice (some ⟨be,0,none⟩) xs.entries.length ce) (xs.entries.map enC)::.row 75 3 (.slice (some ⟨bs,0,none⟩) sp2.length d4) (sp2.map spC)::.blk g9 [.slice q1 sh2.length d1,.slice q2 fr2.length d2,.slice q3 sl2.length d3,.slice (some ⟨bs,0,none⟩) sp2.length d4,.int .i64 hand2]::.row 89 4 (.slice q2 fr2.length d2) ((kvS k0 sp a s i).fr.map fmC)::.row 143 2 (.slice q3 sl2.length d3) (sl2.map swC)::RR) (fun _=>True) ?_ ?_
  ·replace hS:=hS.reorderT 5 [1,2,3,0,4] (by decide) rfl;simp only [t4,xm1,xm2] at hS;refine a1l 3 19 20 rfl hS (by kernel_rfl) ?_;intro w10 hS';clear hS;have hS:=hS';clear hS';simp only [xl7,xl8];have hH:=hS.sub (xm8 [_,_,_] _)
   ((with_reducible apply j0 (nn 0) a7);rfl;kernel_rfl;exact (fun _ _ _ h=>h);exact xd3 hH;rfl;rfl)
   ((with_reducible apply k9 (nn 1));rfl;kernel_rfl;kernel_rfl;rfl;exact (fun _ _ _ h=>h);exact hH;rfl;(intro w2 hw2;(replace hw2:St _ _ w2 _:=hw2;(apply Ld.sl a7;rfl;exact hw2.blkC 2 rfl rfl)));rfl)
   ((with_reducible apply j0 (nn 2) a7);rfl;kernel_rfl;exact (fun _ _ _ h=>h);exact xd3 hH;rfl;rfl)
   ((with_reducible apply a0X (nn 3));rfl;kernel_rfl;kernel_rfl;kernel_rfl;rfl;exact (fun _ _ _ h=>h);exact xd3 hH;(intro a ha;exact a3s a7 (j:=sp) rfl rfl rfl rfl (by omega) a ha _);rfl)
   ((with_reducible apply j0 (nn 4) a7);rfl;kernel_rfl;exact (fun _ _ _ h=>h);exact xd3 hH;rfl;rfl)
   ((with_reducible apply k9 (nn 5));rfl;kernel_rfl;kernel_rfl;rfl;exact (fun _ _ _ h=>h);exact hH;rfl;(intro w2 hw2;(replace hw2:St _ _ w2 _:=hw2;apply Ld.sl a7;rfl;exact hw2.rowCj 1 rfl hrowS rfl));rfl)
   ((with_reducible apply j0 (nn 6) a7);rfl;kernel_rfl;exact (fun _ _ _ h=>h);exact xd3 hH;rfl;rfl)
   ((with_reducible apply k9 (nn 7));rfl;kernel_rfl;kernel_rfl;rfl;exact (fun _ _ _ h=>h);exact hH;rfl;(intro w2 hw2;(replace hw2:St _ _ w2 _:=hw2;(apply Ld.sl a7;rfl;exact hw2.blkC 2 rfl rfl)));rfl)
   ((with_reducible apply j0 (nn 8) a7);rfl;kernel_rfl;exact (fun _ _ _ h=>h);exact xd3 hH;rfl;rfl)
   ((with_reducible apply a0X (nn 9));rfl;kernel_rfl;kernel_rfl;kernel_rfl;rfl;exact (fun _ _ _ h=>h);exact xd3 hH;(intro a ha;exact a3s a7 (j:=sp) rfl rfl rfl rfl (by omega) a ha _);rfl)
   ((with_reducible apply k9 (nn 10));rfl;kernel_rfl;kernel_rfl;rfl;exact (fun _ _ _ h=>h);exact hH;rfl;(intro w2 hw2;(replace hw2:St _ _ w2 _:=hw2;apply Ld.st a7;rfl;exact (hw2.rowSl 1 rfl).rng hrowS;rfl));rfl)
   ((with_reducible apply j0 (nn 11) a7);rfl;kernel_rfl;exact (fun _ _ _ h=>h);exact xd3 hH;rfl;rfl)
   ((with_reducible apply j0 (nn 12) a7);rfl;kernel_rfl;exact (fun _ _ _ h=>h);exact xd3 hH;rfl;rfl)
   ((with_reducible apply a0X (nn 13));rfl;kernel_rfl;kernel_rfl;kernel_rfl;rfl;exact (fun _ _ _ h=>h);exact xd3 hH;(intro a ha;exact b0X rfl rfl (by omega) (by omega) a ha _);rfl)
   ((with_reducible apply a0X (nn 14));rfl;kernel_rfl;kernel_rfl;kernel_rfl;rfl;exact (fun _ _ _ h=>h);exact xd3 hH;(intro a ha;exact b3C rfl rfl (by omega) (by omega) (by omega) a ha _);rfl)
   rw [hp1];refine a67 (i:=15) (j:=18) (by kernel_rfl) ?_ ?_
   ·refine l6 rfl (a0f (first:=[]) (caps:=[]) rfl rfl (hea _ ⟨hmar _ ([_,_,_,_,_]++[]) hS,hS.rowSl 0 rfl⟩)) rfl ?_;rintro _ w' ⟨rfl,hS'⟩;replace hS:=hS.transA hS';simp only [t4] at hS;clear hS';have hH:=hS.sub (xm8 [_,_,_] _);refine ⟨xd3 (xd3 hH),?_⟩
    ((with_reducible apply a0X (nn 16));rfl;kernel_rfl;kernel_rfl;kernel_rfl;rfl;exact (fun _ _ _ h=>h);exact xd3 hH;(intro a ha;exact a3s a7 (j:=ei1) rfl rfl rfl rfl (by omega) a ha _);rfl)
    ((with_reducible apply k9 (nn 17));rfl;kernel_rfl;kernel_rfl;rfl;exact (fun _ _ _ h=>h);exact hH;rfl;(intro w2 hw2;(replace hw2:St _ _ w2 _:=hw2;apply Ld.st a7;rfl;exact (hw2.rowSl 0 rfl).rng hrowE;rfl));rfl)
    refine n7 (i:=18) (by kernel_rfl) ?_;refine l6 rfl (r8 hS a7 rfl rfl) rfl ?_;rintro _ w' ⟨gE,rfl,hS'⟩;clear hS;have hS:=hS';clear hS';have hH:=hS.drop.sub (xm8 [_,_,_] _);refine ⟨xd3 (xd3 hH),?_⟩;refine n7 (i:=19) (by kernel_rfl) ?_;refine a0E (Φ:=fun _ w'=>St _ _ w' _) rfl (n8 hS a7 (i:=0) rfl rfl rfl rfl rfl (xg2 rfl) (by intro u hu;simp [Value.cells] at hu;rcases hu with rfl|rfl|rfl <;> rfl)) ?_;intro _ w' hS';simp only [List.set] at hS';clear hS;have hS:=hS';clear hS';refine ⟨xd6 rfl,?_⟩;refine a0P (by kernel_rfl) ?_
    repeat' (fail)
    exact p8 _ (by exact Fr.sub_of rfl) trivial hS
   ·refine l6 rfl (r8 hS a7 rfl rfl) rfl ?_;rintro _ w' ⟨gE,rfl,hS'⟩;clear hS;have hS:=hS';clear hS';have hH:=hS.drop.sub (xm8 [_,_,_] _);refine ⟨xd3 (xd3 hH),?_⟩;refine n7 (i:=15) (by kernel_rfl) ?_;refine l6 rfl (a0f (first:=[]) (caps:=[]) rfl rfl (hea _ ⟨hmar _ ([_,_,_,_,_]++[_]) hS,hS.rowSl 1 rfl⟩)) rfl ?_;rintro _ w' ⟨rfl,hS'⟩;replace hS:=hS.transA hS';simp only [t4] at hS;clear hS';have hH:=hS.drop.sub (xm8 [_,_,_] _);refine ⟨xd3 (xd3 hH),?_⟩
    ((with_reducible apply a0X (nn 16));rfl;kernel_rfl;kernel_rfl;kernel_rfl;rfl;exact (fun _ _ _ h=>h);exact xd3 hH;(intro a ha;exact a3s a7 (j:=ei1) rfl rfl rfl rfl (by omega) a ha _);rfl)
    ((with_reducible apply k9 (nn 17));rfl;kernel_rfl;kernel_rfl;rfl;exact (fun _ _ _ h=>h);exact hH;rfl;(intro w2 hw2;(replace hw2:St _ _ w2 _:=hw2;apply Ld.st a7;rfl;exact (hw2.rowSl 0 rfl).rng hrowE;rfl));rfl)
    refine n7 (i:=19) (by kernel_rfl) ?_;refine a0E (Φ:=fun _ w'=>St _ _ w' _) rfl (n8 hS a7 (i:=0) rfl rfl rfl rfl rfl (xg2 rfl) (by intro u hu;simp [Value.cells] at hu;rcases hu with rfl|rfl|rfl <;> rfl)) ?_;intro _ w' hS';simp only [List.set] at hS';clear hS;have hS:=hS';clear hS';refine ⟨xd6 rfl,?_⟩;refine a0P (by kernel_rfl) ?_
    repeat' (fail)
    exact p8 _ (by exact Fr.sub_of rfl) trivial hS
  clear hS;rintro gE w3 - hS;obtain ⟨bfr,rfl⟩:=hS.rowSome (p:=q2) (n:=fr2.length) (cap:=d2) (sz:=4) 4 rfl (by omega);obtain ⟨fm,hfm⟩:=j5 (l:=(kvS k0 sp a s i).fr) (i:=f) (by omega);have hrowF:=d5 (f:=fmC) hfm;unfold fmC at hrowF;rw [m8 hfm] at hnx hdl;have hmod:(a + i) % 16 < fm.data.length:=by omega
  have hov:=fun w1=>b0Y fm.data [y] ((a + i) % 16) w1 (by unfold maxLen;omega) (by show (a + i) % 16 + 1<=_;omega);rw [b1l hmod] at hov;have hil:=c9 hy;have hsub:(s.drop (((i:Nat):Int)).toNat).take ((((i:Nat):Int) + 1).toNat - ((i:Nat):Int).toNat)=[y]:=by
   rw [show (((i:Nat):Int) + 1).toNat - ((i:Nat):Int).toNat=1 by omega,xi0,xo1 hil,(xa7.1 hy).2];rfl
  rw [<- hsub] at hov;have e1:((kvS k0 sp a s i).fr.map fmC).set f (o5 [.string ⟨fm.data.toArray⟩,.int .i64 fm.refs,.bool fm.dirty,.bool fm.seen] 0 [.string ⟨(fm.data.set ((a + i) % 16) y).toArray⟩])=(kvS k0 sp a s (i + 1)).fr.map fmC:=by
   rw [<- hnx,xl6];rfl
  have hmodI:(((a:Nat):Int) + ((i:Nat):Int)) % 16=(((a + i) % 16:Nat):Int):=by omega
  rw [<- hmodI] at hov
  repeat' (fail)
  (focus ((with_reducible apply a0c _ _ _ 23 (by kernel_rfl) (by kernel_rfl) hS);(simp only [xl7,xl8,xm1,xm2]);(repeat' (first|(first|(with_reducible apply a8O);rfl;rfl;omega;omega;rfl|(with_reducible apply i9 a7);rfl;rfl|(with_reducible apply i7);rfl;(intro wd hd;replace hd:St _ _ wd _:=hd;(first|apply Ld.sc a7;rfl;exact hd.blkC 0 rfl rfl|apply Ld.sl a7;rfl;exact hd.blkC 3 rfl rfl));rfl|(with_reducible apply x6 a7);rfl;rfl;rfl;rfl;omega;rfl)|(with_reducible apply i7);rfl;(intro wd hd;replace hd:St _ _ wd _:=hd;(apply Ld.sc a7;rfl;exact hd.rowC0 4 rfl hrowF rfl));rfl|(with_reducible apply b5Y);rfl;rfl;omega;omega;rfl|(with_reducible apply b3T a7);(iterate 4 rfl);omega;omega;omega;rfl|(with_reducible apply y0);rfl;rfl;rfl;refine ⟨_,fun wd hd=>hov _,?_⟩));all_goals ((with_reducible apply j9);intro w' hS';clear hS;have hS:=hS';clear hS')))
  repeat' (first|(with_reducible apply a8 a7);rfl;rfl;rfl|(with_reducible apply j4);rfl;rfl;omega;omega;rfl|refine yDn (by with_reducible constructor) ?_|(with_reducible apply p7 hS a7 (i:=4));(iterate 4 rfl);assumption;(iterate 5 rfl);intro w' hS';simp only [List.set] at hS';clear hS;have hS:=hS';clear hS')
  rw [e1] at hS;replace hS:=hS.reorderT 6 [4,1,2,3,5] (by decide) rfl;simp only [t4,xm1,xm2] at hS;exact e9 (i + 1) (by exact Fr.sub_of rfl) (by omega) hS (by omega)
 ·obtain rfl:i=s.length:=by omega
  replace hS:=hbk _ _ hS
  repeat' (first|(with_reducible apply a8 a7);rfl;rfl;rfl|(with_reducible apply a9);rfl;(apply Ld.st a7;rfl;exact hS.blkR 1 rfl;rfl);rfl|refine yDn (by with_reducible constructor) ?_|(with_reducible apply b8 hS a7 (i:=0));(iterate 8 rfl);exact (rfl:_=[_,_,_,_,_]);clear hS;intro w' hS;simp only [List.set] at hS|(with_reducible apply b9);rfl;all_goals (intro hb hp;try (exfalso;omega)))
  (apply t9;repeat (first|exact ResL.nil|apply ResL.cell;rfl;(apply Ld.st a7;rfl;exact hS.blkR 0 rfl;rfl)))
  refine ⟨kvS k0 sp a s s.length,by rw [hk0];rfl,b5N _ _ _ _ _,?_⟩;rw [hk0];rw [hk0] at hS;exact hS.drop.drop
end Go.Proofs.YtejnpppejalhfabGreat
