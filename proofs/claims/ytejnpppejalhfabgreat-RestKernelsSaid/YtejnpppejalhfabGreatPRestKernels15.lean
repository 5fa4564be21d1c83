/- Texts that the proof stands on, one behind the other: Ke54, Ke56, Ke33, Lk13, Ke34, Ke35, PlRun10, PlRun11, PlRun12, PlRun13, PlRun14, Ke36, Ke37, Ke47, Ke57. -/
import Derived.Test.YtejnpppejalhfabGreatPRestKernels14
set_option linter.unusedVariables false
set_option linter.unusedSimpArgs false
namespace Go.Proofs.YtejnpppejalhfabGreat
set_option maxRecDepth 100000
set_option maxHeartbeats 8000000
open Go.RowKit Go.Sort
theorem b2m {n h:Nat} (hh:h < n):(((h:Nat):Int) + 1).tmod ((n:Nat):Int)=((x5 n h:Nat):Int):=by
 unfold x5;by_cases hn:h + 1=n
 ·rw [xf0 hn,<- hn,show ((h:Nat):Int) + 1=((h + 1:Nat):Int) by omega,Int.tmod_self];rfl
 ·rw [xf1 hn,show ((h:Nat):Int) + 1=((h + 1:Nat):Int) by omega];exact Int.tmod_eq_of_lt (by omega) (by omega)
theorem b3x {l:List Fm} {i:Nat} {f:Fm} (hb:∀ j,j < i->∀ g,l[j]?=some g->g.refs≠0) (hf:l[i]?=some f) (h0:f.refs=0):a2O l=some i:=by
 unfold a2O;rw [xl0];have hl:=d6 hf;rw [xe1 hl] at hf
 cases hf
 exact ⟨hl,xj2 h0,fun j hj h=>hb j hj _ (xe1 (by omega)) (xn9 h)⟩
theorem b3P {l:List Fm} (hb:∀ j,j < l.length->∀ g,l[j]?=some g->g.refs≠0):a2O l=none:=by
 unfold a2O;rw [xk9];intro x hx;obtain ⟨j,hj⟩:=List.getElem?_of_mem hx;exact xj0 (hb j (d6 hj) x hj)
theorem a7q {l:List Nat} {x j h:Nat} (hj:l[x]?=some j):decide (h ∈ l.take (x + 1))=(decide (h ∈ l.take x)||decide (j=h)):=by
 rw [r8 hj,xc9,xo0,xb3,xb3,xb3,xe3,xi8];exact ⟨fun h=>h.imp id Eq.symm,fun h=>h.imp id Eq.symm⟩
theorem b1j {F:Nat->Prop} {w0 w:World} {Γ:List Asr} {g0:Nat} {k:KV} {vh:Value} {held:List Nat} (hS0:St F w0 w (rkS g0 k++Γ)) (hH:Sl (fps (rkS g0 k)) w 1 vh (held.map a2P)) (hA:a8l k held):Fn Tryz.prog 132 [.pointer (some ⟨g0,0,none⟩),vh] w (fun v w'=>v=.int .i64 ((a0d k.K held).2:Nat)/\∃ k',k'.K=(a0d k.K held).1/\RLike k k'/\St (fps (rkS g0 k)) w w' (rkS g0 k')):=by
 have hS:=St.startM hS0;obtain ⟨hhand,hnf,hheld,hfree,hlen,hkd,hspl⟩:=hA;generalize fps (rkS g0 k)=G at hS hH |-;obtain ⟨sh,fr,sl,sps,hand,vsh,vfr,vsl,vsp⟩:=k;dsimp only at hhand hnf hfree hlen hkd hspl;unfold rkS kvC frA slA a04 at hS;dsimp only [List.cons_append,List.nil_append] at hS;obtain ⟨pf,cf,rfl⟩:=hS.rowSlice 1 rfl;simp only [xi9] at hS;obtain ⟨gf,rfl⟩:=hS.rowSome 1 rfl (by omega);obtain ⟨ph,ch,rfl⟩:=(hH.now hS).len;obtain ⟨h0,rfl⟩:∃ h0:Nat,hand=(h0:Nat):=⟨hand.toNat,by omega⟩;have hKf:(KV.K ⟨sh,fr,sl,sps,((h0:Nat):Int),vsh,.slice (some ⟨gf,0,none⟩) (fr.map fmC).length cf,vsl,vsp⟩).frames=fr:=rfl;unfold a0d;rw [hKf];simp only [xi9] at hH |-;refine yEn Tryz.func132 Tryz.ntmps132 (by kernel_rfl) (by kernel_rfl) rfl rfl ?_
 repeat' (first|(with_reducible apply a8 a7);rfl;rfl;rfl|refine yDn (by with_reducible constructor) ?_)
 refine k9 (F:=G) (w0:=w) (X:=Nat) (fun x=>[(5,.int .i64 (x:Nat))]) [0,1] rfl (fun _=>[]) (fun x=>x<=fr.length/\∀ j,j < x->∀ g,fr[j]?=some g->g.refs≠0) (fun x=>fr.length - x) 0 (by exact Fr.sub_of rfl) ⟨xg4 _,fun j hj=>by omega⟩ hS ?_;clear hS;rintro i w1 ⟨hi,hbf⟩ hS;dsimp only [List.cons_append,List.nil_append] at hi hbf hS |-;by_cases hlt:i < fr.length
 ·obtain ⟨fm,hfm⟩:=j0 (l:=fr) (i:=i) (by omega);have hrow:=c9 (f:=fmC) hfm;unfold fmC at hrow;by_cases hr0:fm.refs=0
  ·have hd0:decide (fm.refs=0)=true:=xj2 hr0;have hff:=b3x hbf hfm hr0;rw [hff]
   repeat' (first|(with_reducible apply a8 a7);rfl;rfl;rfl|(with_reducible apply a9);rfl;(first|apply Ld.sc a7;rfl;exact hS.rowCj 1 rfl (by assumption) rfl|apply Ld.sl a7;rfl;exact hS.blkC 0 rfl rfl);rfl|(with_reducible apply l7 a7);rfl;rfl;rfl;rfl;omega;rfl|refine yDn (by with_reducible constructor) ?_|(with_reducible apply f6);rfl;assumption|(with_reducible apply b9);rfl;all_goals (intro hb hp;try (exfalso;omega)))
   (refine k7 rfl ?_)
   exact ⟨rfl,_,rfl,RLike.refl _,hS⟩
  ·have hd0:decide (fm.refs=0)=false:=xj0 hr0
   repeat' (first|(with_reducible apply a8 a7);rfl;rfl;rfl|(with_reducible apply a9);rfl;(first|apply Ld.sc a7;rfl;exact hS.rowCj 1 rfl (by assumption) rfl|apply Ld.sl a7;rfl;exact hS.blkC 0 rfl rfl);rfl|(with_reducible apply l7 a7);rfl;rfl;rfl;rfl;omega;rfl|(with_reducible apply j4);rfl;rfl;omega;omega;rfl|refine yDn (by with_reducible constructor) ?_|(with_reducible apply f8);rfl;assumption|(with_reducible apply b9);rfl;all_goals (intro hb hp;try (exfalso;omega)))
   exact e9 (i + 1) (by exact Fr.sub_of rfl) ⟨by omega,fun j hj g hg=>by
    by_cases hji:j=i
    ·subst hji;rw [hfm] at hg;cases hg;exact hr0
    ·exact hbf j (by omega) g hg⟩ hS (by omega)
 obtain rfl:i=fr.length:=by omega
 have hff:=b3P hbf;have hfree2:=hfree hff;rw [hff];dsimp only;have hclk:a0o (KV.K ⟨sh,fr,sl,sps,((h0:Nat):Int),vsh,.slice (some ⟨gf,0,none⟩) fr.length cf,vsl,vsp⟩) held=a0s 5000 fr h0 held:=rfl;rw [hclk];generalize hRR:a0s 5000 fr h0 held=R
 repeat' (first|(with_reducible apply a8 a7);rfl;rfl;rfl|(with_reducible apply a9);rfl;(apply Ld.sl a7;rfl;exact hS.blkC 0 rfl rfl);rfl|refine yDn (by with_reducible constructor) ?_|(with_reducible apply b9);rfl;all_goals (intro hb hp;try (exfalso;omega)))
 refine k9 (F:=G) (w0:=w) (X:=Nat×List Fm×Nat) (fun _=>[]) [0,1] rfl (fun x=>[.blk g0 [vsh,.slice (some ⟨gf,0,none⟩) fr.length cf,vsl,vsp,.int .i64 (x.2.2:Nat)],.row 89 4 (.slice (some ⟨gf,0,none⟩) fr.length cf) (x.2.1.map fmC)]) (fun x=>a0s x.1 x.2.1 x.2.2 held=R/\a0M x.2.1 x.2.2 held < x.1/\x.2.2 < fr.length/\x.2.1.length=fr.length) (fun x=>x.1) (5000,fr,h0) (by exact Fr.sub_of rfl) ⟨hRR,a5s hnf.2 _ _,by show h0 < fr.length;omega,rfl⟩ hS ?_;clear hS;rintro ⟨n,fr',h⟩ w2 ⟨hcl,hm,hh,hfl⟩ hS;dsimp only [List.cons_append,List.nil_append] at hcl hm hh hfl hS |-;obtain ⟨m,rfl⟩:∃ m,n=m + 1:=⟨n - 1,by omega⟩;have hmod:=b2m (n:=fr.length) (h:=h) hh;have hnl:x5 fr.length h < fr.length:=by unfold x5;split <;> omega
 obtain ⟨fm,hfm⟩:=j0 (l:=fr') (i:=h) (by omega);have hrow:=c9 (f:=fmC) hfm;unfold fmC at hrow;unfold a0s at hcl;rw [hfl] at hcl
 repeat' (first|(with_reducible apply a8 a7);rfl;rfl;rfl|(with_reducible apply a9);rfl;(first|apply Ld.sc a7;rfl;exact hS.blkC 0 rfl rfl|apply Ld.sl a7;rfl;exact hS.blkC 0 rfl rfl);rfl|(with_reducible apply j4);rfl;rfl;omega;omega;rfl|refine yDn (by with_reducible constructor) ?_|(with_reducible apply b8 hS a7 (i:=0));(iterate 8 rfl);exact (rfl:_=[_,_,_,_,_]);clear hS;intro w' hS;simp only [List.set] at hS|(with_reducible apply a5m);rfl;rfl;omega;rfl)
 rw [hmod] at hS;refine k9 (F:=G) (w0:=w) (X:=Nat) (fun x=>[(7,.bool (decide (h ∈ held.take x))),(8,.int .i64 (x:Nat))]) [0,1,6] rfl (fun _=>[]) (fun x=>x<=held.length) (fun x=>held.length - x) 0 (by exact Fr.sub_of rfl) (xg4 _) hS ?_;clear hS;rintro x w3 hx hS;dsimp only [List.cons_append,List.nil_append] at hx hS |-;by_cases hxl:x < held.length
 ·obtain ⟨j,hj⟩:=j0 (l:=held) (i:=x) (by omega);have hrowH:=c9 (f:=a2P) hj;unfold a2P at hrowH;have hsn:=a7q (h:=h) hj;obtain ⟨bh,oh,hph,-⟩:=(hH.now hS).at_ (i:=x) hxl;subst hph
  cases hin:decide (h ∈ held.take x) with
  |true=>
   rw [hin,Bool.true_or] at hsn
   repeat' (first|(with_reducible apply a8 a7);rfl;rfl;rfl|(with_reducible apply j4);rfl;rfl;omega;omega;rfl|refine yDn (by with_reducible constructor) ?_|(with_reducible apply x8);(iterate 4 rfl);rfl;rfl|(with_reducible apply j3);rfl;rfl;rfl;rfl|(with_reducible apply b9);rfl;all_goals (intro hb hp;try (exfalso;omega)))
   exact e9 (x + 1) (by rw [hsn];exact Fr.sub_of rfl) (by show x + 1<=held.length;omega) hS (by show held.length - (x + 1) < held.length - x;omega)
  |false=>
   rw [hin,xo1] at hsn;have hjh:decide (((j:Nat):Int)=((h:Nat):Int))=decide (j=h):=by rw [xc9,xb3,xb3];omega
   rw [<- hjh] at hsn
   repeat' (first|(with_reducible apply a8 a7);rfl;rfl;rfl|(with_reducible apply l7 a7);rfl;rfl;rfl;rfl;omega;rfl|(with_reducible apply j4);rfl;rfl;omega;omega;rfl|refine yDn (by with_reducible constructor) ?_|(with_reducible apply k8);(iterate 4 rfl);rfl|(with_reducible apply f5);rfl;rfl;rfl;rfl|(with_reducible apply b9);rfl;all_goals (intro hb hp;try (exfalso;omega))|(with_reducible apply a3J a7);rfl;rfl;rfl;refine ⟨_,(hH.now hS).cel0 hrowH rfl,?_⟩)
   exact e9 (x + 1) (by rw [hsn];exact Fr.sub_of rfl) (by show x + 1<=held.length;omega) hS (by show held.length - (x + 1) < held.length - x;omega)
 obtain rfl:x=held.length:=by omega
 rw [xg6];have hdd:=a2r fr'.length 0 held;have hdd1:=a2r fr'.length (h + 1) held;have hdd2:=a2r fr'.length (x5 fr.length h) held;by_cases hhl:h ∈ held
 ·rw [xf0 hhl] at hcl;rw [xj2 hhl];have hdn:=a4v (n:=fr'.length) (by omega) (by omega) hheld hhl;rw [hfl] at hdn
  repeat' (first|(with_reducible apply a8 a7);rfl;rfl;rfl|refine yDn (by with_reducible constructor) ?_|(with_reducible apply f6);rfl;rfl|(with_reducible apply b9);rfl;all_goals (intro hb hp;try (exfalso;omega)))
  exact e9 (m,fr',x5 fr.length h) (by exact Fr.sub_of rfl) ⟨hcl,by show a0M fr' (x5 fr.length h) held < m;unfold a0M at hm |-;rw [hfl] at hm |-;omega,hnl,hfl⟩ hS (by show m < m + 1;omega)
 rw [xf1 hhl,p9 hfm] at hcl;rw [xj0 hhl];by_cases hsn:fm.seen=true
 ·rw [xf0 hsn] at hcl;have hse:=a3S (x:=⟨fm.data,fm.refs,fm.dirty,false⟩) hfm hsn rfl;rw [hsn] at hrow;have hst:(fr'.map fmC).set h (o6 [.string ⟨fm.data.toArray⟩,.int .i64 fm.refs,.bool fm.dirty,.bool true] 3 [.bool false])=(fr'.set h ⟨fm.data,fm.refs,fm.dirty,false⟩).map fmC:=by
   rw [xl1];rfl
  repeat' (first|(with_reducible apply a8 a7);rfl;rfl;rfl|(with_reducible apply a9);rfl;(first|apply Ld.sc a7;rfl;exact hS.rowCj 1 rfl (by assumption) rfl|apply Ld.sl a7;rfl;exact hS.blkC 0 rfl rfl);rfl|(with_reducible apply l7 a7);rfl;rfl;rfl;rfl;omega;rfl|refine yDn (by with_reducible constructor) ?_|(with_reducible apply f6);rfl;rfl|(with_reducible apply f8);rfl;rfl|(with_reducible apply b9);rfl;all_goals (intro hb hp;try (exfalso;omega))|(with_reducible apply t5 hS a7 (i:=1));(iterate 4 rfl);assumption;(iterate 5 rfl);intro w' hS';simp only [List.set] at hS';clear hS;have hS:=hS';clear hS')
  rw [hst] at hS;exact e9 (m,fr'.set h ⟨fm.data,fm.refs,fm.dirty,false⟩,x5 fr.length h) (by exact Fr.sub_of rfl) ⟨hcl,by show a0M (fr'.set h ⟨fm.data,fm.refs,fm.dirty,false⟩) (x5 fr.length h) held < m;unfold a0M at hm |-;rw [xa8];omega,hnl,by show (fr'.set h _).length=_;rw [xa8];exact hfl⟩ hS (by show m < m + 1;omega)
 ·rw [xf1 hsn] at hcl;have hsf:fm.seen=false:=by simpa using hsn
  rw [hsf] at hrow;have hall:=fun w2 (h':St G w w2 (rkS g0 ⟨sh,fr',sl,sps,((x5 fr.length h:Nat):Int),vsh,.slice (some ⟨gf,0,none⟩) fr.length cf,vsl,vsp⟩))=>b10 (Γ:=[]) (by rw [List.append_nil];exact h') (f:=h) ⟨by show h < fr'.length;omega,fun _=>hfree2,hlen,hkd,hspl⟩
  repeat' (first|(with_reducible apply a8 a7);rfl;rfl;rfl|(with_reducible apply a9);rfl;(first|apply Ld.sc a7;rfl;exact hS.rowCj 1 rfl (by assumption) rfl|apply Ld.sl a7;rfl;exact hS.blkC 0 rfl rfl);rfl|(with_reducible apply l7 a7);rfl;rfl;rfl;rfl;omega;rfl|refine yDn (by with_reducible constructor) ?_|(with_reducible apply f8);rfl;rfl|(with_reducible apply b9);rfl;all_goals (intro hb hp;try (exfalso;omega))|(with_reducible apply r6);rfl;rfl;rfl;refine ⟨_,hall _ hS,?_⟩;rintro _ w2 ⟨rfl,k',hk1,hk2,h2⟩)
  (refine k7 rfl ?_)
  replace hS:=St.transM (Γ:=[]) (by rw [List.append_nil];exact hS) h2;rw [List.append_nil] at hS;rw [<- hcl];dsimp only;refine ⟨rfl,k',?_,?_,hS⟩
  ·rw [hk1];rfl
  ·exact ⟨⟨hk2.like.sh,hk2.like.vsh,hk2.like.ar⟩,hk2.vfr,hk2.vsl,hk2.vsp⟩
def a0L (k:KV) (f:Nat) (x:Fm):KV:=⟨k.sh,k.fr.set f x,k.sl,k.sp,k.hand,k.vsh,k.vfr,k.vsl,k.vsp⟩
theorem a1U (k:KV) (f:Nat) (x:Fm):RLike k (a0L k f x):=⟨⟨rfl,rfl,rfl⟩,rfl,rfl,rfl⟩
theorem a8y (k:KV) (f:Nat) (x:Fm):(a0L k f x).K=a0j k.K f x:=rfl
def a50 (k:KV) (sp:Nat) (x:Sp) (L:List En) (v:Value):KV:=⟨k.sh,k.fr,k.sl,k.sp.set sp ⟨⟨x.s.live,x.s.areas,L⟩,x.va,v⟩,k.hand,k.vsh,k.vfr,k.vsl,k.vsp⟩
theorem b01 {k:KV} {sp:Nat} {x:Sp} (hx:k.sp[sp]?=some x) (L:List En) (v:Value):(a50 k sp x L v).K=a10 k.K sp L:=by
 have h:=a1o (a2W hx);unfold a50 a10 a9O;rw [h];unfold KV.K;dsimp only;rw [xl1]
theorem a5f {k:KV} {sp:Nat} {x:Sp} (hx:k.sp[sp]?=some x) (L:List En) (v:Value):RLike k (a50 k sp x L v):=by
 refine ⟨⟨rfl,rfl,?_⟩,rfl,rfl,rfl⟩;show (k.sp.set sp _).map (fun p=>(p.va,p.s.areas))=_;rw [xl1];refine a15 ?_;rw [xh6,hx];rfl
theorem a6Y (k:KV) (e:En):RLike k (a2e k e):=by
 refine ⟨b2O k e,?_,?_,(b5z k e).2.1⟩ <;> (unfold a2e;split <;> rfl)
theorem b3w (K:Ker) (sp:Nat) (l:List En) (e:En):a3q (a10 K sp l) e=a10 (a3q K e) sp l:=by
 unfold a3q a10 a9O a0E
 split <;> rfl
theorem b7D {K:Ker} {sp:Nat} {page:Int} (h:l9 (j9 K sp) page=none) (f:Nat) (data:List UInt8) (dirty:Bool):a10 (a0j K f ⟨data,1,dirty,false⟩) sp (putE (j9 K sp) ⟨page,1,(f:Nat)⟩)=inK K sp page f data dirty:=by
 unfold inK;rw [h];rfl
theorem b1D {K:Ker} {sp:Nat} {page:Int} {e:En} (h:l9 (j9 K sp) page=some e) (f:Nat) (data:List UInt8) (dirty:Bool):a3q (a10 (a0j K f ⟨data,1,dirty,false⟩) sp (putE (j9 K sp) ⟨page,1,(f:Nat)⟩)) e=inK K sp page f data dirty:=by
 rw [b3w];unfold inK;rw [h];rfl
theorem EntOk.setF {k:KV} {e:En} (h:EntOk k e) (f:Nat) (d:List UInt8) (y s:Bool):EntOk (a0L k f ⟨d,1,y,s⟩) e:=by
 obtain ⟨h1,h2,h3⟩:=h;refine ⟨?_,fun g hg=>?_,h3⟩
 ·show (e.kind=1/\∃ i:Nat,e.at_=(i:Nat)/\i < (k.fr.set f _).length)\/_;rw [xa8];exact h1
 ·rcases xm8 hg with h|rfl
  ·exact h2 g h
  ·exact ⟨by show (0:Int)<=1;decide,by show (1:Int)<=100000;decide⟩
theorem EntOk.put {k:KV} {e:En} (h:EntOk k e) (sp:Nat) (x:Sp) (L:List En) (v:Value):EntOk (a50 k sp x L v) e:=⟨h.names,h.fr,h.sl⟩
theorem a7M {F:Nat->Prop} {w0 w:World} {Γ:List Asr} {g0:Nat} {k:KV} (hS0:St F w0 w (rkS g0 k++Γ)) (hR0:KRo (fps (rkS g0 k)) w k) (hr:Right k.K) {sp:Nat} {page:Int} (ha:At k.K sp page) {way:Int} {held:List Nat} {vh:Value} (hH:Sl (fps (rkS g0 k)) w 1 vh (held.map a2P)) (hl:held.length<=1) (hh:∀ i ∈ held,∃ p,p≠page/\l9 (j9 k.K sp) p=some ⟨p,1,(i:Nat)⟩):Fn Tryz.prog 85 [.pointer (some ⟨g0,0,none⟩),.int .i64 (sp:Nat),.int .i64 page,.int .i64 way,vh] w (fun v w'=>v=.int .i64 ((a0z k.K sp page (decide (way=1)) held).2:Nat)/\∃ k',k'.K=(a0z k.K sp page (decide (way=1)) held).1/\RLike k k'/\St (fps (rkS g0 k)) w w' (rkS g0 k')):=by
 have hS:=St.startM hS0;have hR:=hR0;generalize fps (rkS g0 k)=G at hS hR hH |-;clear hR0 hS0;rw [<- List.append_nil (rkS g0 k)] at hS;obtain ⟨x,hx,hxl,hxa,hxe,hxr⟩:=a5J ha;obtain ⟨hsc,hel⟩:=a0u hr x.s (xd0 (a2W hx));have hpg:=a4R hsc.ar hxa;have hbA:=a5r hr ha hl hh;unfold a0z a1p;obtain ⟨A,hA⟩:∃ A,A=a1Q k.K sp page held:=⟨_,rfl⟩;rw [<- hA] at hbA |-;have hxm:=xd0 hx;have hspl:=d6 hx;have hrd:=hr.cnt.1;have hrd2:k.K.frames.length=k.fr.length:=rfl;have hfo:=a3h hr (held:=held) (by omega);have hg:=a3Y hr (held:=held) (by omega);have hget:=fun w1 Γ1 (h:St G w w1 (rkS g0 k++Γ1))=>b1j h (hH.nowM h) hfo;have hea:=fun w1 Γ1 (h:St G w w1 (rkS g0 k++Γ1))=>a23 ((KerV.rk h hR).spv x hxm) page;have hspV:=fun w1 Γ1 (h:St G w w1 (rkS g0 k++Γ1))=>(KerV.rk h hR).sp;have haa:=fun w1 Γ1 (h:St G w w1 (rkS g0 k++Γ1))=>a3X page ((KerV.rk h hR).spv x hxm).ar (a0X (x7.1 hsc.ar).2);have hix:=a57 x.s.entries page;generalize a1F (fun e:En=>decide (e.page=page)) x.s.entries=ix at hea hix;obtain ⟨a,hfa⟩:=xi2.1 hxa;rw [hfa] at haa;unfold a3j at haa;dsimp only [Option.getD,Option.isSome] at haa;obtain ⟨bs,cs,hvsp⟩:∃ b c,k.vsp=.slice (some ⟨b,0,none⟩) k.sp.length c:=by
  have h2:=hS;unfold rkS a04 at h2;obtain ⟨p,c,h⟩:=h2.rowSlice 3 rfl;rw [xi9] at h;rw [h] at h2 |-;obtain ⟨g,rfl⟩:=h2.rowSome 3 rfl (by omega);exact ⟨g,c,rfl⟩
 obtain ⟨bf,cf,hvfr⟩:∃ b c,k.vfr=.slice (some ⟨b,0,none⟩) k.fr.length c:=by
  have h2:=hS;unfold rkS frA at h2;obtain ⟨p,c,h⟩:=h2.rowSlice 1 rfl;rw [xi9] at h;rw [h] at h2 |-;obtain ⟨g,rfl⟩:=h2.rowSome 1 rfl (by omega);exact ⟨g,c,rfl⟩
 obtain ⟨sh,fr,sl,sps,hand,vsh,vfr,vsl,vsp⟩:=k;dsimp only at hvsp hvfr hx hxm hspl hrd2 hspV |-;subst hvsp hvfr;have hrowS:=c9 (f:=spC) hx;unfold spC at hrowS hea;unfold arC at haa
 try dsimp only at haa hspV hea
 refine yEn Tryz.func85 Tryz.ntmps85 (by kernel_rfl) (by kernel_rfl) rfl rfl ?_
 repeat' (first|(with_reducible apply a8 a7);rfl;rfl;rfl|(with_reducible apply a9);rfl;(apply Ld.sl a7;rfl;(first|exact hS.blkC 0 rfl rfl|exact hS.rowCj 3 rfl (by assumption) rfl));rfl|(with_reducible apply l7 a7);rfl;rfl;rfl;rfl;omega;rfl|(with_reducible first|apply a2R|apply a2Q|apply a3C|apply a2g)|(with_reducible apply d8 hS a7);rfl;rfl;rfl;clear hS;intro g w' hS|(with_reducible apply b8 hS a7 (i:=0));(iterate 8 rfl);exact (rfl:_=[_,_,_,_]);clear hS;intro w' hS;simp only [List.set] at hS|(with_reducible apply d7 hS);rfl;rfl;rfl;refine ⟨_,haa _ _ hS,?_⟩;clear hS;intro w' hS|(with_reducible apply a9T a7);rfl;rfl;rfl;refine ⟨_,(hspV _ _ hS.drop).rng hrowS,rfl,?_⟩|(with_reducible apply d7 hS);rfl;rfl;rfl;refine ⟨_,hea _ _ hS.drop,?_⟩;clear hS;intro w' hS)
 rename Nat=>gA
 obtain ⟨k0,hk0⟩:∃ k0:KV,k0=⟨sh,fr,sl,sps,hand,vsh,.slice (some ⟨bf,0,none⟩) fr.length cf,vsl,.slice (some ⟨bs,0,none⟩) sps.length cs⟩:=⟨_,rfl⟩;refine a07 (F:=G) (w0:=w) (X:=KV) (fun _=>[(0,.pointer (some ⟨g0,0,none⟩)),(1,.int .i64 (sp:Nat)),(2,.int .i64 page),(3,.int .i64 way),(4,vh),(11,.pointer (some ⟨bs,0 + sp * 3,none⟩))]) (fun k'=>rkS g0 k') (fun k'=>k'.K=A.1/\RLike k0 k') ?_ ?_
 ·rcases hix with ⟨he,rfl⟩|⟨ei,e,he,rfl,hei⟩
  ·obtain ⟨d,d1,d2,d3⟩:=a6u hr ha;have hz:zAt (KV.K ⟨sh,fr,sl,sps,hand,vsh,.slice (some ⟨bf,0,none⟩) fr.length cf,vsl,.slice (some ⟨bs,0,none⟩) sps.length cs⟩) sp page=a.z:=by unfold zAt;rw [hxr,hfa];rfl
   rw [hz] at d1;have hAe:A=(inK (a0d (KV.K ⟨sh,fr,sl,sps,hand,vsh,.slice (some ⟨bf,0,none⟩) fr.length cf,vsl,.slice (some ⟨bs,0,none⟩) sps.length cs⟩) held).1 sp page (a0d (KV.K ⟨sh,fr,sl,sps,hand,vsh,.slice (some ⟨bf,0,none⟩) fr.length cf,vsl,.slice (some ⟨bs,0,none⟩) sps.length cs⟩) held).2 d false,(a0d (KV.K ⟨sh,fr,sl,sps,hand,vsh,.slice (some ⟨bf,0,none⟩) fr.length cf,vsl,.slice (some ⟨bs,0,none⟩) sps.length cs⟩) held).2):=by
    rw [hA];unfold a1Q;rw [hxe,he,d3]
   rw [<- hk0] at hS hget hR hr ha hg hAe;have hd1:a0I (shs k0.sh) a.z page=some d:=by rw [hk0];exact d1
   have hn0:l9 (j9 k0.K sp) page=none:=by rw [hk0,hxe];exact he
   have hv0:k0.vfr=.slice (some ⟨bf,0,none⟩) fr.length cf/\k0.vsp=.slice (some ⟨bs,0,none⟩) sps.length cs/\k0.fr.length=fr.length:=by rw [hk0];exact ⟨rfl,rfl,rfl⟩
   obtain ⟨R,hRe⟩:∃ R,R=a0d k0.K held:=⟨_,rfl⟩;rw [<- hRe] at hget hg hAe;clear hea hspV haa hk0 hrd2;replace hS:=hS.perm List.perm_middle.symm
   repeat' (first|(with_reducible apply a8 a7);rfl;rfl;rfl|refine yDn (by with_reducible constructor) ?_|(with_reducible apply f6);rfl;rfl|(with_reducible apply r6);rfl;rfl;rfl;refine ⟨_,hget _ _ hS,?_⟩;rintro _ w2 ⟨rfl,k1,e1,l1,h2⟩;(replace hS:=St.transM hS h2);clear h2)
   clear hget;have hr1:Right k1.K:=by rw [e1];exact hg.right
   have ha1:At k1.K sp page:=by rw [e1];exact ha.same hg.same.ar hg.same.live
   obtain ⟨x1,hx1,-,-,hxe1,-⟩:=a5J ha1;obtain ⟨hsc1,hel1⟩:=a0u hr1 x1.s (xd0 (a2W hx1));have hvf1:=l1.vfr.trans hv0.1;have hvs1:=l1.vsp.trans hv0.2.1;have hfl0:R.2 < fr.length:=by
    have h1:=hg.lt;rw [show k0.K.frames.length=k0.fr.length from rfl,hv0.2.2] at h1;exact h1
   have hfl:R.2 < k1.fr.length:=by
    have h1:=hg.lt;have h2:k1.fr.length=k1.K.frames.length:=rfl;rw [h2,e1,hg.same.nfr];exact h1
   have hR1:=hR.like l1.like;have hfil:=fun w1 Γ1 (h:St G w w1 (rkS g0 k1++Γ1))=>a86 (a:=a) (KerV.rk h hR1) hr1.rise (p:=page) (x:=d) (by rw [l1.like.sh];exact hd1);obtain ⟨sh1,fr1,sl1,sps1,hand1,vsh1,vfr1,vsl1,vsp1⟩:=k1;dsimp only at hvf1 hvs1 hx1 hfl;subst hvf1 hvs1;obtain ⟨fm1,hfm1⟩:=j0 (l:=fr1) (i:=R.2) (by omega);have hrowF:=c9 (f:=fmC) hfm1;unfold fmC at hrowF;have est:(fr1.map fmC).set R.2 (o6 [.string ⟨fm1.data.toArray⟩,.int .i64 fm1.refs,.bool fm1.dirty,.bool fm1.seen] 0 [.string ⟨d.toArray⟩,.int .i64 1,.bool false,.bool false])=(fr1.set R.2 ⟨d,1,false,false⟩).map fmC:=by
    rw [xl1];rfl
   replace hS:=hS.perm xm4;rw [<- List.append_nil (rkS _ _)] at hS;unfold rkS kvC frA slA a04 at hS;dsimp only [List.cons_append,List.nil_append] at hS
   repeat' (fail)
   (focus ((with_reducible apply a0p _ _ _ 13 (by kernel_rfl) (by kernel_rfl) hS);(simp only [xl2,xl3,xl6,xl7]);(repeat' (first|(first|(with_reducible apply i7 a7);rfl;rfl|(with_reducible apply i9);rfl;(intro wd hd;replace hd:St _ _ wd _:=hd;(first|apply Ld.sl a7;rfl;exact hd.blkC 1 rfl rfl|apply Ld.st a7;rfl;(first|exact hd.blkR 0 rfl|exact hd.blkR 1 rfl);rfl));rfl|(with_reducible apply y8 a7);rfl;rfl;rfl;rfl;omega;rfl|(with_reducible apply a1Z a7);rfl;rfl;exact (rfl:_=some [_,_,_,_]);rfl)|(with_reducible apply y7);rfl;rfl;rfl;refine ⟨_,fun wd hd=>hfil _ _ hd.drop,?_⟩));all_goals ((with_reducible apply j7);intro w' hS';clear hS;have hS:=hS';clear hS')))
   repeat' (first|(with_reducible apply a8 a7);rfl;rfl;rfl|(with_reducible apply n7 a7);rfl;rfl;exact (rfl:_=some [_,_,_]);rfl|refine yDn (by with_reducible constructor) ?_|(with_reducible apply o5 hS a7 (i:=2));(iterate 4 rfl);assumption;(iterate 5 rfl);intro w' hS';simp only [List.set] at hS';clear hS;have hS:=hS';clear hS')
   rw [est] at hS;obtain ⟨k1,hk1⟩:∃ k1:KV,k1=⟨sh1,fr1,sl1,sps1,hand1,vsh1,.slice (some ⟨bf,0,none⟩) fr.length cf,vsl1,.slice (some ⟨bs,0,none⟩) sps.length cs⟩:=⟨_,rfl⟩;replace hS:St G w w' (.blk gA (arC a)::(rkS g0 (a0L k1 R.2 ⟨d,1,false,false⟩)++[])):=by rw [hk1];exact hS
   have hvs:k1.vsp=.slice (some ⟨bs,0,none⟩) sps.length cs:=by rw [hk1]
   rw [<- hk1] at e1 l1 hr1 ha1 hxe1 hR1;replace hx1:k1.sp[sp]?=some x1:=by rw [hk1];exact hx1
   replace hS:=hS.perm List.perm_middle.symm;have hR2:=hR1.like (a1U k1 R.2 ⟨d,1,false,false⟩).like;have hput:=a8K hS (hR2.nowM hS) hx1 (e':=⟨page,1,(R.2:Nat)⟩) hsc1.rises (by omega);have hep:a2y (a0L k1 R.2 ⟨d,1,false,false⟩).vsp (sp * 3)=.pointer (some ⟨bs,0 + sp * 3,none⟩):=by
    rw [show (a0L k1 R.2 ⟨d,1,false,false⟩).vsp=k1.vsp from rfl,hvs];rfl
   rw [hep] at hput;unfold enC at hput;dsimp only at hput
   repeat' (first|refine yDn (by with_reducible constructor) ?_|(with_reducible apply r6);rfl;rfl;rfl;refine ⟨_,hput,?_⟩;rintro _ w3 ⟨rfl,ve',h3⟩;skip)
   replace hS:=St.transM (Δ:=rkS g0 (a50 (a0L k1 R.2 ⟨d,1,false,false⟩) sp x1 (putE x1.s.entries ⟨page,1,(R.2:Nat)⟩) ve')) hS h3;clear h3;clear hput;have hn1:l9 (j9 k1.K sp) page=none:=by rw [e1];exact hg.none_ _ _ hn0
   refine n5 (a50 (a0L k1 R.2 ⟨d,1,false,false⟩) sp x1 (putE x1.s.entries ⟨page,1,(R.2:Nat)⟩) ve') (by exact Fr.sub_of rfl) ⟨?_,(l1.trans (a1U _ _ _)).trans (a5f (k:=a0L k1 R.2 ⟨d,1,false,false⟩) hx1 _ _)⟩ (hS.sub (xm3 _ _));rw [b01 (k:=a0L k1 R.2 ⟨d,1,false,false⟩) hx1,a8y,<- hxe1,b7D hn1,hAe,e1]
  ·have hxv0:=(KerV.rk hS.drop hR).spv x hxm;obtain ⟨b,off,c,hve⟩:=hxv0.en.form1 hei;have hentV:=fun w1 Γ1 (h:St G w w1 (rkS g0 ⟨sh,fr,sl,sps,hand,vsh,.slice (some ⟨bf,0,none⟩) fr.length cf,vsl,.slice (some ⟨bs,0,none⟩) sps.length cs⟩++Γ1))=>((KerV.rk h hR).spv x hxm).en;rw [hve] at hentV;have hrowE:=c9 (f:=enC) hei;unfold enC at hrowE;rw [hve] at hrowS;have heil:=d6 hei;have hnm:=(a4K hr (sp:=sp) (p:=page) (e:=e) (by rw [hxe];exact he));by_cases hk:e.kind=2;rotate_left
   ·have hd2:decide (e.kind=2)=false:=xj0 hk;have hAe:A.1=k0.K:=by
     rw [hA,hk0];unfold a1Q;rw [hxe,he];dsimp only;rw [xf1 hk]
    repeat' (first|(with_reducible apply a8 a7);rfl;rfl;rfl|(with_reducible apply l7 a7);rfl;rfl;rfl;rfl;omega;rfl|refine yDn (by with_reducible constructor) ?_|((with_reducible apply f8);rfl;first|rfl|assumption)|(with_reducible apply a1a a7);rfl;rfl;rfl;refine ⟨_,(hspV _ _ hS.drop).cel hrowS rfl,?_⟩|(with_reducible apply a3J a7);rfl;rfl;rfl;refine ⟨_,(hentV _ _ hS.drop).cel hrowE rfl,?_⟩)
    rw [<- hk0] at hS;exact n5 k0 (by exact Fr.sub_of rfl) ⟨hAe.symm,RLike.refl _⟩ (hS.drop.sub (xm3 _ _))
   have hd2:decide (e.kind=2)=true:=xj2 hk;obtain ⟨hep0,hnm2,-⟩:=hnm;rcases hnm2 with ⟨hk1,-⟩|⟨-,j,hj,hjl,hjr,hjd⟩
   ·omega
   obtain ⟨epg,ekd,eat⟩:=e;dsimp only at hj hk hep0 hd2;subst hj;have hAe:A=(inK (a0d (KV.K ⟨sh,fr,sl,sps,hand,vsh,.slice (some ⟨bf,0,none⟩) fr.length cf,vsl,.slice (some ⟨bs,0,none⟩) sps.length cs⟩) held).1 sp page (a0d (KV.K ⟨sh,fr,sl,sps,hand,vsh,.slice (some ⟨bf,0,none⟩) fr.length cf,vsl,.slice (some ⟨bs,0,none⟩) sps.length cs⟩) held).2 (a0J sl j).data true,(a0d (KV.K ⟨sh,fr,sl,sps,hand,vsh,.slice (some ⟨bf,0,none⟩) fr.length cf,vsl,.slice (some ⟨bs,0,none⟩) sps.length cs⟩) held).2):=by
    rw [hA];unfold a1Q;rw [hxe,he];dsimp only;rw [xf0 hk];rfl
   repeat' (first|(with_reducible apply a8 a7);rfl;rfl;rfl|(with_reducible apply l7 a7);rfl;rfl;rfl;rfl;omega;rfl|refine yDn (by with_reducible constructor) ?_|(with_reducible apply f6);rfl;assumption|(with_reducible apply f8);rfl;rfl|(with_reducible apply a1a a7);rfl;rfl;rfl;refine ⟨_,(hspV _ _ hS.drop).cel hrowS rfl,?_⟩|(with_reducible apply a3J a7);rfl;rfl;rfl;refine ⟨_,(hentV _ _ hS.drop).cel hrowE rfl,?_⟩)
   rw [<- hk0] at hS hget hR hr ha hg hAe;have hn0:l9 (j9 k0.K sp) page=some ⟨epg,ekd,(j:Nat)⟩:=by rw [hk0,hxe];exact he
   have hv0:k0.vfr=.slice (some ⟨bf,0,none⟩) fr.length cf/\k0.vsp=.slice (some ⟨bs,0,none⟩) sps.length cs/\k0.fr.length=fr.length:=by rw [hk0];exact ⟨rfl,rfl,rfl⟩
   have hjr0:(a0J k0.K.slots j).refs≠0:=by rw [hk0];exact hjr
   have hsl0:a0J k0.K.slots j=a0J sl j:=by rw [hk0];rfl
   obtain ⟨R,hRe⟩:∃ R,R=a0d k0.K held:=⟨_,rfl⟩;rw [<- hRe] at hget hg hAe;have hjl0:j < k0.K.slots.length:=by rw [hk0];exact hjl
   clear hea hspV haa hk0 hrd2 hentV hrowS hrowE hfo;replace hS:=hS.perm List.perm_middle.symm
   repeat' (first|(with_reducible apply a8 a7);rfl;rfl;rfl|refine yDn (by with_reducible constructor) ?_|(with_reducible apply r6);rfl;rfl;rfl;refine ⟨_,hget _ _ hS,?_⟩;rintro _ w2 ⟨rfl,k1,e1,l1,h2⟩;(replace hS:=St.transM hS h2);clear h2)
   clear hget;have hr1:Right k1.K:=by rw [e1];exact hg.right
   have ha1:At k1.K sp page:=by rw [e1];exact ha.same hg.same.ar hg.same.live
   obtain ⟨x1,hx1,-,-,hxe1,-⟩:=a5J ha1;obtain ⟨hsc1,hel1⟩:=a0u hr1 x1.s (xd0 (a2W hx1));have hvf1:=l1.vfr.trans hv0.1;have hvs1:=l1.vsp.trans hv0.2.1;have hfl0:R.2 < fr.length:=by
    have h1:=hg.lt;rw [show k0.K.frames.length=k0.fr.length from rfl,hv0.2.2] at h1;exact h1
   have hfl:R.2 < k1.fr.length:=by
    have h1:=hg.lt;have h2:k1.fr.length=k1.K.frames.length:=rfl;rw [h2,e1,hg.same.nfr];exact h1
   have hR1:=hR.like l1.like;have hn1:l9 (j9 k1.K sp) page=some ⟨epg,ekd,(j:Nat)⟩:=by rw [e1];exact hg.some_ _ _ _ hn0 (xd6 (by show ekd≠1;omega))
   have hsl1:a0J k1.K.slots j=a0J sl j:=by rw [e1,hg.slots j hjr0,hsl0]
   have hxm1:=xd0 hx1;have hea:=fun w1 (h:SpV w1 x1)=>a23 h page;have hix1:=a57 x1.s.entries page;generalize a1F (fun e:En=>decide (e.page=page)) x1.s.entries=ix1 at hea hix1;rw [<- hxe1,hn1] at hix1;rcases hix1 with ⟨h0,-⟩|⟨ei1,e',h0,rfl,hei1⟩
   ·cases h0
   cases h0
   rw [hxe1] at hei1;have heil1:=d6 hei1;replace hS:=hS.sub (xm3 _ _);rw [<- List.append_nil (rkS g0 k1)] at hS;obtain ⟨b1,off1,c1,hve1⟩:=((KerV.rk hS hR1).spv x1 (xd0 hx1)).en.form1 hei1;have hslV1:=fun w1 Γ1 (h:St G w w1 (rkS g0 k1++Γ1))=>(KerV.rk h hR1).sl;have hjl1:j < k1.sl.length:=by
    have h2:k1.sl.length=k1.K.slots.length:=rfl;rw [h2,e1,hg.same.nsl];exact hjl0
   obtain ⟨s1,va1,ve1⟩:=x1;dsimp only at hve1 hsc1 hel1 hei1 hxe1 heil1;subst hve1;have hrowS1:=c9 (f:=spC) hx1;have hrowE1:=c9 (f:=enC) hei1;unfold spC at hrowS1 hea;unfold enC at hrowE1
   try dsimp only at hrowS1 hea hrowE1
   obtain ⟨sh1,fr1,sl1,sps1,hand1,vsh1,vfr1,vsl1,vsp1⟩:=k1;dsimp only at hvf1 hvs1 hx1 hxm1 hfl hslV1 hjl1 hrowS1;subst hvf1 hvs1
   repeat' (fail)
   refine a07 (F:=G) (w0:=w) (X:=Nat) (fun g=>[(0,.pointer (some ⟨g0,0,none⟩)),(1,.int .i64 (sp:Nat)),(2,.int .i64 page),(3,.int .i64 way),(4,vh),(11,.pointer (some ⟨bs,0 + sp * 3,none⟩)),(16,.int .i64 (R.2:Nat)),(17,.pointer (some ⟨g,0,none⟩))]) (fun g=>.blk g [.int .i64 epg,.int .i64 ekd,.int .i64 (j:Nat)]::(rkS g0 ⟨sh1,fr1,sl1,sps1,hand1,vsh1,.slice (some ⟨bf,0,none⟩) fr.length cf,vsl1,.slice (some ⟨bs,0,none⟩) sps.length cs⟩++[])) (fun _=>True) ?_ ?_
   ·rw [List.append_nil] at hS;unfold rkS kvC frA slA a04 at hS;dsimp only [List.cons_append,List.nil_append] at hS;replace hS:=hS.pullE 4 hx1 rfl;simp only [xl2,xl3,v6] at hS;unfold a0c at hS;dsimp only at hS;have hoff:off1=0:=by
     rcases hS.rowForm 0 rfl with ⟨h1,-⟩|⟨q1,q2,h1,-⟩
     ·cases h1
     ·injection h1 with h1 _ _
      injection h1 with h1
      injection h1
    subst hoff;replace hS:=hS.reorderT 5 [0,4,1,2,3] (by decide) rfl;simp only [v6,xl6,xl7] at hS;refine a1Y 2 12 13 rfl hS (by kernel_rfl) ?_;intro w10 hS';clear hS;have hS:=hS';clear hS';simp only [xl2,xl3];have hH:=hS.sub (xm3 [_,_] _)
    ((with_reducible apply k6 (nn 0) a7);rfl;kernel_rfl;exact (fun _ _ _ h=>h);exact xd3 hH;rfl;rfl)
    ((with_reducible apply k6 (nn 1) a7);rfl;kernel_rfl;exact (fun _ _ _ h=>h);exact xd3 hH;rfl;rfl)
    ((with_reducible apply k6 (nn 2) a7);rfl;kernel_rfl;exact (fun _ _ _ h=>h);exact xd3 hH;rfl;rfl)
    ((with_reducible apply o3 (nn 3));rfl;kernel_rfl;kernel_rfl;rfl;exact (fun _ _ _ h=>h);exact hH;rfl;(intro w2 hw2;(replace hw2:St _ _ w2 _:=hw2;apply Ld.sl a7;rfl;exact hw2.rowCj 1 rfl hrowS1 rfl));rfl)
    ((with_reducible apply k6 (nn 4) a7);rfl;kernel_rfl;exact (fun _ _ _ h=>h);exact xd3 hH;rfl;rfl)
    ((with_reducible apply k6 (nn 5) a7);rfl;kernel_rfl;exact (fun _ _ _ h=>h);exact xd3 hH;rfl;rfl)
    ((with_reducible apply o3 (nn 6));rfl;kernel_rfl;kernel_rfl;rfl;exact (fun _ _ _ h=>h);exact hH;rfl;(intro w2 hw2;(replace hw2:St _ _ w2 _:=hw2;apply Ld.st a7;rfl;exact (hw2.rowSl 1 rfl).rng hrowS1;rfl));rfl)
    ((with_reducible apply k6 (nn 7) a7);rfl;kernel_rfl;exact (fun _ _ _ h=>h);exact xd3 hH;rfl;rfl)
    refine a73 (i:=8) (j:=11) (by kernel_rfl) ?_ ?_
    ·refine m9 rfl (s9 (first:=[]) (caps:=[]) rfl rfl (hea _ ⟨(hR1.ar _ hxm1).now hS,hS.rowSl 0 rfl⟩)) rfl ?_;rintro _ w' ⟨rfl,hS'⟩;replace hS:=hS.transA hS';simp only [v6] at hS;clear hS';have hH:=hS.sub (xm3 [_,_] _);refine ⟨xd3 (xd3 hH),?_⟩
     ((with_reducible apply a2M (nn 9));rfl;kernel_rfl;kernel_rfl;kernel_rfl;rfl;exact (fun _ _ _ h=>h);exact xd3 hH;(intro a ha;exact a5i a7 (j:=ei1) rfl rfl rfl rfl (by omega) a ha _);rfl)
     ((with_reducible apply o3 (nn 10));rfl;kernel_rfl;kernel_rfl;rfl;exact (fun _ _ _ h=>h);exact hH;rfl;(intro w2 hw2;(replace hw2:St _ _ w2 _:=hw2;apply Ld.st a7;rfl;exact (hw2.rowSl 0 rfl).rng hrowE1;rfl));rfl)
     refine q9 (i:=11) (by kernel_rfl) ?_;refine m9 rfl (v9 hS a7 rfl rfl) rfl ?_;rintro _ w' ⟨gE,rfl,hS'⟩;clear hS;have hS:=hS';clear hS';have hH:=hS.drop.sub (xm3 [_,_] _);refine ⟨xd3 (xd3 hH),?_⟩;refine q9 (i:=12) (by kernel_rfl) ?_;refine a1e (Φ:=fun _ w'=>St _ _ w' _) rfl (m7 hS a7 (i:=0) rfl rfl rfl rfl rfl (xg1 rfl) (by intro u hu;simp [Value.cells] at hu;rcases hu with rfl|rfl|rfl <;> rfl)) ?_;intro _ w' hS';simp only [List.set] at hS';clear hS;have hS:=hS';clear hS';refine ⟨xd6 rfl,?_⟩;refine a1h (by kernel_rfl) ?_;replace hS:=hS.reorderT 6 [0,1,3,4,5,2] (by decide) rfl;simp only [v6,xl6,xl7] at hS;replace hS:=(hS.perm (List.Perm.swap _ _ _));replace hS:=St.pushE (y:=⟨s1,va1,.slice (some ⟨b1,0,none⟩) s1.entries.length c1⟩) hS 5 hx1 rfl;rw [a15 hx1] at hS;simp only [xl2,xl3,v6] at hS
     repeat' (fail)
     refine n5 _ (by exact Fr.sub_of rfl) trivial ?_;unfold rkS kvC frA slA a04;rw [List.append_nil];exact hS
    ·refine m9 rfl (v9 hS a7 rfl rfl) rfl ?_;rintro _ w' ⟨gE,rfl,hS'⟩;clear hS;have hS:=hS';clear hS';have hH:=hS.drop.sub (xm3 [_,_] _);refine ⟨xd3 (xd3 hH),?_⟩;refine q9 (i:=8) (by kernel_rfl) ?_;refine m9 rfl (s9 (first:=[]) (caps:=[]) rfl rfl (hea _ ⟨(hR1.ar _ hxm1).now hS,hS.rowSl 1 rfl⟩)) rfl ?_;rintro _ w' ⟨rfl,hS'⟩;replace hS:=hS.transA hS';simp only [v6] at hS;clear hS';have hH:=hS.drop.sub (xm3 [_,_] _);refine ⟨xd3 (xd3 hH),?_⟩
     ((with_reducible apply a2M (nn 9));rfl;kernel_rfl;kernel_rfl;kernel_rfl;rfl;exact (fun _ _ _ h=>h);exact xd3 hH;(intro a ha;exact a5i a7 (j:=ei1) rfl rfl rfl rfl (by omega) a ha _);rfl)
     ((with_reducible apply o3 (nn 10));rfl;kernel_rfl;kernel_rfl;rfl;exact (fun _ _ _ h=>h);exact hH;rfl;(intro w2 hw2;(replace hw2:St _ _ w2 _:=hw2;apply Ld.st a7;rfl;exact (hw2.rowSl 0 rfl).rng hrowE1;rfl));rfl)
     refine q9 (i:=12) (by kernel_rfl) ?_;refine a1e (Φ:=fun _ w'=>St _ _ w' _) rfl (m7 hS a7 (i:=0) rfl rfl rfl rfl rfl (xg1 rfl) (by intro u hu;simp [Value.cells] at hu;rcases hu with rfl|rfl|rfl <;> rfl)) ?_;intro _ w' hS';simp only [List.set] at hS';clear hS;have hS:=hS';clear hS';refine ⟨xd6 rfl,?_⟩;refine a1h (by kernel_rfl) ?_;replace hS:=hS.reorderT 6 [0,1,3,4,5,2] (by decide) rfl;simp only [v6,xl6,xl7] at hS;replace hS:=(hS.perm (List.Perm.swap _ _ _));replace hS:=St.pushE (y:=⟨s1,va1,.slice (some ⟨b1,0,none⟩) s1.entries.length c1⟩) hS 5 hx1 rfl;rw [a15 hx1] at hS;simp only [xl2,xl3,v6] at hS
     repeat' (fail)
     refine n5 _ (by exact Fr.sub_of rfl) trivial ?_;unfold rkS kvC frA slA a04;rw [List.append_nil];exact hS
   clear hS;rintro gE w3 - hS;obtain ⟨sw1,hs1⟩:=j0 (l:=sl1) (i:=j) (by omega);obtain ⟨bl,ol,cl,hvl⟩:=(hslV1 _ _ hS.drop).form1 hs1;subst hvl;have hrowL:=c9 (f:=swC) hs1;unfold swC at hrowL;have hs1d:sw1=a0J sl j:=by rw [<- hsl1];exact (a1J hs1).symm
   obtain ⟨fm1,hfm1⟩:=j0 (l:=fr1) (i:=R.2) (by omega);have hrowF:=c9 (f:=fmC) hfm1;unfold fmC at hrowF;have est:(fr1.map fmC).set R.2 (o6 [.string ⟨fm1.data.toArray⟩,.int .i64 fm1.refs,.bool fm1.dirty,.bool fm1.seen] 0 [.string ⟨sw1.data.toArray⟩,.int .i64 1,.bool true,.bool false])=(fr1.set R.2 ⟨sw1.data,1,true,false⟩).map fmC:=by
    rw [xl1];rfl
   unfold rkS kvC frA slA a04 at hS;dsimp only [List.cons_append,List.nil_append] at hS
   repeat' ((refine yDn (by with_reducible constructor) ?_))
   (focus ((with_reducible apply a0p _ _ _ 16 (by kernel_rfl) (by kernel_rfl) hS);(simp only [xl2,xl3,xl6,xl7]);(repeat' (first|(first|(with_reducible apply i7 a7);rfl;rfl|(with_reducible apply i9);rfl;(intro wd hd;replace hd:St _ _ wd _:=hd;(first|apply Ld.sc a7;rfl;exact hd.blkC 0 rfl rfl|apply Ld.sl a7;rfl;exact hd.blkC 1 rfl rfl));rfl|(with_reducible apply y8 a7);rfl;rfl;rfl;rfl;omega;rfl|(with_reducible apply a1Z a7);rfl;rfl;exact (rfl:_=some [_,_,_,_]);rfl)|(with_reducible apply i9);rfl;(intro wd hd;replace hd:St _ _ wd _:=hd;(apply Ld.sc a7;rfl;exact (hslV1 _ _ hd.drop).cel0 hrowL rfl));rfl));all_goals ((with_reducible apply j7);intro w' hS';clear hS;have hS:=hS';clear hS')))
   repeat' (first|(with_reducible apply a8 a7);rfl;rfl;rfl|(with_reducible apply n7 a7);rfl;rfl;exact (rfl:_=some [_,_,_]);rfl|refine yDn (by with_reducible constructor) ?_|(with_reducible apply o5 hS a7 (i:=2));(iterate 4 rfl);assumption;(iterate 5 rfl);intro w' hS';simp only [List.set] at hS';clear hS;have hS:=hS';clear hS')
   rw [est] at hS;obtain ⟨k1,hk1⟩:∃ k1:KV,k1=⟨sh1,fr1,sl1,sps1,hand1,vsh1,.slice (some ⟨bf,0,none⟩) fr.length cf,.slice (some ⟨bl,ol,none⟩) sl1.length cl,.slice (some ⟨bs,0,none⟩) sps.length cs⟩:=⟨_,rfl⟩;replace hS:St G w w' (.blk gE (enC ⟨epg,ekd,(j:Nat)⟩)::(rkS g0 (a0L k1 R.2 ⟨sw1.data,1,true,false⟩)++[])):=by rw [hk1];exact hS
   have hvs:k1.vsp=.slice (some ⟨bs,0,none⟩) sps.length cs:=by rw [hk1]
   rw [<- hk1] at e1 l1 hr1 ha1 hxe1 hR1 hn1;obtain ⟨x1,hx1e⟩:∃ x1:Sp,x1=⟨s1,va1,.slice (some ⟨b1,off1,none⟩) s1.entries.length c1⟩:=⟨_,rfl⟩;have hxs:x1.s=s1:=by rw [hx1e]
   rw [<- hxs] at hsc1 hel1 hei1 hxe1;replace hx1:k1.sp[sp]?=some x1:=by rw [hk1,hx1e];exact hx1
   replace hS:=hS.perm List.perm_middle.symm;have hR2:=hR1.like (a1U k1 R.2 ⟨sw1.data,1,true,false⟩).like;have hput:=a8K hS (hR2.nowM hS) hx1 (e':=⟨page,1,(R.2:Nat)⟩) hsc1.rises (by omega);have hep:a2y (a0L k1 R.2 ⟨sw1.data,1,true,false⟩).vsp (sp * 3)=.pointer (some ⟨bs,0 + sp * 3,none⟩):=by
    rw [show (a0L k1 R.2 ⟨sw1.data,1,true,false⟩).vsp=k1.vsp from rfl,hvs];rfl
   rw [hep] at hput;unfold enC at hput;dsimp only at hput
   repeat' (first|(with_reducible apply a8 a7);rfl;rfl;rfl|refine yDn (by with_reducible constructor) ?_|(with_reducible apply r6);rfl;rfl;rfl;refine ⟨_,hput,?_⟩;rintro _ w3 ⟨rfl,ve',h3⟩;skip)
   replace hS:=St.transM (Δ:=rkS g0 (a50 (a0L k1 R.2 ⟨sw1.data,1,true,false⟩) sp x1 (putE x1.s.entries ⟨page,1,(R.2:Nat)⟩) ve')) hS h3;clear h3;clear hput;replace hS:St G w w3 (.blk gE [.int .i64 epg,.int .i64 ekd,.int .i64 (j:Nat)]::(rkS g0 (a50 (a0L k1 R.2 ⟨sw1.data,1,true,false⟩) sp x1 (putE x1.s.entries ⟨page,1,(R.2:Nat)⟩) ve')++[])):=hS.perm xm7
   repeat' (((with_reducible apply a9);rfl;(apply Ld.st a7;rfl;exact hS.blkR 0 rfl;rfl);rfl))
   replace hS:=hS.perm List.perm_middle.symm;have heo:=((a7e hr1 hx1 (xd0 hei1)).setF R.2 sw1.data true false).put sp x1 (putE x1.s.entries ⟨page,1,(R.2:Nat)⟩) ve';have hlet:=a8g hS heo;unfold enC at hlet;dsimp only at hlet
   repeat' (first|refine yDn (by with_reducible constructor) ?_|(with_reducible apply r6);rfl;rfl;rfl;refine ⟨_,hlet,?_⟩;rintro _ w4 ⟨rfl,h4⟩;skip)
   replace hS:=St.transM hS h4;clear h4 hlet;refine n5 (a2e (a50 (a0L k1 R.2 ⟨sw1.data,1,true,false⟩) sp x1 (putE x1.s.entries ⟨page,1,(R.2:Nat)⟩) ve') ⟨epg,ekd,(j:Nat)⟩) (by exact Fr.sub_of rfl) ⟨?_,((l1.trans (a1U _ _ _)).trans (a5f (k:=a0L k1 R.2 ⟨sw1.data,1,true,false⟩) hx1 _ _)).trans (a6Y _ _)⟩ (hS.sub (xm3 _ _));rw [b0g,b01 (k:=a0L k1 R.2 ⟨sw1.data,1,true,false⟩) hx1,a8y,<- hxe1,b1D hn1,hAe,e1,hs1d]
 clear hS;rintro k1 w1 ⟨e1,l1⟩ hS;clear hea hspV haa hget;have hR0:KRo G w k0:=by rw [hk0];exact hR
 have hR1:=hR0.like l1.like;have hr1:Right k1.K:=by rw [e1];exact hbA.right
 have ha1:At k1.K sp page:=by rw [e1];exact ha.same hbA.same.ar hbA.same.live
 obtain ⟨x1,hx1,-,-,hxe1,-⟩:=a5J ha1;obtain ⟨hsc1,hel1⟩:=a0u hr1 x1.s (xd0 (a2W hx1));have hvf1:k1.vfr=.slice (some ⟨bf,0,none⟩) fr.length cf:=by rw [l1.vfr,hk0]
 have hvs1:k1.vsp=.slice (some ⟨bs,0,none⟩) sps.length cs:=by rw [l1.vsp,hk0]
 have hxm1:=xd0 hx1;have hn1:l9 (j9 k1.K sp) page=some ⟨page,1,(A.2:Nat)⟩:=by rw [e1];exact hbA.ent
 obtain ⟨f1,hf1⟩:∃ f1,f1=A.2:=⟨_,rfl⟩;rw [<- hf1] at hn1 |-;have hnf:=a3F hr1 hn1;have hfl1:f1 < k1.fr.length:=hnf.1;have hlen:k1.fr.length=fr.length:=by
  have h1:k1.fr.length=k1.K.frames.length:=rfl;rw [h1,e1,hbA.same.nfr];rfl
 have hea:=fun w1 (h:SpV w1 x1)=>a23 h page;have hix1:=a57 x1.s.entries page;generalize a1F (fun e:En=>decide (e.page=page)) x1.s.entries=ix1 at hea hix1;rw [<- hxe1,hn1] at hix1;rcases hix1 with ⟨h0,-⟩|⟨ei1,e',h0,rfl,hei1⟩
 ·cases h0
 cases h0
 rw [hxe1] at hei1;have heil1:=d6 hei1;rw [<- List.append_nil (rkS g0 k1)] at hS;obtain ⟨b1,off1,c1,hve1⟩:=((KerV.rk hS hR1).spv x1 (xd0 hx1)).en.form1 hei1;obtain ⟨s1,va1,ve1⟩:=x1;dsimp only at hve1 hsc1 hel1 hei1 hxe1 heil1;subst hve1;have hrowS1:=c9 (f:=spC) hx1;have hrowE1:=c9 (f:=enC) hei1;unfold spC at hrowS1 hea;unfold enC at hrowE1
 try dsimp only at hrowS1 hea hrowE1
 obtain ⟨sh1,fr1,sl1,sps1,hand1,vsh1,vfr1,vsl1,vsp1⟩:=k1;dsimp only at hvf1 hvs1 hx1 hxm1 hfl1 hlen hrowS1;subst hvf1 hvs1
 repeat' ((with_reducible apply a2R))
 refine a07 (F:=G) (w0:=w) (X:=Nat) (fun g=>[(0,.pointer (some ⟨g0,0,none⟩)),(1,.int .i64 (sp:Nat)),(2,.int .i64 page),(3,.int .i64 way),(4,vh),(11,.pointer (some ⟨bs,0 + sp * 3,none⟩)),(18,.pointer (some ⟨g,0,none⟩))]) (fun g=>.blk g [.int .i64 page,.int .i64 1,.int .i64 (f1:Nat)]::(rkS g0 ⟨sh1,fr1,sl1,sps1,hand1,vsh1,.slice (some ⟨bf,0,none⟩) fr.length cf,vsl1,.slice (some ⟨bs,0,none⟩) sps.length cs⟩++[])) (fun _=>True) ?_ ?_
 ·rw [List.append_nil] at hS;unfold rkS kvC frA slA a04 at hS;dsimp only [List.cons_append,List.nil_append] at hS;replace hS:=hS.pullE 4 hx1 rfl;simp only [xl2,xl3,v6] at hS;unfold a0c at hS;dsimp only at hS;have hoff:off1=0:=by
   rcases hS.rowForm 0 rfl with ⟨h1,-⟩|⟨q1,q2,h1,-⟩
   ·cases h1
   ·injection h1 with h1 _ _
    injection h1 with h1
    injection h1
  subst hoff;replace hS:=hS.reorderT 5 [0,4,1,2,3] (by decide) rfl;simp only [v6,xl6,xl7] at hS;refine a1Y 2 12 13 rfl hS (by kernel_rfl) ?_;intro w10 hS';clear hS;have hS:=hS';clear hS';simp only [xl2,xl3];have hH:=hS.sub (xm3 [_,_] _)
  ((with_reducible apply k6 (nn 0) a7);rfl;kernel_rfl;exact (fun _ _ _ h=>h);exact xd3 hH;rfl;rfl)
  ((with_reducible apply k6 (nn 1) a7);rfl;kernel_rfl;exact (fun _ _ _ h=>h);exact xd3 hH;rfl;rfl)
  ((with_reducible apply k6 (nn 2) a7);rfl;kernel_rfl;exact (fun _ _ _ h=>h);exact xd3 hH;rfl;rfl)
  ((with_reducible apply o3 (nn 3));rfl;kernel_rfl;kernel_rfl;rfl;exact (fun _ _ _ h=>h);exact hH;rfl;(intro w2 hw2;(replace hw2:St _ _ w2 _:=hw2;apply Ld.sl a7;rfl;exact hw2.rowCj 1 rfl hrowS1 rfl));rfl)
  ((with_reducible apply k6 (nn 4) a7);rfl;kernel_rfl;exact (fun _ _ _ h=>h);exact xd3 hH;rfl;rfl)
  ((with_reducible apply k6 (nn 5) a7);rfl;kernel_rfl;exact (fun _ _ _ h=>h);exact xd3 hH;rfl;rfl)
  ((with_reducible apply o3 (nn 6));rfl;kernel_rfl;kernel_rfl;rfl;exact (fun _ _ _ h=>h);exact hH;rfl;(intro w2 hw2;(replace hw2:St _ _ w2 _:=hw2;apply Ld.st a7;rfl;exact (hw2.rowSl 1 rfl).rng hrowS1;rfl));rfl)
  ((with_reducible apply k6 (nn 7) a7);rfl;kernel_rfl;exact (fun _ _ _ h=>h);exact xd3 hH;rfl;rfl)
  refine a73 (i:=8) (j:=11) (by kernel_rfl) ?_ ?_
  ·refine m9 rfl (s9 (first:=[]) (caps:=[]) rfl rfl (hea _ ⟨(hR1.ar _ hxm1).now hS,hS.rowSl 0 rfl⟩)) rfl ?_;rintro _ w' ⟨rfl,hS'⟩;replace hS:=hS.transA hS';simp only [v6] at hS;clear hS';have hH:=hS.sub (xm3 [_,_] _);refine ⟨xd3 (xd3 hH),?_⟩
   ((with_reducible apply a2M (nn 9));rfl;kernel_rfl;kernel_rfl;kernel_rfl;rfl;exact (fun _ _ _ h=>h);exact xd3 hH;(intro a ha;exact a5i a7 (j:=ei1) rfl rfl rfl rfl (by omega) a ha _);rfl)
   ((with_reducible apply o3 (nn 10));rfl;kernel_rfl;kernel_rfl;rfl;exact (fun _ _ _ h=>h);exact hH;rfl;(intro w2 hw2;(replace hw2:St _ _ w2 _:=hw2;apply Ld.st a7;rfl;exact (hw2.rowSl 0 rfl).rng hrowE1;rfl));rfl)
   refine q9 (i:=11) (by kernel_rfl) ?_;refine m9 rfl (v9 hS a7 rfl rfl) rfl ?_;rintro _ w' ⟨gE,rfl,hS'⟩;clear hS;have hS:=hS';clear hS';have hH:=hS.drop.sub (xm3 [_,_] _);refine ⟨xd3 (xd3 hH),?_⟩;refine q9 (i:=12) (by kernel_rfl) ?_;refine a1e (Φ:=fun _ w'=>St _ _ w' _) rfl (m7 hS a7 (i:=0) rfl rfl rfl rfl rfl (xg1 rfl) (by intro u hu;simp [Value.cells] at hu;rcases hu with rfl|rfl|rfl <;> rfl)) ?_;intro _ w' hS';simp only [List.set] at hS';clear hS;have hS:=hS';clear hS';refine ⟨xd6 rfl,?_⟩;refine a1h (by kernel_rfl) ?_;replace hS:=hS.reorderT 6 [0,1,3,4,5,2] (by decide) rfl;simp only [v6,xl6,xl7] at hS;replace hS:=(hS.perm (List.Perm.swap _ _ _));replace hS:=St.pushE (y:=⟨s1,va1,.slice (some ⟨b1,0,none⟩) s1.entries.length c1⟩) hS 5 hx1 rfl;rw [a15 hx1] at hS;simp only [xl2,xl3,v6] at hS
   repeat' (fail)
   refine n5 _ (by exact Fr.sub_of rfl) trivial ?_;unfold rkS kvC frA slA a04;rw [List.append_nil];exact hS
  ·refine m9 rfl (v9 hS a7 rfl rfl) rfl ?_;rintro _ w' ⟨gE,rfl,hS'⟩;clear hS;have hS:=hS';clear hS';have hH:=hS.drop.sub (xm3 [_,_] _);refine ⟨xd3 (xd3 hH),?_⟩;refine q9 (i:=8) (by kernel_rfl) ?_;refine m9 rfl (s9 (first:=[]) (caps:=[]) rfl rfl (hea _ ⟨(hR1.ar _ hxm1).now hS,hS.rowSl 1 rfl⟩)) rfl ?_;rintro _ w' ⟨rfl,hS'⟩;replace hS:=hS.transA hS';simp only [v6] at hS;clear hS';have hH:=hS.drop.sub (xm3 [_,_] _);refine ⟨xd3 (xd3 hH),?_⟩
   ((with_reducible apply a2M (nn 9));rfl;kernel_rfl;kernel_rfl;kernel_rfl;rfl;exact (fun _ _ _ h=>h);exact xd3 hH;(intro a ha;exact a5i a7 (j:=ei1) rfl rfl rfl rfl (by omega) a ha _);rfl)
   ((with_reducible apply o3 (nn 10));rfl;kernel_rfl;kernel_rfl;rfl;exact (fun _ _ _ h=>h);exact hH;rfl;(intro w2 hw2;(replace hw2:St _ _ w2 _:=hw2;apply Ld.st a7;rfl;exact (hw2.rowSl 0 rfl).rng hrowE1;rfl));rfl)
   refine q9 (i:=12) (by kernel_rfl) ?_;refine a1e (Φ:=fun _ w'=>St _ _ w' _) rfl (m7 hS a7 (i:=0) rfl rfl rfl rfl rfl (xg1 rfl) (by intro u hu;simp [Value.cells] at hu;rcases hu with rfl|rfl|rfl <;> rfl)) ?_;intro _ w' hS';simp only [List.set] at hS';clear hS;have hS:=hS';clear hS';refine ⟨xd6 rfl,?_⟩;refine a1h (by kernel_rfl) ?_;replace hS:=hS.reorderT 6 [0,1,3,4,5,2] (by decide) rfl;simp only [v6,xl6,xl7] at hS;replace hS:=(hS.perm (List.Perm.swap _ _ _));replace hS:=St.pushE (y:=⟨s1,va1,.slice (some ⟨b1,0,none⟩) s1.entries.length c1⟩) hS 5 hx1 rfl;rw [a15 hx1] at hS;simp only [xl2,xl3,v6] at hS
   repeat' (fail)
   refine n5 _ (by exact Fr.sub_of rfl) trivial ?_;unfold rkS kvC frA slA a04;rw [List.append_nil];exact hS
 clear hS;rintro gB w3 - hS;obtain ⟨fm1,hfm1⟩:=j0 (l:=fr1) (i:=f1) (by omega);have hrowF:=c9 (f:=fmC) hfm1;unfold fmC at hrowF;have hH0:=hH;clear hH;obtain ⟨B,hB⟩:∃ B,B=a3E A.1 sp page (decide (way=1)) held f1:=⟨_,rfl⟩;rw [<- hB];obtain ⟨k2,hk2⟩:∃ k2:KV,k2=⟨sh1,fr1,sl1,sps1,hand1,vsh1,.slice (some ⟨bf,0,none⟩) fr.length cf,vsl1,.slice (some ⟨bs,0,none⟩) sps.length cs⟩:=⟨_,rfl⟩;rw [<- hk2] at l1 e1 hr1 hR1 ha1 hn1 hxe1;have hx2:k2.sp[sp]?=some ⟨s1,va1,.slice (some ⟨b1,off1,none⟩) s1.entries.length c1⟩:=by rw [hk2];exact hx1
 have hfmA:m6 A.1.frames f1=fm1:=by rw [<- e1,hk2];exact p9 hfm1
 have hfold:∀ w1,St G w w1 (.blk gB [.int .i64 page,.int .i64 1,.int .i64 (f1:Nat)]::.blk g0 [vsh1,.slice (some ⟨bf,0,none⟩) fr.length cf,vsl1,.slice (some ⟨bs,0,none⟩) sps.length cs,.int .i64 hand1]::.row 89 4 (.slice (some ⟨bf,0,none⟩) fr.length cf) (fr1.map fmC)::.row 143 2 vsl1 (sl1.map swC)::.row 75 3 (.slice (some ⟨bs,0,none⟩) sps.length cs) (sps1.map spC)::(sps1.map a0c++[]))->St G w w1 (.blk gB [.int .i64 page,.int .i64 1,.int .i64 (f1:Nat)]::(rkS g0 k2++[])):=fun w1 h=>by rw [hk2];exact h
 unfold rkS kvC frA slA a04 at hS;dsimp only [List.cons_append,List.nil_append] at hS
 repeat' ((with_reducible apply a2R))
 refine a07 (F:=G) (w0:=w) (X:=Unit) (fun _=>[(0,.pointer (some ⟨g0,0,none⟩)),(1,.int .i64 (sp:Nat)),(2,.int .i64 page),(3,.int .i64 way),(4,vh),(11,.pointer (some ⟨bs,0 + sp * 3,none⟩)),(18,.pointer (some ⟨gB,0,none⟩)),(134,.bool (decide (way=1/\1 < fm1.refs)))]) (fun _=>(.blk gB [.int .i64 page,.int .i64 1,.int .i64 (f1:Nat)]::.blk g0 [vsh1,.slice (some ⟨bf,0,none⟩) fr.length cf,vsl1,.slice (some ⟨bs,0,none⟩) sps.length cs,.int .i64 hand1]::.row 89 4 (.slice (some ⟨bf,0,none⟩) fr.length cf) (fr1.map fmC)::.row 143 2 vsl1 (sl1.map swC)::.row 75 3 (.slice (some ⟨bs,0,none⟩) sps.length cs) (sps1.map spC)::(sps1.map a0c++[]))) (fun _=>True) ?_ ?_
 ·by_cases hw:way=1
  ·have hdw:decide (way=1)=true:=xj2 hw;have hdr:decide (1 < fm1.refs)=decide (way=1/\1 < fm1.refs):=xo2.2 ⟨fun h=>⟨hw,h⟩,fun h=>h.2⟩;rw [<- hdr]
   (focus ((with_reducible apply d9 _ _ _ (by kernel_rfl) (by kernel_rfl) hS);(repeat' ((first|(with_reducible apply i7 a7);rfl;rfl|(with_reducible apply i9);rfl;(intro wd hd;replace hd:St _ _ wd _:=hd;(first|apply Ld.sc a7;rfl;(first|exact hd.blkC 0 rfl rfl|exact hd.rowCj 2 rfl (by assumption) rfl)|apply Ld.sl a7;rfl;exact hd.blkC 1 rfl rfl));rfl|(with_reducible apply y8 a7);rfl;rfl;rfl;rfl;omega;rfl|(first|(with_reducible apply a0t);(iterate 4 rfl);assumption|(with_reducible apply t7);rfl;assumption;rfl;rfl))));all_goals ((with_reducible apply j7);intro w' hS';clear hS;have hS:=hS';clear hS')))
   repeat' ((refine yDn (by with_reducible constructor) ?_))
   exact n5 () (by exact Fr.sub_of rfl) trivial hS
  ·have hdw:decide (way=1)=false:=xj0 hw;rw [show decide (way=1/\1 < fm1.refs)=false from xj0 (fun h=>hw h.1)]
   (focus ((with_reducible apply d9 _ _ _ (by kernel_rfl) (by kernel_rfl) hS);(repeat' ((first|(with_reducible apply i7 a7);rfl;rfl|(first|(with_reducible apply a14);(iterate 4 rfl);assumption;rfl|(with_reducible apply r7);rfl;assumption;rfl;rfl))));all_goals ((with_reducible apply j7);intro w' hS';clear hS;have hS:=hS';clear hS')))
   repeat' ((refine yDn (by with_reducible constructor) ?_))
   exact n5 () (by exact Fr.sub_of rfl) trivial hS
 clear hS;rintro - w4 - hS
 repeat' (fail)
 refine a07 (F:=G) (w0:=w) (X:=KV) (fun _=>[(0,.pointer (some ⟨g0,0,none⟩)),(3,.int .i64 way),(18,.pointer (some ⟨gB,0,none⟩))]) (fun k'=>.blk gB [.int .i64 page,.int .i64 1,.int .i64 (B.2:Nat)]::(rkS g0 k'++[])) (fun k'=>k'.K=B.1/\RLike k2 k') ?_ ?_
 ·by_cases hwr:way=1/\1 < fm1.refs;rotate_left
  ·have hBe:B=(A.1,f1):=by
    rw [hB];unfold a3E;rw [hfmA,xf1 (fun h=>hwr ⟨xn9 h.1,h.2⟩)]
   rw [hBe];rw [xj0 hwr]
   repeat' (first|refine yDn (by with_reducible constructor) ?_|(with_reducible apply f8);rfl;rfl)
   exact n5 k2 (by exact Fr.sub_of rfl) ⟨e1,RLike.refl _⟩ (hfold _ hS)
  rw [xj2 hwr];have hBe:B=(inK (a0d A.1 (held++[f1])).1 sp page (a0d A.1 (held++[f1])).2 fm1.data true,(a0d A.1 (held++[f1])).2):=by
   rw [hB];unfold a3E;rw [hfmA,xf0 ⟨xj2 hwr.1,hwr.2⟩]
  have hl2:(held++[f1]).length<=2:=by rw [xe9,xi6];omega
  rw [<- e1] at hBe;have hg:=a3Y hr1 (held:=held++[f1]) hl2;have hfo:=a3h hr1 (held:=held++[f1]) hl2;obtain ⟨R,hRe⟩:∃ R,R=a0d k2.K (held++[f1]):=⟨_,rfl⟩;have hgt:=fun w1 Γ1 v (h:St G w w1 (rkS g0 k2++Γ1)) (hv:Sl (fps (rkS g0 k2)) w1 1 v ((held++[f1]).map a2P))=>b1j h hv hfo;rw [<- hRe] at hg hBe hgt
  repeat' (first|refine yDn (by with_reducible constructor) ?_|(with_reducible apply f6);rfl;rfl)
  refine a07 (F:=G) (w0:=w) (X:=KV) (fun _=>[(0,.pointer (some ⟨g0,0,none⟩)),(2,.int .i64 page),(3,.int .i64 way),(11,.pointer (some ⟨bs,0 + sp * 3,none⟩)),(18,.pointer (some ⟨gB,0,none⟩)),(19,.int .i64 (R.2:Nat))]) (fun k'=>.blk gB [.int .i64 page,.int .i64 1,.int .i64 (f1:Nat)]::(rkS g0 k'++[])) (fun k'=>k'.K=R.1/\RLike k2 k') ?_ ?_
  ·rw [List.append_nil] at hS;refine a1Y 1 9 10 rfl hS (by kernel_rfl) ?_;intro w10 hS';clear hS;have hS:=hS';clear hS';simp only [xl2,xl3];have hH:=hS.sub (xm3 [_] _)
   ((with_reducible apply k6 (nn 0) a7);rfl;kernel_rfl;exact (fun _ _ _ h=>h);exact xd3 hH;rfl;rfl)
   ((with_reducible apply k6 (nn 2) a7);rfl;kernel_rfl;exact (fun _ _ _ h=>h);exact xd3 hH;rfl;rfl)
   ((with_reducible apply k6 (nn 4) a7);rfl;kernel_rfl;exact (fun _ _ _ h=>h);exact xd3 hH;rfl;rfl)
   ((with_reducible apply o3 (nn 5));rfl;kernel_rfl;kernel_rfl;rfl;exact (fun _ _ _ h=>h);exact hH;rfl;(intro w2 hw2;(replace hw2:St _ _ w2 _:=hw2;(apply Ld.sc a7;rfl;exact hw2.blkC 0 rfl rfl)));rfl)
   refine a73 (i:=1) (j:=6) (by kernel_rfl) ?_ ?_
   ·refine m9 rfl (o7 hS a7 rfl rfl rfl rfl rfl rfl) rfl ?_;rintro _ w' ⟨gA,rfl,hS'⟩;clear hS;have hS:=hS';clear hS';refine ⟨xd3 (xd3 (hS.drop.sub (xm3 [_] _))),?_⟩;refine a73 (i:=3) (j:=6) (by kernel_rfl) ?_ ?_
    ·refine m9 rfl (a0A hS a7 (i:=0) rfl rfl rfl rfl (hH0.now hS) (by simp only [xi9,xa2];omega)) rfl ?_;rintro _ w' ⟨qA,cA,rfl,hS'⟩;simp only [List.set,xa2,xi9,xa9,List.nil_append] at hS' |-;clear hS;have hS:=hS';clear hS';refine ⟨xd3 (xd3 (hS.drop.sub (xm3 [_] _))),?_⟩;refine q9 (i:=6) (by kernel_rfl) ?_;refine m9 rfl (o7 hS a7 rfl rfl rfl rfl rfl rfl) rfl ?_;rintro _ w' ⟨gC,rfl,hS'⟩;clear hS;have hS:=hS';clear hS';refine ⟨xd3 (xd3 (hS.drop.drop.sub (xm3 [_] _))),?_⟩;refine q9 (i:=7) (by kernel_rfl) ?_;refine m9 rfl (a0x hS a7 (i:=1) rfl rfl rfl rfl (hS.rowRo 0 rfl) rfl (by simp only [xi9,xb1,xa2];omega)) rfl ?_;rintro _ w' ⟨p',c',rfl,hS'⟩;simp only [List.set,xi9] at hS' |-;clear hS;have hS:=hS';clear hS';have hH:=hS.drop.drop.sub (xm3 [_] _);refine ⟨xd3 (xd3 hH),?_⟩;have hrws:held.map a2P++[[Value.int .i64 (f1:Nat)]]=(held++[f1]).map a2P:=by rw [xl5];rfl
     rw [hrws] at hS;have hS2:=hS.perm (xm4 (l₁:=[_,_,_]));replace hS2:St G w w' (rkS g0 k2++[.row 3 1 (.slice (some ⟨gC,0,none⟩) 1 1) [[.int .i64 (f1:Nat)]],.row 3 1 (.slice p' (held.length + 1) c') ((held++[f1]).map a2P),.blk gB [.int .i64 page,.int .i64 1,.int .i64 (f1:Nat)]]):=by rw [hk2];exact hS2
     refine q9 (i:=8) (by kernel_rfl) ?_;refine m9 rfl (s9 (first:=[]) (caps:=[]) rfl rfl (hgt _ _ _ hS2 (hS2.ownSl 1 rfl))) rfl ?_;rintro _ w' ⟨rfl,k3,e3,l3,h3⟩;replace hS:=(St.transM hS2 h3).perm xm4;have hH:=hS.drop.drop.sub (xm3 [_] _);refine ⟨xd3 (xd3 hH),?_⟩;refine q9 (i:=9) (by kernel_rfl) ?_;refine m9 rfl (Gets.pure a7 rfl) rfl ?_;rintro _ _ ⟨rfl,rfl⟩;refine ⟨xd6 rfl,?_⟩;refine a1h (by kernel_rfl) ?_
     repeat' (fail)
     refine n5 k3 (by exact Fr.sub_of rfl) ⟨e3,l3⟩ ?_;rw [List.append_nil];exact hS.drop.drop
    ·refine m9 rfl (o7 hS a7 rfl rfl rfl rfl rfl rfl) rfl ?_;rintro _ w' ⟨gC,rfl,hS'⟩;clear hS;have hS:=hS';clear hS';refine ⟨xd3 (xd3 (hS.drop.drop.sub (xm3 [_] _))),?_⟩;refine q9 (i:=3) (by kernel_rfl) ?_;refine m9 rfl (a0A hS a7 (i:=1) rfl rfl rfl rfl (hH0.now hS) (by simp only [xi9,xa2];omega)) rfl ?_;rintro _ w' ⟨qA,cA,rfl,hS'⟩;simp only [List.set,xa2,xi9,xa9,List.nil_append] at hS' |-;clear hS;have hS:=hS';clear hS';refine ⟨xd3 (xd3 (hS.drop.drop.sub (xm3 [_] _))),?_⟩;refine q9 (i:=7) (by kernel_rfl) ?_;refine m9 rfl (a0x hS a7 (i:=1) rfl rfl rfl rfl (hS.rowRo 0 rfl) rfl (by simp only [xi9,xb1,xa2];omega)) rfl ?_;rintro _ w' ⟨p',c',rfl,hS'⟩;simp only [List.set,xi9] at hS' |-;clear hS;have hS:=hS';clear hS';have hH:=hS.drop.drop.sub (xm3 [_] _);refine ⟨xd3 (xd3 hH),?_⟩;have hrws:held.map a2P++[[Value.int .i64 (f1:Nat)]]=(held++[f1]).map a2P:=by rw [xl5];rfl
     rw [hrws] at hS;have hS2:=hS.perm (xm4 (l₁:=[_,_,_]));replace hS2:St G w w' (rkS g0 k2++[.row 3 1 (.slice (some ⟨gC,0,none⟩) 1 1) [[.int .i64 (f1:Nat)]],.row 3 1 (.slice p' (held.length + 1) c') ((held++[f1]).map a2P),.blk gB [.int .i64 page,.int .i64 1,.int .i64 (f1:Nat)]]):=by rw [hk2];exact hS2
     refine q9 (i:=8) (by kernel_rfl) ?_;refine m9 rfl (s9 (first:=[]) (caps:=[]) rfl rfl (hgt _ _ _ hS2 (hS2.ownSl 1 rfl))) rfl ?_;rintro _ w' ⟨rfl,k3,e3,l3,h3⟩;replace hS:=(St.transM hS2 h3).perm xm4;have hH:=hS.drop.drop.sub (xm3 [_] _);refine ⟨xd3 (xd3 hH),?_⟩;refine q9 (i:=9) (by kernel_rfl) ?_;refine m9 rfl (Gets.pure a7 rfl) rfl ?_;rintro _ _ ⟨rfl,rfl⟩;refine ⟨xd6 rfl,?_⟩;refine a1h (by kernel_rfl) ?_
     repeat' (fail)
     refine n5 k3 (by exact Fr.sub_of rfl) ⟨e3,l3⟩ ?_;rw [List.append_nil];exact hS.drop.drop
   ·refine m9 rfl (o7 hS a7 rfl rfl rfl rfl rfl rfl) rfl ?_;rintro _ w' ⟨gC,rfl,hS'⟩;clear hS;have hS:=hS';clear hS';refine ⟨xd3 (xd3 (hS.drop.sub (xm3 [_] _))),?_⟩;refine q9 (i:=1) (by kernel_rfl) ?_;refine m9 rfl (o7 hS a7 rfl rfl rfl rfl rfl rfl) rfl ?_;rintro _ w' ⟨gA,rfl,hS'⟩;clear hS;have hS:=hS';clear hS';refine ⟨xd3 (xd3 (hS.drop.drop.sub (xm3 [_] _))),?_⟩;refine q9 (i:=3) (by kernel_rfl) ?_;refine m9 rfl (a0A hS a7 (i:=0) rfl rfl rfl rfl (hH0.now hS) (by simp only [xi9,xa2];omega)) rfl ?_;rintro _ w' ⟨qA,cA,rfl,hS'⟩;simp only [List.set,xa2,xi9,xa9,List.nil_append] at hS' |-;clear hS;have hS:=hS';clear hS';refine ⟨xd3 (xd3 (hS.drop.drop.sub (xm3 [_] _))),?_⟩;replace hS:=St.reorderT 2 [1,0] hS (by decide) rfl;simp only [v6,xl6,xl7] at hS;refine q9 (i:=7) (by kernel_rfl) ?_;refine m9 rfl (a0x hS a7 (i:=1) rfl rfl rfl rfl (hS.rowRo 0 rfl) rfl (by simp only [xi9,xb1,xa2];omega)) rfl ?_;rintro _ w' ⟨p',c',rfl,hS'⟩;simp only [List.set,xi9] at hS' |-;clear hS;have hS:=hS';clear hS';have hH:=hS.drop.drop.sub (xm3 [_] _);refine ⟨xd3 (xd3 hH),?_⟩;have hrws:held.map a2P++[[Value.int .i64 (f1:Nat)]]=(held++[f1]).map a2P:=by rw [xl5];rfl
    rw [hrws] at hS;have hS2:=hS.perm (xm4 (l₁:=[_,_,_]));replace hS2:St G w w' (rkS g0 k2++[.row 3 1 (.slice (some ⟨gC,0,none⟩) 1 1) [[.int .i64 (f1:Nat)]],.row 3 1 (.slice p' (held.length + 1) c') ((held++[f1]).map a2P),.blk gB [.int .i64 page,.int .i64 1,.int .i64 (f1:Nat)]]):=by rw [hk2];exact hS2
    refine q9 (i:=8) (by kernel_rfl) ?_;refine m9 rfl (s9 (first:=[]) (caps:=[]) rfl rfl (hgt _ _ _ hS2 (hS2.ownSl 1 rfl))) rfl ?_;rintro _ w' ⟨rfl,k3,e3,l3,h3⟩;replace hS:=(St.transM hS2 h3).perm xm4;have hH:=hS.drop.drop.sub (xm3 [_] _);refine ⟨xd3 (xd3 hH),?_⟩;refine q9 (i:=9) (by kernel_rfl) ?_;refine m9 rfl (Gets.pure a7 rfl) rfl ?_;rintro _ _ ⟨rfl,rfl⟩;refine ⟨xd6 rfl,?_⟩;refine a1h (by kernel_rfl) ?_
    repeat' (fail)
    refine n5 k3 (by exact Fr.sub_of rfl) ⟨e3,l3⟩ ?_;rw [List.append_nil];exact hS.drop.drop
  clear hS;rintro k1 w5 ⟨e3,l3⟩ hS;have hnf2:(m6 k2.K.frames f1).refs≠0:=by rw [hk2];exact hnf.2.1
  have hkp:=hg.kept f1 (xe6 _ xc5) hnf2;have hn3:l9 (j9 k1.K sp) page=some ⟨page,1,(f1:Nat)⟩:=by rw [e3];exact hg.some_ _ _ _ hn1 (xd3 ⟨f1,xe6 _ xc5,rfl,hnf2⟩)
  have hR1:=hR1.like l3.like;have hr3:Right k1.K:=by rw [e3];exact hg.right
  have ha3:At k1.K sp page:=by rw [e3];exact ha1.same hg.same.ar hg.same.live
  clear hsc1 hel1 hei1 hxe1 hx1 hxm1 hrowF hfm1 hfold;obtain ⟨x1,hx1,-,-,hxe1,-⟩:=a5J ha3;obtain ⟨hsc1,hel1⟩:=a0u hr3 x1.s (xd0 (a2W hx1));have hvs:k1.vsp=.slice (some ⟨bs,0,none⟩) sps.length cs:=by rw [l3.vsp,hk2]
  have hvf3:k1.vfr=.slice (some ⟨bf,0,none⟩) fr.length cf:=by rw [l3.vfr,hk2]
  have hfmd:m6 k1.fr f1=fm1:=by
   have h1:k1.fr=k1.K.frames:=rfl;rw [h1,e3,hkp.2,e1];exact hfmA
  have hl3:k1.fr.length=fr.length:=by
   have h1:k1.fr.length=k1.K.frames.length:=rfl;rw [h1,e3,hg.same.nfr,hk2];exact hlen
  have hRl:R.2 < fr.length:=by
   have h1:=hg.lt;rw [hk2] at h1;have h2:R.2 < fr1.length:=h1;omega
  obtain ⟨i1,hi1⟩:∃ i1:Nat,x1.s.entries[i1]?=some ⟨page,1,(f1:Nat)⟩:=by
   rw [hxe1] at hn3;exact List.getElem?_of_mem (a0a hn3).1
  have heo0:=a7e hr3 hx1 (xd0 hi1);obtain ⟨sh3,fr3,sl3,sps3,hand3,vsh3,vfr3,vsl3,vsp3⟩:=k1;dsimp only at hvf3 hvs hx1 hl3 hfmd;subst hvf3 hvs;obtain ⟨fm3,hfm3⟩:=j0 (l:=fr3) (i:=f1) (by omega);rw [p9 hfm3] at hfmd;subst hfmd;have hrowF3:=c9 (f:=fmC) hfm3;unfold fmC at hrowF3;obtain ⟨fm4,hfm4⟩:=j0 (l:=fr3) (i:=R.2) (by omega);have hrowF4:=c9 (f:=fmC) hfm4;unfold fmC at hrowF4;have est:(fr3.map fmC).set R.2 (o6 [.string ⟨fm4.data.toArray⟩,.int .i64 fm4.refs,.bool fm4.dirty,.bool fm4.seen] 0 [.string ⟨fm3.data.toArray⟩,.int .i64 1,.bool true,.bool false])=(fr3.set R.2 ⟨fm3.data,1,true,false⟩).map fmC:=by
   rw [xl1];rfl
  unfold rkS kvC frA slA a04 at hS;dsimp only [List.cons_append,List.nil_append] at hS
  repeat' ((refine yDn (by with_reducible constructor) ?_))
  (focus ((with_reducible apply a0p _ _ _ 16 (by kernel_rfl) (by kernel_rfl) hS);(simp only [xl2,xl3,xl6,xl7]);(repeat' ((first|(with_reducible apply i7 a7);rfl;rfl|(with_reducible apply i9);rfl;(intro wd hd;replace hd:St _ _ wd _:=hd;(first|apply Ld.sc a7;rfl;(first|exact hd.blkC 0 rfl rfl|exact hd.rowC0 2 rfl (by assumption) rfl)|apply Ld.sl a7;rfl;exact hd.blkC 1 rfl rfl));rfl|(with_reducible apply y8 a7);rfl;rfl;rfl;rfl;omega;rfl|(with_reducible apply a1Z a7);rfl;rfl;exact (rfl:_=some [_,_,_,_]);rfl)));all_goals ((with_reducible apply j7);intro w' hS';clear hS;have hS:=hS';clear hS')))
  repeat' (first|(with_reducible apply a8 a7);rfl;rfl;rfl|(with_reducible apply n7 a7);rfl;rfl;exact (rfl:_=some [_,_,_]);rfl|refine yDn (by with_reducible constructor) ?_|(with_reducible apply o5 hS a7 (i:=2));(iterate 4 rfl);assumption;(iterate 5 rfl);intro w' hS';simp only [List.set] at hS';clear hS;have hS:=hS';clear hS')
  rw [est] at hS;obtain ⟨k1,hk1⟩:∃ k1:KV,k1=⟨sh3,fr3,sl3,sps3,hand3,vsh3,.slice (some ⟨bf,0,none⟩) fr.length cf,vsl3,.slice (some ⟨bs,0,none⟩) sps.length cs⟩:=⟨_,rfl⟩;replace hS:St G w w' (.blk gB [.int .i64 page,.int .i64 1,.int .i64 (f1:Nat)]::(rkS g0 (a0L k1 R.2 ⟨fm3.data,1,true,false⟩)++[])):=by rw [hk1];exact hS
  have hvs:k1.vsp=.slice (some ⟨bs,0,none⟩) sps.length cs:=by rw [hk1]
  rw [<- hk1] at e3 l3 hxe1 hR1 hn3 heo0;replace hx1:k1.sp[sp]?=some x1:=by rw [hk1];exact hx1
  replace hS:=hS.perm List.perm_middle.symm;have hR2:=hR1.like (a1U k1 R.2 ⟨fm3.data,1,true,false⟩).like;have hput:=a8K hS (hR2.nowM hS) hx1 (e':=⟨page,1,(R.2:Nat)⟩) hsc1.rises (by omega);have hep:a2y (a0L k1 R.2 ⟨fm3.data,1,true,false⟩).vsp (sp * 3)=.pointer (some ⟨bs,0 + sp * 3,none⟩):=by
   rw [show (a0L k1 R.2 ⟨fm3.data,1,true,false⟩).vsp=k1.vsp from rfl,hvs];rfl
  rw [hep] at hput;unfold enC at hput;dsimp only at hput
  repeat' (first|(with_reducible apply a8 a7);rfl;rfl;rfl|refine yDn (by with_reducible constructor) ?_|(with_reducible apply r6);rfl;rfl;rfl;refine ⟨_,hput,?_⟩;rintro _ w3 ⟨rfl,ve',h3⟩;skip)
  replace hS:=St.transM (Δ:=rkS g0 (a50 (a0L k1 R.2 ⟨fm3.data,1,true,false⟩) sp x1 (putE x1.s.entries ⟨page,1,(R.2:Nat)⟩) ve')) hS h3;clear h3;clear hput;replace hS:St G w w3 (.blk gB [.int .i64 page,.int .i64 1,.int .i64 (f1:Nat)]::(rkS g0 (a50 (a0L k1 R.2 ⟨fm3.data,1,true,false⟩) sp x1 (putE x1.s.entries ⟨page,1,(R.2:Nat)⟩) ve')++[])):=hS.perm xm7
  repeat' (((with_reducible apply a9);rfl;(apply Ld.st a7;rfl;exact hS.blkR 0 rfl;rfl);rfl))
  replace hS:=hS.perm List.perm_middle.symm;have heo:=(heo0.setF R.2 fm3.data true false).put sp x1 (putE x1.s.entries ⟨page,1,(R.2:Nat)⟩) ve';have hlet:=a8g hS heo;unfold enC at hlet;dsimp only at hlet
  repeat' (first|(with_reducible apply a8 a7);rfl;rfl;rfl|refine yDn (by with_reducible constructor) ?_|(with_reducible apply r6);rfl;rfl;rfl;refine ⟨_,hlet,?_⟩;rintro _ w6 ⟨rfl,h4⟩;skip)
  replace hS:=(St.transM hS h4).perm xm7;clear h4 hlet
  repeat' (first|refine yDn (by with_reducible constructor) ?_|(with_reducible apply b8 hS a7 (i:=0));(iterate 8 rfl);exact (rfl:_=[_,_,_]);clear hS;intro w' hS;simp only [List.set] at hS)
  refine n5 (a2e (a50 (a0L k1 R.2 ⟨fm3.data,1,true,false⟩) sp x1 (putE x1.s.entries ⟨page,1,(R.2:Nat)⟩) ve') ⟨page,1,(f1:Nat)⟩) (by exact Fr.sub_of rfl) ⟨?_,((l3.trans (a1U _ _ _)).trans (a5f (k:=a0L k1 R.2 ⟨fm3.data,1,true,false⟩) hx1 _ _)).trans (a6Y _ _)⟩ ?_
  ·rw [b0g,b01 (k:=a0L k1 R.2 ⟨fm3.data,1,true,false⟩) hx1,a8y,<- hxe1,b1D hn3,hBe,e3]
  ·rw [hBe];exact hS
 clear hS hfold;rintro k3 w5 ⟨e3,l3⟩ hS;have hAB:=(a4k hr ha (decide (way=1)) hl hh).1;unfold a1p at hAB;rw [<- hA,<- hf1,<- hB] at hAB;have hvf3:k3.vfr=.slice (some ⟨bf,0,none⟩) fr.length cf:=by rw [l3.vfr,hk2]
 have hBl:B.2 < fr.length:=by
  have h1:=(a3F hAB.right hAB.ent).1;rw [hAB.same.nfr] at h1;exact h1
 have hl3:k3.fr.length=fr.length:=by
  have h1:k3.fr.length=k3.K.frames.length:=rfl;rw [h1,e3,hAB.same.nfr];rfl
 have hlk:RLike ⟨sh,fr,sl,sps,hand,vsh,.slice (some ⟨bf,0,none⟩) fr.length cf,vsl,.slice (some ⟨bs,0,none⟩) sps.length cs⟩ k3:=by rw [<- hk0];exact l1.trans l3
 obtain ⟨sh3,fr3,sl3,sps3,hand3,vsh3,vfr3,vsl3,vsp3⟩:=k3;dsimp only at hvf3 hl3;subst hvf3;obtain ⟨fm2,hfm2⟩:=j0 (l:=fr3) (i:=B.2) (by omega);have hrowF2:=c9 (f:=fmC) hfm2;unfold fmC at hrowF2;have hs1:(fr3.map fmC).set B.2 (o6 [.string ⟨fm2.data.toArray⟩,.int .i64 fm2.refs,.bool fm2.dirty,.bool fm2.seen] 3 [.bool true])=(fr3.set B.2 ⟨fm2.data,fm2.refs,fm2.dirty,true⟩).map fmC:=by rw [xl1];rfl
 have hrowF3:((fr3.set B.2 ⟨fm2.data,fm2.refs,fm2.dirty,true⟩).map fmC)[B.2]?=some [.string ⟨fm2.data.toArray⟩,.int .i64 fm2.refs,.bool fm2.dirty,.bool true]:=c9 (f:=fmC) (a2f (x:=(⟨fm2.data,fm2.refs,fm2.dirty,true⟩:Fm)) (by omega));have hs2:((fr3.set B.2 ⟨fm2.data,fm2.refs,fm2.dirty,true⟩).map fmC).set B.2 (o6 [.string ⟨fm2.data.toArray⟩,.int .i64 fm2.refs,.bool fm2.dirty,.bool true] 2 [.bool true])=(fr3.set B.2 ⟨fm2.data,fm2.refs,true,true⟩).map fmC:=by
  rw [xl1,xl1,xm6];rfl
 have hfin:∀ dt,dt=(fm2.dirty||decide (way=1))->(⟨sh3,fr3.set B.2 ⟨fm2.data,fm2.refs,dt,true⟩,sl3,sps3,hand3,vsh3,.slice (some ⟨bf,0,none⟩) fr.length cf,vsl3,vsp3⟩:KV).K=a1O B.1 B.2 (decide (way=1)):=fun dt hdt=>by
  rw [<- e3,hdt];unfold a1O a0j KV.K;dsimp only;rw [p9 hfm2]
 have hlk2:∀ fr',RLike ⟨sh,fr,sl,sps,hand,vsh,.slice (some ⟨bf,0,none⟩) fr.length cf,vsl,.slice (some ⟨bs,0,none⟩) sps.length cs⟩ ⟨sh3,fr',sl3,sps3,hand3,vsh3,.slice (some ⟨bf,0,none⟩) fr.length cf,vsl3,vsp3⟩:=fun fr'=>⟨⟨hlk.like.sh,hlk.like.vsh,hlk.like.ar⟩,hlk.vfr,hlk.vsl,hlk.vsp⟩;unfold rkS kvC frA slA a04 at hS;dsimp only [List.cons_append,List.nil_append] at hS;rw [List.append_nil] at hS
 repeat' ((with_reducible apply a2R))
 (focus ((with_reducible apply a0p _ _ _ 8 (by kernel_rfl) (by kernel_rfl) hS);(simp only [xl2,xl3,xl6,xl7]);(repeat' ((first|(with_reducible apply i7 a7);rfl;rfl|(with_reducible apply i9);rfl;(intro wd hd;replace hd:St _ _ wd _:=hd;(first|apply Ld.sc a7;rfl;exact hd.blkC 0 rfl rfl|apply Ld.sl a7;rfl;exact hd.blkC 1 rfl rfl));rfl|(with_reducible apply y8 a7);rfl;rfl;rfl;rfl;omega;rfl)));all_goals ((with_reducible apply j7);intro w' hS';clear hS;have hS:=hS';clear hS')))
 by_cases hw:way=1
 ·have hdw:decide (way=1)=true:=xj2 hw
  repeat' (first|(with_reducible apply a8 a7);rfl;rfl;rfl|refine yDn (by with_reducible constructor) ?_|(with_reducible apply f6);rfl;assumption|(with_reducible apply t5 hS a7 (i:=2));(iterate 4 rfl);assumption;(iterate 5 rfl);intro w' hS';simp only [List.set] at hS';clear hS;have hS:=hS';clear hS')
  rw [hs1] at hS
  (focus ((with_reducible apply a0p _ _ _ 8 (by kernel_rfl) (by kernel_rfl) hS);(simp only [xl2,xl3,xl6,xl7]);(repeat' ((first|(with_reducible apply i7 a7);rfl;rfl|(with_reducible apply i9);rfl;(intro wd hd;replace hd:St _ _ wd _:=hd;(first|apply Ld.sc a7;rfl;exact hd.blkC 0 rfl rfl|apply Ld.sl a7;rfl;exact hd.blkC 1 rfl rfl));rfl|(with_reducible apply y8 a7);rfl;rfl;rfl;rfl;omega;rfl)));all_goals ((with_reducible apply j7);intro w' hS';clear hS;have hS:=hS';clear hS')))
  repeat' (first|(with_reducible apply a8 a7);rfl;rfl;rfl|(with_reducible apply a9);rfl;(apply Ld.sc a7;rfl;exact hS.blkC 0 rfl rfl);rfl|refine yDn (by with_reducible constructor) ?_|(with_reducible apply t5 hS a7 (i:=2));(iterate 4 rfl);assumption;(iterate 5 rfl);intro w' hS';simp only [List.set] at hS';clear hS;have hS:=hS';clear hS')
  rw [hs2] at hS
  (refine k7 rfl ?_)
  exact ⟨rfl,_,hfin true (by rw [hdw];simp),hlk2 _,hS.drop⟩
 ·have hdw:decide (way=1)=false:=xj0 hw
  repeat' (first|(with_reducible apply a8 a7);rfl;rfl;rfl|(with_reducible apply a9);rfl;(apply Ld.sc a7;rfl;exact hS.blkC 0 rfl rfl);rfl|refine yDn (by with_reducible constructor) ?_|(with_reducible apply f8);rfl;assumption|(with_reducible apply t5 hS a7 (i:=2));(iterate 4 rfl);assumption;(iterate 5 rfl);intro w' hS';simp only [List.set] at hS';clear hS;have hS:=hS';clear hS')
  rw [hs1] at hS
  (refine k7 rfl ?_)
  exact ⟨rfl,_,hfin fm2.dirty (by rw [hdw];simp),hlk2 _,hS.drop⟩
structure IncSame (k k':KV):Prop where
 sh:k'.sh=k.sh
 sp:k'.sp=k.sp
 hand:k'.hand=k.hand
 vsh:k'.vsh=k.vsh
 vfr:k'.vfr=k.vfr
 vsl:k'.vsl=k.vsl
 vsp:k'.vsp=k.vsp
 nfr:k'.fr.length=k.fr.length
 nsl:k'.sl.length=k.sl.length
theorem IncSame.trans {a b c:KV} (h:IncSame a b) (h2:IncSame b c):IncSame a c:=⟨h2.sh.trans h.sh,h2.sp.trans h.sp,h2.hand.trans h.hand,h2.vsh.trans h.vsh,h2.vfr.trans h.vfr,h2.vsl.trans h.vsl,h2.vsp.trans h.vsp,h2.nfr.trans h.nfr,h2.nsl.trans h.nsl⟩
def RefsB (k:KV) (b:Int):Prop:=(∀ f ∈ k.fr,0<=f.refs/\f.refs<=b)/\∀ f ∈ k.sl,0<=f.refs/\f.refs<=b
theorem RefsB.mono {k:KV} {b c:Int} (h:RefsB k b) (hbc:b<=c):RefsB k c:=⟨fun f hf=>by have:=h.1 f hf;omega,fun f hf=>by have:=h.2 f hf;omega⟩
theorem Came.own {w w':World} {k:KV} (h:Came w w' k) {n:Nat} (hn:k.K.frames.length=n + 1):St nF w w' (a37 k):=by
 rcases h with ⟨rfl,-⟩|h
 ·cases hn
 ·exact h
theorem b6d {K:Ker} {space addr size way:Int} (h:okR K space addr size way):∃ sp:Nat,space=(sp:Nat)/\Right K/\1<=size/\size<=8/\16<=addr/\addr + size<=4096/\a4u K space addr size way=a1I K sp addr size (decide (way=1))/\∀ i,0<=i->i < size->At K sp ((addr + i) / 16):=by
 have h0:=h;obtain ⟨he,hf⟩:=h;have hl:a1d K space=0:=by
  unfold a0T at he;by_cases hl:a1d K space=0
  ·exact hl
  ·rw [xf1 hl] at he;exact absurd he hl
 obtain ⟨hr,sp,hsp,-,-⟩:=b0z hl;obtain ⟨h1,h2,h3,-,h4,h5,h6⟩:=a9P he hsp (by rw [hsp] at hf;exact hf);refine ⟨sp,hsp,hr,h2,h3,h4,h5,?_,h6⟩;unfold a4u;rw [xf0 h0,hsp,xh9]
def b7O (f:Fm) (n:Int):Fm:=⟨f.data,f.refs + n,f.dirty,f.seen⟩
def b7z (f:Sw) (n:Int):Sw:=⟨f.data,f.refs + n⟩
theorem a6K {α:Type} {N M:List α} (hs:∀ n ∈ M,n ∈ N) (h:N=[]):M=[]:=by
 cases M with
 |nil=>rfl
 |cons a l=>
  have:=hs a xc5;rw [h] at this
  cases this
theorem FmOk.add {sh:List Sh} {f:Fm} {N M:List Nm} (h:FmOk sh f N) (hs:∀ n ∈ M,n ∈ N):FmOk sh (b7O f (M.length:Nat)) (N++M):=by
 have hm:∀ n ∈ N++M,n ∈ N:=fun n hn=>by
  rcases xe3.1 hn with hn|hn
  ·exact hn
  ·exact hs n hn
 refine ⟨?_,fun hn=>?_,fun hn=>h.len (fun h0=>hn (by rw [h0,a6K hs h0];rfl)),fun n hn m hm2=>h.same n (hm n hn) m (hm m hm2),fun n hn=>h.data n (hm n hn)⟩
 ·show f.refs + _=_;rw [h.refs,xe9];omega
 ·obtain ⟨h1,h2⟩:=xo3.1 hn;rw [h2,h.nil h1];rfl
theorem SwOk.add {f:Sw} {N M:List Nm} (h:SwOk f N) (hs:∀ n ∈ M,n ∈ N):SwOk (b7z f (M.length:Nat)) (N++M):=by
 have hm:∀ n ∈ N++M,n ∈ N:=fun n hn=>by
  rcases xe3.1 hn with hn|hn
  ·exact hn
  ·exact hs n hn
 refine ⟨?_,fun hn=>?_,fun hn=>h.len (fun h0=>hn (by rw [h0,a6K hs h0];rfl)),fun n hn m hm2=>h.same n (hm n hn) m (hm m hm2)⟩
 ·show f.refs + _=_;rw [h.refs,xe9];omega
 ·obtain ⟨h1,h2⟩:=xo3.1 hn;rw [h2,h.nil h1];rfl
theorem a1T {α β:Type} (f:α->β):∀ {l:List α} {i:Nat} {x:α},l[i]?=some x->(l.map f).Perm (f x::(l.eraseIdx i).map f)
 |[],_,_,h=>by simp at h
 |a::l,0,x,h=>by
  have:a=x:=by simpa using h
  subst this;exact List.Perm.refl _
 |a::l,i + 1,x,h=>((a1T f (l:=l) (i:=i) (by simpa using h)).cons _).trans (List.Perm.swap _ _ _)
theorem b67 {F:Nat->Prop} {w0 w:World} {g:Nat} {k:KV} {Δ:List Asr} (hS:St F w0 w (.blk g (kvC k)::(a37 k++Δ))):St F w0 w (rkS g k++(a0H k++Δ)):=by
 unfold a37 at hS;unfold rkS
 simpa only [List.cons_append,xg0] using hS
theorem b25 {F:Nat->Prop} {w0 w:World} {g:Nat} {k:KV} {Δ:List Asr} (hS:St F w0 w (rkS g k++(a0H k++Δ))):St F w0 w (.blk g (kvC k)::(a37 k++Δ)):=by
 unfold rkS at hS;unfold a37
 simpa only [List.cons_append,xg0] using hS
theorem Sl.nilF (F:Nat->Prop) (w:World) (sz:Nat):Sl F w sz (.slice none 0 0) []:=xd6 ⟨_,_,rfl,rfl⟩
structure ReOk (K:Ker) (sp:Nat) (addr size:Int):Prop where
 right:Right K
 lo:0<=addr
 s1:1<=size
 s8:size<=8
 at_:∀ i,0<=i->i < size->At K sp ((addr + i) / 16)
theorem ReOk.hi {K:Ker} {sp:Nat} {addr size:Int} (h:ReOk K sp addr size):addr<=5000:=by
 have h1:=h.at_ 0 (by omega) (by have:=h.s1;omega);obtain ⟨s,hs,-,hf⟩:=h1.sc;have hsc:=(a0u h.right s (xd0 hs)).1;have:=a4R hsc.ar hf;omega
theorem a9u {w:World} {k:KV} (hK:KerV w k) {sp:Nat} {addr size way:Int} (h:ReOk k.K sp addr size):Fn Tryz.prog 34 [.agg (kvC k).toArray,.int .i64 (sp:Nat),.int .i64 addr,.int .i64 size,.int .i64 way] w (fun v w'=>∃ k',v=.agg (kvC k').toArray/\k'.K=a1I k.K sp addr size (decide (way=1))/\St nF w w' (a37 k')):=by
 have hhi:=h.hi;obtain ⟨hr,hlo,hs1,hs8,hat⟩:=h;have hown:=fun w1 (h:KerV w1 k)=>a8S h (b26 hr);have hp1:addr.tdiv 16=addr / 16:=xf2 hlo;have hp2:(addr + size - 1).tdiv 16=(addr + size - 1) / 16:=xf2 (by omega);have ha1:At k.K sp (addr / 16):=by have:=hat 0 (by omega) (by omega);rw [Int.add_zero] at this;exact this
 have ha2:At k.K sp ((addr + size - 1) / 16):=by have:=hat (size - 1) (by omega) (by omega);rw [show addr + (size - 1)=addr + size - 1 by omega] at this;exact this
 unfold a1I;obtain ⟨B,hB⟩:∃ B,B=a0z k.K sp (addr / 16) (decide (way=1)) []:=⟨_,rfl⟩;have hbo:=(a33 hr ha1 (decide (way=1)) (held:=[]) (by simp) (by simp)).1;rw [<- hB] at hbo |-;generalize hKK:k.K=K at *;obtain ⟨sh,fr,sl,sps,hand,vsh,vfr,vsl,vsp⟩:=k;have hK0:=hK;obtain ⟨k1,k2,k3,k4,k5⟩:=hK;dsimp only at k1 k2 k3 k4 k5;obtain ⟨p1,c1,rfl⟩:=k1.sl.len;obtain ⟨p2,c2,rfl⟩:=k2.len;obtain ⟨p3,c3,rfl⟩:=k3.len;obtain ⟨p4,c4,rfl⟩:=k4.len;unfold kvC at hown |-;dsimp only at hown |-;refine yEn Tryz.func34 Tryz.ntmps34 (by kernel_rfl) (by kernel_rfl) rfl rfl ?_;have hS:=St.start w
 repeat' (first|(with_reducible apply a9);rfl;(apply Ld.st a7;rfl;exact hS.blkR 1 rfl;rfl);rfl|refine yDn (by with_reducible constructor) ?_|(with_reducible apply l8 hS);rfl;rfl;rfl;clear hS;intro g w' hS|(with_reducible apply d8 hS a7);rfl;rfl;rfl;clear hS;intro g w' hS|(with_reducible apply r6);rfl;rfl;rfl;refine ⟨_,hown _ (hK0.now hS),?_⟩;rintro _ w2 ⟨k2,rfl,hk2,h2⟩)
 replace hS:=hS.trans (h2.perm (a8W k2));clear h2 hown;have hV:=KerV.own hS
 rename Nat=>g10
 obtain ⟨sh2,fr2,sl2,sp2,hand2,vsh2,vfr2,vsl2,vsp2⟩:=k2;obtain ⟨q1,d1,rfl⟩:∃ p c,vsh2=.slice p sh2.length c:=hV.sh.sl.len;obtain ⟨q2,d2,rfl⟩:∃ p c,vfr2=.slice p fr2.length c:=hV.fr.len;obtain ⟨q3,d3,rfl⟩:∃ p c,vsl2=.slice p sl2.length c:=hV.sl.len;obtain ⟨q4,d4,rfl⟩:∃ p c,vsp2=.slice p sp2.length c:=hV.sp.len
 (repeat (fail))
 (((with_reducible apply d8 hS a7);rfl;rfl;rfl);clear hS;intro g11 w' hS)
 repeat' (first|(with_reducible apply a8 a7);rfl;rfl;rfl|(with_reducible apply j4);rfl;rfl;omega;omega;rfl|(with_reducible apply a0m);rfl;rfl;omega;omega;rfl|refine yDn (by with_reducible constructor) ?_|(with_reducible apply b8 hS a7 (i:=0));(iterate 8 rfl);exact (rfl:_=[_,_,_,_,_]);clear hS;intro w' hS;simp only [List.set] at hS|(with_reducible apply a2d);rfl;rfl;omega;omega;omega;rfl)
 rename Nat=>gz
 rw [hp1,hp2];obtain ⟨k2,hk2e⟩:∃ k2:KV,k2=⟨sh2,fr2,sl2,sp2,hand2,.slice q1 sh2.length d1,.slice q2 fr2.length d2,.slice q3 sl2.length d3,.slice q4 sp2.length d4⟩:=⟨_,rfl⟩;replace hS:=b67 (g:=gz) (k:=⟨sh2,fr2,sl2,sp2,hand2,.slice q1 sh2.length d1,.slice q2 fr2.length d2,.slice q3 sl2.length d3,.slice q4 sp2.length d4⟩) hS;rw [<- hk2e] at hk2 hS;have hbr:=a7M hS (KRo.ownG (Θ:=rkS gz k2) hS) (by rw [hk2];exact hr) (sp:=sp) (page:=addr / 16) (by rw [hk2];exact ha1) (way:=way) (held:=[]) (vh:=.slice none 0 0) (Sl.nilF _ _ _) (by simp) (fun _ hi=>by cases hi);rw [hk2,<- hB] at hbr;clear hk2e;by_cases hpp:(addr + size - 1) / 16=addr / 16
 ·have hd:(!decide ((addr + size - 1) / 16=addr / 16))=false:=by rw [xj2 hpp];rfl
  rw [xf0 hpp]
  repeat' (first|(with_reducible apply a8 a7);rfl;rfl;rfl|(with_reducible apply a9);rfl;(apply Ld.st a7;rfl;exact hS.blkR 0 rfl;rfl);rfl|refine yDn (by with_reducible constructor) ?_|(with_reducible apply f8);rfl;assumption|(with_reducible apply r6);rfl;rfl;rfl;refine ⟨_,hbr,?_⟩;rintro _ w3 ⟨rfl,k3,hk3,hl3,h3⟩;(replace hS:=St.transM hS h3;rw [<- a1V hl3.like] at hS;replace hS:=b25 hS))
  have hV3:=KerV.own hS.drop;replace hS:=hS.perm (xm4 (l₁:=_::_));obtain ⟨k3sh,k3fr,k3sl,k3sp,k3hand,k3vsh,k3vfr,k3vsl,k3vsp⟩:=k3;obtain ⟨k3m1,k3m2,k3m3,k3m4,-⟩:=hV3;dsimp only at k3m1 k3m2 k3m3 k3m4;obtain ⟨k3x1,k3y1,rfl⟩:=k3m1.sl.len;obtain ⟨k3x2,k3y2,rfl⟩:=k3m2.len;obtain ⟨k3x3,k3y3,rfl⟩:=k3m3.len;obtain ⟨k3x4,k3y4,rfl⟩:=k3m4.len;clear k3m1 k3m2 k3m3 k3m4
  try unfold kvC at hS
  try unfold kvC
  dsimp only [List.cons_append,List.nil_append] at hS |-
  repeat' (first|refine yDn (by with_reducible constructor) ?_|(with_reducible apply b8 hS a7 (i:=0));(iterate 8 rfl);exact (rfl:_=[_,_,_,_,_]);clear hS;intro w' hS;simp only [List.set] at hS)
  (apply a0U;repeat (first|exact ResL.nil|apply ResL.cell;rfl;(apply Ld.st a7;rfl;exact hS.blkR 0 rfl;rfl)))
  exact ⟨_,rfl,hk3,hS.drop.drop.drop⟩
 ·have hd:(!decide ((addr + size - 1) / 16=addr / 16))=true:=by rw [xj0 hpp];rfl
  rw [xf1 hpp]
  repeat' (first|(with_reducible apply a8 a7);rfl;rfl;rfl|refine yDn (by with_reducible constructor) ?_|(with_reducible apply f6);rfl;assumption|(with_reducible apply a0R hS a7);(iterate 7 rfl);clear hS;intro g w' hS|(with_reducible apply r6);rfl;rfl;rfl;refine ⟨_,hbr,?_⟩;rintro _ w3 ⟨rfl,k3,hk3,hl3,h3⟩;(replace hS:=St.transM hS h3;rw [<- a1V hl3.like] at hS))
  rename Nat=>gB
  have hR3:=KRo.ownG (Θ:=rkS gz k3) hS.drop;replace hS:=hS.perm List.perm_middle.symm;have hbr2:=a7M hS hR3 (by rw [hk3];exact hbo.right) (sp:=sp) (page:=(addr + size - 1) / 16) (by rw [hk3];exact ha2.same hbo.same.ar hbo.same.live) (way:=way) (held:=[B.2]) (vh:=.slice (some ⟨gB,0,none⟩) 1 1) (hS.ownSl 0 rfl) (by simp) (fun i hi=>by
   rw [xi8] at hi;subst hi;exact ⟨addr / 16,fun h=>hpp h.symm,by rw [hk3];exact hbo.ent⟩)
  rw [hk3] at hbr2
  repeat' (first|(with_reducible apply a9);rfl;(apply Ld.st a7;rfl;exact hS.blkR 0 rfl;rfl);rfl|refine yDn (by with_reducible constructor) ?_|(with_reducible apply r6);rfl;rfl;rfl;refine ⟨_,hbr2,?_⟩;rintro _ w4 ⟨rfl,k4,hk4,hl4,h4⟩;(replace hS:=((St.transM hS h4).perm xm7).drop;rw [<- a1V hl4.like] at hS;replace hS:=b25 hS))
  have hV3:=KerV.own hS.drop;replace hS:=hS.perm (xm4 (l₁:=_::_));obtain ⟨k4sh,k4fr,k4sl,k4sp,k4hand,k4vsh,k4vfr,k4vsl,k4vsp⟩:=k4;obtain ⟨k4m1,k4m2,k4m3,k4m4,-⟩:=hV3;dsimp only at k4m1 k4m2 k4m3 k4m4;obtain ⟨k4x1,k4y1,rfl⟩:=k4m1.sl.len;obtain ⟨k4x2,k4y2,rfl⟩:=k4m2.len;obtain ⟨k4x3,k4y3,rfl⟩:=k4m3.len;obtain ⟨k4x4,k4y4,rfl⟩:=k4m4.len;clear k4m1 k4m2 k4m3 k4m4
  try unfold kvC at hS
  try unfold kvC
  dsimp only [List.cons_append,List.nil_append] at hS |-
  repeat' (first|refine yDn (by with_reducible constructor) ?_|(with_reducible apply b8 hS a7 (i:=0));(iterate 8 rfl);exact (rfl:_=[_,_,_,_,_]);clear hS;intro w' hS;simp only [List.set] at hS)
  (apply a0U;repeat (first|exact ResL.nil|apply ResL.cell;rfl;(apply Ld.st a7;rfl;exact hS.blkR 0 rfl;rfl)))
  exact ⟨_,rfl,hk4,hS.drop.drop.drop⟩
end Go.Proofs.YtejnpppejalhfabGreat
