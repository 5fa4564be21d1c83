/- Texts that the proof stands on, one behind the other: Ke20, Ke21, Ke39, Ke22, Ke23, Ke40. -/
import Derived.Test.YtejnpppejalhfabGreatPRestKernels11
set_option linter.unusedVariables false
set_option linter.unusedSimpArgs false
namespace Go.Proofs.YtejnpppejalhfabGreat
set_option maxRecDepth 100000
set_option maxHeartbeats 8000000
open Go.RowKit Go.Sort
def a2P (i:Nat):List Value:=[.int .i64 (i:Nat)]
theorem a94 {l:List Nat} {w:World} {v:Value} (hL:Sl nF w 1 v (l.map a2P)) (x:Nat):Fn Tryz.prog 176 [v,.int .i64 (x:Nat)] w (RBf (.int .i64 (a1F (fun y:Nat=>decide (y=x)) l)) w):=by
 have bnd:=hL.bound;obtain ⟨pp,c,rfl⟩:=hL.len;refine yEn Tryz.func176 Tryz.ntmps176 (by kernel_rfl) (by kernel_rfl) rfl rfl ?_;have hS:=St.start w
 repeat' (first|(with_reducible apply a8 a7);rfl;rfl;rfl|refine yDn (by with_reducible constructor) ?_)
 refine k9 (X:=Nat) (fun x=>[(8,.int .i64 (x:Nat))]) [0,1,7] rfl (fun _=>[]) (fun i=>i<=l.length/\(l.take i).all (fun y=>!decide (y=x))=true) (fun x=>l.length - x) 0 (by exact Fr.sub_of rfl) (by simp) hS ?_;clear hS;rintro i w1 ⟨hi,hall⟩ hS;dsimp only [List.cons_append,List.nil_append] at hi hall hS |-;by_cases hlt:i < l.length
 ·obtain ⟨y,hy⟩:=j0 (l:=l) (i:=i) (by omega);have hrow:=c9 (f:=a2P) hy;obtain ⟨b,off,rfl,hro⟩:=hL.at_ (i:=i) hlt;unfold a2P at hrow;by_cases hxy:y=x
  ·have hd:decide ((x:Int)=(y:Int))=true:=xj2 (by omega);rw [a2Y hall hy (xj2 hxy)]
   repeat' (first|(with_reducible apply a8 a7);rfl;rfl;rfl|(with_reducible apply a9);rfl;(apply Ld.sc a7;rfl;exact hS.roC0 (by assumption) (by assumption) rfl);rfl|(with_reducible apply l7 a7);rfl;rfl;rfl;rfl;omega;rfl|refine yDn (by with_reducible constructor) ?_|(with_reducible apply f6);rfl;assumption|(with_reducible apply b9);rfl;all_goals (intro hb hp;try (exfalso;omega)))
   (refine k7 rfl ?_)
   exact ⟨rfl,hS.sub (xj1 _)⟩
  ·have hd:decide ((x:Int)=(y:Int))=false:=xj0 (by omega)
   repeat' (first|(with_reducible apply a8 a7);rfl;rfl;rfl|(with_reducible apply a9);rfl;(apply Ld.sc a7;rfl;exact hS.roC0 (by assumption) (by assumption) rfl);rfl|(with_reducible apply l7 a7);rfl;rfl;rfl;rfl;omega;rfl|(with_reducible apply j4);rfl;rfl;omega;omega;rfl|refine yDn (by with_reducible constructor) ?_|(with_reducible apply f8);rfl;assumption|(with_reducible apply b9);rfl;all_goals (intro hb hp;try (exfalso;omega)))
   exact e9 (i + 1) (by exact Fr.sub_of rfl) ⟨by show i + 1<=_;omega,a0B hall hy (by simp [hxy])⟩ hS (by show _ - (i + 1) < _ - i;omega)
 ·rw [a2k hall (by omega)]
  repeat' (first|(with_reducible apply a8 a7);rfl;rfl;rfl|refine yDn (by with_reducible constructor) ?_|(with_reducible apply b9);rfl;all_goals (intro hb hp;try (exfalso;omega)))
  (refine k7 rfl ?_)
  exact ⟨rfl,hS.sub (xj1 _)⟩
theorem a6M {l:List Nat} {w:World} {v:Value} (hL:Sl nF w 1 v (l.map a2P)) (x:Nat):Fn Tryz.prog 170 [v,.int .i64 (x:Nat)] w (RBf (.bool (decide (x ∈ l))) w):=by
 have hi:=fun w1 (h:Sl nF w1 1 v (l.map a2P))=>a94 h x;have hd:decide (0<=a1F (fun y:Nat=>decide (y=x)) l)=decide (x ∈ l):=by
  rw [a9e,xc9,xn2,xb3];constructor
  ·rintro ⟨y,hy,hyx⟩;obtain rfl:y=x:=by simpa using hyx
   exact hy
  ·exact fun h=>⟨x,h,by simp⟩
 rw [<- hd];obtain ⟨pp,c,rfl⟩:=hL.len;refine yEn Tryz.func170 Tryz.ntmps170 (by kernel_rfl) (by kernel_rfl) rfl rfl ?_;have hS:=St.start w
 repeat' (first|(with_reducible apply a8 a7);rfl;rfl;rfl|refine yDn (by with_reducible constructor) ?_|(with_reducible apply d7 hS);rfl;rfl;rfl;refine ⟨_,hi _ (hL.now hS),?_⟩;clear hS;intro w' hS)
 (refine k7 rfl ?_)
 exact ⟨rfl,hS.sub (xj1 _)⟩
structure a8l (k:KV) (held:List Nat):Prop where
 hand:0<=k.hand/\k.hand < k.fr.length
 nfr:3<=k.fr.length/\k.fr.length<=64
 held:held.length<=2
 free:a2O k.fr=none->∃ t,a2a k.sl=some t
 len:∀ x ∈ k.sp,x.s.entries.length<=1000
 kind:∀ x ∈ k.sp,∀ e ∈ x.s.entries,e.kind≠0
 sp:k.sp.length<=1000
theorem a5l {F:Nat->Prop} {w0 w:World} {Γ:List Asr} {g0:Nat} {k:KV} {sp:Nat} {vh:Value} {held:List Nat} (hS0:St F w0 w (wkS g0 k sp vh held++Γ)) (hA:a8l k held):Fn Tryz.prog 154 [.pointer (some ⟨g0,0,none⟩)] w (fun v w'=>v=.int .i64 ((a0d k.K held).2:Nat)/\∃ k',k'.K=(a0d k.K held).1/\KLike k k'/\St (fps (wkS g0 k sp vh held)) w w' (wkS g0 k' sp vh held)):=by
 have hS:=St.startM hS0;have hA0:=hA;obtain ⟨hhand,hnf,hheld,hfree,hlen,hkd,hspl⟩:=hA;generalize fps (wkS g0 k sp vh held)=G at hS |-;obtain ⟨sh,fr,sl,sps,hand,vsh,vfr,vsl,vsp⟩:=k;dsimp only at hhand hnf hfree hlen hkd hspl;unfold wkS wkB hdA frA slA a04 at hS;dsimp only [List.cons_append,List.nil_append] at hS;obtain ⟨pf,cf,rfl⟩:=hS.rowSlice 2 rfl;simp only [xi9] at hS;obtain ⟨gf,rfl⟩:=hS.rowSome 2 rfl (by omega);have hidx:=fun w1 (h:Sl nF w1 4 (.slice (some ⟨gf,0,none⟩) fr.length cf) (fr.map fmC))=>b3s (p:=fun s:Fm=>decide (s.refs=0)) (k:=169) (caps:=[]) h (fun x _ w' _=>b0L x w');unfold a0d
 cases hff:a2O (KV.K ⟨sh,fr,sl,sps,hand,vsh,.slice (some ⟨gf,0,none⟩) (fr.map fmC).length cf,vsl,vsp⟩).frames with
 |some i=>
  have hii:a1F (fun s:Fm=>decide (s.refs=0)) fr=((i:Nat):Int):=by
   unfold a1F;replace hff:fr.findIdx? (fun s:Fm=>decide (s.refs=0))=some i:=hff;rw [hff]
  rw [hii] at hidx;refine yEn Tryz.func154 Tryz.ntmps154 (by kernel_rfl) (by kernel_rfl) rfl rfl ?_
  repeat' (first|(with_reducible apply a8 a7);rfl;rfl;rfl|(with_reducible apply a9);rfl;(apply Ld.sl a7;rfl;exact hS.blkC 0 rfl rfl);rfl|refine yDn (by with_reducible constructor) ?_|(with_reducible apply f6);rfl;rfl|(with_reducible apply d7 hS);rfl;rfl;rfl;refine ⟨_,hidx _ (hS.rowSl 2 rfl),?_⟩;clear hS;intro w' hS)
  (refine k7 rfl ?_)
  exact ⟨rfl,_,rfl,KLike.refl _,by unfold wkS wkB hdA frA slA a04;dsimp only;rw [xi9];exact hS⟩
 |none=>
  have hii:a1F (fun s:Fm=>decide (s.refs=0)) fr=-1:=by
   unfold a1F;replace hff:fr.findIdx? (fun s:Fm=>decide (s.refs=0))=none:=hff;rw [hff]
  rw [hii] at hidx;dsimp only;refine yEn Tryz.func154 Tryz.ntmps154 (by kernel_rfl) (by kernel_rfl) rfl rfl ?_
  repeat' (first|(with_reducible apply a8 a7);rfl;rfl;rfl|(with_reducible apply a9);rfl;(apply Ld.sl a7;rfl;exact hS.blkC 0 rfl rfl);rfl|refine yDn (by with_reducible constructor) ?_|(with_reducible apply f8);rfl;rfl|(with_reducible apply d7 hS);rfl;rfl;rfl;refine ⟨_,hidx _ (hS.rowSl 2 rfl),?_⟩;clear hS;intro w' hS)
  obtain ⟨h0,rfl⟩:∃ h0:Nat,hand=(h0:Nat):=⟨hand.toNat,by omega⟩;have hclk:a0o (KV.K ⟨sh,fr,sl,sps,((h0:Nat):Int),vsh,.slice (some ⟨gf,0,none⟩) (fr.map fmC).length cf,vsl,vsp⟩) held=a0s 5000 fr h0 held:=rfl;rw [hclk];generalize hRR:a0s 5000 fr h0 held=R;refine k9 (F:=G) (w0:=w) (X:=Nat×List Fm×Nat) (fun _=>[]) [0] rfl (fun x=>[.blk g0 [vsh,.slice (some ⟨gf,0,none⟩) fr.length cf,vsl,vsp,.int .i64 (x.2.2:Nat),.int .i64 (sp:Nat),vh],.row 3 1 vh (held.map fun i=>[.int .i64 (i:Nat)]),.row 89 4 (.slice (some ⟨gf,0,none⟩) fr.length cf) (x.2.1.map fmC)]) (fun x=>a0s x.1 x.2.1 x.2.2 held=R/\a0M x.2.1 x.2.2 held < x.1/\x.2.2 < fr.length/\x.2.1.length=fr.length) (fun x=>x.1) (5000,fr,h0) (by exact Fr.sub_of rfl) ⟨hRR,a5s hnf.2 _ _,by show h0 < fr.length;omega,rfl⟩ hS ?_;clear hS hidx;rintro ⟨n,fr',h⟩ w1 ⟨hcl,hm,hh,hfl⟩ hS;dsimp only [List.cons_append,List.nil_append] at hcl hm hh hfl hS |-;obtain ⟨m,rfl⟩:∃ m,n=m + 1:=⟨n - 1,by omega⟩;have hcon:=fun w1 (h':Sl nF w1 1 vh (held.map a2P))=>a6M h' h;obtain ⟨fm,hfm⟩:=j0 (l:=fr') (i:=h) (by omega);have hrow:=c9 (f:=fmC) hfm;unfold fmC at hrow;unfold a0s at hcl;obtain ⟨pn,cn,hvn⟩:=hS.rowSlice 1 rfl;by_cases hhl:h ∈ held
  ·rw [xf0 hhl] at hcl;rw [xj2 hhl] at hcon;have hdd:=a4v (n:=fr'.length) (by omega) (by omega) hheld hhl;by_cases hn:h + 1=fr.length
   ·have hd:decide (((h:Nat):Int) + 1=((fr.length:Nat):Int))=true:=xj2 (by omega);have hnx:x5 fr'.length h=0:=by unfold x5;rw [hfl,xf0 hn]
    rw [hnx] at hcl hdd
    repeat' (first|(with_reducible apply a8 a7);rfl;rfl;rfl|(with_reducible apply a9);rfl;(apply Ld.sc a7;rfl;exact hS.blkC 0 rfl rfl);rfl|(with_reducible apply j4);rfl;rfl;omega;omega;rfl|refine yDn (by with_reducible constructor) ?_|(with_reducible apply b8 hS a7 (i:=0));(iterate 8 rfl);exact (rfl:_=[_,_,_,_,_,_,_]);clear hS;intro w' hS;simp only [List.set] at hS)
    (focus ((with_reducible apply d9 _ _ _ (by kernel_rfl) (by kernel_rfl) hS);(repeat' ((first|(with_reducible apply i7 a7);rfl;rfl|(with_reducible apply i9);rfl;(intro wd hd;replace hd:St _ _ wd _:=hd;(first|apply Ld.sc a7;rfl;exact hd.blkC 0 rfl rfl|apply Ld.sl a7;rfl;exact hd.blkC 0 rfl rfl));rfl)));all_goals ((with_reducible apply j7);intro w' hS';clear hS;have hS:=hS';clear hS')))
    repeat' (first|(with_reducible apply a8 a7);rfl;rfl;rfl|(with_reducible apply a9);rfl;(apply Ld.sl a7;rfl;exact hS.blkC 0 rfl rfl);rfl|refine yDn (by with_reducible constructor) ?_|((with_reducible apply f6);rfl;first|rfl|assumption)|(with_reducible apply b8 hS a7 (i:=0));(iterate 8 rfl);exact (rfl:_=[_,_,_,_,_,_,_]);clear hS;intro w' hS;simp only [List.set] at hS|(with_reducible apply d7 hS);rfl;rfl;rfl;refine ⟨_,hcon _ (hS.rowSl 1 rfl),?_⟩;clear hS;intro w' hS)
    exact e9 (m,fr',0) (by exact Fr.sub_of rfl) ⟨hcl,by show a0M fr' 0 held < m;unfold a0M at hm |-;omega,by show 0 < fr.length;omega,hfl⟩ hS (by show m < m + 1;omega)
   ·have hd:decide (((h:Nat):Int) + 1=((fr.length:Nat):Int))=false:=xj0 (by omega);have hnx:x5 fr'.length h=h + 1:=by unfold x5;rw [hfl,xf1 hn]
    rw [hnx] at hcl hdd
    repeat' (first|(with_reducible apply a8 a7);rfl;rfl;rfl|(with_reducible apply a9);rfl;(apply Ld.sc a7;rfl;exact hS.blkC 0 rfl rfl);rfl|(with_reducible apply j4);rfl;rfl;omega;omega;rfl|refine yDn (by with_reducible constructor) ?_|(with_reducible apply b8 hS a7 (i:=0));(iterate 8 rfl);exact (rfl:_=[_,_,_,_,_,_,_]);clear hS;intro w' hS;simp only [List.set] at hS)
    (focus ((with_reducible apply d9 _ _ _ (by kernel_rfl) (by kernel_rfl) hS);(repeat' ((first|(with_reducible apply i7 a7);rfl;rfl|(with_reducible apply i9);rfl;(intro wd hd;replace hd:St _ _ wd _:=hd;(first|apply Ld.sc a7;rfl;exact hd.blkC 0 rfl rfl|apply Ld.sl a7;rfl;exact hd.blkC 0 rfl rfl));rfl)));all_goals ((with_reducible apply j7);intro w' hS';clear hS;have hS:=hS';clear hS')))
    repeat' (first|(with_reducible apply a8 a7);rfl;rfl;rfl|(with_reducible apply a9);rfl;(apply Ld.sl a7;rfl;exact hS.blkC 0 rfl rfl);rfl|refine yDn (by with_reducible constructor) ?_|(with_reducible apply f6);rfl;rfl|(with_reducible apply f8);rfl;assumption|(with_reducible apply d7 hS);rfl;rfl;rfl;refine ⟨_,hcon _ (hS.rowSl 1 rfl),?_⟩;clear hS;intro w' hS)
    exact e9 (m,fr',h + 1) (by exact Fr.sub_of rfl) ⟨hcl,by show a0M fr' (h + 1) held < m;unfold a0M at hm |-;omega,by show h + 1 < fr.length;omega,hfl⟩ hS (by show m < m + 1;omega)
  ·rw [xf1 hhl,p9 hfm] at hcl;rw [xj0 hhl] at hcon;have hdd:=a2r fr'.length 0 held;have hdd1:=a2r fr'.length (h + 1) held;by_cases hsn:fm.seen=true
   ·rw [xf0 hsn] at hcl;have hse:=a3S (x:=⟨fm.data,fm.refs,fm.dirty,false⟩) hfm hsn rfl;rw [hsn] at hrow;have hst:(fr'.map fmC).set h (o6 [.string ⟨fm.data.toArray⟩,.int .i64 fm.refs,.bool fm.dirty,.bool true] 3 [.bool false])=(fr'.set h ⟨fm.data,fm.refs,fm.dirty,false⟩).map fmC:=by
     rw [xl1];rfl
    by_cases hn:h + 1=fr.length
    ·have hd:decide (((h:Nat):Int) + 1=((fr.length:Nat):Int))=true:=xj2 (by omega);have hnx:x5 fr'.length h=0:=by unfold x5;rw [hfl,xf0 hn]
     rw [hnx] at hcl
     repeat' (first|(with_reducible apply a8 a7);rfl;rfl;rfl|(with_reducible apply a9);rfl;(apply Ld.sc a7;rfl;exact hS.blkC 0 rfl rfl);rfl|(with_reducible apply j4);rfl;rfl;omega;omega;rfl|refine yDn (by with_reducible constructor) ?_|(with_reducible apply b8 hS a7 (i:=0));(iterate 8 rfl);exact (rfl:_=[_,_,_,_,_,_,_]);clear hS;intro w' hS;simp only [List.set] at hS)
     (focus ((with_reducible apply d9 _ _ _ (by kernel_rfl) (by kernel_rfl) hS);(repeat' ((first|(with_reducible apply i7 a7);rfl;rfl|(with_reducible apply i9);rfl;(intro wd hd;replace hd:St _ _ wd _:=hd;(first|apply Ld.sc a7;rfl;exact hd.blkC 0 rfl rfl|apply Ld.sl a7;rfl;exact hd.blkC 0 rfl rfl));rfl)));all_goals ((with_reducible apply j7);intro w' hS';clear hS;have hS:=hS';clear hS')))
     repeat' (first|(with_reducible apply a8 a7);rfl;rfl;rfl|(with_reducible apply a9);rfl;(first|apply Ld.sc a7;rfl;exact hS.rowCj 2 rfl (by assumption) rfl|apply Ld.sl a7;rfl;exact hS.blkC 0 rfl rfl);rfl|(with_reducible apply l7 a7);rfl;rfl;rfl;rfl;omega;rfl|refine yDn (by with_reducible constructor) ?_|((with_reducible apply f6);rfl;first|rfl|assumption)|(with_reducible apply f8);rfl;rfl|(with_reducible apply b8 hS a7 (i:=0));(iterate 8 rfl);exact (rfl:_=[_,_,_,_,_,_,_]);clear hS;intro w' hS;simp only [List.set] at hS|(with_reducible apply d7 hS);rfl;rfl;rfl;refine ⟨_,hcon _ (hS.rowSl 1 rfl),?_⟩;clear hS;intro w' hS|(with_reducible apply t5 hS a7 (i:=2));(iterate 4 rfl);assumption;(iterate 5 rfl);intro w' hS';simp only [List.set] at hS';clear hS;have hS:=hS';clear hS')
     rw [hst] at hS;exact e9 (m,fr'.set h ⟨fm.data,fm.refs,fm.dirty,false⟩,0) (by exact Fr.sub_of rfl) ⟨hcl,by show a0M (fr'.set h ⟨fm.data,fm.refs,fm.dirty,false⟩) (0) held < m;unfold a0M at hm |-;rw [xa8];omega,by show 0 < fr.length;omega,by show (fr'.set h _).length=_;rw [xa8];exact hfl⟩ hS (by show m < m + 1;omega)
    ·have hd:decide (((h:Nat):Int) + 1=((fr.length:Nat):Int))=false:=xj0 (by omega);have hnx:x5 fr'.length h=h + 1:=by unfold x5;rw [hfl,xf1 hn]
     rw [hnx] at hcl
     repeat' (first|(with_reducible apply a8 a7);rfl;rfl;rfl|(with_reducible apply a9);rfl;(apply Ld.sc a7;rfl;exact hS.blkC 0 rfl rfl);rfl|(with_reducible apply j4);rfl;rfl;omega;omega;rfl|refine yDn (by with_reducible constructor) ?_|(with_reducible apply b8 hS a7 (i:=0));(iterate 8 rfl);exact (rfl:_=[_,_,_,_,_,_,_]);clear hS;intro w' hS;simp only [List.set] at hS)
     (focus ((with_reducible apply d9 _ _ _ (by kernel_rfl) (by kernel_rfl) hS);(repeat' ((first|(with_reducible apply i7 a7);rfl;rfl|(with_reducible apply i9);rfl;(intro wd hd;replace hd:St _ _ wd _:=hd;(first|apply Ld.sc a7;rfl;exact hd.blkC 0 rfl rfl|apply Ld.sl a7;rfl;exact hd.blkC 0 rfl rfl));rfl)));all_goals ((with_reducible apply j7);intro w' hS';clear hS;have hS:=hS';clear hS')))
     repeat' (first|(with_reducible apply a8 a7);rfl;rfl;rfl|(with_reducible apply a9);rfl;(first|apply Ld.sc a7;rfl;exact hS.rowCj 2 rfl (by assumption) rfl|apply Ld.sl a7;rfl;exact hS.blkC 0 rfl rfl);rfl|(with_reducible apply l7 a7);rfl;rfl;rfl;rfl;omega;rfl|refine yDn (by with_reducible constructor) ?_|(with_reducible apply f6);rfl;rfl|((with_reducible apply f8);rfl;first|rfl|assumption)|(with_reducible apply d7 hS);rfl;rfl;rfl;refine ⟨_,hcon _ (hS.rowSl 1 rfl),?_⟩;clear hS;intro w' hS|(with_reducible apply t5 hS a7 (i:=2));(iterate 4 rfl);assumption;(iterate 5 rfl);intro w' hS';simp only [List.set] at hS';clear hS;have hS:=hS';clear hS')
     rw [hst] at hS;exact e9 (m,fr'.set h ⟨fm.data,fm.refs,fm.dirty,false⟩,h + 1) (by exact Fr.sub_of rfl) ⟨hcl,by show a0M (fr'.set h ⟨fm.data,fm.refs,fm.dirty,false⟩) (h + 1) held < m;unfold a0M at hm |-;rw [xa8];omega,by show h + 1 < fr.length;omega,by show (fr'.set h _).length=_;rw [xa8];exact hfl⟩ hS (by show m < m + 1;omega)
   ·rw [xf1 hsn] at hcl;have hsf:fm.seen=false:=by simpa using hsn
    rw [hsf] at hrow;by_cases hn:h + 1=fr.length
    ·have hd:decide (((h:Nat):Int) + 1=((fr.length:Nat):Int))=true:=xj2 (by omega);have hnx:x5 fr'.length h=0:=by unfold x5;rw [hfl,xf0 hn]
     rw [hnx] at hcl
     repeat' (first|(with_reducible apply a8 a7);rfl;rfl;rfl|(with_reducible apply a9);rfl;(apply Ld.sc a7;rfl;exact hS.blkC 0 rfl rfl);rfl|(with_reducible apply j4);rfl;rfl;omega;omega;rfl|refine yDn (by with_reducible constructor) ?_|(with_reducible apply b8 hS a7 (i:=0));(iterate 8 rfl);exact (rfl:_=[_,_,_,_,_,_,_]);clear hS;intro w' hS;simp only [List.set] at hS)
     (focus ((with_reducible apply d9 _ _ _ (by kernel_rfl) (by kernel_rfl) hS);(repeat' ((first|(with_reducible apply i7 a7);rfl;rfl|(with_reducible apply i9);rfl;(intro wd hd;replace hd:St _ _ wd _:=hd;(first|apply Ld.sc a7;rfl;exact hd.blkC 0 rfl rfl|apply Ld.sl a7;rfl;exact hd.blkC 0 rfl rfl));rfl)));all_goals ((with_reducible apply j7);intro w' hS';clear hS;have hS:=hS';clear hS')))
     have hall:=fun w2 (h':St G w w2 (wkS g0 ⟨sh,fr',sl,sps,((0:Nat):Int),vsh,.slice (some ⟨gf,0,none⟩) fr.length cf,vsl,vsp⟩ sp vh held))=>a7R (Γ:=[]) (by rw [List.append_nil];exact h') (f:=h) ⟨by show h < fr'.length;omega,fun _=>hfree hff,hlen,hkd,hspl⟩
     repeat' (first|(with_reducible apply a8 a7);rfl;rfl;rfl|(with_reducible apply a9);rfl;(first|apply Ld.sc a7;rfl;exact hS.rowCj 2 rfl (by assumption) rfl|apply Ld.sl a7;rfl;exact hS.blkC 0 rfl rfl);rfl|(with_reducible apply l7 a7);rfl;rfl;rfl;rfl;omega;rfl|refine yDn (by with_reducible constructor) ?_|(with_reducible apply f6);rfl;assumption|(with_reducible apply f8);rfl;rfl|(with_reducible apply b8 hS a7 (i:=0));(iterate 8 rfl);exact (rfl:_=[_,_,_,_,_,_,_]);clear hS;intro w' hS;simp only [List.set] at hS|(with_reducible apply d7 hS);rfl;rfl;rfl;refine ⟨_,hcon _ (hS.rowSl 1 rfl),?_⟩;clear hS;intro w' hS|(with_reducible apply r6);rfl;rfl;rfl;refine ⟨_,hall _ hS,?_⟩;rintro _ w2 ⟨rfl,k',hk1,hk2,h2⟩)
     (refine k7 rfl ?_)
     replace hS:=St.transM (Γ:=[]) (by rw [List.append_nil];exact hS) h2;rw [List.append_nil] at hS;rw [<- hcl];dsimp only;refine ⟨rfl,k',?_,?_,hS⟩
     ·rw [hk1];rfl
     ·exact ⟨hk2.sh,hk2.vsh,hk2.ar⟩
    ·have hd:decide (((h:Nat):Int) + 1=((fr.length:Nat):Int))=false:=xj0 (by omega);have hnx:x5 fr'.length h=h + 1:=by unfold x5;rw [hfl,xf1 hn]
     rw [hnx] at hcl
     repeat' (first|(with_reducible apply a8 a7);rfl;rfl;rfl|(with_reducible apply a9);rfl;(apply Ld.sc a7;rfl;exact hS.blkC 0 rfl rfl);rfl|(with_reducible apply j4);rfl;rfl;omega;omega;rfl|refine yDn (by with_reducible constructor) ?_|(with_reducible apply b8 hS a7 (i:=0));(iterate 8 rfl);exact (rfl:_=[_,_,_,_,_,_,_]);clear hS;intro w' hS;simp only [List.set] at hS)
     (focus ((with_reducible apply d9 _ _ _ (by kernel_rfl) (by kernel_rfl) hS);(repeat' ((first|(with_reducible apply i7 a7);rfl;rfl|(with_reducible apply i9);rfl;(intro wd hd;replace hd:St _ _ wd _:=hd;(first|apply Ld.sc a7;rfl;exact hd.blkC 0 rfl rfl|apply Ld.sl a7;rfl;exact hd.blkC 0 rfl rfl));rfl)));all_goals ((with_reducible apply j7);intro w' hS';clear hS;have hS:=hS';clear hS')))
     have hall:=fun w2 (h':St G w w2 (wkS g0 ⟨sh,fr',sl,sps,((h + 1:Nat):Int),vsh,.slice (some ⟨gf,0,none⟩) fr.length cf,vsl,vsp⟩ sp vh held))=>a7R (Γ:=[]) (by rw [List.append_nil];exact h') (f:=h) ⟨by show h < fr'.length;omega,fun _=>hfree hff,hlen,hkd,hspl⟩
     repeat' (first|(with_reducible apply a8 a7);rfl;rfl;rfl|(with_reducible apply a9);rfl;(first|apply Ld.sc a7;rfl;exact hS.rowCj 2 rfl (by assumption) rfl|apply Ld.sl a7;rfl;exact hS.blkC 0 rfl rfl);rfl|(with_reducible apply l7 a7);rfl;rfl;rfl;rfl;omega;rfl|refine yDn (by with_reducible constructor) ?_|((with_reducible apply f8);rfl;first|rfl|assumption)|(with_reducible apply d7 hS);rfl;rfl;rfl;refine ⟨_,hcon _ (hS.rowSl 1 rfl),?_⟩;clear hS;intro w' hS|(with_reducible apply r6);rfl;rfl;rfl;refine ⟨_,hall _ hS,?_⟩;rintro _ w2 ⟨rfl,k',hk1,hk2,h2⟩)
     (refine k7 rfl ?_)
     replace hS:=St.transM (Γ:=[]) (by rw [List.append_nil];exact hS) h2;rw [List.append_nil] at hS;rw [<- hcl];dsimp only;refine ⟨rfl,k',?_,?_,hS⟩
     ·rw [hk1];rfl
     ·exact ⟨hk2.sh,hk2.vsh,hk2.ar⟩
theorem a2W {k:KV} {sp:Nat} {x:Sp} (h:k.sp[sp]?=some x):k.K.spaces[sp]?=some x.s:=by
 show (k.sp.map (·.s))[sp]?=_;rw [xh6,h];rfl
theorem a5J {k:KV} {sp:Nat} {page:Int} (h:At k.K sp page):∃ x,k.sp[sp]?=some x/\x.s.live=true/\(q8 x.s.areas page).isSome=true/\j9 k.K sp=x.s.entries/\n8 k.K sp=x.s.areas:=by
 obtain ⟨s,hs,h1,h2⟩:=h.sc;have:(k.sp.map (·.s))[sp]?=some s:=hs;rw [xh6] at this;obtain ⟨x,hx,rfl⟩:=xi5.1 this;refine ⟨x,hx,h1,h2,?_,?_⟩
 ·unfold j9;rw [a1o hs]
 ·unfold n8;rw [a1o hs]
theorem a0u {K:Ker} (h:Right K):∀ s ∈ K.spaces,b0X K.sheets K.frames.length K.slots.length s/\s.entries.length<=255:=fun s hs=>⟨a1b.1 (h.spaces s hs),(a5h (h.spaces s hs)).1⟩
theorem a4R {A:List Ar} (hc:l5 A=0) {p:Int} (h:(q8 A p).isSome=true):1<=p/\p<=255:=by
 obtain ⟨a,ha⟩:=xi2.1 h;have h1:=(a1i hc ha).1;have h2:=(a1i hc ha).2;have h3:=xi3 ha;unfold a0g Ar.fin at h3;rw [xb3] at h3;unfold Ar.ok at h1;omega
theorem a8Q {sh:List Sh} {nf ns:Int} {s:Sc} (h:b0X sh nf ns s) {page:Int} (hp:-1000000<=page/\page<=1000000):b66 s.entries page:=fun q hq=>by
 obtain ⟨e,he,rfl⟩:=xm5.1 hq;have:=a4R h.ar (h.ents e he).1;omega
theorem b1o {K:Ker} (h:Right K):(∀ f ∈ K.frames,0<=f.refs/\f.refs<=100000)/\∀ f ∈ K.slots,0<=f.refs/\f.refs<=100000:=by
 have hb:=a5e (L:=K.spaces) (xc7.2 h.spaces);have hc:=h.cnt;have hl:∀ k (i:Nat),(j6 K.spaces k (i:Nat)).length<=2000:=fun k i=>by
  rw [<- a1f];have:=xn3 (fun (n:Nm)=>decide (n.1.kind=k/\n.1.at_=((i:Nat):Int))) (a0G K.spaces);omega
 constructor
 ·intro f hf;obtain ⟨i,hi⟩:=xd9.1 hf;rw [(h.fr i f hi).refs];have:=hl 1 i;omega
 ·intro f hf;obtain ⟨i,hi⟩:=xd9.1 hf;rw [(h.sl i f hi).refs];have:=hl 2 i;omega
theorem a7e {k:KV} (h:Right k.K) {sp:Nat} {x:Sp} (hx:k.sp[sp]?=some x) {e:En} (he:e ∈ x.s.entries):EntOk k e:=by
 refine ⟨?_,(b1o h).1,(b1o h).2⟩;rcases (h.ent (a2W hx) he).2 with ⟨a,b⟩|⟨a,b⟩
 ·exact xd6 ⟨a,b⟩
 ·exact xd3 ⟨by omega,b⟩
theorem a3h {k:KV} (h:Right k.K) {held:List Nat} (hl:held.length<=2):a8l k held:=by
 have hc:=h.cnt;have hsp:k.sp.length<=4:=by
  have:k.K.spaces.length=k.sp.length:=xi9 _;omega
 have hmem:∀ x ∈ k.sp,x.s ∈ k.K.spaces:=fun x hx=>xm5.2 ⟨x,hx,rfl⟩;refine ⟨h.hand,⟨hc.1,hc.2.1⟩,hl,fun hf=>?_,fun x hx=>?_,fun x hx e he=>?_,by omega⟩
 ·have h0:0 < k.K.frames.length:=by omega
  refine a7F h h0 ?_;rw [p9 (xe1 h0)];exact a4t hf _ (xe2 h0)
 ·have:=(a0u h x.s (hmem x hx)).2;omega
 ·have:=((a0u h x.s (hmem x hx)).1.ents e he).2;omega
theorem a57 (es:List En) (p:Int):(l9 es p=none/\a1F (fun e:En=>decide (e.page=p)) es=-1)\/∃ (i:Nat) (e:En),l9 es p=some e/\a1F (fun e:En=>decide (e.page=p)) es=((i:Nat):Int)/\es[i]?=some e:=by
 unfold a1F l9
 cases h:es.findIdx? fun e=>decide (e.page=p) with
 |none=>
  left;rw [xk9] at h;exact ⟨xn4.2 fun x hx=>by simpa using h x hx,rfl⟩
 |some i=>
  right;rw [xl0] at h;obtain ⟨h1,h2,h3⟩:=h;refine ⟨i,es[i],?_,rfl,xe1 h1⟩;rw [xn5];exact ⟨h2,i,h1,rfl,fun j hj=>by simpa using h3 j hj⟩
theorem Sl.cel {w:World} {sz b off n c:Nat} {rows:List (List Value)} (h:Sl nF w sz (.slice (some ⟨b,off,none⟩) n c) rows) {k j:Nat} {r:List Value} {u:Value} (hk:rows[k]?=some r) (hj:r[j]?=some u):w.cell? ⟨b,off + k * sz + j,none⟩=some u:=h.rng hk j u hj
theorem Sl.cel0 {w:World} {sz b off n c:Nat} {rows:List (List Value)} (h:Sl nF w sz (.slice (some ⟨b,off,none⟩) n c) rows) {k:Nat} {r:List Value} {u:Value} (hk:rows[k]?=some r) (hj:r[0]?=some u):w.cell? ⟨b,off + k * sz,none⟩=some u:=h.rng hk 0 u hj
theorem Sl.form1 {w:World} {sz:Nat} {α:Type} {f:α->List Value} {l:List α} {v:Value} {i:Nat} {x:α} (h:Sl nF w sz v (l.map f)) (hx:l[i]?=some x):∃ b off c,v=.slice (some ⟨b,off,none⟩) l.length c:=by
 obtain ⟨p,c,rfl⟩:=h.len;obtain ⟨b,off,rfl,-⟩:=h.at_ (d6 hx);exact ⟨b,off,c,rfl⟩
theorem a15 {α:Type} {l:List α} {i:Nat} {x:α} (h:l[i]?=some x):l.set i x=l:=by
 refine xh1 fun j=>?_;rw [xe0];by_cases e:i=j
 ·subst e;rw [xf0 rfl,xf0 (d6 h),h]
 ·rw [xf1 e]
theorem b1F {x:Sp} {page:Int} (hr:Rises (j8 x.s.entries)) {w:World} (hL:Sl nF w 3 x.ve (x.s.entries.map enC)):∃ pt is,b2J x page=.tuple #[pt,.bool is]/\((is=false/\pt=.pointer none/\l9 x.s.entries page=none)\/(is=true/\∃ (e:En) (b off c i:Nat),l9 x.s.entries page=some e/\x.ve=.slice (some ⟨b,off,none⟩) x.s.entries.length c/\x.s.entries[i]?=some e/\pt=.pointer (some ⟨b,off + i * 3,none⟩))):=by
 unfold b2J
 cases he:l9 x.s.entries page with
 |none=>
  rw [xf1 (a1x.1 he)];exact ⟨_,_,rfl,xd6 ⟨rfl,rfl,rfl⟩⟩
 |some e=>
  obtain ⟨hem,hep⟩:=a0a he;have hm:page ∈ j8 x.s.entries:=xm5.2 ⟨e,hem,hep⟩;rw [xf0 hm];have hat:=(a1l hr page).2 hm;unfold j8 at hat;rw [xh6] at hat;obtain ⟨y,hy,hyp⟩:=xi5.1 hat;have h1:=a3u hr (xd0 hy);rw [hyp,he] at h1
  cases h1
  obtain ⟨b,off,c,hve⟩:=hL.form1 hy;refine ⟨_,_,rfl,xd3 ⟨rfl,e,b,off,c,_,rfl,hve,hy,?_⟩⟩;rw [hve];rfl
theorem a65 {F:Nat->Prop} {w0 w:World} {Γ:List Asr} {g0:Nat} {k k1:KV} {sp:Nat} {vh:Value} {held hd:List Nat} (hS0:St F w0 w (wkS g0 k1 sp vh held++Γ)) (hR:KRo F w0 k1) {page:Int} {f:Nat} {data:List UInt8} {dirty:Bool} {r:Ker×Nat} (e1:k1.K=r.1) (hf:f=r.2) (hg:b5W k.K hd r) (ha:At k.K sp page) :
  Fn Tryz.prog 153 [.pointer (some ⟨g0,0,none⟩),.int .i64 page,.int .i64 (f:Nat),.string ⟨data.toArray⟩,.bool dirty] w (fun v w'=>v=.tuple #[]/\∃ k',k'.K=inK r.1 sp page f data dirty/\KLike k1 k'/\St (fps (wkS g0 k1 sp vh held)) w w' (wkS g0 k' sp vh held)):=by
 have ha1:At k1.K sp page:=by rw [e1];exact ha.same hg.same.ar hg.same.live
 have hr1:Right k1.K:=by rw [e1];exact hg.right
 obtain ⟨x,hx,hxl,hxa,hxe,hxr⟩:=a5J ha1;obtain ⟨hsc,hel⟩:=a0u hr1 x.s (xd0 (a2W hx));have hpg:=a4R hsc.ar hxa;have hlt:=hg.lt;rw [<- hg.same.nfr,<- e1,<- hf] at hlt;rw [<- e1];exact b6m hS0 (hR.nowM hS0) hx hlt hsc.rises (a8Q hsc (by omega)) (by omega) (fun e he=>a7e hr1 hx (a0a he).1)
theorem a8d {F:Nat->Prop} {w0 w:World} {Γ:List Asr} {g0:Nat} {k:KV} {sp:Nat} {vh:Value} {held:List Nat} (hS0:St F w0 w (wkS g0 k sp vh held++Γ)) (hR0:KRo (fps (wkS g0 k sp vh held)) w k) (hr:Right k.K) {page:Int} (ha:At k.K sp page) (write:Bool) (hl:held.length<=1) (hh:∀ i ∈ held,∃ p,p≠page/\l9 (j9 k.K sp) p=some ⟨p,1,(i:Nat)⟩):Fn Tryz.prog 123 [.pointer (some ⟨g0,0,none⟩),.int .i64 page,.bool write] w (fun v w'=>v=.tuple #[]/\∃ k' vh',k'.K=(a0z k.K sp page write held).1/\KLike k k'/\St (fps (wkS g0 k sp vh held)) w w' (wkS g0 k' sp vh' (held++[(a0z k.K sp page write held).2]))):=by
 have hS:=St.startM hS0;have hR:=hR0;generalize fps (wkS g0 k sp vh held)=G at hS hR |-;clear hR0 hS0;rw [<- List.append_nil (wkS g0 k sp vh held)] at hS;obtain ⟨x,hx,hxl,hxa,hxe,hxr⟩:=a5J ha;obtain ⟨hsc,hel⟩:=a0u hr x.s (xd0 (a2W hx));have hpg:=a4R hsc.ar hxa;have hbA:=a5r hr ha hl hh;unfold a0z a1p;obtain ⟨A,hA⟩:∃ A,A=a1Q k.K sp page held:=⟨_,rfl⟩;rw [<- hA] at hbA |-;have hV0:=WkV.of hS hR;have hxm:=xd0 hx;have hxv:=hV0.ker.spv x hxm;obtain ⟨bs,os,cs,hvsp⟩:=hV0.ker.sp.form1 hx;obtain ⟨f0,hf0⟩:∃ f0,k.fr[0]?=some f0:=j0 (by have:=hr.cnt.1;have h9:k.K.frames.length=k.fr.length:=rfl;omega);obtain ⟨bf,of_,cf,hvfr⟩:=hV0.ker.fr.form1 hf0;obtain ⟨psl,csl,hvsl⟩:=hV0.ker.sl.len;obtain ⟨sh,fr,sl,sps,hand,vsh,vfr,vsl,vsp⟩:=k;dsimp only at hvsp hvfr hvsl hx hxm hf0;subst hvsp hvfr hvsl;have hrowS:=c9 (f:=spC) hx;have hspc:=fun w1 Γ1 (h:St G w w1 (wkS g0 ⟨sh,fr,sl,sps,hand,vsh,.slice (some ⟨bf,of_,none⟩) fr.length cf,.slice psl sl.length csl,.slice (some ⟨bs,os,none⟩) sps.length cs⟩ sp vh held++Γ1))=>a3R (WkV.of h hR) (d6 hx);have hent:=fun w1 Γ1 (h:St G w w1 (wkS g0 ⟨sh,fr,sl,sps,hand,vsh,.slice (some ⟨bf,of_,none⟩) fr.length cf,.slice psl sl.length csl,.slice (some ⟨bs,os,none⟩) sps.length cs⟩ sp vh held++Γ1))=>a5p (WkV.of h hR) hx page hsc.rises (a8Q hsc (by omega));have hspV:=fun w1 Γ1 (h:St G w w1 (wkS g0 ⟨sh,fr,sl,sps,hand,vsh,.slice (some ⟨bf,of_,none⟩) fr.length cf,.slice psl sl.length csl,.slice (some ⟨bs,os,none⟩) sps.length cs⟩ sp vh held++Γ1))=>(WkV.of h hR).ker.sp;have hfnd:=fun w1 Γ1 (h:St G w w1 (wkS g0 ⟨sh,fr,sl,sps,hand,vsh,.slice (some ⟨bf,of_,none⟩) fr.length cf,.slice psl sl.length csl,.slice (some ⟨bs,os,none⟩) sps.length cs⟩ sp vh held++Γ1))=>a6f page ((WkV.of h hR).ker.spv x hxm).ar;unfold a2y at hspc;dsimp only at hspc hspV;obtain ⟨a,hfa⟩:=xi2.1 hxa;rw [a4x hsc.ar,hfa] at hfnd;unfold a3j at hfnd;dsimp only [Option.getD,Option.isSome] at hfnd;unfold arC at hfnd;unfold spC at hrowS;obtain ⟨pt,is,hEV,hcase⟩:=b1F (page:=page) hsc.rises hxv.en;rw [hEV] at hent;have hfo:=a3h hr (held:=held) (by omega);refine yEn Tryz.func123 Tryz.ntmps123 (by kernel_rfl) (by kernel_rfl) rfl rfl ?_
 repeat' (first|(with_reducible apply a8 a7);rfl;rfl;rfl|(with_reducible first|apply a2R|apply a2Q|apply a3C|apply a2g)|(with_reducible apply d8 hS a7);rfl;rfl;rfl;clear hS;intro g w' hS|(with_reducible apply b8 hS a7 (i:=0));(iterate 8 rfl);exact (rfl:_=[_,_,_,_]);clear hS;intro w' hS;simp only [List.set] at hS|(with_reducible apply d7 hS);rfl;rfl;rfl;refine ⟨_,hspc _ _ hS,?_⟩;clear hS;intro w' hS|(with_reducible apply a1a a7);rfl;rfl;rfl;refine ⟨_,(hspV _ _ hS).cel hrowS rfl,?_⟩|(with_reducible apply d7 hS);rfl;rfl;rfl;refine ⟨_,hfnd _ _ hS,?_⟩;clear hS;intro w' hS|(with_reducible apply d7 hS);rfl;rfl;rfl;refine ⟨_,hent _ _ hS.drop,?_⟩;clear hS;intro w' hS)
 rename Nat=>g6
 refine a07 (F:=G) (w0:=w) (X:=KV) (fun _=>[(0,.pointer (some ⟨g0,0,none⟩)),(1,.int .i64 page),(2,.bool write)]) (fun k'=>wkS g0 k' sp vh held) (fun k'=>k'.K=A.1/\KLike ⟨sh,fr,sl,sps,hand,vsh,.slice (some ⟨bf,of_,none⟩) fr.length cf,.slice psl sl.length csl,.slice (some ⟨bs,os,none⟩) sps.length cs⟩ k') ?_ ?_
 ·rcases hcase with ⟨rfl,rfl,he⟩|⟨rfl,e,b,off,c,i,he,hve,hei,rfl⟩
  ·obtain ⟨d,d1,d2,d3⟩:=a6u hr ha;have hz:zAt (KV.K ⟨sh,fr,sl,sps,hand,vsh,.slice (some ⟨bf,of_,none⟩) fr.length cf,.slice psl sl.length csl,.slice (some ⟨bs,os,none⟩) sps.length cs⟩) sp page=a.z:=by unfold zAt;rw [hxr,hfa];rfl
   rw [hz] at d1;have hfil:=fun w1 Γ1 (h:St G w w1 (wkS g0 ⟨sh,fr,sl,sps,hand,vsh,.slice (some ⟨bf,of_,none⟩) fr.length cf,.slice psl sl.length csl,.slice (some ⟨bs,os,none⟩) sps.length cs⟩ sp vh held++Γ1))=>a4i (F:=nF) (a:=a) (p:=page) (WkV.of h hR).c0 (WkV.of h hR).ker.sh hr.rise (by omega);have hdd:a0I (shs sh) a.z page=some d:=d1;rw [hdd] at hfil;unfold a95 at hfil;dsimp only [Option.getD,Option.isSome] at hfil;unfold arC at hfil;have hAe:A=(inK (a0d (KV.K ⟨sh,fr,sl,sps,hand,vsh,.slice (some ⟨bf,of_,none⟩) fr.length cf,.slice psl sl.length csl,.slice (some ⟨bs,os,none⟩) sps.length cs⟩) held).1 sp page (a0d (KV.K ⟨sh,fr,sl,sps,hand,vsh,.slice (some ⟨bf,of_,none⟩) fr.length cf,.slice psl sl.length csl,.slice (some ⟨bs,os,none⟩) sps.length cs⟩) held).2 d false,(a0d (KV.K ⟨sh,fr,sl,sps,hand,vsh,.slice (some ⟨bf,of_,none⟩) fr.length cf,.slice psl sl.length csl,.slice (some ⟨bs,os,none⟩) sps.length cs⟩) held).2):=by
    rw [hA];unfold a1Q;rw [hxe,he,d3]
   repeat' (first|(with_reducible apply a8 a7);rfl;rfl;rfl|refine yDn (by with_reducible constructor) ?_|(with_reducible apply f6);rfl;rfl)
   (focus ((with_reducible apply d9 _ _ _ (by kernel_rfl) (by kernel_rfl) hS);(repeat' (first|(first|(with_reducible apply i7 a7);rfl;rfl|(with_reducible apply i9);rfl;(intro wd hd;replace hd:St _ _ wd _:=hd;(apply Ld.st a7;rfl;exact hd.blkR 0 rfl;rfl));rfl)|(with_reducible apply y7);rfl;rfl;rfl;refine ⟨_,fun wd hd=>hfil _ _ hd.drop,?_⟩));all_goals ((with_reducible apply j7);intro w' hS';clear hS;have hS:=hS';clear hS')))
   replace hS:=hS.perm List.perm_middle.symm;have hg:=a3Y hr (held:=held) (by omega);have hin:=fun w1 k1 Γ1 (h:St G w w1 (wkS g0 k1 sp vh held++Γ1)) (e1:k1.K=(a0d (KV.K ⟨sh,fr,sl,sps,hand,vsh,.slice (some ⟨bf,of_,none⟩) fr.length cf,.slice psl sl.length csl,.slice (some ⟨bs,os,none⟩) sps.length cs⟩) held).1) (l1:KLike ⟨sh,fr,sl,sps,hand,vsh,.slice (some ⟨bf,of_,none⟩) fr.length cf,.slice psl sl.length csl,.slice (some ⟨bs,os,none⟩) sps.length cs⟩ k1)=>a65 h (hR.like l1) (page:=page) (f:=(a0d (KV.K ⟨sh,fr,sl,sps,hand,vsh,.slice (some ⟨bf,of_,none⟩) fr.length cf,.slice psl sl.length csl,.slice (some ⟨bs,os,none⟩) sps.length cs⟩) held).2) (data:=d) (dirty:=false) e1 rfl hg ha
   repeat' (first|(with_reducible apply a8 a7);rfl;rfl;rfl|refine yDn (by with_reducible constructor) ?_|(with_reducible apply r6);rfl;rfl;rfl;refine ⟨_,a5l hS hfo,?_⟩;rintro _ w2 ⟨rfl,k1,e1,l1,h2⟩;(replace hS:=St.transM hS h2);clear h2)
   repeat' (first|refine yDn (by with_reducible constructor) ?_|(with_reducible apply r6);rfl;rfl;rfl;refine ⟨_,hin _ _ _ hS e1 l1,?_⟩;rintro _ w3 ⟨rfl,k2,e2,l2,h2⟩;(replace hS:=St.transM hS h2);clear h2)
   exact n5 k2 (by exact Fr.sub_of rfl) ⟨by rw [hAe];exact e2,l1.trans l2⟩ (hS.sub (xm3 _ _))
  ·obtain ⟨hep,hnm,-⟩:=a4K hr (sp:=sp) (p:=page) (e:=e) (by rw [hxe];exact he);have hrowE:=c9 (f:=enC) hei;have hentV:=fun w1 Γ1 (h:St G w w1 (wkS g0 ⟨sh,fr,sl,sps,hand,vsh,.slice (some ⟨bf,of_,none⟩) fr.length cf,.slice psl sl.length csl,.slice (some ⟨bs,os,none⟩) sps.length cs⟩ sp vh held++Γ1))=>((WkV.of h hR).ker.spv x hxm).en;rw [hve] at hentV;unfold enC at hrowE;by_cases hk:e.kind=2
   ·have hd2:decide (e.kind=2)=true:=xj2 hk;rcases hnm with ⟨hk1,-⟩|⟨-,j,hj,hjl,hjr,hjd⟩
    ·omega
    have hjl':j < sl.length:=hjl;obtain ⟨s1,hs1⟩:=j0 (l:=sl) (i:=j) (by omega);have hrowL:=c9 (f:=swC) hs1;obtain ⟨bl,ol,cl,hfl⟩:=hV0.ker.sl.form1 hs1;injection hfl with hfl1 hfl2 hfl3
    subst hfl1;have hslV:=fun w1 Γ1 (h:St G w w1 (wkS g0 ⟨sh,fr,sl,sps,hand,vsh,.slice (some ⟨bf,of_,none⟩) fr.length cf,.slice (some ⟨bl,ol,none⟩) sl.length csl,.slice (some ⟨bs,os,none⟩) sps.length cs⟩ sp vh held++Γ1))=>(WkV.of h hR).ker.sl;obtain ⟨epg,ekd,eat⟩:=e;dsimp only at hj hk hep;subst hj;unfold swC at hrowL;have hsw:a0J (KV.K ⟨sh,fr,sl,sps,hand,vsh,.slice (some ⟨bf,of_,none⟩) fr.length cf,.slice (some ⟨bl,ol,none⟩) sl.length csl,.slice (some ⟨bs,os,none⟩) sps.length cs⟩).slots j=s1:=a1J hs1;have hAe:A=(inK (a0d (KV.K ⟨sh,fr,sl,sps,hand,vsh,.slice (some ⟨bf,of_,none⟩) fr.length cf,.slice (some ⟨bl,ol,none⟩) sl.length csl,.slice (some ⟨bs,os,none⟩) sps.length cs⟩) held).1 sp page (a0d (KV.K ⟨sh,fr,sl,sps,hand,vsh,.slice (some ⟨bf,of_,none⟩) fr.length cf,.slice (some ⟨bl,ol,none⟩) sl.length csl,.slice (some ⟨bs,os,none⟩) sps.length cs⟩) held).2 s1.data true,(a0d (KV.K ⟨sh,fr,sl,sps,hand,vsh,.slice (some ⟨bf,of_,none⟩) fr.length cf,.slice (some ⟨bl,ol,none⟩) sl.length csl,.slice (some ⟨bs,os,none⟩) sps.length cs⟩) held).2):=by
     rw [hA];unfold a1Q;rw [hxe,he];dsimp only;rw [xf0 hk,show ((j:Nat):Int).toNat=j from rfl,hsw]
    repeat' (first|(with_reducible apply a8 a7);rfl;rfl;rfl|refine yDn (by with_reducible constructor) ?_|(with_reducible apply f6);rfl;assumption|(with_reducible apply f8);rfl;rfl|(with_reducible apply a3J a7);rfl;rfl;rfl;refine ⟨_,(hentV _ _ hS.drop).cel hrowE rfl,?_⟩)
    (focus ((with_reducible apply d9 _ _ _ (by kernel_rfl) (by kernel_rfl) hS);(repeat' (first|(first|(with_reducible apply i7 a7);rfl;rfl|(with_reducible apply i9);rfl;(intro wd hd;replace hd:St _ _ wd _:=hd;(apply Ld.sl a7;rfl;exact hd.blkC 1 rfl rfl));rfl|(with_reducible apply y8 a7);rfl;rfl;rfl;rfl;omega;rfl)|(with_reducible apply i9);rfl;(intro wd hd;replace hd:St _ _ wd _:=hd;(apply Ld.sc a7;rfl;exact (hentV _ _ hd.drop).cel hrowE rfl));rfl|(with_reducible apply i9);rfl;(intro wd hd;replace hd:St _ _ wd _:=hd;(apply Ld.sc a7;rfl;exact (hslV _ _ hd.drop).cel0 hrowL rfl));rfl));all_goals ((with_reducible apply j7);intro w' hS';clear hS;have hS:=hS';clear hS')))
    replace hS:=hS.perm List.perm_middle.symm;have hg:=a3Y hr (held:=held) (by omega);have hin:=fun w1 k1 Γ1 (h:St G w w1 (wkS g0 k1 sp vh held++Γ1)) (e1:k1.K=(a0d (KV.K ⟨sh,fr,sl,sps,hand,vsh,.slice (some ⟨bf,of_,none⟩) fr.length cf,.slice (some ⟨bl,ol,none⟩) sl.length csl,.slice (some ⟨bs,os,none⟩) sps.length cs⟩) held).1) (l1:KLike ⟨sh,fr,sl,sps,hand,vsh,.slice (some ⟨bf,of_,none⟩) fr.length cf,.slice (some ⟨bl,ol,none⟩) sl.length csl,.slice (some ⟨bs,os,none⟩) sps.length cs⟩ k1)=>a65 h (hR.like l1) (page:=page) (f:=(a0d (KV.K ⟨sh,fr,sl,sps,hand,vsh,.slice (some ⟨bf,of_,none⟩) fr.length cf,.slice (some ⟨bl,ol,none⟩) sl.length csl,.slice (some ⟨bs,os,none⟩) sps.length cs⟩) held).2) (data:=s1.data) (dirty:=true) e1 rfl hg ha
    repeat' (first|(with_reducible apply a8 a7);rfl;rfl;rfl|refine yDn (by with_reducible constructor) ?_|(with_reducible apply r6);rfl;rfl;rfl;refine ⟨_,a5l hS hfo,?_⟩;rintro _ w2 ⟨rfl,k1,e1,l1,h2⟩;(replace hS:=St.transM hS h2);clear h2)
    repeat' (first|refine yDn (by with_reducible constructor) ?_|(with_reducible apply r6);rfl;rfl;rfl;refine ⟨_,hin _ _ _ hS e1 l1,?_⟩;rintro _ w3 ⟨rfl,k2,e2,l2,h2⟩;(replace hS:=St.transM hS h2);clear h2)
    exact n5 k2 (by exact Fr.sub_of rfl) ⟨by rw [hAe];exact e2,l1.trans l2⟩ (hS.sub (xm3 _ _))
   ·have hd2:decide (e.kind=2)=false:=xj0 hk;have hAe:A.1=KV.K ⟨sh,fr,sl,sps,hand,vsh,.slice (some ⟨bf,of_,none⟩) fr.length cf,.slice psl sl.length csl,.slice (some ⟨bs,os,none⟩) sps.length cs⟩:=by
     rw [hA];unfold a1Q;rw [hxe,he];dsimp only;rw [xf1 hk]
    repeat' (first|(with_reducible apply a8 a7);rfl;rfl;rfl|refine yDn (by with_reducible constructor) ?_|((with_reducible apply f8);rfl;first|rfl|assumption)|(with_reducible apply a3J a7);rfl;rfl;rfl;refine ⟨_,(hentV _ _ hS.drop).cel hrowE rfl,?_⟩)
    exact n5 ⟨sh,fr,sl,sps,hand,vsh,.slice (some ⟨bf,of_,none⟩) fr.length cf,.slice psl sl.length csl,.slice (some ⟨bs,os,none⟩) sps.length cs⟩ (by exact Fr.sub_of rfl) ⟨hAe.symm,KLike.refl _⟩ (hS.drop.sub (xm3 _ _))
 clear hS;rintro k' w1 ⟨hk1,hk2⟩ hS;clear hspc hent hspV hfnd hfo
 -- the page is present
 have hR1:=hR.like hk2;have hr1:Right k'.K:=by rw [hk1];exact hbA.right
 have ha1:At k'.K sp page:=by rw [hk1];exact ha.same hbA.same.ar hbA.same.live
 obtain ⟨x1,hx1,hxl1,hxa1,hxe1,hxr1⟩:=a5J ha1;obtain ⟨hsc1,hel1⟩:=a0u hr1 x1.s (xd0 (a2W hx1));have hxm1:=xd0 hx1;rw [<- List.append_nil (wkS g0 k' sp vh held)] at hS;have hV1:=WkV.of hS hR1;have hxv1:=hV1.ker.spv x1 hxm1;obtain ⟨pt1,is1,hEV1,hcase1⟩:=b1F (page:=page) hsc1.rises hxv1.en;have he1:l9 x1.s.entries page=some ⟨page,1,(A.2:Nat)⟩:=by
  have:=hbA.ent;rw [<- hk1,hxe1] at this;exact this
 rcases hcase1 with ⟨-,-,h0⟩|⟨rfl,e,b1,off1,c1,i1,h0,hve1,hei1,rfl⟩
 ·rw [he1] at h0;cases h0
 rw [he1] at h0
 cases h0
 have hent1:=fun w1 Γ1 (h:St G w w1 (wkS g0 k' sp vh held++Γ1))=>a5p (WkV.of h hR1) hx1 page hsc1.rises (a8Q hsc1 (by omega));rw [hEV1] at hent1;have hrowE1:=c9 (f:=enC) hei1;unfold enC at hrowE1;obtain ⟨f1,hf1⟩:∃ f1,f1=A.2:=⟨_,rfl⟩;rw [<- hf1] at hrowE1 hei1 he1 |-
 repeat' (first|(with_reducible apply a8 a7);rfl;rfl;rfl|refine yDn (by with_reducible constructor) ?_|(with_reducible apply d7 hS);rfl;rfl;rfl;refine ⟨_,hent1 _ _ hS,?_⟩;clear hS;intro w' hS)
 have hf1l:f1 < k'.fr.length:=by
  have h1:=(a3F hr1 (sp:=sp) (p:=page) (i:=f1) (by rw [hxe1];exact he1)).1;exact h1
 have hKe:∀ vh' held',wkS g0 k' sp vh' held'=wkS g0 k' sp vh' held':=fun _ _=>rfl;clear hent1 hV1 hxv1;rw [List.append_nil] at hS;obtain ⟨sh1,fr1,sl1,sps1,hand1,vsh1,vfr1,vsl1,vsp1⟩:=k';dsimp only at hx1 hxm1 hf1l;unfold wkS wkB hdA frA slA a04 at hS;dsimp only [List.cons_append,List.nil_append] at hS;obtain ⟨pf1,cf1,rfl⟩:=hS.rowSlice 2 rfl;simp only [xi9] at hS;obtain ⟨gf1,rfl⟩:=hS.rowSome 2 rfl (by omega);obtain ⟨fm1,hfm1⟩:=j0 (l:=fr1) (i:=f1) (by omega);have hrowF:=c9 (f:=fmC) hfm1;unfold fmC at hrowF;replace hS:=hS.pullE 5 hx1 rfl;simp only [xl2,xl3,v6] at hS;obtain ⟨s1,va1,ve1⟩:=x1;dsimp only at hve1 hei1 hrowE1 he1;subst hve1;unfold a0c at hS;dsimp only at hS;have hel1':=d6 hei1;have hoff:off1=0:=by
  rcases hS.rowForm 0 rfl with ⟨h1,-⟩|⟨q1,q2,h1,-⟩
  ·cases h1
  ·injection h1 with h1 _ _
   injection h1 with h1
   injection h1
 subst hoff;refine a1Y 2 13 14 rfl hS (by kernel_rfl) ?_;intro w10 hS';clear hS;have hS:=hS';clear hS';simp only [xl2,xl3];have hH:=hS.sub (xm3 [_,_] _)
 ((with_reducible apply k6 (nn 0) a7);rfl;kernel_rfl;exact (fun _ _ _ h=>h);exact xd3 hH;rfl;rfl)
 ((with_reducible apply k6 (nn 1) a7);rfl;kernel_rfl;exact (fun _ _ _ h=>h);exact xd3 hH;rfl;rfl)
 ((with_reducible apply k6 (nn 2) a7);rfl;kernel_rfl;exact (fun _ _ _ h=>h);exact xd3 hH;rfl;rfl)
 ((with_reducible apply k6 (nn 3) a7);rfl;kernel_rfl;exact (fun _ _ _ h=>h);exact xd3 hH;rfl;rfl)
 ((with_reducible apply o3 (nn 4));rfl;kernel_rfl;kernel_rfl;rfl;exact (fun _ _ _ h=>h);exact hH;rfl;(intro w2 hw2;(replace hw2:St _ _ w2 _:=hw2;(apply Ld.sl a7;rfl;exact hw2.blkC 1 rfl rfl)));rfl)
 ((with_reducible apply k6 (nn 5) a7);rfl;kernel_rfl;exact (fun _ _ _ h=>h);exact xd3 hH;rfl;rfl)
 ((with_reducible apply k6 (nn 6) a7);rfl;kernel_rfl;exact (fun _ _ _ h=>h);exact xd3 hH;rfl;rfl)
 ((with_reducible apply k6 (nn 7) a7);rfl;kernel_rfl;exact (fun _ _ _ h=>h);exact xd3 hH;rfl;rfl)
 ((with_reducible apply o3 (nn 8));rfl;kernel_rfl;kernel_rfl;rfl;exact (fun _ _ _ h=>h);exact hH;rfl;(intro w2 hw2;(replace hw2:St _ _ w2 _:=hw2;(apply Ld.sc a7;rfl;exact hw2.rowCj 0 rfl (by assumption) rfl)));rfl)
 refine q9 (i:=9) (by kernel_rfl) ?_;refine m9 rfl (o7 hS a7 rfl rfl rfl rfl rfl rfl) rfl ?_;rintro _ w' ⟨gu,rfl,hS'⟩;clear hS;have hS:=hS';clear hS';have hH:=hS.drop.sub (xm3 [_,_] _);refine ⟨xd3 (xd3 hH),?_⟩;refine q9 (i:=10) (by kernel_rfl) ?_;refine m9 rfl (a0x hS a7 (i:=3) rfl rfl rfl rfl (hS.rowRo 0 rfl) rfl (by simp only [xi9,xb1,xa2];omega)) rfl ?_;rintro _ w' ⟨ph,ch,rfl,hS'⟩;simp only [List.set,xi9] at hS' |-;clear hS;have hS:=hS';clear hS';have hH:=hS.drop.sub (xm3 [_,_] _);refine ⟨xd3 (xd3 hH),?_⟩
 ((with_reducible apply k6 (nn 11) a7);rfl;kernel_rfl;exact (fun _ _ _ h=>h);exact xd3 hH;rfl;rfl)
 ((with_reducible apply k6 (nn 12) a7);rfl;kernel_rfl;exact (fun _ _ _ h=>h);exact xd3 hH;rfl;rfl)
 refine q9 (i:=13) (by kernel_rfl) ?_;refine a1e (Φ:=fun _ w'=>St _ _ w' _) rfl (m7 hS a7 (i:=2) rfl rfl rfl rfl rfl (xg1 rfl) (by intro u hu;simp [Value.cells] at hu;subst hu;rfl)) ?_;intro _ w' hS';simp only [List.set,o6] at hS';clear hS;have hS:=hS';clear hS';refine ⟨xd6 rfl,?_⟩;refine a1h (by kernel_rfl) ?_;replace hS:=hS.drop;change St _ _ _ (_::Asr.blk _ [_,_,_,_,_,_,_]::_) at hS
 repeat' (first|(with_reducible first|apply a2R|apply a2g))
 (focus ((with_reducible apply d9 _ _ _ (by kernel_rfl) (by kernel_rfl) hS);(repeat' ((first|(with_reducible apply i7 a7);rfl;rfl|(with_reducible apply i9);rfl;(intro wd hd;replace hd:St _ _ wd _:=hd;(first|apply Ld.sc a7;rfl;exact hd.rowCj 0 rfl (by assumption) rfl|apply Ld.sl a7;rfl;exact hd.blkC 1 rfl rfl));rfl|(with_reducible apply y8 a7);rfl;rfl;rfl;rfl;omega;rfl)));all_goals ((with_reducible apply j7);intro w' hS';clear hS;have hS:=hS';clear hS')))
 (with_reducible apply a3C)
 (with_reducible apply a2g)
 obtain ⟨B,hB⟩:∃ B,B=a3E A.1 sp page write held f1:=⟨_,rfl⟩;rw [<- hB];have hfold:∀ w1,St G w w1 (.row 91 3 (.slice (some ⟨b1,0,none⟩) s1.entries.length c1) (s1.entries.map enC)::.blk g0 [vsh1,.slice (some ⟨gf1,0,none⟩) fr1.length cf1,vsl1,vsp1,.int .i64 hand1,.int .i64 (sp:Nat),.slice ph (held.length + 1) ch]::.row 3 1 (.slice ph (held.length + 1) ch) ((held.map fun i=>[.int .i64 (i:Nat)])++[[.int .i64 (f1:Nat)]])::.row 89 4 (.slice (some ⟨gf1,0,none⟩) fr1.length cf1) (fr1.map fmC)::.row 143 2 vsl1 (sl1.map swC)::.row 75 3 vsp1 (sps1.map spC)::(sps1.eraseIdx sp).map a0c)->St G w w1 (wkS g0 ⟨sh1,fr1,sl1,sps1,hand1,vsh1,.slice (some ⟨gf1,0,none⟩) fr1.length cf1,vsl1,vsp1⟩ sp (.slice ph (held.length + 1) ch) (held++[f1])):=fun w1 h=>by
  have h2:=St.pushE (y:=⟨s1,va1,.slice (some ⟨b1,0,none⟩) s1.entries.length c1⟩) h 5 hx1 rfl;rw [a15 hx1] at h2;unfold wkS wkB hdA frA slA a04;rw [xl5];exact h2
 refine a07 (F:=G) (w0:=w) (X:=KV×Value) (fun _=>[(0,.pointer (some ⟨g0,0,none⟩)),(2,.bool write)]) (fun x=>wkS g0 x.1 sp x.2 (held++[B.2])) (fun x=>x.1.K=B.1/\KLike ⟨sh1,fr1,sl1,sps1,hand1,vsh1,.slice (some ⟨gf1,0,none⟩) fr1.length cf1,vsl1,vsp1⟩ x.1) ?_ ?_
 ·have hfmA:m6 A.1.frames f1=fm1:=by rw [<- hk1];exact p9 hfm1
  by_cases hwr:write=true/\1 < fm1.refs
  ·have hdr:decide (1 < fm1.refs)=true:=xj2 hwr.2;have hwt:=hwr.1;subst hwt;have hBe:B=(inK (a0d A.1 (held++[f1])).1 sp page (a0d A.1 (held++[f1])).2 fm1.data true,(a0d A.1 (held++[f1])).2):=by
    rw [hB];unfold a3E;rw [hfmA,xf0 ⟨rfl,hwr.2⟩]
   have hl2:(held++[f1]).length<=2:=by rw [xe9,xi6];omega
   have hg:=a3Y hr1 (held:=held++[f1]) hl2;have hfo:=a3h hr1 (held:=held++[f1]) hl2;have hfrm:=fun w1 Γ1 (h:St G w w1 (wkS g0 ⟨sh1,fr1,sl1,sps1,hand1,vsh1,.slice (some ⟨gf1,0,none⟩) fr1.length cf1,vsl1,vsp1⟩ sp (.slice ph (held.length + 1) ch) (held++[f1])++Γ1))=>a5l h (by rw [xi9] at hfo;exact hfo);rw [xi9] at hR1 ha1 hg hk1;have hin:=fun w1 k2 Γ1 (h:St G w w1 (wkS g0 k2 sp (.slice ph (held.length + 1) ch) (held++[f1])++Γ1)) (e1:k2.K=(a0d (KV.K ⟨sh1,fr1,sl1,sps1,hand1,vsh1,.slice (some ⟨gf1,0,none⟩) fr1.length cf1,vsl1,vsp1⟩) (held++[f1])).1) (l1:KLike ⟨sh1,fr1,sl1,sps1,hand1,vsh1,.slice (some ⟨gf1,0,none⟩) fr1.length cf1,vsl1,vsp1⟩ k2)=>a65 h (hR1.like l1) (page:=page) (f:=(a0d (KV.K ⟨sh1,fr1,sl1,sps1,hand1,vsh1,.slice (some ⟨gf1,0,none⟩) fr1.length cf1,vsl1,vsp1⟩) (held++[f1])).2) (data:=fm1.data) (dirty:=true) e1 rfl hg ha1
   repeat' (first|(with_reducible apply a8 a7);rfl;rfl;rfl|(with_reducible apply a9);rfl;(apply Ld.sc a7;rfl;(first|exact hS.rowC0 3 rfl (by assumption) rfl|exact hS.rowCj 3 rfl (by assumption) rfl));rfl|refine yDn (by with_reducible constructor) ?_|(with_reducible apply k8);(iterate 4 rfl);rfl|(with_reducible apply j3);rfl;rfl;rfl;rfl|(with_reducible apply f6);rfl;assumption)
   replace hS:=hfold _ hS;rw [<- List.append_nil (wkS _ _ _ _ _)] at hS
   repeat' (first|(with_reducible apply a8 a7);rfl;rfl;rfl|refine yDn (by with_reducible constructor) ?_|(with_reducible apply r6);rfl;rfl;rfl;refine ⟨_,hfrm _ _ hS,?_⟩;rintro _ w2 ⟨rfl,k2,e2,l2,h2⟩;(replace hS:=St.transM hS h2);clear h2)
   repeat' (first|refine yDn (by with_reducible constructor) ?_|(with_reducible apply r6);rfl;rfl;rfl;refine ⟨_,hin _ _ _ hS e2 l2,?_⟩;rintro _ w3 ⟨rfl,k3,e3,l3,h2⟩;(replace hS:=St.transM hS h2);clear h2)
   rw [List.append_nil] at hS;unfold wkS wkB hdA at hS;obtain ⟨gh,rfl⟩:=hS.rowSome 1 rfl (by omega);have hlen1:((held.length:Nat):Int)=((held.length + 1:Nat):Int) - 1:=by omega
   have hrowH:((held++[f1]).map fun i=>[Value.int .i64 (i:Nat)])[held.length]?=some [.int .i64 (f1:Nat)]:=c9 (f:=fun i:Nat=>[Value.int .i64 (i:Nat)]) (by rw [xa5 (xd4 _),xf7];rfl);have hsetH:∀ n:Nat,((held++[f1]).map fun i=>[Value.int .i64 (i:Nat)]).set held.length (o6 [.int .i64 (f1:Nat)] 0 [.int .i64 (n:Nat)])=(held++[n]).map fun i=>[Value.int .i64 (i:Nat)]:=fun n=>by
    rw [xl5,xf5 _ _ (by rw [xi9];omega),xi9,xf7,xl5];rfl
   (focus ((with_reducible apply a0p _ _ _ 12 (by kernel_rfl) (by kernel_rfl) hS);(simp only [xl2,xl3,xl6,xl7]);(repeat' ((first|(with_reducible apply a1C);rfl;rfl;omega;omega;rfl|(with_reducible apply i7 a7);rfl;rfl|(with_reducible apply i9);rfl;(intro wd hd;replace hd:St _ _ wd _:=hd;(apply Ld.sl a7;rfl;exact hd.blkC 0 rfl rfl));rfl|(with_reducible apply y8 a7);rfl;rfl;rfl;assumption;omega;rfl)));all_goals ((with_reducible apply j7);intro w' hS';clear hS;have hS:=hS';clear hS')))
   repeat' (first|refine yDn (by with_reducible constructor) ?_|(with_reducible apply o5 hS a7 (i:=1));(iterate 4 rfl);assumption;(iterate 5 rfl);intro w' hS';simp only [List.set] at hS';clear hS;have hS:=hS';clear hS')
   rw [hsetH] at hS;rw [hBe,<- hk1];exact n5 (k3,.slice (some ⟨gh,0,none⟩) (held.length + 1) ch) (by exact Fr.sub_of rfl) ⟨e3,l2.trans l3⟩ hS
  ·have hBe:B=(A.1,f1):=by
    rw [hB];unfold a3E;rw [hfmA,xf1 hwr]
   rw [hBe]
   cases write with
   |true=>
    have hdr:decide (1 < fm1.refs)=false:=xj0 (fun h=>hwr ⟨rfl,h⟩)
    repeat' (first|(with_reducible apply a8 a7);rfl;rfl;rfl|(with_reducible apply a9);rfl;(apply Ld.sc a7;rfl;exact hS.rowCj 3 rfl (by assumption) rfl);rfl|refine yDn (by with_reducible constructor) ?_|(with_reducible apply k8);(iterate 4 rfl);rfl|(with_reducible apply j3);rfl;rfl;rfl;rfl|(with_reducible apply f8);rfl;assumption)
    exact n5 (⟨sh1,fr1,sl1,sps1,hand1,vsh1,.slice (some ⟨gf1,0,none⟩) fr1.length cf1,vsl1,vsp1⟩,.slice ph (held.length + 1) ch) (by exact Fr.sub_of rfl) ⟨by rw [<- hk1,xi9],KLike.refl _⟩ (hfold _ hS)
   |false=>
    repeat' (first|(with_reducible apply a8 a7);rfl;rfl;rfl|refine yDn (by with_reducible constructor) ?_|(with_reducible apply x8);(iterate 4 rfl);rfl;rfl|(with_reducible apply f5);rfl;rfl;rfl;rfl|(with_reducible apply f8);rfl;rfl)
    exact n5 (⟨sh1,fr1,sl1,sps1,hand1,vsh1,.slice (some ⟨gf1,0,none⟩) fr1.length cf1,vsl1,vsp1⟩,.slice ph (held.length + 1) ch) (by exact Fr.sub_of rfl) ⟨by rw [<- hk1,xi9],KLike.refl _⟩ (hfold _ hS)
 clear hS hfold;rintro ⟨k2,v2⟩ w2 ⟨hq1,hq2⟩ hS;dsimp only at hq1 hq2 hS;have hAB:=(a4k hr ha write hl hh).1;unfold a1p at hAB;rw [<- hA,<- hf1,<- hB] at hAB;obtain ⟨sh2,fr2,sl2,sps2,hand2,vsh2,vfr2,vsl2,vsp2⟩:=k2;have hn2:=(a3F hAB.right hAB.ent).1;rw [<- hq1] at hn2;replace hn2:B.2 < fr2.length:=hn2;unfold wkS wkB hdA frA slA a04 at hS;dsimp only [List.cons_append,List.nil_append] at hS;obtain ⟨pf2,cf2,rfl⟩:=hS.rowSlice 2 rfl;simp only [xi9] at hS;obtain ⟨gf2,rfl⟩:=hS.rowSome 2 rfl (by omega);obtain ⟨fm2,hfm2⟩:=j0 (l:=fr2) (i:=B.2) (by omega);have hrowF2:=c9 (f:=fmC) hfm2;unfold fmC at hrowF2;obtain ⟨pg,cg,rfl⟩:=hS.rowSlice 1 rfl;simp only [xi9,xe9,xb1,xa2,xa9] at hS;obtain ⟨gh2,rfl⟩:=hS.rowSome 1 rfl (by omega);have hlen2:((held.length:Nat):Int)=((held.length + 1:Nat):Int) - 1:=by omega
 have hrowH2:((held++[B.2]).map fun i=>[Value.int .i64 (i:Nat)])[held.length]?=some [.int .i64 (B.2:Nat)]:=c9 (f:=fun i:Nat=>[Value.int .i64 (i:Nat)]) (by rw [xa5 (xd4 _),xf7];rfl);have hs1:(fr2.map fmC).set B.2 (o6 [.string ⟨fm2.data.toArray⟩,.int .i64 fm2.refs,.bool fm2.dirty,.bool fm2.seen] 3 [.bool true])=(fr2.set B.2 ⟨fm2.data,fm2.refs,fm2.dirty,true⟩).map fmC:=by rw [xl1];rfl
 have hrowF3:((fr2.set B.2 ⟨fm2.data,fm2.refs,fm2.dirty,true⟩).map fmC)[B.2]?=some [.string ⟨fm2.data.toArray⟩,.int .i64 fm2.refs,.bool fm2.dirty,.bool true]:=c9 (f:=fmC) (a2f (x:=(⟨fm2.data,fm2.refs,fm2.dirty,true⟩:Fm)) hn2);have hfin:∀ dt,dt=(fm2.dirty||write)->(⟨sh2,fr2.set B.2 ⟨fm2.data,fm2.refs,dt,true⟩,sl2,sps2,hand2,vsh2,.slice (some ⟨gf2,0,none⟩) fr2.length cf2,vsl2,vsp2⟩:KV).K=a1O B.1 B.2 write:=fun dt hdt=>by
  rw [<- hq1,hdt];unfold a1O a0j KV.K;dsimp only;rw [p9 hfm2]
 have hs2:∀ dt,((fr2.set B.2 ⟨fm2.data,fm2.refs,fm2.dirty,true⟩).map fmC).set B.2 (o6 [.string ⟨fm2.data.toArray⟩,.int .i64 fm2.refs,.bool fm2.dirty,.bool true] 2 [.bool dt])=(fr2.set B.2 ⟨fm2.data,fm2.refs,dt,true⟩).map fmC:=fun dt=>by
  rw [xl1,xl1,xm6];rfl
 have hlike:∀ fr',KLike ⟨sh,fr,sl,sps,hand,vsh,.slice (some ⟨bf,of_,none⟩) fr.length cf,.slice psl sl.length csl,.slice (some ⟨bs,os,none⟩) sps.length cs⟩ ⟨sh2,fr',sl2,sps2,hand2,vsh2,.slice (some ⟨gf2,0,none⟩) fr2.length cf2,vsl2,vsp2⟩:=fun fr'=>⟨hq2.sh.trans hk2.sh,hq2.vsh.trans hk2.vsh,hq2.ar.trans hk2.ar⟩
 repeat' ((with_reducible apply a2R))
 (focus ((with_reducible apply d9 _ _ _ (by kernel_rfl) (by kernel_rfl) hS);(repeat' ((first|(with_reducible apply a1C);rfl;rfl;omega;omega;rfl|(with_reducible apply i7 a7);rfl;rfl|(with_reducible apply i9);rfl;(intro wd hd;replace hd:St _ _ wd _:=hd;(first|apply Ld.sc a7;rfl;exact hd.rowC0 1 rfl (by assumption) rfl|apply Ld.sl a7;rfl;exact hd.blkC 0 rfl rfl));rfl|(with_reducible apply y8 a7);rfl;rfl;rfl;(first|rfl|assumption);omega;rfl)));all_goals ((with_reducible apply j7);intro w' hS';clear hS;have hS:=hS';clear hS')))
 repeat' (first|(with_reducible apply a8 a7);rfl;rfl;rfl|refine yDn (by with_reducible constructor) ?_|(with_reducible apply t5 hS a7 (i:=2));(iterate 4 rfl);assumption;(iterate 5 rfl);intro w' hS';simp only [List.set] at hS';clear hS;have hS:=hS';clear hS')
 rw [hs1] at hS
 cases hdt:fm2.dirty with
 |true=>
  rw [hdt] at hrowF3 hS hs2 hfin
  repeat' (first|(with_reducible apply a8 a7);rfl;rfl;rfl|(with_reducible apply a9);rfl;(apply Ld.sc a7;rfl;exact hS.rowCj 2 rfl (by assumption) rfl);rfl|refine yDn (by with_reducible constructor) ?_|(with_reducible apply x8);(iterate 4 rfl);rfl;rfl|(with_reducible apply j3);rfl;rfl;rfl;rfl|(with_reducible apply t5 hS a7 (i:=2));(iterate 4 rfl);assumption;(iterate 5 rfl);intro w' hS';simp only [List.set] at hS';clear hS;have hS:=hS';clear hS')
  (refine a7m rfl ?_)
  rw [hs2] at hS;refine ⟨rfl,⟨sh2,fr2.set B.2 ⟨fm2.data,fm2.refs,true,true⟩,sl2,sps2,hand2,vsh2,.slice (some ⟨gf2,0,none⟩) fr2.length cf2,vsl2,vsp2⟩,_,hfin _ rfl,hlike _,hS⟩
 |false=>
  rw [hdt] at hrowF3 hS hs2 hfin
  repeat' (first|(with_reducible apply a8 a7);rfl;rfl;rfl|(with_reducible apply a9);rfl;(apply Ld.sc a7;rfl;exact hS.rowCj 2 rfl (by assumption) rfl);rfl|refine yDn (by with_reducible constructor) ?_|(with_reducible apply k8);(iterate 4 rfl);rfl|(with_reducible apply f5);rfl;rfl;rfl;rfl|(with_reducible apply t5 hS a7 (i:=2));(iterate 4 rfl);assumption;(iterate 5 rfl);intro w' hS';simp only [List.set] at hS';clear hS;have hS:=hS';clear hS')
  (refine a7m rfl ?_)
  rw [hs2] at hS;refine ⟨rfl,⟨sh2,fr2.set B.2 ⟨fm2.data,fm2.refs,write,true⟩,sl2,sps2,hand2,vsh2,.slice (some ⟨gf2,0,none⟩) fr2.length cf2,vsl2,vsp2⟩,_,hfin _ (by simp),hlike _,hS⟩
def a0H (k:KV):List Asr:=.row 94 3 k.vsh (a1E k.sh)::(k.sh.map fxA++k.sp.map a35)
theorem a1V {k k':KV} (h:KLike k k'):a0H k'=a0H k:=by
 unfold a0H;rw [h.sh,h.vsh];have:k'.sp.map a35=k.sp.map a35:=by
  have e:∀ l:List Sp,l.map a35=(l.map fun p=>(p.va,p.s.areas)).map fun x=>Asr.row 81 4 x.1 (x.2.map arC):=fun l=>by rw [xn6];rfl
  rw [e,e,h.ar]
 rw [this]
theorem KRo.own {F:Nat->Prop} {w0 w:World} {g:Nat} {k:KV} {sp:Nat} {vh:Value} {held:List Nat} {Γ:List Asr} (hS:St F w0 w (wkS g k sp vh held++(a0H k++Γ))):KRo (fps (wkS g k sp vh held)) w k:=by
 have hmem:∀ {e sz:Nat} {v:Value} {rows:List (List Value)},Asr.row e sz v rows ∈ a0H k->Sl (fps (wkS g k sp vh held)) w sz v rows:=fun h=>by
  obtain ⟨j,hj⟩:=xd9.1 (xe5 Γ h);exact hS.ownSl j hj
 refine ⟨⟨hmem xc5,fun p hp=>?_⟩,fun p hp=>?_⟩
 ·exact hmem (e:=96) (xc6 _ (xe5 _ (xm5.2 ⟨p,hp,rfl⟩)))
 ·exact hmem (e:=81) (xc6 _ (xe6 _ (xm5.2 ⟨p,hp,rfl⟩)))
theorem b3p (l:List Sp):(spA l).Perm (l.map a35++l.map a0c):=by
 induction l with
 |nil=>exact List.Perm.refl _
 |cons p l ih=>
  show (a35 p::a0c p::spA l).Perm (a35 p::(l.map a35++a0c p::l.map a0c));exact ((ih.cons _).trans List.perm_middle.symm).cons _
theorem a8W (k:KV):(kA k).Perm (frA k::slA k::a04 k::(k.sp.map a0c++a0H k)):=by
 unfold kA a0H;refine (List.Perm.swap _ _ _).trans (List.Perm.cons _ ?_);refine (List.Perm.swap _ _ _).trans (List.Perm.cons _ ?_);refine (List.Perm.swap _ _ _).trans (List.Perm.cons _ ?_);refine List.Perm.trans (List.Perm.cons _ ?_) List.perm_middle.symm;refine ((b3p k.sp).append_left _).trans ?_;rw [<- xg0];exact xm4
theorem b26 {k:KV} (h:Right k.K):KBd k:=by
 have hc:=h.cnt;have h1:k.K.frames.length=k.fr.length:=rfl;have h2:k.K.slots.length=k.sl.length:=rfl;have h3:k.K.spaces.length=k.sp.length:=xi9 _;have h4:k.K.sheets.length=k.sh.length:=xi9 _;refine ⟨by omega,by omega,by omega,by omega,fun x hx=>?_,fun p hp=>?_,fun p hp=>?_⟩
 ·have:=a4n ((a2l h.rise).1 x.1 (xm5.2 ⟨x,hx,rfl⟩)).1;omega
 ·have:=(a0u h p.s (xm5.2 ⟨p,hp,rfl⟩)).1.ar;have:=(x7.1 this).1;omega
 ·have:=(a0u h p.s (xm5.2 ⟨p,hp,rfl⟩)).2;omega
theorem b21 {w:World} {k:KV} (hK:KerV w k) (space:Int):Fn Tryz.prog 80 [.agg (kvC k).toArray,.int .i64 space] w (fun v w'=>(a1d k.K space≠0/\v=.tuple #[.pointer none,.int .i64 (a1d k.K space)]/\St nF w w' [])\/∃ (g sp:Nat) (k':KV),a1d k.K space=0/\space=(sp:Nat)/\v=.tuple #[.pointer (some ⟨g,0,none⟩),.int .i64 0]/\k'.K=k.K/\St nF w w' (wkS g k' sp (.slice none 0 0) []++a0H k')):=by
 have hchk:=fun w1 (h:KerV w1 k)=>a9z h;by_cases hc0:a0N k.K=0;rotate_left
 ·have hE:a1d k.K space=a0N k.K:=by unfold a1d;rw [xf1 hc0]
  rw [hE];have hd:decide (a0N k.K=0)=false:=xj0 hc0;generalize a0N k.K=c at hchk hc0 hE hd |-;obtain ⟨sh,fr,sl,sps,hand,vsh,vfr,vsl,vsp⟩:=k;have hK0:=hK;obtain ⟨k1,k2,k3,k4,k5⟩:=hK;dsimp only at k1 k2 k3 k4 k5;obtain ⟨p1,c1,rfl⟩:=k1.sl.len;obtain ⟨p2,c2,rfl⟩:=k2.len;obtain ⟨p3,c3,rfl⟩:=k3.len;obtain ⟨p4,c4,rfl⟩:=k4.len;unfold kvC at hchk |-;dsimp only at hchk |-;refine yEn Tryz.func80 Tryz.ntmps80 (by kernel_rfl) (by kernel_rfl) rfl rfl ?_;have hS:=St.start w
  repeat' (first|(with_reducible apply a8 a7);rfl;rfl;rfl|(with_reducible apply a9);rfl;(apply Ld.st a7;rfl;exact hS.blkR 0 rfl;rfl);rfl|refine yDn (by with_reducible constructor) ?_|(with_reducible apply l8 hS);rfl;rfl;rfl;clear hS;intro g w' hS|(with_reducible apply a08);rfl;all_goals (intro hb hp;try (exfalso;omega))|(with_reducible apply d7 hS);rfl;rfl;rfl;refine ⟨_,hchk _ (hK0.now hS),?_⟩;clear hS;intro w' hS)
  (refine a4H rfl ?_)
  exact xd6 ⟨hc0,rfl,hS.sub (xj1 _)⟩
 have hr:=a2Z.1 hc0;have hown:=fun w1 (h:KerV w1 k)=>b4t h (b26 hr);rw [hc0] at hchk;have h4:=hr.cnt.2.2.2.2.1;have hlE:a1d k.K space=if 0<=space/\space < (k.K.spaces.length:Int)/\(a0E k.K space.toNat).live=true then 0 else 6:=by unfold a1d;rw [xf0 hc0]
 have hK0:=hK;have hKl:k.K.spaces.length=k.sp.length:=xi9 _;have hsc:∀ (i:Nat) x,k.sp[i]?=some x->a0E k.K i=x.s:=fun i x hx=>a1o (a2W hx);rw [hKl] at hlE h4;obtain ⟨lE,hlEq⟩:∃ e,e=a1d k.K space:=⟨_,rfl⟩;rw [<- hlEq] at hlE |-;obtain ⟨sh,fr,sl,sps,hand,vsh,vfr,vsl,vsp⟩:=k;obtain ⟨k1,k2,k3,k4,k5⟩:=hK;dsimp only at k1 k2 k3 k4 k5 hlE h4 hsc;obtain ⟨p1,c1,rfl⟩:=k1.sl.len;obtain ⟨p2,c2,rfl⟩:=k2.len;obtain ⟨p3,c3,rfl⟩:=k3.len;obtain ⟨p4,c4,rfl⟩:=k4.len;unfold kvC at hchk hown |-;dsimp only at hchk hown |-;by_cases hin:0<=space/\space < (sps.length:Int);rotate_left
 ·rw [xf1 (fun h=>hin ⟨h.1,h.2.1⟩)] at hlE;subst hlE;refine yEn Tryz.func80 Tryz.ntmps80 (by kernel_rfl) (by kernel_rfl) rfl rfl ?_;have hS:=St.start w
  repeat' (first|(with_reducible apply a8 a7);rfl;rfl;rfl|(with_reducible apply a9);rfl;(first|apply Ld.sl a7;rfl;exact hS.blkC 0 rfl rfl|apply Ld.st a7;rfl;exact hS.blkR 0 rfl;rfl);rfl|refine yDn (by with_reducible constructor) ?_|(with_reducible apply k8);(iterate 4 rfl);assumption|(with_reducible apply x8);(iterate 4 rfl);(first|rfl|assumption);rfl|(with_reducible apply j3);rfl;(first|rfl|assumption);rfl;rfl|(with_reducible apply f5);rfl;assumption;rfl;rfl|(with_reducible apply f6);rfl;rfl|(with_reducible apply f8);rfl;rfl|(with_reducible apply l8 hS);rfl;rfl;rfl;clear hS;intro g w' hS|(with_reducible apply q7);rfl;rfl;rfl;all_goals (intro hb hp;try (exfalso;omega))|(with_reducible apply d7 hS);rfl;rfl;rfl;refine ⟨_,hchk _ (hK0.now hS),?_⟩;clear hS;intro w' hS)
  all_goals (apply a26)
  all_goals (repeat (first|exact ResL.nil|apply ResL.tmp;rfl))
  all_goals (exact xd6 ⟨by omega,rfl,hS.sub (xj1 _)⟩)
 obtain ⟨i,rfl⟩:∃ i:Nat,space=(i:Nat):=⟨space.toNat,by omega⟩;obtain ⟨x,hx⟩:=j0 (l:=sps) (i:=i) (by omega);have hxs:=hsc i x hx;have hrow:=c9 (f:=spC) hx;obtain ⟨b,off,rfl,hro⟩:=k4.at_ (i:=i) (by omega);unfold spC at hrow;rw [show (((i:Nat):Int)).toNat=i from rfl,hxs] at hlE
 cases hlv:x.s.live with
 |false=>
  rw [xf1 (fun h=>by rw [hlv] at h;cases h.2.2)] at hlE;subst hlE;rw [hlv] at hrow;refine yEn Tryz.func80 Tryz.ntmps80 (by kernel_rfl) (by kernel_rfl) rfl rfl ?_;have hS:=St.start w
  repeat' (first|(with_reducible apply a8 a7);rfl;rfl;rfl|(with_reducible apply a9);rfl;(first|apply Ld.sc a7;rfl;exact hS.roC0 (by assumption) (by assumption) rfl|apply Ld.sl a7;rfl;exact hS.blkC 0 rfl rfl|apply Ld.st a7;rfl;exact hS.blkR 0 rfl;rfl);rfl|(with_reducible apply l7 a7);rfl;rfl;rfl;rfl;omega;rfl|refine yDn (by with_reducible constructor) ?_|((with_reducible apply k8);(iterate 4 rfl);first|rfl|assumption)|(with_reducible apply f5);rfl;(first|rfl|assumption);rfl;rfl|(with_reducible apply f6);rfl;rfl|(with_reducible apply f8);rfl;rfl|(with_reducible apply l8 hS);rfl;rfl;rfl;clear hS;intro g w' hS|(with_reducible apply q7);rfl;rfl;rfl;all_goals (intro hb hp;try (exfalso;omega))|(with_reducible apply d7 hS);rfl;rfl;rfl;refine ⟨_,hchk _ (hK0.now hS),?_⟩;clear hS;intro w' hS)
  (refine a4H rfl ?_)
  exact xd6 ⟨by omega,rfl,hS.sub (xj1 _)⟩
 |true=>
  rw [xf0 ⟨hin.1,hin.2,hlv⟩] at hlE;subst hlE;rw [hlv] at hrow;refine yEn Tryz.func80 Tryz.ntmps80 (by kernel_rfl) (by kernel_rfl) rfl rfl ?_;have hS:=St.start w
  repeat' (first|(with_reducible apply a8 a7);rfl;rfl;rfl|(with_reducible apply a9);rfl;(first|apply Ld.sc a7;rfl;exact hS.roC0 (by assumption) (by assumption) rfl|apply Ld.sl a7;rfl;exact hS.blkC 0 rfl rfl|apply Ld.st a7;rfl;exact hS.blkR 0 rfl;rfl);rfl|(with_reducible apply l7 a7);rfl;rfl;rfl;rfl;omega;rfl|(with_reducible apply n7 a7);rfl;rfl;exact (rfl:_=some [_,_,_,_,_,_,_]);rfl|refine yDn (by with_reducible constructor) ?_|((with_reducible apply k8);(iterate 4 rfl);first|rfl|assumption)|(with_reducible apply f5);rfl;(first|rfl|assumption);rfl;rfl|(with_reducible apply f8);rfl;rfl|(with_reducible apply l8 hS);rfl;rfl;rfl;clear hS;intro g w' hS|(with_reducible apply q7);rfl;rfl;rfl;all_goals (intro hb hp;try (exfalso;omega))|(with_reducible apply d7 hS);rfl;rfl;rfl;refine ⟨_,hchk _ (hK0.now hS),?_⟩;clear hS;intro w' hS|(with_reducible apply r6);rfl;rfl;rfl;refine ⟨_,hown _ (hK0.now hS),?_⟩;rintro _ w' ⟨k',rfl,hk',hS'⟩;(replace hS:=hS.trans hS');clear hS')
  (refine a4H rfl ?_)
  refine xd3 ⟨_,i,k',rfl,rfl,rfl,hk',?_⟩;replace hS:St nF w w' (.blk _ (wkB k' i (.slice none 0 0))::(kA k'++[_])):=hS;have h1:St nF w w' (.blk _ (wkB k' i (.slice none 0 0))::kA k'):=hS.sub (List.Sublist.cons_cons _ (xm3 _ _));have h2:=(h1.perm ((a8W k').cons _)).addNil 3 1;exact h2.perm (List.Perm.swap _ _ _)
theorem a8S {w:World} {k:KV} (hK:KerV w k) (hB:KBd k):Fn Tryz.prog 32 [.agg (kvC k).toArray] w (fun v w'=>∃ k':KV,v=.agg (kvC k').toArray/\k'.K=k.K/\St nF w w' (kA k')):=by
 obtain ⟨sh,fr,sl,sp,hand,vsh,vfr,vsl,vsp⟩:=k;obtain ⟨k1,k2,k3,k4,k5⟩:=hK;obtain ⟨b1,b2,b3,b4,b5,b6,b7⟩:=hB;dsimp only at k1 k2 k3 k4 k5 b1 b2 b3 b4 b5 b6 b7 |-;obtain ⟨p1,c1,rfl⟩:=k1.sl.len;obtain ⟨p2,c2,rfl⟩:=k2.len;obtain ⟨p3,c3,rfl⟩:=k3.len;obtain ⟨p4,c4,rfl⟩:=k4.len;unfold kvC;dsimp only;refine yEn Tryz.func32 Tryz.ntmps32 (by kernel_rfl) (by kernel_rfl) rfl rfl ?_;have hS:=St.start w
 (repeat ((refine yDn (by with_reducible constructor) ?_)))
 (((with_reducible apply l8 hS);rfl;rfl;rfl);clear hS;intro g1 w' hS)
 (((with_reducible apply d8 hS a7);rfl;rfl;rfl);clear hS;intro g2 w' hS)
 (repeat (first|(with_reducible apply a8 a7);rfl;rfl;rfl|(with_reducible apply a9);rfl;(apply Ld.sc a7;rfl;exact hS.blkC 1 rfl rfl);rfl|(with_reducible apply n7 a7);rfl;rfl;exact (rfl:_=some [_,_,_,_,_]);rfl|refine yDn (by with_reducible constructor) ?_))
 (((with_reducible apply d8 hS a7);rfl;rfl;rfl);clear hS;intro g3 w' hS)
 repeat' (first|(with_reducible apply a8 a7);rfl;rfl;rfl|refine yDn (by with_reducible constructor) ?_|(with_reducible apply b8 hS a7 (i:=0));(iterate 8 rfl);exact (rfl:_=[_,_,_,_,_]);clear hS;intro w' hS;simp only [List.set] at hS)
 replace hS:=hS.addNil 94 3;have hsl1:=k1.sl;refine k9 (F:=nF) (w0:=w) (X:=Option Addr×Nat×List (Sh×Value)) (fun x=>[(4,.int .i64 (x.2.2.length:Nat))]) [1,2,3] rfl (fun x=>[.row 94 3 (.slice x.1 x.2.2.length x.2.1) (a1E x.2.2),.blk g3 [.slice x.1 x.2.2.length x.2.1,.slice none 0 0,.slice none 0 0,.slice none 0 0,.int .i64 hand],.blk g2 [.slice none 0 0,.slice none 0 0,.slice none 0 0,.slice none 0 0,.int .i64 0],.blk g1 [.slice p1 sh.length c1,.slice p2 fr.length c2,.slice p3 sl.length c3,.slice p4 sp.length c4,.int .i64 hand]]++x.2.2.map fxA) (Γ:=[]) (fun x=>x.2.2.length<=sh.length/\shs x.2.2=(shs sh).take x.2.2.length) (fun x=>sh.length - x.2.2.length) (none,0,[]) (by exact Fr.sub_of rfl) ⟨xg4 _,rfl⟩ hS ?_;clear hS;rintro ⟨qH,cH,N⟩ w1 ⟨hN,hNs⟩ hS;dsimp only [List.cons_append,List.nil_append,List.append_nil] at hN hNs hS |-;rw [List.append_nil] at hS;by_cases hlt:N.length < sh.length
 ·obtain ⟨x,hx⟩:=j0 (l:=sh) (i:=N.length) (by omega);have hrow:=c9 (f:=fun p:Sh×Value=>shC p.1 p.2) hx;obtain ⟨b,off,rfl,hro⟩:=hsl1.at_ (i:=N.length) hlt;have hfx:=k1.fx x (xd0 hx);have hfl:=b5 x (xd0 hx);obtain ⟨S,u⟩:=x;dsimp only [shC] at hrow hfx hfl;obtain ⟨pu,cu,rfl⟩:=hfx.len
  repeat' (first|(with_reducible apply a8 a7);rfl;rfl;rfl|(with_reducible apply a9);rfl;(first|apply Ld.sl a7;rfl;(first|exact hS.blkC 1 rfl rfl|exact hS.blkC 3 rfl rfl)|apply Ld.st a7;rfl;(first|exact hS.blkR 1 rfl|exact hS.roR (by assumption) (by assumption));rfl);rfl|(with_reducible apply l7 a7);rfl;rfl;rfl;rfl;omega;rfl|refine yDn (by with_reducible constructor) ?_|(with_reducible apply d8 hS a7);rfl;rfl;rfl;clear hS;intro g w' hS|(with_reducible apply a0R hS a7);(iterate 7 rfl);clear hS;intro g w' hS|(with_reducible apply b8 hS a7 (i:=0));(iterate 8 rfl);exact (rfl:_=[_,_,_]);clear hS;intro w' hS;simp only [List.set] at hS|(with_reducible apply b8 hS a7 (i:=1));(iterate 8 rfl);exact (rfl:_=[_,_,_]);clear hS;intro w' hS;simp only [List.set] at hS|(with_reducible apply b9);rfl;all_goals (intro hb hp;try (exfalso;omega))|(((with_reducible apply a06 hS a7 0);(iterate 4 rfl);exact hfx.now hS;(simp only [xi9,xb1,xa2,xe9];omega);rfl;clear hS;intro qX cX w' hS;simp only [List.set] at hS);simp only [xa2,xi9,xa9,List.nil_append] at hS |-))
  have hsr:(a1E N).length=N.length:=by unfold a1E;rw [xi9]
  repeat' (first|(with_reducible apply a8 a7);rfl;rfl;rfl|(with_reducible apply j4);rfl;rfl;omega;omega;rfl|refine yDn (by with_reducible constructor) ?_|(with_reducible apply b8 hS a7 (i:=4));(iterate 8 rfl);exact (rfl:_=[_,_,_,_,_]);clear hS;intro w' hS;simp only [List.set] at hS|(with_reducible apply a2s hS a7 3);(iterate 4 rfl);exact hS.rowRo 0 rfl;rfl;omega;rfl;intro p' cap' w' hS';simp only [List.set] at hS';clear hS;have hS:=hS';clear hS')
  rw [hsr] at hS |-
  repeat' (fail)
  replace hS:=St.reorderT 7 [3,4,5,6,1] hS (by decide) rfl;simp only [v6,xl6,xl7] at hS;have hyS:fxA (S,.slice qX S.fixes.length cX)=.row 96 2 (.slice qX S.fixes.length cX) (S.fixes.map fxC):=rfl;rw [<- hyS] at hS;refine e9 (p',cap',N++[(S,.slice qX S.fixes.length cX)]) ?_ ?_ ?_ ?_
  ·dsimp only;rw [xe9,xi6];exact Fr.sub_of rfl
  ·dsimp only;refine ⟨by rw [xe9,xi6];omega,?_⟩;rw [xe9,xi6,r8 (a24 hx),<- hNs];unfold shs;rw [xl5];rfl
  ·dsimp only;unfold a1E at hS |-;rw [xe9,xi6,xl5,xl5,List.append_nil];refine hS.perm ?_
   repeat (apply List.Perm.cons)
   exact (xm2 _ _).symm
  ·dsimp only;rw [xe9,xi6];omega
 have hNn:N.length=sh.length:=by omega
 replace hS:=((hS.addNil 89 4).addNil 143 2).addNil 75 3;have hsl4:=k4
 repeat' (first|(with_reducible apply a8 a7);rfl;rfl;rfl|(with_reducible apply a9);rfl;(apply Ld.sl a7;rfl;(first|exact hS.blkC 4 rfl rfl|exact hS.blkC 6 rfl rfl));rfl|refine yDn (by with_reducible constructor) ?_|(with_reducible apply b8 hS a7 (i:=4));(iterate 8 rfl);exact (rfl:_=[_,_,_,_,_]);clear hS;intro w' hS;simp only [List.set] at hS|(with_reducible apply b9);rfl;all_goals (intro hb hp;try (exfalso;omega))|(((with_reducible apply a06 hS a7 2);(iterate 4 rfl);exact k2.now hS;(simp only [xi9,xb1,xa2,xe9];omega);rfl;clear hS;intro qF cF w' hS;simp only [List.set] at hS);simp only [xa2,xi9,xa9,List.nil_append] at hS |-)|(((with_reducible apply a06 hS a7 1);(iterate 4 rfl);exact k3.now hS;(simp only [xi9,xb1,xa2,xe9];omega);rfl;clear hS;intro qS cS w' hS;simp only [List.set] at hS);simp only [xa2,xi9,xa9,List.nil_append] at hS |-))
 replace hS:=St.reorderT 7 [4,0,3,2,1,5,6] hS (by decide) rfl;simp only [v6,xl6,xl7] at hS;refine k9 (F:=nF) (w0:=w) (X:=Option Addr×Nat×List Sp) (fun x=>[(6,.int .i64 (x.2.2.length:Nat))]) [1,2,3] rfl (fun x=>[.blk g3 [.slice qH N.length cH,.slice qF fr.length cF,.slice qS sl.length cS,.slice x.1 x.2.2.length x.2.1,.int .i64 hand],.row 75 3 (.slice x.1 x.2.2.length x.2.1) (x.2.2.map spC),.row 94 3 (.slice qH N.length cH) (a1E N),.row 89 4 (.slice qF fr.length cF) (fr.map fmC),.row 143 2 (.slice qS sl.length cS) (sl.map swC),.blk g2 [.slice none 0 0,.slice none 0 0,.slice none 0 0,.slice none 0 0,.int .i64 0],.blk g1 [.slice p1 sh.length c1,.slice p2 fr.length c2,.slice p3 sl.length c3,.slice p4 sp.length c4,.int .i64 hand]]++(N.map fxA++spA x.2.2)) (Γ:=[]) (fun x=>x.2.2.length<=sp.length/\x.2.2.map (·.s)=(sp.map (·.s)).take x.2.2.length) (fun x=>sp.length - x.2.2.length) (none,0,[]) (by exact Fr.sub_of rfl) ⟨xg4 _,rfl⟩ (by show St nF w _ ((_++(N.map fxA++[]))++[]);rw [List.append_nil,List.append_nil];exact hS) ?_;clear hS;rintro ⟨qP,cP,M⟩ w1 ⟨hM,hMs⟩ hS;dsimp only [List.cons_append,List.nil_append] at hM hMs hS |-;rw [List.append_nil] at hS;by_cases hlt2:M.length < sp.length;rotate_left
 ·have hMn:M.length=sp.length:=by omega
  repeat' (first|(with_reducible apply a8 a7);rfl;rfl;rfl|(with_reducible apply a9);rfl;(first|apply Ld.sl a7;rfl;exact hS.blkC 6 rfl rfl|apply Ld.st a7;rfl;exact hS.blkR 0 rfl;rfl);rfl|refine yDn (by with_reducible constructor) ?_|(with_reducible apply b9);rfl;all_goals (intro hb hp;try (exfalso;omega))|(with_reducible apply b8 hS a7 (i:=5));(iterate 8 rfl);exact (rfl:_=[_,_,_,_,_]);clear hS;intro w' hS;simp only [List.set] at hS)
  (apply a0U;repeat (first|exact ResL.nil|apply ResL.cell;rfl;(apply Ld.st a7;rfl;exact hS.blkR 5 rfl;rfl)))
  rw [hNn] at hNs hS |-;rw [hMn] at hMs hS |-;rw [xa0 (by rw [a0Z];omega)] at hNs;rw [xa0 (by rw [xi9];omega)] at hMs;refine ⟨⟨N,fr,sl,M,hand,.slice qH sh.length cH,.slice qF fr.length cF,.slice qS sl.length cS,.slice qP sp.length cP⟩,rfl,?_,?_⟩
  ·unfold KV.K;dsimp only;rw [hNs,hMs]
  ·unfold kA;dsimp only;replace hS:=hS.reorderT 7 [2,3,4,1] (by decide) rfl;simp only [v6,xl6,xl7] at hS;exact hS
 obtain ⟨x,hx⟩:=j0 (l:=sp) (i:=M.length) (by omega);have hxs:(sp.map (·.s))[M.length]?=some x.s:=c9 (f:=fun p:Sp=>p.s) hx;have hrow:=c9 (f:=spC) hx;obtain ⟨b,off,rfl,hro⟩:=hsl4.at_ (i:=M.length) hlt2;have hxv:=k5 x (xd0 hx);have hxa:=b6 x (xd0 hx);have hxe:=b7 x (xd0 hx);have har:=hxv.ar;have hen:=hxv.en;obtain ⟨s,va,ve⟩:=x;dsimp only at har hen hxa hxe hxs;obtain ⟨pa,ca,rfl⟩:=har.len;obtain ⟨pe,ce,rfl⟩:=hen.len;unfold spC at hrow;dsimp only at hrow
 repeat' (first|(with_reducible apply a8 a7);rfl;rfl;rfl|(with_reducible apply a9);rfl;(first|apply Ld.sl a7;rfl;exact hS.blkC 6 rfl rfl|apply Ld.st a7;rfl;exact hS.roR (by assumption) (by assumption);rfl);rfl|(with_reducible apply l7 a7);rfl;rfl;rfl;rfl;omega;rfl|refine yDn (by with_reducible constructor) ?_|(with_reducible apply d8 hS a7);rfl;rfl;rfl;clear hS;intro g w' hS|(with_reducible apply b8 hS a7 (i:=0));(iterate 8 rfl);exact (rfl:_=[_,_,_]);clear hS;intro w' hS;simp only [List.set] at hS|(with_reducible apply b9);rfl;all_goals (intro hb hp;try (exfalso;omega)))
 refine a1Y 2 16 17 rfl hS (by kernel_rfl) ?_;intro w10 hS';clear hS;have hS:=hS';clear hS';simp only [xl2,xl3];have hH:=hS.sub (xm3 [_,_] _)
 ((with_reducible apply k6 (nn 0) a7);rfl;kernel_rfl;exact (fun _ _ _ h=>h);exact xd3 hH;rfl;rfl)
 ((with_reducible apply o3 (nn 1));rfl;kernel_rfl;kernel_rfl;rfl;exact (fun _ _ _ h=>h);exact hH;rfl;(intro w2 hw2;(replace hw2:St _ _ w2 _:=hw2;(apply Ld.sl a7;rfl;exact hw2.blkC 1 rfl rfl)));rfl)
 ((with_reducible apply k6 (nn 2) a7);rfl;kernel_rfl;exact (fun _ _ _ h=>h);exact xd3 hH;rfl;rfl)
 ((with_reducible apply o3 (nn 3));rfl;kernel_rfl;kernel_rfl;rfl;exact (fun _ _ _ h=>h);exact hH;rfl;(intro w2 hw2;(replace hw2:St _ _ w2 _:=hw2;(apply Ld.sc a7;rfl;exact hw2.blkC 0 rfl rfl)));rfl)
 ((with_reducible apply k6 (nn 5) a7);rfl;kernel_rfl;exact (fun _ _ _ h=>h);exact xd3 hH;rfl;rfl)
 ((with_reducible apply o3 (nn 6));rfl;kernel_rfl;kernel_rfl;rfl;exact (fun _ _ _ h=>h);exact hH;rfl;(intro w2 hw2;(replace hw2:St _ _ w2 _:=hw2;(apply Ld.sl a7;rfl;exact hw2.blkC 0 rfl rfl)));rfl)
 ((with_reducible apply k6 (nn 9) a7);rfl;kernel_rfl;exact (fun _ _ _ h=>h);exact xd3 hH;rfl;rfl)
 ((with_reducible apply o3 (nn 10));rfl;kernel_rfl;kernel_rfl;rfl;exact (fun _ _ _ h=>h);exact hH;rfl;(intro w2 hw2;(replace hw2:St _ _ w2 _:=hw2;(apply Ld.sl a7;rfl;exact hw2.blkC 0 rfl rfl)));rfl)
 refine a73 (i:=4) (j:=8) (by kernel_rfl) ?_ ?_
 ·refine m9 rfl (o7 hS a7 rfl rfl rfl rfl rfl rfl) rfl ?_;rintro _ w' ⟨gA,rfl,hS'⟩;clear hS;have hS:=hS';clear hS';refine ⟨xd3 (xd3 (hS.drop.sub (xm3 [_,_] _))),?_⟩;refine a73 (i:=7) (j:=8) (by kernel_rfl) ?_ ?_
  ·refine m9 rfl (a0A hS a7 (i:=0) rfl rfl rfl rfl (har.now hS) (by simp only [xi9,xa2];omega)) rfl ?_;rintro _ w' ⟨qA,cA,rfl,hS'⟩;simp only [List.set,xa2,xi9,xa9,List.nil_append] at hS' |-;clear hS;have hS:=hS';clear hS';refine ⟨xd3 (xd3 (hS.drop.sub (xm3 [_,_] _))),?_⟩;refine q9 (i:=8) (by kernel_rfl) ?_;refine m9 rfl (o7 hS a7 rfl rfl rfl rfl rfl rfl) rfl ?_;rintro _ w' ⟨gE,rfl,hS'⟩;clear hS;have hS:=hS';clear hS';refine ⟨xd3 (xd3 (hS.drop.drop.sub (xm3 [_,_] _))),?_⟩;refine q9 (i:=11) (by kernel_rfl) ?_;refine m9 rfl (a0A hS a7 (i:=0) rfl rfl rfl rfl (hen.now hS) (by simp only [xi9,xa2];omega)) rfl ?_;rintro _ w' ⟨qE,cE,rfl,hS'⟩;simp only [List.set,xa2,xi9,xa9,List.nil_append] at hS' |-;clear hS;have hS:=hS';clear hS';refine ⟨xd3 (xd3 (hS.drop.drop.sub (xm3 [_,_] _))),?_⟩;have hH:=hS.drop.drop.sub (xm3 [_,_] _)
   ((with_reducible apply a3Q (nn 12) a7);rfl;kernel_rfl;kernel_rfl;kernel_rfl;rfl;exact (fun _ _ _ _ h=>h);exact xd3 hH;rfl;rfl;exact (rfl:_=some [_,_,_]);rfl)
   refine q9 (i:=13) (by kernel_rfl) ?_;refine m9 rfl (o7 hS a7 rfl rfl rfl rfl rfl rfl) rfl ?_;rintro _ w' ⟨g9,rfl,hS'⟩;clear hS;have hS:=hS';clear hS';refine ⟨xd3 (xd3 (hS.drop.drop.drop.sub (xm3 [_,_] _))),?_⟩;refine q9 (i:=14) (by kernel_rfl) ?_;refine m9 rfl (a0x hS a7 (i:=5) rfl rfl rfl rfl (hS.rowRo 0 rfl) rfl (by simp only [xi9];omega)) rfl ?_;rintro _ w' ⟨p',c',rfl,hS'⟩;simp only [List.set,xi9] at hS' |-;clear hS;have hS:=hS';clear hS';have hH:=hS.drop.drop.drop.sub (xm3 [_,_] _);refine ⟨xd3 (xd3 hH),?_⟩
   ((with_reducible apply k6 (nn 15) a7);rfl;kernel_rfl;exact (fun _ _ _ h=>h);exact xd3 hH;rfl;rfl)
   refine q9 (i:=16) (by kernel_rfl) ?_;refine a1e (Φ:=fun _ w'=>St _ _ w' _) rfl (m7 hS a7 (i:=4) rfl rfl rfl rfl rfl (xg1 rfl) (by intro u hu;simp [Value.cells] at hu;subst hu;rfl)) ?_;intro _ w' hS';simp only [List.set] at hS';clear hS;have hS:=hS';clear hS';refine ⟨xd6 rfl,?_⟩;refine a1h (by kernel_rfl) ?_
   repeat' (first|(with_reducible apply a8 a7);rfl;rfl;rfl|(with_reducible apply j4);rfl;rfl;omega;omega;rfl|refine yDn (by with_reducible constructor) ?_)
   refine e9 (p',c',M++[⟨s,.slice qA s.areas.length cA,.slice qE s.entries.length cE⟩]) ?_ ?_ ?_ ?_
   ·dsimp only;rw [xe9,xi6];exact Fr.sub_of rfl
   ·dsimp only;refine ⟨by rw [xe9,xi6];omega,?_⟩;rw [xe9,xi6,r8 hxs,<- hMs,xl5];rfl
   ·replace hS:=hS.reorderT 11 [4,5,6,7,8,9,10,2,1] (by decide) rfl;simp only [v6,xl6,xl7] at hS;dsimp only;rw [xe9,xi6,xl5,List.append_nil,a4W];refine hS.perm ?_
    repeat (apply List.Perm.cons)
    rw [<- xg0];exact xm4 (l₁:=[_,_])
   ·dsimp only;rw [xe9,xi6];omega
  ·refine m9 rfl (o7 hS a7 rfl rfl rfl rfl rfl rfl) rfl ?_;rintro _ w' ⟨gE,rfl,hS'⟩;clear hS;have hS:=hS';clear hS';refine ⟨xd3 (xd3 (hS.drop.drop.sub (xm3 [_,_] _))),?_⟩;refine q9 (i:=7) (by kernel_rfl) ?_;refine m9 rfl (a0A hS a7 (i:=1) rfl rfl rfl rfl (har.now hS) (by simp only [xi9,xa2];omega)) rfl ?_;rintro _ w' ⟨qA,cA,rfl,hS'⟩;simp only [List.set,xa2,xi9,xa9,List.nil_append] at hS' |-;clear hS;have hS:=hS';clear hS';refine ⟨xd3 (xd3 (hS.drop.drop.sub (xm3 [_,_] _))),?_⟩;refine q9 (i:=11) (by kernel_rfl) ?_;refine m9 rfl (a0A hS a7 (i:=0) rfl rfl rfl rfl (hen.now hS) (by simp only [xi9,xa2];omega)) rfl ?_;rintro _ w' ⟨qE,cE,rfl,hS'⟩;simp only [List.set,xa2,xi9,xa9,List.nil_append] at hS' |-;clear hS;have hS:=hS';clear hS';refine ⟨xd3 (xd3 (hS.drop.drop.sub (xm3 [_,_] _))),?_⟩;have hH:=hS.drop.drop.sub (xm3 [_,_] _)
   ((with_reducible apply a3Q (nn 12) a7);rfl;kernel_rfl;kernel_rfl;kernel_rfl;rfl;exact (fun _ _ _ _ h=>h);exact xd3 hH;rfl;rfl;exact (rfl:_=some [_,_,_]);rfl)
   refine q9 (i:=13) (by kernel_rfl) ?_;refine m9 rfl (o7 hS a7 rfl rfl rfl rfl rfl rfl) rfl ?_;rintro _ w' ⟨g9,rfl,hS'⟩;clear hS;have hS:=hS';clear hS';refine ⟨xd3 (xd3 (hS.drop.drop.drop.sub (xm3 [_,_] _))),?_⟩;refine q9 (i:=14) (by kernel_rfl) ?_;refine m9 rfl (a0x hS a7 (i:=5) rfl rfl rfl rfl (hS.rowRo 0 rfl) rfl (by simp only [xi9];omega)) rfl ?_;rintro _ w' ⟨p',c',rfl,hS'⟩;simp only [List.set,xi9] at hS' |-;clear hS;have hS:=hS';clear hS';have hH:=hS.drop.drop.drop.sub (xm3 [_,_] _);refine ⟨xd3 (xd3 hH),?_⟩
   ((with_reducible apply k6 (nn 15) a7);rfl;kernel_rfl;exact (fun _ _ _ h=>h);exact xd3 hH;rfl;rfl)
   refine q9 (i:=16) (by kernel_rfl) ?_;refine a1e (Φ:=fun _ w'=>St _ _ w' _) rfl (m7 hS a7 (i:=4) rfl rfl rfl rfl rfl (xg1 rfl) (by intro u hu;simp [Value.cells] at hu;subst hu;rfl)) ?_;intro _ w' hS';simp only [List.set] at hS';clear hS;have hS:=hS';clear hS';refine ⟨xd6 rfl,?_⟩;refine a1h (by kernel_rfl) ?_
   repeat' (first|(with_reducible apply a8 a7);rfl;rfl;rfl|(with_reducible apply j4);rfl;rfl;omega;omega;rfl|refine yDn (by with_reducible constructor) ?_)
   refine e9 (p',c',M++[⟨s,.slice qA s.areas.length cA,.slice qE s.entries.length cE⟩]) ?_ ?_ ?_ ?_
   ·dsimp only;rw [xe9,xi6];exact Fr.sub_of rfl
   ·dsimp only;refine ⟨by rw [xe9,xi6];omega,?_⟩;rw [xe9,xi6,r8 hxs,<- hMs,xl5];rfl
   ·replace hS:=hS.reorderT 11 [4,5,6,7,8,9,10,2,1] (by decide) rfl;simp only [v6,xl6,xl7] at hS;dsimp only;rw [xe9,xi6,xl5,List.append_nil,a4W];refine hS.perm ?_
    repeat (apply List.Perm.cons)
    rw [<- xg0];exact xm4 (l₁:=[_,_])
   ·dsimp only;rw [xe9,xi6];omega
 ·refine m9 rfl (o7 hS a7 rfl rfl rfl rfl rfl rfl) rfl ?_;rintro _ w' ⟨gE,rfl,hS'⟩;clear hS;have hS:=hS';clear hS';refine ⟨xd3 (xd3 (hS.drop.sub (xm3 [_,_] _))),?_⟩;refine q9 (i:=4) (by kernel_rfl) ?_;refine m9 rfl (o7 hS a7 rfl rfl rfl rfl rfl rfl) rfl ?_;rintro _ w' ⟨gA,rfl,hS'⟩;clear hS;have hS:=hS';clear hS';refine ⟨xd3 (xd3 (hS.drop.drop.sub (xm3 [_,_] _))),?_⟩;refine q9 (i:=7) (by kernel_rfl) ?_;refine m9 rfl (a0A hS a7 (i:=0) rfl rfl rfl rfl (har.now hS) (by simp only [xi9,xa2];omega)) rfl ?_;rintro _ w' ⟨qA,cA,rfl,hS'⟩;simp only [List.set,xa2,xi9,xa9,List.nil_append] at hS' |-;clear hS;have hS:=hS';clear hS';refine ⟨xd3 (xd3 (hS.drop.drop.sub (xm3 [_,_] _))),?_⟩;refine q9 (i:=11) (by kernel_rfl) ?_;refine m9 rfl (a0A hS a7 (i:=1) rfl rfl rfl rfl (hen.now hS) (by simp only [xi9,xa2];omega)) rfl ?_;rintro _ w' ⟨qE,cE,rfl,hS'⟩;simp only [List.set,xa2,xi9,xa9,List.nil_append] at hS' |-;clear hS;have hS:=hS';clear hS';refine ⟨xd3 (xd3 (hS.drop.drop.sub (xm3 [_,_] _))),?_⟩;replace hS:=St.reorderT 2 [1,0] hS (by decide) rfl;simp only [v6,xl6,xl7] at hS;have hH:=hS.drop.drop.sub (xm3 [_,_] _)
  ((with_reducible apply a3Q (nn 12) a7);rfl;kernel_rfl;kernel_rfl;kernel_rfl;rfl;exact (fun _ _ _ _ h=>h);exact xd3 hH;rfl;rfl;exact (rfl:_=some [_,_,_]);rfl)
  refine q9 (i:=13) (by kernel_rfl) ?_;refine m9 rfl (o7 hS a7 rfl rfl rfl rfl rfl rfl) rfl ?_;rintro _ w' ⟨g9,rfl,hS'⟩;clear hS;have hS:=hS';clear hS';refine ⟨xd3 (xd3 (hS.drop.drop.drop.sub (xm3 [_,_] _))),?_⟩;refine q9 (i:=14) (by kernel_rfl) ?_;refine m9 rfl (a0x hS a7 (i:=5) rfl rfl rfl rfl (hS.rowRo 0 rfl) rfl (by simp only [xi9];omega)) rfl ?_;rintro _ w' ⟨p',c',rfl,hS'⟩;simp only [List.set,xi9] at hS' |-;clear hS;have hS:=hS';clear hS';have hH:=hS.drop.drop.drop.sub (xm3 [_,_] _);refine ⟨xd3 (xd3 hH),?_⟩
  ((with_reducible apply k6 (nn 15) a7);rfl;kernel_rfl;exact (fun _ _ _ h=>h);exact xd3 hH;rfl;rfl)
  refine q9 (i:=16) (by kernel_rfl) ?_;refine a1e (Φ:=fun _ w'=>St _ _ w' _) rfl (m7 hS a7 (i:=4) rfl rfl rfl rfl rfl (xg1 rfl) (by intro u hu;simp [Value.cells] at hu;subst hu;rfl)) ?_;intro _ w' hS';simp only [List.set] at hS';clear hS;have hS:=hS';clear hS';refine ⟨xd6 rfl,?_⟩;refine a1h (by kernel_rfl) ?_
  repeat' (first|(with_reducible apply a8 a7);rfl;rfl;rfl|(with_reducible apply j4);rfl;rfl;omega;omega;rfl|refine yDn (by with_reducible constructor) ?_)
  refine e9 (p',c',M++[⟨s,.slice qA s.areas.length cA,.slice qE s.entries.length cE⟩]) ?_ ?_ ?_ ?_
  ·dsimp only;rw [xe9,xi6];exact Fr.sub_of rfl
  ·dsimp only;refine ⟨by rw [xe9,xi6];omega,?_⟩;rw [xe9,xi6,r8 hxs,<- hMs,xl5];rfl
  ·replace hS:=hS.reorderT 11 [4,5,6,7,8,9,10,2,1] (by decide) rfl;simp only [v6,xl6,xl7] at hS;dsimp only;rw [xe9,xi6,xl5,List.append_nil,a4W];refine hS.perm ?_
   repeat (apply List.Perm.cons)
   rw [<- xg0];exact xm4 (l₁:=[_,_])
  ·dsimp only;rw [xe9,xi6];omega
end Go.Proofs.YtejnpppejalhfabGreat
