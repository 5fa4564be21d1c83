/- Texts that the proof stands on, one behind the other: Ke20, Ke21, Ke39, Ke22, Ke23. -/
import Derived.Test.YtejnpppejalhfabGreatPKernelReaches11
set_option linter.unusedVariables false
set_option linter.unusedSimpArgs false
namespace Go.Proofs.YtejnpppejalhfabGreat
set_option maxRecDepth 100000
set_option maxHeartbeats 8000000
open Go.RowKit Go.Sort
def a21 (i:Nat):List Value:=[.int .i64 (i:Nat)]
theorem a9x {l:List Nat} {w:World} {v:Value} (hL:Sl nF w 1 v (l.map a21)) (x:Nat):Fn Tryz.prog 176 [v,.int .i64 (x:Nat)] w (RBf (.int .i64 (a1u (fun y:Nat=>decide (y=x)) l)) w):=by
 have bnd:=hL.bound;obtain ⟨pp,c,rfl⟩:=hL.len;refine yEn Tryz.func176 Tryz.ntmps176 (by kernel_rfl) (by kernel_rfl) rfl rfl ?_;have hS:=St.start w
 repeat' (first|(with_reducible apply a8 a7);rfl;rfl;rfl|refine yDn (by with_reducible constructor) ?_)
 refine l7 (X:=Nat) (fun x=>[(8,.int .i64 (x:Nat))]) [0,1,7] rfl (fun _=>[]) (fun i=>i<=l.length/\(l.take i).all (fun y=>!decide (y=x))=true) (fun x=>l.length - x) 0 (by exact Fr.sub_of rfl) (by simp) hS ?_;clear hS;rintro i w1 ⟨hi,hall⟩ hS;dsimp only [List.cons_append,List.nil_append] at hi hall hS |-;by_cases hlt:i < l.length
 ·obtain ⟨y,hy⟩:=j3 (l:=l) (i:=i) (by omega);have hrow:=c9 (f:=a21) hy;obtain ⟨b,off,rfl,hro⟩:=hL.at_ (i:=i) hlt;unfold a21 at hrow;by_cases hxy:y=x
  ·have hd:decide ((x:Int)=(y:Int))=true:=xj4 (by omega);rw [a2Y hall hy (xj4 hxy)]
   repeat' (first|(with_reducible apply a8 a7);rfl;rfl;rfl|(with_reducible apply a9);rfl;(apply Ld.sc a7;rfl;exact hS.roC0 (by assumption) (by assumption) rfl);rfl|(with_reducible apply l9 a7);rfl;rfl;rfl;rfl;omega;rfl|refine yDn (by with_reducible constructor) ?_|(with_reducible apply d9);rfl;assumption|(with_reducible apply d5);rfl;all_goals (intro hb hp;try (exfalso;omega)))
   (refine k6 rfl ?_)
   exact ⟨rfl,hS.sub (xj3 _)⟩
  ·have hd:decide ((x:Int)=(y:Int))=false:=xj2 (by omega)
   repeat' (first|(with_reducible apply a8 a7);rfl;rfl;rfl|(with_reducible apply a9);rfl;(apply Ld.sc a7;rfl;exact hS.roC0 (by assumption) (by assumption) rfl);rfl|(with_reducible apply l9 a7);rfl;rfl;rfl;rfl;omega;rfl|(with_reducible apply j0);rfl;rfl;omega;omega;rfl|refine yDn (by with_reducible constructor) ?_|(with_reducible apply f6);rfl;assumption|(with_reducible apply d5);rfl;all_goals (intro hb hp;try (exfalso;omega)))
   exact f7 (i + 1) (by exact Fr.sub_of rfl) ⟨by show i + 1<=_;omega,a0A hall hy (by simp [hxy])⟩ hS (by show _ - (i + 1) < _ - i;omega)
 ·rw [a2h hall (by omega)]
  repeat' (first|(with_reducible apply a8 a7);rfl;rfl;rfl|refine yDn (by with_reducible constructor) ?_|(with_reducible apply d5);rfl;all_goals (intro hb hp;try (exfalso;omega)))
  (refine k6 rfl ?_)
  exact ⟨rfl,hS.sub (xj3 _)⟩
theorem a6n {l:List Nat} {w:World} {v:Value} (hL:Sl nF w 1 v (l.map a21)) (x:Nat):Fn Tryz.prog 170 [v,.int .i64 (x:Nat)] w (RBf (.bool (decide (x ∈ l))) w):=by
 have hi:=fun w1 (h:Sl nF w1 1 v (l.map a21))=>a9x h x;have hd:decide (0<=a1u (fun y:Nat=>decide (y=x)) l)=decide (x ∈ l):=by
  rw [a9e,xc9,xn4,xb3];constructor
  ·rintro ⟨y,hy,hyx⟩;obtain rfl:y=x:=by simpa using hyx
   exact hy
  ·exact fun h=>⟨x,h,by simp⟩
 rw [<- hd];obtain ⟨pp,c,rfl⟩:=hL.len;refine yEn Tryz.func170 Tryz.ntmps170 (by kernel_rfl) (by kernel_rfl) rfl rfl ?_;have hS:=St.start w
 repeat' (first|(with_reducible apply a8 a7);rfl;rfl;rfl|refine yDn (by with_reducible constructor) ?_|(with_reducible apply d6 hS);rfl;rfl;rfl;refine ⟨_,hi _ (hL.now hS),?_⟩;clear hS;intro w' hS)
 (refine k6 rfl ?_)
 exact ⟨rfl,hS.sub (xj3 _)⟩
structure a8I (k:KV) (held:List Nat):Prop where
 hand:0<=k.hand/\k.hand < k.fr.length
 nfr:3<=k.fr.length/\k.fr.length<=64
 held:held.length<=2
 free:a2S k.fr=none->∃ t,a17 k.sl=some t
 len:∀ x ∈ k.sp,x.s.entries.length<=1000
 kind:∀ x ∈ k.sp,∀ e ∈ x.s.entries,e.kind≠0
 sp:k.sp.length<=1000
theorem a5v {F:Nat->Prop} {w0 w:World} {Γ:List Asr} {g0:Nat} {k:KV} {sp:Nat} {vh:Value} {held:List Nat} (hS0:St F w0 w (wkS g0 k sp vh held++Γ)) (hA:a8I k held):Fn Tryz.prog 154 [.pointer (some ⟨g0,0,none⟩)] w (fun v w'=>v=.int .i64 ((z9 k.K held).2:Nat)/\∃ k',k'.K=(z9 k.K held).1/\KLike k k'/\St (fps (wkS g0 k sp vh held)) w w' (wkS g0 k' sp vh held)):=by
 have hS:=St.startM hS0;have hA0:=hA;obtain ⟨hhand,hnf,hheld,hfree,hlen,hkd,hspl⟩:=hA;generalize fps (wkS g0 k sp vh held)=G at hS |-;obtain ⟨sh,fr,sl,sps,hand,vsh,vfr,vsl,vsp⟩:=k;dsimp only at hhand hnf hfree hlen hkd hspl;unfold wkS wkB hdA frA slA a08 at hS;dsimp only [List.cons_append,List.nil_append] at hS;obtain ⟨pf,cf,rfl⟩:=hS.rowSlice 2 rfl;simp only [xj1] at hS;obtain ⟨gf,rfl⟩:=hS.rowSome 2 rfl (by omega);have hidx:=fun w1 (h:Sl nF w1 4 (.slice (some ⟨gf,0,none⟩) fr.length cf) (fr.map fmC))=>b3C (p:=fun s:Fm=>decide (s.refs=0)) (k:=169) (caps:=[]) h (fun x _ w' _=>b0N x w');unfold z9
 cases hff:a2S (KV.K ⟨sh,fr,sl,sps,hand,vsh,.slice (some ⟨gf,0,none⟩) (fr.map fmC).length cf,vsl,vsp⟩).frames with
 |some i=>
  have hii:a1u (fun s:Fm=>decide (s.refs=0)) fr=((i:Nat):Int):=by
   unfold a1u;replace hff:fr.findIdx? (fun s:Fm=>decide (s.refs=0))=some i:=hff;rw [hff]
  rw [hii] at hidx;refine yEn Tryz.func154 Tryz.ntmps154 (by kernel_rfl) (by kernel_rfl) rfl rfl ?_
  repeat' (first|(with_reducible apply a8 a7);rfl;rfl;rfl|(with_reducible apply a9);rfl;(apply Ld.sl a7;rfl;exact hS.blkC 0 rfl rfl);rfl|refine yDn (by with_reducible constructor) ?_|(with_reducible apply d9);rfl;rfl|(with_reducible apply d6 hS);rfl;rfl;rfl;refine ⟨_,hidx _ (hS.rowSl 2 rfl),?_⟩;clear hS;intro w' hS)
  (refine k6 rfl ?_)
  exact ⟨rfl,_,rfl,KLike.refl _,by unfold wkS wkB hdA frA slA a08;dsimp only;rw [xj1];exact hS⟩
 |none=>
  have hii:a1u (fun s:Fm=>decide (s.refs=0)) fr=-1:=by
   unfold a1u;replace hff:fr.findIdx? (fun s:Fm=>decide (s.refs=0))=none:=hff;rw [hff]
  rw [hii] at hidx;dsimp only;refine yEn Tryz.func154 Tryz.ntmps154 (by kernel_rfl) (by kernel_rfl) rfl rfl ?_
  repeat' (first|(with_reducible apply a8 a7);rfl;rfl;rfl|(with_reducible apply a9);rfl;(apply Ld.sl a7;rfl;exact hS.blkC 0 rfl rfl);rfl|refine yDn (by with_reducible constructor) ?_|(with_reducible apply f6);rfl;rfl|(with_reducible apply d6 hS);rfl;rfl;rfl;refine ⟨_,hidx _ (hS.rowSl 2 rfl),?_⟩;clear hS;intro w' hS)
  obtain ⟨h0,rfl⟩:∃ h0:Nat,hand=(h0:Nat):=⟨hand.toNat,by omega⟩;have hclk:a0k (KV.K ⟨sh,fr,sl,sps,((h0:Nat):Int),vsh,.slice (some ⟨gf,0,none⟩) (fr.map fmC).length cf,vsl,vsp⟩) held=a0n 5000 fr h0 held:=rfl;rw [hclk];generalize hRR:a0n 5000 fr h0 held=R;refine l7 (F:=G) (w0:=w) (X:=Nat×List Fm×Nat) (fun _=>[]) [0] rfl (fun x=>[.blk g0 [vsh,.slice (some ⟨gf,0,none⟩) fr.length cf,vsl,vsp,.int .i64 (x.2.2:Nat),.int .i64 (sp:Nat),vh],.row 3 1 vh (held.map fun i=>[.int .i64 (i:Nat)]),.row 89 4 (.slice (some ⟨gf,0,none⟩) fr.length cf) (x.2.1.map fmC)]) (fun x=>a0n x.1 x.2.1 x.2.2 held=R/\a0L x.2.1 x.2.2 held < x.1/\x.2.2 < fr.length/\x.2.1.length=fr.length) (fun x=>x.1) (5000,fr,h0) (by exact Fr.sub_of rfl) ⟨hRR,a5b hnf.2 _ _,by show h0 < fr.length;omega,rfl⟩ hS ?_;clear hS hidx;rintro ⟨n,fr',h⟩ w1 ⟨hcl,hm,hh,hfl⟩ hS;dsimp only [List.cons_append,List.nil_append] at hcl hm hh hfl hS |-;obtain ⟨m,rfl⟩:∃ m,n=m + 1:=⟨n - 1,by omega⟩;have hcon:=fun w1 (h':Sl nF w1 1 vh (held.map a21))=>a6n h' h;obtain ⟨fm,hfm⟩:=j3 (l:=fr') (i:=h) (by omega);have hrow:=c9 (f:=fmC) hfm;unfold fmC at hrow;unfold a0n at hcl;obtain ⟨pn,cn,hvn⟩:=hS.rowSlice 1 rfl;by_cases hhl:h ∈ held
  ·rw [xf0 hhl] at hcl;rw [xj4 hhl] at hcon;have hdd:=a4o (n:=fr'.length) (by omega) (by omega) hheld hhl;by_cases hn:h + 1=fr.length
   ·have hd:decide (((h:Nat):Int) + 1=((fr.length:Nat):Int))=true:=xj4 (by omega);have hnx:v9 fr'.length h=0:=by unfold v9;rw [hfl,xf0 hn]
    rw [hnx] at hcl hdd
    repeat' (first|(with_reducible apply a8 a7);rfl;rfl;rfl|(with_reducible apply a9);rfl;(apply Ld.sc a7;rfl;exact hS.blkC 0 rfl rfl);rfl|(with_reducible apply j0);rfl;rfl;omega;omega;rfl|refine yDn (by with_reducible constructor) ?_|(with_reducible apply b8 hS a7 (i:=0));(iterate 8 rfl);exact (rfl:_=[_,_,_,_,_,_,_]);clear hS;intro w' hS;simp only [List.set] at hS)
    (focus ((with_reducible apply d8 _ _ _ (by kernel_rfl) (by kernel_rfl) hS);(repeat' ((first|(with_reducible apply i9 a7);rfl;rfl|(with_reducible apply i7);rfl;(intro wd hd;replace hd:St _ _ wd _:=hd;(first|apply Ld.sc a7;rfl;exact hd.blkC 0 rfl rfl|apply Ld.sl a7;rfl;exact hd.blkC 0 rfl rfl));rfl)));all_goals ((with_reducible apply j7);intro w' hS';clear hS;have hS:=hS';clear hS')))
    repeat' (first|(with_reducible apply a8 a7);rfl;rfl;rfl|(with_reducible apply a9);rfl;(apply Ld.sl a7;rfl;exact hS.blkC 0 rfl rfl);rfl|refine yDn (by with_reducible constructor) ?_|((with_reducible apply d9);rfl;first|rfl|assumption)|(with_reducible apply b8 hS a7 (i:=0));(iterate 8 rfl);exact (rfl:_=[_,_,_,_,_,_,_]);clear hS;intro w' hS;simp only [List.set] at hS|(with_reducible apply d6 hS);rfl;rfl;rfl;refine ⟨_,hcon _ (hS.rowSl 1 rfl),?_⟩;clear hS;intro w' hS)
    exact f7 (m,fr',0) (by exact Fr.sub_of rfl) ⟨hcl,by show a0L fr' 0 held < m;unfold a0L at hm |-;omega,by show 0 < fr.length;omega,hfl⟩ hS (by show m < m + 1;omega)
   ·have hd:decide (((h:Nat):Int) + 1=((fr.length:Nat):Int))=false:=xj2 (by omega);have hnx:v9 fr'.length h=h + 1:=by unfold v9;rw [hfl,xf1 hn]
    rw [hnx] at hcl hdd
    repeat' (first|(with_reducible apply a8 a7);rfl;rfl;rfl|(with_reducible apply a9);rfl;(apply Ld.sc a7;rfl;exact hS.blkC 0 rfl rfl);rfl|(with_reducible apply j0);rfl;rfl;omega;omega;rfl|refine yDn (by with_reducible constructor) ?_|(with_reducible apply b8 hS a7 (i:=0));(iterate 8 rfl);exact (rfl:_=[_,_,_,_,_,_,_]);clear hS;intro w' hS;simp only [List.set] at hS)
    (focus ((with_reducible apply d8 _ _ _ (by kernel_rfl) (by kernel_rfl) hS);(repeat' ((first|(with_reducible apply i9 a7);rfl;rfl|(with_reducible apply i7);rfl;(intro wd hd;replace hd:St _ _ wd _:=hd;(first|apply Ld.sc a7;rfl;exact hd.blkC 0 rfl rfl|apply Ld.sl a7;rfl;exact hd.blkC 0 rfl rfl));rfl)));all_goals ((with_reducible apply j7);intro w' hS';clear hS;have hS:=hS';clear hS')))
    repeat' (first|(with_reducible apply a8 a7);rfl;rfl;rfl|(with_reducible apply a9);rfl;(apply Ld.sl a7;rfl;exact hS.blkC 0 rfl rfl);rfl|refine yDn (by with_reducible constructor) ?_|(with_reducible apply d9);rfl;rfl|(with_reducible apply f6);rfl;assumption|(with_reducible apply d6 hS);rfl;rfl;rfl;refine ⟨_,hcon _ (hS.rowSl 1 rfl),?_⟩;clear hS;intro w' hS)
    exact f7 (m,fr',h + 1) (by exact Fr.sub_of rfl) ⟨hcl,by show a0L fr' (h + 1) held < m;unfold a0L at hm |-;omega,by show h + 1 < fr.length;omega,hfl⟩ hS (by show m < m + 1;omega)
  ·rw [xf1 hhl,o3 hfm] at hcl;rw [xj2 hhl] at hcon;have hdd:=a2v fr'.length 0 held;have hdd1:=a2v fr'.length (h + 1) held;by_cases hsn:fm.seen=true
   ·rw [xf0 hsn] at hcl;have hse:=a3V (x:=⟨fm.data,fm.refs,fm.dirty,false⟩) hfm hsn rfl;rw [hsn] at hrow;have hst:(fr'.map fmC).set h (p7 [.string ⟨fm.data.toArray⟩,.int .i64 fm.refs,.bool fm.dirty,.bool true] 3 [.bool false])=(fr'.set h ⟨fm.data,fm.refs,fm.dirty,false⟩).map fmC:=by
     rw [xl3];rfl
    by_cases hn:h + 1=fr.length
    ·have hd:decide (((h:Nat):Int) + 1=((fr.length:Nat):Int))=true:=xj4 (by omega);have hnx:v9 fr'.length h=0:=by unfold v9;rw [hfl,xf0 hn]
     rw [hnx] at hcl
     repeat' (first|(with_reducible apply a8 a7);rfl;rfl;rfl|(with_reducible apply a9);rfl;(apply Ld.sc a7;rfl;exact hS.blkC 0 rfl rfl);rfl|(with_reducible apply j0);rfl;rfl;omega;omega;rfl|refine yDn (by with_reducible constructor) ?_|(with_reducible apply b8 hS a7 (i:=0));(iterate 8 rfl);exact (rfl:_=[_,_,_,_,_,_,_]);clear hS;intro w' hS;simp only [List.set] at hS)
     (focus ((with_reducible apply d8 _ _ _ (by kernel_rfl) (by kernel_rfl) hS);(repeat' ((first|(with_reducible apply i9 a7);rfl;rfl|(with_reducible apply i7);rfl;(intro wd hd;replace hd:St _ _ wd _:=hd;(first|apply Ld.sc a7;rfl;exact hd.blkC 0 rfl rfl|apply Ld.sl a7;rfl;exact hd.blkC 0 rfl rfl));rfl)));all_goals ((with_reducible apply j7);intro w' hS';clear hS;have hS:=hS';clear hS')))
     repeat' (first|(with_reducible apply a8 a7);rfl;rfl;rfl|(with_reducible apply a9);rfl;(first|apply Ld.sc a7;rfl;exact hS.rowCj 2 rfl (by assumption) rfl|apply Ld.sl a7;rfl;exact hS.blkC 0 rfl rfl);rfl|(with_reducible apply l9 a7);rfl;rfl;rfl;rfl;omega;rfl|refine yDn (by with_reducible constructor) ?_|((with_reducible apply d9);rfl;first|rfl|assumption)|(with_reducible apply f6);rfl;rfl|(with_reducible apply b8 hS a7 (i:=0));(iterate 8 rfl);exact (rfl:_=[_,_,_,_,_,_,_]);clear hS;intro w' hS;simp only [List.set] at hS|(with_reducible apply d6 hS);rfl;rfl;rfl;refine ⟨_,hcon _ (hS.rowSl 1 rfl),?_⟩;clear hS;intro w' hS|(with_reducible apply t9 hS a7 (i:=2));(iterate 4 rfl);assumption;(iterate 5 rfl);intro w' hS';simp only [List.set] at hS';clear hS;have hS:=hS';clear hS')
     rw [hst] at hS;exact f7 (m,fr'.set h ⟨fm.data,fm.refs,fm.dirty,false⟩,0) (by exact Fr.sub_of rfl) ⟨hcl,by show a0L (fr'.set h ⟨fm.data,fm.refs,fm.dirty,false⟩) (0) held < m;unfold a0L at hm |-;rw [xa8];omega,by show 0 < fr.length;omega,by show (fr'.set h _).length=_;rw [xa8];exact hfl⟩ hS (by show m < m + 1;omega)
    ·have hd:decide (((h:Nat):Int) + 1=((fr.length:Nat):Int))=false:=xj2 (by omega);have hnx:v9 fr'.length h=h + 1:=by unfold v9;rw [hfl,xf1 hn]
     rw [hnx] at hcl
     repeat' (first|(with_reducible apply a8 a7);rfl;rfl;rfl|(with_reducible apply a9);rfl;(apply Ld.sc a7;rfl;exact hS.blkC 0 rfl rfl);rfl|(with_reducible apply j0);rfl;rfl;omega;omega;rfl|refine yDn (by with_reducible constructor) ?_|(with_reducible apply b8 hS a7 (i:=0));(iterate 8 rfl);exact (rfl:_=[_,_,_,_,_,_,_]);clear hS;intro w' hS;simp only [List.set] at hS)
     (focus ((with_reducible apply d8 _ _ _ (by kernel_rfl) (by kernel_rfl) hS);(repeat' ((first|(with_reducible apply i9 a7);rfl;rfl|(with_reducible apply i7);rfl;(intro wd hd;replace hd:St _ _ wd _:=hd;(first|apply Ld.sc a7;rfl;exact hd.blkC 0 rfl rfl|apply Ld.sl a7;rfl;exact hd.blkC 0 rfl rfl));rfl)));all_goals ((with_reducible apply j7);intro w' hS';clear hS;have hS:=hS';clear hS')))
     repeat' (first|(with_reducible apply a8 a7);rfl;rfl;rfl|(with_reducible apply a9);rfl;(first|apply Ld.sc a7;rfl;exact hS.rowCj 2 rfl (by assumption) rfl|apply Ld.sl a7;rfl;exact hS.blkC 0 rfl rfl);rfl|(with_reducible apply l9 a7);rfl;rfl;rfl;rfl;omega;rfl|refine yDn (by with_reducible constructor) ?_|(with_reducible apply d9);rfl;rfl|((with_reducible apply f6);rfl;first|rfl|assumption)|(with_reducible apply d6 hS);rfl;rfl;rfl;refine ⟨_,hcon _ (hS.rowSl 1 rfl),?_⟩;clear hS;intro w' hS|(with_reducible apply t9 hS a7 (i:=2));(iterate 4 rfl);assumption;(iterate 5 rfl);intro w' hS';simp only [List.set] at hS';clear hS;have hS:=hS';clear hS')
     rw [hst] at hS;exact f7 (m,fr'.set h ⟨fm.data,fm.refs,fm.dirty,false⟩,h + 1) (by exact Fr.sub_of rfl) ⟨hcl,by show a0L (fr'.set h ⟨fm.data,fm.refs,fm.dirty,false⟩) (h + 1) held < m;unfold a0L at hm |-;rw [xa8];omega,by show h + 1 < fr.length;omega,by show (fr'.set h _).length=_;rw [xa8];exact hfl⟩ hS (by show m < m + 1;omega)
   ·rw [xf1 hsn] at hcl;have hsf:fm.seen=false:=by simpa using hsn
    rw [hsf] at hrow;by_cases hn:h + 1=fr.length
    ·have hd:decide (((h:Nat):Int) + 1=((fr.length:Nat):Int))=true:=xj4 (by omega);have hnx:v9 fr'.length h=0:=by unfold v9;rw [hfl,xf0 hn]
     rw [hnx] at hcl
     repeat' (first|(with_reducible apply a8 a7);rfl;rfl;rfl|(with_reducible apply a9);rfl;(apply Ld.sc a7;rfl;exact hS.blkC 0 rfl rfl);rfl|(with_reducible apply j0);rfl;rfl;omega;omega;rfl|refine yDn (by with_reducible constructor) ?_|(with_reducible apply b8 hS a7 (i:=0));(iterate 8 rfl);exact (rfl:_=[_,_,_,_,_,_,_]);clear hS;intro w' hS;simp only [List.set] at hS)
     (focus ((with_reducible apply d8 _ _ _ (by kernel_rfl) (by kernel_rfl) hS);(repeat' ((first|(with_reducible apply i9 a7);rfl;rfl|(with_reducible apply i7);rfl;(intro wd hd;replace hd:St _ _ wd _:=hd;(first|apply Ld.sc a7;rfl;exact hd.blkC 0 rfl rfl|apply Ld.sl a7;rfl;exact hd.blkC 0 rfl rfl));rfl)));all_goals ((with_reducible apply j7);intro w' hS';clear hS;have hS:=hS';clear hS')))
     have hall:=fun w2 (h':St G w w2 (wkS g0 ⟨sh,fr',sl,sps,((0:Nat):Int),vsh,.slice (some ⟨gf,0,none⟩) fr.length cf,vsl,vsp⟩ sp vh held))=>a7S (Γ:=[]) (by rw [List.append_nil];exact h') (f:=h) ⟨by show h < fr'.length;omega,fun _=>hfree hff,hlen,hkd,hspl⟩
     repeat' (first|(with_reducible apply a8 a7);rfl;rfl;rfl|(with_reducible apply a9);rfl;(first|apply Ld.sc a7;rfl;exact hS.rowCj 2 rfl (by assumption) rfl|apply Ld.sl a7;rfl;exact hS.blkC 0 rfl rfl);rfl|(with_reducible apply l9 a7);rfl;rfl;rfl;rfl;omega;rfl|refine yDn (by with_reducible constructor) ?_|(with_reducible apply d9);rfl;assumption|(with_reducible apply f6);rfl;rfl|(with_reducible apply b8 hS a7 (i:=0));(iterate 8 rfl);exact (rfl:_=[_,_,_,_,_,_,_]);clear hS;intro w' hS;simp only [List.set] at hS|(with_reducible apply d6 hS);rfl;rfl;rfl;refine ⟨_,hcon _ (hS.rowSl 1 rfl),?_⟩;clear hS;intro w' hS|(with_reducible apply m9);rfl;rfl;rfl;refine ⟨_,hall _ hS,?_⟩;rintro _ w2 ⟨rfl,k',hk1,hk2,h2⟩)
     (refine k6 rfl ?_)
     replace hS:=St.transM (Γ:=[]) (by rw [List.append_nil];exact hS) h2;rw [List.append_nil] at hS;rw [<- hcl];dsimp only;refine ⟨rfl,k',?_,?_,hS⟩
     ·rw [hk1];rfl
     ·exact ⟨hk2.sh,hk2.vsh,hk2.ar⟩
    ·have hd:decide (((h:Nat):Int) + 1=((fr.length:Nat):Int))=false:=xj2 (by omega);have hnx:v9 fr'.length h=h + 1:=by unfold v9;rw [hfl,xf1 hn]
     rw [hnx] at hcl
     repeat' (first|(with_reducible apply a8 a7);rfl;rfl;rfl|(with_reducible apply a9);rfl;(apply Ld.sc a7;rfl;exact hS.blkC 0 rfl rfl);rfl|(with_reducible apply j0);rfl;rfl;omega;omega;rfl|refine yDn (by with_reducible constructor) ?_|(with_reducible apply b8 hS a7 (i:=0));(iterate 8 rfl);exact (rfl:_=[_,_,_,_,_,_,_]);clear hS;intro w' hS;simp only [List.set] at hS)
     (focus ((with_reducible apply d8 _ _ _ (by kernel_rfl) (by kernel_rfl) hS);(repeat' ((first|(with_reducible apply i9 a7);rfl;rfl|(with_reducible apply i7);rfl;(intro wd hd;replace hd:St _ _ wd _:=hd;(first|apply Ld.sc a7;rfl;exact hd.blkC 0 rfl rfl|apply Ld.sl a7;rfl;exact hd.blkC 0 rfl rfl));rfl)));all_goals ((with_reducible apply j7);intro w' hS';clear hS;have hS:=hS';clear hS')))
     have hall:=fun w2 (h':St G w w2 (wkS g0 ⟨sh,fr',sl,sps,((h + 1:Nat):Int),vsh,.slice (some ⟨gf,0,none⟩) fr.length cf,vsl,vsp⟩ sp vh held))=>a7S (Γ:=[]) (by rw [List.append_nil];exact h') (f:=h) ⟨by show h < fr'.length;omega,fun _=>hfree hff,hlen,hkd,hspl⟩
     repeat' (first|(with_reducible apply a8 a7);rfl;rfl;rfl|(with_reducible apply a9);rfl;(first|apply Ld.sc a7;rfl;exact hS.rowCj 2 rfl (by assumption) rfl|apply Ld.sl a7;rfl;exact hS.blkC 0 rfl rfl);rfl|(with_reducible apply l9 a7);rfl;rfl;rfl;rfl;omega;rfl|refine yDn (by with_reducible constructor) ?_|((with_reducible apply f6);rfl;first|rfl|assumption)|(with_reducible apply d6 hS);rfl;rfl;rfl;refine ⟨_,hcon _ (hS.rowSl 1 rfl),?_⟩;clear hS;intro w' hS|(with_reducible apply m9);rfl;rfl;rfl;refine ⟨_,hall _ hS,?_⟩;rintro _ w2 ⟨rfl,k',hk1,hk2,h2⟩)
     (refine k6 rfl ?_)
     replace hS:=St.transM (Γ:=[]) (by rw [List.append_nil];exact hS) h2;rw [List.append_nil] at hS;rw [<- hcl];dsimp only;refine ⟨rfl,k',?_,?_,hS⟩
     ·rw [hk1];rfl
     ·exact ⟨hk2.sh,hk2.vsh,hk2.ar⟩
theorem a1F {k:KV} {sp:Nat} {x:Sp} (h:k.sp[sp]?=some x):k.K.spaces[sp]?=some x.s:=by
 show (k.sp.map (·.s))[sp]?=_;rw [xh8,h];rfl
theorem a4h {k:KV} {sp:Nat} {page:Int} (h:At k.K sp page):∃ x,k.sp[sp]?=some x/\x.s.live=true/\(o9 x.s.areas page).isSome=true/\j6 k.K sp=x.s.entries/\k7 k.K sp=x.s.areas:=by
 obtain ⟨s,hs,h1,h2⟩:=h.sc;have:(k.sp.map (·.s))[sp]?=some s:=hs;rw [xh8] at this;obtain ⟨x,hx,rfl⟩:=xi7.1 this;refine ⟨x,hx,h1,h2,?_,?_⟩
 ·unfold j6;rw [a01 hs]
 ·unfold k7;rw [a01 hs]
theorem z7 {K:Ker} (h:Right K):∀ s ∈ K.spaces,a93 K.sheets K.frames.length K.slots.length s/\s.entries.length<=255:=fun s hs=>⟨a03.1 (h.spaces s hs),(a5f (h.spaces s hs)).1⟩
theorem a3Z {A:List Ar} (hc:m6 A=0) {p:Int} (h:(o9 A p).isSome=true):1<=p/\p<=255:=by
 obtain ⟨a,ha⟩:=xi4.1 h;have h1:=(a0R hc ha).1;have h2:=(a0R hc ha).2;have h3:=xi5 ha;unfold a0a Ar.fin at h3;rw [xb3] at h3;unfold Ar.ok at h1;omega
theorem a6a {sh:List Sh} {nf ns:Int} {s:Sc} (h:a93 sh nf ns s) {page:Int} (hp:-1000000<=page/\page<=1000000):b6Q s.entries page:=fun q hq=>by
 obtain ⟨e,he,rfl⟩:=xm7.1 hq;have:=a3Z h.ar (h.ents e he).1;omega
theorem b1j {K:Ker} (h:Right K):(∀ f ∈ K.frames,0<=f.refs/\f.refs<=100000)/\∀ f ∈ K.slots,0<=f.refs/\f.refs<=100000:=by
 have hb:=a5a (L:=K.spaces) (xc7.2 h.spaces);have hc:=h.cnt;have hl:∀ k (i:Nat),(j4 K.spaces k (i:Nat)).length<=2000:=fun k i=>by
  rw [<- a1b];have:=xn5 (fun (n:Nm)=>decide (n.1.kind=k/\n.1.at_=((i:Nat):Int))) (a0F K.spaces);omega
 constructor
 ·intro f hf;obtain ⟨i,hi⟩:=xd9.1 hf;rw [(h.fr i f hi).refs];have:=hl 1 i;omega
 ·intro f hf;obtain ⟨i,hi⟩:=xd9.1 hf;rw [(h.sl i f hi).refs];have:=hl 2 i;omega
theorem a6w {k:KV} (h:Right k.K) {sp:Nat} {x:Sp} (hx:k.sp[sp]?=some x) {e:En} (he:e ∈ x.s.entries):EntOk k e:=by
 refine ⟨?_,(b1j h).1,(b1j h).2⟩;rcases (h.ent (a1F hx) he).2 with ⟨a,b⟩|⟨a,b⟩
 ·exact xd6 ⟨a,b⟩
 ·exact xd3 ⟨by omega,b⟩
theorem a3e {k:KV} (h:Right k.K) {held:List Nat} (hl:held.length<=2):a8I k held:=by
 have hc:=h.cnt;have hsp:k.sp.length<=4:=by
  have:k.K.spaces.length=k.sp.length:=xj1 _;omega
 have hmem:∀ x ∈ k.sp,x.s ∈ k.K.spaces:=fun x hx=>xm7.2 ⟨x,hx,rfl⟩;refine ⟨h.hand,⟨hc.1,hc.2.1⟩,hl,fun hf=>?_,fun x hx=>?_,fun x hx e he=>?_,by omega⟩
 ·have h0:0 < k.K.frames.length:=by omega
  refine a73 h h0 ?_;rw [o3 (xe1 h0)];exact a4y hf _ (xe2 h0)
 ·have:=(z7 h x.s (hmem x hx)).2;omega
 ·have:=((z7 h x.s (hmem x hx)).1.ents e he).2;omega
theorem a4T (es:List En) (p:Int):(k8 es p=none/\a1u (fun e:En=>decide (e.page=p)) es=-1)\/∃ (i:Nat) (e:En),k8 es p=some e/\a1u (fun e:En=>decide (e.page=p)) es=((i:Nat):Int)/\es[i]?=some e:=by
 unfold a1u k8
 cases h:es.findIdx? fun e=>decide (e.page=p) with
 |none=>
  left;rw [xl1] at h;exact ⟨xn6.2 fun x hx=>by simpa using h x hx,rfl⟩
 |some i=>
  right;rw [xl2] at h;obtain ⟨h1,h2,h3⟩:=h;refine ⟨i,es[i],?_,rfl,xe1 h1⟩;rw [xn7];exact ⟨h2,i,h1,rfl,fun j hj=>by simpa using h3 j hj⟩
theorem b4m {w:World} {k:KV} (hK:KerV w k) (hr:Right k.K) {sp:Nat} {page:Int} (ha:At k.K sp page):Fn Tryz.prog 31 [.agg (kvC k).toArray,.int .i64 (sp:Nat),.int .i64 page] w (RBf (.string ⟨(a0x k.K sp page).toArray⟩) w):=by
 obtain ⟨x,hx,hxl,hxf,hxe,hxa⟩:=a4h ha;have hxv:=hK.spv x (xd0 hx);have hsc:=(z7 hr x.s (xd0 (a1F hx))).1;obtain ⟨d,hd1,-,hd3⟩:=a3s hr ha;have hz:zAt k.K sp page=((o9 x.s.areas page).getD a1K).z:=by unfold zAt;rw [hxa]
 rw [hz] at hd1;have hfl:=fun w1 (h:KerV w1 k)=>a6C h (a:=(o9 x.s.areas page).getD a1K) hr.rise hd1;have hnm:=fun e (he:k8 x.s.entries page=some e)=>a3y hr (sp:=sp) (p:=page) (e:=e) (by rw [hxe];exact he);have hpk:a0x k.K sp page=(match k8 x.s.entries page with|some e=>a0g k.K e|none=>d):=by
  unfold a0x;rw [hxe,hd3]
  cases k8 x.s.entries page <;> rfl
 have hf1:k.K.frames=k.fr:=rfl;have hf2:k.K.slots=k.sl:=rfl;unfold a0g at hpk;rw [hf1,hf2] at hpk;rw [hpk];rw [hf1,hf2] at hnm;clear hpk hd1 hd3 hz hf1 hf2 ha hr hxe hxa;have hea:=fun w1 (h:SpV w1 x)=>a2s h page;have hok:=a0E (t6.1 hsc.ar).2;have haa:=fun w1 (h:Sl nF w1 4 x.va (x.s.areas.map arC))=>a2j page h hok;unfold a1w at haa;generalize (o9 x.s.areas page).getD a1K=a at haa hfl;have hix:=a4T x.s.entries page;generalize a1u (fun e:En=>decide (e.page=page)) x.s.entries=i at hea hix;obtain ⟨sh,fr,sl,sps,hand,vsh,vfr,vsl,vsp⟩:=k;have hK0:=hK;obtain ⟨k1,k2,k3,k4,k5⟩:=hK;dsimp only at k1 k2 k3 k4 k5;obtain ⟨p1,c1,rfl⟩:=k1.sl.len;obtain ⟨p2,c2,rfl⟩:=k2.len;obtain ⟨p3,c3,rfl⟩:=k3.len;obtain ⟨p4,c4,rfl⟩:=k4.len;dsimp only at hx hnm |-;have hrow:=c9 (f:=spC) hx;have hspl:=b9 hx;obtain ⟨b,off,rfl,hro⟩:=k4.at_ (i:=sp) hspl;obtain ⟨s,va,ve⟩:=x;have har:=hxv.ar;have hen:=hxv.en;dsimp only at har hen hnm hix;obtain ⟨pa,ca,rfl⟩:=har.len;obtain ⟨pe,ce,rfl⟩:=hen.len;unfold spC at hrow hea;unfold arC at haa hfl;unfold kvC at hfl |-;dsimp only at hrow hea hfl haa |-;rcases hix with ⟨h0,rfl⟩|⟨j,e,h0,rfl,hj⟩
 ·rw [h0];refine yEn Tryz.func31 Tryz.ntmps31 (by kernel_rfl) (by kernel_rfl) rfl rfl ?_;have hS:=St.start w
  repeat' (first|(with_reducible apply a8 a7);rfl;rfl;rfl|(with_reducible apply a9);rfl;(first|apply Ld.sl a7;rfl;exact hS.blkC 0 rfl rfl|apply Ld.st a7;rfl;(first|exact hS.blkR 0 rfl|exact hS.blkR 2 rfl|exact hS.roR (by assumption) (by assumption));rfl);rfl|(with_reducible apply l9 a7);rfl;rfl;rfl;rfl;omega;rfl|refine yDn (by with_reducible constructor) ?_|(with_reducible apply d9);rfl;rfl|(with_reducible apply l6 hS);rfl;rfl;rfl;clear hS;intro g w' hS|(with_reducible apply d7 hS a7);rfl;rfl;rfl;clear hS;intro g w' hS|(with_reducible apply b8 hS a7 (i:=0));(iterate 8 rfl);(first|exact (rfl:_=[_,_,_])|exact (rfl:_=[_,_,_,_]));clear hS;intro w' hS;simp only [List.set] at hS|(with_reducible apply d6 hS);rfl;rfl;rfl;refine ⟨_,hea _ (hxv.now hS),?_⟩;clear hS;intro w' hS|(with_reducible apply d6 hS);rfl;rfl;rfl;refine ⟨_,haa _ (har.now hS),?_⟩;clear hS;intro w' hS|(with_reducible apply d6 hS);rfl;rfl;rfl;refine ⟨_,hfl _ (hK0.now hS),?_⟩;clear hS;intro w' hS)
  (refine k6 rfl ?_)
  exact ⟨rfl,hS.sub (xj3 _)⟩
 ·rw [h0];obtain ⟨-,hkd,-⟩:=hnm e h0;have hrow2:=c9 (f:=enC) hj;obtain ⟨b2,off2,rfl,hro2⟩:=hen.at_ (i:=j) (b9 hj);unfold enC at hrow2;have hdj:decide (((j:Nat):Int) < 0)=false:=xj2 (by omega);have hjl:=b9 hj;rcases hkd with ⟨hk,m,hm,hml,-,-⟩|⟨hk,m,hm,hml,-,-⟩
  ·have hdk:decide (e.kind=1)=true:=xj4 hk;obtain ⟨f,hf⟩:=j3 (l:=fr) (i:=m) (by omega);have hrow3:=c9 (f:=fmC) hf;obtain ⟨b3,off3,rfl,hro3⟩:=k2.at_ (i:=m) hml;unfold fmC at hrow3;rw [hm] at hrow2;dsimp only;rw [xf0 hk,hm,show (((m:Nat):Int)).toNat=m from rfl,o3 hf];refine yEn Tryz.func31 Tryz.ntmps31 (by kernel_rfl) (by kernel_rfl) rfl rfl ?_;have hS:=St.start w
   repeat' (first|(with_reducible apply a8 a7);rfl;rfl;rfl|(with_reducible apply a9);rfl;(first|apply Ld.sc a7;rfl;exact hS.roC (by assumption) (by assumption) rfl|apply Ld.sl a7;rfl;exact hS.blkC 0 rfl rfl|apply Ld.st a7;rfl;(first|exact hS.blkR 0 rfl|exact hS.roR (by assumption) (by assumption));rfl);rfl|(with_reducible apply l9 a7);rfl;rfl;rfl;rfl;omega;rfl|refine yDn (by with_reducible constructor) ?_|(with_reducible apply d9);rfl;assumption|(with_reducible apply f6);rfl;rfl|(with_reducible apply l6 hS);rfl;rfl;rfl;clear hS;intro g w' hS|(with_reducible apply d7 hS a7);rfl;rfl;rfl;clear hS;intro g w' hS|(with_reducible apply b8 hS a7 (i:=0));(iterate 8 rfl);exact (rfl:_=[_,_,_]);clear hS;intro w' hS;simp only [List.set] at hS|(with_reducible apply d6 hS);rfl;rfl;rfl;refine ⟨_,hea _ (hxv.now hS),?_⟩;clear hS;intro w' hS)
   (focus ((with_reducible apply d8 _ _ _ (by kernel_rfl) (by kernel_rfl) hS);(repeat' ((first|(with_reducible apply i9 a7);rfl;rfl|(with_reducible apply i7);rfl;(intro wd hd;replace hd:St _ _ wd _:=hd;(first|apply Ld.sc a7;rfl;(first|exact hd.roC0 (by assumption) (by assumption) rfl|exact hd.roC (by assumption) (by assumption) rfl)|apply Ld.sl a7;rfl;(first|exact hd.blkC 0 rfl rfl|exact hd.blkC 1 rfl rfl)));rfl|(with_reducible apply x7 a7);rfl;rfl;rfl;rfl;omega;rfl)));all_goals ((with_reducible apply j7);intro w' hS';clear hS;have hS:=hS';clear hS')))
   repeat' ((refine yDn (by with_reducible constructor) ?_))
   (refine k6 rfl ?_)
   exact ⟨rfl,hS.sub (xj3 _)⟩
  ·have hdk:decide (e.kind=1)=false:=xj2 (by omega);obtain ⟨f,hf⟩:=j3 (l:=sl) (i:=m) (by omega);have hrow3:=c9 (f:=swC) hf;obtain ⟨b3,off3,rfl,hro3⟩:=k3.at_ (i:=m) hml;unfold swC at hrow3;rw [hm] at hrow2;dsimp only;rw [xf1 (by omega),hm,show (((m:Nat):Int)).toNat=m from rfl,a1i hf];refine yEn Tryz.func31 Tryz.ntmps31 (by kernel_rfl) (by kernel_rfl) rfl rfl ?_;have hS:=St.start w
   repeat' (first|(with_reducible apply a8 a7);rfl;rfl;rfl|(with_reducible apply a9);rfl;(first|apply Ld.sc a7;rfl;exact hS.roC (by assumption) (by assumption) rfl|apply Ld.sl a7;rfl;exact hS.blkC 0 rfl rfl|apply Ld.st a7;rfl;(first|exact hS.blkR 0 rfl|exact hS.roR (by assumption) (by assumption));rfl);rfl|(with_reducible apply l9 a7);rfl;rfl;rfl;rfl;omega;rfl|refine yDn (by with_reducible constructor) ?_|((with_reducible apply f6);rfl;first|rfl|assumption)|(with_reducible apply l6 hS);rfl;rfl;rfl;clear hS;intro g w' hS|(with_reducible apply d7 hS a7);rfl;rfl;rfl;clear hS;intro g w' hS|(with_reducible apply b8 hS a7 (i:=0));(iterate 8 rfl);exact (rfl:_=[_,_,_]);clear hS;intro w' hS;simp only [List.set] at hS|(with_reducible apply d6 hS);rfl;rfl;rfl;refine ⟨_,hea _ (hxv.now hS),?_⟩;clear hS;intro w' hS)
   (focus ((with_reducible apply d8 _ _ _ (by kernel_rfl) (by kernel_rfl) hS);(repeat' ((first|(with_reducible apply i9 a7);rfl;rfl|(with_reducible apply i7);rfl;(intro wd hd;replace hd:St _ _ wd _:=hd;(first|apply Ld.sc a7;rfl;(first|exact hd.roC0 (by assumption) (by assumption) rfl|exact hd.roC (by assumption) (by assumption) rfl)|apply Ld.sl a7;rfl;(first|exact hd.blkC 0 rfl rfl|exact hd.blkC 1 rfl rfl)));rfl|(with_reducible apply x7 a7);rfl;rfl;rfl;rfl;omega;rfl)));all_goals ((with_reducible apply j7);intro w' hS';clear hS;have hS:=hS';clear hS')))
   repeat' ((refine yDn (by with_reducible constructor) ?_))
   (refine k6 rfl ?_)
   exact ⟨rfl,hS.sub (xj3 _)⟩
theorem Sl.cel {w:World} {sz b off n c:Nat} {rows:List (List Value)} (h:Sl nF w sz (.slice (some ⟨b,off,none⟩) n c) rows) {k j:Nat} {r:List Value} {u:Value} (hk:rows[k]?=some r) (hj:r[j]?=some u):w.cell? ⟨b,off + k * sz + j,none⟩=some u:=h.rng hk j u hj
theorem Sl.cel0 {w:World} {sz b off n c:Nat} {rows:List (List Value)} (h:Sl nF w sz (.slice (some ⟨b,off,none⟩) n c) rows) {k:Nat} {r:List Value} {u:Value} (hk:rows[k]?=some r) (hj:r[0]?=some u):w.cell? ⟨b,off + k * sz,none⟩=some u:=h.rng hk 0 u hj
theorem Sl.form1 {w:World} {sz:Nat} {α:Type} {f:α->List Value} {l:List α} {v:Value} {i:Nat} {x:α} (h:Sl nF w sz v (l.map f)) (hx:l[i]?=some x):∃ b off c,v=.slice (some ⟨b,off,none⟩) l.length c:=by
 obtain ⟨p,c,rfl⟩:=h.len;obtain ⟨b,off,rfl,-⟩:=h.at_ (b9 hx);exact ⟨b,off,c,rfl⟩
theorem a2u {α:Type} {l:List α} {i:Nat} {x:α} (h:l[i]?=some x):l.set i x=l:=by
 refine xh3 fun j=>?_;rw [xe0];by_cases e:i=j
 ·subst e;rw [xf0 rfl,xf0 (b9 h),h]
 ·rw [xf1 e]
theorem a8v {x:Sp} {page:Int} (hr:Rises (j8 x.s.entries)) {w:World} (hL:Sl nF w 3 x.ve (x.s.entries.map enC)):∃ pt is,b2b x page=.tuple #[pt,.bool is]/\((is=false/\pt=.pointer none/\k8 x.s.entries page=none)\/(is=true/\∃ (e:En) (b off c i:Nat),k8 x.s.entries page=some e/\x.ve=.slice (some ⟨b,off,none⟩) x.s.entries.length c/\x.s.entries[i]?=some e/\pt=.pointer (some ⟨b,off + i * 3,none⟩))):=by
 unfold b2b
 cases he:k8 x.s.entries page with
 |none=>
  rw [xf1 (a1m.1 he)];exact ⟨_,_,rfl,xd6 ⟨rfl,rfl,rfl⟩⟩
 |some e=>
  obtain ⟨hem,hep⟩:=y7 he;have hm:page ∈ j8 x.s.entries:=xm7.2 ⟨e,hem,hep⟩;rw [xf0 hm];have hat:=(a1g hr page).2 hm;unfold j8 at hat;rw [xh8] at hat;obtain ⟨y,hy,hyp⟩:=xi7.1 hat;have h1:=a3A hr (xd0 hy);rw [hyp,he] at h1
  cases h1
  obtain ⟨b,off,c,hve⟩:=hL.form1 hy;refine ⟨_,_,rfl,xd3 ⟨rfl,e,b,off,c,_,rfl,hve,hy,?_⟩⟩;rw [hve];rfl
theorem a68 {F:Nat->Prop} {w0 w:World} {Γ:List Asr} {g0:Nat} {k k1:KV} {sp:Nat} {vh:Value} {held hd:List Nat} (hS0:St F w0 w (wkS g0 k1 sp vh held++Γ)) (hR:KRo F w0 k1) {page:Int} {f:Nat} {data:List UInt8} {dirty:Bool} {r:Ker×Nat} (e1:k1.K=r.1) (hf:f=r.2) (hg:b52 k.K hd r) (ha:At k.K sp page) :
  Fn Tryz.prog 153 [.pointer (some ⟨g0,0,none⟩),.int .i64 page,.int .i64 (f:Nat),.string ⟨data.toArray⟩,.bool dirty] w (fun v w'=>v=.tuple #[]/\∃ k',k'.K=inK r.1 sp page f data dirty/\KLike k1 k'/\St (fps (wkS g0 k1 sp vh held)) w w' (wkS g0 k' sp vh held)):=by
 have ha1:At k1.K sp page:=by rw [e1];exact ha.same hg.same.ar hg.same.live
 have hr1:Right k1.K:=by rw [e1];exact hg.right
 obtain ⟨x,hx,hxl,hxa,hxe,hxr⟩:=a4h ha1;obtain ⟨hsc,hel⟩:=z7 hr1 x.s (xd0 (a1F hx));have hpg:=a3Z hsc.ar hxa;have hlt:=hg.lt;rw [<- hg.same.nfr,<- e1,<- hf] at hlt;rw [<- e1];exact b6p hS0 (hR.nowM hS0) hx hlt hsc.rises (a6a hsc (by omega)) (by omega) (fun e he=>a6w hr1 hx (y7 he).1)
theorem a75 {F:Nat->Prop} {w0 w:World} {Γ:List Asr} {g0:Nat} {k:KV} {sp:Nat} {vh:Value} {held:List Nat} (hS0:St F w0 w (wkS g0 k sp vh held++Γ)) (hR0:KRo (fps (wkS g0 k sp vh held)) w k) (hr:Right k.K) {page:Int} (ha:At k.K sp page) (write:Bool) (hl:held.length<=1) (hh:∀ i ∈ held,∃ p,p≠page/\k8 (j6 k.K sp) p=some ⟨p,1,(i:Nat)⟩):Fn Tryz.prog 123 [.pointer (some ⟨g0,0,none⟩),.int .i64 page,.bool write] w (fun v w'=>v=.tuple #[]/\∃ k' vh',k'.K=(a0y k.K sp page write held).1/\KLike k k'/\St (fps (wkS g0 k sp vh held)) w w' (wkS g0 k' sp vh' (held++[(a0y k.K sp page write held).2]))):=by
 have hS:=St.startM hS0;have hR:=hR0;generalize fps (wkS g0 k sp vh held)=G at hS hR |-;clear hR0 hS0;rw [<- List.append_nil (wkS g0 k sp vh held)] at hS;obtain ⟨x,hx,hxl,hxa,hxe,hxr⟩:=a4h ha;obtain ⟨hsc,hel⟩:=z7 hr x.s (xd0 (a1F hx));have hpg:=a3Z hsc.ar hxa;have hbA:=a5c hr ha hl hh;unfold a0y a1h;obtain ⟨A,hA⟩:∃ A,A=a1M k.K sp page held:=⟨_,rfl⟩;rw [<- hA] at hbA |-;have hV0:=WkV.of hS hR;have hxm:=xd0 hx;have hxv:=hV0.ker.spv x hxm;obtain ⟨bs,os,cs,hvsp⟩:=hV0.ker.sp.form1 hx;obtain ⟨f0,hf0⟩:∃ f0,k.fr[0]?=some f0:=j3 (by have:=hr.cnt.1;have h9:k.K.frames.length=k.fr.length:=rfl;omega);obtain ⟨bf,of_,cf,hvfr⟩:=hV0.ker.fr.form1 hf0;obtain ⟨psl,csl,hvsl⟩:=hV0.ker.sl.len;obtain ⟨sh,fr,sl,sps,hand,vsh,vfr,vsl,vsp⟩:=k;dsimp only at hvsp hvfr hvsl hx hxm hf0;subst hvsp hvfr hvsl;have hrowS:=c9 (f:=spC) hx;have hspc:=fun w1 Γ1 (h:St G w w1 (wkS g0 ⟨sh,fr,sl,sps,hand,vsh,.slice (some ⟨bf,of_,none⟩) fr.length cf,.slice psl sl.length csl,.slice (some ⟨bs,os,none⟩) sps.length cs⟩ sp vh held++Γ1))=>a3P (WkV.of h hR) (b9 hx);have hent:=fun w1 Γ1 (h:St G w w1 (wkS g0 ⟨sh,fr,sl,sps,hand,vsh,.slice (some ⟨bf,of_,none⟩) fr.length cf,.slice psl sl.length csl,.slice (some ⟨bs,os,none⟩) sps.length cs⟩ sp vh held++Γ1))=>a35 (WkV.of h hR) hx page hsc.rises (a6a hsc (by omega));have hspV:=fun w1 Γ1 (h:St G w w1 (wkS g0 ⟨sh,fr,sl,sps,hand,vsh,.slice (some ⟨bf,of_,none⟩) fr.length cf,.slice psl sl.length csl,.slice (some ⟨bs,os,none⟩) sps.length cs⟩ sp vh held++Γ1))=>(WkV.of h hR).ker.sp;have hfnd:=fun w1 Γ1 (h:St G w w1 (wkS g0 ⟨sh,fr,sl,sps,hand,vsh,.slice (some ⟨bf,of_,none⟩) fr.length cf,.slice psl sl.length csl,.slice (some ⟨bs,os,none⟩) sps.length cs⟩ sp vh held++Γ1))=>a8n page ((WkV.of h hR).ker.spv x hxm).ar;unfold a11 at hspc;dsimp only at hspc hspV;obtain ⟨a,hfa⟩:=xi4.1 hxa;rw [a2m hsc.ar,hfa] at hfnd;unfold a1w at hfnd;dsimp only [Option.getD,Option.isSome] at hfnd;unfold arC at hfnd;unfold spC at hrowS;obtain ⟨pt,is,hEV,hcase⟩:=a8v (page:=page) hsc.rises hxv.en;rw [hEV] at hent;have hfo:=a3e hr (held:=held) (by omega);refine yEn Tryz.func123 Tryz.ntmps123 (by kernel_rfl) (by kernel_rfl) rfl rfl ?_
 repeat' (first|(with_reducible apply a8 a7);rfl;rfl;rfl|(with_reducible first|apply a2T|apply a2X|apply a3t|apply a2a)|(with_reducible apply d7 hS a7);rfl;rfl;rfl;clear hS;intro g w' hS|(with_reducible apply b8 hS a7 (i:=0));(iterate 8 rfl);exact (rfl:_=[_,_,_,_]);clear hS;intro w' hS;simp only [List.set] at hS|(with_reducible apply d6 hS);rfl;rfl;rfl;refine ⟨_,hspc _ _ hS,?_⟩;clear hS;intro w' hS|(with_reducible apply x6 a7);rfl;rfl;rfl;refine ⟨_,(hspV _ _ hS).cel hrowS rfl,?_⟩|(with_reducible apply d6 hS);rfl;rfl;rfl;refine ⟨_,hfnd _ _ hS,?_⟩;clear hS;intro w' hS|(with_reducible apply d6 hS);rfl;rfl;rfl;refine ⟨_,hent _ _ hS.drop,?_⟩;clear hS;intro w' hS)
 rename Nat=>g6
 refine a1H (F:=G) (w0:=w) (X:=KV) (fun _=>[(0,.pointer (some ⟨g0,0,none⟩)),(1,.int .i64 page),(2,.bool write)]) (fun k'=>wkS g0 k' sp vh held) (fun k'=>k'.K=A.1/\KLike ⟨sh,fr,sl,sps,hand,vsh,.slice (some ⟨bf,of_,none⟩) fr.length cf,.slice psl sl.length csl,.slice (some ⟨bs,os,none⟩) sps.length cs⟩ k') ?_ ?_
 ·rcases hcase with ⟨rfl,rfl,he⟩|⟨rfl,e,b,off,c,i,he,hve,hei,rfl⟩
  ·obtain ⟨d,d1,d2,d3⟩:=a3s hr ha;have hz:zAt (KV.K ⟨sh,fr,sl,sps,hand,vsh,.slice (some ⟨bf,of_,none⟩) fr.length cf,.slice psl sl.length csl,.slice (some ⟨bs,os,none⟩) sps.length cs⟩) sp page=a.z:=by unfold zAt;rw [hxr,hfa];rfl
   rw [hz] at d1;have hfil:=fun w1 Γ1 (h:St G w w1 (wkS g0 ⟨sh,fr,sl,sps,hand,vsh,.slice (some ⟨bf,of_,none⟩) fr.length cf,.slice psl sl.length csl,.slice (some ⟨bs,os,none⟩) sps.length cs⟩ sp vh held++Γ1))=>a4u (F:=nF) (a:=a) (p:=page) (WkV.of h hR).c0 (WkV.of h hR).ker.sh hr.rise (by omega);have hdd:a0G (shs sh) a.z page=some d:=d1;rw [hdd] at hfil;unfold a81 at hfil;dsimp only [Option.getD,Option.isSome] at hfil;unfold arC at hfil;have hAe:A=(inK (z9 (KV.K ⟨sh,fr,sl,sps,hand,vsh,.slice (some ⟨bf,of_,none⟩) fr.length cf,.slice psl sl.length csl,.slice (some ⟨bs,os,none⟩) sps.length cs⟩) held).1 sp page (z9 (KV.K ⟨sh,fr,sl,sps,hand,vsh,.slice (some ⟨bf,of_,none⟩) fr.length cf,.slice psl sl.length csl,.slice (some ⟨bs,os,none⟩) sps.length cs⟩) held).2 d false,(z9 (KV.K ⟨sh,fr,sl,sps,hand,vsh,.slice (some ⟨bf,of_,none⟩) fr.length cf,.slice psl sl.length csl,.slice (some ⟨bs,os,none⟩) sps.length cs⟩) held).2):=by
    rw [hA];unfold a1M;rw [hxe,he,d3]
   repeat' (first|(with_reducible apply a8 a7);rfl;rfl;rfl|refine yDn (by with_reducible constructor) ?_|(with_reducible apply d9);rfl;rfl)
   (focus ((with_reducible apply d8 _ _ _ (by kernel_rfl) (by kernel_rfl) hS);(repeat' (first|(first|(with_reducible apply i9 a7);rfl;rfl|(with_reducible apply i7);rfl;(intro wd hd;replace hd:St _ _ wd _:=hd;(apply Ld.st a7;rfl;exact hd.blkR 0 rfl;rfl));rfl)|(with_reducible apply y8);rfl;rfl;rfl;refine ⟨_,fun wd hd=>hfil _ _ hd.drop,?_⟩));all_goals ((with_reducible apply j7);intro w' hS';clear hS;have hS:=hS';clear hS')))
   replace hS:=hS.perm List.perm_middle.symm;have hg:=a31 hr (held:=held) (by omega);have hin:=fun w1 k1 Γ1 (h:St G w w1 (wkS g0 k1 sp vh held++Γ1)) (e1:k1.K=(z9 (KV.K ⟨sh,fr,sl,sps,hand,vsh,.slice (some ⟨bf,of_,none⟩) fr.length cf,.slice psl sl.length csl,.slice (some ⟨bs,os,none⟩) sps.length cs⟩) held).1) (l1:KLike ⟨sh,fr,sl,sps,hand,vsh,.slice (some ⟨bf,of_,none⟩) fr.length cf,.slice psl sl.length csl,.slice (some ⟨bs,os,none⟩) sps.length cs⟩ k1)=>a68 h (hR.like l1) (page:=page) (f:=(z9 (KV.K ⟨sh,fr,sl,sps,hand,vsh,.slice (some ⟨bf,of_,none⟩) fr.length cf,.slice psl sl.length csl,.slice (some ⟨bs,os,none⟩) sps.length cs⟩) held).2) (data:=d) (dirty:=false) e1 rfl hg ha
   repeat' (first|(with_reducible apply a8 a7);rfl;rfl;rfl|refine yDn (by with_reducible constructor) ?_|(with_reducible apply m9);rfl;rfl;rfl;refine ⟨_,a5v hS hfo,?_⟩;rintro _ w2 ⟨rfl,k1,e1,l1,h2⟩;(replace hS:=St.transM hS h2);clear h2)
   repeat' (first|refine yDn (by with_reducible constructor) ?_|(with_reducible apply m9);rfl;rfl;rfl;refine ⟨_,hin _ _ _ hS e1 l1,?_⟩;rintro _ w3 ⟨rfl,k2,e2,l2,h2⟩;(replace hS:=St.transM hS h2);clear h2)
   exact r6 k2 (by exact Fr.sub_of rfl) ⟨by rw [hAe];exact e2,l1.trans l2⟩ (hS.sub (xm5 _ _))
  ·obtain ⟨hep,hnm,-⟩:=a3y hr (sp:=sp) (p:=page) (e:=e) (by rw [hxe];exact he);have hrowE:=c9 (f:=enC) hei;have hentV:=fun w1 Γ1 (h:St G w w1 (wkS g0 ⟨sh,fr,sl,sps,hand,vsh,.slice (some ⟨bf,of_,none⟩) fr.length cf,.slice psl sl.length csl,.slice (some ⟨bs,os,none⟩) sps.length cs⟩ sp vh held++Γ1))=>((WkV.of h hR).ker.spv x hxm).en;rw [hve] at hentV;unfold enC at hrowE;by_cases hk:e.kind=2
   ·have hd2:decide (e.kind=2)=true:=xj4 hk;rcases hnm with ⟨hk1,-⟩|⟨-,j,hj,hjl,hjr,hjd⟩
    ·omega
    have hjl':j < sl.length:=hjl;obtain ⟨s1,hs1⟩:=j3 (l:=sl) (i:=j) (by omega);have hrowL:=c9 (f:=swC) hs1;obtain ⟨bl,ol,cl,hfl⟩:=hV0.ker.sl.form1 hs1;injection hfl with hfl1 hfl2 hfl3
    subst hfl1;have hslV:=fun w1 Γ1 (h:St G w w1 (wkS g0 ⟨sh,fr,sl,sps,hand,vsh,.slice (some ⟨bf,of_,none⟩) fr.length cf,.slice (some ⟨bl,ol,none⟩) sl.length csl,.slice (some ⟨bs,os,none⟩) sps.length cs⟩ sp vh held++Γ1))=>(WkV.of h hR).ker.sl;obtain ⟨epg,ekd,eat⟩:=e;dsimp only at hj hk hep;subst hj;unfold swC at hrowL;have hsw:a0I (KV.K ⟨sh,fr,sl,sps,hand,vsh,.slice (some ⟨bf,of_,none⟩) fr.length cf,.slice (some ⟨bl,ol,none⟩) sl.length csl,.slice (some ⟨bs,os,none⟩) sps.length cs⟩).slots j=s1:=a1i hs1;have hAe:A=(inK (z9 (KV.K ⟨sh,fr,sl,sps,hand,vsh,.slice (some ⟨bf,of_,none⟩) fr.length cf,.slice (some ⟨bl,ol,none⟩) sl.length csl,.slice (some ⟨bs,os,none⟩) sps.length cs⟩) held).1 sp page (z9 (KV.K ⟨sh,fr,sl,sps,hand,vsh,.slice (some ⟨bf,of_,none⟩) fr.length cf,.slice (some ⟨bl,ol,none⟩) sl.length csl,.slice (some ⟨bs,os,none⟩) sps.length cs⟩) held).2 s1.data true,(z9 (KV.K ⟨sh,fr,sl,sps,hand,vsh,.slice (some ⟨bf,of_,none⟩) fr.length cf,.slice (some ⟨bl,ol,none⟩) sl.length csl,.slice (some ⟨bs,os,none⟩) sps.length cs⟩) held).2):=by
     rw [hA];unfold a1M;rw [hxe,he];dsimp only;rw [xf0 hk,show ((j:Nat):Int).toNat=j from rfl,hsw]
    repeat' (first|(with_reducible apply a8 a7);rfl;rfl;rfl|refine yDn (by with_reducible constructor) ?_|(with_reducible apply d9);rfl;assumption|(with_reducible apply f6);rfl;rfl|(with_reducible apply a3J a7);rfl;rfl;rfl;refine ⟨_,(hentV _ _ hS.drop).cel hrowE rfl,?_⟩)
    (focus ((with_reducible apply d8 _ _ _ (by kernel_rfl) (by kernel_rfl) hS);(repeat' (first|(first|(with_reducible apply i9 a7);rfl;rfl|(with_reducible apply i7);rfl;(intro wd hd;replace hd:St _ _ wd _:=hd;(apply Ld.sl a7;rfl;exact hd.blkC 1 rfl rfl));rfl|(with_reducible apply x7 a7);rfl;rfl;rfl;rfl;omega;rfl)|(with_reducible apply i7);rfl;(intro wd hd;replace hd:St _ _ wd _:=hd;(apply Ld.sc a7;rfl;exact (hentV _ _ hd.drop).cel hrowE rfl));rfl|(with_reducible apply i7);rfl;(intro wd hd;replace hd:St _ _ wd _:=hd;(apply Ld.sc a7;rfl;exact (hslV _ _ hd.drop).cel0 hrowL rfl));rfl));all_goals ((with_reducible apply j7);intro w' hS';clear hS;have hS:=hS';clear hS')))
    replace hS:=hS.perm List.perm_middle.symm;have hg:=a31 hr (held:=held) (by omega);have hin:=fun w1 k1 Γ1 (h:St G w w1 (wkS g0 k1 sp vh held++Γ1)) (e1:k1.K=(z9 (KV.K ⟨sh,fr,sl,sps,hand,vsh,.slice (some ⟨bf,of_,none⟩) fr.length cf,.slice (some ⟨bl,ol,none⟩) sl.length csl,.slice (some ⟨bs,os,none⟩) sps.length cs⟩) held).1) (l1:KLike ⟨sh,fr,sl,sps,hand,vsh,.slice (some ⟨bf,of_,none⟩) fr.length cf,.slice (some ⟨bl,ol,none⟩) sl.length csl,.slice (some ⟨bs,os,none⟩) sps.length cs⟩ k1)=>a68 h (hR.like l1) (page:=page) (f:=(z9 (KV.K ⟨sh,fr,sl,sps,hand,vsh,.slice (some ⟨bf,of_,none⟩) fr.length cf,.slice (some ⟨bl,ol,none⟩) sl.length csl,.slice (some ⟨bs,os,none⟩) sps.length cs⟩) held).2) (data:=s1.data) (dirty:=true) e1 rfl hg ha
    repeat' (first|(with_reducible apply a8 a7);rfl;rfl;rfl|refine yDn (by with_reducible constructor) ?_|(with_reducible apply m9);rfl;rfl;rfl;refine ⟨_,a5v hS hfo,?_⟩;rintro _ w2 ⟨rfl,k1,e1,l1,h2⟩;(replace hS:=St.transM hS h2);clear h2)
    repeat' (first|refine yDn (by with_reducible constructor) ?_|(with_reducible apply m9);rfl;rfl;rfl;refine ⟨_,hin _ _ _ hS e1 l1,?_⟩;rintro _ w3 ⟨rfl,k2,e2,l2,h2⟩;(replace hS:=St.transM hS h2);clear h2)
    exact r6 k2 (by exact Fr.sub_of rfl) ⟨by rw [hAe];exact e2,l1.trans l2⟩ (hS.sub (xm5 _ _))
   ·have hd2:decide (e.kind=2)=false:=xj2 hk;have hAe:A.1=KV.K ⟨sh,fr,sl,sps,hand,vsh,.slice (some ⟨bf,of_,none⟩) fr.length cf,.slice psl sl.length csl,.slice (some ⟨bs,os,none⟩) sps.length cs⟩:=by
     rw [hA];unfold a1M;rw [hxe,he];dsimp only;rw [xf1 hk]
    repeat' (first|(with_reducible apply a8 a7);rfl;rfl;rfl|refine yDn (by with_reducible constructor) ?_|((with_reducible apply f6);rfl;first|rfl|assumption)|(with_reducible apply a3J a7);rfl;rfl;rfl;refine ⟨_,(hentV _ _ hS.drop).cel hrowE rfl,?_⟩)
    exact r6 ⟨sh,fr,sl,sps,hand,vsh,.slice (some ⟨bf,of_,none⟩) fr.length cf,.slice psl sl.length csl,.slice (some ⟨bs,os,none⟩) sps.length cs⟩ (by exact Fr.sub_of rfl) ⟨hAe.symm,KLike.refl _⟩ (hS.drop.sub (xm5 _ _))
 clear hS;rintro k' w1 ⟨hk1,hk2⟩ hS;clear hspc hent hspV hfnd hfo
 -- the page is present
 have hR1:=hR.like hk2;have hr1:Right k'.K:=by rw [hk1];exact hbA.right
 have ha1:At k'.K sp page:=by rw [hk1];exact ha.same hbA.same.ar hbA.same.live
 obtain ⟨x1,hx1,hxl1,hxa1,hxe1,hxr1⟩:=a4h ha1;obtain ⟨hsc1,hel1⟩:=z7 hr1 x1.s (xd0 (a1F hx1));have hxm1:=xd0 hx1;rw [<- List.append_nil (wkS g0 k' sp vh held)] at hS;have hV1:=WkV.of hS hR1;have hxv1:=hV1.ker.spv x1 hxm1;obtain ⟨pt1,is1,hEV1,hcase1⟩:=a8v (page:=page) hsc1.rises hxv1.en;have he1:k8 x1.s.entries page=some ⟨page,1,(A.2:Nat)⟩:=by
  have:=hbA.ent;rw [<- hk1,hxe1] at this;exact this
 rcases hcase1 with ⟨-,-,h0⟩|⟨rfl,e,b1,off1,c1,i1,h0,hve1,hei1,rfl⟩
 ·rw [he1] at h0;cases h0
 rw [he1] at h0
 cases h0
 have hent1:=fun w1 Γ1 (h:St G w w1 (wkS g0 k' sp vh held++Γ1))=>a35 (WkV.of h hR1) hx1 page hsc1.rises (a6a hsc1 (by omega));rw [hEV1] at hent1;have hrowE1:=c9 (f:=enC) hei1;unfold enC at hrowE1;obtain ⟨f1,hf1⟩:∃ f1,f1=A.2:=⟨_,rfl⟩;rw [<- hf1] at hrowE1 hei1 he1 |-
 repeat' (first|(with_reducible apply a8 a7);rfl;rfl;rfl|refine yDn (by with_reducible constructor) ?_|(with_reducible apply d6 hS);rfl;rfl;rfl;refine ⟨_,hent1 _ _ hS,?_⟩;clear hS;intro w' hS)
 have hf1l:f1 < k'.fr.length:=by
  have h1:=(a2N hr1 (sp:=sp) (p:=page) (i:=f1) (by rw [hxe1];exact he1)).1;exact h1
 have hKe:∀ vh' held',wkS g0 k' sp vh' held'=wkS g0 k' sp vh' held':=fun _ _=>rfl;clear hent1 hV1 hxv1;rw [List.append_nil] at hS;obtain ⟨sh1,fr1,sl1,sps1,hand1,vsh1,vfr1,vsl1,vsp1⟩:=k';dsimp only at hx1 hxm1 hf1l;unfold wkS wkB hdA frA slA a08 at hS;dsimp only [List.cons_append,List.nil_append] at hS;obtain ⟨pf1,cf1,rfl⟩:=hS.rowSlice 2 rfl;simp only [xj1] at hS;obtain ⟨gf1,rfl⟩:=hS.rowSome 2 rfl (by omega);obtain ⟨fm1,hfm1⟩:=j3 (l:=fr1) (i:=f1) (by omega);have hrowF:=c9 (f:=fmC) hfm1;unfold fmC at hrowF;replace hS:=hS.pullE 5 hx1 rfl;simp only [xl4,xl5,v7] at hS;obtain ⟨s1,va1,ve1⟩:=x1;dsimp only at hve1 hei1 hrowE1 he1;subst hve1;unfold a0j at hS;dsimp only at hS;have hel1':=b9 hei1;have hoff:off1=0:=by
  rcases hS.rowForm 0 rfl with ⟨h1,-⟩|⟨q1,q2,h1,-⟩
  ·cases h1
  ·injection h1 with h1 _ _
   injection h1 with h1
   injection h1
 subst hoff;refine a1U 2 13 14 rfl hS (by kernel_rfl) ?_;intro w10 hS';clear hS;have hS:=hS';clear hS';simp only [xl4,xl5];have hH:=hS.sub (xm5 [_,_] _)
 ((with_reducible apply j9 (nn 0) a7);rfl;kernel_rfl;exact (fun _ _ _ h=>h);exact xd3 hH;rfl;rfl)
 ((with_reducible apply j9 (nn 1) a7);rfl;kernel_rfl;exact (fun _ _ _ h=>h);exact xd3 hH;rfl;rfl)
 ((with_reducible apply j9 (nn 2) a7);rfl;kernel_rfl;exact (fun _ _ _ h=>h);exact xd3 hH;rfl;rfl)
 ((with_reducible apply j9 (nn 3) a7);rfl;kernel_rfl;exact (fun _ _ _ h=>h);exact xd3 hH;rfl;rfl)
 ((with_reducible apply n6 (nn 4));rfl;kernel_rfl;kernel_rfl;rfl;exact (fun _ _ _ h=>h);exact hH;rfl;(intro w2 hw2;(replace hw2:St _ _ w2 _:=hw2;(apply Ld.sl a7;rfl;exact hw2.blkC 1 rfl rfl)));rfl)
 ((with_reducible apply j9 (nn 5) a7);rfl;kernel_rfl;exact (fun _ _ _ h=>h);exact xd3 hH;rfl;rfl)
 ((with_reducible apply j9 (nn 6) a7);rfl;kernel_rfl;exact (fun _ _ _ h=>h);exact xd3 hH;rfl;rfl)
 ((with_reducible apply j9 (nn 7) a7);rfl;kernel_rfl;exact (fun _ _ _ h=>h);exact xd3 hH;rfl;rfl)
 ((with_reducible apply n6 (nn 8));rfl;kernel_rfl;kernel_rfl;rfl;exact (fun _ _ _ h=>h);exact hH;rfl;(intro w2 hw2;(replace hw2:St _ _ w2 _:=hw2;(apply Ld.sc a7;rfl;exact hw2.rowCj 0 rfl (by assumption) rfl)));rfl)
 refine p9 (i:=9) (by kernel_rfl) ?_;refine m7 rfl (y0 hS a7 rfl rfl rfl rfl rfl rfl) rfl ?_;rintro _ w' ⟨gu,rfl,hS'⟩;clear hS;have hS:=hS';clear hS';have hH:=hS.drop.sub (xm5 [_,_] _);refine ⟨xd3 (xd3 hH),?_⟩;refine p9 (i:=10) (by kernel_rfl) ?_;refine m7 rfl (a0v hS a7 (i:=3) rfl rfl rfl rfl (hS.rowRo 0 rfl) rfl (by simp only [xj1,xb1,xa2];omega)) rfl ?_;rintro _ w' ⟨ph,ch,rfl,hS'⟩;simp only [List.set,xj1] at hS' |-;clear hS;have hS:=hS';clear hS';have hH:=hS.drop.sub (xm5 [_,_] _);refine ⟨xd3 (xd3 hH),?_⟩
 ((with_reducible apply j9 (nn 11) a7);rfl;kernel_rfl;exact (fun _ _ _ h=>h);exact xd3 hH;rfl;rfl)
 ((with_reducible apply j9 (nn 12) a7);rfl;kernel_rfl;exact (fun _ _ _ h=>h);exact xd3 hH;rfl;rfl)
 refine p9 (i:=13) (by kernel_rfl) ?_;refine a1a (Φ:=fun _ w'=>St _ _ w' _) rfl (l8 hS a7 (i:=2) rfl rfl rfl rfl rfl (xg3 rfl) (by intro u hu;simp [Value.cells] at hu;subst hu;rfl)) ?_;intro _ w' hS';simp only [List.set,p7] at hS';clear hS;have hS:=hS';clear hS';refine ⟨xd6 rfl,?_⟩;refine a1c (by kernel_rfl) ?_;replace hS:=hS.drop;change St _ _ _ (_::Asr.blk _ [_,_,_,_,_,_,_]::_) at hS
 repeat' (first|(with_reducible first|apply a2T|apply a2a))
 (focus ((with_reducible apply d8 _ _ _ (by kernel_rfl) (by kernel_rfl) hS);(repeat' ((first|(with_reducible apply i9 a7);rfl;rfl|(with_reducible apply i7);rfl;(intro wd hd;replace hd:St _ _ wd _:=hd;(first|apply Ld.sc a7;rfl;exact hd.rowCj 0 rfl (by assumption) rfl|apply Ld.sl a7;rfl;exact hd.blkC 1 rfl rfl));rfl|(with_reducible apply x7 a7);rfl;rfl;rfl;rfl;omega;rfl)));all_goals ((with_reducible apply j7);intro w' hS';clear hS;have hS:=hS';clear hS')))
 (with_reducible apply a3t)
 (with_reducible apply a2a)
 obtain ⟨B,hB⟩:∃ B,B=a3D A.1 sp page write held f1:=⟨_,rfl⟩;rw [<- hB];have hfold:∀ w1,St G w w1 (.row 91 3 (.slice (some ⟨b1,0,none⟩) s1.entries.length c1) (s1.entries.map enC)::.blk g0 [vsh1,.slice (some ⟨gf1,0,none⟩) fr1.length cf1,vsl1,vsp1,.int .i64 hand1,.int .i64 (sp:Nat),.slice ph (held.length + 1) ch]::.row 3 1 (.slice ph (held.length + 1) ch) ((held.map fun i=>[.int .i64 (i:Nat)])++[[.int .i64 (f1:Nat)]])::.row 89 4 (.slice (some ⟨gf1,0,none⟩) fr1.length cf1) (fr1.map fmC)::.row 143 2 vsl1 (sl1.map swC)::.row 75 3 vsp1 (sps1.map spC)::(sps1.eraseIdx sp).map a0j)->St G w w1 (wkS g0 ⟨sh1,fr1,sl1,sps1,hand1,vsh1,.slice (some ⟨gf1,0,none⟩) fr1.length cf1,vsl1,vsp1⟩ sp (.slice ph (held.length + 1) ch) (held++[f1])):=fun w1 h=>by
  have h2:=St.pushE (y:=⟨s1,va1,.slice (some ⟨b1,0,none⟩) s1.entries.length c1⟩) h 5 hx1 rfl;rw [a2u hx1] at h2;unfold wkS wkB hdA frA slA a08;rw [xl7];exact h2
 refine a1H (F:=G) (w0:=w) (X:=KV×Value) (fun _=>[(0,.pointer (some ⟨g0,0,none⟩)),(2,.bool write)]) (fun x=>wkS g0 x.1 sp x.2 (held++[B.2])) (fun x=>x.1.K=B.1/\KLike ⟨sh1,fr1,sl1,sps1,hand1,vsh1,.slice (some ⟨gf1,0,none⟩) fr1.length cf1,vsl1,vsp1⟩ x.1) ?_ ?_
 ·have hfmA:k9 A.1.frames f1=fm1:=by rw [<- hk1];exact o3 hfm1
  by_cases hwr:write=true/\1 < fm1.refs
  ·have hdr:decide (1 < fm1.refs)=true:=xj4 hwr.2;have hwt:=hwr.1;subst hwt;have hBe:B=(inK (z9 A.1 (held++[f1])).1 sp page (z9 A.1 (held++[f1])).2 fm1.data true,(z9 A.1 (held++[f1])).2):=by
    rw [hB];unfold a3D;rw [hfmA,xf0 ⟨rfl,hwr.2⟩]
   have hl2:(held++[f1]).length<=2:=by rw [xe9,xi8];omega
   have hg:=a31 hr1 (held:=held++[f1]) hl2;have hfo:=a3e hr1 (held:=held++[f1]) hl2;have hfrm:=fun w1 Γ1 (h:St G w w1 (wkS g0 ⟨sh1,fr1,sl1,sps1,hand1,vsh1,.slice (some ⟨gf1,0,none⟩) fr1.length cf1,vsl1,vsp1⟩ sp (.slice ph (held.length + 1) ch) (held++[f1])++Γ1))=>a5v h (by rw [xj1] at hfo;exact hfo);rw [xj1] at hR1 ha1 hg hk1;have hin:=fun w1 k2 Γ1 (h:St G w w1 (wkS g0 k2 sp (.slice ph (held.length + 1) ch) (held++[f1])++Γ1)) (e1:k2.K=(z9 (KV.K ⟨sh1,fr1,sl1,sps1,hand1,vsh1,.slice (some ⟨gf1,0,none⟩) fr1.length cf1,vsl1,vsp1⟩) (held++[f1])).1) (l1:KLike ⟨sh1,fr1,sl1,sps1,hand1,vsh1,.slice (some ⟨gf1,0,none⟩) fr1.length cf1,vsl1,vsp1⟩ k2)=>a68 h (hR1.like l1) (page:=page) (f:=(z9 (KV.K ⟨sh1,fr1,sl1,sps1,hand1,vsh1,.slice (some ⟨gf1,0,none⟩) fr1.length cf1,vsl1,vsp1⟩) (held++[f1])).2) (data:=fm1.data) (dirty:=true) e1 rfl hg ha1
   repeat' (first|(with_reducible apply a8 a7);rfl;rfl;rfl|(with_reducible apply a9);rfl;(apply Ld.sc a7;rfl;(first|exact hS.rowC0 3 rfl (by assumption) rfl|exact hS.rowCj 3 rfl (by assumption) rfl));rfl|refine yDn (by with_reducible constructor) ?_|(with_reducible apply j5);(iterate 4 rfl);rfl|(with_reducible apply e9);rfl;rfl;rfl;rfl|(with_reducible apply d9);rfl;assumption)
   replace hS:=hfold _ hS;rw [<- List.append_nil (wkS _ _ _ _ _)] at hS
   repeat' (first|(with_reducible apply a8 a7);rfl;rfl;rfl|refine yDn (by with_reducible constructor) ?_|(with_reducible apply m9);rfl;rfl;rfl;refine ⟨_,hfrm _ _ hS,?_⟩;rintro _ w2 ⟨rfl,k2,e2,l2,h2⟩;(replace hS:=St.transM hS h2);clear h2)
   repeat' (first|refine yDn (by with_reducible constructor) ?_|(with_reducible apply m9);rfl;rfl;rfl;refine ⟨_,hin _ _ _ hS e2 l2,?_⟩;rintro _ w3 ⟨rfl,k3,e3,l3,h2⟩;(replace hS:=St.transM hS h2);clear h2)
   rw [List.append_nil] at hS;unfold wkS wkB hdA at hS;obtain ⟨gh,rfl⟩:=hS.rowSome 1 rfl (by omega);have hlen1:((held.length:Nat):Int)=((held.length + 1:Nat):Int) - 1:=by omega
   have hrowH:((held++[f1]).map fun i=>[Value.int .i64 (i:Nat)])[held.length]?=some [.int .i64 (f1:Nat)]:=c9 (f:=fun i:Nat=>[Value.int .i64 (i:Nat)]) (by rw [xa5 (xd4 _),xf8];rfl);have hsetH:∀ n:Nat,((held++[f1]).map fun i=>[Value.int .i64 (i:Nat)]).set held.length (p7 [.int .i64 (f1:Nat)] 0 [.int .i64 (n:Nat)])=(held++[n]).map fun i=>[Value.int .i64 (i:Nat)]:=fun n=>by
    rw [xl7,xf6 _ _ (by rw [xj1];omega),xj1,xf8,xl7];rfl
   (focus ((with_reducible apply a0b _ _ _ 12 (by kernel_rfl) (by kernel_rfl) hS);(simp only [xl4,xl5,xl8,xl9]);(repeat' ((first|(with_reducible apply a1A);rfl;rfl;omega;omega;rfl|(with_reducible apply i9 a7);rfl;rfl|(with_reducible apply i7);rfl;(intro wd hd;replace hd:St _ _ wd _:=hd;(apply Ld.sl a7;rfl;exact hd.blkC 0 rfl rfl));rfl|(with_reducible apply x7 a7);rfl;rfl;rfl;assumption;omega;rfl)));all_goals ((with_reducible apply j7);intro w' hS';clear hS;have hS:=hS';clear hS')))
   repeat' (first|refine yDn (by with_reducible constructor) ?_|(with_reducible apply q7 hS a7 (i:=1));(iterate 4 rfl);assumption;(iterate 5 rfl);intro w' hS';simp only [List.set] at hS';clear hS;have hS:=hS';clear hS')
   rw [hsetH] at hS;rw [hBe,<- hk1];exact r6 (k3,.slice (some ⟨gh,0,none⟩) (held.length + 1) ch) (by exact Fr.sub_of rfl) ⟨e3,l2.trans l3⟩ hS
  ·have hBe:B=(A.1,f1):=by
    rw [hB];unfold a3D;rw [hfmA,xf1 hwr]
   rw [hBe]
   cases write with
   |true=>
    have hdr:decide (1 < fm1.refs)=false:=xj2 (fun h=>hwr ⟨rfl,h⟩)
    repeat' (first|(with_reducible apply a8 a7);rfl;rfl;rfl|(with_reducible apply a9);rfl;(apply Ld.sc a7;rfl;exact hS.rowCj 3 rfl (by assumption) rfl);rfl|refine yDn (by with_reducible constructor) ?_|(with_reducible apply j5);(iterate 4 rfl);rfl|(with_reducible apply e9);rfl;rfl;rfl;rfl|(with_reducible apply f6);rfl;assumption)
    exact r6 (⟨sh1,fr1,sl1,sps1,hand1,vsh1,.slice (some ⟨gf1,0,none⟩) fr1.length cf1,vsl1,vsp1⟩,.slice ph (held.length + 1) ch) (by exact Fr.sub_of rfl) ⟨by rw [<- hk1,xj1],KLike.refl _⟩ (hfold _ hS)
   |false=>
    repeat' (first|(with_reducible apply a8 a7);rfl;rfl;rfl|refine yDn (by with_reducible constructor) ?_|(with_reducible apply s9);(iterate 4 rfl);rfl;rfl|(with_reducible apply f5);rfl;rfl;rfl;rfl|(with_reducible apply f6);rfl;rfl)
    exact r6 (⟨sh1,fr1,sl1,sps1,hand1,vsh1,.slice (some ⟨gf1,0,none⟩) fr1.length cf1,vsl1,vsp1⟩,.slice ph (held.length + 1) ch) (by exact Fr.sub_of rfl) ⟨by rw [<- hk1,xj1],KLike.refl _⟩ (hfold _ hS)
 clear hS hfold;rintro ⟨k2,v2⟩ w2 ⟨hq1,hq2⟩ hS;dsimp only at hq1 hq2 hS;have hAB:=(a4k hr ha write hl hh).1;unfold a1h at hAB;rw [<- hA,<- hf1,<- hB] at hAB;obtain ⟨sh2,fr2,sl2,sps2,hand2,vsh2,vfr2,vsl2,vsp2⟩:=k2;have hn2:=(a2N hAB.right hAB.ent).1;rw [<- hq1] at hn2;replace hn2:B.2 < fr2.length:=hn2;unfold wkS wkB hdA frA slA a08 at hS;dsimp only [List.cons_append,List.nil_append] at hS;obtain ⟨pf2,cf2,rfl⟩:=hS.rowSlice 2 rfl;simp only [xj1] at hS;obtain ⟨gf2,rfl⟩:=hS.rowSome 2 rfl (by omega);obtain ⟨fm2,hfm2⟩:=j3 (l:=fr2) (i:=B.2) (by omega);have hrowF2:=c9 (f:=fmC) hfm2;unfold fmC at hrowF2;obtain ⟨pg,cg,rfl⟩:=hS.rowSlice 1 rfl;simp only [xj1,xe9,xb1,xa2,xa9] at hS;obtain ⟨gh2,rfl⟩:=hS.rowSome 1 rfl (by omega);have hlen2:((held.length:Nat):Int)=((held.length + 1:Nat):Int) - 1:=by omega
 have hrowH2:((held++[B.2]).map fun i=>[Value.int .i64 (i:Nat)])[held.length]?=some [.int .i64 (B.2:Nat)]:=c9 (f:=fun i:Nat=>[Value.int .i64 (i:Nat)]) (by rw [xa5 (xd4 _),xf8];rfl);have hs1:(fr2.map fmC).set B.2 (p7 [.string ⟨fm2.data.toArray⟩,.int .i64 fm2.refs,.bool fm2.dirty,.bool fm2.seen] 3 [.bool true])=(fr2.set B.2 ⟨fm2.data,fm2.refs,fm2.dirty,true⟩).map fmC:=by rw [xl3];rfl
 have hrowF3:((fr2.set B.2 ⟨fm2.data,fm2.refs,fm2.dirty,true⟩).map fmC)[B.2]?=some [.string ⟨fm2.data.toArray⟩,.int .i64 fm2.refs,.bool fm2.dirty,.bool true]:=c9 (f:=fmC) (a2K (x:=(⟨fm2.data,fm2.refs,fm2.dirty,true⟩:Fm)) hn2);have hfin:∀ dt,dt=(fm2.dirty||write)->(⟨sh2,fr2.set B.2 ⟨fm2.data,fm2.refs,dt,true⟩,sl2,sps2,hand2,vsh2,.slice (some ⟨gf2,0,none⟩) fr2.length cf2,vsl2,vsp2⟩:KV).K=a1G B.1 B.2 write:=fun dt hdt=>by
  rw [<- hq1,hdt];unfold a1G a0f KV.K;dsimp only;rw [o3 hfm2]
 have hs2:∀ dt,((fr2.set B.2 ⟨fm2.data,fm2.refs,fm2.dirty,true⟩).map fmC).set B.2 (p7 [.string ⟨fm2.data.toArray⟩,.int .i64 fm2.refs,.bool fm2.dirty,.bool true] 2 [.bool dt])=(fr2.set B.2 ⟨fm2.data,fm2.refs,dt,true⟩).map fmC:=fun dt=>by
  rw [xl3,xl3,xm8];rfl
 have hlike:∀ fr',KLike ⟨sh,fr,sl,sps,hand,vsh,.slice (some ⟨bf,of_,none⟩) fr.length cf,.slice psl sl.length csl,.slice (some ⟨bs,os,none⟩) sps.length cs⟩ ⟨sh2,fr',sl2,sps2,hand2,vsh2,.slice (some ⟨gf2,0,none⟩) fr2.length cf2,vsl2,vsp2⟩:=fun fr'=>⟨hq2.sh.trans hk2.sh,hq2.vsh.trans hk2.vsh,hq2.ar.trans hk2.ar⟩
 repeat' ((with_reducible apply a2T))
 (focus ((with_reducible apply d8 _ _ _ (by kernel_rfl) (by kernel_rfl) hS);(repeat' ((first|(with_reducible apply a1A);rfl;rfl;omega;omega;rfl|(with_reducible apply i9 a7);rfl;rfl|(with_reducible apply i7);rfl;(intro wd hd;replace hd:St _ _ wd _:=hd;(first|apply Ld.sc a7;rfl;exact hd.rowC0 1 rfl (by assumption) rfl|apply Ld.sl a7;rfl;exact hd.blkC 0 rfl rfl));rfl|(with_reducible apply x7 a7);rfl;rfl;rfl;(first|rfl|assumption);omega;rfl)));all_goals ((with_reducible apply j7);intro w' hS';clear hS;have hS:=hS';clear hS')))
 repeat' (first|(with_reducible apply a8 a7);rfl;rfl;rfl|refine yDn (by with_reducible constructor) ?_|(with_reducible apply t9 hS a7 (i:=2));(iterate 4 rfl);assumption;(iterate 5 rfl);intro w' hS';simp only [List.set] at hS';clear hS;have hS:=hS';clear hS')
 rw [hs1] at hS
 cases hdt:fm2.dirty with
 |true=>
  rw [hdt] at hrowF3 hS hs2 hfin
  repeat' (first|(with_reducible apply a8 a7);rfl;rfl;rfl|(with_reducible apply a9);rfl;(apply Ld.sc a7;rfl;exact hS.rowCj 2 rfl (by assumption) rfl);rfl|refine yDn (by with_reducible constructor) ?_|(with_reducible apply s9);(iterate 4 rfl);rfl;rfl|(with_reducible apply e9);rfl;rfl;rfl;rfl|(with_reducible apply t9 hS a7 (i:=2));(iterate 4 rfl);assumption;(iterate 5 rfl);intro w' hS';simp only [List.set] at hS';clear hS;have hS:=hS';clear hS')
  (refine a56 rfl ?_)
  rw [hs2] at hS;refine ⟨rfl,⟨sh2,fr2.set B.2 ⟨fm2.data,fm2.refs,true,true⟩,sl2,sps2,hand2,vsh2,.slice (some ⟨gf2,0,none⟩) fr2.length cf2,vsl2,vsp2⟩,_,hfin _ rfl,hlike _,hS⟩
 |false=>
  rw [hdt] at hrowF3 hS hs2 hfin
  repeat' (first|(with_reducible apply a8 a7);rfl;rfl;rfl|(with_reducible apply a9);rfl;(apply Ld.sc a7;rfl;exact hS.rowCj 2 rfl (by assumption) rfl);rfl|refine yDn (by with_reducible constructor) ?_|(with_reducible apply j5);(iterate 4 rfl);rfl|(with_reducible apply f5);rfl;rfl;rfl;rfl|(with_reducible apply t9 hS a7 (i:=2));(iterate 4 rfl);assumption;(iterate 5 rfl);intro w' hS';simp only [List.set] at hS';clear hS;have hS:=hS';clear hS')
  (refine a56 rfl ?_)
  rw [hs2] at hS;refine ⟨rfl,⟨sh2,fr2.set B.2 ⟨fm2.data,fm2.refs,write,true⟩,sl2,sps2,hand2,vsh2,.slice (some ⟨gf2,0,none⟩) fr2.length cf2,vsl2,vsp2⟩,_,hfin _ (by simp),hlike _,hS⟩
def a0U (k:KV):List Asr:=.row 94 3 k.vsh (a3j k.sh)::(k.sh.map fxA++k.sp.map a7u)
theorem a1L {k k':KV} (h:KLike k k'):a0U k'=a0U k:=by
 unfold a0U;rw [h.sh,h.vsh];have:k'.sp.map a7u=k.sp.map a7u:=by
  have e:∀ l:List Sp,l.map a7u=(l.map fun p=>(p.va,p.s.areas)).map fun x=>Asr.row 81 4 x.1 (x.2.map arC):=fun l=>by rw [xn8];rfl
  rw [e,e,h.ar]
 rw [this]
theorem KRo.own {F:Nat->Prop} {w0 w:World} {g:Nat} {k:KV} {sp:Nat} {vh:Value} {held:List Nat} {Γ:List Asr} (hS:St F w0 w (wkS g k sp vh held++(a0U k++Γ))):KRo (fps (wkS g k sp vh held)) w k:=by
 have hmem:∀ {e sz:Nat} {v:Value} {rows:List (List Value)},Asr.row e sz v rows ∈ a0U k->Sl (fps (wkS g k sp vh held)) w sz v rows:=fun h=>by
  obtain ⟨j,hj⟩:=xd9.1 (xe5 Γ h);exact hS.ownSl j hj
 refine ⟨⟨hmem xc5,fun p hp=>?_⟩,fun p hp=>?_⟩
 ·exact hmem (e:=96) (xc6 _ (xe5 _ (xm7.2 ⟨p,hp,rfl⟩)))
 ·exact hmem (e:=81) (xc6 _ (xe6 _ (xm7.2 ⟨p,hp,rfl⟩)))
theorem b3c (l:List Sp):(spA l).Perm (l.map a7u++l.map a0j):=by
 induction l with
 |nil=>exact List.Perm.refl _
 |cons p l ih=>
  show (a7u p::a0j p::spA l).Perm (a7u p::(l.map a7u++a0j p::l.map a0j));exact ((ih.cons _).trans List.perm_middle.symm).cons _
theorem b07 (k:KV):(kA k).Perm (frA k::slA k::a08 k::(k.sp.map a0j++a0U k)):=by
 unfold kA a0U;refine (List.Perm.swap _ _ _).trans (List.Perm.cons _ ?_);refine (List.Perm.swap _ _ _).trans (List.Perm.cons _ ?_);refine (List.Perm.swap _ _ _).trans (List.Perm.cons _ ?_);refine List.Perm.trans (List.Perm.cons _ ?_) List.perm_middle.symm;refine ((b3c k.sp).append_left _).trans ?_;rw [<- xg2];exact xm6
theorem b5J {k:KV} (h:Right k.K):KBd k:=by
 have hc:=h.cnt;have h1:k.K.frames.length=k.fr.length:=rfl;have h2:k.K.slots.length=k.sl.length:=rfl;have h3:k.K.spaces.length=k.sp.length:=xj1 _;have h4:k.K.sheets.length=k.sh.length:=xj1 _;refine ⟨by omega,by omega,by omega,by omega,fun x hx=>?_,fun p hp=>?_,fun p hp=>?_⟩
 ·have:=a7k ((a2Z h.rise).1 x.1 (xm7.2 ⟨x,hx,rfl⟩)).1;omega
 ·have:=(z7 h p.s (xm7.2 ⟨p,hp,rfl⟩)).1.ar;have:=(t6.1 this).1;omega
 ·have:=(z7 h p.s (xm7.2 ⟨p,hp,rfl⟩)).2;omega
theorem b2R {w:World} {k:KV} (hK:KerV w k) (space:Int):Fn Tryz.prog 80 [.agg (kvC k).toArray,.int .i64 space] w (fun v w'=>(a0Q k.K space≠0/\v=.tuple #[.pointer none,.int .i64 (a0Q k.K space)]/\St nF w w' [])\/∃ (g sp:Nat) (k':KV),a0Q k.K space=0/\space=(sp:Nat)/\v=.tuple #[.pointer (some ⟨g,0,none⟩),.int .i64 0]/\k'.K=k.K/\St nF w w' (wkS g k' sp (.slice none 0 0) []++a0U k')):=by
 have hchk:=fun w1 (h:KerV w1 k)=>a9I h;by_cases hc0:a02 k.K=0;rotate_left
 ·have hE:a0Q k.K space=a02 k.K:=by unfold a0Q;rw [xf1 hc0]
  rw [hE];have hd:decide (a02 k.K=0)=false:=xj2 hc0;generalize a02 k.K=c at hchk hc0 hE hd |-;obtain ⟨sh,fr,sl,sps,hand,vsh,vfr,vsl,vsp⟩:=k;have hK0:=hK;obtain ⟨k1,k2,k3,k4,k5⟩:=hK;dsimp only at k1 k2 k3 k4 k5;obtain ⟨p1,c1,rfl⟩:=k1.sl.len;obtain ⟨p2,c2,rfl⟩:=k2.len;obtain ⟨p3,c3,rfl⟩:=k3.len;obtain ⟨p4,c4,rfl⟩:=k4.len;unfold kvC at hchk |-;dsimp only at hchk |-;refine yEn Tryz.func80 Tryz.ntmps80 (by kernel_rfl) (by kernel_rfl) rfl rfl ?_;have hS:=St.start w
  repeat' (first|(with_reducible apply a8 a7);rfl;rfl;rfl|(with_reducible apply a9);rfl;(apply Ld.st a7;rfl;exact hS.blkR 0 rfl;rfl);rfl|refine yDn (by with_reducible constructor) ?_|(with_reducible apply l6 hS);rfl;rfl;rfl;clear hS;intro g w' hS|(with_reducible apply a1r);rfl;all_goals (intro hb hp;try (exfalso;omega))|(with_reducible apply d6 hS);rfl;rfl;rfl;refine ⟨_,hchk _ (hK0.now hS),?_⟩;clear hS;intro w' hS)
  (refine a4M rfl ?_)
  exact xd6 ⟨hc0,rfl,hS.sub (xj3 _)⟩
 have hr:=a3X.1 hc0;have hown:=fun w1 (h:KerV w1 k)=>b6z h (b5J hr);rw [hc0] at hchk;have h4:=hr.cnt.2.2.2.2.1;have hlE:a0Q k.K space=if 0<=space/\space < (k.K.spaces.length:Int)/\(a0C k.K space.toNat).live=true then 0 else 6:=by unfold a0Q;rw [xf0 hc0]
 have hK0:=hK;have hKl:k.K.spaces.length=k.sp.length:=xj1 _;have hsc:∀ (i:Nat) x,k.sp[i]?=some x->a0C k.K i=x.s:=fun i x hx=>a01 (a1F hx);rw [hKl] at hlE h4;obtain ⟨lE,hlEq⟩:∃ e,e=a0Q k.K space:=⟨_,rfl⟩;rw [<- hlEq] at hlE |-;obtain ⟨sh,fr,sl,sps,hand,vsh,vfr,vsl,vsp⟩:=k;obtain ⟨k1,k2,k3,k4,k5⟩:=hK;dsimp only at k1 k2 k3 k4 k5 hlE h4 hsc;obtain ⟨p1,c1,rfl⟩:=k1.sl.len;obtain ⟨p2,c2,rfl⟩:=k2.len;obtain ⟨p3,c3,rfl⟩:=k3.len;obtain ⟨p4,c4,rfl⟩:=k4.len;unfold kvC at hchk hown |-;dsimp only at hchk hown |-;by_cases hin:0<=space/\space < (sps.length:Int);rotate_left
 ·rw [xf1 (fun h=>hin ⟨h.1,h.2.1⟩)] at hlE;subst hlE;refine yEn Tryz.func80 Tryz.ntmps80 (by kernel_rfl) (by kernel_rfl) rfl rfl ?_;have hS:=St.start w
  repeat' (first|(with_reducible apply a8 a7);rfl;rfl;rfl|(with_reducible apply a9);rfl;(first|apply Ld.sl a7;rfl;exact hS.blkC 0 rfl rfl|apply Ld.st a7;rfl;exact hS.blkR 0 rfl;rfl);rfl|refine yDn (by with_reducible constructor) ?_|(with_reducible apply j5);(iterate 4 rfl);assumption|(with_reducible apply s9);(iterate 4 rfl);(first|rfl|assumption);rfl|(with_reducible apply e9);rfl;(first|rfl|assumption);rfl;rfl|(with_reducible apply f5);rfl;assumption;rfl;rfl|(with_reducible apply d9);rfl;rfl|(with_reducible apply f6);rfl;rfl|(with_reducible apply l6 hS);rfl;rfl;rfl;clear hS;intro g w' hS|(with_reducible apply r9);rfl;rfl;rfl;all_goals (intro hb hp;try (exfalso;omega))|(with_reducible apply d6 hS);rfl;rfl;rfl;refine ⟨_,hchk _ (hK0.now hS),?_⟩;clear hS;intro w' hS)
  all_goals (apply a8O)
  all_goals (repeat (first|exact ResL.nil|apply ResL.tmp;rfl))
  all_goals (exact xd6 ⟨by omega,rfl,hS.sub (xj3 _)⟩)
 obtain ⟨i,rfl⟩:∃ i:Nat,space=(i:Nat):=⟨space.toNat,by omega⟩;obtain ⟨x,hx⟩:=j3 (l:=sps) (i:=i) (by omega);have hxs:=hsc i x hx;have hrow:=c9 (f:=spC) hx;obtain ⟨b,off,rfl,hro⟩:=k4.at_ (i:=i) (by omega);unfold spC at hrow;rw [show (((i:Nat):Int)).toNat=i from rfl,hxs] at hlE
 cases hlv:x.s.live with
 |false=>
  rw [xf1 (fun h=>by rw [hlv] at h;cases h.2.2)] at hlE;subst hlE;rw [hlv] at hrow;refine yEn Tryz.func80 Tryz.ntmps80 (by kernel_rfl) (by kernel_rfl) rfl rfl ?_;have hS:=St.start w
  repeat' (first|(with_reducible apply a8 a7);rfl;rfl;rfl|(with_reducible apply a9);rfl;(first|apply Ld.sc a7;rfl;exact hS.roC0 (by assumption) (by assumption) rfl|apply Ld.sl a7;rfl;exact hS.blkC 0 rfl rfl|apply Ld.st a7;rfl;exact hS.blkR 0 rfl;rfl);rfl|(with_reducible apply l9 a7);rfl;rfl;rfl;rfl;omega;rfl|refine yDn (by with_reducible constructor) ?_|((with_reducible apply j5);(iterate 4 rfl);first|rfl|assumption)|(with_reducible apply f5);rfl;(first|rfl|assumption);rfl;rfl|(with_reducible apply d9);rfl;rfl|(with_reducible apply f6);rfl;rfl|(with_reducible apply l6 hS);rfl;rfl;rfl;clear hS;intro g w' hS|(with_reducible apply r9);rfl;rfl;rfl;all_goals (intro hb hp;try (exfalso;omega))|(with_reducible apply d6 hS);rfl;rfl;rfl;refine ⟨_,hchk _ (hK0.now hS),?_⟩;clear hS;intro w' hS)
  (refine a4M rfl ?_)
  exact xd6 ⟨by omega,rfl,hS.sub (xj3 _)⟩
 |true=>
  rw [xf0 ⟨hin.1,hin.2,hlv⟩] at hlE;subst hlE;rw [hlv] at hrow;refine yEn Tryz.func80 Tryz.ntmps80 (by kernel_rfl) (by kernel_rfl) rfl rfl ?_;have hS:=St.start w
  repeat' (first|(with_reducible apply a8 a7);rfl;rfl;rfl|(with_reducible apply a9);rfl;(first|apply Ld.sc a7;rfl;exact hS.roC0 (by assumption) (by assumption) rfl|apply Ld.sl a7;rfl;exact hS.blkC 0 rfl rfl|apply Ld.st a7;rfl;exact hS.blkR 0 rfl;rfl);rfl|(with_reducible apply l9 a7);rfl;rfl;rfl;rfl;omega;rfl|(with_reducible apply l4 a7);rfl;rfl;exact (rfl:_=some [_,_,_,_,_,_,_]);rfl|refine yDn (by with_reducible constructor) ?_|((with_reducible apply j5);(iterate 4 rfl);first|rfl|assumption)|(with_reducible apply f5);rfl;(first|rfl|assumption);rfl;rfl|(with_reducible apply f6);rfl;rfl|(with_reducible apply l6 hS);rfl;rfl;rfl;clear hS;intro g w' hS|(with_reducible apply r9);rfl;rfl;rfl;all_goals (intro hb hp;try (exfalso;omega))|(with_reducible apply d6 hS);rfl;rfl;rfl;refine ⟨_,hchk _ (hK0.now hS),?_⟩;clear hS;intro w' hS|(with_reducible apply m9);rfl;rfl;rfl;refine ⟨_,hown _ (hK0.now hS),?_⟩;rintro _ w' ⟨k',rfl,hk',hS'⟩;(replace hS:=hS.trans hS');clear hS')
  (refine a4M rfl ?_)
  refine xd3 ⟨_,i,k',rfl,rfl,rfl,hk',?_⟩;replace hS:St nF w w' (.blk _ (wkB k' i (.slice none 0 0))::(kA k'++[_])):=hS;have h1:St nF w w' (.blk _ (wkB k' i (.slice none 0 0))::kA k'):=hS.sub (List.Sublist.cons_cons _ (xm5 _ _));have h2:=(h1.perm ((b07 k').cons _)).addNil 3 1;exact h2.perm (List.Perm.swap _ _ _)
end Go.Proofs.YtejnpppejalhfabGreat
