/- Texts that the proof stands on, one behind the other: Ke15, Ke16, Ke17, Ke18, Ke19. -/
import Derived.Test.YtejnpppejalhfabGreatPRestKernels10
set_option linter.unusedVariables false
set_option linter.unusedSimpArgs false
namespace Go.Proofs.YtejnpppejalhfabGreat
set_option maxRecDepth 100000
set_option maxHeartbeats 8000000
open Go.RowKit Go.Sort
def fxA (x:Sh×Value):Asr:=.row 96 2 x.2 (x.1.fixes.map fxC)
def a35 (p:Sp):Asr:=.row 81 4 p.va (p.s.areas.map arC)
def a0c (p:Sp):Asr:=.row 91 3 p.ve (p.s.entries.map enC)
def spA (l:List Sp):List Asr:=l.flatMap fun p=>[a35 p,a0c p]
theorem a4W (l:List Sp) (p:Sp):spA (l++[p])=spA l++[a35 p,a0c p]:=by unfold spA;rw [List.flatMap_append,xl9,xm0,List.append_nil]
def a1E (N:List (Sh×Value)):List (List Value):=N.map fun p=>shC p.1 p.2
def kA (k:KV):List Asr:=.row 94 3 k.vsh (a1E k.sh)::.row 89 4 k.vfr (k.fr.map fmC)::.row 143 2 k.vsl (k.sl.map swC)::.row 75 3 k.vsp (k.sp.map spC)::(k.sh.map fxA++spA k.sp)
structure KBd (k:KV):Prop where
 fr:k.fr.length<=1000
 sl:k.sl.length<=1000
 sh:k.sh.length<=1000
 sp:k.sp.length<=1000
 fx:∀ x ∈ k.sh,x.1.fixes.length<=1000
 ar:∀ p ∈ k.sp,p.s.areas.length<=1000
 en:∀ p ∈ k.sp,p.s.entries.length<=1000
theorem b4t {w:World} {k:KV} (hK:KerV w k) (hB:KBd k):Fn Tryz.prog 54 [.agg (kvC k).toArray] w (fun v w'=>∃ k':KV,v=.agg (kvC k').toArray/\k'.K=k.K/\St nF w w' (kA k')):=by
 obtain ⟨sh,fr,sl,sp,hand,vsh,vfr,vsl,vsp⟩:=k;obtain ⟨k1,k2,k3,k4,k5⟩:=hK;obtain ⟨b1,b2,b3,b4,b5,b6,b7⟩:=hB;dsimp only at k1 k2 k3 k4 k5 b1 b2 b3 b4 b5 b6 b7 |-;obtain ⟨p1,c1,rfl⟩:=k1.sl.len;obtain ⟨p2,c2,rfl⟩:=k2.len;obtain ⟨p3,c3,rfl⟩:=k3.len;obtain ⟨p4,c4,rfl⟩:=k4.len;unfold kvC;dsimp only;refine yEn Tryz.func54 Tryz.ntmps54 (by kernel_rfl) (by kernel_rfl) rfl rfl ?_;have hS:=St.start w
 repeat' (first|refine yDn (by with_reducible constructor) ?_|(with_reducible apply l8 hS);rfl;rfl;rfl;clear hS;intro g w' hS|(with_reducible apply d8 hS a7);rfl;rfl;rfl;clear hS;intro g w' hS)
 rename Nat=>g2
 obtain ⟨g1,hg2⟩:∃ q,q=g:=⟨_,rfl⟩;rw [<- hg2] at hS |-;clear hg2 g;replace hS:St nF w w' (.blk g2 [.slice none 0 0,.slice none 0 0,.slice none 0 0,.slice none 0 0,.int .i64 0]::.blk g1 [.slice p1 sh.length c1,.slice p2 fr.length c2,.slice p3 sl.length c3,.slice p4 sp.length c4,.int .i64 hand]::[]):=hS;refine a07 (F:=nF) (w0:=w) (X:=Nat×Option Addr×Nat×Option Addr×Nat) (fun x=>[(1,.pointer (some ⟨g1,0,none⟩)),(2,.pointer (some ⟨g2,0,none⟩)),(3,.pointer (some ⟨x.1,0,none⟩))]) (fun x=>[.blk x.1 [.slice none 0 0,.slice x.2.1 fr.length x.2.2.1,.slice x.2.2.2.1 sl.length x.2.2.2.2,.slice none 0 0,.int .i64 hand],.row 89 4 (.slice x.2.1 fr.length x.2.2.1) (fr.map fmC),.row 143 2 (.slice x.2.2.2.1 sl.length x.2.2.2.2) (sl.map swC),.blk g2 [.slice none 0 0,.slice none 0 0,.slice none 0 0,.slice none 0 0,.int .i64 0],.blk g1 [.slice p1 sh.length c1,.slice p2 fr.length c2,.slice p3 sl.length c3,.slice p4 sp.length c4,.int .i64 hand]]) (fun _=>True) ?_ ?_
 ·refine a8A 11 rfl hS (by kernel_rfl) ?_;intro wh hh;clear hS;have hS:=hh;clear hh
  ((with_reducible apply m8 (nn 0) a7);rfl;kernel_rfl;exact (fun _ _ _ h=>h);exact (hS.sub (by repeat ((exact xl8 _))));rfl;rfl)
  ((with_reducible apply z7 (nn 1));rfl;kernel_rfl;exact (fun _ _ _ h=>h);exact (hS.sub (by repeat ((exact xl8 _))));rfl;(intro wd hd;replace hd:St _ _ wd _:=hd;(apply Ld.sc a7;rfl;exact hd.blkC 1 rfl rfl));rfl)
  ((with_reducible apply m8 (nn 2) a7);rfl;kernel_rfl;exact (fun _ _ _ h=>h);exact (hS.sub (by repeat ((exact xl8 _))));rfl;rfl)
  ((with_reducible apply z7 (nn 3));rfl;kernel_rfl;exact (fun _ _ _ h=>h);exact (hS.sub (by repeat ((exact xl8 _))));rfl;(intro wd hd;replace hd:St _ _ wd _:=hd;(apply Ld.sl a7;rfl;exact hd.blkC 1 rfl rfl));rfl)
  ((with_reducible apply m8 (nn 5) a7);rfl;kernel_rfl;exact (fun _ _ _ h=>h);exact (hS.sub (by repeat ((exact xl8 _))));rfl;rfl)
  ((with_reducible apply z7 (nn 6));rfl;kernel_rfl;exact (fun _ _ _ h=>h);exact (hS.sub (by repeat ((exact xl8 _))));rfl;(intro wd hd;replace hd:St _ _ wd _:=hd;(apply Ld.sl a7;rfl;exact hd.blkC 1 rfl rfl));rfl)
  refine a2x (i:=4) (j:=9) (by kernel_rfl) ?_ ?_
  ·refine j5 rfl (s9 (first:=[]) (caps:=[]) rfl rfl (a6D (k2.now hS) (by omega))) rfl ?_;rintro _ w' ⟨qF,cF,rfl,hS'⟩;replace hS:=hS.transA hS';simp only [v6] at hS;clear hS';refine ⟨(hS.sub (by repeat (first|exact xl8 _|apply xm1))),?_⟩;refine a2x (i:=7) (j:=9) (by kernel_rfl) ?_ ?_
   ·refine j5 rfl (s9 (first:=[]) (caps:=[]) rfl rfl (a4A (k3.now hS) (by omega))) rfl ?_;rintro _ w' ⟨qS,cS,rfl,hS'⟩;replace hS:=hS.transA hS';simp only [v6] at hS;clear hS';refine ⟨(hS.sub (by repeat (first|exact xl8 _|apply xm1))),?_⟩
    ((with_reducible apply y6 (nn 8) a7);rfl;kernel_rfl;kernel_rfl;kernel_rfl;exact (fun _ _ _ _ h=>h);exact (hS.sub (by repeat (first|exact xl8 _|apply xm1)));rfl;rfl;exact (rfl:_=some [_,_,_,_,_]);rfl)
    refine l4 (i:=9) (by kernel_rfl) ?_;refine j5 rfl (v9 hS a7 rfl rfl) rfl ?_;rintro _ w' ⟨g3,rfl,hS'⟩;clear hS;have hS:=hS';clear hS';refine ⟨(hS.sub (by repeat (first|exact xl8 _|apply xm1))),?_⟩;refine l4 (i:=10) (by kernel_rfl) ?_;refine p8 (Φ:=fun _ w'=>St _ _ w' _) rfl (m7 hS a7 (i:=0) rfl rfl rfl rfl rfl (xg1 rfl) (xc7.1 rfl)) ?_;intro _ w' hS';simp only [List.set] at hS';clear hS;have hS:=hS';clear hS';refine ⟨(hS.sub (by repeat (first|exact xl8 _|apply xm1))),?_⟩;refine v8 (by kernel_rfl) ?_;replace hS:=St.reorder [0,2,1,3,4] hS (by decide) rfl;exact n5 (g3,qF,cF,qS,cS) (by exact Fr.sub_of rfl) trivial hS
   ·refine j5 rfl (v9 hS a7 rfl rfl) rfl ?_;rintro _ w' ⟨g3,rfl,hS'⟩;clear hS;have hS:=hS';clear hS';refine ⟨(hS.sub (by repeat (first|exact xl8 _|apply xm1))),?_⟩;refine l4 (i:=7) (by kernel_rfl) ?_;refine j5 rfl (s9 (first:=[]) (caps:=[]) rfl rfl (a4A (k3.now hS) (by omega))) rfl ?_;rintro _ w' ⟨qS,cS,rfl,hS'⟩;replace hS:=hS.transA hS';simp only [v6] at hS;clear hS';refine ⟨(hS.sub (by repeat (first|exact xl8 _|apply xm1))),?_⟩
    ((with_reducible apply y6 (nn 8) a7);rfl;kernel_rfl;kernel_rfl;kernel_rfl;exact (fun _ _ _ _ h=>h);exact (hS.sub (by repeat (first|exact xl8 _|apply xm1)));rfl;rfl;exact (rfl:_=some [_,_,_,_,_]);rfl)
    refine l4 (i:=10) (by kernel_rfl) ?_;refine p8 (Φ:=fun _ w'=>St _ _ w' _) rfl (m7 hS a7 (i:=1) rfl rfl rfl rfl rfl (xg1 rfl) (xc7.1 rfl)) ?_;intro _ w' hS';simp only [List.set] at hS';clear hS;have hS:=hS';clear hS';refine ⟨(hS.sub (by repeat (first|exact xl8 _|apply xm1))),?_⟩;refine v8 (by kernel_rfl) ?_;replace hS:=St.reorder [1,2,0,3,4] hS (by decide) rfl;exact n5 (g3,qF,cF,qS,cS) (by exact Fr.sub_of rfl) trivial hS
  ·refine j5 rfl (v9 hS a7 rfl rfl) rfl ?_;rintro _ w' ⟨g3,rfl,hS'⟩;clear hS;have hS:=hS';clear hS';refine ⟨(hS.sub (by repeat (first|exact xl8 _|apply xm1))),?_⟩;refine l4 (i:=4) (by kernel_rfl) ?_;refine j5 rfl (s9 (first:=[]) (caps:=[]) rfl rfl (a6D (k2.now hS) (by omega))) rfl ?_;rintro _ w' ⟨qF,cF,rfl,hS'⟩;replace hS:=hS.transA hS';simp only [v6] at hS;clear hS';refine ⟨(hS.sub (by repeat (first|exact xl8 _|apply xm1))),?_⟩;refine l4 (i:=7) (by kernel_rfl) ?_;refine j5 rfl (s9 (first:=[]) (caps:=[]) rfl rfl (a4A (k3.now hS) (by omega))) rfl ?_;rintro _ w' ⟨qS,cS,rfl,hS'⟩;replace hS:=hS.transA hS';simp only [v6] at hS;clear hS';refine ⟨(hS.sub (by repeat (first|exact xl8 _|apply xm1))),?_⟩
   ((with_reducible apply y6 (nn 8) a7);rfl;kernel_rfl;kernel_rfl;kernel_rfl;exact (fun _ _ _ _ h=>h);exact (hS.sub (by repeat (first|exact xl8 _|apply xm1)));rfl;rfl;exact (rfl:_=some [_,_,_,_,_]);rfl)
   refine l4 (i:=10) (by kernel_rfl) ?_;refine p8 (Φ:=fun _ w'=>St _ _ w' _) rfl (m7 hS a7 (i:=2) rfl rfl rfl rfl rfl (xg1 rfl) (xc7.1 rfl)) ?_;intro _ w' hS';simp only [List.set] at hS';clear hS;have hS:=hS';clear hS';refine ⟨(hS.sub (by repeat (first|exact xl8 _|apply xm1))),?_⟩;refine v8 (by kernel_rfl) ?_;replace hS:=St.reorder [2,1,0,3,4] hS (by decide) rfl;exact n5 (g3,qF,cF,qS,cS) (by exact Fr.sub_of rfl) trivial hS
 clear hS;rintro ⟨g3,qF,cF,qS,cS⟩ w1 - hS;dsimp only at hS |-;replace hS:=hS.addNil 94 3
 repeat' (first|(with_reducible apply a8 a7);rfl;rfl;rfl|(with_reducible apply a9);rfl;(apply Ld.sl a7;rfl;exact hS.blkC 5 rfl rfl);rfl|refine yDn (by with_reducible constructor) ?_)
 have hsl1:=k1.sl;refine k9 (X:=Option Addr×Nat×List (Sh×Value)) (fun x=>[(20,.int .i64 (x.2.2.length:Nat))]) [1,2,3,18,19] rfl (fun x=>[.row 94 3 (.slice x.1 x.2.2.length x.2.1) (a1E x.2.2),.blk g3 [.slice x.1 x.2.2.length x.2.1,.slice qF fr.length cF,.slice qS sl.length cS,.slice none 0 0,.int .i64 hand],.row 89 4 (.slice qF fr.length cF) (fr.map fmC),.row 143 2 (.slice qS sl.length cS) (sl.map swC),.blk g2 [.slice none 0 0,.slice none 0 0,.slice none 0 0,.slice none 0 0,.int .i64 0],.blk g1 [.slice p1 sh.length c1,.slice p2 fr.length c2,.slice p3 sl.length c3,.slice p4 sp.length c4,.int .i64 hand]]++x.2.2.map fxA) (Γ:=[]) (fun x=>x.2.2.length<=sh.length/\shs x.2.2=(shs sh).take x.2.2.length) (fun x=>sh.length - x.2.2.length) (none,0,[]) (by exact Fr.sub_of rfl) ⟨xg4 _,rfl⟩ hS ?_;clear hS;rintro ⟨qH,cH,N⟩ w1 ⟨hN,hNs⟩ hS;dsimp only [List.cons_append,List.nil_append,List.append_nil] at hN hNs hS |-;rw [List.append_nil] at hS;by_cases hlt:N.length < sh.length
 ·obtain ⟨x,hx⟩:=j0 (l:=sh) (i:=N.length) (by omega);have hrow:=c9 (f:=fun p:Sh×Value=>shC p.1 p.2) hx;obtain ⟨b,off,rfl,hro⟩:=hsl1.at_ (i:=N.length) hlt;have hfx:=k1.fx x (xd0 hx);have hfl:=b5 x (xd0 hx);obtain ⟨S,u⟩:=x;dsimp only [shC] at hrow hfx hfl;obtain ⟨pu,cu,rfl⟩:=hfx.len
  repeat' (first|(with_reducible apply a8 a7);rfl;rfl;rfl|(with_reducible apply a9);rfl;(first|apply Ld.sl a7;rfl;(first|exact hS.blkC 0 rfl rfl|exact hS.blkC 3 rfl rfl)|apply Ld.st a7;rfl;(first|exact hS.blkR 1 rfl|exact hS.roR (by assumption) (by assumption));rfl);rfl|(with_reducible apply l7 a7);rfl;rfl;rfl;rfl;omega;rfl|refine yDn (by with_reducible constructor) ?_|(with_reducible apply d8 hS a7);rfl;rfl;rfl;clear hS;intro g w' hS|(with_reducible apply a0R hS a7);(iterate 7 rfl);clear hS;intro g w' hS|(with_reducible apply b8 hS a7 (i:=0));(iterate 8 rfl);exact (rfl:_=[_,_,_]);clear hS;intro w' hS;simp only [List.set] at hS|(with_reducible apply b8 hS a7 (i:=1));(iterate 8 rfl);exact (rfl:_=[_,_,_]);clear hS;intro w' hS;simp only [List.set] at hS|(with_reducible apply b9);rfl;all_goals (intro hb hp;try (exfalso;omega))|(with_reducible apply r6);rfl;rfl;rfl;refine ⟨_,b0H (hfx.now hS) (by omega),?_⟩;rintro _ w' ⟨qX,cX,rfl,hS'⟩;replace hS:=hS.transA hS';simp only [v6] at hS;clear hS')
  have hsr:(a1E N).length=N.length:=by unfold a1E;rw [xi9]
  repeat' (first|(with_reducible apply a8 a7);rfl;rfl;rfl|(with_reducible apply j4);rfl;rfl;omega;omega;rfl|refine yDn (by with_reducible constructor) ?_|(with_reducible apply b8 hS a7 (i:=4));(iterate 8 rfl);exact (rfl:_=[_,_,_,_,_]);clear hS;intro w' hS;simp only [List.set] at hS|(with_reducible apply a2s hS a7 3);(iterate 4 rfl);exact hS.rowRo 0 rfl;rfl;omega;rfl;intro p' cap' w' hS';simp only [List.set] at hS';clear hS;have hS:=hS';clear hS')
  rw [hsr] at hS |-;replace hS:=St.reorderT 9 [3,4,5,6,7,8,1] hS (by decide) rfl;simp only [v6,xl6,xl7] at hS;have hyS:fxA (S,.slice qX S.fixes.length cX)=.row 96 2 (.slice qX S.fixes.length cX) (S.fixes.map fxC):=rfl;rw [<- hyS] at hS;refine e9 (p',cap',N++[(S,.slice qX S.fixes.length cX)]) ?_ ?_ ?_ ?_
  ·dsimp only;rw [xe9,xi6];exact Fr.sub_of rfl
  ·dsimp only;refine ⟨by rw [xe9,xi6];omega,?_⟩;rw [xe9,xi6,r8 (a24 hx),<- hNs];unfold shs;rw [xl5];rfl
  ·dsimp only;unfold a1E at hS |-;rw [xe9,xi6,xl5,xl5,List.append_nil];refine hS.perm ?_
   repeat (apply List.Perm.cons)
   exact (xm2 _ _).symm
  ·dsimp only;rw [xe9,xi6];omega
 have hNn:N.length=sh.length:=by omega
 replace hS:=(hS.addNil 75 3).reorderT 3 [2,0,1] (by decide) rfl;simp only [v6,xl6,xl7] at hS;have hsl4:=k4
 repeat' (first|(with_reducible apply a8 a7);rfl;rfl;rfl|(with_reducible apply a9);rfl;(apply Ld.sl a7;rfl;exact hS.blkC 6 rfl rfl);rfl|refine yDn (by with_reducible constructor) ?_|(with_reducible apply b9);rfl;all_goals (intro hb hp;try (exfalso;omega)))
 refine k9 (X:=Option Addr×Nat×List Sp) (fun x=>[(38,.int .i64 (x.2.2.length:Nat))]) [1,2,3,36,37] rfl (fun x=>[.blk g3 [.slice qH N.length cH,.slice qF fr.length cF,.slice qS sl.length cS,.slice x.1 x.2.2.length x.2.1,.int .i64 hand],.row 75 3 (.slice x.1 x.2.2.length x.2.1) (x.2.2.map spC),.row 94 3 (.slice qH N.length cH) (a1E N),.row 89 4 (.slice qF fr.length cF) (fr.map fmC),.row 143 2 (.slice qS sl.length cS) (sl.map swC),.blk g2 [.slice none 0 0,.slice none 0 0,.slice none 0 0,.slice none 0 0,.int .i64 0],.blk g1 [.slice p1 sh.length c1,.slice p2 fr.length c2,.slice p3 sl.length c3,.slice p4 sp.length c4,.int .i64 hand]]++(N.map fxA++spA x.2.2)) (Γ:=[]) (fun x=>x.2.2.length<=sp.length/\x.2.2.map (·.s)=(sp.map (·.s)).take x.2.2.length) (fun x=>sp.length - x.2.2.length) (none,0,[]) (by exact Fr.sub_of rfl) ⟨xg4 _,rfl⟩ (by show St nF w w1 ((_++(N.map fxA++[]))++[]);rw [List.append_nil,List.append_nil];exact hS) ?_;clear hS;rintro ⟨qP,cP,M⟩ w1 ⟨hM,hMs⟩ hS;dsimp only [List.cons_append,List.nil_append] at hM hMs hS |-;rw [List.append_nil] at hS;by_cases hlt2:M.length < sp.length;rotate_left
 ·have hMn:M.length=sp.length:=by omega
  repeat' (first|(with_reducible apply a8 a7);rfl;rfl;rfl|(with_reducible apply a9);rfl;(apply Ld.st a7;rfl;exact hS.blkR 0 rfl;rfl);rfl|refine yDn (by with_reducible constructor) ?_|(with_reducible apply b9);rfl;all_goals (intro hb hp;try (exfalso;omega))|(with_reducible apply b8 hS a7 (i:=5));(iterate 8 rfl);exact (rfl:_=[_,_,_,_,_]);clear hS;intro w' hS;simp only [List.set] at hS)
  (apply a0U;repeat (first|exact ResL.nil|apply ResL.cell;rfl;(apply Ld.st a7;rfl;exact hS.blkR 5 rfl;rfl)))
  rw [hNn] at hNs hS |-;rw [hMn] at hMs hS |-;rw [xa0 (by rw [a0Z];omega)] at hNs;rw [xa0 (by rw [xi9];omega)] at hMs;refine ⟨⟨N,fr,sl,M,hand,.slice qH sh.length cH,.slice qF fr.length cF,.slice qS sl.length cS,.slice qP sp.length cP⟩,rfl,?_,?_⟩
  ·unfold KV.K;dsimp only;rw [hNs,hMs]
  ·unfold kA;dsimp only;replace hS:=hS.reorderT 7 [2,3,4,1] (by decide) rfl;simp only [v6,xl6,xl7] at hS;exact hS
 obtain ⟨x,hx⟩:=j0 (l:=sp) (i:=M.length) (by omega);have hxs:(sp.map (·.s))[M.length]?=some x.s:=c9 (f:=fun p:Sp=>p.s) hx;have hrow:=c9 (f:=spC) hx;obtain ⟨b,off,rfl,hro⟩:=hsl4.at_ (i:=M.length) hlt2;have hxv:=k5 x (xd0 hx);have hxa:=b6 x (xd0 hx);have hxe:=b7 x (xd0 hx);have har:=hxv.ar;have hen:=hxv.en;obtain ⟨s,va,ve⟩:=x;dsimp only at har hen hxa hxe hxs;obtain ⟨pa,ca,rfl⟩:=har.len;obtain ⟨pe,ce,rfl⟩:=hen.len;unfold spC at hrow;dsimp only at hrow
 repeat' (first|(with_reducible apply a8 a7);rfl;rfl;rfl|(with_reducible apply a9);rfl;(apply Ld.st a7;rfl;exact hS.roR (by assumption) (by assumption);rfl);rfl|(with_reducible apply l7 a7);rfl;rfl;rfl;rfl;omega;rfl|refine yDn (by with_reducible constructor) ?_|(with_reducible apply d8 hS a7);rfl;rfl;rfl;clear hS;intro g w' hS|(with_reducible apply b8 hS a7 (i:=0));(iterate 8 rfl);exact (rfl:_=[_,_,_]);clear hS;intro w' hS;simp only [List.set] at hS|(with_reducible apply b9);rfl;all_goals (intro hb hp;try (exfalso;omega)))
 refine a1Y 2 14 15 rfl hS (by kernel_rfl) ?_;intro w10 hS';clear hS;have hS:=hS';clear hS';simp only [xl2,xl3];have hH:=hS.sub (xm3 [_,_] _)
 ((with_reducible apply k6 (nn 0) a7);rfl;kernel_rfl;exact (fun _ _ _ h=>h);exact xd3 hH;rfl;rfl)
 ((with_reducible apply o3 (nn 1));rfl;kernel_rfl;kernel_rfl;rfl;exact (fun _ _ _ h=>h);exact hH;rfl;(intro w2 hw2;(replace hw2:St _ _ w2 _:=hw2;(apply Ld.sl a7;rfl;exact hw2.blkC 1 rfl rfl)));rfl)
 ((with_reducible apply k6 (nn 2) a7);rfl;kernel_rfl;exact (fun _ _ _ h=>h);exact xd3 hH;rfl;rfl)
 ((with_reducible apply o3 (nn 3));rfl;kernel_rfl;kernel_rfl;rfl;exact (fun _ _ _ h=>h);exact hH;rfl;(intro w2 hw2;(replace hw2:St _ _ w2 _:=hw2;(apply Ld.sc a7;rfl;exact hw2.blkC 0 rfl rfl)));rfl)
 ((with_reducible apply k6 (nn 4) a7);rfl;kernel_rfl;exact (fun _ _ _ h=>h);exact xd3 hH;rfl;rfl)
 ((with_reducible apply o3 (nn 5));rfl;kernel_rfl;kernel_rfl;rfl;exact (fun _ _ _ h=>h);exact hH;rfl;(intro w2 hw2;(replace hw2:St _ _ w2 _:=hw2;(apply Ld.sl a7;rfl;exact hw2.blkC 0 rfl rfl)));rfl)
 ((with_reducible apply k6 (nn 7) a7);rfl;kernel_rfl;exact (fun _ _ _ h=>h);exact xd3 hH;rfl;rfl)
 ((with_reducible apply o3 (nn 8));rfl;kernel_rfl;kernel_rfl;rfl;exact (fun _ _ _ h=>h);exact hH;rfl;(intro w2 hw2;(replace hw2:St _ _ w2 _:=hw2;(apply Ld.sl a7;rfl;exact hw2.blkC 0 rfl rfl)));rfl)
 refine q9 (i:=6) (by kernel_rfl) ?_;refine m9 rfl (s9 (first:=[]) (caps:=[]) rfl rfl (b0s (har.now hS) (by omega))) rfl ?_;rintro _ w' ⟨qA,cA,rfl,hS'⟩;replace hS:=hS.transA hS';simp only [v6] at hS;clear hS';have hH:=hS.drop.sub (xm3 [_,_] _);refine ⟨xd3 (xd3 hH),?_⟩;refine q9 (i:=9) (by kernel_rfl) ?_;refine m9 rfl (s9 (first:=[]) (caps:=[]) rfl rfl (b0Y (hen.now hS) (by omega))) rfl ?_;rintro _ w' ⟨qE,cE,rfl,hS'⟩;replace hS:=hS.transA hS';simp only [v6] at hS;clear hS';have hH:=hS.drop.drop.sub (xm3 [_,_] _);refine ⟨xd3 (xd3 hH),?_⟩
 ((with_reducible apply a3Q (nn 10) a7);rfl;kernel_rfl;kernel_rfl;kernel_rfl;rfl;exact (fun _ _ _ _ h=>h);exact xd3 hH;rfl;rfl;exact (rfl:_=some [_,_,_]);rfl)
 refine q9 (i:=11) (by kernel_rfl) ?_;refine m9 rfl (o7 hS a7 rfl rfl rfl rfl rfl rfl) rfl ?_;rintro _ w' ⟨g9,rfl,hS'⟩;clear hS;have hS:=hS';clear hS';have hH:=hS.drop.drop.drop.sub (xm3 [_,_] _);refine ⟨xd3 (xd3 hH),?_⟩;refine q9 (i:=12) (by kernel_rfl) ?_;refine m9 rfl (a0x hS a7 (i:=5) rfl rfl rfl rfl (hS.rowRo 0 rfl) rfl (by simp only [xi9];omega)) rfl ?_;rintro _ w' ⟨p',c',rfl,hS'⟩;simp only [List.set,xi9] at hS' |-;clear hS;have hS:=hS';clear hS';have hH:=hS.drop.drop.drop.sub (xm3 [_,_] _);refine ⟨xd3 (xd3 hH),?_⟩
 ((with_reducible apply k6 (nn 13) a7);rfl;kernel_rfl;exact (fun _ _ _ h=>h);exact xd3 hH;rfl;rfl)
 refine q9 (i:=14) (by kernel_rfl) ?_;refine a1e (Φ:=fun _ w'=>St _ _ w' _) rfl (m7 hS a7 (i:=4) rfl rfl rfl rfl rfl (xg1 rfl) (by intro u hu;simp [Value.cells] at hu;subst hu;rfl)) ?_;intro _ w' hS';simp only [List.set,o6] at hS';clear hS;have hS:=hS';clear hS';refine ⟨xd6 rfl,?_⟩;refine a1h (by kernel_rfl) ?_
 repeat' (first|(with_reducible apply a8 a7);rfl;rfl;rfl|(with_reducible apply j4);rfl;rfl;omega;omega;rfl|refine yDn (by with_reducible constructor) ?_)
 refine e9 (p',c',M++[⟨s,.slice qA s.areas.length cA,.slice qE s.entries.length cE⟩]) ?_ ?_ ?_ ?_
 ·dsimp only;rw [xe9,xi6];exact Fr.sub_of rfl
 ·dsimp only;refine ⟨by rw [xe9,xi6];omega,?_⟩;rw [xe9,xi6,r8 hxs,<- hMs,xl5];rfl
 ·replace hS:=hS.reorderT 11 [4,5,6,7,8,9,10,2,1] (by decide) rfl;simp only [v6,xl6,xl7] at hS;dsimp only;rw [xe9,xi6,xl5,List.append_nil,a4W];refine hS.perm ?_
  repeat (apply List.Perm.cons)
  rw [<- xg0];exact xm4 (l₁:=[_,_])
 ·dsimp only;rw [xe9,xi6];omega
def wkB (k:KV) (sp:Nat) (vh:Value):List Value:=[k.vsh,k.vfr,k.vsl,k.vsp,.int .i64 k.hand,.int .i64 (sp:Nat),vh]
def hdA (vh:Value) (held:List Nat):Asr:=.row 3 1 vh (held.map fun i=>[.int .i64 (i:Nat)])
def frA (k:KV):Asr:=.row 89 4 k.vfr (k.fr.map fmC)
def slA (k:KV):Asr:=.row 143 2 k.vsl (k.sl.map swC)
def a04 (k:KV):Asr:=.row 75 3 k.vsp (k.sp.map spC)
def wkS (g:Nat) (k:KV) (sp:Nat) (vh:Value) (held:List Nat):List Asr:=.blk g (wkB k sp vh)::hdA vh held::frA k::slA k::a04 k::k.sp.map a0c
structure KRo (F:Nat->Prop) (w:World) (k:KV):Prop where
 sh:ShsF F w k.sh k.vsh
 ar:∀ p ∈ k.sp,Sl F w 4 p.va (p.s.areas.map arC)
theorem KRo.nowM {F:Nat->Prop} {w0 w:World} {Θ Γ:List Asr} {k:KV} (h:KRo F w0 k) (hS:St F w0 w (Θ++Γ)):KRo (fps Θ) w k:=⟨h.sh.nowM hS,fun p hp=>(h.ar p hp).nowM hS⟩
structure KLike (k k':KV):Prop where
 sh:k'.sh=k.sh
 vsh:k'.vsh=k.vsh
 ar:k'.sp.map (fun p=>(p.va,p.s.areas))=k.sp.map (fun p=>(p.va,p.s.areas))
theorem KLike.refl (k:KV):KLike k k:=⟨rfl,rfl,rfl⟩
theorem KLike.trans {k k' k2:KV} (h:KLike k k') (h2:KLike k' k2):KLike k k2:=⟨h2.sh.trans h.sh,h2.vsh.trans h.vsh,h2.ar.trans h.ar⟩
theorem KRo.like {F:Nat->Prop} {w:World} {k k':KV} (h:KRo F w k) (hl:KLike k k'):KRo F w k':=by
 refine ⟨by rw [hl.sh,hl.vsh];exact h.sh,fun p hp=>?_⟩;have:(p.va,p.s.areas) ∈ k.sp.map (fun p=>(p.va,p.s.areas)):=by rw [<- hl.ar];exact xm5.2 ⟨p,hp,rfl⟩
 obtain ⟨q,hq,he⟩:=xm5.1 this;obtain ⟨e1,e2⟩:=Prod.mk.inj he;rw [<- e1,<- e2];exact h.ar q hq
structure WkV (w:World) (g:Nat) (k:KV) (sp:Nat) (vh:Value) (held:List Nat):Prop where
 c0:Bs nF w ⟨g,0,none⟩ k.vsh
 c1:Bs nF w ⟨g,1,none⟩ k.vfr
 c2:Bs nF w ⟨g,2,none⟩ k.vsl
 c3:Bs nF w ⟨g,3,none⟩ k.vsp
 c4:Bs nF w ⟨g,4,none⟩ (.int .i64 k.hand)
 c5:Bs nF w ⟨g,5,none⟩ (.int .i64 (sp:Nat))
 c6:Bs nF w ⟨g,6,none⟩ vh
 held:Sl nF w 1 vh (held.map fun i=>[.int .i64 (i:Nat)])
 ker:KerV w k
theorem WkV.of {F:Nat->Prop} {w0 w:World} {Γ:List Asr} {g:Nat} {k:KV} {sp:Nat} {vh:Value} {held:List Nat} (hS:St F w0 w (wkS g k sp vh held++Γ)) (hR:KRo F w0 k):WkV w g k sp vh held:=by
 refine ⟨Bs.of (hS.blkC 0 rfl rfl),Bs.of (hS.blkC 0 rfl rfl),Bs.of (hS.blkC 0 rfl rfl),Bs.of (hS.blkC 0 rfl rfl),Bs.of (hS.blkC 0 rfl rfl),Bs.of (hS.blkC 0 rfl rfl),Bs.of (hS.blkC 0 rfl rfl),hS.rowSl 1 rfl,⟨hR.sh.now hS,hS.rowSl 2 rfl,hS.rowSl 3 rfl,hS.rowSl 4 rfl,fun p hp=>⟨(hR.ar p hp).now hS,?_⟩⟩⟩;refine hS.slMem (e:=91) (xe5 _ ?_);unfold wkS;exact xc6 _ (xc6 _ (xc6 _ (xc6 _ (xc6 _ (xm5.2 ⟨p,hp,rfl⟩)))))
def a2y (v:Value) (i:Nat):Value:=match v with
 |.slice (some ⟨b,off,_⟩) _ _=>.pointer (some ⟨b,off + i,none⟩)
 |_=>.pointer none
theorem WkV.now {w w':World} {Γ:List Asr} {g:Nat} {k:KV} {sp:Nat} {vh:Value} {held:List Nat} (h:WkV w g k sp vh held) (hS:St nF w w' Γ):WkV w' g k sp vh held :=
 ⟨Bs.of (hS.bs h.c0),Bs.of (hS.bs h.c1),Bs.of (hS.bs h.c2),Bs.of (hS.bs h.c3),Bs.of (hS.bs h.c4),Bs.of (hS.bs h.c5),Bs.of (hS.bs h.c6),h.held.now hS,h.ker.now hS⟩
theorem a3R {w:World} {g:Nat} {k:KV} {sp:Nat} {vh:Value} {held:List Nat} (hV:WkV w g k sp vh held) (hsp:sp < k.sp.length):Fn Tryz.prog 82 [.pointer (some ⟨g,0,none⟩)] w (RBf (a2y k.vsp (sp * 3)) w):=by
 obtain ⟨sh,fr,sl,sps,hand,vsh,vfr,vsl,vsp⟩:=k;obtain ⟨c0,c1,c2,c3,c4,c5,c6,hh,⟨k1,k2,k3,k4,k5⟩⟩:=hV;dsimp only at c0 c1 c2 c3 c4 c5 k1 k2 k3 k4 k5 hsp |-;obtain ⟨p4,n4,rfl⟩:=k4.len;obtain ⟨b,off,rfl,hro⟩:=k4.at_ (i:=sp) hsp;unfold a2y;dsimp only;refine yEn Tryz.func82 Tryz.ntmps82 (by kernel_rfl) (by kernel_rfl) rfl rfl ?_;have hS:=St.start w
 repeat' (first|(with_reducible apply a8 a7);rfl;rfl;rfl|refine yDn (by with_reducible constructor) ?_)
 (focus ((with_reducible apply d9 _ _ _ (by kernel_rfl) (by kernel_rfl) hS);(repeat' ((first|(with_reducible apply i7 a7);rfl;rfl|(with_reducible apply i9);rfl;(intro wd hd;replace hd:St _ _ wd _:=hd;(first|apply Ld.sc a7;rfl;exact hd.bs (by assumption)|apply Ld.sl a7;rfl;exact hd.bs (by assumption)));rfl|(with_reducible apply y8 a7);rfl;rfl;rfl;rfl;omega;rfl)));all_goals ((with_reducible apply j7);intro w' hS';clear hS;have hS:=hS';clear hS')))
 repeat' ((refine yDn (by with_reducible constructor) ?_))
 (refine k7 rfl ?_)
 exact ⟨rfl,hS.sub (xj1 _)⟩
def b2J (p:Sp) (page:Int):Value:=if page ∈ j8 p.s.entries then .tuple #[a2y p.ve (lbd (j8 p.s.entries) page * 3),.bool true] else .tuple #[.pointer none,.bool false]
def b66 (l:List En) (page:Int):Prop:=∀ q ∈ j8 l,-9223372036854775808<=q - page/\q - page<=9223372036854775807
theorem a5p {w:World} {g:Nat} {k:KV} {sp:Nat} {vh:Value} {held:List Nat} (hV:WkV w g k sp vh held) {x:Sp} (hx:k.sp[sp]?=some x) (page:Int) (hr:Rises (j8 x.s.entries)) (hb:b66 x.s.entries page):Fn Tryz.prog 83 [.pointer (some ⟨g,0,none⟩),.int .i64 page] w (RBf (b2J x page) w):=by
 have hsp:=fun w1 (h:WkV w1 g k sp vh held)=>a3R h (d6 hx);have hV0:=hV;obtain ⟨sh,fr,sl,sps,hand,vsh,vfr,vsl,vsp⟩:=k;obtain ⟨c0,c1,c2,c3,c4,c5,c6,hh,⟨k1,k2,k3,k4,k5⟩⟩:=hV;dsimp only at c0 c1 c2 c3 c4 c5 k1 k2 k3 k4 k5 hsp hx |-;have hxv:=k5 x (xd0 hx);have hrow:=c9 (f:=spC) hx;have hlt:=d6 hx;obtain ⟨p4,n4,rfl⟩:=k4.len;obtain ⟨b,off,rfl,hro⟩:=k4.at_ (i:=sp) hlt;have har:=hxv.ar;have hen:=hxv.en;obtain ⟨s,va,ve⟩:=x;dsimp only at har hen hr hb;obtain ⟨pa,ca,rfl⟩:=har.len;obtain ⟨pe,ce,rfl⟩:=hen.len;unfold spC at hrow;dsimp only at hrow;unfold a2y at hsp;dsimp only at hsp;have hbs:=fun w1 (h:Sl nF w1 3 (.slice pe s.entries.length ce) (s.entries.map enC))=>b1g (t:=page) h hr hb;unfold BsV at hbs;unfold b2J j8 at *;dsimp only at hbs |-;by_cases hm:page ∈ s.entries.map fun e=>e.page
 ·rw [xf0 hm];rw [xj2 hm] at hbs;have hlen:=d6 ((a1l hr page).2 hm);rw [xi9] at hlen;obtain ⟨b2,off2,rfl,hro2⟩:=hen.at_ (i:=lbd (s.entries.map fun e=>e.page) page) hlen;unfold a2y;dsimp only;refine yEn Tryz.func83 Tryz.ntmps83 (by kernel_rfl) (by kernel_rfl) rfl rfl ?_;have hS:=St.start w
  repeat' (first|(with_reducible apply a8 a7);rfl;rfl;rfl|(with_reducible apply a9);rfl;(apply Ld.sl a7;rfl;exact hS.roC (by assumption) (by assumption) rfl);rfl|(with_reducible apply l7 a7);rfl;rfl;rfl;rfl;omega;rfl|refine yDn (by with_reducible constructor) ?_|(with_reducible apply f8);rfl;rfl|(with_reducible apply d7 hS);rfl;rfl;rfl;refine ⟨_,hsp _ (hV0.now hS),?_⟩;clear hS;intro w' hS|(with_reducible apply d7 hS);rfl;rfl;rfl;refine ⟨_,hbs _ (hen.now hS),?_⟩;clear hS;intro w' hS)
  (refine a4H rfl ?_)
  exact ⟨rfl,hS.sub (xj1 _)⟩
 ·rw [xf1 hm];rw [xj0 hm] at hbs;refine yEn Tryz.func83 Tryz.ntmps83 (by kernel_rfl) (by kernel_rfl) rfl rfl ?_;have hS:=St.start w
  repeat' (first|(with_reducible apply a8 a7);rfl;rfl;rfl|(with_reducible apply a9);rfl;(apply Ld.sl a7;rfl;exact hS.roC (by assumption) (by assumption) rfl);rfl|refine yDn (by with_reducible constructor) ?_|(with_reducible apply f6);rfl;rfl|(with_reducible apply d7 hS);rfl;rfl;rfl;refine ⟨_,hsp _ (hV0.now hS),?_⟩;clear hS;intro w' hS|(with_reducible apply d7 hS);rfl;rfl;rfl;refine ⟨_,hbs _ (hen.now hS),?_⟩;clear hS;intro w' hS)
  (refine a4H rfl ?_)
  exact ⟨rfl,hS.sub (xj1 _)⟩
def a2e (k:KV) (e:En):KV:=if e.kind=1 then ⟨k.sh,k.fr.set e.at_.toNat (a3n (m6 k.fr e.at_.toNat)),k.sl,k.sp,k.hand,k.vsh,k.vfr,k.vsl,k.vsp⟩ else ⟨k.sh,k.fr,k.sl.set e.at_.toNat (a3m (a0J k.sl e.at_.toNat)),k.sp,k.hand,k.vsh,k.vfr,k.vsl,k.vsp⟩
theorem b0g (k:KV) (e:En):(a2e k e).K=a3q k.K e:=by
 unfold a2e a3q
 split <;> rfl
theorem b2O (k:KV) (e:En):KLike k (a2e k e):=by
 unfold a2e
 split <;> exact ⟨rfl,rfl,rfl⟩
theorem b5z (k:KV) (e:En):(a2e k e).sp=k.sp/\(a2e k e).vsp=k.vsp/\(a2e k e).fr.length=k.fr.length/\(a2e k e).sl.length=k.sl.length:=by
 unfold a2e
 split
 ·exact ⟨rfl,rfl,xa8,rfl⟩
 ·exact ⟨rfl,rfl,rfl,xa8⟩
structure EntOk (k:KV) (e:En):Prop where
 names:(e.kind=1/\∃ i:Nat,e.at_=(i:Nat)/\i < k.fr.length)\/(e.kind≠1/\∃ i:Nat,e.at_=(i:Nat)/\i < k.sl.length)
 fr:∀ f ∈ k.fr,0<=f.refs/\f.refs<=100000
 sl:∀ f ∈ k.sl,0<=f.refs/\f.refs<=100000
theorem a2f {α:Type} {l:List α} {i:Nat} {x:α} (h:i < l.length):(l.set i x)[i]?=some x:=by rw [xe0,xf0 rfl,xf0 h]
theorem b5e (a y:Fm):o6 (fmC a) 0 (fmC y)=fmC y:=a3v (fmC a) (fmC y) rfl
theorem b1k (a y:Sw):o6 (swC a) 0 (swC y)=swC y:=a3v (swC a) (swC y) rfl
theorem b43 {F:Nat->Prop} {w0 w:World} {Γ:List Asr} {g:Nat} {k:KV} {sp:Nat} {vh:Value} {held:List Nat} (hS0:St F w0 w (wkS g k sp vh held++Γ)) {e:En} (he:EntOk k e):Fn Tryz.prog 166 [.pointer (some ⟨g,0,none⟩),.agg (enC e).toArray] w (fun v w'=>v=.tuple #[]/\St (fps (wkS g k sp vh held)) w w' (wkS g (a2e k e) sp vh held)):=by
 have hS:=St.startM hS0;obtain ⟨hn,hfr,hsl⟩:=he;generalize fps (wkS g k sp vh held)=G at hS |-;obtain ⟨sh,fr,sl,sps,hand,vsh,vfr,vsl,vsp⟩:=k;dsimp only at hn hfr hsl;unfold wkS wkB hdA frA slA a04 at hS;dsimp only [List.cons_append,List.nil_append] at hS;unfold enC;rcases hn with ⟨hk,i,hi,hil⟩|⟨hk,i,hi,hil⟩
 ·have hlv:a2e ⟨sh,fr,sl,sps,hand,vsh,vfr,vsl,vsp⟩ e=⟨sh,fr.set i (a3n (m6 fr i)),sl,sps,hand,vsh,vfr,vsl,vsp⟩:=by unfold a2e;rw [xf0 hk,hi];rfl
  rw [hlv];obtain ⟨f,hf⟩:=j0 (l:=fr) (i:=i) (by omega);have hrf:=hfr f (xd0 hf);rw [p9 hf];have hrow:=c9 (f:=fmC) hf;obtain ⟨pf,cf,rfl⟩:=hS.rowSlice 2 rfl;rw [xi9] at hS;obtain ⟨gf,rfl⟩:=hS.rowSome 2 rfl (by omega);have hd:decide (e.kind=1)=true:=xj2 hk;obtain ⟨epg,ekd,eat⟩:=e;dsimp only at hd hi hk hlv |-;subst hi;unfold fmC at hrow;unfold a3n;have e1:(fr.map fmC).set i (o6 [.string ⟨f.data.toArray⟩,.int .i64 f.refs,.bool f.dirty,.bool f.seen] 1 [.int .i64 (f.refs - 1)])=(fr.set i ⟨f.data,f.refs - 1,f.dirty,f.seen⟩).map fmC:=by rw [xl1];rfl
  have hrow1:((fr.set i ⟨f.data,f.refs - 1,f.dirty,f.seen⟩).map fmC)[i]?=some [.string ⟨f.data.toArray⟩,.int .i64 (f.refs - 1),.bool f.dirty,.bool f.seen]:=c9 (f:=fmC) (a2f (x:=(⟨f.data,f.refs - 1,f.dirty,f.seen⟩:Fm)) hil);by_cases h0:f.refs - 1=0
  ·have hd0:decide (f.refs - 1=0)=true:=xj2 h0;rw [xf0 h0];have e2:((fr.set i ⟨f.data,f.refs - 1,f.dirty,f.seen⟩).map fmC).set i (o6 [.string ⟨f.data.toArray⟩,.int .i64 (f.refs - 1),.bool f.dirty,.bool f.seen] 0 [.string ⟨#[]⟩,.int .i64 0,.bool false,.bool false])=(fr.set i fm0).map fmC:=by
    rw [xl1,xl1,xm6];rfl
   refine yEn Tryz.func166 Tryz.ntmps166 (by kernel_rfl) (by kernel_rfl) rfl rfl ?_
   repeat' (first|(with_reducible apply a8 a7);rfl;rfl;rfl|(with_reducible apply a9);rfl;(apply Ld.sc a7;rfl;exact hS.blkC 0 rfl rfl);rfl|refine yDn (by with_reducible constructor) ?_|(with_reducible apply f6);rfl;assumption|(with_reducible apply l8 hS);rfl;rfl;rfl;clear hS;intro g w' hS)
   (focus ((with_reducible apply d9 _ _ _ (by kernel_rfl) (by kernel_rfl) hS);(repeat' ((first|(with_reducible apply i7 a7);rfl;rfl|(with_reducible apply i9);rfl;(intro wd hd;replace hd:St _ _ wd _:=hd;(first|apply Ld.sc a7;rfl;exact hd.blkC 0 rfl rfl|apply Ld.sl a7;rfl;exact hd.blkC 1 rfl rfl));rfl|(with_reducible apply y8 a7);rfl;rfl;rfl;rfl;omega;rfl)));all_goals ((with_reducible apply j7);intro w' hS';clear hS;have hS:=hS';clear hS')))
   repeat' (first|(with_reducible apply a8 a7);rfl;rfl;rfl|(with_reducible apply a9);rfl;(apply Ld.sc a7;rfl;exact hS.rowCj 3 rfl (by assumption) rfl);rfl|(with_reducible apply a0m);rfl;rfl;omega;omega;rfl|refine yDn (by with_reducible constructor) ?_|(with_reducible apply t5 hS a7 (i:=3));(iterate 4 rfl);assumption;(iterate 5 rfl);intro w' hS';simp only [List.set] at hS';clear hS;have hS:=hS';clear hS')
   rw [e1] at hS
   repeat' (first|(with_reducible apply a8 a7);rfl;rfl;rfl|(with_reducible apply a9);rfl;(apply Ld.sc a7;rfl;exact hS.rowCj 3 rfl (by assumption) rfl);rfl|(with_reducible apply n7 a7);rfl;rfl;exact (rfl:_=some [_,_,_,_]);rfl|refine yDn (by with_reducible constructor) ?_|(with_reducible apply f6);rfl;assumption|(with_reducible apply o5 hS a7 (i:=3));(iterate 4 rfl);assumption;(iterate 5 rfl);intro w' hS';simp only [List.set] at hS';clear hS;have hS:=hS';clear hS')
   rw [e2] at hS
   (refine b2M rfl ?_)
   exact ⟨rfl,by rw [xi9];exact hS.drop⟩
  ·have hd0:decide (f.refs - 1=0)=false:=xj0 h0;rw [xf1 h0];refine yEn Tryz.func166 Tryz.ntmps166 (by kernel_rfl) (by kernel_rfl) rfl rfl ?_
   repeat' (first|(with_reducible apply a8 a7);rfl;rfl;rfl|(with_reducible apply a9);rfl;(apply Ld.sc a7;rfl;exact hS.blkC 0 rfl rfl);rfl|refine yDn (by with_reducible constructor) ?_|(with_reducible apply f6);rfl;assumption|(with_reducible apply l8 hS);rfl;rfl;rfl;clear hS;intro g w' hS)
   (focus ((with_reducible apply d9 _ _ _ (by kernel_rfl) (by kernel_rfl) hS);(repeat' ((first|(with_reducible apply i7 a7);rfl;rfl|(with_reducible apply i9);rfl;(intro wd hd;replace hd:St _ _ wd _:=hd;(first|apply Ld.sc a7;rfl;exact hd.blkC 0 rfl rfl|apply Ld.sl a7;rfl;exact hd.blkC 1 rfl rfl));rfl|(with_reducible apply y8 a7);rfl;rfl;rfl;rfl;omega;rfl)));all_goals ((with_reducible apply j7);intro w' hS';clear hS;have hS:=hS';clear hS')))
   repeat' (first|(with_reducible apply a8 a7);rfl;rfl;rfl|(with_reducible apply a9);rfl;(apply Ld.sc a7;rfl;exact hS.rowCj 3 rfl (by assumption) rfl);rfl|(with_reducible apply a0m);rfl;rfl;omega;omega;rfl|refine yDn (by with_reducible constructor) ?_|(with_reducible apply t5 hS a7 (i:=3));(iterate 4 rfl);assumption;(iterate 5 rfl);intro w' hS';simp only [List.set] at hS';clear hS;have hS:=hS';clear hS')
   rw [e1] at hS
   repeat' (first|(with_reducible apply a8 a7);rfl;rfl;rfl|(with_reducible apply a9);rfl;(apply Ld.sc a7;rfl;exact hS.rowCj 3 rfl (by assumption) rfl);rfl|refine yDn (by with_reducible constructor) ?_|(with_reducible apply f8);rfl;assumption)
   (refine b2M rfl ?_)
   exact ⟨rfl,by rw [xi9];exact hS.drop⟩
 ·have hlv:a2e ⟨sh,fr,sl,sps,hand,vsh,vfr,vsl,vsp⟩ e=⟨sh,fr,sl.set i (a3m (a0J sl i)),sps,hand,vsh,vfr,vsl,vsp⟩:=by unfold a2e;rw [xf1 hk,hi];rfl
  rw [hlv];obtain ⟨f,hf⟩:=j0 (l:=sl) (i:=i) (by omega);have hrf:=hsl f (xd0 hf);rw [a1J hf];have hrow:=c9 (f:=swC) hf;obtain ⟨pf,cf,rfl⟩:=hS.rowSlice 3 rfl;rw [xi9] at hS;obtain ⟨gf,rfl⟩:=hS.rowSome 3 rfl (by omega);have hd:decide (e.kind=1)=false:=xj0 hk;obtain ⟨epg,ekd,eat⟩:=e;dsimp only at hd hi hk hlv |-;subst hi;unfold swC at hrow;unfold a3m;have e1:(sl.map swC).set i (o6 [.string ⟨f.data.toArray⟩,.int .i64 f.refs] 1 [.int .i64 (f.refs - 1)])=(sl.set i ⟨f.data,f.refs - 1⟩).map swC:=by rw [xl1];rfl
  have hrow1:((sl.set i ⟨f.data,f.refs - 1⟩).map swC)[i]?=some [.string ⟨f.data.toArray⟩,.int .i64 (f.refs - 1)]:=c9 (f:=swC) (a2f (x:=(⟨f.data,f.refs - 1⟩:Sw)) hil);by_cases h0:f.refs - 1=0
  ·have hd0:decide (f.refs - 1=0)=true:=xj2 h0;rw [xf0 h0];have e2:((sl.set i ⟨f.data,f.refs - 1⟩).map swC).set i (o6 [.string ⟨f.data.toArray⟩,.int .i64 (f.refs - 1)] 0 [.string ⟨#[]⟩,.int .i64 0])=(sl.set i sw0).map swC:=by
    rw [xl1,xl1,xm6];rfl
   refine yEn Tryz.func166 Tryz.ntmps166 (by kernel_rfl) (by kernel_rfl) rfl rfl ?_
   repeat' (first|(with_reducible apply a8 a7);rfl;rfl;rfl|(with_reducible apply a9);rfl;(apply Ld.sc a7;rfl;exact hS.blkC 0 rfl rfl);rfl|refine yDn (by with_reducible constructor) ?_|(with_reducible apply f8);rfl;assumption|(with_reducible apply l8 hS);rfl;rfl;rfl;clear hS;intro g w' hS)
   (focus ((with_reducible apply d9 _ _ _ (by kernel_rfl) (by kernel_rfl) hS);(repeat' ((first|(with_reducible apply i7 a7);rfl;rfl|(with_reducible apply i9);rfl;(intro wd hd;replace hd:St _ _ wd _:=hd;(first|apply Ld.sc a7;rfl;exact hd.blkC 0 rfl rfl|apply Ld.sl a7;rfl;exact hd.blkC 1 rfl rfl));rfl|(with_reducible apply y8 a7);rfl;rfl;rfl;rfl;omega;rfl)));all_goals ((with_reducible apply j7);intro w' hS';clear hS;have hS:=hS';clear hS')))
   repeat' (first|(with_reducible apply a8 a7);rfl;rfl;rfl|(with_reducible apply a0m);rfl;rfl;omega;omega;rfl|refine yDn (by with_reducible constructor) ?_|first|(with_reducible apply t5 hS a7 (i:=4));(iterate 4 rfl);assumption;(iterate 5 rfl);intro w' hS';simp only [List.set] at hS';clear hS;have hS:=hS';clear hS'|(with_reducible apply a9);rfl;(apply Ld.sc a7;rfl;exact hS.rowCj 4 rfl hrow rfl);rfl)
   rw [e1] at hS
   repeat' (first|(with_reducible apply a8 a7);rfl;rfl;rfl|(with_reducible apply n7 a7);rfl;rfl;exact (rfl:_=some [_,_]);rfl|refine yDn (by with_reducible constructor) ?_|(with_reducible apply f6);rfl;assumption|first|(with_reducible apply o5 hS a7 (i:=4));(iterate 4 rfl);assumption;(iterate 5 rfl);intro w' hS';simp only [List.set] at hS';clear hS;have hS:=hS';clear hS'|(with_reducible apply a9);rfl;(apply Ld.sc a7;rfl;exact hS.rowCj 4 rfl hrow1 rfl);rfl)
   rw [e2] at hS
   (refine a7m rfl ?_)
   exact ⟨rfl,by rw [xi9];exact hS.drop⟩
  ·have hd0:decide (f.refs - 1=0)=false:=xj0 h0;rw [xf1 h0];refine yEn Tryz.func166 Tryz.ntmps166 (by kernel_rfl) (by kernel_rfl) rfl rfl ?_
   repeat' (first|(with_reducible apply a8 a7);rfl;rfl;rfl|(with_reducible apply a9);rfl;(apply Ld.sc a7;rfl;exact hS.blkC 0 rfl rfl);rfl|refine yDn (by with_reducible constructor) ?_|(with_reducible apply f8);rfl;assumption|(with_reducible apply l8 hS);rfl;rfl;rfl;clear hS;intro g w' hS)
   (focus ((with_reducible apply d9 _ _ _ (by kernel_rfl) (by kernel_rfl) hS);(repeat' ((first|(with_reducible apply i7 a7);rfl;rfl|(with_reducible apply i9);rfl;(intro wd hd;replace hd:St _ _ wd _:=hd;(first|apply Ld.sc a7;rfl;exact hd.blkC 0 rfl rfl|apply Ld.sl a7;rfl;exact hd.blkC 1 rfl rfl));rfl|(with_reducible apply y8 a7);rfl;rfl;rfl;rfl;omega;rfl)));all_goals ((with_reducible apply j7);intro w' hS';clear hS;have hS:=hS';clear hS')))
   repeat' (first|(with_reducible apply a8 a7);rfl;rfl;rfl|(with_reducible apply a0m);rfl;rfl;omega;omega;rfl|refine yDn (by with_reducible constructor) ?_|first|(with_reducible apply t5 hS a7 (i:=4));(iterate 4 rfl);assumption;(iterate 5 rfl);intro w' hS';simp only [List.set] at hS';clear hS;have hS:=hS';clear hS'|(with_reducible apply a9);rfl;(apply Ld.sc a7;rfl;exact hS.rowCj 4 rfl hrow rfl);rfl)
   rw [e1] at hS
   repeat' (first|(with_reducible apply a8 a7);rfl;rfl;rfl|refine yDn (by with_reducible constructor) ?_|(with_reducible apply f8);rfl;assumption|(with_reducible apply a9);rfl;(apply Ld.sc a7;rfl;exact hS.rowCj 4 rfl hrow1 rfl);rfl)
   (refine a7m rfl ?_)
   exact ⟨rfl,by rw [xi9];exact hS.drop⟩
theorem a81 {l:List Sp} {i:Nat} {x:Sp} (h:l[i]?=some x):(l.map a0c).Perm (a0c x::(l.eraseIdx i).map a0c):=(a1X h).map a0c
theorem b5E {l:List Sp} {i:Nat} {x y:Sp} (h:l[i]?=some x):(a0c y::(l.eraseIdx i).map a0c).Perm ((l.set i y).map a0c):=by
 have h1:=a81 (l:=l.set i y) (i:=i) (x:=y) (a2f (d6 h));rw [a1z] at h1;exact h1.symm
theorem St.pullE {F:Nat->Prop} {w0 w:World} {Γ:List Asr} (h:St F w0 w Γ) (m:Nat) {l:List Sp} {i:Nat} {x:Sp} (hx:l[i]?=some x) (hΓ:Γ.drop m=l.map a0c):St F w0 w (a0c x::v6 (Γ.take m) ((l.eraseIdx i).map a0c)):=by
 rw [a55];refine h.perm ?_;have h1:Γ.Perm (Γ.take m++(a0c x::(l.eraseIdx i).map a0c)):=by
  conv=>lhs;rw [<- xj4 m Γ,hΓ]
  exact (a81 hx).append_left _
 exact h1.trans xm7
theorem St.pushE {F:Nat->Prop} {w0 w:World} {Γ:List Asr} {y:Sp} (h:St F w0 w (a0c y::Γ)) (m:Nat) {l:List Sp} {i:Nat} {x:Sp} (hx:l[i]?=some x) (hΓ:Γ.drop m=(l.eraseIdx i).map a0c):St F w0 w (v6 (Γ.take m) ((l.set i y).map a0c)):=by
 rw [a55];refine h.perm ?_;have h1:(a0c y::Γ).Perm (Γ.take m++(a0c y::(l.eraseIdx i).map a0c)):=by
  conv=>lhs;rw [<- xj4 m Γ,hΓ]
  exact List.perm_middle.symm
 exact h1.trans ((b5E hx).append_left _)
theorem a69 {α β:Type} {φ:α->β} {l:List α} {i:Nat} {x y:α} (h:l[i]?=some x) (e:φ y=φ x):(l.set i y).map φ=l.map φ:=by
 refine xh1 fun j=>?_;rw [xh6,xh6,xe0];by_cases hj:i=j
 ·subst hj;rw [xf0 rfl,xf0 (d6 h),h];exact congrArg some e
 ·rw [xf1 hj]
theorem Sl.rng {w:World} {sz b off n c:Nat} {rows:List (List Value)} (h:Sl nF w sz (.slice (some ⟨b,off,none⟩) n c) rows) {k:Nat} {r:List Value} (hk:rows[k]?=some r):w.rangeAt b (off + k * sz) r:=by
 rcases h with ⟨p,c',h1,h2⟩|⟨b',off',cap,h1,-,-,hro⟩
 ·rw [h2] at hk;simp at hk
 ·cases h1
  exact (St.start w).roR hro hk
theorem b56 {sh:List (Sh×Value)} {fr fr':List Fm} {sl sl':List Sw} {sps:List Sp} {hand:Int} {vsh vfr vsl vsp va ve ve':Value} {s:Sc} {sp:Nat} {page:Int} {f:Nat} {data:List UInt8} {dirty:Bool} (hx:sps[sp]?=some ⟨s,va,ve⟩)
  (hl:a1W (a0j (⟨sh,fr,sl,sps,hand,vsh,vfr,vsl,vsp⟩:KV).K f ⟨data,1,dirty,false⟩) (l9 s.entries page)=(⟨sh,fr',sl',sps,hand,vsh,vfr,vsl,vsp⟩:KV).K) :
  (⟨sh,fr',sl',sps.set sp ⟨⟨s.live,s.areas,putE s.entries ⟨page,1,(f:Nat)⟩⟩,va,ve'⟩,hand,vsh,vfr,vsl,vsp⟩:KV).K=inK (⟨sh,fr,sl,sps,hand,vsh,vfr,vsl,vsp⟩:KV).K sp page f data dirty:=by
 have hsc:∀ fr sl,a0E (⟨sh,fr,sl,sps,hand,vsh,vfr,vsl,vsp⟩:KV).K sp=s:=fun fr sl=>by
  unfold a0E KV.K;dsimp only;rw [xh6,hx];rfl
 unfold inK;have he:j9 (⟨sh,fr,sl,sps,hand,vsh,vfr,vsl,vsp⟩:KV).K sp=s.entries:=by unfold j9;rw [hsc]
 rw [he,hl];unfold a10 a9O;rw [hsc];unfold KV.K;dsimp only;rw [xl1]
theorem b6m {F:Nat->Prop} {w0 w:World} {Γ:List Asr} {g0:Nat} {k:KV} {sp:Nat} {vh:Value} {held:List Nat} (hS0:St F w0 w (wkS g0 k sp vh held++Γ)) (hR:KRo (fps (wkS g0 k sp vh held)) w k) {x:Sp} (hx:k.sp[sp]?=some x) {page:Int} {f:Nat} {data:List UInt8} {dirty:Bool} (hf:f < k.fr.length) (hr:Rises (j8 x.s.entries)) (hb:b66 x.s.entries page) (hl:x.s.entries.length<=1000) (hE:∀ e,l9 x.s.entries page=some e->EntOk k e) :
  Fn Tryz.prog 153 [.pointer (some ⟨g0,0,none⟩),.int .i64 page,.int .i64 (f:Nat),.string ⟨data.toArray⟩,.bool dirty] w (fun v w'=>v=.tuple #[]/\∃ k',k'.K=inK k.K sp page f data dirty/\KLike k k'/\St (fps (wkS g0 k sp vh held)) w w' (wkS g0 k' sp vh held)):=by
 have hS:=St.startM hS0;have hxe0:j9 k.K sp=x.s.entries:=by
  unfold j9 a0E KV.K;dsimp only;rw [xh6,hx];rfl
 generalize fps (wkS g0 k sp vh held)=G at hS hR |-;obtain ⟨sh,fr,sl,sps,hand,vsh,vfr,vsl,vsp⟩:=k;dsimp only at hf hx;obtain ⟨e',he'⟩:∃ e':En,e'=⟨page,1,(f:Nat)⟩:=⟨_,rfl⟩;have hR1:KRo G w ⟨sh,fr.set f ⟨data,1,dirty,false⟩,sl,sps,hand,vsh,vfr,vsl,vsp⟩:=hR.like ⟨rfl,rfl,rfl⟩;have hwv:=fun w1 (h:St G w w1 (wkS g0 ⟨sh,fr.set f ⟨data,1,dirty,false⟩,sl,sps,hand,vsh,vfr,vsl,vsp⟩ sp vh held))=>WkV.of (Γ:=[]) (by rw [List.append_nil];exact h) hR1;have hent:=fun w1 h=>a5p (hwv w1 h) (x:=x) hx page hr hb;obtain ⟨fm,hfm⟩:=j0 (l:=fr) (i:=f) (by omega);have hrow:=c9 (f:=fmC) hfm;unfold wkS wkB hdA frA slA a04 at hS;dsimp only [List.cons_append,List.nil_append] at hS;obtain ⟨pf,cf,rfl⟩:=hS.rowSlice 2 rfl;rw [xi9] at hS hent hwv;obtain ⟨gf,rfl⟩:=hS.rowSome 2 rfl (by omega);have hrw:(fr.map fmC).set f (o6 (fmC fm) 0 [.string ⟨data.toArray⟩,.int .i64 1,.bool dirty,.bool false])=(fr.set f ⟨data,1,dirty,false⟩).map fmC:=by
  rw [xl1];exact congrArg (List.set _ _) (b5e fm ⟨data,1,dirty,false⟩)
 have hxr:=c9 (f:=a0c) hx;unfold a0c at hxr;have hxsp:=c9 (f:=spC) hx;obtain ⟨s,va,ve⟩:=x;dsimp only at hr hb hl hE hxr hent hxe0 hxsp;obtain ⟨ps,cs,rfl⟩:=hS.rowSlice 4 rfl;rw [xi9] at hS hent hwv;have hlt:=d6 hx;obtain ⟨gs,rfl⟩:=hS.rowSome 4 rfl (by omega);have hspc:=fun w1 h=>a3R (hwv w1 h) hlt;unfold a2y at hspc;dsimp only at hspc;have hxm:=xd0 hx;have hbs:=fun w1 h=>b1g (t:=page) ((hwv w1 h).ker.spv _ hxm).en hr hb;unfold BsV at hbs;dsimp only at hbs;unfold spC at hxsp;dsimp only at hxsp
 cases hwas:l9 s.entries page with
 |some was=>
  have hEw:=hE was hwas;obtain ⟨hwm,hwp⟩:=a0a hwas;have hm:page ∈ j8 s.entries:=xm5.2 ⟨was,hwm,hwp⟩;have hat:=(a1l hr page).2 hm;obtain ⟨i,hi⟩:∃ i,i=lbd (j8 s.entries) page:=⟨_,rfl⟩;have hwi:s.entries[i]?=some was:=by
   rw [<- hi] at hat;unfold j8 at hat;rw [xh6] at hat;obtain ⟨y,hy,hyp⟩:=xi5.1 hat;have h1:=a3u hr (xd0 hy);rw [hyp,hwas] at h1
   cases h1
   exact hy
  unfold b2J at hent;dsimp only at hent;rw [xf0 hm,<- hi] at hent;have hS2:=hS.pullE 5 hx rfl;obtain ⟨pe,ce,hve⟩:=hS2.rowSlice 0 rfl;dsimp only at hve;rw [xi9] at hve;subst hve;have hel:=d6 hwi;obtain ⟨ge,hge⟩:=hS2.rowSome (p:=pe) (n:=s.entries.length) (cap:=ce) (sz:=3) (rows:=s.entries.map enC) 0 rfl (by omega);subst hge;clear hS2;unfold a2y at hent;dsimp only at hent;have hrowE:=c9 (f:=enC) hwi;have hEw1:EntOk ⟨sh,fr.set f ⟨data,1,dirty,false⟩,sl,sps,hand,vsh,.slice (some ⟨gf,0,none⟩) fr.length cf,vsl,.slice (some ⟨gs,0,none⟩) sps.length cs⟩ was:=by
   refine ⟨?_,fun x hx=>?_,hEw.sl⟩
   ·have:=hEw.names;dsimp only at this |-;rw [xa8];exact this
   ·rcases xm8 hx with h1|rfl
    ·exact hEw.fr x h1
    ·exact ⟨by show (0:Int)<=1;omega,by show (1:Int)<=100000;omega⟩
  obtain ⟨fr',sl',hlv,hlK⟩:∃ fr' sl',a2e ⟨sh,fr.set f ⟨data,1,dirty,false⟩,sl,sps,hand,vsh,.slice (some ⟨gf,0,none⟩) fr.length cf,vsl,.slice (some ⟨gs,0,none⟩) sps.length cs⟩ was=⟨sh,fr',sl',sps,hand,vsh,.slice (some ⟨gf,0,none⟩) fr.length cf,vsl,.slice (some ⟨gs,0,none⟩) sps.length cs⟩/\a3q (⟨sh,fr.set f ⟨data,1,dirty,false⟩,sl,sps,hand,vsh,.slice (some ⟨gf,0,none⟩) fr.length cf,vsl,.slice (some ⟨gs,0,none⟩) sps.length cs⟩:KV).K was=(⟨sh,fr',sl',sps,hand,vsh,.slice (some ⟨gf,0,none⟩) fr.length cf,vsl,.slice (some ⟨gs,0,none⟩) sps.length cs⟩:KV).K:=by
   rw [<- b0g];unfold a2e
   split
   ·exact ⟨_,_,rfl,rfl⟩
   ·exact ⟨_,_,rfl,rfl⟩
  have hlet:=fun w1 Γ1 (h:St G w w1 (wkS g0 ⟨sh,fr.set f ⟨data,1,dirty,false⟩,sl,sps,hand,vsh,.slice (some ⟨gf,0,none⟩) fr.length cf,vsl,.slice (some ⟨gs,0,none⟩) sps.length cs⟩ sp vh held++Γ1))=>b43 h hEw1;rw [hlv] at hlet;unfold enC at hlet;refine yEn Tryz.func153 Tryz.ntmps153 (by kernel_rfl) (by kernel_rfl) rfl rfl ?_
  repeat' (first|(with_reducible apply a8 a7);rfl;rfl;rfl|(with_reducible apply a9);rfl;(apply Ld.sl a7;rfl;exact hS.blkC 0 rfl rfl);rfl|(with_reducible apply l7 a7);rfl;rfl;rfl;rfl;omega;rfl|(with_reducible apply n7 a7);rfl;rfl;(first|exact (rfl:_=some [_,_,_])|exact (rfl:_=some [_,_,_,_]));rfl|refine yDn (by with_reducible constructor) ?_|(with_reducible apply d8 hS a7);rfl;rfl;rfl;clear hS;intro g w' hS|(with_reducible apply b8 hS a7 (i:=0));(iterate 8 rfl);exact (rfl:_=[_,_,_]);clear hS;intro w' hS;simp only [List.set] at hS|(with_reducible apply o5 hS a7 (i:=2));(iterate 4 rfl);assumption;(iterate 5 rfl);intro w' hS';simp only [List.set] at hS';clear hS;have hS:=hS';clear hS')
  rw [hrw] at hS
  repeat' (first|(with_reducible apply a8 a7);rfl;rfl;rfl|refine yDn (by with_reducible constructor) ?_|(with_reducible apply f6);rfl;rfl|(with_reducible apply d7 hS);rfl;rfl;rfl;refine ⟨_,hent _ hS.drop,?_⟩;clear hS;intro w' hS|(with_reducible apply a9T a7);rfl;rfl;rfl;refine ⟨_,((hwv _ hS.drop).ker.spv _ hxm).en.rng hrowE,rfl,?_⟩)
  replace hS:=hS.perm (xm2 _ _).symm
  repeat' (first|(with_reducible apply a8 a7);rfl;rfl;rfl|refine yDn (by with_reducible constructor) ?_|(with_reducible apply r6);rfl;rfl;rfl;refine ⟨_,hlet _ [_] hS,?_⟩;rintro _ w2 ⟨rfl,h2⟩)
  replace hS:=St.transM hS h2;clear h2;replace hS:=hS.perm (xm2 _ _);unfold wkS wkB hdA frA slA a04 at hS;dsimp only [List.cons_append,List.nil_append] at hS;replace hS:=hS.pullE 6 hx rfl;simp only [xl2,xl3,v6] at hS;have hpu:putE s.entries e'=s.entries.set i e':=by
   unfold putE;rw [xf0 (by rw [he'];exact hm)];rw [he',hi]
  have hst:(s.entries.map enC).set i (o6 (enC was) 0 [.int .i64 page,.int .i64 1,.int .i64 (f:Nat)])=(putE s.entries e').map enC:=by
   rw [hpu,xl1,he'];exact congrArg (List.set _ _) (a3W was ⟨page,1,(f:Nat)⟩)
  unfold a0c at hS;dsimp only at hS
  repeat' (first|(with_reducible apply a8 a7);rfl;rfl;rfl|(with_reducible apply a9);rfl;(apply Ld.st a7;rfl;exact hS.blkR 1 rfl;rfl);rfl|refine yDn (by with_reducible constructor) ?_|(with_reducible apply o5 hS a7 (i:=0));(iterate 4 rfl);assumption;(iterate 5 rfl);intro w' hS';simp only [List.set] at hS';clear hS;have hS:=hS';clear hS')
  (refine b2M rfl ?_)
  rw [hst] at hS;replace hS:=St.pushE (y:=⟨⟨s.live,s.areas,putE s.entries e'⟩,va,.slice (some ⟨ge,0,none⟩) s.entries.length ce⟩) hS 6 hx rfl;simp only [xl2,xl3,v6] at hS;simp only [xi9];have hspm:(sps.set sp ⟨⟨s.live,s.areas,putE s.entries e'⟩,va,.slice (some ⟨ge,0,none⟩) s.entries.length ce⟩).map spC=sps.map spC:=a69 hx rfl;rw [<- hspm] at hS;refine ⟨trivial,⟨sh,fr',sl',sps.set sp ⟨⟨s.live,s.areas,putE s.entries e'⟩,va,.slice (some ⟨ge,0,none⟩) s.entries.length ce⟩,hand,vsh,.slice (some ⟨gf,0,none⟩) fr.length cf,vsl,.slice (some ⟨gs,0,none⟩) sps.length cs⟩,?_,⟨rfl,rfl,a69 hx rfl⟩,hS.drop⟩;rw [he'];refine b56 hx ?_;rw [hwas];exact hlK
 |none=>
  have hm:page ∉ j8 s.entries:=a1x.1 hwas;unfold b2J at hent;dsimp only at hent;rw [xf1 hm] at hent;rw [xj0 (show page ∉ s.entries.map fun e=>e.page from hm)] at hbs;refine yEn Tryz.func153 Tryz.ntmps153 (by kernel_rfl) (by kernel_rfl) rfl rfl ?_
  repeat' (first|(with_reducible apply a8 a7);rfl;rfl;rfl|(with_reducible apply a9);rfl;(apply Ld.sl a7;rfl;exact hS.blkC 0 rfl rfl);rfl|(with_reducible apply l7 a7);rfl;rfl;rfl;rfl;omega;rfl|(with_reducible apply n7 a7);rfl;rfl;(first|exact (rfl:_=some [_,_,_])|exact (rfl:_=some [_,_,_,_]));rfl|refine yDn (by with_reducible constructor) ?_|(with_reducible apply d8 hS a7);rfl;rfl;rfl;clear hS;intro g w' hS|(with_reducible apply b8 hS a7 (i:=0));(iterate 8 rfl);exact (rfl:_=[_,_,_]);clear hS;intro w' hS;simp only [List.set] at hS|(with_reducible apply o5 hS a7 (i:=2));(iterate 4 rfl);assumption;(iterate 5 rfl);intro w' hS';simp only [List.set] at hS';clear hS;have hS:=hS';clear hS')
  rw [hrw] at hS
  repeat' (first|(with_reducible apply a8 a7);rfl;rfl;rfl|refine yDn (by with_reducible constructor) ?_|(with_reducible apply f8);rfl;rfl|(with_reducible apply d7 hS);rfl;rfl;rfl;refine ⟨_,hent _ hS.drop,?_⟩;clear hS;intro w' hS|(with_reducible apply d7 hS);rfl;rfl;rfl;refine ⟨_,hspc _ hS.drop,?_⟩;clear hS;intro w' hS|(with_reducible apply d7 hS);rfl;rfl;rfl;refine ⟨_,hbs _ hS.drop,?_⟩;clear hS;intro w' hS|(with_reducible apply a9);rfl;(apply Ld.sl a7;rfl;exact hS.rowCj 5 rfl hxsp rfl);rfl)
  refine a1Y 6 11 12 rfl hS (by kernel_rfl) ?_;intro w10 hS';clear hS;have hS:=hS';clear hS';simp only [xl2,xl3];have hH:=hS.sub (xm3 [_,_,_,_,_,_] _)
  ((with_reducible apply k6 (nn 0) a7);rfl;kernel_rfl;exact (fun _ _ _ h=>h);exact xd3 hH;rfl;rfl)
  ((with_reducible apply k6 (nn 1) a7);rfl;kernel_rfl;exact (fun _ _ _ h=>h);exact xd3 hH;rfl;rfl)
  ((with_reducible apply k6 (nn 2) a7);rfl;kernel_rfl;exact (fun _ _ _ h=>h);exact xd3 hH;rfl;rfl)
  ((with_reducible apply k6 (nn 3) a7);rfl;kernel_rfl;exact (fun _ _ _ h=>h);exact xd3 hH;rfl;rfl)
  ((with_reducible apply o3 (nn 4));rfl;kernel_rfl;kernel_rfl;rfl;exact (fun _ _ _ h=>h);exact hH;rfl;(intro w2 hw2;(replace hw2:St _ _ w2 _:=hw2;apply Ld.sl a7;rfl;exact hw2.rowCj 5 rfl hxsp rfl));rfl)
  ((with_reducible apply k6 (nn 5) a7);rfl;kernel_rfl;exact (fun _ _ _ h=>h);exact xd3 hH;rfl;rfl)
  ((with_reducible apply o3 (nn 6));rfl;kernel_rfl;kernel_rfl;rfl;exact (fun _ _ _ h=>h);exact hH;rfl;(intro w2 hw2;(replace hw2:St _ _ w2 _:=hw2;(apply Ld.st a7;rfl;exact hw2.blkR 0 rfl;rfl)));rfl)
  refine q9 (i:=7) (by kernel_rfl) ?_;refine m9 rfl (o7 hS a7 rfl rfl rfl rfl rfl rfl) rfl ?_;rintro _ w' ⟨gu,rfl,hS'⟩;clear hS;have hS:=hS';clear hS';have hH:=hS.drop.sub (xm3 [_,_,_,_,_,_] _);refine ⟨xd3 (xd3 hH),?_⟩;refine q9 (i:=8) (by kernel_rfl) ?_;replace hS:=hS.pullE 7 hx rfl;simp only [xl2,xl3,v6] at hS;replace hS:=hS.reorderT 2 [0,1] (by decide) rfl;simp only [v6,xl6,xl7] at hS;have hi:=b6c (j8 s.entries) page;unfold j8 at hi;rw [xi9] at hi;have a1N:=b3J (e:=e') (i:=lbd (s.entries.map fun e=>e.page) page) (v:=ve) (u:=.slice (some ⟨gu,0,none⟩) 1 1) (by rw [he'];exact hS) hi (by omega);refine m9 rfl (s9 (first:=[]) (caps:=[]) rfl rfl a1N) rfl ?_;rintro _ w' ⟨q,c,rfl,h2⟩;replace hS:=St.transM (Θ:=[enA ve s.entries,enA (.slice (some ⟨gu,0,none⟩) 1 1) [e']]) (by rw [he'];exact hS) h2;dsimp only [List.cons_append,List.nil_append] at hS;clear h2 a1N;have hH:=hS.drop.sub (xm3 [_,_,_,_,_,_] _);refine ⟨xd3 (xd3 hH),?_⟩
  ((with_reducible apply k6 (nn 9) a7);rfl;kernel_rfl;exact (fun _ _ _ h=>h);exact xd3 hH;rfl;rfl)
  ((with_reducible apply k6 (nn 10) a7);rfl;kernel_rfl;exact (fun _ _ _ h=>h);exact xd3 hH;rfl;rfl)
  refine q9 (i:=11) (by kernel_rfl) ?_;refine a1e (Φ:=fun _ w'=>St _ _ w' _) rfl (a2V hS a7 (i:=6) (kk:=sp) (j:=2) rfl rfl rfl rfl rfl hxsp (a1q rfl) rfl (xd4 _) rfl) ?_;intro _ w' hS';simp only [List.set,o6] at hS';clear hS;have hS:=hS';clear hS';refine ⟨xd6 rfl,?_⟩;refine a1h (by kernel_rfl) ?_
  (refine a7m rfl ?_)
  have hsp1:(sps.map spC).set sp ((([.bool s.live,va,ve]:List Value).set 2 (.slice q (s.entries.length + 1) c)))=(sps.set sp ⟨⟨s.live,s.areas,putE s.entries e'⟩,va,.slice q (s.entries.length + 1) c⟩).map spC:=by
   rw [xl1];rfl
  have hpu:putE s.entries e'=a7u s.entries e':=by
   unfold putE;rw [xf1];rw [he'];exact hm
  have hS2:=hS;replace hS2:St G w w' (a0c ⟨⟨s.live,s.areas,putE s.entries e'⟩,va,.slice q (s.entries.length + 1) c⟩::.blk g [.int .i64 page,.int .i64 1,.int .i64 (f:Nat)]::.blk g0 [vsh,.slice (some ⟨gf,0,none⟩) fr.length cf,vsl,.slice (some ⟨gs,0,none⟩) sps.length cs,.int .i64 hand,.int .i64 (sp:Nat),vh]::.row 3 1 vh (held.map fun i=>[.int .i64 (i:Nat)])::.row 89 4 (.slice (some ⟨gf,0,none⟩) fr.length cf) ((fr.set f ⟨data,1,dirty,false⟩).map fmC)::.row 143 2 vsl (sl.map swC)::.row 75 3 (.slice (some ⟨gs,0,none⟩) sps.length cs) ((sps.set sp ⟨⟨s.live,s.areas,putE s.entries e'⟩,va,.slice q (s.entries.length + 1) c⟩).map spC)::(sps.eraseIdx sp).map a0c):=by
   rw [<- hsp1,hpu,he'];rw [he'] at hS;exact hS
  clear hS;have hS:=hS2;replace hS:=hS.pushE 6 hx rfl;simp only [xl2,xl3,v6] at hS;simp only [xi9];refine ⟨trivial,⟨sh,fr.set f ⟨data,1,dirty,false⟩,sl,sps.set sp ⟨⟨s.live,s.areas,putE s.entries e'⟩,va,.slice q (s.entries.length + 1) c⟩,hand,vsh,.slice (some ⟨gf,0,none⟩) fr.length cf,vsl,.slice (some ⟨gs,0,none⟩) sps.length cs⟩,?_,⟨rfl,rfl,a69 hx rfl⟩,hS.drop⟩;rw [he'];refine b56 hx ?_;rw [hwas];rfl
theorem b0O (s:Sw) (w:World):Fn Tryz.prog 178 [.agg (swC s).toArray] w (RBf (.bool (decide (s.refs=0))) w):=by
 unfold swC;refine yEn Tryz.func178 Tryz.ntmps178 (by kernel_rfl) (by kernel_rfl) rfl rfl ?_;have hS:=St.start w
 repeat' (first|(with_reducible apply a8 a7);rfl;rfl;rfl|(with_reducible apply a9);rfl;(apply Ld.sc a7;rfl;exact hS.blkC 0 rfl rfl);rfl|refine yDn (by with_reducible constructor) ?_|(with_reducible apply l8 hS);rfl;rfl;rfl;clear hS;intro g w' hS)
 (refine k7 rfl ?_)
 exact ⟨rfl,hS.sub (xj1 _)⟩
theorem b0B (e:En) (w:World):Fn Tryz.prog 180 [.agg (enC e).toArray] w (RBf (.bool (decide (e.kind=0))) w):=by
 unfold enC;refine yEn Tryz.func180 Tryz.ntmps180 (by kernel_rfl) (by kernel_rfl) rfl rfl ?_;have hS:=St.start w
 repeat' (first|(with_reducible apply a8 a7);rfl;rfl;rfl|(with_reducible apply a9);rfl;(apply Ld.sc a7;rfl;exact hS.blkC 0 rfl rfl);rfl|refine yDn (by with_reducible constructor) ?_|(with_reducible apply l8 hS);rfl;rfl;rfl;clear hS;intro g w' hS)
 (refine k7 rfl ?_)
 exact ⟨rfl,hS.sub (xj1 _)⟩
theorem b0L (f:Fm) (w:World):Fn Tryz.prog 169 [.agg (fmC f).toArray] w (RBf (.bool (decide (f.refs=0))) w):=by
 unfold fmC;refine yEn Tryz.func169 Tryz.ntmps169 (by kernel_rfl) (by kernel_rfl) rfl rfl ?_;have hS:=St.start w
 repeat' (first|(with_reducible apply a8 a7);rfl;rfl;rfl|(with_reducible apply a9);rfl;(apply Ld.sc a7;rfl;exact hS.blkC 0 rfl rfl);rfl|refine yDn (by with_reducible constructor) ?_|(with_reducible apply l8 hS);rfl;rfl;rfl;clear hS;intro g w' hS)
 (refine k7 rfl ?_)
 exact ⟨rfl,hS.sub (xj1 _)⟩
def a1j (f a b:Int) (e:En):En:=if e.kind=1/\e.at_=f then ⟨e.page,a,b⟩ else e
theorem a5T {f:Int} {t:Option Int} {a b:Int} (ht:(t=none/\a=0/\b=0)\/∃ s,t=some s/\a=2/\b=s):∀ {l:List En},(∀ e ∈ l,e.kind≠0)->(l.map (a1j f a b)).filter (fun e=>!decide (e.kind=0))=l.filterMap (o8 f t)
 |[],_=>rfl
 |e::l,h=>by
  have ih:=a5T (f:=f) ht (l:=l) (fun x hx=>h x (xc6 _ hx));have h0:=h e xc5;rw [xc0,xm9];unfold o8;by_cases he:e.kind=1/\e.at_=f
  ·rw [xf0 he];have hm:a1j f a b e=⟨e.page,a,b⟩:=by unfold a1j;rw [xf0 he]
   rw [hm];rcases ht with ⟨rfl,rfl,rfl⟩|⟨s,rfl,rfl,rfl⟩
   ·rw [xk8 (by simp)];exact ih
   ·rw [xk6 (by simp)];exact congrArg _ ih
  ·rw [xf1 he];have hm:a1j f a b e=e:=by unfold a1j;rw [xf1 he]
   rw [hm,xk6 (by simpa using h0)];exact congrArg _ ih
theorem b2d {f a b:Int} {l:List En} {j:Nat} {e:En} (h:l[j]?=some e):(((l.take j).map (a1j f a b))++l.drop j).set j (a1j f a b e)=((l.take (j + 1)).map (a1j f a b))++l.drop (j + 1):=by
 have hj:=d6 h;rw [r8 h,xl5,xf5 _ _ (by rw [xi9,xa1];omega),xi9,xa1,xj9 (by omega),xf7,a3a h,List.set_cons_zero,xg0];rfl
theorem b1d {f a b:Int} {l:List En} {j:Nat} {e:En} (h:l[j]?=some e):(((l.take j).map (a1j f a b))++l.drop j)[j]?=some e:=by
 have hj:=d6 h;rw [xa5 (by rw [xi9,xa1];omega),xi9,xa1,xj9 (by omega),xf7,a3a h];rfl
theorem b3L {f a b:Int} {l:List En} (j:Nat):(((l.take j).map (a1j f a b))++l.drop j).length=l.length:=by
 rw [xe9,xi9,xa1,xb5];omega
def slT (o:Option Nat) (sl:List Sw) (x:Sw):List Sw:=match o with
 |some t=>sl.set t x
 |none=>sl
structure b1r (k:KV) (f:Nat):Prop where
 lt:f < k.fr.length
 free:(m6 k.fr f).dirty=true->∃ t,a2a k.sl=some t
 len:∀ x ∈ k.sp,x.s.entries.length<=1000
 kind:∀ x ∈ k.sp,∀ e ∈ x.s.entries,e.kind≠0
 sp:k.sp.length<=1000
theorem b2t {l:List Sw} {t:Nat} (h:a2a l=some t):a1F (fun s:Sw=>decide (s.refs=0)) l=((t:Nat):Int):=by
 unfold a1F;unfold a2a at h;rw [h]
theorem a7R {F:Nat->Prop} {w0 w:World} {Γ:List Asr} {g0:Nat} {k:KV} {sp:Nat} {vh:Value} {held:List Nat} (hS0:St F w0 w (wkS g0 k sp vh held++Γ)) {f:Nat} (hA:b1r k f):Fn Tryz.prog 171 [.pointer (some ⟨g0,0,none⟩),.int .i64 (f:Nat)] w (fun v w'=>v=.tuple #[]/\∃ k',k'.K=t4 k.K f/\KLike k k'/\St (fps (wkS g0 k sp vh held)) w w' (wkS g0 k' sp vh held)):=by
 have hS:=St.startM hS0;obtain ⟨hfl,hfree,hlen,hkd,hspl⟩:=hA;generalize fps (wkS g0 k sp vh held)=G at hS |-;obtain ⟨sh,fr,sl,sps,hand,vsh,vfr,vsl,vsp⟩:=k;dsimp only at hfl hfree hlen hkd hspl;obtain ⟨fm,hfm⟩:=j0 (l:=fr) (i:=f) (by omega);have hrow:=c9 (f:=fmC) hfm;rw [p9 hfm] at hfree;unfold wkS wkB hdA frA slA a04 at hS;dsimp only [List.cons_append,List.nil_append] at hS;obtain ⟨pf,cf,rfl⟩:=hS.rowSlice 2 rfl;rw [xi9] at hS;obtain ⟨gf,rfl⟩:=hS.rowSome 2 rfl (by omega);obtain ⟨psl,csl,rfl⟩:=hS.rowSlice 3 rfl;rw [xi9] at hS;obtain ⟨psp,csp,rfl⟩:=hS.rowSlice 4 rfl;rw [xi9] at hS;unfold fmC at hrow;have hsw:=fun w1 (h:Sl nF w1 2 (.slice psl sl.length csl) (sl.map swC))=>b3a (p:=fun s:Sw=>decide (s.refs=0)) (k:=178) (caps:=[]) h (fun x _ w' _=>b0O x w');obtain ⟨aT,haT⟩:∃ o,o=a0w (⟨sh,fr,sl,sps,hand,vsh,.slice (some ⟨gf,0,none⟩) fr.length cf,.slice psl sl.length csl,.slice psp sps.length csp⟩:KV).K f:=⟨_,rfl⟩;have haT2:aT=if fm.dirty then some ((a2a sl).getD 0) else none:=by
  rw [haT];unfold a0w KV.K;dsimp only;rw [p9 hfm]
 refine yEn Tryz.func171 Tryz.ntmps171 (by kernel_rfl) (by kernel_rfl) rfl rfl ?_
 repeat' (first|(with_reducible apply a8 a7);rfl;rfl;rfl|(with_reducible apply a9);rfl;(first|apply Ld.sc a7;rfl;exact hS.rowCj 3 rfl (by assumption) rfl|apply Ld.sl a7;rfl;exact hS.blkC 1 rfl rfl);rfl|(with_reducible apply l7 a7);rfl;rfl;rfl;rfl;omega;rfl|(with_reducible apply n7 a7);rfl;rfl;exact (rfl:_=some [_,_,_]);rfl|refine yDn (by with_reducible constructor) ?_|(with_reducible apply d8 hS a7);rfl;rfl;rfl;clear hS;intro g w' hS|(with_reducible apply b8 hS a7 (i:=0));(iterate 8 rfl);exact (rfl:_=[_,_,_]);clear hS;intro w' hS;simp only [List.set] at hS)
 rename Nat=>gt
 refine a07 (F:=G) (w0:=w) (X:=List Sw×Int×Int) (fun _=>[(0,.pointer (some ⟨g0,0,none⟩)),(1,.int .i64 (f:Nat)),(4,.pointer (some ⟨gt,0,none⟩))]) (fun x=>[.blk gt [.int .i64 0,.int .i64 x.2.1,.int .i64 x.2.2],.blk g0 [vsh,.slice (some ⟨gf,0,none⟩) fr.length cf,.slice psl sl.length csl,.slice psp sps.length csp,.int .i64 hand,.int .i64 (sp:Nat),vh],.row 3 1 vh (held.map fun i=>[.int .i64 (i:Nat)]),.row 89 4 (.slice (some ⟨gf,0,none⟩) fr.length cf) (fr.map fmC),.row 143 2 (.slice psl sl.length csl) (x.1.map swC),.row 75 3 (.slice psp sps.length csp) (sps.map spC)]++sps.map a0c) (fun x=>(aT=none/\x=(sl,0,0))\/∃ t:Nat,aT=some t/\t < sl.length/\x=(sl.set t ⟨fm.data,fm.refs⟩,2,((t:Nat):Int))) ?_ ?_
 ·cases hd:fm.dirty with
  |false=>
   rw [hd,xf1 (by simp)] at haT2
   repeat' (first|refine yDn (by with_reducible constructor) ?_|(with_reducible apply f8);rfl;rfl)
   exact n5 (sl,0,0) (by exact Fr.sub_of rfl) (xd6 ⟨haT2,rfl⟩) hS
  |true=>
   obtain ⟨t,ht⟩:=hfree hd;rw [hd,xf0 rfl,ht] at haT2;rw [b2t ht] at hsw;obtain ⟨s0,hs0,-⟩:=a2v ht;have htl:=d6 hs0;have hrowS:=c9 (f:=swC) hs0;obtain ⟨gsl,rfl⟩:=hS.rowSome 4 rfl (by omega);have est:(sl.map swC).set t (o6 (swC s0) 0 [.string ⟨fm.data.toArray⟩,.int .i64 fm.refs])=(sl.set t ⟨fm.data,fm.refs⟩).map swC:=by
    rw [xl1];exact congrArg (List.set _ _) (b1k s0 ⟨fm.data,fm.refs⟩)
   repeat' (first|(with_reducible apply a8 a7);rfl;rfl;rfl|(with_reducible apply a9);rfl;(apply Ld.sl a7;rfl;exact hS.blkC 1 rfl rfl);rfl|refine yDn (by with_reducible constructor) ?_|(with_reducible apply f6);rfl;rfl|(with_reducible apply d7 hS);rfl;rfl;rfl;refine ⟨_,hsw _ (hS.rowSl 4 rfl),?_⟩;clear hS;intro w' hS)
   (focus ((with_reducible apply a0p _ _ _ 26 (by kernel_rfl) (by kernel_rfl) hS);(simp only [xl2,xl3,xl6,xl7]);(repeat' ((first|(with_reducible apply i7 a7);rfl;rfl|(with_reducible apply i9);rfl;(intro wd hd;replace hd:St _ _ wd _:=hd;(first|apply Ld.sc a7;rfl;(first|exact hd.rowC0 3 rfl (by assumption) rfl|exact hd.rowCj 3 rfl (by assumption) rfl)|apply Ld.sl a7;rfl;exact hd.blkC 1 rfl rfl));rfl|(with_reducible apply y8 a7);rfl;rfl;rfl;rfl;omega;rfl|(with_reducible apply a1Z a7);rfl;rfl;exact (rfl:_=some [_,_]);rfl)));all_goals ((with_reducible apply j7);intro w' hS';clear hS;have hS:=hS';clear hS')))
   repeat' (first|(with_reducible apply a8 a7);rfl;rfl;rfl|(with_reducible apply n7 a7);rfl;rfl;exact (rfl:_=some [_,_,_]);rfl|refine yDn (by with_reducible constructor) ?_|(with_reducible apply b8 hS a7 (i:=0));(iterate 8 rfl);exact (rfl:_=[_,_,_]);clear hS;intro w' hS;simp only [List.set] at hS|(with_reducible apply o5 hS a7 (i:=4));(iterate 4 rfl);assumption;(iterate 5 rfl);intro w' hS';simp only [List.set] at hS';clear hS;have hS:=hS';clear hS')
   rw [est] at hS;exact n5 (sl.set t ⟨fm.data,fm.refs⟩,2,((t:Nat):Int)) (by exact Fr.sub_of rfl) (xd3 ⟨t,haT2,htl,rfl⟩) hS
 clear hS hsw;rintro ⟨sl',a,b⟩ w1 hp hS;dsimp only [List.cons_append,List.nil_append] at hp hS;obtain ⟨T,hT⟩:∃ T:Option Int,T=aT.map fun (t:Nat)=>(t:Int):=⟨_,rfl⟩;have ht:(T=none/\a=0/\b=0)\/∃ s,T=some s/\a=2/\b=s:=by
  rcases hp with ⟨h1,h2⟩|⟨t,h1,-,h2⟩
  ·cases h2
   rw [h1] at hT;exact xd6 ⟨hT,rfl,rfl⟩
  ·cases h2
   rw [h1] at hT;exact xd3 ⟨_,hT,rfl,rfl⟩
 have hsl':sl'=slT aT sl ⟨fm.data,fm.refs⟩:=by
  rcases hp with ⟨h1,h2⟩|⟨t,h1,-,h2⟩
  ·cases h2;rw [h1];rfl
  ·cases h2;rw [h1];rfl
 have hsll:sl'.length=sl.length:=by
  rw [hsl']
  cases aT with
  |none=>rfl
  |some t=>exact xa8
 clear hp
 repeat' (first|(with_reducible apply a8 a7);rfl;rfl;rfl|(with_reducible apply a9);rfl;(apply Ld.sl a7;rfl;exact hS.blkC 1 rfl rfl);rfl|refine yDn (by with_reducible constructor) ?_)
 refine k9 (F:=G) (w0:=w) (X:=Nat×List Sp) (fun x=>[(59,.int .i64 (x.1:Nat))]) [0,1,4,58] rfl (fun x=>[.blk gt [.int .i64 0,.int .i64 a,.int .i64 b],.blk g0 [vsh,.slice (some ⟨gf,0,none⟩) fr.length cf,.slice psl sl.length csl,.slice psp sps.length csp,.int .i64 hand,.int .i64 (sp:Nat),vh],.row 3 1 vh (held.map fun i=>[.int .i64 (i:Nat)]),.row 89 4 (.slice (some ⟨gf,0,none⟩) fr.length cf) (fr.map fmC),.row 143 2 (.slice psl sl.length csl) (sl'.map swC),.row 75 3 (.slice psp sps.length csp) (x.2.map spC)]++x.2.map a0c) (Γ:=[]) (fun x=>x.1<=sps.length/\x.2.length=sps.length/\∀ (j:Nat) y,sps[j]?=some y->(x.1<=j->x.2[j]?=some y)/\(j < x.1->∃ ve',x.2[j]?=some ⟨z8 (f:Nat) T y.s,y.va,ve'⟩)) (fun x=>sps.length - x.1) (0,sps) (by exact Fr.sub_of rfl) ⟨xg4 _,rfl,fun j y hy=>⟨fun _=>hy,fun h=>absurd h (Nat.not_lt_zero _)⟩⟩ (by rw [List.append_nil];exact hS) ?_;clear hS;rintro ⟨i,SPS⟩ w2 ⟨hi,hSl,hinv⟩ hS;dsimp only [List.cons_append,List.nil_append] at hi hSl hinv hS |-;rw [List.append_nil] at hS;by_cases hlt:i < sps.length;rotate_left
 ·obtain rfl:i=sps.length:=by omega
  repeat' (first|(with_reducible apply a8 a7);rfl;rfl;rfl|(with_reducible apply a9);rfl;(apply Ld.sl a7;rfl;exact hS.blkC 1 rfl rfl);rfl|(with_reducible apply l7 a7);rfl;rfl;rfl;rfl;omega;rfl|(with_reducible apply n7 a7);rfl;rfl;exact (rfl:_=some [_,_,_,_]);rfl|refine yDn (by with_reducible constructor) ?_|(with_reducible apply b9);rfl;all_goals (intro hb hp;try (exfalso;omega))|(with_reducible apply o5 hS a7 (i:=3));(iterate 4 rfl);assumption;(iterate 5 rfl);intro w' hS';simp only [List.set] at hS';clear hS;have hS:=hS';clear hS')
  (refine a7m rfl ?_)
  have hfs:(fr.map fmC).set f (o6 [.string ⟨fm.data.toArray⟩,.int .i64 fm.refs,.bool fm.dirty,.bool fm.seen] 0 [.string ⟨#[]⟩,.int .i64 0,.bool false,.bool false])=(fr.set f fm0).map fmC:=by
   rw [xl1];rfl
  rw [hfs] at hS;have hinv2:∀ (j:Nat) y,sps[j]?=some y->∃ ve',SPS[j]?=some ⟨z8 (f:Nat) T y.s,y.va,ve'⟩:=fun j y hy=>(hinv j y hy).2 (d6 hy);refine ⟨rfl,⟨sh,fr.set f fm0,sl',SPS,hand,vsh,.slice (some ⟨gf,0,none⟩) fr.length cf,.slice psl sl.length csl,.slice psp sps.length csp⟩,?_,⟨rfl,rfl,?_⟩,?_⟩
  ·unfold KV.K t4;have h1:SPS.map (·.s)=(sps.map (·.s)).map (z8 (f:Nat) T):=by
    refine xh1 fun j=>?_;rw [xh6,xh6,xh6]
    cases hj:sps[j]? with
    |none=>
     rw [xn0] at hj;rw [xh8 (by omega)];rfl
    |some y=>
     obtain ⟨ve',h⟩:=hinv2 j y hj;rw [h];rfl
   dsimp only;rw [h1,hsl',hT];have h2:a0w (⟨shs sh,fr,sl,sps.map (·.s),hand⟩:Ker) f=aT:=by rw [haT];rfl
   rw [h2,p9 hfm]
   cases aT <;> rfl
  ·show (SPS.map fun p=>(p.va,p.s.areas))=sps.map fun p=>(p.va,p.s.areas);refine xh1 fun j=>?_;rw [xh6,xh6]
   cases hj:sps[j]? with
   |none=>
    rw [xn0] at hj;rw [xh8 (by omega)]
   |some y=>
    obtain ⟨ve',h⟩:=hinv2 j y hj;rw [h];rfl
  ·exact hS.drop
 obtain ⟨x,hx0⟩:=j0 (l:=sps) (i:=i) (by omega);have hx:=(hinv i x hx0).1 (xd4 _);have hlx:=hlen x (xd0 hx0);have hkx:=hkd x (xd0 hx0);have hrowi:=c9 (f:=spC) hx;obtain ⟨gs,rfl⟩:=hS.rowSome 5 rfl (by omega);obtain ⟨s,va,ve⟩:=x;dsimp only at hlx hkx;unfold spC at hrowi;dsimp only at hrowi;replace hS:=hS.pullE 6 hx rfl;simp only [xl2,xl3,v6] at hS;unfold a0c at hS;dsimp only at hS;obtain ⟨pe,ce,rfl⟩:=hS.rowSlice 0 rfl;simp only [xi9] at hS hx0 hx hrowi
 repeat' (first|(with_reducible apply a8 a7);rfl;rfl;rfl|(with_reducible apply a9);rfl;(apply Ld.sl a7;rfl;exact hS.blkC 2 rfl rfl);rfl|(with_reducible apply l7 a7);rfl;rfl;rfl;rfl;omega;rfl|refine yDn (by with_reducible constructor) ?_|(with_reducible apply b9);rfl;all_goals (intro hb hp;try (exfalso;omega))|(with_reducible apply a9);rfl;(apply Ld.sl a7;rfl;exact hS.rowCj 6 rfl hrowi rfl);rfl)
 refine k9 (X:=Nat) (fun x=>[(73,.int .i64 (x:Nat))]) [0,1,4,58,59,6,7,72] rfl (fun x=>[.row 91 3 (.slice pe s.entries.length ce) ((((s.entries.take x).map (a1j (f:Nat) a b))++s.entries.drop x).map enC)]) (fun x=>x<=s.entries.length) (fun x=>s.entries.length - x) 0 (by exact Fr.sub_of rfl) (xg4 _) hS ?_;clear hS;rintro j w3 hj hS;dsimp only [List.cons_append,List.nil_append] at hj hS |-;by_cases hjl:j < s.entries.length
 ·obtain ⟨e,he⟩:=j0 (l:=s.entries) (i:=j) (by omega);have hrowj:=c9 (f:=enC) (b1d (f:=(f:Nat)) (a:=a) (b:=b) he);have hstep:=b2d (f:=(f:Nat)) (a:=a) (b:=b) he;obtain ⟨ge,hge⟩:=hS.rowSome (p:=pe) (n:=s.entries.length) (cap:=ce) (sz:=3) 0 rfl (by omega);subst hge;unfold enC at hrowj;by_cases hk:e.kind=1/\e.at_=(f:Nat)
  ·have hd1:decide (e.kind=1)=true:=xj2 hk.1;have hd2:decide (e.at_=((f:Nat):Int))=true:=xj2 hk.2;have hm:a1j (f:Nat) a b e=⟨e.page,a,b⟩:=by unfold a1j;rw [xf0 hk]
   rw [hm] at hstep;have hst:((((s.entries.take j).map (a1j (f:Nat) a b))++s.entries.drop j).map enC).set j (o6 [.int .i64 e.page,.int .i64 e.kind,.int .i64 e.at_] 0 [.int .i64 e.page,.int .i64 a,.int .i64 b])=(((s.entries.take (j + 1)).map (a1j (f:Nat) a b))++s.entries.drop (j + 1)).map enC:=by
    rw [<- hstep,xl1];exact congrArg (List.set _ _) (a3W e ⟨e.page,a,b⟩)
   repeat' (first|(with_reducible apply a8 a7);rfl;rfl;rfl|(with_reducible apply a9);rfl;(apply Ld.sc a7;rfl;exact hS.rowCj 0 rfl (by assumption) rfl);rfl|(with_reducible apply l7 a7);rfl;rfl;rfl;rfl;omega;rfl|refine yDn (by with_reducible constructor) ?_|(with_reducible apply k8);(iterate 4 rfl);assumption|(with_reducible apply j3);rfl;assumption;rfl;rfl|(with_reducible apply f6);rfl;assumption|(with_reducible apply b9);rfl;all_goals (intro hb hp;try (exfalso;omega)))
   (focus ((with_reducible apply a0p _ _ _ 13 (by kernel_rfl) (by kernel_rfl) hS);(simp only [xl2,xl3,xl6,xl7]);(repeat' ((first|(with_reducible apply i7 a7);rfl;rfl|(with_reducible apply i9);rfl;(intro wd hd;replace hd:St _ _ wd _:=hd;(apply Ld.sc a7;rfl;(first|exact hd.blkC 1 rfl rfl|exact hd.rowC0 0 rfl (by assumption) rfl)));rfl|(with_reducible apply y8 a7);rfl;rfl;rfl;rfl;omega;rfl|(with_reducible apply a1Z a7);rfl;rfl;exact (rfl:_=some [_,_,_]);rfl)));all_goals ((with_reducible apply j7);intro w' hS';clear hS;have hS:=hS';clear hS')))
   repeat' (first|(with_reducible apply a8 a7);rfl;rfl;rfl|(with_reducible apply j4);rfl;rfl;omega;omega;rfl|refine yDn (by with_reducible constructor) ?_|(with_reducible apply o5 hS a7 (i:=0));(iterate 4 rfl);assumption;(iterate 5 rfl);intro w' hS';simp only [List.set] at hS';clear hS;have hS:=hS';clear hS')
   rw [hst] at hS;exact e9 (j + 1) (by exact Fr.sub_of rfl) (by show j + 1<=s.entries.length;omega) hS (by show s.entries.length - (j + 1) < s.entries.length - j;omega)
  ·have hm:a1j (f:Nat) a b e=e:=by unfold a1j;rw [xf1 hk]
   rw [hm] at hstep;have hst:((s.entries.take j).map (a1j (f:Nat) a b))++s.entries.drop j=((s.entries.take (j + 1)).map (a1j (f:Nat) a b))++s.entries.drop (j + 1):=by
    rw [<- hstep];refine (xh1 fun q=>?_).symm;rw [xe0];by_cases hq:j=q
    ·subst hq;rw [xf0 rfl,b1d he,xf0 (by rw [b3L];omega)]
    ·rw [xf1 hq]
   by_cases hk1:e.kind=1
   ·have hd1:decide (e.kind=1)=true:=xj2 hk1;have hd2:decide (e.at_=((f:Nat):Int))=false:=xj0 (fun h=>hk ⟨hk1,h⟩)
    repeat' (first|(with_reducible apply a8 a7);rfl;rfl;rfl|(with_reducible apply a9);rfl;(apply Ld.sc a7;rfl;exact hS.rowCj 0 rfl (by assumption) rfl);rfl|(with_reducible apply l7 a7);rfl;rfl;rfl;rfl;omega;rfl|(with_reducible apply j4);rfl;rfl;omega;omega;rfl|refine yDn (by with_reducible constructor) ?_|(with_reducible apply k8);(iterate 4 rfl);assumption|(with_reducible apply j3);rfl;assumption;rfl;rfl|(with_reducible apply f8);rfl;assumption|(with_reducible apply b9);rfl;all_goals (intro hb hp;try (exfalso;omega)))
    rw [hst] at hS;exact e9 (j + 1) (by exact Fr.sub_of rfl) (by show j + 1<=s.entries.length;omega) hS (by show s.entries.length - (j + 1) < s.entries.length - j;omega)
   ·have hd1:decide (e.kind=1)=false:=xj0 hk1
    repeat' (first|(with_reducible apply a8 a7);rfl;rfl;rfl|(with_reducible apply a9);rfl;(apply Ld.sc a7;rfl;exact hS.rowCj 0 rfl (by assumption) rfl);rfl|(with_reducible apply l7 a7);rfl;rfl;rfl;rfl;omega;rfl|(with_reducible apply j4);rfl;rfl;omega;omega;rfl|refine yDn (by with_reducible constructor) ?_|(with_reducible apply x8);(iterate 4 rfl);assumption;rfl|(with_reducible apply f5);rfl;assumption;rfl;rfl|(with_reducible apply f8);rfl;rfl|(with_reducible apply b9);rfl;all_goals (intro hb hp;try (exfalso;omega)))
    rw [hst] at hS;exact e9 (j + 1) (by exact Fr.sub_of rfl) (by show j + 1<=s.entries.length;omega) hS (by show s.entries.length - (j + 1) < s.entries.length - j;omega)
 ·obtain rfl:j=s.entries.length:=by omega
  rw [xg6,xl4,List.append_nil] at hS
  repeat' (first|(with_reducible apply a8 a7);rfl;rfl;rfl|refine yDn (by with_reducible constructor) ?_|(with_reducible apply b9);rfl;all_goals (intro hb hp;try (exfalso;omega)))
  replace hS:=hS.reorderT 3 [2,1,0] (by decide) rfl;simp only [v6,xl6,xl7] at hS;refine a1Y 2 10 11 rfl hS (by kernel_rfl) ?_;intro w10 hS';clear hS;have hS:=hS';clear hS';simp only [xl2,xl3];have hH:=hS.sub (xm3 [_,_] _)
  ((with_reducible apply k6 (nn 0) a7);rfl;kernel_rfl;exact (fun _ _ _ h=>h);exact xd3 hH;rfl;rfl)
  ((with_reducible apply k6 (nn 1) a7);rfl;kernel_rfl;exact (fun _ _ _ h=>h);exact xd3 hH;rfl;rfl)
  ((with_reducible apply k6 (nn 2) a7);rfl;kernel_rfl;exact (fun _ _ _ h=>h);exact xd3 hH;rfl;rfl)
  ((with_reducible apply k6 (nn 3) a7);rfl;kernel_rfl;exact (fun _ _ _ h=>h);exact xd3 hH;rfl;rfl)
  ((with_reducible apply o3 (nn 4));rfl;kernel_rfl;kernel_rfl;rfl;exact (fun _ _ _ h=>h);exact hH;rfl;(intro w2 hw2;(replace hw2:St _ _ w2 _:=hw2;(apply Ld.sl a7;rfl;exact hw2.blkC 0 rfl rfl)));rfl)
  ((with_reducible apply k6 (nn 5) a7);rfl;kernel_rfl;exact (fun _ _ _ h=>h);exact xd3 hH;rfl;rfl)
  ((with_reducible apply k6 (nn 6) a7);rfl;kernel_rfl;exact (fun _ _ _ h=>h);exact xd3 hH;rfl;rfl)
  replace hS:=hS.reorderT 3 [2,0,1] (by decide) rfl;simp only [v6,xl6,xl7] at hS;have hdel:=b3h (p:=fun e:En=>decide (e.kind=0)) (k:=180) (caps:=[]) (v:=.slice pe s.entries.length ce) (l:=s.entries.map (a1j (f:Nat) a b)) hS (fun x _ w' Γ' _=>b0B x w');rw [a5T ht hkx] at hdel;refine q9 (i:=7) (by kernel_rfl) ?_;refine m9 rfl (s9 (first:=[]) (caps:=[]) rfl rfl hdel) rfl ?_;rintro _ w' ⟨q,c,rfl,h2⟩;replace hS:=St.transM (Θ:=[enA (.slice pe s.entries.length ce) (s.entries.map (a1j (f:Nat) a b))]) hS h2;dsimp only [List.cons_append,List.nil_append] at hS;clear h2 hdel;have hH:=hS.drop.sub (xm3 [_,_] _);refine ⟨xd3 (xd3 hH),?_⟩
  ((with_reducible apply a2M (nn 8));rfl;kernel_rfl;kernel_rfl;kernel_rfl;rfl;exact (fun _ _ _ h=>h);exact xd3 hH;(intro a ha;exact a5i a7 (j:=i) rfl rfl rfl rfl (by omega) a ha _);rfl)
  ((with_reducible apply k6 (nn 9) a7);rfl;kernel_rfl;exact (fun _ _ _ h=>h);exact xd3 hH;rfl;rfl)
  refine q9 (i:=10) (by kernel_rfl) ?_;refine a1e (Φ:=fun _ w'=>St _ _ w' _) rfl (a2V hS a7 (i:=6) (kk:=i) (j:=2) rfl rfl rfl rfl rfl hrowi (a1q rfl) rfl (xd4 _) rfl) ?_;intro _ w' hS';simp only [List.set,o6] at hS';clear hS;have hS:=hS';clear hS';refine ⟨xd6 rfl,?_⟩;refine a1h (by kernel_rfl) ?_;have hsp1:(SPS.map spC).set i [.bool s.live,va,.slice q (s.entries.filterMap (o8 (f:Nat) T)).length c]=(SPS.set i ⟨z8 (f:Nat) T s,va,.slice q (s.entries.filterMap (o8 (f:Nat) T)).length c⟩).map spC:=by
   rw [xl1];rfl
  rw [hsp1] at hS;replace hS:=St.pushE (y:=⟨z8 (f:Nat) T s,va,.slice q (s.entries.filterMap (o8 (f:Nat) T)).length c⟩) hS 6 hx rfl;simp only [xl2,xl3,v6] at hS;replace hS:=hS.reorderT 2 [1,0] (by decide) rfl;simp only [v6,xl6,xl7] at hS
  repeat' (first|(with_reducible apply a8 a7);rfl;rfl;rfl|(with_reducible apply j4);rfl;rfl;omega;omega;rfl|refine yDn (by with_reducible constructor) ?_)
  refine e9 (i + 1,SPS.set i ⟨z8 (f:Nat) T s,va,.slice q (s.entries.filterMap (o8 (f:Nat) T)).length c⟩) (by exact Fr.sub_of rfl) ⟨by show i + 1<=sps.length;omega,by show (SPS.set i _).length=_;rw [xa8];exact hSl,fun j y hy=>?_⟩ (by rw [List.append_nil];exact hS) (by show sps.length - (i + 1) < sps.length - i;omega);obtain ⟨h1,h2⟩:=hinv j y hy;refine ⟨fun h=>?_,fun h=>?_⟩
  ·show (SPS.set i _)[j]?=some y;rw [xn1 (by have:i + 1<=j:=h;omega)];exact h1 (by have:i + 1<=j:=h;omega)
  ·show ∃ ve',(SPS.set i _)[j]?=_;by_cases hij:i=j
   ·subst hij;rw [hx0] at hy
    cases hy
    exact ⟨_,a2f (by omega)⟩
   ·rw [xn1 hij];exact h2 (by have:j < i + 1:=h;omega)
end Go.Proofs.YtejnpppejalhfabGreat
