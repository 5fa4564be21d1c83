/- Texts that the proof stands on, one behind the other: Ke15, Ke16, Ke17, Ke18, Ke19, Ke20, Ke21, Ke39, Ke22, Ke23, Ke40, Ke24, Ke25, Sc27, Ke26, Ke27, Ke28, Ke29, Ke30, Ke31, Ke32, Ke41. -/
import Derived.Test.YtejnpppejalhfacGreatPKernelMaps10
set_option linter.unusedVariables false
set_option linter.unusedSimpArgs false
namespace Go.Proofs.YtejnpppejalhfacGreat
set_option maxRecDepth 100000
set_option maxHeartbeats 8000000
open Go.RowKit Go.Sort
def fxA (x:Sh×Value):Asr:=.row 156 2 x.2 (x.1.fixes.map fxC)
def a17 (p:Sp):Asr:=.row 136 4 p.va (p.s.areas.map arC)
def x9 (p:Sp):Asr:=.row 82 3 p.ve (p.s.entries.map enC)
def spA (l:List Sp):List Asr:=l.flatMap fun p=>[a17 p,x9 p]
theorem a4g (l:List Sp) (p:Sp):spA (l++[p])=spA l++[a17 p,x9 p]:=by unfold spA;rw [List.flatMap_append,xk8,xk9,List.append_nil]
def a2r (N:List (Sh×Value)):List (List Value):=N.map fun p=>shC p.1 p.2
def kA (k:KV):List Asr:=.row 142 3 k.vsh (a2r k.sh)::.row 84 4 k.vfr (k.fr.map fmC)::.row 88 2 k.vsl (k.sl.map swC)::.row 78 3 k.vsp (k.sp.map spC)::(k.sh.map fxA++spA k.sp)
structure KBd (k:KV):Prop where
 fr:k.fr.length<=1000
 sl:k.sl.length<=1000
 sh:k.sh.length<=1000
 sp:k.sp.length<=1000
 fx:∀ x ∈ k.sh,x.1.fixes.length<=1000
 ar:∀ p ∈ k.sp,p.s.areas.length<=1000
 en:∀ p ∈ k.sp,p.s.entries.length<=1000
theorem b6F {w:World} {k:KV} (hK:KerV w k) (hB:KBd k):Fn Tryz.prog 45 [.agg (kvC k).toArray] w (fun v w'=>∃ k':KV,v=.agg (kvC k').toArray/\k'.K=k.K/\St nF w w' (kA k')):=by
 obtain ⟨sh,fr,sl,sp,hand,vsh,vfr,vsl,vsp⟩:=k;obtain ⟨k1,k2,k3,k4,k5⟩:=hK;obtain ⟨b1,b2,b3,b4,b5,b6,b7⟩:=hB;dsimp only at k1 k2 k3 k4 k5 b1 b2 b3 b4 b5 b6 b7 |-;obtain ⟨p1,c1,rfl⟩:=k1.sl.len;obtain ⟨p2,c2,rfl⟩:=k2.len;obtain ⟨p3,c3,rfl⟩:=k3.len;obtain ⟨p4,c4,rfl⟩:=k4.len;unfold kvC;dsimp only;refine yEn Tryz.func45 Tryz.ntmps45 (by kernel_rfl) (by kernel_rfl) rfl rfl ?_;have hS:=St.start w
 repeat' (first|refine yDn (by with_reducible constructor) ?_|(with_reducible apply j6 hS);rfl;rfl;rfl;clear hS;intro g w' hS|(with_reducible apply f5 hS c9);rfl;rfl;rfl;clear hS;intro g w' hS)
 rename Nat=>g2
 obtain ⟨g1,hg2⟩:∃ q,q=g:=⟨_,rfl⟩;rw [<- hg2] at hS |-;clear hg2 g;replace hS:St nF w w' (.blk g2 [.slice none 0 0,.slice none 0 0,.slice none 0 0,.slice none 0 0,.int .i64 0]::.blk g1 [.slice p1 sh.length c1,.slice p2 fr.length c2,.slice p3 sl.length c3,.slice p4 sp.length c4,.int .i64 hand]::[]):=hS;refine b17 (F:=nF) (w0:=w) (X:=Nat×Option Addr×Nat×Option Addr×Nat) (fun x=>[(1,.pointer (some ⟨g1,0,none⟩)),(2,.pointer (some ⟨g2,0,none⟩)),(3,.pointer (some ⟨x.1,0,none⟩))]) (fun x=>[.blk x.1 [.slice none 0 0,.slice x.2.1 fr.length x.2.2.1,.slice x.2.2.2.1 sl.length x.2.2.2.2,.slice none 0 0,.int .i64 hand],.row 84 4 (.slice x.2.1 fr.length x.2.2.1) (fr.map fmC),.row 88 2 (.slice x.2.2.2.1 sl.length x.2.2.2.2) (sl.map swC),.blk g2 [.slice none 0 0,.slice none 0 0,.slice none 0 0,.slice none 0 0,.int .i64 0],.blk g1 [.slice p1 sh.length c1,.slice p2 fr.length c2,.slice p3 sl.length c3,.slice p4 sp.length c4,.int .i64 hand]]) (fun _=>True) ?_ ?_
 ·refine a7t 11 rfl hS (by kernel_rfl) ?_;intro wh hh;clear hS;have hS:=hh;clear hh
  ((with_reducible apply t6 (nn 0) c9);rfl;kernel_rfl;exact (fun _ _ _ h=>h);exact (hS.sub (by repeat ((exact xk7 _))));rfl;rfl)
  ((with_reducible apply a0o (nn 1));rfl;kernel_rfl;exact (fun _ _ _ h=>h);exact (hS.sub (by repeat ((exact xk7 _))));rfl;(intro wd hd;replace hd:St _ _ wd _:=hd;(apply Ld.sc c9;rfl;exact hd.blkC 1 rfl rfl));rfl)
  ((with_reducible apply t6 (nn 2) c9);rfl;kernel_rfl;exact (fun _ _ _ h=>h);exact (hS.sub (by repeat ((exact xk7 _))));rfl;rfl)
  ((with_reducible apply a0o (nn 3));rfl;kernel_rfl;exact (fun _ _ _ h=>h);exact (hS.sub (by repeat ((exact xk7 _))));rfl;(intro wd hd;replace hd:St _ _ wd _:=hd;(apply Ld.sl c9;rfl;exact hd.blkC 1 rfl rfl));rfl)
  ((with_reducible apply t6 (nn 5) c9);rfl;kernel_rfl;exact (fun _ _ _ h=>h);exact (hS.sub (by repeat ((exact xk7 _))));rfl;rfl)
  ((with_reducible apply a0o (nn 6));rfl;kernel_rfl;exact (fun _ _ _ h=>h);exact (hS.sub (by repeat ((exact xk7 _))));rfl;(intro wd hd;replace hd:St _ _ wd _:=hd;(apply Ld.sl c9;rfl;exact hd.blkC 1 rfl rfl));rfl)
  refine a4t (i:=4) (j:=9) (by kernel_rfl) ?_ ?_
  ·refine n7 rfl (a1k (first:=[]) (caps:=[]) rfl rfl (a5Y (k2.now hS) (by omega))) rfl ?_;rintro _ w' ⟨qF,cF,rfl,hS'⟩;replace hS:=hS.transA hS';simp only [t5] at hS;clear hS';refine ⟨(hS.sub (by repeat (first|exact xk7 _|apply xl0))),?_⟩;refine a4t (i:=7) (j:=9) (by kernel_rfl) ?_ ?_
   ·refine n7 rfl (a1k (first:=[]) (caps:=[]) rfl rfl (a3G (k3.now hS) (by omega))) rfl ?_;rintro _ w' ⟨qS,cS,rfl,hS'⟩;replace hS:=hS.transA hS';simp only [t5] at hS;clear hS';refine ⟨(hS.sub (by repeat (first|exact xk7 _|apply xl0))),?_⟩
    ((with_reducible apply a1R (nn 8) c9);rfl;kernel_rfl;kernel_rfl;kernel_rfl;exact (fun _ _ _ _ h=>h);exact (hS.sub (by repeat (first|exact xk7 _|apply xl0)));rfl;rfl;exact (rfl:_=some [_,_,_,_,_]);rfl)
    refine s8 (i:=9) (by kernel_rfl) ?_;refine n7 rfl (t8 hS c9 rfl rfl) rfl ?_;rintro _ w' ⟨g3,rfl,hS'⟩;clear hS;have hS:=hS';clear hS';refine ⟨(hS.sub (by repeat (first|exact xk7 _|apply xl0))),?_⟩;refine s8 (i:=10) (by kernel_rfl) ?_;refine a0e (Φ:=fun _ w'=>St _ _ w' _) rfl (s9 hS c9 (i:=0) rfl rfl rfl rfl rfl (xf6 rfl) (xc6.1 rfl)) ?_;intro _ w' hS';simp only [List.set] at hS';clear hS;have hS:=hS';clear hS';refine ⟨(hS.sub (by repeat (first|exact xk7 _|apply xl0))),?_⟩;refine a0B (by kernel_rfl) ?_;replace hS:=St.reorder [0,2,1,3,4] hS (by decide) rfl;exact a1Y (g3,qF,cF,qS,cS) (by exact Fr.sub_of rfl) trivial hS
   ·refine n7 rfl (t8 hS c9 rfl rfl) rfl ?_;rintro _ w' ⟨g3,rfl,hS'⟩;clear hS;have hS:=hS';clear hS';refine ⟨(hS.sub (by repeat (first|exact xk7 _|apply xl0))),?_⟩;refine s8 (i:=7) (by kernel_rfl) ?_;refine n7 rfl (a1k (first:=[]) (caps:=[]) rfl rfl (a3G (k3.now hS) (by omega))) rfl ?_;rintro _ w' ⟨qS,cS,rfl,hS'⟩;replace hS:=hS.transA hS';simp only [t5] at hS;clear hS';refine ⟨(hS.sub (by repeat (first|exact xk7 _|apply xl0))),?_⟩
    ((with_reducible apply a1R (nn 8) c9);rfl;kernel_rfl;kernel_rfl;kernel_rfl;exact (fun _ _ _ _ h=>h);exact (hS.sub (by repeat (first|exact xk7 _|apply xl0)));rfl;rfl;exact (rfl:_=some [_,_,_,_,_]);rfl)
    refine s8 (i:=10) (by kernel_rfl) ?_;refine a0e (Φ:=fun _ w'=>St _ _ w' _) rfl (s9 hS c9 (i:=1) rfl rfl rfl rfl rfl (xf6 rfl) (xc6.1 rfl)) ?_;intro _ w' hS';simp only [List.set] at hS';clear hS;have hS:=hS';clear hS';refine ⟨(hS.sub (by repeat (first|exact xk7 _|apply xl0))),?_⟩;refine a0B (by kernel_rfl) ?_;replace hS:=St.reorder [1,2,0,3,4] hS (by decide) rfl;exact a1Y (g3,qF,cF,qS,cS) (by exact Fr.sub_of rfl) trivial hS
  ·refine n7 rfl (t8 hS c9 rfl rfl) rfl ?_;rintro _ w' ⟨g3,rfl,hS'⟩;clear hS;have hS:=hS';clear hS';refine ⟨(hS.sub (by repeat (first|exact xk7 _|apply xl0))),?_⟩;refine s8 (i:=4) (by kernel_rfl) ?_;refine n7 rfl (a1k (first:=[]) (caps:=[]) rfl rfl (a5Y (k2.now hS) (by omega))) rfl ?_;rintro _ w' ⟨qF,cF,rfl,hS'⟩;replace hS:=hS.transA hS';simp only [t5] at hS;clear hS';refine ⟨(hS.sub (by repeat (first|exact xk7 _|apply xl0))),?_⟩;refine s8 (i:=7) (by kernel_rfl) ?_;refine n7 rfl (a1k (first:=[]) (caps:=[]) rfl rfl (a3G (k3.now hS) (by omega))) rfl ?_;rintro _ w' ⟨qS,cS,rfl,hS'⟩;replace hS:=hS.transA hS';simp only [t5] at hS;clear hS';refine ⟨(hS.sub (by repeat (first|exact xk7 _|apply xl0))),?_⟩
   ((with_reducible apply a1R (nn 8) c9);rfl;kernel_rfl;kernel_rfl;kernel_rfl;exact (fun _ _ _ _ h=>h);exact (hS.sub (by repeat (first|exact xk7 _|apply xl0)));rfl;rfl;exact (rfl:_=some [_,_,_,_,_]);rfl)
   refine s8 (i:=10) (by kernel_rfl) ?_;refine a0e (Φ:=fun _ w'=>St _ _ w' _) rfl (s9 hS c9 (i:=2) rfl rfl rfl rfl rfl (xf6 rfl) (xc6.1 rfl)) ?_;intro _ w' hS';simp only [List.set] at hS';clear hS;have hS:=hS';clear hS';refine ⟨(hS.sub (by repeat (first|exact xk7 _|apply xl0))),?_⟩;refine a0B (by kernel_rfl) ?_;replace hS:=St.reorder [2,1,0,3,4] hS (by decide) rfl;exact a1Y (g3,qF,cF,qS,cS) (by exact Fr.sub_of rfl) trivial hS
 clear hS;rintro ⟨g3,qF,cF,qS,cS⟩ w1 - hS;dsimp only at hS |-;replace hS:=hS.addNil 142 3
 repeat' (first|(with_reducible apply d5 c9);rfl;rfl;rfl|(with_reducible apply d6);rfl;(apply Ld.sl c9;rfl;exact hS.blkC 5 rfl rfl);rfl|refine yDn (by with_reducible constructor) ?_)
 have hsl1:=k1.sl;refine n9 (X:=Option Addr×Nat×List (Sh×Value)) (fun x=>[(20,.int .i64 (x.2.2.length:Nat))]) [1,2,3,18,19] rfl (fun x=>[.row 142 3 (.slice x.1 x.2.2.length x.2.1) (a2r x.2.2),.blk g3 [.slice x.1 x.2.2.length x.2.1,.slice qF fr.length cF,.slice qS sl.length cS,.slice none 0 0,.int .i64 hand],.row 84 4 (.slice qF fr.length cF) (fr.map fmC),.row 88 2 (.slice qS sl.length cS) (sl.map swC),.blk g2 [.slice none 0 0,.slice none 0 0,.slice none 0 0,.slice none 0 0,.int .i64 0],.blk g1 [.slice p1 sh.length c1,.slice p2 fr.length c2,.slice p3 sl.length c3,.slice p4 sp.length c4,.int .i64 hand]]++x.2.2.map fxA) (Γ:=[]) (fun x=>x.2.2.length<=sh.length/\shs x.2.2=(shs sh).take x.2.2.length) (fun x=>sh.length - x.2.2.length) (none,0,[]) (by exact Fr.sub_of rfl) ⟨xf9 _,rfl⟩ hS ?_;clear hS;rintro ⟨qH,cH,N⟩ w1 ⟨hN,hNs⟩ hS;dsimp only [List.cons_append,List.nil_append,List.append_nil] at hN hNs hS |-;rw [List.append_nil] at hS;by_cases hlt:N.length < sh.length
 ·obtain ⟨x,hx⟩:=j4 (l:=sh) (i:=N.length) (by omega);have hrow:=f8 (f:=fun p:Sh×Value=>shC p.1 p.2) hx;obtain ⟨b,off,rfl,hro⟩:=hsl1.at_ (i:=N.length) hlt;have hfx:=k1.fx x (xc8 hx);have hfl:=b5 x (xc8 hx);obtain ⟨S,u⟩:=x;dsimp only [shC] at hrow hfx hfl;obtain ⟨pu,cu,rfl⟩:=hfx.len
  repeat' (first|(with_reducible apply d5 c9);rfl;rfl;rfl|(with_reducible apply d6);rfl;(first|apply Ld.sl c9;rfl;(first|exact hS.blkC 0 rfl rfl|exact hS.blkC 3 rfl rfl)|apply Ld.st c9;rfl;(first|exact hS.blkR 1 rfl|exact hS.roR (by assumption) (by assumption));rfl);rfl|(with_reducible apply m8 c9);rfl;rfl;rfl;rfl;omega;rfl|refine yDn (by with_reducible constructor) ?_|(with_reducible apply f5 hS c9);rfl;rfl;rfl;clear hS;intro g w' hS|(with_reducible apply a0G hS c9);(iterate 7 rfl);clear hS;intro g w' hS|(with_reducible apply d7 hS c9 (i:=0));(iterate 8 rfl);exact (rfl:_=[_,_,_]);clear hS;intro w' hS;simp only [List.set] at hS|(with_reducible apply d7 hS c9 (i:=1));(iterate 8 rfl);exact (rfl:_=[_,_,_]);clear hS;intro w' hS;simp only [List.set] at hS|(with_reducible apply d8);rfl;all_goals (intro hb hp;try (exfalso;omega))|(with_reducible apply l9);rfl;rfl;rfl;refine ⟨_,a9R (hfx.now hS) (by omega),?_⟩;rintro _ w' ⟨qX,cX,rfl,hS'⟩;replace hS:=hS.transA hS';simp only [t5] at hS;clear hS')
  have hsr:(a2r N).length=N.length:=by unfold a2r;rw [xi3]
  repeat' (first|(with_reducible apply d5 c9);rfl;rfl;rfl|(with_reducible apply j7);rfl;rfl;omega;omega;rfl|refine yDn (by with_reducible constructor) ?_|(with_reducible apply d7 hS c9 (i:=4));(iterate 8 rfl);exact (rfl:_=[_,_,_,_,_]);clear hS;intro w' hS;simp only [List.set] at hS|(with_reducible apply a31 hS c9 3);(iterate 4 rfl);exact hS.rowRo 0 rfl;rfl;omega;rfl;intro p' cap' w' hS';simp only [List.set] at hS';clear hS;have hS:=hS';clear hS')
  rw [hsr] at hS |-;replace hS:=St.reorderT 9 [3,4,5,6,7,8,1] hS (by decide) rfl;simp only [t5,xl1,xl2] at hS;have hyS:fxA (S,.slice qX S.fixes.length cX)=.row 156 2 (.slice qX S.fixes.length cX) (S.fixes.map fxC):=rfl;rw [<- hyS] at hS;refine i5 (p',cap',N++[(S,.slice qX S.fixes.length cX)]) ?_ ?_ ?_ ?_
  ·dsimp only;rw [xe5,xl3];exact Fr.sub_of rfl
  ·dsimp only;refine ⟨by rw [xe5,xl3];omega,?_⟩;rw [xe5,xl3,o7 (a21 hx),<- hNs];unfold shs;rw [xj3];rfl
  ·dsimp only;unfold a2r at hS |-;rw [xe5,xl3,xj3,xj3,List.append_nil];refine hS.perm ?_
   repeat (apply List.Perm.cons)
   exact (xl4 _ _).symm
  ·dsimp only;rw [xe5,xl3];omega
 have hNn:N.length=sh.length:=by omega
 replace hS:=(hS.addNil 78 3).reorderT 3 [2,0,1] (by decide) rfl;simp only [t5,xl1,xl2] at hS;have hsl4:=k4
 repeat' (first|(with_reducible apply d5 c9);rfl;rfl;rfl|(with_reducible apply d6);rfl;(apply Ld.sl c9;rfl;exact hS.blkC 6 rfl rfl);rfl|refine yDn (by with_reducible constructor) ?_|(with_reducible apply d8);rfl;all_goals (intro hb hp;try (exfalso;omega)))
 refine n9 (X:=Option Addr×Nat×List Sp) (fun x=>[(38,.int .i64 (x.2.2.length:Nat))]) [1,2,3,36,37] rfl (fun x=>[.blk g3 [.slice qH N.length cH,.slice qF fr.length cF,.slice qS sl.length cS,.slice x.1 x.2.2.length x.2.1,.int .i64 hand],.row 78 3 (.slice x.1 x.2.2.length x.2.1) (x.2.2.map spC),.row 142 3 (.slice qH N.length cH) (a2r N),.row 84 4 (.slice qF fr.length cF) (fr.map fmC),.row 88 2 (.slice qS sl.length cS) (sl.map swC),.blk g2 [.slice none 0 0,.slice none 0 0,.slice none 0 0,.slice none 0 0,.int .i64 0],.blk g1 [.slice p1 sh.length c1,.slice p2 fr.length c2,.slice p3 sl.length c3,.slice p4 sp.length c4,.int .i64 hand]]++(N.map fxA++spA x.2.2)) (Γ:=[]) (fun x=>x.2.2.length<=sp.length/\x.2.2.map (·.s)=(sp.map (·.s)).take x.2.2.length) (fun x=>sp.length - x.2.2.length) (none,0,[]) (by exact Fr.sub_of rfl) ⟨xf9 _,rfl⟩ (by show St nF w w1 ((_++(N.map fxA++[]))++[]);rw [List.append_nil,List.append_nil];exact hS) ?_;clear hS;rintro ⟨qP,cP,M⟩ w1 ⟨hM,hMs⟩ hS;dsimp only [List.cons_append,List.nil_append] at hM hMs hS |-;rw [List.append_nil] at hS;by_cases hlt2:M.length < sp.length;rotate_left
 ·have hMn:M.length=sp.length:=by omega
  repeat' (first|(with_reducible apply d5 c9);rfl;rfl;rfl|(with_reducible apply d6);rfl;(apply Ld.st c9;rfl;exact hS.blkR 0 rfl;rfl);rfl|refine yDn (by with_reducible constructor) ?_|(with_reducible apply d8);rfl;all_goals (intro hb hp;try (exfalso;omega))|(with_reducible apply d7 hS c9 (i:=5));(iterate 8 rfl);exact (rfl:_=[_,_,_,_,_]);clear hS;intro w' hS;simp only [List.set] at hS)
  (apply a22;repeat (first|exact ResL.nil|apply ResL.cell;rfl;(apply Ld.st c9;rfl;exact hS.blkR 5 rfl;rfl)))
  rw [hNn] at hNs hS |-;rw [hMn] at hMs hS |-;rw [xa0 (by rw [a1u];omega)] at hNs;rw [xa0 (by rw [xi3];omega)] at hMs;refine ⟨⟨N,fr,sl,M,hand,.slice qH sh.length cH,.slice qF fr.length cF,.slice qS sl.length cS,.slice qP sp.length cP⟩,rfl,?_,?_⟩
  ·unfold KV.K;dsimp only;rw [hNs,hMs]
  ·unfold kA;dsimp only;replace hS:=hS.reorderT 7 [2,3,4,1] (by decide) rfl;simp only [t5,xl1,xl2] at hS;exact hS
 obtain ⟨x,hx⟩:=j4 (l:=sp) (i:=M.length) (by omega);have hxs:(sp.map (·.s))[M.length]?=some x.s:=f8 (f:=fun p:Sp=>p.s) hx;have hrow:=f8 (f:=spC) hx;obtain ⟨b,off,rfl,hro⟩:=hsl4.at_ (i:=M.length) hlt2;have hxv:=k5 x (xc8 hx);have hxa:=b6 x (xc8 hx);have hxe:=b7 x (xc8 hx);have har:=hxv.ar;have hen:=hxv.en;obtain ⟨s,va,ve⟩:=x;dsimp only at har hen hxa hxe hxs;obtain ⟨pa,ca,rfl⟩:=har.len;obtain ⟨pe,ce,rfl⟩:=hen.len;unfold spC at hrow;dsimp only at hrow
 repeat' (first|(with_reducible apply d5 c9);rfl;rfl;rfl|(with_reducible apply d6);rfl;(apply Ld.st c9;rfl;exact hS.roR (by assumption) (by assumption);rfl);rfl|(with_reducible apply m8 c9);rfl;rfl;rfl;rfl;omega;rfl|refine yDn (by with_reducible constructor) ?_|(with_reducible apply f5 hS c9);rfl;rfl;rfl;clear hS;intro g w' hS|(with_reducible apply d7 hS c9 (i:=0));(iterate 8 rfl);exact (rfl:_=[_,_,_]);clear hS;intro w' hS;simp only [List.set] at hS|(with_reducible apply d8);rfl;all_goals (intro hb hp;try (exfalso;omega)))
 refine a4d 2 14 15 rfl hS (by kernel_rfl) ?_;intro w10 hS';clear hS;have hS:=hS';clear hS';simp only [xl5,xl6];have hH:=hS.sub (xl7 [_,_] _)
 ((with_reducible apply q8 (nn 0) c9);rfl;kernel_rfl;exact (fun _ _ _ h=>h);exact xd1 hH;rfl;rfl)
 ((with_reducible apply s6 (nn 1));rfl;kernel_rfl;kernel_rfl;rfl;exact (fun _ _ _ h=>h);exact hH;rfl;(intro w2 hw2;(replace hw2:St _ _ w2 _:=hw2;(apply Ld.sl c9;rfl;exact hw2.blkC 1 rfl rfl)));rfl)
 ((with_reducible apply q8 (nn 2) c9);rfl;kernel_rfl;exact (fun _ _ _ h=>h);exact xd1 hH;rfl;rfl)
 ((with_reducible apply s6 (nn 3));rfl;kernel_rfl;kernel_rfl;rfl;exact (fun _ _ _ h=>h);exact hH;rfl;(intro w2 hw2;(replace hw2:St _ _ w2 _:=hw2;(apply Ld.sc c9;rfl;exact hw2.blkC 0 rfl rfl)));rfl)
 ((with_reducible apply q8 (nn 4) c9);rfl;kernel_rfl;exact (fun _ _ _ h=>h);exact xd1 hH;rfl;rfl)
 ((with_reducible apply s6 (nn 5));rfl;kernel_rfl;kernel_rfl;rfl;exact (fun _ _ _ h=>h);exact hH;rfl;(intro w2 hw2;(replace hw2:St _ _ w2 _:=hw2;(apply Ld.sl c9;rfl;exact hw2.blkC 0 rfl rfl)));rfl)
 ((with_reducible apply q8 (nn 7) c9);rfl;kernel_rfl;exact (fun _ _ _ h=>h);exact xd1 hH;rfl;rfl)
 ((with_reducible apply s6 (nn 8));rfl;kernel_rfl;kernel_rfl;rfl;exact (fun _ _ _ h=>h);exact hH;rfl;(intro w2 hw2;(replace hw2:St _ _ w2 _:=hw2;(apply Ld.sl c9;rfl;exact hw2.blkC 0 rfl rfl)));rfl)
 refine z9 (i:=6) (by kernel_rfl) ?_;refine t9 rfl (a1k (first:=[]) (caps:=[]) rfl rfl (a9n (har.now hS) (by omega))) rfl ?_;rintro _ w' ⟨qA,cA,rfl,hS'⟩;replace hS:=hS.transA hS';simp only [t5] at hS;clear hS';have hH:=hS.drop.sub (xl7 [_,_] _);refine ⟨xd1 (xd1 hH),?_⟩;refine z9 (i:=9) (by kernel_rfl) ?_;refine t9 rfl (a1k (first:=[]) (caps:=[]) rfl rfl (a9z (hen.now hS) (by omega))) rfl ?_;rintro _ w' ⟨qE,cE,rfl,hS'⟩;replace hS:=hS.transA hS';simp only [t5] at hS;clear hS';have hH:=hS.drop.drop.sub (xl7 [_,_] _);refine ⟨xd1 (xd1 hH),?_⟩
 ((with_reducible apply a3m (nn 10) c9);rfl;kernel_rfl;kernel_rfl;kernel_rfl;rfl;exact (fun _ _ _ _ h=>h);exact xd1 hH;rfl;rfl;exact (rfl:_=some [_,_,_]);rfl)
 refine z9 (i:=11) (by kernel_rfl) ?_;refine t9 rfl (a0b hS c9 rfl rfl rfl rfl rfl rfl) rfl ?_;rintro _ w' ⟨g9,rfl,hS'⟩;clear hS;have hS:=hS';clear hS';have hH:=hS.drop.drop.drop.sub (xl7 [_,_] _);refine ⟨xd1 (xd1 hH),?_⟩;refine z9 (i:=12) (by kernel_rfl) ?_;refine t9 rfl (a0D hS c9 (i:=5) rfl rfl rfl rfl (hS.rowRo 0 rfl) rfl (by simp only [xi3];omega)) rfl ?_;rintro _ w' ⟨p',c',rfl,hS'⟩;simp only [List.set,xi3] at hS' |-;clear hS;have hS:=hS';clear hS';have hH:=hS.drop.drop.drop.sub (xl7 [_,_] _);refine ⟨xd1 (xd1 hH),?_⟩
 ((with_reducible apply q8 (nn 13) c9);rfl;kernel_rfl;exact (fun _ _ _ h=>h);exact xd1 hH;rfl;rfl)
 refine z9 (i:=14) (by kernel_rfl) ?_;refine a2N (Φ:=fun _ w'=>St _ _ w' _) rfl (s9 hS c9 (i:=4) rfl rfl rfl rfl rfl (xf6 rfl) (by intro u hu;simp [Value.cells] at hu;subst hu;rfl)) ?_;intro _ w' hS';simp only [List.set,p9] at hS';clear hS;have hS:=hS';clear hS';refine ⟨xd4 rfl,?_⟩;refine a3F (by kernel_rfl) ?_
 repeat' (first|(with_reducible apply d5 c9);rfl;rfl;rfl|(with_reducible apply j7);rfl;rfl;omega;omega;rfl|refine yDn (by with_reducible constructor) ?_)
 refine i5 (p',c',M++[⟨s,.slice qA s.areas.length cA,.slice qE s.entries.length cE⟩]) ?_ ?_ ?_ ?_
 ·dsimp only;rw [xe5,xl3];exact Fr.sub_of rfl
 ·dsimp only;refine ⟨by rw [xe5,xl3];omega,?_⟩;rw [xe5,xl3,o7 hxs,<- hMs,xj3];rfl
 ·replace hS:=hS.reorderT 11 [4,5,6,7,8,9,10,2,1] (by decide) rfl;simp only [t5,xl1,xl2] at hS;dsimp only;rw [xe5,xl3,xj3,List.append_nil,a4g];refine hS.perm ?_
  repeat (apply List.Perm.cons)
  rw [<- xf4];exact xl8 (l₁:=[_,_])
 ·dsimp only;rw [xe5,xl3];omega
theorem b19 {l:List Sc} {i:Nat} {s:Sc} (h:l[i]?=some s):o8 (l.take (i + 1))=o8 (l.take i) + k7 s.areas:=by rw [o7 h,a3P]
def wkB (k:KV) (sp:Nat) (vh:Value):List Value:=[k.vsh,k.vfr,k.vsl,k.vsp,.int .i64 k.hand,.int .i64 (sp:Nat),vh]
def hdA (vh:Value) (held:List Nat):Asr:=.row 3 1 vh (held.map fun i=>[.int .i64 (i:Nat)])
def frA (k:KV):Asr:=.row 84 4 k.vfr (k.fr.map fmC)
def slA (k:KV):Asr:=.row 88 2 k.vsl (k.sl.map swC)
def a20 (k:KV):Asr:=.row 78 3 k.vsp (k.sp.map spC)
def wkS (g:Nat) (k:KV) (sp:Nat) (vh:Value) (held:List Nat):List Asr:=.blk g (wkB k sp vh)::hdA vh held::frA k::slA k::a20 k::k.sp.map x9
structure KRo (F:Nat->Prop) (w:World) (k:KV):Prop where
 sh:ShsF F w k.sh k.vsh
 ar:∀ p ∈ k.sp,Sl F w 4 p.va (p.s.areas.map arC)
theorem KRo.nowM {F:Nat->Prop} {w0 w:World} {Θ Γ:List Asr} {k:KV} (h:KRo F w0 k) (hS:St F w0 w (Θ++Γ)):KRo (fps Θ) w k:=⟨h.sh.nowM hS,fun p hp=>(h.ar p hp).nowM hS⟩
structure KLike (k k':KV):Prop where
 sh:k'.sh=k.sh
 vsh:k'.vsh=k.vsh
 ar:k'.sp.map (fun p=>(p.va,p.s.areas))=k.sp.map (fun p=>(p.va,p.s.areas))
theorem KLike.refl (k:KV):KLike k k:=⟨rfl,rfl,rfl⟩
theorem KLike.trans {k k' k2:KV} (h:KLike k k') (h2:KLike k' k2):KLike k k2:=⟨h2.sh.trans h.sh,h2.vsh.trans h.vsh,h2.ar.trans h.ar⟩
structure WkV (w:World) (g:Nat) (k:KV) (sp:Nat) (vh:Value) (held:List Nat):Prop where
 c0:Bs nF w ⟨g,0,none⟩ k.vsh
 c1:Bs nF w ⟨g,1,none⟩ k.vfr
 c2:Bs nF w ⟨g,2,none⟩ k.vsl
 c3:Bs nF w ⟨g,3,none⟩ k.vsp
 c4:Bs nF w ⟨g,4,none⟩ (.int .i64 k.hand)
 c5:Bs nF w ⟨g,5,none⟩ (.int .i64 (sp:Nat))
 c6:Bs nF w ⟨g,6,none⟩ vh
 held:Sl nF w 1 vh (held.map fun i=>[.int .i64 (i:Nat)])
 ker:KerV w k
theorem WkV.of {F:Nat->Prop} {w0 w:World} {Γ:List Asr} {g:Nat} {k:KV} {sp:Nat} {vh:Value} {held:List Nat} (hS:St F w0 w (wkS g k sp vh held++Γ)) (hR:KRo F w0 k):WkV w g k sp vh held:=by
 refine ⟨Bs.of (hS.blkC 0 rfl rfl),Bs.of (hS.blkC 0 rfl rfl),Bs.of (hS.blkC 0 rfl rfl),Bs.of (hS.blkC 0 rfl rfl),Bs.of (hS.blkC 0 rfl rfl),Bs.of (hS.blkC 0 rfl rfl),Bs.of (hS.blkC 0 rfl rfl),hS.rowSl 1 rfl,⟨hR.sh.now hS,hS.rowSl 2 rfl,hS.rowSl 3 rfl,hS.rowSl 4 rfl,fun p hp=>⟨(hR.ar p hp).now hS,?_⟩⟩⟩;refine hS.slMem (e:=82) (xe1 _ ?_);unfold wkS;exact xc5 _ (xc5 _ (xc5 _ (xc5 _ (xc5 _ (xh6.2 ⟨p,hp,rfl⟩)))))
def b0k (v:Value) (i:Nat):Value:=match v with
 |.slice (some ⟨b,off,_⟩) _ _=>.pointer (some ⟨b,off + i,none⟩)
 |_=>.pointer none
theorem WkV.now {w w':World} {Γ:List Asr} {g:Nat} {k:KV} {sp:Nat} {vh:Value} {held:List Nat} (h:WkV w g k sp vh held) (hS:St nF w w' Γ):WkV w' g k sp vh held :=
 ⟨Bs.of (hS.bs h.c0),Bs.of (hS.bs h.c1),Bs.of (hS.bs h.c2),Bs.of (hS.bs h.c3),Bs.of (hS.bs h.c4),Bs.of (hS.bs h.c5),Bs.of (hS.bs h.c6),h.held.now hS,h.ker.now hS⟩
theorem a6y {w:World} {g:Nat} {k:KV} {sp:Nat} {vh:Value} {held:List Nat} (hV:WkV w g k sp vh held) (hsp:sp < k.sp.length):Fn Tryz.prog 44 [.pointer (some ⟨g,0,none⟩)] w (RBf (b0k k.vsp (sp * 3)) w):=by
 obtain ⟨sh,fr,sl,sps,hand,vsh,vfr,vsl,vsp⟩:=k;obtain ⟨c0,c1,c2,c3,c4,c5,c6,hh,⟨k1,k2,k3,k4,k5⟩⟩:=hV;dsimp only at c0 c1 c2 c3 c4 c5 k1 k2 k3 k4 k5 hsp |-;obtain ⟨p4,n4,rfl⟩:=k4.len;obtain ⟨b,off,rfl,hro⟩:=k4.at_ (i:=sp) hsp;unfold b0k;dsimp only;refine yEn Tryz.func44 Tryz.ntmps44 (by kernel_rfl) (by kernel_rfl) rfl rfl ?_;have hS:=St.start w
 repeat' (first|(with_reducible apply d5 c9);rfl;rfl;rfl|refine yDn (by with_reducible constructor) ?_)
 (focus ((with_reducible apply d9 _ _ _ (by kernel_rfl) (by kernel_rfl) hS);(repeat' ((first|(with_reducible apply g8 c9);rfl;rfl|(with_reducible apply i7);rfl;(intro wd hd;replace hd:St _ _ wd _:=hd;(first|apply Ld.sc c9;rfl;exact hd.bs (by assumption)|apply Ld.sl c9;rfl;exact hd.bs (by assumption)));rfl|(with_reducible apply a0f c9);rfl;rfl;rfl;rfl;omega;rfl)));all_goals ((with_reducible apply k8);intro w' hS';clear hS;have hS:=hS';clear hS')))
 repeat' ((refine yDn (by with_reducible constructor) ?_))
 (refine l4 rfl ?_)
 exact ⟨rfl,hS.sub (xi4 _)⟩
theorem b31 {w:World} {g:Nat} {k:KV} {sp:Nat} {vh:Value} {held:List Nat} (hV:WkV w g k sp vh held) (hc:∀ p ∈ k.sp,g6 p.s.areas=0) (h4:k.sp.length<=5):Fn Tryz.prog 42 [.pointer (some ⟨g,0,none⟩)] w (RBf (.int .i64 (o8 (k.sp.map (·.s)))) w):=by
 obtain ⟨sh,fr,sl,sps,hand,vsh,vfr,vsl,vsp⟩:=k;obtain ⟨c0,c1,c2,c3,c4,c5,c6,hh,⟨k1,k2,k3,k4,k5⟩⟩:=hV;dsimp only at c0 c1 c2 c3 c4 c5 k1 k2 k3 k4 k5 hc h4 |-;obtain ⟨p4,n4,rfl⟩:=k4.len;refine yEn Tryz.func42 Tryz.ntmps42 (by kernel_rfl) (by kernel_rfl) rfl rfl ?_;have hS:=St.start w
 repeat' (first|(with_reducible apply d5 c9);rfl;rfl;rfl|(with_reducible apply d6);rfl;(apply Ld.sl c9;rfl;exact hS.bs (by assumption));rfl|refine yDn (by with_reducible constructor) ?_)
 refine n9 (X:=Nat×Int) (fun x=>[(12,.int .i64 (x.1:Nat)),(3,.int .i64 x.2)]) [0,10,11] rfl (fun _=>[]) (fun x=>x.1<=sps.length/\x.2=o8 ((sps.map (·.s)).take x.1)/\0<=x.2/\x.2<=70000 * (x.1:Int)) (fun x=>sps.length - x.1) (0,0) (by exact Fr.sub_of rfl) ⟨xf9 _,rfl,xl9 _,xl9 _⟩ hS ?_;clear hS;rintro ⟨i,room⟩ w1 ⟨hi,hroom,hr0,hr1⟩ hS;dsimp only [List.cons_append,List.nil_append] at hi hroom hr0 hr1 hS |-;by_cases hlt:i < sps.length;rotate_left
 ·obtain rfl:i=sps.length:=by omega
  rw [xa0 (by rw [xi3];omega)] at hroom
  repeat' (first|(with_reducible apply d5 c9);rfl;rfl;rfl|refine yDn (by with_reducible constructor) ?_|(with_reducible apply d8);rfl;all_goals (intro hb hp;try (exfalso;omega)))
  (refine l4 rfl ?_)
  exact ⟨by rw [hroom],hS.sub (xi4 _)⟩
 obtain ⟨x,hx⟩:=j4 (l:=sps) (i:=i) (by omega);have hxs:(sps.map (·.s))[i]?=some x.s:=f8 (f:=fun p:Sp=>p.s) hx;have hrow:=f8 (f:=spC) hx;obtain ⟨b,off,rfl,hro⟩:=k4.at_ (i:=i) hlt;have hxv:=k5 x (xc8 hx);have hcx:=hc x (xc8 hx);have hsum:=a3Z (y9 (k9.1 hcx).2) x.s.areas.length;have hAl:=(k9.1 hcx).1;rw [xg1] at hsum;have htk:=b19 hxs;have har:=hxv.ar;have hen:=hxv.en;obtain ⟨s,va,ve⟩:=x;dsimp only at har hen hcx hsum hAl htk;unfold spC at hrow;dsimp only at hrow;obtain ⟨pa,ca,rfl⟩:=har.len;obtain ⟨pe,ce,rfl⟩:=hen.len;have htot:=fun w1 (h:Sl nF w1 4 (.slice pa s.areas.length ca) (s.areas.map arC))=>a8Z h;rw [xe6 hcx] at htot
 repeat' (first|(with_reducible apply d5 c9);rfl;rfl;rfl|(with_reducible apply d6);rfl;(first|apply Ld.sl c9;rfl;exact hS.blkC 0 rfl rfl|apply Ld.st c9;rfl;exact hS.roR (by assumption) (by assumption);rfl);rfl|(with_reducible apply m8 c9);rfl;rfl;rfl;rfl;omega;rfl|(with_reducible apply j7);rfl;rfl;omega;omega;rfl|refine yDn (by with_reducible constructor) ?_|(with_reducible apply f5 hS c9);rfl;rfl;rfl;clear hS;intro g w' hS|(with_reducible apply d7 hS c9 (i:=0));(iterate 8 rfl);exact (rfl:_=[_,_,_]);clear hS;intro w' hS;simp only [List.set] at hS|(with_reducible apply d8);rfl;all_goals (intro hb hp;try (exfalso;omega))|(with_reducible apply f9 hS);rfl;rfl;rfl;refine ⟨_,htot _ (har.now hS),?_⟩;clear hS;intro w' hS)
 exact i5 (i + 1,room + k7 s.areas) (by exact Fr.sub_of rfl) ⟨by show i + 1<=sps.length;omega,by rw [htk,<- hroom],by show 0<=room + k7 s.areas;omega,by show room + k7 s.areas<=70000 * ((i + 1:Nat):Int);omega⟩ (hS.sub (by repeat (first|exact xk7 _|apply xl0))) (by show sps.length - (i + 1) < sps.length - i;omega)
def a0x (k:KV) (e:En):KV:=if e.kind=1 then ⟨k.sh,k.fr.set e.at_.toNat (a2o (a16 k.fr e.at_.toNat)),k.sl,k.sp,k.hand,k.vsh,k.vfr,k.vsl,k.vsp⟩ else ⟨k.sh,k.fr,k.sl.set e.at_.toNat (a2w (a2J k.sl e.at_.toNat)),k.sp,k.hand,k.vsh,k.vfr,k.vsl,k.vsp⟩
theorem b6U (k:KV) (e:En):(a0x k e).K=a0m k.K e:=by
 unfold a0x a0m
 split <;> rfl
theorem b4Q (k:KV) (e:En):(a0x k e).sp=k.sp/\(a0x k e).vsp=k.vsp/\(a0x k e).fr.length=k.fr.length/\(a0x k e).sl.length=k.sl.length:=by
 unfold a0x
 split
 ·exact ⟨rfl,rfl,xa7,rfl⟩
 ·exact ⟨rfl,rfl,rfl,xa7⟩
structure a5w (k:KV) (e:En):Prop where
 names:(e.kind=1/\∃ i:Nat,e.at_=(i:Nat)/\i < k.fr.length)\/(e.kind≠1/\∃ i:Nat,e.at_=(i:Nat)/\i < k.sl.length)
 fr:∀ f ∈ k.fr,0<=f.refs/\f.refs<=100000
 sl:∀ f ∈ k.sl,0<=f.refs/\f.refs<=100000
theorem a5z {α:Type} {l:List α} {i:Nat} {x:α} (h:i < l.length):(l.set i x)[i]?=some x:=by rw [xd7,xe6 rfl,xe6 h]
theorem b4x {F:Nat->Prop} {w0 w:World} {Γ:List Asr} {g:Nat} {k:KV} {sp:Nat} {vh:Value} {held:List Nat} (hS0:St F w0 w (wkS g k sp vh held++Γ)) {e:En} (he:a5w k e):Fn Tryz.prog 103 [.pointer (some ⟨g,0,none⟩),.agg (enC e).toArray] w (fun v w'=>v=.tuple #[]/\St (fps (wkS g k sp vh held)) w w' (wkS g (a0x k e) sp vh held)):=by
 have hS:=St.startM hS0;obtain ⟨hn,hfr,hsl⟩:=he;generalize fps (wkS g k sp vh held)=G at hS |-;obtain ⟨sh,fr,sl,sps,hand,vsh,vfr,vsl,vsp⟩:=k;dsimp only at hn hfr hsl;unfold wkS wkB hdA frA slA a20 at hS;dsimp only [List.cons_append,List.nil_append] at hS;unfold enC;rcases hn with ⟨hk,i,hi,hil⟩|⟨hk,i,hi,hil⟩
 ·have hlv:a0x ⟨sh,fr,sl,sps,hand,vsh,vfr,vsl,vsp⟩ e=⟨sh,fr.set i (a2o (a16 fr i)),sl,sps,hand,vsh,vfr,vsl,vsp⟩:=by unfold a0x;rw [xe6 hk,hi];rfl
  rw [hlv];obtain ⟨f,hf⟩:=j4 (l:=fr) (i:=i) (by omega);have hrf:=hfr f (xc8 hf);rw [a38 hf];have hrow:=f8 (f:=fmC) hf;obtain ⟨pf,cf,rfl⟩:=hS.rowSlice 2 rfl;rw [xi3] at hS;obtain ⟨gf,rfl⟩:=hS.rowSome 2 rfl (by omega);have hd:decide (e.kind=1)=true:=xi8 hk;obtain ⟨epg,ekd,eat⟩:=e;dsimp only at hd hi hk hlv |-;subst hi;unfold fmC at hrow;unfold a2o;have e1:(fr.map fmC).set i (p9 [.string ⟨f.data.toArray⟩,.int .i64 f.refs,.bool f.dirty,.bool f.seen] 1 [.int .i64 (f.refs - 1)])=(fr.set i ⟨f.data,f.refs - 1,f.dirty,f.seen⟩).map fmC:=by rw [xk6];rfl
  have hrow1:((fr.set i ⟨f.data,f.refs - 1,f.dirty,f.seen⟩).map fmC)[i]?=some [.string ⟨f.data.toArray⟩,.int .i64 (f.refs - 1),.bool f.dirty,.bool f.seen]:=f8 (f:=fmC) (a5z (x:=(⟨f.data,f.refs - 1,f.dirty,f.seen⟩:Fm)) hil);by_cases h0:f.refs - 1=0
  ·have hd0:decide (f.refs - 1=0)=true:=xi8 h0;rw [xe6 h0];have e2:((fr.set i ⟨f.data,f.refs - 1,f.dirty,f.seen⟩).map fmC).set i (p9 [.string ⟨f.data.toArray⟩,.int .i64 (f.refs - 1),.bool f.dirty,.bool f.seen] 0 [.string ⟨#[]⟩,.int .i64 0,.bool false,.bool false])=(fr.set i fm0).map fmC:=by
    rw [xk6,xk6,xm0];rfl
   refine yEn Tryz.func103 Tryz.ntmps103 (by kernel_rfl) (by kernel_rfl) rfl rfl ?_
   repeat' (first|(with_reducible apply d5 c9);rfl;rfl;rfl|(with_reducible apply d6);rfl;(apply Ld.sc c9;rfl;exact hS.blkC 0 rfl rfl);rfl|refine yDn (by with_reducible constructor) ?_|(with_reducible apply i6);rfl;assumption|(with_reducible apply j6 hS);rfl;rfl;rfl;clear hS;intro g w' hS)
   (focus ((with_reducible apply d9 _ _ _ (by kernel_rfl) (by kernel_rfl) hS);(repeat' ((first|(with_reducible apply g8 c9);rfl;rfl|(with_reducible apply i7);rfl;(intro wd hd;replace hd:St _ _ wd _:=hd;(first|apply Ld.sc c9;rfl;exact hd.blkC 0 rfl rfl|apply Ld.sl c9;rfl;exact hd.blkC 1 rfl rfl));rfl|(with_reducible apply a0f c9);rfl;rfl;rfl;rfl;omega;rfl)));all_goals ((with_reducible apply k8);intro w' hS';clear hS;have hS:=hS';clear hS')))
   repeat' (first|(with_reducible apply d5 c9);rfl;rfl;rfl|(with_reducible apply d6);rfl;(apply Ld.sc c9;rfl;exact hS.rowCj 3 rfl (by assumption) rfl);rfl|(with_reducible apply a0w);rfl;rfl;omega;omega;rfl|refine yDn (by with_reducible constructor) ?_|(with_reducible apply t3 hS c9 (i:=3));(iterate 4 rfl);assumption;(iterate 5 rfl);intro w' hS';simp only [List.set] at hS';clear hS;have hS:=hS';clear hS')
   rw [e1] at hS
   repeat' (first|(with_reducible apply d5 c9);rfl;rfl;rfl|(with_reducible apply d6);rfl;(apply Ld.sc c9;rfl;exact hS.rowCj 3 rfl (by assumption) rfl);rfl|(with_reducible apply v8 c9);rfl;rfl;exact (rfl:_=some [_,_,_,_]);rfl|refine yDn (by with_reducible constructor) ?_|(with_reducible apply i6);rfl;assumption|(with_reducible apply a2t hS c9 (i:=3));(iterate 4 rfl);assumption;(iterate 5 rfl);intro w' hS';simp only [List.set] at hS';clear hS;have hS:=hS';clear hS')
   rw [e2] at hS
   (refine b4l rfl ?_)
   exact ⟨rfl,by rw [xi3];exact hS.drop⟩
  ·have hd0:decide (f.refs - 1=0)=false:=xi7 h0;rw [xe7 h0];refine yEn Tryz.func103 Tryz.ntmps103 (by kernel_rfl) (by kernel_rfl) rfl rfl ?_
   repeat' (first|(with_reducible apply d5 c9);rfl;rfl;rfl|(with_reducible apply d6);rfl;(apply Ld.sc c9;rfl;exact hS.blkC 0 rfl rfl);rfl|refine yDn (by with_reducible constructor) ?_|(with_reducible apply i6);rfl;assumption|(with_reducible apply j6 hS);rfl;rfl;rfl;clear hS;intro g w' hS)
   (focus ((with_reducible apply d9 _ _ _ (by kernel_rfl) (by kernel_rfl) hS);(repeat' ((first|(with_reducible apply g8 c9);rfl;rfl|(with_reducible apply i7);rfl;(intro wd hd;replace hd:St _ _ wd _:=hd;(first|apply Ld.sc c9;rfl;exact hd.blkC 0 rfl rfl|apply Ld.sl c9;rfl;exact hd.blkC 1 rfl rfl));rfl|(with_reducible apply a0f c9);rfl;rfl;rfl;rfl;omega;rfl)));all_goals ((with_reducible apply k8);intro w' hS';clear hS;have hS:=hS';clear hS')))
   repeat' (first|(with_reducible apply d5 c9);rfl;rfl;rfl|(with_reducible apply d6);rfl;(apply Ld.sc c9;rfl;exact hS.rowCj 3 rfl (by assumption) rfl);rfl|(with_reducible apply a0w);rfl;rfl;omega;omega;rfl|refine yDn (by with_reducible constructor) ?_|(with_reducible apply t3 hS c9 (i:=3));(iterate 4 rfl);assumption;(iterate 5 rfl);intro w' hS';simp only [List.set] at hS';clear hS;have hS:=hS';clear hS')
   rw [e1] at hS
   repeat' (first|(with_reducible apply d5 c9);rfl;rfl;rfl|(with_reducible apply d6);rfl;(apply Ld.sc c9;rfl;exact hS.rowCj 3 rfl (by assumption) rfl);rfl|refine yDn (by with_reducible constructor) ?_|(with_reducible apply i9);rfl;assumption)
   (refine b4l rfl ?_)
   exact ⟨rfl,by rw [xi3];exact hS.drop⟩
 ·have hlv:a0x ⟨sh,fr,sl,sps,hand,vsh,vfr,vsl,vsp⟩ e=⟨sh,fr,sl.set i (a2w (a2J sl i)),sps,hand,vsh,vfr,vsl,vsp⟩:=by unfold a0x;rw [xe7 hk,hi];rfl
  rw [hlv];obtain ⟨f,hf⟩:=j4 (l:=sl) (i:=i) (by omega);have hrf:=hsl f (xc8 hf);rw [a37 hf];have hrow:=f8 (f:=swC) hf;obtain ⟨pf,cf,rfl⟩:=hS.rowSlice 3 rfl;rw [xi3] at hS;obtain ⟨gf,rfl⟩:=hS.rowSome 3 rfl (by omega);have hd:decide (e.kind=1)=false:=xi7 hk;obtain ⟨epg,ekd,eat⟩:=e;dsimp only at hd hi hk hlv |-;subst hi;unfold swC at hrow;unfold a2w;have e1:(sl.map swC).set i (p9 [.string ⟨f.data.toArray⟩,.int .i64 f.refs] 1 [.int .i64 (f.refs - 1)])=(sl.set i ⟨f.data,f.refs - 1⟩).map swC:=by rw [xk6];rfl
  have hrow1:((sl.set i ⟨f.data,f.refs - 1⟩).map swC)[i]?=some [.string ⟨f.data.toArray⟩,.int .i64 (f.refs - 1)]:=f8 (f:=swC) (a5z (x:=(⟨f.data,f.refs - 1⟩:Sw)) hil);by_cases h0:f.refs - 1=0
  ·have hd0:decide (f.refs - 1=0)=true:=xi8 h0;rw [xe6 h0];have e2:((sl.set i ⟨f.data,f.refs - 1⟩).map swC).set i (p9 [.string ⟨f.data.toArray⟩,.int .i64 (f.refs - 1)] 0 [.string ⟨#[]⟩,.int .i64 0])=(sl.set i sw0).map swC:=by
    rw [xk6,xk6,xm0];rfl
   refine yEn Tryz.func103 Tryz.ntmps103 (by kernel_rfl) (by kernel_rfl) rfl rfl ?_
   repeat' (first|(with_reducible apply d5 c9);rfl;rfl;rfl|(with_reducible apply d6);rfl;(apply Ld.sc c9;rfl;exact hS.blkC 0 rfl rfl);rfl|refine yDn (by with_reducible constructor) ?_|(with_reducible apply i9);rfl;assumption|(with_reducible apply j6 hS);rfl;rfl;rfl;clear hS;intro g w' hS)
   (focus ((with_reducible apply d9 _ _ _ (by kernel_rfl) (by kernel_rfl) hS);(repeat' ((first|(with_reducible apply g8 c9);rfl;rfl|(with_reducible apply i7);rfl;(intro wd hd;replace hd:St _ _ wd _:=hd;(first|apply Ld.sc c9;rfl;exact hd.blkC 0 rfl rfl|apply Ld.sl c9;rfl;exact hd.blkC 1 rfl rfl));rfl|(with_reducible apply a0f c9);rfl;rfl;rfl;rfl;omega;rfl)));all_goals ((with_reducible apply k8);intro w' hS';clear hS;have hS:=hS';clear hS')))
   repeat' (first|(with_reducible apply d5 c9);rfl;rfl;rfl|(with_reducible apply a0w);rfl;rfl;omega;omega;rfl|refine yDn (by with_reducible constructor) ?_|first|(with_reducible apply t3 hS c9 (i:=4));(iterate 4 rfl);assumption;(iterate 5 rfl);intro w' hS';simp only [List.set] at hS';clear hS;have hS:=hS';clear hS'|(with_reducible apply d6);rfl;(apply Ld.sc c9;rfl;exact hS.rowCj 4 rfl hrow rfl);rfl)
   rw [e1] at hS
   repeat' (first|(with_reducible apply d5 c9);rfl;rfl;rfl|(with_reducible apply v8 c9);rfl;rfl;exact (rfl:_=some [_,_]);rfl|refine yDn (by with_reducible constructor) ?_|(with_reducible apply i6);rfl;assumption|first|(with_reducible apply a2t hS c9 (i:=4));(iterate 4 rfl);assumption;(iterate 5 rfl);intro w' hS';simp only [List.set] at hS';clear hS;have hS:=hS';clear hS'|(with_reducible apply d6);rfl;(apply Ld.sc c9;rfl;exact hS.rowCj 4 rfl hrow1 rfl);rfl)
   rw [e2] at hS
   (refine b3T rfl ?_)
   exact ⟨rfl,by rw [xi3];exact hS.drop⟩
  ·have hd0:decide (f.refs - 1=0)=false:=xi7 h0;rw [xe7 h0];refine yEn Tryz.func103 Tryz.ntmps103 (by kernel_rfl) (by kernel_rfl) rfl rfl ?_
   repeat' (first|(with_reducible apply d5 c9);rfl;rfl;rfl|(with_reducible apply d6);rfl;(apply Ld.sc c9;rfl;exact hS.blkC 0 rfl rfl);rfl|refine yDn (by with_reducible constructor) ?_|(with_reducible apply i9);rfl;assumption|(with_reducible apply j6 hS);rfl;rfl;rfl;clear hS;intro g w' hS)
   (focus ((with_reducible apply d9 _ _ _ (by kernel_rfl) (by kernel_rfl) hS);(repeat' ((first|(with_reducible apply g8 c9);rfl;rfl|(with_reducible apply i7);rfl;(intro wd hd;replace hd:St _ _ wd _:=hd;(first|apply Ld.sc c9;rfl;exact hd.blkC 0 rfl rfl|apply Ld.sl c9;rfl;exact hd.blkC 1 rfl rfl));rfl|(with_reducible apply a0f c9);rfl;rfl;rfl;rfl;omega;rfl)));all_goals ((with_reducible apply k8);intro w' hS';clear hS;have hS:=hS';clear hS')))
   repeat' (first|(with_reducible apply d5 c9);rfl;rfl;rfl|(with_reducible apply a0w);rfl;rfl;omega;omega;rfl|refine yDn (by with_reducible constructor) ?_|first|(with_reducible apply t3 hS c9 (i:=4));(iterate 4 rfl);assumption;(iterate 5 rfl);intro w' hS';simp only [List.set] at hS';clear hS;have hS:=hS';clear hS'|(with_reducible apply d6);rfl;(apply Ld.sc c9;rfl;exact hS.rowCj 4 rfl hrow rfl);rfl)
   rw [e1] at hS
   repeat' (first|(with_reducible apply d5 c9);rfl;rfl;rfl|refine yDn (by with_reducible constructor) ?_|(with_reducible apply i9);rfl;assumption|(with_reducible apply d6);rfl;(apply Ld.sc c9;rfl;exact hS.rowCj 4 rfl hrow1 rfl);rfl)
   (refine b3T rfl ?_)
   exact ⟨rfl,by rw [xi3];exact hS.drop⟩
theorem a84 {l:List Sp} {i:Nat} {x:Sp} (h:l[i]?=some x):(l.map x9).Perm (x9 x::(l.eraseIdx i).map x9):=(a2L h).map x9
theorem b4L {l:List Sp} {i:Nat} {x y:Sp} (h:l[i]?=some x):(x9 y::(l.eraseIdx i).map x9).Perm ((l.set i y).map x9):=by
 have h1:=a84 (l:=l.set i y) (i:=i) (x:=y) (a5z (f7 h));rw [a0Z] at h1;exact h1.symm
theorem St.pullE {F:Nat->Prop} {w0 w:World} {Γ:List Asr} (h:St F w0 w Γ) (m:Nat) {l:List Sp} {i:Nat} {x:Sp} (hx:l[i]?=some x) (hΓ:Γ.drop m=l.map x9):St F w0 w (x9 x::t5 (Γ.take m) ((l.eraseIdx i).map x9)):=by
 rw [a3Y];refine h.perm ?_;have h1:Γ.Perm (Γ.take m++(x9 x::(l.eraseIdx i).map x9)):=by
  conv=>lhs;rw [<- xj7 m Γ,hΓ]
  exact (a84 hx).append_left _
 exact h1.trans xm1
theorem St.pushE {F:Nat->Prop} {w0 w:World} {Γ:List Asr} {y:Sp} (h:St F w0 w (x9 y::Γ)) (m:Nat) {l:List Sp} {i:Nat} {x:Sp} (hx:l[i]?=some x) (hΓ:Γ.drop m=(l.eraseIdx i).map x9):St F w0 w (t5 (Γ.take m) ((l.set i y).map x9)):=by
 rw [a3Y];refine h.perm ?_;have h1:(x9 y::Γ).Perm (Γ.take m++(x9 y::(l.eraseIdx i).map x9)):=by
  conv=>lhs;rw [<- xj7 m Γ,hΓ]
  exact List.perm_middle.symm
 exact h1.trans ((b4L hx).append_left _)
theorem a4a {α β:Type} {φ:α->β} {l:List α} {i:Nat} {x y:α} (h:l[i]?=some x) (e:φ y=φ x):(l.set i y).map φ=l.map φ:=by
 refine xg6 fun j=>?_;rw [xh0,xh0,xd7];by_cases hj:i=j
 ·subst hj;rw [xe6 rfl,xe6 (f7 h),h];exact congrArg some e
 ·rw [xe7 hj]
theorem Sl.rng {w:World} {sz b off n c:Nat} {rows:List (List Value)} (h:Sl nF w sz (.slice (some ⟨b,off,none⟩) n c) rows) {k:Nat} {r:List Value} (hk:rows[k]?=some r):w.rangeAt b (off + k * sz) r:=by
 rcases h with ⟨p,c',h1,h2⟩|⟨b',off',cap,h1,-,-,hro⟩
 ·rw [h2] at hk;simp at hk
 ·cases h1
  exact (St.start w).roR hro hk
theorem a1e {k:KV} {sp:Nat} {x:Sp} (h:k.sp[sp]?=some x):k.K.spaces[sp]?=some x.s:=by
 show (k.sp.map (·.s))[sp]?=_;rw [xh0,h];rfl
theorem a1F {K:Ker} (h:Right K):∀ s ∈ K.spaces,b60 K.sheets K.frames.length K.slots.length s/\s.entries.length<=255:=fun s hs=>⟨a2x.1 (h.spaces s hs),(a3j (h.spaces s hs)).1⟩
theorem a34 {K:Ker} (h:Right K):(∀ f ∈ K.frames,0<=f.refs/\f.refs<=100000)/\∀ f ∈ K.slots,0<=f.refs/\f.refs<=100000:=by
 have hb:=a4H (L:=K.spaces) (xc6.2 h.spaces);have hc:=h.cnt;have hl:∀ k (i:Nat),(j8 K.spaces k (i:Nat)).length<=2000:=fun k i=>by
  rw [<- a1T];have:=xm2 (fun (n:Nm)=>decide (n.1.kind=k/\n.1.at_=((i:Nat):Int))) (a04 K.spaces);omega
 constructor
 ·intro f hf;obtain ⟨i,hi⟩:=xd6.1 hf;rw [(h.fr i f hi).refs];have:=hl 1 i;omega
 ·intro f hf;obtain ⟨i,hi⟩:=xd6.1 hf;rw [(h.sl i f hi).refs];have:=hl 2 i;omega
theorem b1X {k:KV} (h:Right k.K) {sp:Nat} {x:Sp} (hx:k.sp[sp]?=some x) {e:En} (he:e ∈ x.s.entries):a5w k e:=by
 refine ⟨?_,(a34 h).1,(a34 h).2⟩;rcases (h.ent (a1e hx) he).2 with ⟨a,b⟩|⟨a,b⟩
 ·exact xd4 ⟨a,b⟩
 ·exact xd1 ⟨by omega,b⟩
theorem Sl.cel {w:World} {sz b off n c:Nat} {rows:List (List Value)} (h:Sl nF w sz (.slice (some ⟨b,off,none⟩) n c) rows) {k j:Nat} {r:List Value} {u:Value} (hk:rows[k]?=some r) (hj:r[j]?=some u):w.cell? ⟨b,off + k * sz + j,none⟩=some u:=h.rng hk j u hj
theorem Sl.cel0 {w:World} {sz b off n c:Nat} {rows:List (List Value)} (h:Sl nF w sz (.slice (some ⟨b,off,none⟩) n c) rows) {k:Nat} {r:List Value} {u:Value} (hk:rows[k]?=some r) (hj:r[0]?=some u):w.cell? ⟨b,off + k * sz,none⟩=some u:=h.rng hk 0 u hj
theorem Sl.form1 {w:World} {sz:Nat} {α:Type} {f:α->List Value} {l:List α} {v:Value} {i:Nat} {x:α} (h:Sl nF w sz v (l.map f)) (hx:l[i]?=some x):∃ b off c,v=.slice (some ⟨b,off,none⟩) l.length c:=by
 obtain ⟨p,c,rfl⟩:=h.len;obtain ⟨b,off,rfl,-⟩:=h.at_ (f7 hx);exact ⟨b,off,c,rfl⟩
def a0d (k:KV):List Asr:=.row 142 3 k.vsh (a2r k.sh)::(k.sh.map fxA++k.sp.map a17)
theorem KRo.own {F:Nat->Prop} {w0 w:World} {g:Nat} {k:KV} {sp:Nat} {vh:Value} {held:List Nat} {Γ:List Asr} (hS:St F w0 w (wkS g k sp vh held++(a0d k++Γ))):KRo (fps (wkS g k sp vh held)) w k:=by
 have hmem:∀ {e sz:Nat} {v:Value} {rows:List (List Value)},Asr.row e sz v rows ∈ a0d k->Sl (fps (wkS g k sp vh held)) w sz v rows:=fun h=>by
  obtain ⟨j,hj⟩:=xd6.1 (xe1 Γ h);exact hS.ownSl j hj
 refine ⟨⟨hmem xc4,fun p hp=>?_⟩,fun p hp=>?_⟩
 ·exact hmem (e:=156) (xc5 _ (xe1 _ (xh6.2 ⟨p,hp,rfl⟩)))
 ·exact hmem (e:=136) (xc5 _ (xe2 _ (xh6.2 ⟨p,hp,rfl⟩)))
theorem b2r (l:List Sp):(spA l).Perm (l.map a17++l.map x9):=by
 induction l with
 |nil=>exact List.Perm.refl _
 |cons p l ih=>
  show (a17 p::x9 p::spA l).Perm (a17 p::(l.map a17++x9 p::l.map x9));exact ((ih.cons _).trans List.perm_middle.symm).cons _
theorem a5i (k:KV):(kA k).Perm (frA k::slA k::a20 k::(k.sp.map x9++a0d k)):=by
 unfold kA a0d;refine (List.Perm.swap _ _ _).trans (List.Perm.cons _ ?_);refine (List.Perm.swap _ _ _).trans (List.Perm.cons _ ?_);refine (List.Perm.swap _ _ _).trans (List.Perm.cons _ ?_);refine List.Perm.trans (List.Perm.cons _ ?_) List.perm_middle.symm;refine ((b2r k.sp).append_left _).trans ?_;rw [<- xf4];exact xl8
theorem b0e {k:KV} (h:Right k.K):KBd k:=by
 have hc:=h.cnt;have h1:k.K.frames.length=k.fr.length:=rfl;have h2:k.K.slots.length=k.sl.length:=rfl;have h3:k.K.spaces.length=k.sp.length:=xi3 _;have h4:k.K.sheets.length=k.sh.length:=xi3 _;refine ⟨by omega,by omega,by omega,by omega,fun x hx=>?_,fun p hp=>?_,fun p hp=>?_⟩
 ·have:=a5A ((a3n h.rise).1 x.1 (xh6.2 ⟨x,hx,rfl⟩)).1;omega
 ·have:=(a1F h p.s (xh6.2 ⟨p,hp,rfl⟩)).1.ar;have:=(k9.1 this).1;omega
 ·have:=(a1F h p.s (xh6.2 ⟨p,hp,rfl⟩)).2;omega
theorem b14 {w:World} {k:KV} (hK:KerV w k) (space:Int):Fn Tryz.prog 41 [.agg (kvC k).toArray,.int .i64 space] w (fun v w'=>(a0c k.K space≠0/\v=.tuple #[.pointer none,.int .i64 (a0c k.K space)]/\St nF w w' [])\/∃ (g sp:Nat) (k':KV),a0c k.K space=0/\space=(sp:Nat)/\v=.tuple #[.pointer (some ⟨g,0,none⟩),.int .i64 0]/\k'.K=k.K/\St nF w w' (wkS g k' sp (.slice none 0 0) []++a0d k')):=by
 have hchk:=fun w1 (h:KerV w1 k)=>a9a h;by_cases hc0:a09 k.K=0;rotate_left
 ·have hE:a0c k.K space=a09 k.K:=by unfold a0c;rw [xe7 hc0]
  rw [hE];have hd:decide (a09 k.K=0)=false:=xi7 hc0;generalize a09 k.K=c at hchk hc0 hE hd |-;obtain ⟨sh,fr,sl,sps,hand,vsh,vfr,vsl,vsp⟩:=k;have hK0:=hK;obtain ⟨k1,k2,k3,k4,k5⟩:=hK;dsimp only at k1 k2 k3 k4 k5;obtain ⟨p1,c1,rfl⟩:=k1.sl.len;obtain ⟨p2,c2,rfl⟩:=k2.len;obtain ⟨p3,c3,rfl⟩:=k3.len;obtain ⟨p4,c4,rfl⟩:=k4.len;unfold kvC at hchk |-;dsimp only at hchk |-;refine yEn Tryz.func41 Tryz.ntmps41 (by kernel_rfl) (by kernel_rfl) rfl rfl ?_;have hS:=St.start w
  repeat' (first|(with_reducible apply d5 c9);rfl;rfl;rfl|(with_reducible apply d6);rfl;(apply Ld.st c9;rfl;exact hS.blkR 0 rfl;rfl);rfl|refine yDn (by with_reducible constructor) ?_|(with_reducible apply j6 hS);rfl;rfl;rfl;clear hS;intro g w' hS|(with_reducible apply a0j);rfl;all_goals (intro hb hp;try (exfalso;omega))|(with_reducible apply f9 hS);rfl;rfl;rfl;refine ⟨_,hchk _ (hK0.now hS),?_⟩;clear hS;intro w' hS)
  (refine a1a rfl ?_)
  exact xd4 ⟨hc0,rfl,hS.sub (xi4 _)⟩
 have hr:=a7b.1 hc0;have hown:=fun w1 (h:KerV w1 k)=>b6F h (b0e hr);rw [hc0] at hchk;have h4:=hr.cnt.2.2.2.2.1;have hlE:a0c k.K space=if 0<=space/\space < (k.K.spaces.length:Int)/\(a0I k.K space.toNat).live=true then 0 else 6:=by unfold a0c;rw [xe6 hc0]
 have hK0:=hK;have hKl:k.K.spaces.length=k.sp.length:=xi3 _;have hsc:∀ (i:Nat) x,k.sp[i]?=some x->a0I k.K i=x.s:=fun i x hx=>z7 (a1e hx);rw [hKl] at hlE h4;obtain ⟨lE,hlEq⟩:∃ e,e=a0c k.K space:=⟨_,rfl⟩;rw [<- hlEq] at hlE |-;obtain ⟨sh,fr,sl,sps,hand,vsh,vfr,vsl,vsp⟩:=k;obtain ⟨k1,k2,k3,k4,k5⟩:=hK;dsimp only at k1 k2 k3 k4 k5 hlE h4 hsc;obtain ⟨p1,c1,rfl⟩:=k1.sl.len;obtain ⟨p2,c2,rfl⟩:=k2.len;obtain ⟨p3,c3,rfl⟩:=k3.len;obtain ⟨p4,c4,rfl⟩:=k4.len;unfold kvC at hchk hown |-;dsimp only at hchk hown |-;by_cases hin:0<=space/\space < (sps.length:Int);rotate_left
 ·rw [xe7 (fun h=>hin ⟨h.1,h.2.1⟩)] at hlE;subst hlE;refine yEn Tryz.func41 Tryz.ntmps41 (by kernel_rfl) (by kernel_rfl) rfl rfl ?_;have hS:=St.start w
  repeat' (first|(with_reducible apply d5 c9);rfl;rfl;rfl|(with_reducible apply d6);rfl;(first|apply Ld.sl c9;rfl;exact hS.blkC 0 rfl rfl|apply Ld.st c9;rfl;exact hS.blkR 0 rfl;rfl);rfl|refine yDn (by with_reducible constructor) ?_|(with_reducible apply l8);(iterate 4 rfl);assumption|(with_reducible apply a0a);(iterate 4 rfl);(first|rfl|assumption);rfl|(with_reducible apply j9);rfl;(first|rfl|assumption);rfl;rfl|(with_reducible apply i4);rfl;assumption;rfl;rfl|(with_reducible apply i6);rfl;rfl|(with_reducible apply i9);rfl;rfl|(with_reducible apply j6 hS);rfl;rfl;rfl;clear hS;intro g w' hS|(with_reducible apply s7);rfl;rfl;rfl;all_goals (intro hb hp;try (exfalso;omega))|(with_reducible apply f9 hS);rfl;rfl;rfl;refine ⟨_,hchk _ (hK0.now hS),?_⟩;clear hS;intro w' hS)
  all_goals (apply a0i)
  all_goals (repeat (first|exact ResL.nil|apply ResL.tmp;rfl))
  all_goals (exact xd4 ⟨by omega,rfl,hS.sub (xi4 _)⟩)
 obtain ⟨i,rfl⟩:∃ i:Nat,space=(i:Nat):=⟨space.toNat,by omega⟩;obtain ⟨x,hx⟩:=j4 (l:=sps) (i:=i) (by omega);have hxs:=hsc i x hx;have hrow:=f8 (f:=spC) hx;obtain ⟨b,off,rfl,hro⟩:=k4.at_ (i:=i) (by omega);unfold spC at hrow;rw [show (((i:Nat):Int)).toNat=i from rfl,hxs] at hlE
 cases hlv:x.s.live with
 |false=>
  rw [xe7 (fun h=>by rw [hlv] at h;cases h.2.2)] at hlE;subst hlE;rw [hlv] at hrow;refine yEn Tryz.func41 Tryz.ntmps41 (by kernel_rfl) (by kernel_rfl) rfl rfl ?_;have hS:=St.start w
  repeat' (first|(with_reducible apply d5 c9);rfl;rfl;rfl|(with_reducible apply d6);rfl;(first|apply Ld.sc c9;rfl;exact hS.roC0 (by assumption) (by assumption) rfl|apply Ld.sl c9;rfl;exact hS.blkC 0 rfl rfl|apply Ld.st c9;rfl;exact hS.blkR 0 rfl;rfl);rfl|(with_reducible apply m8 c9);rfl;rfl;rfl;rfl;omega;rfl|refine yDn (by with_reducible constructor) ?_|((with_reducible apply l8);(iterate 4 rfl);first|rfl|assumption)|(with_reducible apply i4);rfl;(first|rfl|assumption);rfl;rfl|(with_reducible apply i6);rfl;rfl|(with_reducible apply i9);rfl;rfl|(with_reducible apply j6 hS);rfl;rfl;rfl;clear hS;intro g w' hS|(with_reducible apply s7);rfl;rfl;rfl;all_goals (intro hb hp;try (exfalso;omega))|(with_reducible apply f9 hS);rfl;rfl;rfl;refine ⟨_,hchk _ (hK0.now hS),?_⟩;clear hS;intro w' hS)
  (refine a1a rfl ?_)
  exact xd4 ⟨by omega,rfl,hS.sub (xi4 _)⟩
 |true=>
  rw [xe6 ⟨hin.1,hin.2,hlv⟩] at hlE;subst hlE;rw [hlv] at hrow;refine yEn Tryz.func41 Tryz.ntmps41 (by kernel_rfl) (by kernel_rfl) rfl rfl ?_;have hS:=St.start w
  repeat' (first|(with_reducible apply d5 c9);rfl;rfl;rfl|(with_reducible apply d6);rfl;(first|apply Ld.sc c9;rfl;exact hS.roC0 (by assumption) (by assumption) rfl|apply Ld.sl c9;rfl;exact hS.blkC 0 rfl rfl|apply Ld.st c9;rfl;exact hS.blkR 0 rfl;rfl);rfl|(with_reducible apply m8 c9);rfl;rfl;rfl;rfl;omega;rfl|(with_reducible apply v8 c9);rfl;rfl;exact (rfl:_=some [_,_,_,_,_,_,_]);rfl|refine yDn (by with_reducible constructor) ?_|((with_reducible apply l8);(iterate 4 rfl);first|rfl|assumption)|(with_reducible apply i4);rfl;(first|rfl|assumption);rfl;rfl|(with_reducible apply i9);rfl;rfl|(with_reducible apply j6 hS);rfl;rfl;rfl;clear hS;intro g w' hS|(with_reducible apply s7);rfl;rfl;rfl;all_goals (intro hb hp;try (exfalso;omega))|(with_reducible apply f9 hS);rfl;rfl;rfl;refine ⟨_,hchk _ (hK0.now hS),?_⟩;clear hS;intro w' hS|(with_reducible apply l9);rfl;rfl;rfl;refine ⟨_,hown _ (hK0.now hS),?_⟩;rintro _ w' ⟨k',rfl,hk',hS'⟩;(replace hS:=hS.trans hS');clear hS')
  (refine a1a rfl ?_)
  refine xd1 ⟨_,i,k',rfl,rfl,rfl,hk',?_⟩;replace hS:St nF w w' (.blk _ (wkB k' i (.slice none 0 0))::(kA k'++[_])):=hS;have h1:St nF w w' (.blk _ (wkB k' i (.slice none 0 0))::kA k'):=hS.sub (List.Sublist.cons_cons _ (xl7 _ _));have h2:=(h1.perm ((a5i k').cons _)).addNil 3 1;exact h2.perm (List.Perm.swap _ _ _)
theorem a7V {w:World} {k:KV} (hK:KerV w k) (hB:KBd k):Fn Tryz.prog 51 [.agg (kvC k).toArray] w (fun v w'=>∃ k':KV,v=.agg (kvC k').toArray/\k'.K=k.K/\St nF w w' (kA k')):=by
 obtain ⟨sh,fr,sl,sp,hand,vsh,vfr,vsl,vsp⟩:=k;obtain ⟨k1,k2,k3,k4,k5⟩:=hK;obtain ⟨b1,b2,b3,b4,b5,b6,b7⟩:=hB;dsimp only at k1 k2 k3 k4 k5 b1 b2 b3 b4 b5 b6 b7 |-;obtain ⟨p1,c1,rfl⟩:=k1.sl.len;obtain ⟨p2,c2,rfl⟩:=k2.len;obtain ⟨p3,c3,rfl⟩:=k3.len;obtain ⟨p4,c4,rfl⟩:=k4.len;unfold kvC;dsimp only;refine yEn Tryz.func51 Tryz.ntmps51 (by kernel_rfl) (by kernel_rfl) rfl rfl ?_;have hS:=St.start w
 (repeat ((refine yDn (by with_reducible constructor) ?_)))
 (((with_reducible apply j6 hS);rfl;rfl;rfl);clear hS;intro g1 w' hS)
 (((with_reducible apply f5 hS c9);rfl;rfl;rfl);clear hS;intro g2 w' hS)
 (repeat (first|(with_reducible apply d5 c9);rfl;rfl;rfl|(with_reducible apply d6);rfl;(apply Ld.sc c9;rfl;exact hS.blkC 1 rfl rfl);rfl|(with_reducible apply v8 c9);rfl;rfl;exact (rfl:_=some [_,_,_,_,_]);rfl|refine yDn (by with_reducible constructor) ?_))
 (((with_reducible apply f5 hS c9);rfl;rfl;rfl);clear hS;intro g3 w' hS)
 repeat' (first|(with_reducible apply d5 c9);rfl;rfl;rfl|refine yDn (by with_reducible constructor) ?_|(with_reducible apply d7 hS c9 (i:=0));(iterate 8 rfl);exact (rfl:_=[_,_,_,_,_]);clear hS;intro w' hS;simp only [List.set] at hS)
 replace hS:=hS.addNil 142 3;have hsl1:=k1.sl;refine n9 (F:=nF) (w0:=w) (X:=Option Addr×Nat×List (Sh×Value)) (fun x=>[(4,.int .i64 (x.2.2.length:Nat))]) [1,2,3] rfl (fun x=>[.row 142 3 (.slice x.1 x.2.2.length x.2.1) (a2r x.2.2),.blk g3 [.slice x.1 x.2.2.length x.2.1,.slice none 0 0,.slice none 0 0,.slice none 0 0,.int .i64 hand],.blk g2 [.slice none 0 0,.slice none 0 0,.slice none 0 0,.slice none 0 0,.int .i64 0],.blk g1 [.slice p1 sh.length c1,.slice p2 fr.length c2,.slice p3 sl.length c3,.slice p4 sp.length c4,.int .i64 hand]]++x.2.2.map fxA) (Γ:=[]) (fun x=>x.2.2.length<=sh.length/\shs x.2.2=(shs sh).take x.2.2.length) (fun x=>sh.length - x.2.2.length) (none,0,[]) (by exact Fr.sub_of rfl) ⟨xf9 _,rfl⟩ hS ?_;clear hS;rintro ⟨qH,cH,N⟩ w1 ⟨hN,hNs⟩ hS;dsimp only [List.cons_append,List.nil_append,List.append_nil] at hN hNs hS |-;rw [List.append_nil] at hS;by_cases hlt:N.length < sh.length
 ·obtain ⟨x,hx⟩:=j4 (l:=sh) (i:=N.length) (by omega);have hrow:=f8 (f:=fun p:Sh×Value=>shC p.1 p.2) hx;obtain ⟨b,off,rfl,hro⟩:=hsl1.at_ (i:=N.length) hlt;have hfx:=k1.fx x (xc8 hx);have hfl:=b5 x (xc8 hx);obtain ⟨S,u⟩:=x;dsimp only [shC] at hrow hfx hfl;obtain ⟨pu,cu,rfl⟩:=hfx.len
  repeat' (first|(with_reducible apply d5 c9);rfl;rfl;rfl|(with_reducible apply d6);rfl;(first|apply Ld.sl c9;rfl;(first|exact hS.blkC 1 rfl rfl|exact hS.blkC 3 rfl rfl)|apply Ld.st c9;rfl;(first|exact hS.blkR 1 rfl|exact hS.roR (by assumption) (by assumption));rfl);rfl|(with_reducible apply m8 c9);rfl;rfl;rfl;rfl;omega;rfl|refine yDn (by with_reducible constructor) ?_|(with_reducible apply f5 hS c9);rfl;rfl;rfl;clear hS;intro g w' hS|(with_reducible apply a0G hS c9);(iterate 7 rfl);clear hS;intro g w' hS|(with_reducible apply d7 hS c9 (i:=0));(iterate 8 rfl);exact (rfl:_=[_,_,_]);clear hS;intro w' hS;simp only [List.set] at hS|(with_reducible apply d7 hS c9 (i:=1));(iterate 8 rfl);exact (rfl:_=[_,_,_]);clear hS;intro w' hS;simp only [List.set] at hS|(with_reducible apply d8);rfl;all_goals (intro hb hp;try (exfalso;omega))|(((with_reducible apply a0A hS c9 0);(iterate 4 rfl);exact hfx.now hS;(simp only [xi3,xb0,xa2,xe5];omega);rfl;clear hS;intro qX cX w' hS;simp only [List.set] at hS);simp only [xa2,xi3,xa8,List.nil_append] at hS |-))
  have hsr:(a2r N).length=N.length:=by unfold a2r;rw [xi3]
  repeat' (first|(with_reducible apply d5 c9);rfl;rfl;rfl|(with_reducible apply j7);rfl;rfl;omega;omega;rfl|refine yDn (by with_reducible constructor) ?_|(with_reducible apply d7 hS c9 (i:=4));(iterate 8 rfl);exact (rfl:_=[_,_,_,_,_]);clear hS;intro w' hS;simp only [List.set] at hS|(with_reducible apply a31 hS c9 3);(iterate 4 rfl);exact hS.rowRo 0 rfl;rfl;omega;rfl;intro p' cap' w' hS';simp only [List.set] at hS';clear hS;have hS:=hS';clear hS')
  rw [hsr] at hS |-
  repeat' (fail)
  replace hS:=St.reorderT 7 [3,4,5,6,1] hS (by decide) rfl;simp only [t5,xl1,xl2] at hS;have hyS:fxA (S,.slice qX S.fixes.length cX)=.row 156 2 (.slice qX S.fixes.length cX) (S.fixes.map fxC):=rfl;rw [<- hyS] at hS;refine i5 (p',cap',N++[(S,.slice qX S.fixes.length cX)]) ?_ ?_ ?_ ?_
  ·dsimp only;rw [xe5,xl3];exact Fr.sub_of rfl
  ·dsimp only;refine ⟨by rw [xe5,xl3];omega,?_⟩;rw [xe5,xl3,o7 (a21 hx),<- hNs];unfold shs;rw [xj3];rfl
  ·dsimp only;unfold a2r at hS |-;rw [xe5,xl3,xj3,xj3,List.append_nil];refine hS.perm ?_
   repeat (apply List.Perm.cons)
   exact (xl4 _ _).symm
  ·dsimp only;rw [xe5,xl3];omega
 have hNn:N.length=sh.length:=by omega
 replace hS:=((hS.addNil 84 4).addNil 88 2).addNil 78 3;have hsl4:=k4
 repeat' (first|(with_reducible apply d5 c9);rfl;rfl;rfl|(with_reducible apply d6);rfl;(apply Ld.sl c9;rfl;(first|exact hS.blkC 4 rfl rfl|exact hS.blkC 6 rfl rfl));rfl|refine yDn (by with_reducible constructor) ?_|(with_reducible apply d7 hS c9 (i:=4));(iterate 8 rfl);exact (rfl:_=[_,_,_,_,_]);clear hS;intro w' hS;simp only [List.set] at hS|(with_reducible apply d8);rfl;all_goals (intro hb hp;try (exfalso;omega))|(((with_reducible apply a0A hS c9 2);(iterate 4 rfl);exact k2.now hS;(simp only [xi3,xb0,xa2,xe5];omega);rfl;clear hS;intro qF cF w' hS;simp only [List.set] at hS);simp only [xa2,xi3,xa8,List.nil_append] at hS |-)|(((with_reducible apply a0A hS c9 1);(iterate 4 rfl);exact k3.now hS;(simp only [xi3,xb0,xa2,xe5];omega);rfl;clear hS;intro qS cS w' hS;simp only [List.set] at hS);simp only [xa2,xi3,xa8,List.nil_append] at hS |-))
 replace hS:=St.reorderT 7 [4,0,3,2,1,5,6] hS (by decide) rfl;simp only [t5,xl1,xl2] at hS;refine n9 (F:=nF) (w0:=w) (X:=Option Addr×Nat×List Sp) (fun x=>[(6,.int .i64 (x.2.2.length:Nat))]) [1,2,3] rfl (fun x=>[.blk g3 [.slice qH N.length cH,.slice qF fr.length cF,.slice qS sl.length cS,.slice x.1 x.2.2.length x.2.1,.int .i64 hand],.row 78 3 (.slice x.1 x.2.2.length x.2.1) (x.2.2.map spC),.row 142 3 (.slice qH N.length cH) (a2r N),.row 84 4 (.slice qF fr.length cF) (fr.map fmC),.row 88 2 (.slice qS sl.length cS) (sl.map swC),.blk g2 [.slice none 0 0,.slice none 0 0,.slice none 0 0,.slice none 0 0,.int .i64 0],.blk g1 [.slice p1 sh.length c1,.slice p2 fr.length c2,.slice p3 sl.length c3,.slice p4 sp.length c4,.int .i64 hand]]++(N.map fxA++spA x.2.2)) (Γ:=[]) (fun x=>x.2.2.length<=sp.length/\x.2.2.map (·.s)=(sp.map (·.s)).take x.2.2.length) (fun x=>sp.length - x.2.2.length) (none,0,[]) (by exact Fr.sub_of rfl) ⟨xf9 _,rfl⟩ (by show St nF w _ ((_++(N.map fxA++[]))++[]);rw [List.append_nil,List.append_nil];exact hS) ?_;clear hS;rintro ⟨qP,cP,M⟩ w1 ⟨hM,hMs⟩ hS;dsimp only [List.cons_append,List.nil_append] at hM hMs hS |-;rw [List.append_nil] at hS;by_cases hlt2:M.length < sp.length;rotate_left
 ·have hMn:M.length=sp.length:=by omega
  repeat' (first|(with_reducible apply d5 c9);rfl;rfl;rfl|(with_reducible apply d6);rfl;(first|apply Ld.sl c9;rfl;exact hS.blkC 6 rfl rfl|apply Ld.st c9;rfl;exact hS.blkR 0 rfl;rfl);rfl|refine yDn (by with_reducible constructor) ?_|(with_reducible apply d8);rfl;all_goals (intro hb hp;try (exfalso;omega))|(with_reducible apply d7 hS c9 (i:=5));(iterate 8 rfl);exact (rfl:_=[_,_,_,_,_]);clear hS;intro w' hS;simp only [List.set] at hS)
  (apply a22;repeat (first|exact ResL.nil|apply ResL.cell;rfl;(apply Ld.st c9;rfl;exact hS.blkR 5 rfl;rfl)))
  rw [hNn] at hNs hS |-;rw [hMn] at hMs hS |-;rw [xa0 (by rw [a1u];omega)] at hNs;rw [xa0 (by rw [xi3];omega)] at hMs;refine ⟨⟨N,fr,sl,M,hand,.slice qH sh.length cH,.slice qF fr.length cF,.slice qS sl.length cS,.slice qP sp.length cP⟩,rfl,?_,?_⟩
  ·unfold KV.K;dsimp only;rw [hNs,hMs]
  ·unfold kA;dsimp only;replace hS:=hS.reorderT 7 [2,3,4,1] (by decide) rfl;simp only [t5,xl1,xl2] at hS;exact hS
 obtain ⟨x,hx⟩:=j4 (l:=sp) (i:=M.length) (by omega);have hxs:(sp.map (·.s))[M.length]?=some x.s:=f8 (f:=fun p:Sp=>p.s) hx;have hrow:=f8 (f:=spC) hx;obtain ⟨b,off,rfl,hro⟩:=hsl4.at_ (i:=M.length) hlt2;have hxv:=k5 x (xc8 hx);have hxa:=b6 x (xc8 hx);have hxe:=b7 x (xc8 hx);have har:=hxv.ar;have hen:=hxv.en;obtain ⟨s,va,ve⟩:=x;dsimp only at har hen hxa hxe hxs;obtain ⟨pa,ca,rfl⟩:=har.len;obtain ⟨pe,ce,rfl⟩:=hen.len;unfold spC at hrow;dsimp only at hrow
 repeat' (first|(with_reducible apply d5 c9);rfl;rfl;rfl|(with_reducible apply d6);rfl;(first|apply Ld.sl c9;rfl;exact hS.blkC 6 rfl rfl|apply Ld.st c9;rfl;exact hS.roR (by assumption) (by assumption);rfl);rfl|(with_reducible apply m8 c9);rfl;rfl;rfl;rfl;omega;rfl|refine yDn (by with_reducible constructor) ?_|(with_reducible apply f5 hS c9);rfl;rfl;rfl;clear hS;intro g w' hS|(with_reducible apply d7 hS c9 (i:=0));(iterate 8 rfl);exact (rfl:_=[_,_,_]);clear hS;intro w' hS;simp only [List.set] at hS|(with_reducible apply d8);rfl;all_goals (intro hb hp;try (exfalso;omega)))
 refine a4d 2 16 17 rfl hS (by kernel_rfl) ?_;intro w10 hS';clear hS;have hS:=hS';clear hS';simp only [xl5,xl6];have hH:=hS.sub (xl7 [_,_] _)
 ((with_reducible apply q8 (nn 0) c9);rfl;kernel_rfl;exact (fun _ _ _ h=>h);exact xd1 hH;rfl;rfl)
 ((with_reducible apply s6 (nn 1));rfl;kernel_rfl;kernel_rfl;rfl;exact (fun _ _ _ h=>h);exact hH;rfl;(intro w2 hw2;(replace hw2:St _ _ w2 _:=hw2;(apply Ld.sl c9;rfl;exact hw2.blkC 1 rfl rfl)));rfl)
 ((with_reducible apply q8 (nn 2) c9);rfl;kernel_rfl;exact (fun _ _ _ h=>h);exact xd1 hH;rfl;rfl)
 ((with_reducible apply s6 (nn 3));rfl;kernel_rfl;kernel_rfl;rfl;exact (fun _ _ _ h=>h);exact hH;rfl;(intro w2 hw2;(replace hw2:St _ _ w2 _:=hw2;(apply Ld.sc c9;rfl;exact hw2.blkC 0 rfl rfl)));rfl)
 ((with_reducible apply q8 (nn 5) c9);rfl;kernel_rfl;exact (fun _ _ _ h=>h);exact xd1 hH;rfl;rfl)
 ((with_reducible apply s6 (nn 6));rfl;kernel_rfl;kernel_rfl;rfl;exact (fun _ _ _ h=>h);exact hH;rfl;(intro w2 hw2;(replace hw2:St _ _ w2 _:=hw2;(apply Ld.sl c9;rfl;exact hw2.blkC 0 rfl rfl)));rfl)
 ((with_reducible apply q8 (nn 9) c9);rfl;kernel_rfl;exact (fun _ _ _ h=>h);exact xd1 hH;rfl;rfl)
 ((with_reducible apply s6 (nn 10));rfl;kernel_rfl;kernel_rfl;rfl;exact (fun _ _ _ h=>h);exact hH;rfl;(intro w2 hw2;(replace hw2:St _ _ w2 _:=hw2;(apply Ld.sl c9;rfl;exact hw2.blkC 0 rfl rfl)));rfl)
 refine b5x (i:=4) (j:=8) (by kernel_rfl) ?_ ?_
 ·refine t9 rfl (a0b hS c9 rfl rfl rfl rfl rfl rfl) rfl ?_;rintro _ w' ⟨gA,rfl,hS'⟩;clear hS;have hS:=hS';clear hS';refine ⟨xd1 (xd1 (hS.drop.sub (xl7 [_,_] _))),?_⟩;refine b5x (i:=7) (j:=8) (by kernel_rfl) ?_ ?_
  ·refine t9 rfl (a0X hS c9 (i:=0) rfl rfl rfl rfl (har.now hS) (by simp only [xi3,xa2];omega)) rfl ?_;rintro _ w' ⟨qA,cA,rfl,hS'⟩;simp only [List.set,xa2,xi3,xa8,List.nil_append] at hS' |-;clear hS;have hS:=hS';clear hS';refine ⟨xd1 (xd1 (hS.drop.sub (xl7 [_,_] _))),?_⟩;refine z9 (i:=8) (by kernel_rfl) ?_;refine t9 rfl (a0b hS c9 rfl rfl rfl rfl rfl rfl) rfl ?_;rintro _ w' ⟨gE,rfl,hS'⟩;clear hS;have hS:=hS';clear hS';refine ⟨xd1 (xd1 (hS.drop.drop.sub (xl7 [_,_] _))),?_⟩;refine z9 (i:=11) (by kernel_rfl) ?_;refine t9 rfl (a0X hS c9 (i:=0) rfl rfl rfl rfl (hen.now hS) (by simp only [xi3,xa2];omega)) rfl ?_;rintro _ w' ⟨qE,cE,rfl,hS'⟩;simp only [List.set,xa2,xi3,xa8,List.nil_append] at hS' |-;clear hS;have hS:=hS';clear hS';refine ⟨xd1 (xd1 (hS.drop.drop.sub (xl7 [_,_] _))),?_⟩;have hH:=hS.drop.drop.sub (xl7 [_,_] _)
   ((with_reducible apply a3m (nn 12) c9);rfl;kernel_rfl;kernel_rfl;kernel_rfl;rfl;exact (fun _ _ _ _ h=>h);exact xd1 hH;rfl;rfl;exact (rfl:_=some [_,_,_]);rfl)
   refine z9 (i:=13) (by kernel_rfl) ?_;refine t9 rfl (a0b hS c9 rfl rfl rfl rfl rfl rfl) rfl ?_;rintro _ w' ⟨g9,rfl,hS'⟩;clear hS;have hS:=hS';clear hS';refine ⟨xd1 (xd1 (hS.drop.drop.drop.sub (xl7 [_,_] _))),?_⟩;refine z9 (i:=14) (by kernel_rfl) ?_;refine t9 rfl (a0D hS c9 (i:=5) rfl rfl rfl rfl (hS.rowRo 0 rfl) rfl (by simp only [xi3];omega)) rfl ?_;rintro _ w' ⟨p',c',rfl,hS'⟩;simp only [List.set,xi3] at hS' |-;clear hS;have hS:=hS';clear hS';have hH:=hS.drop.drop.drop.sub (xl7 [_,_] _);refine ⟨xd1 (xd1 hH),?_⟩
   ((with_reducible apply q8 (nn 15) c9);rfl;kernel_rfl;exact (fun _ _ _ h=>h);exact xd1 hH;rfl;rfl)
   refine z9 (i:=16) (by kernel_rfl) ?_;refine a2N (Φ:=fun _ w'=>St _ _ w' _) rfl (s9 hS c9 (i:=4) rfl rfl rfl rfl rfl (xf6 rfl) (by intro u hu;simp [Value.cells] at hu;subst hu;rfl)) ?_;intro _ w' hS';simp only [List.set] at hS';clear hS;have hS:=hS';clear hS';refine ⟨xd4 rfl,?_⟩;refine a3F (by kernel_rfl) ?_
   repeat' (first|(with_reducible apply d5 c9);rfl;rfl;rfl|(with_reducible apply j7);rfl;rfl;omega;omega;rfl|refine yDn (by with_reducible constructor) ?_)
   refine i5 (p',c',M++[⟨s,.slice qA s.areas.length cA,.slice qE s.entries.length cE⟩]) ?_ ?_ ?_ ?_
   ·dsimp only;rw [xe5,xl3];exact Fr.sub_of rfl
   ·dsimp only;refine ⟨by rw [xe5,xl3];omega,?_⟩;rw [xe5,xl3,o7 hxs,<- hMs,xj3];rfl
   ·replace hS:=hS.reorderT 11 [4,5,6,7,8,9,10,2,1] (by decide) rfl;simp only [t5,xl1,xl2] at hS;dsimp only;rw [xe5,xl3,xj3,List.append_nil,a4g];refine hS.perm ?_
    repeat (apply List.Perm.cons)
    rw [<- xf4];exact xl8 (l₁:=[_,_])
   ·dsimp only;rw [xe5,xl3];omega
  ·refine t9 rfl (a0b hS c9 rfl rfl rfl rfl rfl rfl) rfl ?_;rintro _ w' ⟨gE,rfl,hS'⟩;clear hS;have hS:=hS';clear hS';refine ⟨xd1 (xd1 (hS.drop.drop.sub (xl7 [_,_] _))),?_⟩;refine z9 (i:=7) (by kernel_rfl) ?_;refine t9 rfl (a0X hS c9 (i:=1) rfl rfl rfl rfl (har.now hS) (by simp only [xi3,xa2];omega)) rfl ?_;rintro _ w' ⟨qA,cA,rfl,hS'⟩;simp only [List.set,xa2,xi3,xa8,List.nil_append] at hS' |-;clear hS;have hS:=hS';clear hS';refine ⟨xd1 (xd1 (hS.drop.drop.sub (xl7 [_,_] _))),?_⟩;refine z9 (i:=11) (by kernel_rfl) ?_;refine t9 rfl (a0X hS c9 (i:=0) rfl rfl rfl rfl (hen.now hS) (by simp only [xi3,xa2];omega)) rfl ?_;rintro _ w' ⟨qE,cE,rfl,hS'⟩;simp only [List.set,xa2,xi3,xa8,List.nil_append] at hS' |-;clear hS;have hS:=hS';clear hS';refine ⟨xd1 (xd1 (hS.drop.drop.sub (xl7 [_,_] _))),?_⟩;have hH:=hS.drop.drop.sub (xl7 [_,_] _)
   ((with_reducible apply a3m (nn 12) c9);rfl;kernel_rfl;kernel_rfl;kernel_rfl;rfl;exact (fun _ _ _ _ h=>h);exact xd1 hH;rfl;rfl;exact (rfl:_=some [_,_,_]);rfl)
   refine z9 (i:=13) (by kernel_rfl) ?_;refine t9 rfl (a0b hS c9 rfl rfl rfl rfl rfl rfl) rfl ?_;rintro _ w' ⟨g9,rfl,hS'⟩;clear hS;have hS:=hS';clear hS';refine ⟨xd1 (xd1 (hS.drop.drop.drop.sub (xl7 [_,_] _))),?_⟩;refine z9 (i:=14) (by kernel_rfl) ?_;refine t9 rfl (a0D hS c9 (i:=5) rfl rfl rfl rfl (hS.rowRo 0 rfl) rfl (by simp only [xi3];omega)) rfl ?_;rintro _ w' ⟨p',c',rfl,hS'⟩;simp only [List.set,xi3] at hS' |-;clear hS;have hS:=hS';clear hS';have hH:=hS.drop.drop.drop.sub (xl7 [_,_] _);refine ⟨xd1 (xd1 hH),?_⟩
   ((with_reducible apply q8 (nn 15) c9);rfl;kernel_rfl;exact (fun _ _ _ h=>h);exact xd1 hH;rfl;rfl)
   refine z9 (i:=16) (by kernel_rfl) ?_;refine a2N (Φ:=fun _ w'=>St _ _ w' _) rfl (s9 hS c9 (i:=4) rfl rfl rfl rfl rfl (xf6 rfl) (by intro u hu;simp [Value.cells] at hu;subst hu;rfl)) ?_;intro _ w' hS';simp only [List.set] at hS';clear hS;have hS:=hS';clear hS';refine ⟨xd4 rfl,?_⟩;refine a3F (by kernel_rfl) ?_
   repeat' (first|(with_reducible apply d5 c9);rfl;rfl;rfl|(with_reducible apply j7);rfl;rfl;omega;omega;rfl|refine yDn (by with_reducible constructor) ?_)
   refine i5 (p',c',M++[⟨s,.slice qA s.areas.length cA,.slice qE s.entries.length cE⟩]) ?_ ?_ ?_ ?_
   ·dsimp only;rw [xe5,xl3];exact Fr.sub_of rfl
   ·dsimp only;refine ⟨by rw [xe5,xl3];omega,?_⟩;rw [xe5,xl3,o7 hxs,<- hMs,xj3];rfl
   ·replace hS:=hS.reorderT 11 [4,5,6,7,8,9,10,2,1] (by decide) rfl;simp only [t5,xl1,xl2] at hS;dsimp only;rw [xe5,xl3,xj3,List.append_nil,a4g];refine hS.perm ?_
    repeat (apply List.Perm.cons)
    rw [<- xf4];exact xl8 (l₁:=[_,_])
   ·dsimp only;rw [xe5,xl3];omega
 ·refine t9 rfl (a0b hS c9 rfl rfl rfl rfl rfl rfl) rfl ?_;rintro _ w' ⟨gE,rfl,hS'⟩;clear hS;have hS:=hS';clear hS';refine ⟨xd1 (xd1 (hS.drop.sub (xl7 [_,_] _))),?_⟩;refine z9 (i:=4) (by kernel_rfl) ?_;refine t9 rfl (a0b hS c9 rfl rfl rfl rfl rfl rfl) rfl ?_;rintro _ w' ⟨gA,rfl,hS'⟩;clear hS;have hS:=hS';clear hS';refine ⟨xd1 (xd1 (hS.drop.drop.sub (xl7 [_,_] _))),?_⟩;refine z9 (i:=7) (by kernel_rfl) ?_;refine t9 rfl (a0X hS c9 (i:=0) rfl rfl rfl rfl (har.now hS) (by simp only [xi3,xa2];omega)) rfl ?_;rintro _ w' ⟨qA,cA,rfl,hS'⟩;simp only [List.set,xa2,xi3,xa8,List.nil_append] at hS' |-;clear hS;have hS:=hS';clear hS';refine ⟨xd1 (xd1 (hS.drop.drop.sub (xl7 [_,_] _))),?_⟩;refine z9 (i:=11) (by kernel_rfl) ?_;refine t9 rfl (a0X hS c9 (i:=1) rfl rfl rfl rfl (hen.now hS) (by simp only [xi3,xa2];omega)) rfl ?_;rintro _ w' ⟨qE,cE,rfl,hS'⟩;simp only [List.set,xa2,xi3,xa8,List.nil_append] at hS' |-;clear hS;have hS:=hS';clear hS';refine ⟨xd1 (xd1 (hS.drop.drop.sub (xl7 [_,_] _))),?_⟩;replace hS:=St.reorderT 2 [1,0] hS (by decide) rfl;simp only [t5,xl1,xl2] at hS;have hH:=hS.drop.drop.sub (xl7 [_,_] _)
  ((with_reducible apply a3m (nn 12) c9);rfl;kernel_rfl;kernel_rfl;kernel_rfl;rfl;exact (fun _ _ _ _ h=>h);exact xd1 hH;rfl;rfl;exact (rfl:_=some [_,_,_]);rfl)
  refine z9 (i:=13) (by kernel_rfl) ?_;refine t9 rfl (a0b hS c9 rfl rfl rfl rfl rfl rfl) rfl ?_;rintro _ w' ⟨g9,rfl,hS'⟩;clear hS;have hS:=hS';clear hS';refine ⟨xd1 (xd1 (hS.drop.drop.drop.sub (xl7 [_,_] _))),?_⟩;refine z9 (i:=14) (by kernel_rfl) ?_;refine t9 rfl (a0D hS c9 (i:=5) rfl rfl rfl rfl (hS.rowRo 0 rfl) rfl (by simp only [xi3];omega)) rfl ?_;rintro _ w' ⟨p',c',rfl,hS'⟩;simp only [List.set,xi3] at hS' |-;clear hS;have hS:=hS';clear hS';have hH:=hS.drop.drop.drop.sub (xl7 [_,_] _);refine ⟨xd1 (xd1 hH),?_⟩
  ((with_reducible apply q8 (nn 15) c9);rfl;kernel_rfl;exact (fun _ _ _ h=>h);exact xd1 hH;rfl;rfl)
  refine z9 (i:=16) (by kernel_rfl) ?_;refine a2N (Φ:=fun _ w'=>St _ _ w' _) rfl (s9 hS c9 (i:=4) rfl rfl rfl rfl rfl (xf6 rfl) (by intro u hu;simp [Value.cells] at hu;subst hu;rfl)) ?_;intro _ w' hS';simp only [List.set] at hS';clear hS;have hS:=hS';clear hS';refine ⟨xd4 rfl,?_⟩;refine a3F (by kernel_rfl) ?_
  repeat' (first|(with_reducible apply d5 c9);rfl;rfl;rfl|(with_reducible apply j7);rfl;rfl;omega;omega;rfl|refine yDn (by with_reducible constructor) ?_)
  refine i5 (p',c',M++[⟨s,.slice qA s.areas.length cA,.slice qE s.entries.length cE⟩]) ?_ ?_ ?_ ?_
  ·dsimp only;rw [xe5,xl3];exact Fr.sub_of rfl
  ·dsimp only;refine ⟨by rw [xe5,xl3];omega,?_⟩;rw [xe5,xl3,o7 hxs,<- hMs,xj3];rfl
  ·replace hS:=hS.reorderT 11 [4,5,6,7,8,9,10,2,1] (by decide) rfl;simp only [t5,xl1,xl2] at hS;dsimp only;rw [xe5,xl3,xj3,List.append_nil,a4g];refine hS.perm ?_
   repeat (apply List.Perm.cons)
   rw [<- xf4];exact xl8 (l₁:=[_,_])
  ·dsimp only;rw [xe5,xl3];omega
theorem WkV.own {F:Nat->Prop} {w0 w:World} {g:Nat} {k:KV} {sp:Nat} {vh:Value} {held:List Nat} {Γ:List Asr} (hS:St F w0 w (wkS g k sp vh held++(a0d k++Γ))):WkV w g k sp vh held :=
 WkV.of (Γ:=[]) (by rw [List.append_nil];exact St.startM hS) (KRo.own hS)
section
variable {P:Program} {n:Nat} {ds:List Deferred} {E:Fr} {w w':World} {Q:Exit->Act->World->Prop} {ops:Array Oper} {rest:List Oper} {d:Nat} {dst:Option Nat} {ty:TypeId} {pos:String} {after:Array Edge} {F:Nat->Prop} {w0:World} {Γ:List Asr} {T:Tab}
theorem b4i {t yt:TypeId} {x y:Operand} {p:Option Addr} (ht:P.underlying t=some (.pointer (P.pointee t))) (hx:E.ev x=some (.pointer p)) (hy:E.ev y=some (.pointer none)):∀ a,Has n ds a E->∀ dst,a0S P ⟨dst,.binOp .eql t x y yt,ty,pos,after,none⟩ a (.bool p.isNone):=fun a ha _ w=>by
 have e:=run_eql_pointer_nil (P:=P) (w:=w) t p ht;simp only [execOp,ha.ev hx,ha.ev hy,eqGuard];simp [e,Result.andThen]
end
def a8Q (k:KV):List Asr:=frA k::slA k::a20 k::(k.sp.map x9++a0d k)
theorem KerV.own {F:Nat->Prop} {w0 w:World} {k:KV} {Γ:List Asr} (hS:St F w0 w (a8Q k++Γ)):KerV w k:=by
 have hmem:∀ {e sz:Nat} {v:Value} {rows:List (List Value)},Asr.row e sz v rows ∈ a8Q k->Sl nF w sz v rows:=fun h=>hS.slMem (xe1 Γ h);have hr:∀ {A},A ∈ a0d k->A ∈ a8Q k:=fun h=>xc5 _ (xc5 _ (xc5 _ (xe2 _ h)));refine ⟨⟨hmem (e:=142) (hr xc4),fun p hp=>?_⟩,hmem (e:=84) xc4,hmem (e:=88) (xc5 _ xc4),hmem (e:=78) (xc5 _ (xc5 _ xc4)),fun p hp=>⟨?_,?_⟩⟩
 ·exact hmem (e:=156) (hr (xc5 _ (xe1 _ (xh6.2 ⟨p,hp,rfl⟩))))
 ·exact hmem (e:=136) (hr (xc5 _ (xe2 _ (xh6.2 ⟨p,hp,rfl⟩))))
 ·exact hmem (e:=82) (xc5 _ (xc5 _ (xc5 _ (xe1 _ (xh6.2 ⟨p,hp,rfl⟩)))))
def b2I:Ker:=⟨[],[],[],[],0⟩
def kv0:KV:=⟨[],[],[],[],0,.slice none 0 0,.slice none 0 0,.slice none 0 0,.slice none 0 0⟩
theorem b5I (w:World):KerV w kv0:=⟨⟨Sl.nil0 w 3,(fun _ h=>by cases h)⟩,Sl.nil0 w 4,Sl.nil0 w 2,Sl.nil0 w 3,(fun _ h=>by cases h)⟩
def Came (w w':World) (k:KV):Prop:=(k=kv0/\St nF w w' [])\/St nF w w' (a8Q k)
theorem Came.st {w w':World} {k:KV} (h:Came w w' k):St nF w w' []:=by
 rcases h with ⟨-,h⟩|h
 ·exact h
 ·exact h.sub (xi4 _)
theorem Came.V {w w':World} {k:KV} (h:Came w w' k):KerV w' k:=by
 rcases h with ⟨rfl,-⟩|h
 ·exact b5I w'
 ·exact KerV.own (Γ:=[]) (by rw [List.append_nil];exact h)
def okR (K:Ker) (space addr size way:Int):Prop:=b6v K space size way=0/\(b6J (m6 K space.toNat) addr size way).1=0
instance (K:Ker) (space addr size way:Int):Decidable (okR K space addr size way):=by unfold okR;infer_instance
section
variable {P:Program} {n:Nat} {ds:List Deferred} {E:Fr} {ops:Array Oper} {rest:List Oper} {d:Nat} {ty:TypeId} {pos:String} {after:Array Edge} {T:Tab}
end
section
variable {P:Program} {n:Nat} {ds:List Deferred} {E:Fr} {w:World} {Q:Exit->Act->World->Prop} {ops:Array Oper} {S:World->Prop} {fuel:Nat} {li:Array Bool} {d:Nat} {op:Op} {ty:TypeId} {pos:String} {after:Array Edge} {F:Nat->Prop} {w0:World} {Γ:List Asr} {T:Tab}
end
def okL (K:Ker) (space addr size way:Int):Prop:=okR K space addr size way/\way≠1
instance (K:Ker) (space addr size way:Int):Decidable (okL K space addr size way):=by unfold okL;infer_instance
theorem a1V {K:Ker} {space:Int} (h:a0c K space=0):Right K/\∃ sp:Nat,space=(sp:Nat)/\sp < K.spaces.length/\(a0I K sp).live=true:=by
 unfold a0c at h;by_cases h3:a09 K=0
 ·rw [xe6 h3] at h;by_cases h4:0<=space/\space < (K.spaces.length:Int)/\(a0I K space.toNat).live=true
  ·exact ⟨a7b.1 h3,space.toNat,by omega,by omega,h4.2.2⟩
  ·rw [xe7 h4] at h;cases h
 ·rw [xe7 h3] at h;exact absurd h h3
end Go.Proofs.YtejnpppejalhfacGreat
