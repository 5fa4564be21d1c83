/- Texts that the proof stands on, one behind the other: Fl10, Fl11, Cx1, Cx2, Cx4, Cx5. -/
import Derived.Test.YtejnpppejalhfacGreatPFlatStarts7
set_option linter.unusedVariables false
set_option linter.unusedSimpArgs false
namespace Go.Proofs.YtejnpppejalhfacGreat
set_option maxRecDepth 100000
set_option maxHeartbeats 8000000
open Go.RowKit Go.Sort
def pgS (S:Sh):Fp:=⟨S.page,a45 S⟩
def b1I (A:List Ar) (L:List Sh) (en slots:Int):Flt:=⟨slots,[⟨true,A,L.map pgS⟩],[pr1 en],[]⟩
theorem b1e {A:List Ar} {L:List Sh} {en:Int} (h:l8 A L en=0):(L.length:Int)=l7 A/\∀ S ∈ L,j7 S=true:=by
 unfold l8 at h;by_cases h1:b4 A=0
 ·rw [xd8 h1] at h;by_cases h2:lkB A L en=true
  ·unfold lkB at h2;rw [a4t] at h2;simp only [xb7,xh5] at h2;obtain ⟨h3,⟨h4,-⟩,-⟩:=h2;exact ⟨h3,fun S hS=>((a16 h4).1 S hS).1⟩
  ·rw [xd9 h2] at h;cases h
 ·rw [xd9 h1] at h;exact absurd h h1
theorem a6X {w w':World} {Γ:List Asr} {A:List Ar} {L:List Fp} {en slots:Int} {va vp vP vB:Value} (h:St nF w w' (.row 139 3 vB [[.bool true,va,vp]]::.row 123 13 vP ([pr1 en].map prC)::.row 120 2 (.slice none 0 0) []::.row 136 4 va (A.map arC)::.row 145 2 vp (L.map fpC)::Γ)):St nF w w' (fA ⟨slots,[(⟨true,A,L⟩,va,vp)],[pr1 en],[],vB,vP,.slice none 0 0⟩) :=
 h.sub (.cons_cons _ (.cons_cons _ (.cons_cons _ (.cons_cons _ (.cons_cons _ (xh8 _))))))
theorem a50 {w:World} {A:List Ar} {Lp:List (Sh×Value)} {va vs:Value} {en:Int} (hA:Sl nF w 4 va (A.map arC)) (hL:ShsV w Lp vs) (hen:-9223372036854775808<=en) (hen2:en<=9223372036854775807) {slots:Int}:Fn Tryz.prog 34 [lkA va vs en,.int .i64 slots] w (fun v w'=>∃ f:FlV,v=.tuple #[.agg (flC f).toArray,.int .i64 (a1Q A (shs Lp) en slots)]/\f.F=(if a1Q A (shs Lp) en slots=0 then b1I A (shs Lp) en slots else b26)/\St nF w w' (fA f)):=by
 have hchk:=fun w1 Γ1 (h:St nF w w1 Γ1)=>a6q (hA.now h) (hL.now h) hen hen2;obtain ⟨RE,hRE⟩:∃ e,e=a1Q A (shs Lp) en slots:=⟨_,rfl⟩;rw [<- hRE];unfold a1Q at hRE;have bL:=hL.sl.bound;obtain ⟨pa,ca,rfl⟩:=hA.len;obtain ⟨ph,ch,rfl⟩:=hL.sl.len;unfold lkA at hchk |-;have hno:∀ {w1 Γ1},St nF w w1 Γ1->∀ {e:Int},e≠0->∃ f:FlV,Value.tuple #[.agg #[.int .i64 0,.slice none 0 0,.slice none 0 0,.slice none 0 0],.int .i64 e]=.tuple #[.agg (flC f).toArray,.int .i64 e]/\f.F=(if e=0 then b1I A (shs Lp) en slots else b26)/\St nF w w1 (fA f):=by
  intro w1 Γ1 h e he;exact ⟨fl0,rfl,by rw [xd9 he];rfl,b3d h⟩
 by_cases h0:l8 A (shs Lp) en=0;rotate_left
 ·rw [xd9 h0] at hRE;have hd:(!decide (l8 A (shs Lp) en=0))=true:=by rw [xh9 h0];rfl
  rw [<- hRE] at hd hchk h0;refine yEn Tryz.func34 Tryz.ntmps34 (by kernel_rfl) (by kernel_rfl) rfl rfl ?_;have hS:=St.start w
  repeat' (first|(with_reducible apply a5 a4);rfl;rfl;rfl|(with_reducible apply a6);rfl;(apply Ld.st a4;rfl;exact hS.blkR 1 rfl;rfl);rfl|(with_reducible apply s6 a4);rfl;rfl;exact (rfl:_=some [_,_,_,_]);rfl|refine yDn (by with_reducible constructor) ?_|(with_reducible apply a9);rfl;assumption|(with_reducible apply d8 hS);rfl;rfl;rfl;clear hS;intro g w' hS|(with_reducible apply b8 hS a4);rfl;rfl;rfl;clear hS;intro g w' hS|(with_reducible apply b7 hS a4 (i:=0));(iterate 8 rfl);exact (rfl:_=[_,_,_,_]);clear hS;intro w' hS;simp only [List.set] at hS|(with_reducible apply b5 hS);rfl;rfl;rfl;refine ⟨_,hchk _ _ hS,?_⟩;clear hS;intro w' hS)
  (apply a2g;repeat (first|exact ResL.nil|apply ResL.tmp;rfl|apply ResL.cell;rfl;(apply Ld.st a4;rfl;exact hS.blkR 0 rfl;rfl)))
  exact hno hS h0
 rw [xd8 h0] at hRE;rw [h0] at hchk;obtain ⟨hc,hb1,hb2,hb3⟩:=b0X h0;obtain ⟨hlen,hrt⟩:=b1e h0;rw [a0e] at hlen hb2;by_cases h1:slots < 0\/512 < slots
 ·rw [xd8 h1] at hRE;subst hRE;refine yEn Tryz.func34 Tryz.ntmps34 (by kernel_rfl) (by kernel_rfl) rfl rfl ?_;have hS:=St.start w
  repeat' (first|(with_reducible apply a5 a4);rfl;rfl;rfl|(with_reducible apply a6);rfl;(apply Ld.st a4;rfl;exact hS.blkR 1 rfl;rfl);rfl|(with_reducible apply s6 a4);rfl;rfl;exact (rfl:_=some [_,_,_,_]);rfl|refine yDn (by with_reducible constructor) ?_|(with_reducible apply e9);(iterate 4 rfl);assumption|(with_reducible apply o4);(iterate 4 rfl);assumption;rfl|(with_reducible apply d9);rfl;assumption;rfl;rfl|(with_reducible apply a7);rfl;assumption;rfl;rfl|(with_reducible apply a9);rfl;rfl|(with_reducible apply f8);rfl;rfl|(with_reducible apply d8 hS);rfl;rfl;rfl;clear hS;intro g w' hS|(with_reducible apply b8 hS a4);rfl;rfl;rfl;clear hS;intro g w' hS|(with_reducible apply b7 hS a4 (i:=0));(iterate 8 rfl);exact (rfl:_=[_,_,_,_]);clear hS;intro w' hS;simp only [List.set] at hS|(with_reducible apply w5);rfl;rfl;rfl;all_goals (intro hb hp;try (exfalso;omega))|(with_reducible apply b6);rfl;all_goals (intro hb hp;try (exfalso;omega))|(with_reducible apply b5 hS);rfl;rfl;rfl;refine ⟨_,hchk _ _ hS,?_⟩;clear hS;intro w' hS)
  all_goals ((apply a2g;repeat (first|exact ResL.nil|apply ResL.tmp;rfl|apply ResL.cell;rfl;(apply Ld.st a4;rfl;exact hS.blkR 0 rfl;rfl))))
  all_goals (exact hno hS (by omega))
 rw [xd9 h1] at hRE;have hd2:decide (slots < 0)=false:=xh9 (by omega);have hd3:decide (512 < slots)=false:=xh9 (by omega);by_cases h3:slots < l7 A
 ·rw [xd8 h3] at hRE;subst hRE;have hd5:decide (slots < (Lp.length:Int))=true:=xh7 (by omega);refine yEn Tryz.func34 Tryz.ntmps34 (by kernel_rfl) (by kernel_rfl) rfl rfl ?_;have hS:=St.start w
  repeat' (first|(with_reducible apply a5 a4);rfl;rfl;rfl|(with_reducible apply a6);rfl;(first|apply Ld.sl a4;rfl;exact hS.blkC 1 rfl rfl|apply Ld.st a4;rfl;exact hS.blkR 1 rfl;rfl);rfl|(with_reducible apply s6 a4);rfl;rfl;exact (rfl:_=some [_,_,_,_]);rfl|refine yDn (by with_reducible constructor) ?_|(with_reducible apply e9);(iterate 4 rfl);assumption|(with_reducible apply a7);rfl;assumption;rfl;rfl|(with_reducible apply a9);rfl;assumption|((with_reducible apply f8);rfl;first|rfl|assumption)|(with_reducible apply d8 hS);rfl;rfl;rfl;clear hS;intro g w' hS|(with_reducible apply b8 hS a4);rfl;rfl;rfl;clear hS;intro g w' hS|(with_reducible apply b7 hS a4 (i:=0));(iterate 8 rfl);exact (rfl:_=[_,_,_,_]);clear hS;intro w' hS;simp only [List.set] at hS|(with_reducible apply b5 hS);rfl;rfl;rfl;refine ⟨_,hchk _ _ hS,?_⟩;clear hS;intro w' hS)
  (apply a2g;repeat (first|exact ResL.nil|apply ResL.tmp;rfl|apply ResL.cell;rfl;(apply Ld.st a4;rfl;exact hS.blkR 0 rfl;rfl)))
  exact hno hS (by omega)
 rw [xd9 h3] at hRE;subst hRE;rw [xd8 rfl];have hd5:decide (slots < (Lp.length:Int))=false:=xh9 (by omega);refine yEn Tryz.func34 Tryz.ntmps34 (by kernel_rfl) (by kernel_rfl) rfl rfl ?_;have hS:=St.start w
 (repeat ((refine yDn (by with_reducible constructor) ?_)))
 (((with_reducible apply d8 hS);rfl;rfl;rfl);clear hS;intro g2 w' hS)
 (repeat (fail))
 (((with_reducible apply b8 hS a4);rfl;rfl;rfl);clear hS;intro g4 w' hS)
 repeat' (first|(with_reducible apply a5 a4);rfl;rfl;rfl|(with_reducible apply a6);rfl;(first|apply Ld.sl a4;rfl;(first|exact hS.blkC 1 rfl rfl|exact hS.blkC 3 rfl rfl)|apply Ld.st a4;rfl;exact hS.blkR 1 rfl;rfl);rfl|(with_reducible apply s6 a4);rfl;rfl;exact (rfl:_=some [_,_,_]);rfl|refine yDn (by with_reducible constructor) ?_|(with_reducible apply e9);(iterate 4 rfl);assumption|(with_reducible apply a7);rfl;assumption;rfl;rfl|((with_reducible apply f8);rfl;first|rfl|assumption)|(with_reducible apply b8 hS a4);rfl;rfl;rfl;clear hS;intro g w' hS|(with_reducible apply b7 hS a4 (i:=0));(iterate 8 rfl);exact (rfl:_=[_,_,_]);clear hS;intro w' hS;simp only [List.set] at hS|(with_reducible apply b5 hS);rfl;rfl;rfl;refine ⟨_,hchk _ _ hS,?_⟩;clear hS;intro w' hS|(with_reducible apply a4q);rfl;rfl;rfl;refine ⟨_,a5I (hA.now hS) (by omega),?_⟩;rintro _ w' ⟨qa,da,rfl,hS'⟩;replace hS:=hS.transA hS';simp only [a1P] at hS;clear hS')
 replace hS:=(hS.addNil 145 2).reorder [1,0,2,3,4] (by decide) rfl;have hsl:=hL.sl;refine o6 (F:=nF) (w0:=w) (X:=Option Addr×Nat×List Fp) (fun x=>[(38,.int .i64 (x.2.2.length:Nat))]) [1,2,4,7,36,37] rfl (fun x=>[.blk g [.bool true,.slice qa A.length da,.slice x.1 x.2.2.length x.2.1],.row 145 2 (.slice x.1 x.2.2.length x.2.1) (x.2.2.map fpC)]) (fun x=>x.2.2.length<=Lp.length/\x.2.2=((shs Lp).map pgS).take x.2.2.length) (fun x=>Lp.length - x.2.2.length) (none,0,[]) (by exact Fr.sub_of rfl) ⟨xf0 _,rfl⟩ hS ?_;clear hS;rintro ⟨qp,dp,N⟩ w1 ⟨hN,hNs⟩ hS;dsimp only [List.cons_append,List.nil_append] at hN hNs hS |-;by_cases hlt:N.length < Lp.length;rotate_left
 ·have hNe:N=(shs Lp).map pgS:=by rw [hNs,xa0 (by rw [xj5,a0e];omega)]
  clear hNs;obtain rfl:=hNe
  repeat' (first|(with_reducible apply a5 a4);rfl;rfl;rfl|refine yDn (by with_reducible constructor) ?_|(with_reducible apply b6);rfl;all_goals (intro hb hp;try (exfalso;omega)))
  refine a5J (fun w'=>St nF w w' [.blk g [.bool true,.slice qa A.length da,.slice qp ((shs Lp).map pgS).length dp],.blk g2 [.slice pa A.length ca,.slice ph Lp.length ch,.int .i64 en]]) 9 rfl hS (by kernel_rfl) ?_;intro w1 hS';clear hS;have hS:=hS';clear hS'
  ((with_reducible apply i3 (nn 0) a4);rfl;kernel_rfl;exact (fun _ _ _ h=>h);exact (hS.sub (by repeat (first|exact xl6 _|apply List.Sublist.cons_cons|apply xl7)));rfl;rfl)
  ((with_reducible apply n9 (nn 1));rfl;kernel_rfl;exact (fun _ _ _ h=>h);exact (hS.sub (by repeat (first|exact xl6 _|apply List.Sublist.cons_cons|apply xl7)));rfl;(intro wd hd;replace hd:St _ _ wd _:=hd;(apply Ld.st a4;rfl;exact hd.blkR 0 rfl;rfl));rfl)
  ((with_reducible apply i3 (nn 3) a4);rfl;kernel_rfl;exact (fun _ _ _ h=>h);exact (hS.sub (by repeat (first|exact xl6 _|apply List.Sublist.cons_cons|apply xl7)));rfl;rfl)
  ((with_reducible apply n9 (nn 4));rfl;kernel_rfl;exact (fun _ _ _ h=>h);exact (hS.sub (by repeat (first|exact xl6 _|apply List.Sublist.cons_cons|apply xl7)));rfl;(intro wd hd;replace hd:St _ _ wd _:=hd;(apply Ld.sc a4;rfl;exact hd.blkC 1 rfl rfl));rfl)
  refine a5t (i:=2) (j:=5) (by kernel_rfl) ?_ ?_
  ·refine o8 rfl (a0l hS a4 rfl rfl rfl rfl rfl rfl) rfl ?_;rintro _ w' ⟨gB,rfl,hS'⟩;clear hS;have hS:=hS';clear hS';refine ⟨(hS.sub (by repeat (first|exact xl6 _|apply List.Sublist.cons_cons|apply xl7))),?_⟩;refine s7 (i:=5) (by kernel_rfl) ?_;refine o8 rfl (a0m (first:=[]) (caps:=[]) rfl rfl (a46 en _)) rfl ?_;rintro _ w' ⟨gP,rfl,hS'⟩;replace hS:=hS.transA hS';simp only [a1P] at hS;clear hS';refine ⟨(hS.sub (by repeat (first|exact xl6 _|apply List.Sublist.cons_cons|apply xl7))),?_⟩
   ((with_reducible apply a2D (nn 6) a4);rfl;kernel_rfl;kernel_rfl;kernel_rfl;exact (fun _ _ _ _ h=>h);exact (hS.sub (by repeat (first|exact xl6 _|apply List.Sublist.cons_cons|apply xl7)));rfl;rfl;exact (rfl:_=some [_,_,_,_]);rfl)
   refine s7 (i:=7) (by kernel_rfl) ?_;refine t4 (Φ:=fun _ w'=>St _ _ w' _) rfl (p8 hS a4 (i:=5) rfl rfl rfl rfl rfl (xe8 rfl) (xb8.1 rfl)) ?_;intro _ w' hS';simp only [List.set] at hS';clear hS;have hS:=hS';clear hS';refine ⟨(hS.sub (by repeat (first|exact xl6 _|apply List.Sublist.cons_cons|apply xl7))),?_⟩
   ((with_reducible apply i3 (nn 8) a4);rfl;kernel_rfl;exact (fun _ _ _ h=>h);exact (hS.sub (by repeat (first|exact xl6 _|apply List.Sublist.cons_cons|apply xl7)));rfl;rfl)
   refine a0v (by kernel_rfl) ?_
   repeat' ((refine yDn (by with_reducible constructor) ?_))
   (apply a2g;repeat (first|exact ResL.nil|apply ResL.tmp;rfl|apply ResL.cell;rfl;(apply Ld.st a4;rfl;exact hS.blkR 5 rfl;rfl)))
   exact ⟨⟨slots,[(⟨true,A,(shs Lp).map pgS⟩,_,_)],[pr1 en],[],.slice (some ⟨gB,0,none⟩) 1 1,.slice (some ⟨gP,0,none⟩) 1 1,.slice none 0 0⟩,rfl,rfl,a6X ((hS.addNil 120 2).reorder [2,1,0,5,4] (by decide) rfl)⟩
  ·refine o8 rfl (a0m (first:=[]) (caps:=[]) rfl rfl (a46 en _)) rfl ?_;rintro _ w' ⟨gP,rfl,hS'⟩;replace hS:=hS.transA hS';simp only [a1P] at hS;clear hS';refine ⟨(hS.sub (by repeat (first|exact xl6 _|apply List.Sublist.cons_cons|apply xl7))),?_⟩;refine s7 (i:=2) (by kernel_rfl) ?_;refine o8 rfl (a0l hS a4 rfl rfl rfl rfl rfl rfl) rfl ?_;rintro _ w' ⟨gB,rfl,hS'⟩;clear hS;have hS:=hS';clear hS';refine ⟨(hS.sub (by repeat (first|exact xl6 _|apply List.Sublist.cons_cons|apply xl7))),?_⟩
   ((with_reducible apply a2D (nn 6) a4);rfl;kernel_rfl;kernel_rfl;kernel_rfl;exact (fun _ _ _ _ h=>h);exact (hS.sub (by repeat (first|exact xl6 _|apply List.Sublist.cons_cons|apply xl7)));rfl;rfl;exact (rfl:_=some [_,_,_,_]);rfl)
   refine s7 (i:=7) (by kernel_rfl) ?_;refine t4 (Φ:=fun _ w'=>St _ _ w' _) rfl (p8 hS a4 (i:=5) rfl rfl rfl rfl rfl (xe8 rfl) (xb8.1 rfl)) ?_;intro _ w' hS';simp only [List.set] at hS';clear hS;have hS:=hS';clear hS';refine ⟨(hS.sub (by repeat (first|exact xl6 _|apply List.Sublist.cons_cons|apply xl7))),?_⟩
   ((with_reducible apply i3 (nn 8) a4);rfl;kernel_rfl;exact (fun _ _ _ h=>h);exact (hS.sub (by repeat (first|exact xl6 _|apply List.Sublist.cons_cons|apply xl7)));rfl;rfl)
   refine a0v (by kernel_rfl) ?_
   repeat' ((refine yDn (by with_reducible constructor) ?_))
   (apply a2g;repeat (first|exact ResL.nil|apply ResL.tmp;rfl|apply ResL.cell;rfl;(apply Ld.st a4;rfl;exact hS.blkR 5 rfl;rfl)))
   exact ⟨⟨slots,[(⟨true,A,(shs Lp).map pgS⟩,_,_)],[pr1 en],[],.slice (some ⟨gB,0,none⟩) 1 1,.slice (some ⟨gP,0,none⟩) 1 1,.slice none 0 0⟩,rfl,rfl,a6X ((hS.addNil 120 2).reorder [1,2,0,5,4] (by decide) rfl)⟩
 obtain ⟨x,hx⟩:=l9 (l:=Lp) (i:=N.length) (by omega);have hrow:=i7 (f:=fun p:Sh×Value=>shC p.1 p.2) hx;obtain ⟨b,off,rfl,hro⟩:=hsl.at_ (i:=N.length) hlt;have hfx:=hL.fx x (xc1 hx);have hxs:((shs Lp).map pgS)[N.length]?=some (pgS x.1):=i7 (a1C hx);have hR:=hrt x.1 (xc1 (a1C hx));have hfi:=fun w1 (h:ShV w1 x.1 x.2)=>a9M h;simp only [hR,↓reduceIte] at hfi;obtain ⟨S,u⟩:=x;dsimp only [shC] at hrow hfx hfi hxs;unfold shA shC at hfi;obtain ⟨pu,cu,rfl⟩:=hfx.len
 repeat' (first|(with_reducible apply a5 a4);rfl;rfl;rfl|(with_reducible apply a6);rfl;(first|apply Ld.sc a4;rfl;exact hS.blkC 0 rfl rfl|apply Ld.sl a4;rfl;exact hS.blkC 1 rfl rfl|apply Ld.st a4;rfl;(first|exact hS.blkR 0 rfl|exact hS.roR (by assumption) (by assumption));rfl);rfl|(with_reducible apply t3 a4);rfl;rfl;rfl;rfl;omega;rfl|(with_reducible apply o9);rfl;rfl;omega;omega;rfl|(with_reducible apply s6 a4);rfl;rfl;exact (rfl:_=some [_,_]);rfl|refine yDn (by with_reducible constructor) ?_|(with_reducible apply b8 hS a4);rfl;rfl;rfl;clear hS;intro g w' hS|(with_reducible apply a01 hS a4);(iterate 7 rfl);clear hS;intro g w' hS|(with_reducible apply b7 hS a4 (i:=0));(iterate 8 rfl);exact (rfl:_=[_,_,_]);clear hS;intro w' hS;simp only [List.set] at hS|(with_reducible apply b7 hS a4 (i:=2));(iterate 8 rfl);exact (rfl:_=[_,_,_]);clear hS;intro w' hS;simp only [List.set] at hS|(with_reducible apply b6);rfl;all_goals (intro hb hp;try (exfalso;omega))|(with_reducible apply b5 hS);rfl;rfl;rfl;refine ⟨_,hfi _ (hfx.now hS),?_⟩;clear hS;intro w' hS|(with_reducible apply a9d hS a4 (i:=3));(iterate 4 rfl);exact hS.rowRo 0 rfl;rfl;(simp only [xj5,xd7,xa2,xd6];omega);rfl;intro p' cap' w' hS';simp only [List.set] at hS';clear hS;have hS:=hS';clear hS')
 replace hS:=hS.drop.drop;refine m8 (p',cap',N++[pgS S]) ?_ ?_ ?_ ?_
 ·dsimp only;rw [xd6,xl2];exact Fr.sub_of rfl
 ·dsimp only;refine ⟨by rw [xd6,xl2];omega,?_⟩;rw [xd6,xl2,a0E hxs,<- hNs]
 ·dsimp only;rw [xd6,xl2,xk2]
  (try simp only [xj5] at hS)
  exact hS
 ·dsimp only;rw [xd6,xl2];omega
theorem a6o {w:World} {A:List Ar} {Lp:List (Sh×Value)} {va vs:Value} {en:Int} (hA:Sl nF w 4 va (A.map arC)) (hL:ShsV w Lp vs) (h0:l8 A (shs Lp) en=0) {slots:Int}:Fn Tryz.prog 36 [lkA va vs en,.int .i64 slots] w (fun v w'=>∃ f:FlV,v=.agg (flC f).toArray/\f.F=b1I A (shs Lp) en slots/\St nF w w' (fA f)):=by
 have bL:=hL.sl.bound;obtain ⟨pa,ca,rfl⟩:=hA.len;obtain ⟨ph,ch,rfl⟩:=hL.sl.len;unfold lkA;obtain ⟨hc,hb1,hb2,hb3⟩:=b0X h0;obtain ⟨hlen,hrt⟩:=b1e h0;rw [a0e] at hlen hb2;refine yEn Tryz.func36 Tryz.ntmps36 (by kernel_rfl) (by kernel_rfl) rfl rfl ?_;have hS:=St.start w
 (repeat ((refine yDn (by with_reducible constructor) ?_)))
 (((with_reducible apply d8 hS);rfl;rfl;rfl);clear hS;intro g2 w' hS)
 (repeat (fail))
 (((with_reducible apply b8 hS a4);rfl;rfl;rfl);clear hS;intro g4 w' hS)
 repeat' (first|(with_reducible apply a5 a4);rfl;rfl;rfl|(with_reducible apply a6);rfl;(apply Ld.sl a4;rfl;exact hS.blkC 2 rfl rfl);rfl|(with_reducible apply s6 a4);rfl;rfl;exact (rfl:_=some [_,_,_]);rfl|refine yDn (by with_reducible constructor) ?_|(with_reducible apply b8 hS a4);rfl;rfl;rfl;clear hS;intro g w' hS|(with_reducible apply a01 hS a4);(iterate 7 rfl);clear hS;intro g w' hS|(with_reducible apply b7 hS a4 (i:=0));(iterate 8 rfl);exact (rfl:_=[_,_,_]);clear hS;intro w' hS;simp only [List.set] at hS|(((with_reducible apply a3e hS a4 0);(iterate 4 rfl);exact hA.now hS;(simp only [xj5,xd7,xa2,xd6];omega);rfl;clear hS;intro qa da w' hS;simp only [List.set] at hS);simp only [xa2,xj5,xe0,List.nil_append] at hS |-))
 replace hS:=(hS.addNil 145 2).reorder [1,0,2,3,4] (by decide) rfl;have hsl:=hL.sl;refine o6 (F:=nF) (w0:=w) (X:=Option Addr×Nat×List Fp) (fun x=>[(6,.int .i64 (x.2.2.length:Nat))]) [1,2,4,5] rfl (fun x=>[.blk g [.bool true,.slice qa A.length da,.slice x.1 x.2.2.length x.2.1],.row 145 2 (.slice x.1 x.2.2.length x.2.1) (x.2.2.map fpC)]) (fun x=>x.2.2.length<=Lp.length/\x.2.2=((shs Lp).map pgS).take x.2.2.length) (fun x=>Lp.length - x.2.2.length) (none,0,[]) (by exact Fr.sub_of rfl) ⟨xf0 _,rfl⟩ hS ?_;clear hS;rintro ⟨qp,dp,N⟩ w1 ⟨hN,hNs⟩ hS;dsimp only [List.cons_append,List.nil_append] at hN hNs hS |-;by_cases hlt:N.length < Lp.length;rotate_left
 ·have hNe:N=(shs Lp).map pgS:=by rw [hNs,xa0 (by rw [xj5,a0e];omega)]
  clear hNs;obtain rfl:=hNe
  repeat' (first|(with_reducible apply a5 a4);rfl;rfl;rfl|(with_reducible apply a6);rfl;(apply Ld.sl a4;rfl;exact hS.blkC 4 rfl rfl);rfl|refine yDn (by with_reducible constructor) ?_|(with_reducible apply b6);rfl;all_goals (intro hb hp;try (exfalso;omega)))
  refine a5J (fun w'=>St nF w w' [.blk g [.bool true,.slice qa A.length da,.slice qp ((shs Lp).map pgS).length dp],.blk g2 [.slice pa A.length ca,.slice ph Lp.length ch,.int .i64 en]]) 7 rfl hS (by kernel_rfl) ?_;intro w1 hS';clear hS;have hS:=hS';clear hS'
  ((with_reducible apply i3 (nn 0) a4);rfl;kernel_rfl;exact (fun _ _ _ h=>h);exact (hS.sub (by repeat (first|exact xl6 _|apply List.Sublist.cons_cons|apply xl7)));rfl;rfl)
  ((with_reducible apply n9 (nn 1));rfl;kernel_rfl;exact (fun _ _ _ h=>h);exact (hS.sub (by repeat (first|exact xl6 _|apply List.Sublist.cons_cons|apply xl7)));rfl;(intro wd hd;replace hd:St _ _ wd _:=hd;(apply Ld.st a4;rfl;exact hd.blkR 0 rfl;rfl));rfl)
  ((with_reducible apply n9 (nn 3));rfl;kernel_rfl;exact (fun _ _ _ h=>h);exact (hS.sub (by repeat (first|exact xl6 _|apply List.Sublist.cons_cons|apply xl7)));rfl;(intro wd hd;replace hd:St _ _ wd _:=hd;(apply Ld.st a4;rfl;exact hd.blkR 1 rfl;rfl));rfl)
  refine a5t (i:=2) (j:=4) (by kernel_rfl) ?_ ?_
  ·refine o8 rfl (a0l hS a4 rfl rfl rfl rfl rfl rfl) rfl ?_;rintro _ w' ⟨gB,rfl,hS'⟩;clear hS;have hS:=hS';clear hS';refine ⟨(hS.sub (by repeat (first|exact xl6 _|apply List.Sublist.cons_cons|apply xl7))),?_⟩;refine s7 (i:=4) (by kernel_rfl) ?_;refine o8 rfl (a0m (first:=[]) (caps:=[]) rfl rfl (a3U _ _ en _)) rfl ?_;rintro _ w' ⟨gP,rfl,hS'⟩;replace hS:=hS.transA hS';simp only [a1P] at hS;clear hS';refine ⟨(hS.sub (by repeat (first|exact xl6 _|apply List.Sublist.cons_cons|apply xl7))),?_⟩
   ((with_reducible apply a2D (nn 5) a4);rfl;kernel_rfl;kernel_rfl;kernel_rfl;exact (fun _ _ _ _ h=>h);exact (hS.sub (by repeat (first|exact xl6 _|apply List.Sublist.cons_cons|apply xl7)));rfl;rfl;exact (rfl:_=some [_,_,_,_]);rfl)
   refine s7 (i:=6) (by kernel_rfl) ?_;refine t4 (Φ:=fun _ w'=>St _ _ w' _) rfl (p8 hS a4 (i:=5) rfl rfl rfl rfl rfl (xe8 rfl) (xb8.1 rfl)) ?_;intro _ w' hS';simp only [List.set] at hS';clear hS;have hS:=hS';clear hS';refine ⟨(hS.sub (by repeat (first|exact xl6 _|apply List.Sublist.cons_cons|apply xl7))),?_⟩
   skip
   refine a0v (by kernel_rfl) ?_
   repeat' ((refine yDn (by with_reducible constructor) ?_))
   (apply a5U;repeat (first|exact ResL.nil|apply ResL.cell;rfl;(apply Ld.st a4;rfl;exact hS.blkR 5 rfl;rfl)))
   exact ⟨⟨slots,[(⟨true,A,(shs Lp).map pgS⟩,_,_)],[pr1 en],[],.slice (some ⟨gB,0,none⟩) 1 1,.slice (some ⟨gP,0,none⟩) 1 1,.slice none 0 0⟩,rfl,rfl,a6X ((hS.addNil 120 2).reorder [2,1,0,5,4] (by decide) rfl)⟩
  ·refine o8 rfl (a0m (first:=[]) (caps:=[]) rfl rfl (a3U _ _ en _)) rfl ?_;rintro _ w' ⟨gP,rfl,hS'⟩;replace hS:=hS.transA hS';simp only [a1P] at hS;clear hS';refine ⟨(hS.sub (by repeat (first|exact xl6 _|apply List.Sublist.cons_cons|apply xl7))),?_⟩;refine s7 (i:=2) (by kernel_rfl) ?_;refine o8 rfl (a0l hS a4 rfl rfl rfl rfl rfl rfl) rfl ?_;rintro _ w' ⟨gB,rfl,hS'⟩;clear hS;have hS:=hS';clear hS';refine ⟨(hS.sub (by repeat (first|exact xl6 _|apply List.Sublist.cons_cons|apply xl7))),?_⟩
   ((with_reducible apply a2D (nn 5) a4);rfl;kernel_rfl;kernel_rfl;kernel_rfl;exact (fun _ _ _ _ h=>h);exact (hS.sub (by repeat (first|exact xl6 _|apply List.Sublist.cons_cons|apply xl7)));rfl;rfl;exact (rfl:_=some [_,_,_,_]);rfl)
   refine s7 (i:=6) (by kernel_rfl) ?_;refine t4 (Φ:=fun _ w'=>St _ _ w' _) rfl (p8 hS a4 (i:=5) rfl rfl rfl rfl rfl (xe8 rfl) (xb8.1 rfl)) ?_;intro _ w' hS';simp only [List.set] at hS';clear hS;have hS:=hS';clear hS';refine ⟨(hS.sub (by repeat (first|exact xl6 _|apply List.Sublist.cons_cons|apply xl7))),?_⟩
   skip
   refine a0v (by kernel_rfl) ?_
   repeat' ((refine yDn (by with_reducible constructor) ?_))
   (apply a5U;repeat (first|exact ResL.nil|apply ResL.cell;rfl;(apply Ld.st a4;rfl;exact hS.blkR 5 rfl;rfl)))
   exact ⟨⟨slots,[(⟨true,A,(shs Lp).map pgS⟩,_,_)],[pr1 en],[],.slice (some ⟨gB,0,none⟩) 1 1,.slice (some ⟨gP,0,none⟩) 1 1,.slice none 0 0⟩,rfl,rfl,a6X ((hS.addNil 120 2).reorder [1,2,0,5,4] (by decide) rfl)⟩
 obtain ⟨x,hx⟩:=l9 (l:=Lp) (i:=N.length) (by omega);have hrow:=i7 (f:=fun p:Sh×Value=>shC p.1 p.2) hx;obtain ⟨b,off,rfl,hro⟩:=hsl.at_ (i:=N.length) hlt;have hfx:=hL.fx x (xc1 hx);have hxs:((shs Lp).map pgS)[N.length]?=some (pgS x.1):=i7 (a1C hx);have hR:=hrt x.1 (xc1 (a1C hx));have hfi:=fun w1 (h:ShV w1 x.1 x.2)=>a7j h hR;obtain ⟨S,u⟩:=x;dsimp only [shC] at hrow hfx hfi hxs;unfold shA shC at hfi;obtain ⟨pu,cu,rfl⟩:=hfx.len
 repeat' (first|(with_reducible apply a5 a4);rfl;rfl;rfl|(with_reducible apply a6);rfl;(apply Ld.sl a4;rfl;exact hS.blkC 4 rfl rfl);rfl|refine yDn (by with_reducible constructor) ?_|(with_reducible apply b6);rfl;all_goals (intro hb hp;try (exfalso;omega)))
 refine a9K 3 18 19 rfl (hS.reorder [0,3,4,1,2] (by decide) rfl) (by kernel_rfl) ?_;intro w1 hS';clear hS;have hS:=hS';clear hS';simp only [xi7,xi8];have hH:=hS.sub (xl8 [_,_,_] _)
 ((with_reducible apply a0G (nn 0) a4);rfl;kernel_rfl;exact (fun _ _ _ h=>h);exact xc4 hH;rfl;rfl)
 ((with_reducible apply a1e (nn 1));rfl;kernel_rfl;kernel_rfl;rfl;exact (fun _ _ _ h=>h);exact hH;rfl;(intro w2 hw2;(replace hw2:St _ _ w2 _:=hw2;(apply Ld.sl a4;rfl;exact hw2.blkC 0 rfl rfl)));rfl)
 ((with_reducible apply a0G (nn 2) a4);rfl;kernel_rfl;exact (fun _ _ _ h=>h);exact xc4 hH;rfl;rfl)
 ((with_reducible apply a1e (nn 3));rfl;kernel_rfl;kernel_rfl;rfl;exact (fun _ _ _ h=>h);exact hH;rfl;(intro w2 hw2;(replace hw2:St _ _ w2 _:=hw2;(apply Ld.sl a4;rfl;exact hw2.blkC 2 rfl rfl)));rfl)
 ((with_reducible apply a0G (nn 4) a4);rfl;kernel_rfl;exact (fun _ _ _ h=>h);exact xc4 hH;rfl;rfl)
 ((with_reducible apply a5w (nn 5));rfl;kernel_rfl;kernel_rfl;kernel_rfl;rfl;exact (fun _ _ _ h=>h);exact xc4 hH;(intro a ha;exact (a7C a4 rfl rfl rfl rfl hlt) a ha _);rfl)
 ((with_reducible apply a0G (nn 6) a4);rfl;kernel_rfl;exact (fun _ _ _ h=>h);exact xc4 hH;rfl;rfl)
 ((with_reducible apply a1e (nn 7));rfl;kernel_rfl;kernel_rfl;rfl;exact (fun _ _ _ h=>h);exact hH;rfl;(intro w2 hw2;(replace hw2:St _ _ w2 _:=hw2;(apply Ld.sc a4;rfl;exact hw2.roC0 (by assumption) (by assumption) rfl)));rfl)
 ((with_reducible apply a0G (nn 8) a4);rfl;kernel_rfl;exact (fun _ _ _ h=>h);exact xc4 hH;rfl;rfl)
 ((with_reducible apply a1e (nn 9));rfl;kernel_rfl;kernel_rfl;rfl;exact (fun _ _ _ h=>h);exact hH;rfl;(intro w2 hw2;(replace hw2:St _ _ w2 _:=hw2;(apply Ld.sl a4;rfl;exact hw2.blkC 2 rfl rfl)));rfl)
 ((with_reducible apply a0G (nn 10) a4);rfl;kernel_rfl;exact (fun _ _ _ h=>h);exact xc4 hH;rfl;rfl)
 ((with_reducible apply a5w (nn 11));rfl;kernel_rfl;kernel_rfl;kernel_rfl;rfl;exact (fun _ _ _ h=>h);exact xc4 hH;(intro a ha;exact (a7C a4 rfl rfl rfl rfl hlt) a ha _);rfl)
 ((with_reducible apply a1e (nn 12));rfl;kernel_rfl;kernel_rfl;rfl;exact (fun _ _ _ h=>h);exact hH;rfl;(intro w2 hw2;(replace hw2:St _ _ w2 _:=hw2;(apply Ld.st a4;rfl;exact hw2.roR (by assumption) (by assumption);rfl)));rfl)
 refine a6V (i:=13) (by kernel_rfl) ?_;refine a5L rfl (a0m (first:=[]) (caps:=[]) rfl rfl (hfi _ (hfx.now hS))) rfl ?_;rintro _ w' ⟨rfl,hS'⟩;replace hS:=hS.transA hS';simp only [a1P] at hS;clear hS';have hH:=hS.sub (xl8 [_,_,_] _);refine ⟨xc4 (xc4 hH),?_⟩
 ((with_reducible apply a91 (nn 14) a4);rfl;kernel_rfl;kernel_rfl;kernel_rfl;rfl;exact (fun _ _ _ _ h=>h);exact xc4 hH;rfl;rfl;exact (rfl:_=some [_,_]);rfl)
 refine a6V (i:=15) (by kernel_rfl) ?_;refine a5L rfl (a0l hS a4 rfl rfl rfl rfl rfl rfl) rfl ?_;rintro _ w' ⟨g9,rfl,hS'⟩;clear hS;have hS:=hS';clear hS';have hH:=hS.drop.sub (xl8 [_,_,_] _);refine ⟨xc4 (xc4 hH),?_⟩;refine a6V (i:=16) (by kernel_rfl) ?_;refine a5L rfl (a0W hS a4 (i:=4) rfl rfl rfl rfl (hS.rowRo 0 rfl) rfl (by simp only [xj5];omega)) rfl ?_;rintro _ w' ⟨p',cap',rfl,hS'⟩;simp only [List.set,xj5] at hS' |-;clear hS;have hS:=hS';clear hS';have hH:=hS.drop.sub (xl8 [_,_,_] _);refine ⟨xc4 (xc4 hH),?_⟩
 ((with_reducible apply a0G (nn 17) a4);rfl;kernel_rfl;exact (fun _ _ _ h=>h);exact xc4 hH;rfl;rfl)
 refine a6V (i:=18) (by kernel_rfl) ?_;refine a9T (Φ:=fun _ w'=>St _ _ w' _) rfl (p8 hS a4 (i:=1) rfl rfl rfl rfl rfl (xe8 rfl) (by intro u hu;simp [Value.cells] at hu;subst hu;rfl)) ?_;intro _ w' hS';simp only [List.set,n8] at hS';clear hS;have hS:=hS';clear hS';refine ⟨xc7 rfl,?_⟩;refine b1v (by kernel_rfl) ?_;replace hS:=hS.reorder [1,4,5,2,3] (by decide) rfl
 repeat' (first|(with_reducible apply a5 a4);rfl;rfl;rfl|(with_reducible apply o9);rfl;rfl;omega;omega;rfl|refine yDn (by with_reducible constructor) ?_)
 refine m8 (p',cap',N++[pgS S]) ?_ ?_ ?_ ?_
 ·dsimp only;rw [xd6,xl2];exact Fr.sub_of rfl
 ·dsimp only;refine ⟨by rw [xd6,xl2];omega,?_⟩;rw [xd6,xl2,a0E hxs,<- hNs]
 ·dsimp only;rw [xd6,xl2,xk2]
  (try simp only [xj5] at hS)
  exact hS
 ·dsimp only;rw [xd6,xl2];omega
inductive Rs (α:Type) where
 |ok (a:α)
 |no (p:String)
inductive SA where
 |blk (L:List Value)
 |row (e sz:Nat) (rows:List (List Value)) (cap:Nat) (u:Bool)
 |smap (t:Nat) (es:List (Value×Value))
 |siter (l:List UInt8) (pos:Nat)
abbrev SH:=List (Nat×SA)
noncomputable def ifB {α:Type} (b:Bool) (x y:α):α:=@Bool.rec (fun _=>α) y x b
noncomputable def g8 {α:Type} (l:List (Nat×α)) (i:Nat):Option α:=@List.rec (Nat×α) (fun _=>Option α) none (fun p _ ih=>@Bool.rec (fun _=>Option α) ih (some p.2) (Nat.beq p.1 i)) l
noncomputable def a1l {α:Type} (l:List α):Nat->Option α:=@List.rec α (fun _=>Nat->Option α) (fun _=>none) (fun p _ ih i=>@Nat.rec (fun _=>Option α) (some p) (fun i _=>ih i) i) l
inductive BT (α:Type) where
 |nil
 |node (k:Nat) (v:α) (l r:BT α)
noncomputable def BT.get {α:Type} (t:BT α) (i:Nat):Option α:=@BT.rec α (fun _=>Option α) none (fun k v _ _ l r=>@Bool.rec (fun _=>Option α) (@Bool.rec (fun _=>Option α) r l (Nat.blt i k)) (some v) (Nat.beq i k)) t
noncomputable def a0o (H:SH) (i:Nat) (t:SA):SH:=@List.rec (Nat×SA) (fun _=>SH) [] (fun p r ih=>@Bool.rec (fun _=>SH) (p::ih) ((p.1,t)::r) (Nat.beq p.1 i)) H
noncomputable def t5 {α:Type} (l:List (Nat×α)) (i:Nat):List (Nat×α):=@List.rec (Nat×α) (fun _=>List (Nat×α)) [] (fun p _ ih=>@Bool.rec (fun _=>List (Nat×α)) (p::ih) ih (Nat.beq p.1 i)) l
noncomputable def a0p (H:SH) (i:Nat) (t:SA):SH:=@List.rec (Nat×SA) (fun _=>SH) [(i,t)] (fun p r ih=>@Bool.rec (fun _=>SH) (p::ih) ((i,t)::p::r) (Nat.blt p.1 i)) H
def cOk:Value->Bool
 |.bool _|.int _ _|.string _|.pointer none|.slice none _ _|.map none|.nilFunc|.nilIface=>true
 |_=>false
noncomputable def sEv (E:Fr):Operand->Option Value
 |.tmp t=>g8 E t
 |.const v=>ifB (cOk v) (some v) none
 |.func f=>some (.func (.func f) #[] #[])
 |.global _=>none
noncomputable def a6e (E:Fr) (l:List Operand):Option (List Value):=@List.rec Operand (fun _=>Option (List Value)) (some []) (fun x _ ih=>match sEv E x,ih with
  |some v,some vs=>some (v::vs)
  |_,_=>none) l
noncomputable def a9t (E:Fr) (l:List (Nat×Operand)):Option (List (Nat×Value)):=@List.rec (Nat×Operand) (fun _=>Option (List (Nat×Value))) (some []) (fun x _ ih=>match sEv E x.2,ih with
  |some v,some vs=>some ((x.1,v)::vs)
  |_,_=>none) l
noncomputable def a3B (k:IntKind) (n:Int):Int:=match k,n with
 |.i64,.ofNat m=>ifB (Nat.blt m 9223372036854775808) (.ofNat m) (IntKind.i64.wrap (.ofNat m))
 |k,n=>k.wrap n
def a6L (f:(n:Nat)->BitVec n->BitVec n->BitVec n) (k:IntKind) (m n:Int):Value:=.int k (k.wrap (f k.bits (BitVec.ofInt k.bits m) (BitVec.ofInt k.bits n)).toNat)
noncomputable def a5N (op:BinOp) (k:IntKind) (m n:Int):Option Value:=match op with
 |.add=>some (.int k (a3B k (m + n)))
 |.sub=>some (.int k (a3B k (m - n)))
 |.mul=>some (.int k (a3B k (m * n)))
 |.quo=>ifB (decide (n=0)) none (some (.int k (a3B k (m.tdiv n))))
 |.rem=>ifB (decide (n=0)) none (some (.int k (m.tmod n)))
 |.and=>some (a6L (fun _ a b=>a &&& b) k m n)
 |.or=>some (a6L (fun _ a b=>a|||b) k m n)
 |.xor=>some (a6L (fun _ a b=>a ^^^ b) k m n)
 |.lss=>some (.bool (decide (m < n)))
 |.leq=>some (.bool (decide (m<=n)))
 |.gtr=>some (.bool (decide (n < m)))
 |.geq=>some (.bool (decide (n<=m)))
 |.eql=>some (.bool (decide (m=n)))
 |.neq=>some (.bool (!decide (m=n)))
 |_=>none
noncomputable def a7G (op:BinOp) (k k':IntKind) (m n:Int):Option Value:=match op with
 |.shl=>ifB (decide (n < 0)) none (some (.int k (k.wrap (m * 2 ^ min n.toNat k.bits))))
 |.shr=>ifB (decide (n < 0)) none (some (.int k (m.fdiv (2 ^ min n.toNat k.bits))))
 |op=>ifB (kb k k') (a5N op k m n) none
def sEqS:List Nat->List Value->List Value->Option Bool
 |[],[],[]=>some true
 |0::s,.int .i64 a::l,.int .i64 b::r=>(sEqS s l r).map (decide (a=b) && ·)
 |1::s,.string ⟨⟨a⟩⟩::l,.string ⟨⟨b⟩⟩::r=>(sEqS s l r).map (decide (a=b) && ·)
 |2::s,.bool a::l,.bool b::r=>(sEqS s l r).map (decide (a=b) && ·)
 |_,_,_=>none
abbrev EqT:=List (Nat×List Nat)
abbrev TT:=BT TI
noncomputable def b0V (op:BinOp) (l l':List UInt8):Option Value:=match op with
 |.eql=>some (.bool (decide (l=l')))
 |.neq=>some (.bool (!decide (l=l')))
 |.add=>ifB (Nat.ble (l.length + l'.length) 1000000) (some (.string ⟨(l++l').toArray⟩)) none
 |_=>none
noncomputable def b01 (T:TT) (op:BinOp) (t:TypeId) (a b:Bool):Option Value:=match T.get t,op with
 |some (.sc .bool _ _),.eql=>some (.bool (decide (a=b)))
 |some (.sc .bool _ _),.neq=>some (.bool (!decide (a=b)))
 |_,_=>none
noncomputable def b02 (q:EqT) (op:BinOp) (t:TypeId) (l l':List Value):Option Value:=match g8 q t with
 |some s=>match sEqS s l l',op with
  |some b,.eql=>some (.bool b)
  |some b,.neq=>some (.bool (!b))
  |_,_=>none
 |none=>none
noncomputable def b04 (T:TT) (op:BinOp) (t:TypeId) (p:Option Addr):Option Value:=match T.get t,op with
 |some (.sl _ _ _ _ _),.eql=>some (.bool p.isNone)
 |_,_=>none
noncomputable def b1b (T:TT) (op:BinOp) (t:TypeId) (p:Option Addr):Option Value:=match T.get t,op with
 |some (.sc (.pointer _) _ _),.eql=>some (.bool p.isNone)
 |_,_=>none
noncomputable def b2Q (T:TT) (q:EqT) (op:BinOp) (t:TypeId):Value->Value->Option Value
 |.int k m,.int k' n=>a7G op k k' m n
 |.string ⟨⟨l⟩⟩,.string ⟨⟨l'⟩⟩=>b0V op l l'
 |.bool a,.bool b=>b01 T op t a b
 |.slice p _ _,.slice none 0 0=>b04 T op t p
 |.pointer p,.pointer none=>b1b T op t p
 |.agg ⟨l⟩,.agg ⟨l'⟩=>b02 q op t l l'
 |_,_=>none
noncomputable def a8R (E:Fr) (c a b:Operand):Option Value:=match sEv E c with
 |some (.bool true)=>sEv E a
 |some (.bool false)=>sEv E b
 |_=>none
noncomputable def b1o (E:Fr) (x:Operand):Option Value:=match sEv E x with
 |some (.pointer (some p))=>some (.pointer (some p))
 |_=>none
noncomputable def sFA (T:TT) (E:Fr) (s:TypeId) (x:Operand) (f:Nat):Option Value:=match T.get s,sEv E x with
 |some (.st _ fs _),some (.pointer (some ⟨g,k,none⟩))=>match a1l fs f with
  |some (o,_,_)=>some (.pointer (some ⟨g,k + o,none⟩))
  |none=>none
 |_,_=>none
noncomputable def b2r (E:Fr) (x:Operand) (i:Nat):Option Value:=match sEv E x with
 |some (.tuple vs)=>a1l vs.toList i
 |_=>none
noncomputable def b2c (E:Fr) (op:UnOp) (x:Operand):Option Value:=match op,sEv E x with
 |.not,some (.bool b)=>some (.bool (!b))
 |_,_=>none
noncomputable def sBO (T:TT) (q:EqT) (E:Fr) (op:BinOp) (t:TypeId) (x y:Operand):Option Value:=match sEv E x,sEv E y with
 |some u,some v=>b2Q T q op t u v
 |_,_=>none
noncomputable def sMF (E:Fr) (fn:Go.Fn) (a b:Array Operand):Option Value:=match a6e E a.toList,a6e E b.toList with
 |some us,some vs=>some (.func fn us.toArray vs.toArray)
 |_,_=>none
noncomputable def sCv (T:TT) (E:Fr) (src dst:TypeId) (x:Operand):Option Value:=match T.get src,T.get dst,sEv E x with
 |some _,some (.sc (.int k) _ _),some (.int _ n)=>some (.int k (k.wrap n))
 |some _,some (.sc .string _ _),some (.string s)=>some (.string s)
 |_,_,_=>none
noncomputable def b2M (T:TT) (t:TypeId) (v:Value):Option Value:=match T.get t,v with
 |some (.sl _ _ _ _ _),.slice _ n _=>some (.int .i64 n)
 |some (.sc .string _ _),.string ⟨⟨l⟩⟩=>some (.int .i64 l.length)
 |_,_=>none
noncomputable def b2J (T:TT) (t:TypeId) (v:Value):Option Value:=match T.get t,v with
 |some (.sl _ _ _ _ _),.slice none _ c=>some (.int .i64 c)
 |_,_=>none
noncomputable def b2Z (T:TT) (E:Fr) (b:Builtin) (args:List Operand) (ats:List TypeId):Option Value:=match b,args,ats with
 |.len,[x],[t]=>match sEv E x with
  |some v=>b2M T t v
  |none=>none
 |.cap,[x],[t]=>match sEv E x with
  |some v=>b2J T t v
  |none=>none
 |.min,[x,y],_=>match sEv E x,sEv E y with
  |some (.int .i64 m),some (.int .i64 k)=>some (.int .i64 (min m k))
  |_,_=>none
 |_,_,_=>none
noncomputable def sCP (T:TT) (E:Fr) (c:Call):Option Value:=match c.callee with
 |.builtin b=>b2Z T E b c.args.toList c.argTypes.toList
 |_=>none
noncomputable def b15 (T:TT) (E:Fr) (s:TypeId) (x:Operand) (f:Nat):Option Value:=match T.get s,sEv E x with
 |some (.st _ fs _),some (.agg c)=>match a1l fs f with
  |some (o,n,true)=>some (.agg ((c.toList.drop o).take n).toArray)
  |some (o,_,false)=>a1l c.toList o
  |none=>none
 |_,_=>none
noncomputable def b1D (T:TT) (E:Fr) (t:TypeId) (parts:Array (Nat×Operand)):Option Value:=match T.get t,a9t E parts.toList with
 |some (.st _ fs z),some ps=>(a0c (fun i=>(a1l fs i).map fun f=>(f.1,f.2.1)) z ps).map fun L=>.agg L.toArray
 |_,_=>none
noncomputable def sIA (T:TT) (E:Fr) (t:TypeId) (x y:Operand):Option Value:=match T.get t,sEv E x,sEv E y with
 |some (.sl _ sz _ _ _),some (.slice (some ⟨b,off,none⟩) m _),some (.int .i64 (.ofNat i))=>ifB (Nat.blt i m) (some (.pointer (some ⟨b,off + i * sz,none⟩))) none
 |some (.ar _ len sz _ _),some (.pointer (some ⟨b,off,none⟩)),some (.int .i64 (.ofNat i))=>ifB (Nat.blt i len) (some (.pointer (some ⟨b,off + i * sz,none⟩))) none
 |_,_,_=>none
noncomputable def sIx (T:TT) (E:Fr) (t:TypeId) (x y:Operand):Option Value:=match T.get t,sEv E x,sEv E y with
 |some (.sc .string _ _),some (.string ⟨⟨l⟩⟩),some (.int .i64 (.ofNat i))=>(a1l l i).map fun c=>.int .u8 c.toNat
 |_,_,_=>none
noncomputable def sBd:Option Value->Nat->Nat->Option Nat
 |none,z,_=>some z
 |some (.int _ (.ofNat i)),_,y=>ifB (Nat.ble i y) (some i) none
 |_,_,_=>none
noncomputable def b0v (E:Fr):Option Operand->Option (Option Value)
 |none=>some none
 |some x=>(sEv E x).map some
noncomputable def a8q (E:Fr) (lo hi:Option Operand) (len cap:Nat):Option (Nat×Nat):=match b0v E lo,b0v E hi with
 |some lo,some hi=>match sBd hi len cap with
  |some h=>match sBd lo 0 h with
   |some a=>some (a,h)
   |none=>none
  |none=>none
 |_,_=>none
noncomputable def sSl (T:TT) (E:Fr) (t:TypeId) (x:Operand) (lo hi mx:Option Operand):Option Value:=match mx,T.get t,sEv E x with
 |none,some (.sc .string _ _),some (.string ⟨⟨l⟩⟩)=>match a8q E lo hi l.length l.length with
  |some (a,h)=>some (.string ⟨((l.drop a).take (h - a)).toArray⟩)
  |none=>none
 |none,some (.sl _ sz _ _ _),some (.slice (some ⟨b,off,none⟩) m c)=>match a8q E lo hi m c with
  |some (a,h)=>ifB (Nat.beq a 0||Nat.blt a c) (some (.slice (some ⟨b,off + a * sz,none⟩) (h - a) (c - a))) none
  |none=>none
 |none,some (.sl _ _ _ _ _),some (.slice none m c)=>match a8q E lo hi m c with
  |some (a,h)=>some (.slice none (h - a) (c - a))
  |none=>none
 |_,_,_=>none
noncomputable def a6S (T:TT) (q:EqT) (E:Fr):Op->Option Value
 |.move x=>sEv E x
 |.assign x=>sEv E x
 |.pick c a b=>a8R E c a b
 |.nilCheck x=>b1o E x
 |.fieldAddr s x f=>sFA T E s x f
 |.extract x i=>b2r E x i
 |.unOp op _ x=>b2c E op x
 |.binOp op t x y _=>sBO T q E op t x y
 |.makeFunc fn a b=>sMF E fn a b
 |.convert src dst x=>sCv T E src dst x
 |.call c=>sCP T E c
 |.field s x f=>b15 T E s x f
 |.build t parts=>b1D T E t parts
 |.indexAddr t x y=>sIA T E t x y
 |.index t x y=>sIx T E t x y
 |.slice t x lo hi mx=>sSl T E t x lo hi mx
 |_=>none
noncomputable def j0 (H:SH) (i o n:Nat):Option (List Value):=match g8 H i with
 |some (.blk L)=>ifB (Nat.ble (o + n) L.length) (some ((L.drop o).take n)) none
 |some (.row _ sz rows _ _)=>match a1l rows (o / sz) with
  |some r=>ifB (Nat.ble (o % sz + n) r.length) (some ((r.drop (o % sz)).take n)) none
  |none=>none
 |_=>none
noncomputable def a2L (T:TT) (H:SH) (t:TypeId):Value->Option Value
 |.pointer (some ⟨i,o,none⟩)=>match T.get t with
  |some (.sc _ _ _)|some (.sl _ _ _ _ _)=>match j0 H i o 1 with
   |some [v]=>some v
   |_=>none
  |some (.st s _ _)|some (.ar s _ _ _ _)=>(j0 H i o s).map fun L=>.agg L.toArray
  |none=>none
 |_=>none
noncomputable def b27 (H:SH) (i o s:Nat) (c:List Value):Option SH:=ifB (Nat.beq c.length s && c.all (·.oneCell')) (match g8 H i with
 |some (.blk L)=>ifB (Nat.ble (o + s) L.length) (some (a0o H i (.blk (n8 L o c)))) none
 |some (.row e sz rows cap u)=>match a1l rows (o / sz) with
  |some r=>ifB (Nat.ble (o % sz + s) sz) (some (a0o H i (.row e sz (rows.set (o / sz) (n8 r (o % sz) c)) cap u))) none
  |none=>none
 |_=>none) none
noncomputable def a57 (T:TT) (H:SH) (t:TypeId) (v:Value):Value->Option SH
 |.pointer (some ⟨i,o,none⟩)=>match T.get t,celL v with
  |some ti,some c=>b27 H i o ti.size c
  |_,_=>none
 |_=>none
noncomputable def a1t (H:SH) (sz:Nat):Value->Option (List (List Value))
 |.slice none 0 _=>some []
 |.slice (some _) 0 _=>some []
 |.slice (some ⟨i,o,none⟩) m _=>match g8 H i with
  |some (.row _ sz' rows _ _)=>ifB (Nat.beq sz sz' && (Nat.beq (o % sz) 0 && Nat.ble (o / sz + m) rows.length)) (some ((rows.drop (o / sz)).take m)) none
  |_=>none
 |_=>none
noncomputable def a4o:List (List Value)->Option (List UInt8)
 |[]=>some []
 |[.int .u8 (.ofNat n)]::r=>ifB (Nat.blt n 256) ((a4o r).map (UInt8.ofNat n::·)) none
 |_=>none
abbrev OpR:=Option (Option Value×SH×Nat)
noncomputable def a9w (H:SH) (n e sz:Nat) (rows:List (List Value)):OpR:=some (some (.slice (some ⟨n,0,none⟩) rows.length rows.length),a0p H n (.row e sz rows rows.length true),n + 1)
noncomputable def b0R (H:SH) (n e sz m c:Nat) (news:List (List Value)) (i:Nat):OpR:=match g8 H i with
 |some (.row e' sz' rows cap u)=>ifB (Nat.beq e e' && Nat.beq sz sz')
   (ifB (Nat.beq m rows.length && Nat.beq c cap) (a9w (t5 H i) n e sz (rows++news))
    (ifB (Nat.ble (m + news.length) rows.length && Nat.ble (m + news.length) c) (some (some (.slice (some ⟨i,0,none⟩) (m + news.length) c),a0o H i (.row e sz (a0Z rows news m) cap u),n)) none)) none
 |_=>none
noncomputable def a6E (H:SH) (n e sz eb:Nat) (news:List (List Value)):Value->OpR
 |.slice p m c=>match news with
  |[]=>ifB (Nat.ble m c) (some (some (.slice p m c),H,n)) none
  |_::_=>ifB (Nat.ble ((m + news.length) * (eb + 1)) 1000000) (match p with
   |none=>ifB (Nat.beq m 0 && Nat.beq c 0) (a9w H n e sz news) none
   |some ⟨i,0,none⟩=>b0R H n e sz m c news i
   |_=>none) none
 |_=>none
noncomputable def b09 (H:SH) (n e sz eb q:Nat) (z:List Value):Value->OpR
 |.slice none 0 0=>ifB (Nat.blt 0 q && (Nat.ble (q * (eb + 1)) 1000000 && z.all (·.oneCell'))) (a9w H n e sz (List.replicate q z)) none
 |_=>none
noncomputable def a6l (T:TT) (H:SH) (n:Nat) (t t':TypeId) (s u:Value):OpR:=match T.get t with
 |some (.sl e sz eb _ z)=>ifB (Nat.beq t t') (match a1t H sz u with
   |some news=>a6E H n e sz eb news s
   |none=>none) (match T.get t',u with
   |some (.sc (.int .i64) _ _),.int .i64 (.ofNat q)=>b09 H n e sz eb q z s
   |_,_=>none)
 |_=>none
noncomputable def a9b (T:TT) (H:SH) (t:TypeId) (v:Value):Option (Nat×Nat×Nat×List UInt8×Bool):=match T.get t,v with
 |some (.sl e 1 1 false [.int .u8 (.ofNat 0)]),.slice (some ⟨i,0,none⟩) m c=>match g8 H i with
  |some (.row e' 1 rows cap u)=>ifB (Nat.beq e e' && (Nat.beq m rows.length && Nat.beq c cap)) ((a4o rows).map fun l=>(i,e,cap,l,u)) none
  |_=>none
 |_,_=>none
noncomputable def a8P (T:TT) (H:SH) (n:Nat) (t:TypeId) (s u:Value):OpR:=match a9b T H t s,u with
 |some (i,e,cap,old,ub),.string ⟨⟨l⟩⟩=>some (some (.int .i64 (l.take old.length).length),a0o H i (.row e 1 (bR (l.take old.length++old.drop (l.take old.length).length)) cap ub),n)
 |_,_=>none
noncomputable def a8Y (H:SH) (n:Nat) (t:TypeId) (v:Value):OpR:=match v with
 |.map (some i)=>match g8 H i with
  |some (.smap t' es)=>ifB (Nat.beq t t') (some (some (.int .i64 es.length),H,n)) none
  |_=>none
 |_=>none
noncomputable def b1g (T:TT) (E:Fr) (H:SH) (n:Nat) (b:Builtin) (args:List Operand) (ats:List TypeId):OpR:=match b,args,ats with
 |.append,[x,y],[t,t']=>match sEv E x,sEv E y with
  |some s,some u=>a6l T H n t t' s u
  |_,_=>none
 |.copy,[x,y],[t,_]=>match sEv E x,sEv E y with
  |some s,some u=>a8P T H n t s u
  |_,_=>none
 |.len,[x],[t]=>match sEv E x with
  |some v=>a8Y H n t v
  |none=>none
 |_,_,_=>none
noncomputable def b0E:Value->Value->Option Bool
 |.int .i64 a,.int .i64 b=>some (decide (a=b))
 |.string ⟨⟨a⟩⟩,.string ⟨⟨b⟩⟩=>some (decide (a=b))
 |_,_=>none
noncomputable def a12 (k:Value):List (Value×Value)->Option (Option Value)
 |[]=>some none
 |(x,v)::r=>match b0E k x with
  |some true=>some (some v)
  |some false=>a12 k r
  |none=>none
noncomputable def a7f (k v:Value):List (Value×Value)->List (Value×Value)
 |[]=>[(k,v)]
 |(x,u)::r=>match b0E k x with
  |some true=>(k,v)::r
  |_=>(x,u)::a7f k v r
noncomputable def sKO (T:TT) (t:TypeId) (k:Value):Bool:=match T.get t with
 |some (.sc (.map K _) _ _)=>match T.get K,k with
  |some (.sc (.int .i64) _ _),.int .i64 _=>true
  |some (.sc .string _ _),.string _=>true
  |_,_=>false
 |_=>false
noncomputable def a4R (T:TT) (H:SH) (t:TypeId) (i:Nat) (k:Value):Option (List (Value×Value)):=match g8 H i with
 |some (.smap t' es)=>ifB (Nat.beq t t' && sKO T t k) (some es) none
 |_=>none
noncomputable def a8y (T:TT) (ez:List (Nat×Value)) (H:SH) (n:Nat) (t:TypeId) (ok:Bool) (m k:Value):OpR:=match m with
 |.map (some i)=>match a4R T H t i k with
  |some es=>match a12 k es with
   |some (some v)=>some (some (ifB ok (.tuple #[v,.bool true]) v),H,n)
   |some none=>(g8 ez t).map fun z=>(some (ifB ok (.tuple #[z,.bool false]) z),H,n)
   |none=>none
  |none=>none
 |_=>none
noncomputable def a9n (T:TT) (H:SH) (n:Nat) (t:TypeId) (m k v:Value):OpR:=match m with
 |.map (some i)=>match a4R T H t i k with
  |some es=>match a12 k es with
   |some _=>some (none,a0o H i (.smap t (a7f k v es)),n)
   |none=>none
  |none=>none
 |_=>none
noncomputable def b1B (T:TT) (E:Fr) (H:SH) (n:Nat) (src dst:TypeId) (x:Operand):OpR:=match T.get dst,sEv E x with
 |some (.sc .string _ _),some v=>match a9b T H src v with
  |some (_,e,_,l,_)=>match T.get e with
   |some (.sc (.int .u8) 1 (.int .u8 (.ofNat 0)))=>ifB (Nat.blt 0 l.length) (some (some (.string ⟨l.toArray⟩),H,n)) none
   |_=>none
  |none=>none
 |_,_=>none
noncomputable def sBS (T:TT) (E:Fr) (H:SH) (n:Nat) (t:TypeId) (len:Nat) (parts:Array (Nat×Operand)):OpR:=match T.get t,a9t E parts.toList with
 |some (.sl e sz _ _ _),some ps=>match a09 0 sz ps with
  |some rows=>ifB (Nat.beq rows.length len && (Nat.ble (len * sz) 16777216 && a1x rows)) (some (some (.slice (some ⟨n,0,none⟩) len len),a0p H n (.row e sz rows len false),n + 1)) none
  |none=>none
 |_,_=>none
noncomputable def sMk (T:TT) (E:Fr) (H:SH) (n:Nat) (t:TypeId) (x y:Operand):OpR:=match T.get t,sEv E x,sEv E y with
 |some (.sl e sz eb _ z),some (.int .i64 (.ofNat i)),some (.int .i64 (.ofNat j))=>ifB (Nat.beq i j && (Nat.ble (i * (eb + 1)) 1000000 && z.all (·.oneCell'))) (some (some (.slice (some ⟨n,0,none⟩) i i),a0p H n (.row e sz (List.replicate i z) i false),n + 1)) none
 |_,_,_=>none
noncomputable def b2a (T:TT) (E:Fr) (H:SH) (n:Nat) (t:TypeId) (x:Operand) (lo hi mx:Option Operand):OpR:=match T.get t,sEv E x,b0v E lo,hi,mx with
 |some (.sl _ _ _ _ _),some (.slice (some ⟨_,_,none⟩) m _),some (some (.int .i64 (.ofNat i))),none,none=>ifB (Nat.ble i m) (some (none,H,n)) none
 |_,_,_,_,_=>none
noncomputable def a7P (E:Fr) (H:SH) (n:Nat) (x:Operand):OpR:=match sEv E x with
 |some (.pointer (some ⟨i,0,none⟩))=>match g8 H i with
  |some (.siter l k)=>match a1l l k with
   |some b=>ifB (Nat.blt b.toNat 128) (some (some (.tuple #[.bool true,.int .i64 k,.int .i32 b.toNat]),a0o H i (.siter l (k + 1)),n)) none
   |none=>some (some (.tuple #[.bool false]),H,n)
  |_=>none
 |_=>none
noncomputable def b2i (H:SH) (n:Nat) (s:SA):OpR:=some (some (.pointer (some ⟨n,0,none⟩)),a0p H n s,n + 1)
noncomputable def sOp (T:TT) (ez:List (Nat×Value)) (E:Fr) (H:SH) (n:Nat):Op->OpR
 |.load t x=>match sEv E x with
  |some p=>(a2L T H t p).map fun v=>(some v,H,n)
  |none=>none
 |.store t x y=>match sEv E x,sEv E y with
  |some p,some v=>(a57 T H t v p).map fun H'=>(none,H',n)
  |_,_=>none
 |.box _ x=>match sEv E x with
  |some v=>match celL v with
   |some L=>b2i H n (.blk L)
   |none=>none
  |none=>none
 |.alloc t=>match T.get t with
  |some ti=>b2i H n (.blk ti.zeroCells)
  |none=>none
 |.buildSlice t len parts=>sBS T E H n t len parts
 |.makeSlice t x y=>sMk T E H n t x y
 |.call c=>match c.callee with
  |.builtin b=>b1g T E H n b c.args.toList c.argTypes.toList
  |_=>none
 |.convert src dst x=>b1B T E H n src dst x
 |.makeMap t none=>match T.get t with
  |some (.sc (.map K _) _ _)=>match T.get K with
   |some _=>some (some (.map (some n)),a0p H n (.smap t []),n + 1)
   |none=>none
  |_=>none
 |.lookup t m x ok=>match sEv E m,sEv E x with
  |some m,some k=>a8y T ez H n t ok m k
  |_,_=>none
 |.mapUpdate t m x y=>match sEv E m,sEv E x,sEv E y with
  |some m,some k,some v=>a9n T H n t m k v
  |_,_,_=>none
 |.insert t m x y=>match sEv E m,sEv E x,sEv E y with
  |some m,some k,some v=>a9n T H n t m k v
  |_,_,_=>none
 |.slice t x lo hi mx=>b2a T E H n t x lo hi mx
 |.range t x=>match T.get t,sEv E x with
  |some (.sc .string _ _),some (.string ⟨⟨l⟩⟩)=>b2i H n (.siter l 0)
  |_,_=>none
 |.next x true=>a7P E H n x
 |_=>none
inductive Pl where
 |nil
 |stop
 |take (i:Nat) (k:Pl)
 |one (i:Nat) (drop:List Nat) (k:Pl)
 |grp (w:Nat) (k:Pl)
 |alt (i:Nat) (drop:List Nat) (k more:Pl)
inductive SX where
 |normal
 |exit (i:Nat)
 |ret
structure Cx where
 T:TT
 q:EqT
 ez:List (Nat×Value)
 F:BT (Func×List (Nat×Pl))
 M:List (Nat×(List Value->Option Value))
 I:List (Nat×List (String×Nat))
abbrev a0R:=List (Nat×TypeId×Value×Value)
abbrev a2N:=Nat->List Value->SH->Nat->Rs (Value×SH×Nat)
abbrev a3i:=Fr->SH->Nat->Rs (SX×Fr×SH×Nat)
noncomputable def a2R (ops:List Oper) (E:Fr) (o:Oper):Option Bool:=match o.guard with
 |none=>some true
 |some (j,b)=>match a1l ops j with
  |some oj=>match oj.dst with
   |some dj=>match g8 E dj with
    |some (.bool c)=>some (c == b)
    |some _=>some false
    |none=>none
   |none=>none
  |none=>none
noncomputable def a0x (E:Fr):Option Nat->Option Value->Fr
 |some d,some v=>(d,v)::E
 |some d,none=>t5 E d
 |none,_=>E
noncomputable def a35 (E:Fr):List Nat->Fr:=@List.rec (Nat×Value) (fun _=>List Nat->Fr) (fun _=>[]) (fun p _ ih s=>bif @List.rec Nat (fun _=>Bool) false (fun x _ h=>bif Nat.beq p.1 x then true else h) s then ih s else p::ih (p.1::s)) E
noncomputable def a2F (E:Fr):Fr:=bif Nat.blt 400 (@List.rec (Nat×Value) (fun _=>Nat) 0 (fun _ _ n=>n + 1) E) then a35 E [] else E
mutual
def vEq:Nat->Value->Value->Bool
 |0,_,_=>false
 |k + 1,a,b=>match a,b with
  |.bool a,.bool b=>a == b
  |.int j a,.int j' b=>kb j j' && decide (a=b)
  |.string ⟨⟨a⟩⟩,.string ⟨⟨b⟩⟩=>decide (a=b)
  |.pointer none,.pointer none=>true
  |.pointer (some ⟨i,o,none⟩),.pointer (some ⟨j,p,none⟩)=>Nat.beq i j && Nat.beq o p
  |.slice none m c,.slice none m' c'=>Nat.beq m m' && Nat.beq c c'
  |.slice (some ⟨i,o,none⟩) m c,.slice (some ⟨j,p,none⟩) m' c'=>Nat.beq i j && (Nat.beq o p && (Nat.beq m m' && Nat.beq c c'))
  |.map none,.map none=>true
  |.map (some i),.map (some j)=>Nat.beq i j
  |.nilFunc,.nilFunc=>true
  |.func (.func f) ⟨a⟩ ⟨b⟩,.func (.func g) ⟨c⟩ ⟨d⟩=>Nat.beq f g && (a4A k a c && a4A k b d)
  |.nilIface,.nilIface=>true
  |.iface t a,.iface t' b=>Nat.beq t t' && vEq k a b
  |.agg ⟨a⟩,.agg ⟨b⟩=>a4A k a b
  |.tuple ⟨a⟩,.tuple ⟨b⟩=>a4A k a b
  |_,_=>false
def a4A:Nat->List Value->List Value->Bool
 |0,_,_=>false
 |_ + 1,[],[]=>true
 |k + 1,a::l,b::r=>vEq k a b && a4A k l r
 |_,_,_=>false
end
def a6F:List (List Value)->List (List Value)->Bool
 |[],[]=>true
 |a::l,b::r=>a4A 1000 a b && a6F l r
 |_,_=>false
def a95:List (Value×Value)->List (Value×Value)->Bool
 |[],[]=>true
 |(a,c)::l,(b,d)::r=>vEq 1000 a b && (vEq 1000 c d && a95 l r)
 |_,_=>false
def b1k:SA->SA->Bool
 |.blk a,.blk b=>a4A 1000 a b
 |.row e s r c u,.row e' s' r' c' u'=>Nat.beq e e' && (Nat.beq s s' && (Nat.beq c c' && ((u == u') && a6F r r')))
 |.smap t a,.smap t' b=>Nat.beq t t' && a95 a b
 |.siter a i,.siter b j=>Nat.beq i j && decide (a=b)
 |_,_=>false
def hEq:SH->SH->Bool
 |[],[]=>true
 |(i,a)::l,(j,b)::r=>Nat.beq i j && (b1k a b && hEq l r)
 |_,_=>false
noncomputable def a3D (E1 E2:Fr):Fr->Bool
 |[]=>true
 |(d,_)::r=>(match g8 E1 d,g8 E2 d with
  |some u,some v=>vEq 1000 u v
  |_,_=>false) && a3D E1 E2 r
noncomputable def a07 (T:TT) (H:SH):a0R->Bool
 |[]=>true
 |(_,t,p,v)::r=>(match a2L T H t p with
  |some u=>vEq 1000 u v
  |none=>false) && a07 T H r
def a0A (dr:List Nat) (L:a0R):a0R:=L.filter fun e=>!dr.any (Nat.beq e.1)
noncomputable def a7m (T:TT) (E:Fr) (H:SH):List ResultVar->Option (List Value)
 |[]=>some []
 |.tmp t::r=>match g8 E t,a7m T E H r with
  |some v,some vs=>some (v::vs)
  |_,_=>none
 |.cell p t::r=>match g8 E p with
  |some a=>match a2L T H t a,a7m T E H r with
   |some v,some vs=>some (v::vs)
   |_,_=>none
  |none=>none
def inR (m e i:Nat):Bool:=bif Nat.blt i m then true else Nat.ble e i
mutual
def a7p:Nat->Nat->Nat->Value->Bool
 |0,_,_,_=>false
 |k + 1,m,e,v=>match v with
  |.pointer (some a)|.slice (some a) _ _=>inR m e a.block
  |.map (some i)=>inR m e i
  |.func _ ⟨a⟩ ⟨b⟩=>a3M k m e a && a3M k m e b
  |.agg ⟨a⟩|.tuple ⟨a⟩=>a3M k m e a
  |.iface _ v=>a7p k m e v
  |_=>true
def a3M:Nat->Nat->Nat->List Value->Bool
 |0,_,_,_=>false
 |_ + 1,_,_,[]=>true
 |k + 1,m,e,a::l=>a7p k m e a && a3M k m e l
end
def b1c (m e:Nat):SA->Bool
 |.blk L=>a3M 1000 m e L
 |.row _ _ rows _ _=>rows.all (a3M 1000 m e)
 |.smap _ es=>es.all fun p=>a7p 1000 m e p.1 && a7p 1000 m e p.2
 |.siter _ _=>true
noncomputable def b0W (m e:Nat) (H:SH):Nat:=@List.rec (Nat×SA) (fun _=>Nat) 0 (fun p _ ih=>bif Nat.ble e p.1 then ih else bif Nat.blt p.1 m then 0 else ih + 1) H
noncomputable def a7h (m e:Nat) (H:SH):SH:=@List.rec (Nat×SA) (fun _=>SH) [] (fun p _ ih=>@Bool.rec (fun _=>SH) ih (p::ih) (inR m e p.1)) H
noncomputable def gc (m e:Nat) (v:Value) (H:SH):SH:=bif Nat.blt 20 (b0W m e H) && (a7p 1000 m e v && (a7h m e H).all fun p=>b1c m e p.2) then a7h m e H else H
noncomputable def a94 (l:List (String×Nat)) (x:String):Option Nat:=@List.rec (String×Nat) (fun _=>Option Nat) none (fun p _ ih=>@Bool.rec (fun _=>Option Nat) ih (some p.2) (decide (p.1=x))) l
section
variable (C:Cx) (call:a2N)
noncomputable def b2k (pos:String) (E:Fr) (H:SH) (n:Nat) (f:Operand) (args:List Operand):Rs (Option Value×SH×Nat):=match sEv E f,a6e E args with
 |some (.func (.func g) first caps),some vs=>match call g (first.toList++vs++caps.toList) H n with
  |.ok (v,r)=>.ok (some v,r)
  |.no p=>.no p
 |_,_=>.no pos
noncomputable def b0D (op:Op) (pos:String) (E:Fr) (H:SH) (n:Nat):Rs (Option Value×SH×Nat):=match a6S C.T C.q E op with
 |some v=>.ok (some v,H,n)
 |none=>match sOp C.T C.ez E H n op with
  |some r=>.ok r
  |none=>.no pos
noncomputable def b14 (pos:String) (E:Fr) (H:SH) (n:Nat) (f:Operand) (name:String) (args:List Operand):Rs (Option Value×SH×Nat):=match sEv E f,a6e E args with
 |some (.iface t u),some vs=>match g8 C.I t with
  |some ms=>match a94 ms name with
   |some g=>match call g (u::vs) H n with
    |.ok (v,r)=>.ok (some v,r)
    |.no p=>.no p
   |none=>.no name
  | none => .no "type"
 | _, _ => .no "receiver"
noncomputable def b13 (pos:String) (E:Fr) (H:SH) (n:Nat) (t:TypeId) (x:Operand):Rs (Option Value×SH×Nat):=match g8 C.I t,sEv E x with
 |some _,some v=>.ok (some (.iface t v),H,n)
 |_,_=>.no pos
noncomputable def a3I (op:Op) (pos:String) (E:Fr) (H:SH) (n:Nat):Rs (Option Value×SH×Nat):=match op with
 |.call c=>match c.callee with
  |.value f=>b2k call pos E H n f c.args.toList
  |.invoke f name=>b14 C call pos E H n f name c.args.toList
  |_=>b0D C (.call c) pos E H n
 |.makeInterface t x=>b13 C pos E H n t x
 |op=>b0D C op pos E H n
noncomputable def a33 (ops l:List Oper):Fr->SH->Nat->Rs (Fr×SH×Nat):=@List.rec Oper (fun _=>Fr->SH->Nat->Rs (Fr×SH×Nat)) (fun E H n=>.ok (E,H,n)) (fun o _ ih E H n=>match a2R ops E o with
  |some true=>match a3I C call o.op o.pos E H n with
   |.ok (v,H',n')=>ih (a0x E o.dst v) H' n'
   |.no p=>.no p
  |some false=>ih (a0x E o.dst (some undef)) H n
  | none => .no "guard") l
abbrev XPl:=Nat->Nat->a0R->Fr->SH->Nat->Rs (Fr×SH×Nat)
noncomputable def a8F (ops:List Oper) (i:Nat) (ih:XPl):XPl:=fun b z L E H n=>match a1l ops i with
 |some o=>match a2R ops E o with
  |some false=>ih b z L (a0x E o.dst (some undef)) H n
  |some true=>match o.op with
   |.load t x=>match sEv E x with
    |some a=>match a2L C.T H t a with
     |some v=>ih b z ((i,t,a,v)::L) (a0x E o.dst (some v)) H n
     | none => .no "load"
    | none => .no "loadx"
   |op=>match a6S C.T C.q E op with
    |some v=>ih b z L (a0x E o.dst (some v)) H n
    | none => .no "pure"
  | none => .no "guard"
 | none => .no "take"
noncomputable def b2s (ops:List Oper) (i:Nat) (dr:List Nat) (ih:XPl):XPl:=fun b z L E H n=>match a1l ops i with
 |some o=>match a2R ops E o with
  |some w=>match (bif w then a3I C call o.op o.pos E H n else .ok (some undef,H,n)) with
   | .ok (v, H', n') => bif a07 C.T H' (a0A dr L) then ih b z (a0A dr L) (a0x E o.dst v) H' n' else .no "early"
   |.no p=>.no p
  | none => .no "guard"
 | none => .no "one"
noncomputable def b1H (ops:List Oper) (i:Nat) (dr:List Nat) (ih:XPl) (last:Bool) (more:XPl):XPl:=fun b z L E H n=>match a1l ops i with
 |some o=>match a2R ops E o with
  |some w=>match (bif w then a3I C call o.op o.pos E H (b + z * i) else .ok (some undef,H,b + z * i)) with
   |.ok (v,H',n')=>bif Nat.ble n' (b + z * (i + 1)) && a07 C.T H' (a0A dr L) then
     (bif last then ih b z (a0A dr L) (a0x E o.dst v) H' n
      else match ih b z (a0A dr L) (a0x E o.dst v) H' n,more b z L E H n with
       | .ok (E1, H1, n1), .ok (E2, H2, n2) => bif a3D E1 E2 E1 && (hEq H1 H2 && Nat.beq n1 n2) then .ok (E1, H1, n1) else .no "ways"
       |.no p,_=>.no p
       |_,.no p=>.no p)
    else .no "early"
   |.no p=>.no p
  | none => .no "guard"
 | none => .no "alt"
def Pl.isStop:Pl->Bool
 |.stop=>true
 |_=>false
noncomputable def xPl (ops : List Oper) (p : Pl) : XPl := @Pl.rec (fun _ => XPl) (fun _ _ _ E H n => .ok (E, H, n)) (fun _ _ _ _ _ _ => .no "stop") (fun i _ ih => a8F C ops i ih) (fun i dr _ ih => b2s C call ops i dr ih) (fun w _ ih _ _ L E H n => ih n w L E H (n + w * ops.length)) (fun i dr _ more ih im => b1H C call ops i dr ih more.isStop im) p
noncomputable def a6J (f : a3i) (k : Nat) : a3i := @Nat.rec (fun _ => a3i) (fun _ _ _ => .no "loop") (fun _ ih E H n => match f E H n with
 |.ok (.normal,E',H',n')=>ih (a2F E') H' n'
 |r=>r) k
def a8Q:Nat:=100000
noncomputable def a2l (pl:List (Nat×Pl)) (c:Code):a3i:=@Code.rec (fun _=>a3i)
 (fun E H n=>.ok (.normal,E,H,n))
 (fun id ops draw E H n=>bif draw then (match g8 pl id with
   |some p=>match xPl C call ops.toList p n 0 [] E H n with
    |.ok (E',H',n')=>.ok (.normal,E',H',n')
    |.no p=>.no p
   | none => .no "plan") else (match a33 C call ops.toList ops.toList E H n with
   |.ok (E',H',n')=>.ok (.normal,E',H',n')
   |.no p=>.no p))
 (fun _ _ x y E H n=>match x E H n with
   |.ok (.normal,E',H',n')=>y E' H' n'
   |r=>r)
 (fun o _ _ x y E H n=>match sEv E o with
   |some (.bool true)=>x E H n
   |some (.bool false)=>y E H n
   | _ => .no "cond")
 (fun i _ x E H n=>match x E H n with
   |.ok (.exit j,E',H',n')=>bif Nat.beq j i then .ok (.normal,E',H',n') else .ok (.exit j,E',H',n')
   |r=>r)
 (fun _ x=>a6J x a8Q)
 (fun _ _ _ _ _ _ _ _ _ => .no "range")
 (fun i E H n=>.ok (.exit i,E,H,n))
 (fun _ _ _ _ _ => .no "scope")
 (fun _ _ _ _ => .no "label")
 (fun _ _ _ _ => .no "goto")
 (fun E H n=>.ok (.ret,E,H,n))
 (fun _ _ _ _ => .no "refuse") c
noncomputable def a7S (g:Nat) (vs:List Value) (H:SH) (n:Nat):Rs (Value×SH×Nat):=match g8 C.M g with
 |some f=>match f vs with
  |some v=>.ok (v,H,n)
  | none => .no "summary"
 |none=>match C.F.get g with
  |some (fn,pl)=>match fn.body with
   |some c=>bif Nat.ble vs.length fn.ntmps then (match a2l C call pl c (a2m 0 vs) H n with
     | .ok (.exit _, _) => .no "exit"
     |.ok (_,E',H',n')=>match a7m C.T E' H' fn.results.toList with
      |some rs=>.ok (a1M rs,gc n n' (a1M rs) H',n')
      |none=>.no fn.name
     | .no p => .no p) else .no "args"
   | none => .no "body"
  | none => .no "function"
end
noncomputable def b0Q (C : Cx) (k : Nat) : a2N := @Nat.rec (fun _ => a2N) (fun _ _ _ _ => .no "depth") (fun _ ih => a7S C ih) k
abbrev Ren:=Nat->Option (Nat×Nat)
mutual
def o7 (ρ:Ren):Value->Option Value
 |.bool b=>some (.bool b)
 |.int k n=>some (.int k n)
 |.string s=>some (.string s)
 |.nilFunc=>some .nilFunc
 |.nilIface=>some .nilIface
 |.pointer none=>some (.pointer none)
 |.pointer (some ⟨i,o,none⟩)=>(ρ i).map fun x=>.pointer (some ⟨x.1,o,none⟩)
 |.slice none n c=>some (.slice none n c)
 |.slice (some ⟨i,o,none⟩) n c=>(ρ i).map fun x=>.slice (some ⟨x.1,o,none⟩) n (c + x.2)
 |.map none=>some (.map none)
 |.map (some i)=>(ρ i).map fun x=>.map (some x.1)
 |.func f ⟨a⟩ ⟨b⟩=>(a0U ρ a).bind fun a'=>(a0U ρ b).map fun b'=>.func f ⟨a'⟩ ⟨b'⟩
 |.agg ⟨l⟩=>(a0U ρ l).map fun l'=>.agg ⟨l'⟩
 |.tuple ⟨l⟩=>(a0U ρ l).map fun l'=>.tuple ⟨l'⟩
 |.iface t v=>(o7 ρ v).map fun u=>.iface t u
 |_=>none
def a0U (ρ:Ren):List Value->Option (List Value)
 |[]=>some []
 |v::l=>(o7 ρ v).bind fun u=>(a0U ρ l).map fun m=>u::m
end
def VR (ρ:Ren) (v u:Value):Prop:=o7 ρ v=some u
def LR (ρ:Ren) (l m:List Value):Prop:=a0U ρ l=some m
def Rle (ρ σ:Ren):Prop:=∀ i x,ρ i=some x->σ i=some x
section
variable {ρ σ:Ren} {v u:Value} {l m:List Value}
theorem LR.nil:LR ρ [] []:=by unfold LR a0U;rfl
theorem LR.cons (h:VR ρ v u) (h2:LR ρ l m):LR ρ (v::l) (u::m):=by
 unfold LR VR at *;unfold a0U;rw [h,h2];rfl
theorem LR.inv (h:LR ρ (v::l) m):∃ u r,m=u::r/\VR ρ v u/\LR ρ l r:=by
 unfold LR a0U at h;obtain ⟨u,hu,h⟩:=xk5.1 h;obtain ⟨r,hr,h⟩:=xh1.1 h;exact ⟨u,r,h.symm,hu,hr⟩
theorem LR.nil_inv (h:LR ρ [] m):m=[]:=by
 unfold LR a0U at h
 cases h
 rfl
mutual
theorem VR.mono (hl:Rle ρ σ):∀ {v u:Value},VR ρ v u->VR σ v u
 |.bool _,_,h|.int _ _,_,h|.string _,_,h|.nilFunc,_,h|.nilIface,_,h|.pointer none,_,h|.slice none _ _,_,h|.map none,_,h=>by
  unfold VR o7 at *;exact h
 |.pointer (some ⟨i,o,none⟩),u,h=>by
  unfold VR o7 at *;obtain ⟨x,hx,hu⟩:=xh1.1 h;rw [hl i x hx,<- hu];rfl
 |.slice (some ⟨i,o,none⟩) n c,u,h=>by
  unfold VR o7 at *;obtain ⟨x,hx,hu⟩:=xh1.1 h;rw [hl i x hx,<- hu];rfl
 |.map (some i),u,h=>by
  unfold VR o7 at *;obtain ⟨x,hx,hu⟩:=xh1.1 h;rw [hl i x hx,<- hu];rfl
 |.func f ⟨a⟩ ⟨b⟩,u,h=>by
  unfold VR o7 at *;obtain ⟨a',ha,h⟩:=xk5.1 h;obtain ⟨b',hb,h⟩:=xh1.1 h;rw [show a0U σ a=some a' from LR.mono hl ha,show a0U σ b=some b' from LR.mono hl hb,<- h];rfl
 |.agg ⟨l⟩,u,h=>by
  unfold VR o7 at *;obtain ⟨a',ha,h⟩:=xh1.1 h;rw [show a0U σ l=some a' from LR.mono hl ha,<- h];rfl
 |.tuple ⟨l⟩,u,h=>by
  unfold VR o7 at *;obtain ⟨a',ha,h⟩:=xh1.1 h;rw [show a0U σ l=some a' from LR.mono hl ha,<- h];rfl
 |.iface t v,u,h=>by
  unfold VR o7 at *;obtain ⟨a',ha,h⟩:=xh1.1 h;rw [show o7 σ v=some a' from VR.mono hl ha,<- h];rfl
 |.pointer (some ⟨_,_,some _⟩),_,h|.slice (some ⟨_,_,some _⟩) _ _,_,h|.float _ _,_,h|.complex _ _ _,_,h|.chan _,_,h=>by
  unfold VR o7 at h;cases h
theorem LR.mono (hl:Rle ρ σ):∀ {l m:List Value},LR ρ l m->LR σ l m
 |[],_,h=>by rw [LR.nil_inv h];exact LR.nil
 |v::l,m,h=>by
  obtain ⟨u,r,rfl,h1,h2⟩:=LR.inv h;exact LR.cons (VR.mono hl h1) (LR.mono hl h2)
end
theorem LR.len:∀ {l m:List Value},LR ρ l m->m.length=l.length
 |[],_,h=>by rw [LR.nil_inv h]
 |v::l,m,h=>by
  obtain ⟨u,r,rfl,h1,h2⟩:=LR.inv h;simp [LR.len h2]
theorem LR.get:∀ {l m:List Value} {i:Nat} {v:Value},LR ρ l m->l[i]?=some v->∃ u,m[i]?=some u/\VR ρ v u
 |[],_,_,_,_,h=>by simp at h
 |x::l,m,i,v,hr,h=>by
  obtain ⟨u,r,rfl,h1,h2⟩:=LR.inv hr
  cases i with
  |zero=>simp at h;subst h;exact ⟨u,rfl,h1⟩
  |succ i=>simpa using LR.get h2 (by simpa using h)
theorem LR.app {l' m':List Value}:∀ {l m:List Value},LR ρ l m->LR ρ l' m'->LR ρ (l++l') (m++m')
 |[],_,h,h2=>by rw [LR.nil_inv h];exact h2
 |v::l,m,h,h2=>by
  obtain ⟨u,r,rfl,h1,h3⟩:=LR.inv h;exact LR.cons h1 (LR.app h3 h2)
theorem LR.drop:∀ {l m:List Value} (k:Nat),LR ρ l m->LR ρ (l.drop k) (m.drop k)
 |l,m,0,h=>by simpa using h
 |[],_,k + 1,h=>by rw [LR.nil_inv h];exact LR.nil
 |v::l,m,k + 1,h=>by
  obtain ⟨u,r,rfl,h1,h2⟩:=LR.inv h
  simpa using LR.drop k h2
theorem LR.take:∀ {l m:List Value} (k:Nat),LR ρ l m->LR ρ (l.take k) (m.take k)
 |l,m,0,h=>by simpa using LR.nil
 |[],_,k + 1,h=>by rw [LR.nil_inv h];exact LR.nil
 |v::l,m,k + 1,h=>by
  obtain ⟨u,r,rfl,h1,h2⟩:=LR.inv h
  simpa using LR.cons h1 (LR.take k h2)
theorem LR.set:∀ {l m:List Value} (k:Nat) {v u:Value},LR ρ l m->VR ρ v u->LR ρ (l.set k v) (m.set k u)
 |[],_,k,_,_,h,_=>by rw [LR.nil_inv h];exact LR.nil
 |x::l,m,0,_,_,h,hv=>by
  obtain ⟨u,r,rfl,h1,h2⟩:=LR.inv h;exact LR.cons hv h2
 |x::l,m,k + 1,_,_,h,hv=>by
  obtain ⟨u,r,rfl,h1,h2⟩:=LR.inv h;exact LR.cons h1 (LR.set k h2 hv)
theorem LR.setLs:∀ {c d l m:List Value} {k:Nat},LR ρ l m->LR ρ c d->LR ρ (n8 l k c) (n8 m k d)
 |[],_,l,m,k,h,h2=>by rw [LR.nil_inv h2];exact h
 |x::c,d,l,m,k,h,h2=>by
  obtain ⟨u,r,rfl,h3,h4⟩:=LR.inv h2;exact (LR.setLs (k:=k + 1) (LR.set k h h3) h4:LR ρ (n8 (l.set k x) (k + 1) c) (n8 (m.set k u) (k + 1) r))
theorem VR.one (h:VR ρ v u):u.oneCell'=v.oneCell':=by
 unfold VR at h;unfold o7 at h
 split at h
 all_goals first
  |(cases h;rfl;done)
  |(obtain ⟨_,_,rfl⟩:=xh1.1 h;rfl;done)
  |(obtain ⟨_,_,h⟩:=xk5.1 h;obtain ⟨_,_,rfl⟩:=xh1.1 h;rfl;done)
  |cases h
theorem LR.one:∀ {l m:List Value},LR ρ l m->m.all (·.oneCell')=l.all (·.oneCell')
 |[],_,h=>by rw [LR.nil_inv h]
 |v::l,m,h=>by
  obtain ⟨u,r,rfl,h1,h2⟩:=LR.inv h;simp [VR.one h1,LR.one h2]
theorem VR.celL {L:List Value} (h:VR ρ v u) (hc:celL v=some L):∃ M,Go.Proofs.YtejnpppejalhfacGreat.celL u=some M/\LR ρ L M:=by
 have h0:=h;unfold VR o7 at h
 split at h
 all_goals first
  |(cases h;cases hc;exact ⟨_,rfl,LR.cons h0 LR.nil⟩;done)
  |(obtain ⟨x,hx,rfl⟩:=xh1.1 h;cases hc;exact ⟨_,rfl,LR.cons h0 LR.nil⟩;done)
  |(obtain ⟨x,hx,rfl⟩:=xh1.1 h;cases hc;exact ⟨_,rfl,hx⟩;done)
  |(obtain ⟨_,_,h⟩:=xk5.1 h;obtain ⟨_,_,rfl⟩:=xh1.1 h;cases hc;exact ⟨_,rfl,LR.cons h0 LR.nil⟩;done)
  |(obtain ⟨x,hx,rfl⟩:=xh1.1 h;cases hc;done)
  |(cases h;done)
theorem VR.int {k:IntKind} {n:Int} (h:VR ρ (.int k n) u):u=.int k n:=by unfold VR o7 at h;cases h;rfl
theorem VR.bool {b:Bool} (h:VR ρ (.bool b) u):u=.bool b:=by unfold VR o7 at h;cases h;rfl
theorem VR.str {s:ByteArray} (h:VR ρ (.string s) u):u=.string s:=by unfold VR o7 at h;cases h;rfl
theorem VR.ptr {i o:Nat} (h:VR ρ (.pointer (some ⟨i,o,none⟩)) u):∃ x,ρ i=some x/\u=.pointer (some ⟨x.1,o,none⟩):=by
 unfold VR o7 at h;obtain ⟨x,hx,hu⟩:=xh1.1 h;exact ⟨x,hx,hu.symm⟩
theorem VR.ptr0 (h:VR ρ (.pointer none) u):u=.pointer none:=by unfold VR o7 at h;cases h;rfl
theorem VR.sl {i o n c:Nat} (h:VR ρ (.slice (some ⟨i,o,none⟩) n c) u):∃ x,ρ i=some x/\u=.slice (some ⟨x.1,o,none⟩) n (c + x.2):=by
 unfold VR o7 at h;obtain ⟨x,hx,hu⟩:=xh1.1 h;exact ⟨x,hx,hu.symm⟩
theorem VR.sl0 {n c:Nat} (h:VR ρ (.slice none n c) u):u=.slice none n c:=by unfold VR o7 at h;cases h;rfl
theorem VR.slAny {p:Option Addr} {n c:Nat} (h:VR ρ (.slice p n c) u):∃ p' c',u=.slice p' n c'/\p'.isNone=p.isNone:=by
 match p with
 |none=>exact ⟨_,_,VR.sl0 h,rfl⟩
 |some ⟨i,o,none⟩=>obtain ⟨x,_,hu⟩:=VR.sl h;exact ⟨_,_,hu,rfl⟩
 |some ⟨i,o,some s⟩=>unfold VR o7 at h;cases h
theorem VR.ptrAny {p:Option Addr} (h:VR ρ (.pointer p) u):∃ p',u=.pointer p'/\p'.isNone=p.isNone:=by
 match p with
 |none=>exact ⟨_,VR.ptr0 h,rfl⟩
 |some ⟨i,o,none⟩=>obtain ⟨x,_,hu⟩:=VR.ptr h;exact ⟨_,hu,rfl⟩
 |some ⟨i,o,some s⟩=>unfold VR o7 at h;cases h
theorem VR.mp {i:Nat} (h:VR ρ (.map (some i)) u):∃ x,ρ i=some x/\u=.map (some x.1):=by
 unfold VR o7 at h;obtain ⟨x,hx,hu⟩:=xh1.1 h;exact ⟨x,hx,hu.symm⟩
theorem VR.agg (h:VR ρ (.agg ⟨l⟩) u):∃ m,u=.agg ⟨m⟩/\LR ρ l m:=by
 unfold VR o7 at h;obtain ⟨x,hx,hu⟩:=xh1.1 h;exact ⟨x,hu.symm,hx⟩
theorem VR.tup (h:VR ρ (.tuple ⟨l⟩) u):∃ m,u=.tuple ⟨m⟩/\LR ρ l m:=by
 unfold VR o7 at h;obtain ⟨x,hx,hu⟩:=xh1.1 h;exact ⟨x,hu.symm,hx⟩
theorem VR.fun_ {f:Go.Fn} {a b:List Value} (h:VR ρ (.func f ⟨a⟩ ⟨b⟩) u):∃ a' b',u=.func f ⟨a'⟩ ⟨b'⟩/\LR ρ a a'/\LR ρ b b':=by
 unfold VR o7 at h;obtain ⟨a',ha,h⟩:=xk5.1 h;obtain ⟨b',hb,h⟩:=xh1.1 h;exact ⟨a',b',h.symm,ha,hb⟩
theorem VR.mkAgg (h:LR ρ l m):VR ρ (.agg ⟨l⟩) (.agg ⟨m⟩):=by unfold VR o7;rw [show a0U ρ l=some m from h];rfl
theorem VR.mkTup (h:LR ρ l m):VR ρ (.tuple ⟨l⟩) (.tuple ⟨m⟩):=by unfold VR o7;rw [show a0U ρ l=some m from h];rfl
theorem VR.mkPtr {i o:Nat} {x:Nat×Nat} (h:ρ i=some x):VR ρ (.pointer (some ⟨i,o,none⟩)) (.pointer (some ⟨x.1,o,none⟩)):=by unfold VR o7;rw [h];rfl
theorem VR.mkSl {i o n c:Nat} {x:Nat×Nat} (h:ρ i=some x):VR ρ (.slice (some ⟨i,o,none⟩) n c) (.slice (some ⟨x.1,o,none⟩) n (c + x.2)):=by unfold VR o7;rw [h];rfl
theorem VR.mkMap {i:Nat} {x:Nat×Nat} (h:ρ i=some x):VR ρ (.map (some i)) (.map (some x.1)):=by unfold VR o7;rw [h];rfl
theorem VR.mkFun {f:Go.Fn} {a b a' b':List Value} (h1:LR ρ a a') (h2:LR ρ b b'):VR ρ (.func f ⟨a⟩ ⟨b⟩) (.func f ⟨a'⟩ ⟨b'⟩):=by unfold VR o7;rw [show a0U ρ a=some a' from h1,show a0U ρ b=some b' from h2];rfl
theorem VR.cOk (h:cOk v=true):VR ρ v v:=by
 unfold Go.Proofs.YtejnpppejalhfacGreat.cOk at h
 split at h
 all_goals first
  |(unfold VR o7;rfl)
  |cases h
theorem VR.fn {u':Value} (h:VR ρ v u) (h2:VR ρ v u'):u'=u:=by unfold VR at *;rw [h] at h2;cases h2;rfl
end
structure HasR (ρ:Ren) (N:Nat) (ds:List Deferred) (a:Act) (E:Fr):Prop where
 size:a.tmps.size=N
 defers:a.defers=ds
 at_:∀ t v,g8 E t=some v->∃ u,VR ρ v u/\a.tmps[t]?=some u
theorem j3 {α:Type} (k:Nat) (v:α) (r:List (Nat×α)) (i:Nat):g8 ((k,v)::r) i=if k=i then some v else g8 r i:=by
 show @Bool.rec (fun _=>Option α) (g8 r i) (some v) (Nat.beq k i)=_;by_cases h:k=i
 ·subst h;rw [xg9,xd8 rfl]
 ·rw [a3l h,xd9 h]
theorem a5e {α:Type} (i:Nat):g8 ([]:List (Nat×α)) i=none:=rfl
theorem a1b {α:Type} {l:List (Nat×α)} {i:Nat} {v:α} (h:g8 l i=some v):(i,v) ∈ l:=by
 induction l with
 |nil=>cases h
 |cons p r ih=>
  obtain ⟨k,u⟩:=p;rw [j3] at h;by_cases e:k=i
  ·rw [xd8 e] at h;cases h;subst e;exact xb5
  ·rw [xd9 e] at h;exact xb6 _ (ih h)
theorem s4 {α:Type}:∀ (l:List α) (i:Nat),a1l l i=l[i]?
 |[],i=>rfl
 |p::r,0=>rfl
 |p::r,i + 1=>by
  show a1l r i=_;rw [s4 r i];rfl
theorem b2d {α:Type} (b:Bool) (x y:α):ifB b x y=if b=true then x else y:=by cases b <;> rfl
theorem a14 {α:Type} {b:Bool} {x y:Option α} {z:α} (h:ifB b x y=some z):(b=true/\x=some z)\/(b=false/\y=some z):=by
 cases b
 ·exact xc4 ⟨rfl,h⟩
 ·exact xc7 ⟨rfl,h⟩
theorem d6 {α:Type} {b:Bool} {x:Option α} {z:α} (h:ifB b x none=some z):b=true/\x=some z:=by
 rcases a14 h with h|⟨_,h⟩
 ·exact h
 ·cases h
theorem a0h {α:Type} {b:Bool} {x:Option α} {z:α} (h:ifB b none x=some z):b=false/\x=some z:=by
 rcases a14 h with ⟨_,h⟩|h
 ·cases h
 ·exact h
section
variable {ρ σ:Ren} {N:Nat} {ds:List Deferred} {a:Act} {E:Fr}
def a0d (a:Act):Fr:=(List.range a.tmps.size).map fun t=>(t,a.tmps.getD t undef)
theorem a2b {t:Nat} {u:Value} (h:a.tmps[t]?=some u):Fr.get (a0d a) t=some u:=by
 have key:∀ (l:List Nat),t ∈ l->Fr.get (l.map fun t=>(t,a.tmps.getD t undef)) t=some (a.tmps.getD t undef):=by
  intro l
  induction l with
  |nil=>intro h;cases h
  |cons x r ih=>
   intro hm;rw [xb0];simp only [Fr.get];by_cases e:x=t
   ·subst e;rw [xg9];rfl
   ·rw [a3l e];rcases xb4.1 hm with h|h
    ·exact (e h.symm).elim
    ·exact ih h
 have hlt:t < a.tmps.size:=(xa8.1 h).1;unfold a0d;rw [key _ (List.mem_range.2 hlt)];rw [xb2,h];rfl
theorem a88 {t:Nat} {u:Value} (h:Fr.get (a0d a) t=some u):a.tmps.getD t undef=u:=by
 have hm:=Fr.get_mem h;unfold a0d at hm;obtain ⟨k,_,e⟩:=xi0.1 hm
 cases e
 rfl
theorem HasR.full (h:HasR ρ N ds a E):Has N ds a (a0d a):=⟨h.size,h.defers,fun _ _=>a88⟩
theorem HasR.mono (h:HasR ρ N ds a E) (hl:Rle ρ σ):HasR σ N ds a E:=⟨h.size,h.defers,fun t v ht=>by
 obtain ⟨u,h1,h2⟩:=h.at_ t v ht;exact ⟨u,h1.mono hl,h2⟩⟩
theorem HasR.ev (h:HasR ρ N ds a E) {x:Operand} {v:Value} (hx:sEv E x=some v):∃ u,VR ρ v u/\Fr.ev (a0d a) x=some u:=by
 cases x with
 |tmp t=>obtain ⟨u,h1,h2⟩:=h.at_ t v hx;exact ⟨u,h1,a2b h2⟩
 |const c=>
  obtain ⟨h1,h2⟩:=d6 (show ifB (cOk c) (some c) none=some v from hx)
  cases h2
  exact ⟨_,VR.cOk h1,rfl⟩
 |global g=>cases hx
 |func f=>cases hx;exact ⟨_,VR.mkFun LR.nil LR.nil,rfl⟩
theorem a7E (x:Operand) (r:List Operand):a6e E (x::r)=(match sEv E x,a6e E r with|some v,some vs=>some (v::vs)|_,_=>none):=rfl
theorem HasR.evs (h:HasR ρ N ds a E):∀ {xs:List Operand} {vs:List Value},a6e E xs=some vs->∃ us,LR ρ vs us/\Fr.evs (a0d a) xs=some us
 |[],vs,hx=>by cases hx;exact ⟨_,LR.nil,rfl⟩
 |x::r,vs,hx=>by
  rw [a7E] at hx
  split at hx
  ·rename_i v ws h1 h2
   cases hx
   obtain ⟨u,h3,h4⟩:=h.ev h1;obtain ⟨us,h5,h6⟩:=HasR.evs h h2;refine ⟨u::us,LR.cons h3 h5,?_⟩;simp only [Fr.evs,h4,h6]
  ·cases hx
def PR (ρ:Ren) (l m:List (Nat×Value)):Prop:=m.map (·.1)=l.map (·.1)/\LR ρ (l.map (·.2)) (m.map (·.2))
theorem HasR.evP (h:HasR ρ N ds a E):∀ {xs:List (Nat×Operand)} {vs:List (Nat×Value)},a9t E xs=some vs->∃ us,PR ρ vs us/\Go.Proofs.YtejnpppejalhfacGreat.evP (a0d a) xs=some us
 |[],vs,hx=>by cases hx;exact ⟨[],⟨rfl,LR.nil⟩,rfl⟩
 |(i,x)::r,vs,hx=>by
  rw [show a9t E ((i,x)::r)=(match sEv E x,a9t E r with|some v,some vs=>some ((i,v)::vs)|_,_=>none) from rfl] at hx
  split at hx
  ·rename_i v ws h1 h2
   cases hx
   obtain ⟨u,h3,h4⟩:=h.ev h1;obtain ⟨us,⟨h5,h6⟩,h7⟩:=HasR.evP h h2;refine ⟨(i,u)::us,⟨by simp [h5],LR.cons h3 h6⟩,?_⟩;simp only [Go.Proofs.YtejnpppejalhfacGreat.evP,h4,h7]
  ·cases hx
theorem HasR.put (h:HasR ρ N ds a E) (d:Nat) {v u:Value} (hd:d < N) (hv:VR ρ v u):HasR ρ N ds (a.put (some d) u) ((d,v)::E):=by
 refine ⟨by simpa [Act.put] using h.size,by simpa [Act.put] using h.defers,fun t w ht=>?_⟩;rw [j3] at ht;have hs:=h.size;by_cases e:d=t
 ·subst e;rw [xd8 rfl] at ht
  cases ht
  exact ⟨u,hv,by simp [Act.put,hs,hd]⟩
 ·rw [xd9 e] at ht;obtain ⟨x,h1,h2⟩:=h.at_ t w ht;exact ⟨x,h1,by simp only [Act.put];rw [xb3 e];exact h2⟩
theorem a0J {α:Type} (E:List (Nat×α)) (d:Nat) (t:Nat):g8 (t5 E d) t=if d=t then none else g8 E t:=by
 induction E with
 |nil=>simp [a5e,show t5 ([]:List (Nat×α)) d=[] from rfl]
 |cons p r ih=>
  obtain ⟨k,v⟩:=p;have e:t5 ((k,v)::r) d=if k=d then t5 r d else (k,v)::t5 r d:=by
   show @Bool.rec (fun _=>List (Nat×α)) ((k,v)::t5 r d) (t5 r d) (Nat.beq k d)=_;by_cases h:k=d
   ·subst h;rw [xg9,xd8 rfl]
   ·rw [a3l h,xd9 h]
  rw [e,j3];by_cases h:k=d
  ·subst h;rw [xd8 rfl,ih];by_cases h2:k=t
   ·simp [h2]
   ·simp [h2]
  ·rw [xd9 h,j3,ih];by_cases h2:k=t
   ·subst h2;rw [xd8 rfl,xd8 rfl,xd9 (fun e=>h e.symm)]
   ·simp [h2]
theorem HasR.erase (h:HasR ρ N ds a E) (d:Nat) (u:Value):HasR ρ N ds (a.put (some d) u) (t5 E d):=by
 refine ⟨by simpa [Act.put] using h.size,by simpa [Act.put] using h.defers,fun t w ht=>?_⟩;rw [a0J] at ht;by_cases e:d=t
 ·rw [xd8 e] at ht;cases ht
 ·rw [xd9 e] at ht;obtain ⟨x,h1,h2⟩:=h.at_ t w ht;exact ⟨x,h1,by simp only [Act.put];rw [xb3 e];exact h2⟩
def OR (ρ:Ren):Option Value->Value->Prop
 |some v,u=>VR ρ v u
 |none,_=>True
theorem HasR.putE (h:HasR ρ N ds a E) (d:Option Nat) {v:Option Value} {u:Value} (hd:∀ k,d=some k->k < N) (hv:OR ρ v u):HasR ρ N ds (a.put d u) (a0x E d v):=by
 cases d with
 |none=>cases v <;> exact h
 |some k=>
  cases v with
  |none=>exact h.erase k u
  |some v=>exact h.put k (hd k rfl) hv
end
def TOk (P:Program) (T:TT):Prop:=∀ t ti,T.get t=some ti->a4v P t=some ti/\ti.okB=true
def QOk (P:Program) (q:EqT):Prop:=∀ t s,g8 q t=some s->∀ l l' b,sEqS s l l'=some b->a3s P t l l' b
section
variable {P:Program} {T:TT} {q:EqT} {ρ:Ren} {N:Nat} {ds:List Deferred} {a:Act} {E:Fr} {ty:TypeId} {pos:String} {after:Array Edge} {dst:Option Nat}
theorem TOk.tabs (hT:TOk P T):∀ (ts:List Nat),∃ Tb:Tab,TabOk P Tb/\∀ t ti,t ∈ ts->T.get t=some ti->Tb.get t=some ti
 |[]=>⟨[],TabOk.nil P,fun _ _ h=>by cases h⟩
 |t::r=>by
  obtain ⟨Tb,h1,h2⟩:=TOk.tabs hT r
  cases e:T.get t with
  |none=>
   refine ⟨Tb,h1,fun t' ti hm ht=>?_⟩;rcases xb4.1 hm with rfl|hm
   ·rw [e] at ht;cases ht
   ·exact h2 t' ti hm ht
  |some ti=>
   refine ⟨(t,ti)::Tb,TabOk.cons (hT t ti e).1 (hT t ti e).2 h1,fun t' ti' hm ht=>?_⟩;simp only [Tab.get];by_cases h:t=t'
   ·subst h;rw [e] at ht
    cases ht
    rw [xg9];rfl
   ·rw [a3l h];rcases xb4.1 hm with rfl|hm
    ·exact (h rfl).elim
    ·exact h2 t' ti' hm ht
theorem a47 (k:IntKind) (n:Int):a3B k n=k.wrap n:=by
 unfold a3B
 split
 ·rename_i m;rw [b2d]
  split
  ·rename_i h;have h:m < 9223372036854775808:=by simpa [xb1] using h
   exact (a2I (m:=Int.ofNat m) (by show (-9223372036854775808:Int)<=(m:Int);omega) (by show (m:Int)<=9223372036854775807;omega)).symm
  ·rfl
 ·rfl
theorem a8S {op:BinOp} {k k':IntKind} {m n:Int} {v:Value} {t:TypeId} (h:a7G op k k' m n=some v) (w:World):(binOp op t (.int k m) (.int k' n)).run P w=.ok v w:=by
 unfold a7G at h
 split at h
 ·obtain ⟨h1,h2⟩:=a0h h
  cases h2
  have h1:¬ n < 0:=by simpa using h1
  simp [binOp,Op.shift,h1]
 ·obtain ⟨h1,h2⟩:=a0h h
  cases h2
  have h1:¬ n < 0:=by simpa using h1
  simp [binOp,Op.shift,h1]
 ·obtain ⟨h1,h2⟩:=d6 h;clear h;obtain rfl:=a73 h1;unfold a5N at h2
  split at h2
  all_goals first
   |(cases h2;simp [binOp,Op.intArith,a47];done)
   |(cases h2;simp [binOp,Op.intCmp,bne,a3a];done)
   |(cases h2;simp [binOp,Op.intBits,a6L];done)
   |(cases h2;done)
   |skip
  all_goals
   obtain ⟨h3,h4⟩:=a0h h2
   cases h4
   have h3:¬ n=0:=by simpa using h3
   simp [binOp,Op.intDiv,h3,a47]
theorem a4L {op:BinOp} {k k':IntKind} {m n:Int} {v:Value} (h:a7G op k k' m n=some v):VR ρ v v:=by
 apply VR.cOk;unfold a7G at h
 split at h
 ·obtain ⟨_,h2⟩:=a0h h;cases h2;rfl
 ·obtain ⟨_,h2⟩:=a0h h;cases h2;rfl
 ·obtain ⟨_,h2⟩:=d6 h;clear h;unfold a5N at h2
  split at h2
  all_goals first
   |(cases h2;done)
   |(cases h2;rfl;done)
   |(obtain ⟨_,h3⟩:=a0h h2;cases h3;rfl;done)
theorem b0H {op:BinOp} {t:TypeId} {x y:Operand} {k k':IntKind} {m n:Int} (w:World):(eqGuard op t x y (.int k m) (.int k' n)).run P w=.ok () w:=by
 unfold eqGuard
 cases op <;> rfl
theorem b11 {op:BinOp} {t yt:TypeId} {x y:Operand} {k k':IntKind} {m n:Int} {v:Value} (ha:HasR ρ N ds a E) (hx:Fr.ev (a0d a) x=some (.int k m)) (hy:Fr.ev (a0d a) y=some (.int k' n)) (h:a7G op k k' m n=some v):x7 P ⟨dst,.binOp op t x y yt,ty,pos,after,none⟩ a v:=fun w=>by
 have h1:=a8S (P:=P) (t:=t) h w;have h2:=b0H (P:=P) (op:=op) (t:=t) (x:=x) (y:=y) (k:=k) (k':=k') (m:=m) (n:=n) w;simp [execOp,ha.full.ev hx,ha.full.ev hy,h1,h2,Result.andThen]
theorem a4S:∀ {s:List Nat} {l l' m:List Value} {b:Bool},sEqS s l l'=some b->LR ρ l m->m=l:=by
 intro s l l'
 induction s,l,l' using sEqS.induct with
 |case1=>intro m b _ hr;rw [LR.nil_inv hr]
 |case2 s a l b r ih=>
  intro m c h hr;obtain ⟨u,q,rfl,h1,h2⟩:=LR.inv hr;unfold sEqS at h;obtain ⟨b',hb,_⟩:=xh1.1 h;rw [VR.int h1,ih hb h2]
 |case3 s a l b r ih=>
  intro m c h hr;obtain ⟨u,q,rfl,h1,h2⟩:=LR.inv hr;unfold sEqS at h;obtain ⟨b',hb,_⟩:=xh1.1 h;rw [VR.str h1,ih hb h2]
 |case4 s a l b r ih=>
  intro m c h hr;obtain ⟨u,q,rfl,h1,h2⟩:=LR.inv hr;unfold sEqS at h;obtain ⟨b',hb,_⟩:=xh1.1 h;rw [VR.bool h1,ih hb h2]
 |case5=>intro m b h hr;simp_all [sEqS]
theorem a3x:∀ {s:List Nat} {l l' m:List Value} {b:Bool},sEqS s l l'=some b->LR ρ l' m->m=l':=by
 intro s l l'
 induction s,l,l' using sEqS.induct with
 |case1=>intro m b _ hr;rw [LR.nil_inv hr]
 |case2 s a l b r ih=>
  intro m c h hr;obtain ⟨u,q,rfl,h1,h2⟩:=LR.inv hr;unfold sEqS at h;obtain ⟨b',hb,_⟩:=xh1.1 h;rw [VR.int h1,ih hb h2]
 |case3 s a l b r ih=>
  intro m c h hr;obtain ⟨u,q,rfl,h1,h2⟩:=LR.inv hr;unfold sEqS at h;obtain ⟨b',hb,_⟩:=xh1.1 h;rw [VR.str h1,ih hb h2]
 |case4 s a l b r ih=>
  intro m c h hr;obtain ⟨u,q,rfl,h1,h2⟩:=LR.inv hr;unfold sEqS at h;obtain ⟨b',hb,_⟩:=xh1.1 h;rw [VR.bool h1,ih hb h2]
 |case5=>intro m b h hr;simp_all [sEqS]
end
end Go.Proofs.YtejnpppejalhfacGreat
