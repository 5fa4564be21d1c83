/- Texts that the proof stands on, one behind the other: Ke41, Ke42, Ke43, Ke44, Ke45, Ke46. -/
import Derived.Test.YtejnpppejalhfabGreatPRestKernels13
set_option linter.unusedVariables false
set_option linter.unusedSimpArgs false
namespace Go.Proofs.YtejnpppejalhfabGreat
set_option maxRecDepth 100000
set_option maxHeartbeats 8000000
open Go.RowKit Go.Sort
theorem a8r {w:World} {A:List Ar} {Lp:List (Sh×Value)} {va vs:Value} {en:Int} (hA:Sl nF w 4 va (A.map arC)) (hL:ShsV w Lp vs) (h0:a1n A (shs Lp) en=0) {nf ns:Nat} (hnf:nf<=64) (hns:ns<=512):Fn Tryz.prog 20 [lkA va vs en,.int .i64 (nf:Nat),.int .i64 (ns:Nat)] w (fun v w'=>∃ k':KV,v=.agg (kvC k').toArray/\k'.K=(⟨shs Lp,List.replicate nf fm0,List.replicate ns sw0,[⟨true,A,[]⟩],0⟩:Ker)/\St nF w w' (kA k')):=by
 obtain ⟨pa,ca,rfl⟩:=hA.len;obtain ⟨ph,ch,rfl⟩:=hL.sl.len;unfold lkA;obtain ⟨hc,hb1,hb2,hb3⟩:=b5U h0;refine yEn Tryz.func20 Tryz.ntmps20 (by kernel_rfl) (by kernel_rfl) rfl rfl ?_;have hS:=St.start w
 (repeat ((refine yDn (by with_reducible constructor) ?_)))
 (((with_reducible apply l8 hS);rfl;rfl;rfl);clear hS;intro g3 w' hS)
 repeat' (first|refine yDn (by with_reducible constructor) ?_|(with_reducible apply d8 hS a7);rfl;rfl;rfl;clear hS;intro g w' hS)
 have hAw:=fun w1 Γ1 (h:St nF w w1 Γ1)=>hA.now h;have hLw:=fun w1 Γ1 (h:St nF w w1 Γ1)=>hL.now h;have hlen:Lp.length<=255:=by rw [<- a0Z];exact hb2
 have hfx:∀ x ∈ Lp,x.1.fixes.length<=16:=fun x hx=>hb3 x.1 (xm5.2 ⟨x,hx,rfl⟩);have hown:=fun w1 Γ1 (h:St nF w w1 Γ1) gF gS gP (r1:Sl nF w1 4 (.slice (some ⟨gF,0,none⟩) nf nf) (List.replicate nf [.string ⟨#[]⟩,.int .i64 0,.bool false,.bool false])) (r2:Sl nF w1 2 (.slice (some ⟨gS,0,none⟩) ns ns) (List.replicate ns [.string ⟨#[]⟩,.int .i64 0])) (r3:Sl nF w1 3 (.slice (some ⟨gP,0,none⟩) 1 1) [[.bool true,.slice pa A.length ca,.slice none 0 0]])=>a8S (b5R (hAw _ _ h) (hLw _ _ h) r1 r2 r3) (b57 (va:=.slice pa A.length ca) (vs:=.slice ph Lp.length ch) (vF:=.slice (some ⟨gF,0,none⟩) nf nf) (vS:=.slice (some ⟨gS,0,none⟩) ns ns) (vP:=.slice (some ⟨gP,0,none⟩) 1 1) (nf:=nf) (ns:=ns) hb1 hlen hfx (by omega) (by omega));unfold b1B kvC at hown;refine a07 (F:=nF) (w0:=w) (X:=KV) (fun _=>[(6,.pointer (some ⟨g,0,none⟩))]) (fun k'=>.blk g (kvC k')::kA k') (fun k'=>k'.K=(⟨shs Lp,List.replicate nf fm0,List.replicate ns sw0,[⟨true,A,[]⟩],0⟩:Ker)) ?_ ?_
 ·refine a4h (fun w'=>St nF w w' [.blk g3 [.slice pa A.length ca,.slice ph Lp.length ch,.int .i64 en]]) 13 rfl hS (by kernel_rfl) ?_;intro w1 hS';clear hS;have hS:=hS';clear hS'
  ((with_reducible apply m8 (nn 0) a7);rfl;kernel_rfl;exact (fun _ _ _ h=>h);exact (hS.sub (by repeat (first|exact xl8 _|apply xm1)));rfl;rfl)
  ((with_reducible apply z7 (nn 1));rfl;kernel_rfl;exact (fun _ _ _ h=>h);exact (hS.sub (by repeat (first|exact xl8 _|apply xm1)));rfl;(intro wd hd;replace hd:St _ _ wd _:=hd;(apply Ld.sl a7;rfl;exact hd.blkC 0 rfl rfl));rfl)
  ((with_reducible apply m8 (nn 2) a7);rfl;kernel_rfl;exact (fun _ _ _ h=>h);exact (hS.sub (by repeat (first|exact xl8 _|apply xm1)));rfl;rfl)
  ((with_reducible apply m8 (nn 4) a7);rfl;kernel_rfl;exact (fun _ _ _ h=>h);exact (hS.sub (by repeat (first|exact xl8 _|apply xm1)));rfl;rfl)
  ((with_reducible apply m8 (nn 6) a7);rfl;kernel_rfl;exact (fun _ _ _ h=>h);exact (hS.sub (by repeat (first|exact xl8 _|apply xm1)));rfl;rfl)
  ((with_reducible apply z7 (nn 7));rfl;kernel_rfl;exact (fun _ _ _ h=>h);exact (hS.sub (by repeat (first|exact xl8 _|apply xm1)));rfl;(intro wd hd;replace hd:St _ _ wd _:=hd;(apply Ld.sl a7;rfl;exact hd.blkC 0 rfl rfl));rfl)
  ((with_reducible apply y6 (nn 8) a7);rfl;kernel_rfl;kernel_rfl;kernel_rfl;exact (fun _ _ _ _ h=>h);exact (hS.sub (by repeat (first|exact xl8 _|apply xm1)));rfl;rfl;exact (rfl:_=some [_,_,_]);rfl)
  refine a8V (i:=3) (j:=5) (l:=9) (by kernel_rfl) ?_ ?_ ?_
  ·refine j5 rfl (y0 hS a7 (m:=nf) rfl rfl rfl rfl rfl (by omega) (by omega) rfl) rfl ?_;rintro _ w' ⟨gF,rfl,hS'⟩;clear hS;have hS:=hS';clear hS';refine ⟨(hS.sub (by repeat (first|exact xl8 _|apply xm1))),?_⟩;refine a2x (i:=5) (j:=9) (by kernel_rfl) ?_ ?_
   ·refine j5 rfl (y0 hS a7 (m:=ns) rfl rfl rfl rfl rfl (by omega) (by omega) rfl) rfl ?_;rintro _ w' ⟨gS,rfl,hS'⟩;clear hS;have hS:=hS';clear hS';refine ⟨(hS.sub (by repeat (first|exact xl8 _|apply xm1))),?_⟩;refine l4 (i:=9) (by kernel_rfl) ?_;refine j5 rfl (o7 hS a7 rfl rfl rfl rfl rfl rfl) rfl ?_;rintro _ w' ⟨gP,rfl,hS'⟩;clear hS;have hS:=hS';clear hS';refine ⟨(hS.sub (by repeat (first|exact xl8 _|apply xm1))),?_⟩
    ((with_reducible apply y6 (nn 10) a7);rfl;kernel_rfl;kernel_rfl;kernel_rfl;exact (fun _ _ _ _ h=>h);exact (hS.sub (by repeat (first|exact xl8 _|apply xm1)));rfl;rfl;exact (rfl:_=some [_,_,_,_,_]);rfl)
    replace hS:=St.reorder [2,1,0,3,4] hS (by decide) rfl;refine l4 (i:=11) (by kernel_rfl) ?_;refine j5 rfl (s9 (first:=[]) (caps:=[]) rfl rfl (hown _ _ hS gF gS gP (hS.rowSl 0 rfl) (hS.rowSl 1 rfl) (hS.rowSl 2 rfl))) rfl ?_;rintro _ w' ⟨k',rfl,hk',h2⟩;replace hS:=hS.trans h2;clear h2 hown;replace hS:=hS.perm xm4;obtain ⟨sh',fr',sl',sps',hand',vsh',vfr',vsl',vsp'⟩:=k';unfold kA at hS;dsimp only [List.cons_append,List.nil_append] at hS;obtain ⟨q1,d1,rfl⟩:=hS.rowSlice 5 rfl;obtain ⟨q2,d2,rfl⟩:=hS.rowSlice 6 rfl;obtain ⟨q3,d3,rfl⟩:=hS.rowSlice 7 rfl;obtain ⟨q4,d4,rfl⟩:=hS.rowSlice 8 rfl;refine ⟨(hS.sub (.cons _ (.cons _ (.cons _ (.cons _ (.cons_cons _ (xj1 _))))))),?_⟩;refine l4 (i:=12) (by kernel_rfl) ?_;refine p8 (Φ:=fun _ w'=>St _ _ w' _) rfl (m7 hS a7 (i:=3) rfl rfl rfl rfl rfl (xg1 rfl) (xc7.1 rfl)) ?_;intro _ w' hS';simp only [List.set] at hS';clear hS;have hS:=hS';clear hS';refine ⟨(hS.sub (.cons _ (.cons _ (.cons _ (.cons _ (.cons_cons _ (xj1 _))))))),?_⟩;refine v8 (by kernel_rfl) ?_;exact n5 _ (by exact Fr.sub_of rfl) hk' (hS.sub (.cons _ (.cons _ (.cons _ (.cons_cons _ (.cons _ (.refl _)))))))
   ·refine j5 rfl (o7 hS a7 rfl rfl rfl rfl rfl rfl) rfl ?_;rintro _ w' ⟨gP,rfl,hS'⟩;clear hS;have hS:=hS';clear hS';refine ⟨(hS.sub (by repeat (first|exact xl8 _|apply xm1))),?_⟩;refine l4 (i:=5) (by kernel_rfl) ?_;refine j5 rfl (y0 hS a7 (m:=ns) rfl rfl rfl rfl rfl (by omega) (by omega) rfl) rfl ?_;rintro _ w' ⟨gS,rfl,hS'⟩;clear hS;have hS:=hS';clear hS';refine ⟨(hS.sub (by repeat (first|exact xl8 _|apply xm1))),?_⟩
    ((with_reducible apply y6 (nn 10) a7);rfl;kernel_rfl;kernel_rfl;kernel_rfl;exact (fun _ _ _ _ h=>h);exact (hS.sub (by repeat (first|exact xl8 _|apply xm1)));rfl;rfl;exact (rfl:_=some [_,_,_,_,_]);rfl)
    replace hS:=St.reorder [2,0,1,3,4] hS (by decide) rfl;refine l4 (i:=11) (by kernel_rfl) ?_;refine j5 rfl (s9 (first:=[]) (caps:=[]) rfl rfl (hown _ _ hS gF gS gP (hS.rowSl 0 rfl) (hS.rowSl 1 rfl) (hS.rowSl 2 rfl))) rfl ?_;rintro _ w' ⟨k',rfl,hk',h2⟩;replace hS:=hS.trans h2;clear h2 hown;replace hS:=hS.perm xm4;obtain ⟨sh',fr',sl',sps',hand',vsh',vfr',vsl',vsp'⟩:=k';unfold kA at hS;dsimp only [List.cons_append,List.nil_append] at hS;obtain ⟨q1,d1,rfl⟩:=hS.rowSlice 5 rfl;obtain ⟨q2,d2,rfl⟩:=hS.rowSlice 6 rfl;obtain ⟨q3,d3,rfl⟩:=hS.rowSlice 7 rfl;obtain ⟨q4,d4,rfl⟩:=hS.rowSlice 8 rfl;refine ⟨(hS.sub (.cons _ (.cons _ (.cons _ (.cons _ (.cons_cons _ (xj1 _))))))),?_⟩;refine l4 (i:=12) (by kernel_rfl) ?_;refine p8 (Φ:=fun _ w'=>St _ _ w' _) rfl (m7 hS a7 (i:=3) rfl rfl rfl rfl rfl (xg1 rfl) (xc7.1 rfl)) ?_;intro _ w' hS';simp only [List.set] at hS';clear hS;have hS:=hS';clear hS';refine ⟨(hS.sub (.cons _ (.cons _ (.cons _ (.cons _ (.cons_cons _ (xj1 _))))))),?_⟩;refine v8 (by kernel_rfl) ?_;exact n5 _ (by exact Fr.sub_of rfl) hk' (hS.sub (.cons _ (.cons _ (.cons _ (.cons_cons _ (.cons _ (.refl _)))))))
  ·refine j5 rfl (y0 hS a7 (m:=ns) rfl rfl rfl rfl rfl (by omega) (by omega) rfl) rfl ?_;rintro _ w' ⟨gS,rfl,hS'⟩;clear hS;have hS:=hS';clear hS';refine ⟨(hS.sub (by repeat (first|exact xl8 _|apply xm1))),?_⟩;refine a2x (i:=3) (j:=9) (by kernel_rfl) ?_ ?_
   ·refine j5 rfl (y0 hS a7 (m:=nf) rfl rfl rfl rfl rfl (by omega) (by omega) rfl) rfl ?_;rintro _ w' ⟨gF,rfl,hS'⟩;clear hS;have hS:=hS';clear hS';refine ⟨(hS.sub (by repeat (first|exact xl8 _|apply xm1))),?_⟩;refine l4 (i:=9) (by kernel_rfl) ?_;refine j5 rfl (o7 hS a7 rfl rfl rfl rfl rfl rfl) rfl ?_;rintro _ w' ⟨gP,rfl,hS'⟩;clear hS;have hS:=hS';clear hS';refine ⟨(hS.sub (by repeat (first|exact xl8 _|apply xm1))),?_⟩
    ((with_reducible apply y6 (nn 10) a7);rfl;kernel_rfl;kernel_rfl;kernel_rfl;exact (fun _ _ _ _ h=>h);exact (hS.sub (by repeat (first|exact xl8 _|apply xm1)));rfl;rfl;exact (rfl:_=some [_,_,_,_,_]);rfl)
    replace hS:=St.reorder [1,2,0,3,4] hS (by decide) rfl;refine l4 (i:=11) (by kernel_rfl) ?_;refine j5 rfl (s9 (first:=[]) (caps:=[]) rfl rfl (hown _ _ hS gF gS gP (hS.rowSl 0 rfl) (hS.rowSl 1 rfl) (hS.rowSl 2 rfl))) rfl ?_;rintro _ w' ⟨k',rfl,hk',h2⟩;replace hS:=hS.trans h2;clear h2 hown;replace hS:=hS.perm xm4;obtain ⟨sh',fr',sl',sps',hand',vsh',vfr',vsl',vsp'⟩:=k';unfold kA at hS;dsimp only [List.cons_append,List.nil_append] at hS;obtain ⟨q1,d1,rfl⟩:=hS.rowSlice 5 rfl;obtain ⟨q2,d2,rfl⟩:=hS.rowSlice 6 rfl;obtain ⟨q3,d3,rfl⟩:=hS.rowSlice 7 rfl;obtain ⟨q4,d4,rfl⟩:=hS.rowSlice 8 rfl;refine ⟨(hS.sub (.cons _ (.cons _ (.cons _ (.cons _ (.cons_cons _ (xj1 _))))))),?_⟩;refine l4 (i:=12) (by kernel_rfl) ?_;refine p8 (Φ:=fun _ w'=>St _ _ w' _) rfl (m7 hS a7 (i:=3) rfl rfl rfl rfl rfl (xg1 rfl) (xc7.1 rfl)) ?_;intro _ w' hS';simp only [List.set] at hS';clear hS;have hS:=hS';clear hS';refine ⟨(hS.sub (.cons _ (.cons _ (.cons _ (.cons _ (.cons_cons _ (xj1 _))))))),?_⟩;refine v8 (by kernel_rfl) ?_;exact n5 _ (by exact Fr.sub_of rfl) hk' (hS.sub (.cons _ (.cons _ (.cons _ (.cons_cons _ (.cons _ (.refl _)))))))
   ·refine j5 rfl (o7 hS a7 rfl rfl rfl rfl rfl rfl) rfl ?_;rintro _ w' ⟨gP,rfl,hS'⟩;clear hS;have hS:=hS';clear hS';refine ⟨(hS.sub (by repeat (first|exact xl8 _|apply xm1))),?_⟩;refine l4 (i:=3) (by kernel_rfl) ?_;refine j5 rfl (y0 hS a7 (m:=nf) rfl rfl rfl rfl rfl (by omega) (by omega) rfl) rfl ?_;rintro _ w' ⟨gF,rfl,hS'⟩;clear hS;have hS:=hS';clear hS';refine ⟨(hS.sub (by repeat (first|exact xl8 _|apply xm1))),?_⟩
    ((with_reducible apply y6 (nn 10) a7);rfl;kernel_rfl;kernel_rfl;kernel_rfl;exact (fun _ _ _ _ h=>h);exact (hS.sub (by repeat (first|exact xl8 _|apply xm1)));rfl;rfl;exact (rfl:_=some [_,_,_,_,_]);rfl)
    replace hS:=St.reorder [0,2,1,3,4] hS (by decide) rfl;refine l4 (i:=11) (by kernel_rfl) ?_;refine j5 rfl (s9 (first:=[]) (caps:=[]) rfl rfl (hown _ _ hS gF gS gP (hS.rowSl 0 rfl) (hS.rowSl 1 rfl) (hS.rowSl 2 rfl))) rfl ?_;rintro _ w' ⟨k',rfl,hk',h2⟩;replace hS:=hS.trans h2;clear h2 hown;replace hS:=hS.perm xm4;obtain ⟨sh',fr',sl',sps',hand',vsh',vfr',vsl',vsp'⟩:=k';unfold kA at hS;dsimp only [List.cons_append,List.nil_append] at hS;obtain ⟨q1,d1,rfl⟩:=hS.rowSlice 5 rfl;obtain ⟨q2,d2,rfl⟩:=hS.rowSlice 6 rfl;obtain ⟨q3,d3,rfl⟩:=hS.rowSlice 7 rfl;obtain ⟨q4,d4,rfl⟩:=hS.rowSlice 8 rfl;refine ⟨(hS.sub (.cons _ (.cons _ (.cons _ (.cons _ (.cons_cons _ (xj1 _))))))),?_⟩;refine l4 (i:=12) (by kernel_rfl) ?_;refine p8 (Φ:=fun _ w'=>St _ _ w' _) rfl (m7 hS a7 (i:=3) rfl rfl rfl rfl rfl (xg1 rfl) (xc7.1 rfl)) ?_;intro _ w' hS';simp only [List.set] at hS';clear hS;have hS:=hS';clear hS';refine ⟨(hS.sub (.cons _ (.cons _ (.cons _ (.cons _ (.cons_cons _ (xj1 _))))))),?_⟩;refine v8 (by kernel_rfl) ?_;exact n5 _ (by exact Fr.sub_of rfl) hk' (hS.sub (.cons _ (.cons _ (.cons _ (.cons_cons _ (.cons _ (.refl _)))))))
  ·refine j5 rfl (o7 hS a7 rfl rfl rfl rfl rfl rfl) rfl ?_;rintro _ w' ⟨gP,rfl,hS'⟩;clear hS;have hS:=hS';clear hS';refine ⟨(hS.sub (by repeat (first|exact xl8 _|apply xm1))),?_⟩;refine a2x (i:=3) (j:=5) (by kernel_rfl) ?_ ?_
   ·refine j5 rfl (y0 hS a7 (m:=nf) rfl rfl rfl rfl rfl (by omega) (by omega) rfl) rfl ?_;rintro _ w' ⟨gF,rfl,hS'⟩;clear hS;have hS:=hS';clear hS';refine ⟨(hS.sub (by repeat (first|exact xl8 _|apply xm1))),?_⟩;refine l4 (i:=5) (by kernel_rfl) ?_;refine j5 rfl (y0 hS a7 (m:=ns) rfl rfl rfl rfl rfl (by omega) (by omega) rfl) rfl ?_;rintro _ w' ⟨gS,rfl,hS'⟩;clear hS;have hS:=hS';clear hS';refine ⟨(hS.sub (by repeat (first|exact xl8 _|apply xm1))),?_⟩
    ((with_reducible apply y6 (nn 10) a7);rfl;kernel_rfl;kernel_rfl;kernel_rfl;exact (fun _ _ _ _ h=>h);exact (hS.sub (by repeat (first|exact xl8 _|apply xm1)));rfl;rfl;exact (rfl:_=some [_,_,_,_,_]);rfl)
    replace hS:=St.reorder [1,0,2,3,4] hS (by decide) rfl;refine l4 (i:=11) (by kernel_rfl) ?_;refine j5 rfl (s9 (first:=[]) (caps:=[]) rfl rfl (hown _ _ hS gF gS gP (hS.rowSl 0 rfl) (hS.rowSl 1 rfl) (hS.rowSl 2 rfl))) rfl ?_;rintro _ w' ⟨k',rfl,hk',h2⟩;replace hS:=hS.trans h2;clear h2 hown;replace hS:=hS.perm xm4;obtain ⟨sh',fr',sl',sps',hand',vsh',vfr',vsl',vsp'⟩:=k';unfold kA at hS;dsimp only [List.cons_append,List.nil_append] at hS;obtain ⟨q1,d1,rfl⟩:=hS.rowSlice 5 rfl;obtain ⟨q2,d2,rfl⟩:=hS.rowSlice 6 rfl;obtain ⟨q3,d3,rfl⟩:=hS.rowSlice 7 rfl;obtain ⟨q4,d4,rfl⟩:=hS.rowSlice 8 rfl;refine ⟨(hS.sub (.cons _ (.cons _ (.cons _ (.cons _ (.cons_cons _ (xj1 _))))))),?_⟩;refine l4 (i:=12) (by kernel_rfl) ?_;refine p8 (Φ:=fun _ w'=>St _ _ w' _) rfl (m7 hS a7 (i:=3) rfl rfl rfl rfl rfl (xg1 rfl) (xc7.1 rfl)) ?_;intro _ w' hS';simp only [List.set] at hS';clear hS;have hS:=hS';clear hS';refine ⟨(hS.sub (.cons _ (.cons _ (.cons _ (.cons _ (.cons_cons _ (xj1 _))))))),?_⟩;refine v8 (by kernel_rfl) ?_;exact n5 _ (by exact Fr.sub_of rfl) hk' (hS.sub (.cons _ (.cons _ (.cons _ (.cons_cons _ (.cons _ (.refl _)))))))
   ·refine j5 rfl (y0 hS a7 (m:=ns) rfl rfl rfl rfl rfl (by omega) (by omega) rfl) rfl ?_;rintro _ w' ⟨gS,rfl,hS'⟩;clear hS;have hS:=hS';clear hS';refine ⟨(hS.sub (by repeat (first|exact xl8 _|apply xm1))),?_⟩;refine l4 (i:=3) (by kernel_rfl) ?_;refine j5 rfl (y0 hS a7 (m:=nf) rfl rfl rfl rfl rfl (by omega) (by omega) rfl) rfl ?_;rintro _ w' ⟨gF,rfl,hS'⟩;clear hS;have hS:=hS';clear hS';refine ⟨(hS.sub (by repeat (first|exact xl8 _|apply xm1))),?_⟩
    ((with_reducible apply y6 (nn 10) a7);rfl;kernel_rfl;kernel_rfl;kernel_rfl;exact (fun _ _ _ _ h=>h);exact (hS.sub (by repeat (first|exact xl8 _|apply xm1)));rfl;rfl;exact (rfl:_=some [_,_,_,_,_]);rfl)
    replace hS:=St.reorder [0,1,2,3,4] hS (by decide) rfl;refine l4 (i:=11) (by kernel_rfl) ?_;refine j5 rfl (s9 (first:=[]) (caps:=[]) rfl rfl (hown _ _ hS gF gS gP (hS.rowSl 0 rfl) (hS.rowSl 1 rfl) (hS.rowSl 2 rfl))) rfl ?_;rintro _ w' ⟨k',rfl,hk',h2⟩;replace hS:=hS.trans h2;clear h2 hown;replace hS:=hS.perm xm4;obtain ⟨sh',fr',sl',sps',hand',vsh',vfr',vsl',vsp'⟩:=k';unfold kA at hS;dsimp only [List.cons_append,List.nil_append] at hS;obtain ⟨q1,d1,rfl⟩:=hS.rowSlice 5 rfl;obtain ⟨q2,d2,rfl⟩:=hS.rowSlice 6 rfl;obtain ⟨q3,d3,rfl⟩:=hS.rowSlice 7 rfl;obtain ⟨q4,d4,rfl⟩:=hS.rowSlice 8 rfl;refine ⟨(hS.sub (.cons _ (.cons _ (.cons _ (.cons _ (.cons_cons _ (xj1 _))))))),?_⟩;refine l4 (i:=12) (by kernel_rfl) ?_;refine p8 (Φ:=fun _ w'=>St _ _ w' _) rfl (m7 hS a7 (i:=3) rfl rfl rfl rfl rfl (xg1 rfl) (xc7.1 rfl)) ?_;intro _ w' hS';simp only [List.set] at hS';clear hS;have hS:=hS';clear hS';refine ⟨(hS.sub (.cons _ (.cons _ (.cons _ (.cons _ (.cons_cons _ (xj1 _))))))),?_⟩;refine v8 (by kernel_rfl) ?_;exact n5 _ (by exact Fr.sub_of rfl) hk' (hS.sub (.cons _ (.cons _ (.cons _ (.cons_cons _ (.cons _ (.refl _)))))))
 clear hS;intro k' w1 hk' hS;unfold kvC at hS
 repeat' ((refine yDn (by with_reducible constructor) ?_))
 (apply a0U;repeat (first|exact ResL.nil|apply ResL.cell;rfl;(apply Ld.st a7;rfl;exact hS.blkR 0 rfl;rfl)))
 exact ⟨k',rfl,hk',hS.drop⟩
theorem a2p {w:World} {k k':KV} (hK:KerV w k) (hK':KerV w k') (he:k.K=k'.K):Fn Tryz.prog 22 [.agg (kvC k).toArray,.agg (kvC k').toArray] w (RBf (.bool true) w):=by
 have b1:=hK.fr.bound;have b2:=hK.sl.bound;have b3:=hK.sp.bound;have b4:=hK.sh.sl.bound;obtain ⟨sh,fr,sl,sps,hand,vsh,vfr,vsl,vsp⟩:=k;obtain ⟨sh',fr',sl',sps',hand',vsh',vfr',vsl',vsp'⟩:=k';unfold KV.K at he;injection he with e1 e2 e3 e4 e5
 dsimp only at e1 e2 e3 e4 e5;subst e2 e3 e5;have hsame:=fun w1 (h:ShsV w1 sh vsh) (h':ShsV w1 sh' vsh')=>a7k h h' e1;have hl4:sps.length=sps'.length:=by have:=congrArg List.length e4;simpa using this
 obtain ⟨k1,k2,k3,k4,k5⟩:=hK;obtain ⟨m1,m2,m3,m4,m5⟩:=hK';dsimp only at b1 b2 b3 b4 k1 k2 k3 k4 k5 m1 m2 m3 m4 m5;obtain ⟨p1,c1,rfl⟩:=k1.sl.len;obtain ⟨p2,c2,rfl⟩:=k2.len;obtain ⟨p3,c3,rfl⟩:=k3.len;obtain ⟨p4,c4,rfl⟩:=k4.len;obtain ⟨q1,d1,rfl⟩:=m1.sl.len;obtain ⟨q2,d2,rfl⟩:=m2.len;obtain ⟨q3,d3,rfl⟩:=m3.len;obtain ⟨q4,d4,rfl⟩:=m4.len;unfold kvC;dsimp only;have z0:(!decide (hand=hand))=false:=by rw [xj2 rfl];rfl
 have z2:(!decide ((fr.length:Int)=fr.length))=false:=by rw [xj2 rfl];rfl
 have z3:(!decide ((sl.length:Int)=sl.length))=false:=by rw [xj2 rfl];rfl
 have z4:(!decide ((sps.length:Int)=sps'.length))=false:=by rw [xj2 (by omega)];rfl
 refine yEn Tryz.func22 Tryz.ntmps22 (by kernel_rfl) (by kernel_rfl) rfl rfl ?_;have hS:=St.start w
 repeat' (first|(with_reducible apply a8 a7);rfl;rfl;rfl|(with_reducible apply a9);rfl;(first|apply Ld.sc a7;rfl;(first|exact hS.blkC 0 rfl rfl|exact hS.blkC 1 rfl rfl)|apply Ld.sl a7;rfl;(first|exact hS.blkC 0 rfl rfl|exact hS.blkC 1 rfl rfl));rfl|refine yDn (by with_reducible constructor) ?_|((with_reducible apply k8);(iterate 4 rfl);first|rfl|assumption)|(with_reducible apply f5);rfl;(first|rfl|assumption);rfl;rfl|(with_reducible apply f8);rfl;assumption|(with_reducible apply l8 hS);rfl;rfl;rfl;clear hS;intro g w' hS|(with_reducible apply d7 hS);rfl;rfl;rfl;refine ⟨_,hsame _ (k1.now hS) (m1.now hS),?_⟩;clear hS;intro w' hS)
 refine a2j hS 5 [2,3] rfl fr.length (fun _=>True) 0 rfl (xg4 _) trivial ?_;rintro i w1 hi - hS';clear hS;have hS:=hS';clear hS';by_cases hlt:i < fr.length
 ·obtain ⟨f,hf⟩:=j0 (l:=fr) (i:=i) (by omega);have hrow:=c9 (f:=fmC) hf;obtain ⟨b,off,rfl,hro⟩:=k2.at_ (i:=i) hlt;obtain ⟨b',off',rfl,hro'⟩:=m2.at_ (i:=i) hlt;have heq:=b5p f f;rw [xj2 rfl] at heq
  repeat' (first|(with_reducible apply a8 a7);rfl;rfl;rfl|(with_reducible apply a9);rfl;(apply Ld.sl a7;rfl;exact hS.blkC 1 rfl rfl);rfl|refine yDn (by with_reducible constructor) ?_|(with_reducible apply b9);rfl;all_goals (intro hb hp;try (exfalso;omega)))
  (focus ((with_reducible apply d9 _ _ _ (by kernel_rfl) (by kernel_rfl) hS);(repeat' (first|(first|(with_reducible apply i7 a7);rfl;rfl|(with_reducible apply i9);rfl;(intro wd hd;replace hd:St _ _ wd _:=hd;(first|apply Ld.sl a7;rfl;(first|exact hd.blkC 0 rfl rfl|exact hd.blkC 1 rfl rfl)|apply Ld.st a7;rfl;exact hd.roR (by assumption) (by assumption);rfl));rfl|(with_reducible apply y8 a7);rfl;rfl;rfl;rfl;omega;rfl)|(with_reducible apply a6k);rfl;rfl;exact heq;rfl));all_goals ((with_reducible apply j7);intro w' hS';clear hS;have hS:=hS';clear hS')))
  repeat' (first|(with_reducible apply a8 a7);rfl;rfl;rfl|(with_reducible apply j4);rfl;rfl;omega;omega;rfl|refine yDn (by with_reducible constructor) ?_|(with_reducible apply f8);rfl;rfl)
  exact a0O (i + 1) (by exact Fr.sub_of rfl) (by omega) trivial (by omega) hS
 repeat' (first|(with_reducible apply a8 a7);rfl;rfl;rfl|(with_reducible apply a9);rfl;(apply Ld.sl a7;rfl;exact hS.blkC 1 rfl rfl);rfl|refine yDn (by with_reducible constructor) ?_|(with_reducible apply b9);rfl;all_goals (intro hb hp;try (exfalso;omega)))
 refine a2j hS 6 [2,3] rfl sl.length (fun _=>True) 0 rfl (xg4 _) trivial ?_;rintro i w1 hi - hS';clear hS;have hS:=hS';clear hS';by_cases hlt:i < sl.length
 ·obtain ⟨f,hf⟩:=j0 (l:=sl) (i:=i) (by omega);have hrow:=c9 (f:=swC) hf;obtain ⟨b,off,rfl,hro⟩:=k3.at_ (i:=i) hlt;obtain ⟨b',off',rfl,hro'⟩:=m3.at_ (i:=i) hlt;have heq:=b22 f f;rw [xj2 rfl] at heq
  repeat' (first|(with_reducible apply a8 a7);rfl;rfl;rfl|(with_reducible apply a9);rfl;(apply Ld.sl a7;rfl;exact hS.blkC 1 rfl rfl);rfl|refine yDn (by with_reducible constructor) ?_|(with_reducible apply b9);rfl;all_goals (intro hb hp;try (exfalso;omega)))
  (focus ((with_reducible apply d9 _ _ _ (by kernel_rfl) (by kernel_rfl) hS);(repeat' (first|(first|(with_reducible apply i7 a7);rfl;rfl|(with_reducible apply i9);rfl;(intro wd hd;replace hd:St _ _ wd _:=hd;(first|apply Ld.sl a7;rfl;(first|exact hd.blkC 0 rfl rfl|exact hd.blkC 1 rfl rfl)|apply Ld.st a7;rfl;exact hd.roR (by assumption) (by assumption);rfl));rfl|(with_reducible apply y8 a7);rfl;rfl;rfl;rfl;omega;rfl)|(with_reducible apply a6k);rfl;rfl;exact heq;rfl));all_goals ((with_reducible apply j7);intro w' hS';clear hS;have hS:=hS';clear hS')))
  repeat' (first|(with_reducible apply a8 a7);rfl;rfl;rfl|(with_reducible apply j4);rfl;rfl;omega;omega;rfl|refine yDn (by with_reducible constructor) ?_|(with_reducible apply f8);rfl;rfl)
  exact a0O (i + 1) (by exact Fr.sub_of rfl) (by omega) trivial (by omega) hS
 repeat' (first|(with_reducible apply a8 a7);rfl;rfl;rfl|(with_reducible apply a9);rfl;(apply Ld.sl a7;rfl;exact hS.blkC 1 rfl rfl);rfl|refine yDn (by with_reducible constructor) ?_|(with_reducible apply b9);rfl;all_goals (intro hb hp;try (exfalso;omega)))
 refine a2j hS 7 [2,3] rfl sps.length (fun _=>True) 0 rfl (xg4 _) trivial ?_;rintro i w1 hi - hS';clear hS;have hS:=hS';clear hS';by_cases hlt:i < sps.length;rotate_left
 ·repeat' (first|(with_reducible apply a8 a7);rfl;rfl;rfl|(with_reducible apply a9);rfl;(apply Ld.sl a7;rfl;exact hS.blkC 1 rfl rfl);rfl|refine yDn (by with_reducible constructor) ?_|(with_reducible apply b9);rfl;all_goals (intro hb hp;try (exfalso;omega)))
  (refine k7 rfl ?_)
  exact ⟨rfl,hS.sub (xj1 _)⟩
 obtain ⟨x,hx⟩:=j0 (l:=sps) (i:=i) (by omega);obtain ⟨y,hy⟩:=j0 (l:=sps') (i:=i) (by omega);have hxy:x.s=y.s:=by
  have h1:(sps.map (·.s))[i]?=some x.s:=c9 (f:=fun p:Sp=>p.s) hx;have h2:(sps'.map (·.s))[i]?=some y.s:=c9 (f:=fun p:Sp=>p.s) hy;rw [e4,h2] at h1;exact (Option.some.inj h1).symm
 have hrow:=c9 (f:=spC) hx;have hrow':=c9 (f:=spC) hy;obtain ⟨b,off,rfl,hro⟩:=k4.at_ (i:=i) hlt;obtain ⟨b',off',rfl,hro'⟩:=m4.at_ (i:=i) (by omega);have hxv:=k5 x (xd0 hx);have hyv:=m5 y (xd0 hy);have ha:=hxv.ar;have hen:=hxv.en;have ha':=hyv.ar;have hen':=hyv.en;obtain ⟨s,va,ve⟩:=x;obtain ⟨s',va',ve'⟩:=y;dsimp only at hxy ha hen ha' hen';subst hxy;have be:=hen.bound;obtain ⟨pa,ca,rfl⟩:=ha.len;obtain ⟨pe,ce,rfl⟩:=hen.len;obtain ⟨pa',ca',rfl⟩:=ha'.len;obtain ⟨pe',ce',rfl⟩:=hen'.len;unfold spC at hrow hrow';dsimp only at hrow hrow';have hsa:=fun w1 (h:Sl nF w1 4 (.slice pa s.areas.length ca) (s.areas.map arC)) (h':Sl nF w1 4 (.slice pa' s.areas.length ca') (s.areas.map arC))=>b4Y h h';rw [xj2 rfl] at hsa;have z5:(!decide ((s.entries.length:Int)=s.entries.length))=false:=by rw [xj2 rfl];rfl
 have z6:(!decide (s.live=s.live))=false:=by rw [xj2 rfl];rfl
 repeat' (first|(with_reducible apply a8 a7);rfl;rfl;rfl|(with_reducible apply a9);rfl;(apply Ld.sl a7;rfl;exact hS.blkC 1 rfl rfl);rfl|refine yDn (by with_reducible constructor) ?_|(with_reducible apply b9);rfl;all_goals (intro hb hp;try (exfalso;omega)))
 refine a8A 14 rfl hS (by kernel_rfl) ?_;intro wh hh;clear hS;have hS:=hh;clear hh
 ((with_reducible apply m8 (nn 0) a7);rfl;kernel_rfl;exact (fun _ _ _ h=>h);exact hS;rfl;rfl)
 ((with_reducible apply z7 (nn 1));rfl;kernel_rfl;exact (fun _ _ _ h=>h);exact hS;rfl;(intro wd hd;replace hd:St _ _ wd _:=hd;(apply Ld.sl a7;rfl;exact hd.blkC 1 rfl rfl));rfl)
 ((with_reducible apply m8 (nn 2) a7);rfl;kernel_rfl;exact (fun _ _ _ h=>h);exact hS;rfl;rfl)
 ((with_reducible apply b6s (nn 3) a7);rfl;kernel_rfl;kernel_rfl;kernel_rfl;exact (fun _ _ _ _ h=>h);exact hS;rfl;rfl;rfl;rfl;omega;rfl)
 ((with_reducible apply z7 (nn 4));rfl;kernel_rfl;exact (fun _ _ _ h=>h);exact hS;rfl;(intro wd hd;replace hd:St _ _ wd _:=hd;(apply Ld.st a7;rfl;exact hd.roR (by assumption) (by assumption);rfl));rfl)
 ((with_reducible apply m8 (nn 5) a7);rfl;kernel_rfl;exact (fun _ _ _ h=>h);exact hS;rfl;rfl)
 ((with_reducible apply z7 (nn 6));rfl;kernel_rfl;exact (fun _ _ _ h=>h);exact hS;rfl;(intro wd hd;replace hd:St _ _ wd _:=hd;(apply Ld.sl a7;rfl;exact hd.blkC 0 rfl rfl));rfl)
 ((with_reducible apply m8 (nn 7) a7);rfl;kernel_rfl;exact (fun _ _ _ h=>h);exact hS;rfl;rfl)
 ((with_reducible apply b6s (nn 8) a7);rfl;kernel_rfl;kernel_rfl;kernel_rfl;exact (fun _ _ _ _ h=>h);exact hS;rfl;rfl;rfl;rfl;omega;rfl)
 ((with_reducible apply z7 (nn 9));rfl;kernel_rfl;exact (fun _ _ _ h=>h);exact hS;rfl;(intro wd hd;replace hd:St _ _ wd _:=hd;(apply Ld.st a7;rfl;exact hd.roR (by assumption) (by assumption);rfl));rfl)
 refine a2x (i:=10) (j:=11) (by kernel_rfl) ?_ ?_
 ·refine j5 rfl (v9 hS a7 rfl rfl) rfl ?_;rintro _ w' ⟨g,rfl,hS'⟩;clear hS;have hS:=hS';clear hS';refine ⟨hS.drop,?_⟩;refine l4 (i:=11) (by kernel_rfl) ?_;refine j5 rfl (v9 hS a7 rfl rfl) rfl ?_;rintro _ w' ⟨g,rfl,hS'⟩;clear hS;have hS:=hS';clear hS';refine ⟨hS.drop.drop,?_⟩;refine l4 (i:=12) (by kernel_rfl) ?_;refine p8 (Φ:=fun _ w'=>St _ _ w' _) rfl (m7 hS a7 (i:=1) rfl rfl rfl rfl rfl (xg1 rfl) (xc7.1 rfl)) ?_;intro _ w' hS';simp only [List.set] at hS';clear hS;have hS:=hS';clear hS';refine ⟨hS.drop.drop,?_⟩;refine l4 (i:=13) (by kernel_rfl) ?_;refine p8 (Φ:=fun _ w'=>St _ _ w' _) rfl (m7 hS a7 (i:=0) rfl rfl rfl rfl rfl (xg1 rfl) (xc7.1 rfl)) ?_;intro _ w' hS';simp only [List.set] at hS';clear hS;have hS:=hS';clear hS';refine ⟨hS.drop.drop,?_⟩;refine v8 (by kernel_rfl) ?_
  repeat' (first|(with_reducible apply a8 a7);rfl;rfl;rfl|(with_reducible apply a9);rfl;(first|apply Ld.sc a7;rfl;(first|exact hS.blkC 0 rfl rfl|exact hS.blkC 1 rfl rfl)|apply Ld.sl a7;rfl;(first|exact hS.blkC 0 rfl rfl|exact hS.blkC 1 rfl rfl));rfl|(with_reducible apply b5T a7);(iterate 4 rfl)|refine yDn (by with_reducible constructor) ?_|((with_reducible apply k8);(iterate 4 rfl);first|rfl|assumption)|(with_reducible apply f5);rfl;(first|rfl|assumption);rfl;rfl|(with_reducible apply f8);rfl;assumption|(with_reducible apply d7 hS);rfl;rfl;rfl;refine ⟨_,hsa _ (ha.now hS) (ha'.now hS),?_⟩;clear hS;intro w' hS)
  refine a2j hS 10 [2,3,7,8,9] rfl s.entries.length (fun _=>True) 0 rfl (xg4 _) trivial ?_;rintro j w3 hj - hS';clear hS;have hS:=hS';clear hS';by_cases hjl:j < s.entries.length
  ·obtain ⟨e,he⟩:=j0 (l:=s.entries) (i:=j) (by omega);have hrow2:=c9 (f:=enC) he;obtain ⟨b2,off2,rfl,hro2⟩:=hen.at_ (i:=j) hjl;obtain ⟨b3,off3,rfl,hro3⟩:=hen'.at_ (i:=j) hjl;have heq:=b7F e e;rw [xj2 rfl] at heq
   repeat' (first|(with_reducible apply a8 a7);rfl;rfl;rfl|(with_reducible apply a9);rfl;(apply Ld.sl a7;rfl;exact hS.blkC 1 rfl rfl);rfl|refine yDn (by with_reducible constructor) ?_|(with_reducible apply b9);rfl;all_goals (intro hb hp;try (exfalso;omega)))
   (focus ((with_reducible apply d9 _ _ _ (by kernel_rfl) (by kernel_rfl) hS);(repeat' (first|(first|(with_reducible apply i7 a7);rfl;rfl|(with_reducible apply i9);rfl;(intro wd hd;replace hd:St _ _ wd _:=hd;(first|apply Ld.sl a7;rfl;(first|exact hd.blkC 0 rfl rfl|exact hd.blkC 1 rfl rfl)|apply Ld.st a7;rfl;exact hd.roR (by assumption) (by assumption);rfl));rfl|(with_reducible apply y8 a7);rfl;rfl;rfl;rfl;omega;rfl)|(with_reducible apply a6k);rfl;rfl;exact heq;rfl));all_goals ((with_reducible apply j7);intro w' hS';clear hS;have hS:=hS';clear hS')))
   repeat' (first|(with_reducible apply a8 a7);rfl;rfl;rfl|(with_reducible apply j4);rfl;rfl;omega;omega;rfl|refine yDn (by with_reducible constructor) ?_|(with_reducible apply f8);rfl;rfl)
   exact a0O (j + 1) (by exact Fr.sub_of rfl) (by omega) trivial (by omega) hS
  ·repeat' (first|(with_reducible apply a8 a7);rfl;rfl;rfl|(with_reducible apply a9);rfl;(apply Ld.sl a7;rfl;exact hS.blkC 1 rfl rfl);rfl|(with_reducible apply j4);rfl;rfl;omega;omega;rfl|refine yDn (by with_reducible constructor) ?_|(with_reducible apply b9);rfl;all_goals (intro hb hp;try (exfalso;omega)))
   exact a0O (i + 1) (by exact Fr.sub_of rfl) (by omega) trivial (by omega) hS.drop.drop
 ·refine j5 rfl (v9 hS a7 rfl rfl) rfl ?_;rintro _ w' ⟨g,rfl,hS'⟩;clear hS;have hS:=hS';clear hS';refine ⟨hS.drop,?_⟩;refine l4 (i:=10) (by kernel_rfl) ?_;refine j5 rfl (v9 hS a7 rfl rfl) rfl ?_;rintro _ w' ⟨g,rfl,hS'⟩;clear hS;have hS:=hS';clear hS';refine ⟨hS.drop.drop,?_⟩;refine l4 (i:=12) (by kernel_rfl) ?_;refine p8 (Φ:=fun _ w'=>St _ _ w' _) rfl (m7 hS a7 (i:=0) rfl rfl rfl rfl rfl (xg1 rfl) (xc7.1 rfl)) ?_;intro _ w' hS';simp only [List.set] at hS';clear hS;have hS:=hS';clear hS';refine ⟨hS.drop.drop,?_⟩;refine l4 (i:=13) (by kernel_rfl) ?_;refine p8 (Φ:=fun _ w'=>St _ _ w' _) rfl (m7 hS a7 (i:=1) rfl rfl rfl rfl rfl (xg1 rfl) (xc7.1 rfl)) ?_;intro _ w' hS';simp only [List.set] at hS';clear hS;have hS:=hS';clear hS';refine ⟨hS.drop.drop,?_⟩;refine v8 (by kernel_rfl) ?_
  repeat' (first|(with_reducible apply a8 a7);rfl;rfl;rfl|(with_reducible apply a9);rfl;(first|apply Ld.sc a7;rfl;(first|exact hS.blkC 0 rfl rfl|exact hS.blkC 1 rfl rfl)|apply Ld.sl a7;rfl;(first|exact hS.blkC 0 rfl rfl|exact hS.blkC 1 rfl rfl));rfl|(with_reducible apply b5T a7);(iterate 4 rfl)|refine yDn (by with_reducible constructor) ?_|((with_reducible apply k8);(iterate 4 rfl);first|rfl|assumption)|(with_reducible apply f5);rfl;(first|rfl|assumption);rfl;rfl|(with_reducible apply f8);rfl;assumption|(with_reducible apply d7 hS);rfl;rfl;rfl;refine ⟨_,hsa _ (ha.now hS) (ha'.now hS),?_⟩;clear hS;intro w' hS)
  refine a2j hS 10 [2,3,7,8,9] rfl s.entries.length (fun _=>True) 0 rfl (xg4 _) trivial ?_;rintro j w3 hj - hS';clear hS;have hS:=hS';clear hS';by_cases hjl:j < s.entries.length
  ·obtain ⟨e,he⟩:=j0 (l:=s.entries) (i:=j) (by omega);have hrow2:=c9 (f:=enC) he;obtain ⟨b2,off2,rfl,hro2⟩:=hen.at_ (i:=j) hjl;obtain ⟨b3,off3,rfl,hro3⟩:=hen'.at_ (i:=j) hjl;have heq:=b7F e e;rw [xj2 rfl] at heq
   repeat' (first|(with_reducible apply a8 a7);rfl;rfl;rfl|(with_reducible apply a9);rfl;(apply Ld.sl a7;rfl;exact hS.blkC 0 rfl rfl);rfl|refine yDn (by with_reducible constructor) ?_|(with_reducible apply b9);rfl;all_goals (intro hb hp;try (exfalso;omega)))
   (focus ((with_reducible apply d9 _ _ _ (by kernel_rfl) (by kernel_rfl) hS);(repeat' (first|(first|(with_reducible apply i7 a7);rfl;rfl|(with_reducible apply i9);rfl;(intro wd hd;replace hd:St _ _ wd _:=hd;(first|apply Ld.sl a7;rfl;(first|exact hd.blkC 0 rfl rfl|exact hd.blkC 1 rfl rfl)|apply Ld.st a7;rfl;exact hd.roR (by assumption) (by assumption);rfl));rfl|(with_reducible apply y8 a7);rfl;rfl;rfl;rfl;omega;rfl)|(with_reducible apply a6k);rfl;rfl;exact heq;rfl));all_goals ((with_reducible apply j7);intro w' hS';clear hS;have hS:=hS';clear hS')))
   repeat' (first|(with_reducible apply a8 a7);rfl;rfl;rfl|(with_reducible apply j4);rfl;rfl;omega;omega;rfl|refine yDn (by with_reducible constructor) ?_|(with_reducible apply f8);rfl;rfl)
   exact a0O (j + 1) (by exact Fr.sub_of rfl) (by omega) trivial (by omega) hS
  ·repeat' (first|(with_reducible apply a8 a7);rfl;rfl;rfl|(with_reducible apply a9);rfl;(apply Ld.sl a7;rfl;exact hS.blkC 0 rfl rfl);rfl|(with_reducible apply j4);rfl;rfl;omega;omega;rfl|refine yDn (by with_reducible constructor) ?_|(with_reducible apply b9);rfl;all_goals (intro hb hp;try (exfalso;omega)))
   exact a0O (i + 1) (by exact Fr.sub_of rfl) (by omega) trivial (by omega) hS.drop.drop
theorem Came.keep {w w':World} {k:KV} (h:Came w w' k):∃ Δ,St nF w w' Δ/\∀ {F:Nat->Prop} {w0 w2:World} {Γ:List Asr},St F w0 w2 Γ->(∀ A ∈ Δ,A ∈ Γ)->KerV w2 k:=by
 rcases h with ⟨rfl,h⟩|h
 ·exact ⟨[],h,fun _ _=>b58 _⟩
 ·refine ⟨a37 k,h,fun {F w0 w2 Γ} hS hm=>?_⟩;have hmem:∀ {e sz:Nat} {v:Value} {rows:List (List Value)},Asr.row e sz v rows ∈ a37 k->Sl nF w2 sz v rows:=fun h=>hS.slMem (hm _ h);have hr:∀ {A},A ∈ a0H k->A ∈ a37 k:=fun h=>xc6 _ (xc6 _ (xc6 _ (xe6 _ h)));refine ⟨⟨hmem (e:=94) (hr xc5),fun p hp=>?_⟩,hmem (e:=89) xc5,hmem (e:=143) (xc6 _ xc5),hmem (e:=75) (xc6 _ (xc6 _ xc5)),fun p hp=>⟨?_,?_⟩⟩
  ·exact hmem (e:=96) (hr (xc6 _ (xe5 _ (xm5.2 ⟨p,hp,rfl⟩))))
  ·exact hmem (e:=81) (hr (xc6 _ (xe6 _ (xm5.2 ⟨p,hp,rfl⟩))))
  ·exact hmem (e:=91) (xc6 _ (xc6 _ (xc6 _ (xe5 _ (xm5.2 ⟨p,hp,rfl⟩)))))
def rkS (g:Nat) (k:KV):List Asr:=.blk g (kvC k)::frA k::slA k::a04 k::k.sp.map a0c
theorem KerV.rk {F:Nat->Prop} {w0 w:World} {Γ:List Asr} {g:Nat} {k:KV} (hS:St F w0 w (rkS g k++Γ)) (hR:KRo F w0 k):KerV w k:=by
 refine ⟨hR.sh.now hS,hS.rowSl 1 rfl,hS.rowSl 2 rfl,hS.rowSl 3 rfl,fun p hp=>⟨(hR.ar p hp).now hS,?_⟩⟩;refine hS.slMem (e:=91) (xe5 _ ?_);unfold rkS;exact xc6 _ (xc6 _ (xc6 _ (xc6 _ (xm5.2 ⟨p,hp,rfl⟩))))
theorem a8g {F:Nat->Prop} {w0 w:World} {Γ:List Asr} {g:Nat} {k:KV} (hS0:St F w0 w (rkS g k++Γ)) {e:En} (he:EntOk k e):Fn Tryz.prog 134 [.pointer (some ⟨g,0,none⟩),.agg (enC e).toArray] w (fun v w'=>v=.tuple #[]/\St (fps (rkS g k)) w w' (rkS g (a2e k e))):=by
 have hS:=St.startM hS0;obtain ⟨hn,hfr,hsl⟩:=he;generalize fps (rkS g k)=G at hS |-;obtain ⟨sh,fr,sl,sps,hand,vsh,vfr,vsl,vsp⟩:=k;dsimp only at hn hfr hsl;unfold rkS kvC frA slA a04 at hS;dsimp only [List.cons_append,List.nil_append] at hS;unfold enC;rcases hn with ⟨hk,i,hi,hil⟩|⟨hk,i,hi,hil⟩
 ·have hlv:a2e ⟨sh,fr,sl,sps,hand,vsh,vfr,vsl,vsp⟩ e=⟨sh,fr.set i (a3n (m6 fr i)),sl,sps,hand,vsh,vfr,vsl,vsp⟩:=by unfold a2e;rw [xf0 hk,hi];rfl
  rw [hlv];obtain ⟨f,hf⟩:=j0 (l:=fr) (i:=i) (by omega);have hrf:=hfr f (xd0 hf);rw [p9 hf];have hrow:=c9 (f:=fmC) hf;obtain ⟨pf,cf,rfl⟩:=hS.rowSlice 1 rfl;rw [xi9] at hS;obtain ⟨gf,rfl⟩:=hS.rowSome 1 rfl (by omega);have hd:decide (e.kind=1)=true:=xj2 hk;obtain ⟨epg,ekd,eat⟩:=e;dsimp only at hd hi hk hlv |-;subst hi;unfold fmC at hrow;unfold a3n;have e1:(fr.map fmC).set i (o6 [.string ⟨f.data.toArray⟩,.int .i64 f.refs,.bool f.dirty,.bool f.seen] 1 [.int .i64 (f.refs - 1)])=(fr.set i ⟨f.data,f.refs - 1,f.dirty,f.seen⟩).map fmC:=by rw [xl1];rfl
  have hrow1:((fr.set i ⟨f.data,f.refs - 1,f.dirty,f.seen⟩).map fmC)[i]?=some [.string ⟨f.data.toArray⟩,.int .i64 (f.refs - 1),.bool f.dirty,.bool f.seen]:=c9 (f:=fmC) (a2f (x:=(⟨f.data,f.refs - 1,f.dirty,f.seen⟩:Fm)) hil);by_cases h0:f.refs - 1=0
  ·have hd0:decide (f.refs - 1=0)=true:=xj2 h0;rw [xf0 h0];have e2:((fr.set i ⟨f.data,f.refs - 1,f.dirty,f.seen⟩).map fmC).set i (o6 [.string ⟨f.data.toArray⟩,.int .i64 (f.refs - 1),.bool f.dirty,.bool f.seen] 0 [.string ⟨#[]⟩,.int .i64 0,.bool false,.bool false])=(fr.set i fm0).map fmC:=by
    rw [xl1,xl1,xm6];rfl
   refine yEn Tryz.func134 Tryz.ntmps134 (by kernel_rfl) (by kernel_rfl) rfl rfl ?_
   repeat' (first|(with_reducible apply a8 a7);rfl;rfl;rfl|(with_reducible apply a9);rfl;(apply Ld.sc a7;rfl;exact hS.blkC 0 rfl rfl);rfl|refine yDn (by with_reducible constructor) ?_|(with_reducible apply f6);rfl;assumption|(with_reducible apply l8 hS);rfl;rfl;rfl;clear hS;intro g w' hS)
   (focus ((with_reducible apply a0p _ _ _ 12 (by kernel_rfl) (by kernel_rfl) hS);(simp only [xl2,xl3,xl6,xl7]);(repeat' ((first|(with_reducible apply a1C);rfl;rfl;omega;omega;rfl|(with_reducible apply i7 a7);rfl;rfl|(with_reducible apply i9);rfl;(intro wd hd;replace hd:St _ _ wd _:=hd;(first|apply Ld.sc a7;rfl;(first|exact hd.blkC 0 rfl rfl|exact hd.rowCj 2 rfl (by assumption) rfl)|apply Ld.sl a7;rfl;exact hd.blkC 1 rfl rfl));rfl|(with_reducible apply y8 a7);rfl;rfl;rfl;rfl;omega;rfl)));all_goals ((with_reducible apply j7);intro w' hS';clear hS;have hS:=hS';clear hS')))
   repeat' (first|refine yDn (by with_reducible constructor) ?_|(with_reducible apply t5 hS a7 (i:=2));(iterate 4 rfl);assumption;(iterate 5 rfl);intro w' hS';simp only [List.set] at hS';clear hS;have hS:=hS';clear hS')
   rw [e1] at hS
   (focus ((with_reducible apply d9 _ _ _ (by kernel_rfl) (by kernel_rfl) hS);(repeat' ((first|(with_reducible apply i7 a7);rfl;rfl|(with_reducible apply i9);rfl;(intro wd hd;replace hd:St _ _ wd _:=hd;(first|apply Ld.sc a7;rfl;(first|exact hd.blkC 0 rfl rfl|exact hd.rowCj 2 rfl (by assumption) rfl)|apply Ld.sl a7;rfl;exact hd.blkC 1 rfl rfl));rfl|(with_reducible apply y8 a7);rfl;rfl;rfl;rfl;omega;rfl)));all_goals ((with_reducible apply j7);intro w' hS';clear hS;have hS:=hS';clear hS')))
   repeat' (first|refine yDn (by with_reducible constructor) ?_|(with_reducible apply f6);rfl;assumption)
   (focus ((with_reducible apply a0p _ _ _ 8 (by kernel_rfl) (by kernel_rfl) hS);(simp only [xl2,xl3,xl6,xl7]);(repeat' ((first|(with_reducible apply i7 a7);rfl;rfl|(with_reducible apply i9);rfl;(intro wd hd;replace hd:St _ _ wd _:=hd;(first|apply Ld.sc a7;rfl;exact hd.blkC 0 rfl rfl|apply Ld.sl a7;rfl;exact hd.blkC 1 rfl rfl));rfl|(with_reducible apply y8 a7);rfl;rfl;rfl;rfl;omega;rfl|(with_reducible apply a1Z a7);rfl;rfl;exact (rfl:_=some [_,_,_,_]);rfl)));all_goals ((with_reducible apply j7);intro w' hS';clear hS;have hS:=hS';clear hS')))
   repeat' (first|refine yDn (by with_reducible constructor) ?_|(with_reducible apply o5 hS a7 (i:=2));(iterate 4 rfl);assumption;(iterate 5 rfl);intro w' hS';simp only [List.set] at hS';clear hS;have hS:=hS';clear hS')
   rw [e2] at hS
   (refine b2M rfl ?_)
   exact ⟨rfl,by rw [xi9];exact hS.drop⟩
  ·have hd0:decide (f.refs - 1=0)=false:=xj0 h0;rw [xf1 h0];refine yEn Tryz.func134 Tryz.ntmps134 (by kernel_rfl) (by kernel_rfl) rfl rfl ?_
   repeat' (first|(with_reducible apply a8 a7);rfl;rfl;rfl|(with_reducible apply a9);rfl;(apply Ld.sc a7;rfl;exact hS.blkC 0 rfl rfl);rfl|refine yDn (by with_reducible constructor) ?_|(with_reducible apply f6);rfl;assumption|(with_reducible apply l8 hS);rfl;rfl;rfl;clear hS;intro g w' hS)
   (focus ((with_reducible apply a0p _ _ _ 12 (by kernel_rfl) (by kernel_rfl) hS);(simp only [xl2,xl3,xl6,xl7]);(repeat' ((first|(with_reducible apply a1C);rfl;rfl;omega;omega;rfl|(with_reducible apply i7 a7);rfl;rfl|(with_reducible apply i9);rfl;(intro wd hd;replace hd:St _ _ wd _:=hd;(first|apply Ld.sc a7;rfl;(first|exact hd.blkC 0 rfl rfl|exact hd.rowCj 2 rfl (by assumption) rfl)|apply Ld.sl a7;rfl;exact hd.blkC 1 rfl rfl));rfl|(with_reducible apply y8 a7);rfl;rfl;rfl;rfl;omega;rfl)));all_goals ((with_reducible apply j7);intro w' hS';clear hS;have hS:=hS';clear hS')))
   repeat' (first|refine yDn (by with_reducible constructor) ?_|(with_reducible apply t5 hS a7 (i:=2));(iterate 4 rfl);assumption;(iterate 5 rfl);intro w' hS';simp only [List.set] at hS';clear hS;have hS:=hS';clear hS')
   rw [e1] at hS
   (focus ((with_reducible apply d9 _ _ _ (by kernel_rfl) (by kernel_rfl) hS);(repeat' ((first|(with_reducible apply i7 a7);rfl;rfl|(with_reducible apply i9);rfl;(intro wd hd;replace hd:St _ _ wd _:=hd;(first|apply Ld.sc a7;rfl;(first|exact hd.blkC 0 rfl rfl|exact hd.rowCj 2 rfl (by assumption) rfl)|apply Ld.sl a7;rfl;exact hd.blkC 1 rfl rfl));rfl|(with_reducible apply y8 a7);rfl;rfl;rfl;rfl;omega;rfl)));all_goals ((with_reducible apply j7);intro w' hS';clear hS;have hS:=hS';clear hS')))
   repeat' (first|refine yDn (by with_reducible constructor) ?_|(with_reducible apply f8);rfl;assumption)
   (refine b2M rfl ?_)
   exact ⟨rfl,by rw [xi9];exact hS.drop⟩
 ·have hlv:a2e ⟨sh,fr,sl,sps,hand,vsh,vfr,vsl,vsp⟩ e=⟨sh,fr,sl.set i (a3m (a0J sl i)),sps,hand,vsh,vfr,vsl,vsp⟩:=by unfold a2e;rw [xf1 hk,hi];rfl
  rw [hlv];obtain ⟨f,hf⟩:=j0 (l:=sl) (i:=i) (by omega);have hrf:=hsl f (xd0 hf);rw [a1J hf];have hrow:=c9 (f:=swC) hf;obtain ⟨pf,cf,rfl⟩:=hS.rowSlice 2 rfl;rw [xi9] at hS;obtain ⟨gf,rfl⟩:=hS.rowSome 2 rfl (by omega);have hd:decide (e.kind=1)=false:=xj0 hk;obtain ⟨epg,ekd,eat⟩:=e;dsimp only at hd hi hk hlv |-;subst hi;unfold swC at hrow;unfold a3m;have e1:(sl.map swC).set i (o6 [.string ⟨f.data.toArray⟩,.int .i64 f.refs] 1 [.int .i64 (f.refs - 1)])=(sl.set i ⟨f.data,f.refs - 1⟩).map swC:=by rw [xl1];rfl
  have hrow1:((sl.set i ⟨f.data,f.refs - 1⟩).map swC)[i]?=some [.string ⟨f.data.toArray⟩,.int .i64 (f.refs - 1)]:=c9 (f:=swC) (a2f (x:=(⟨f.data,f.refs - 1⟩:Sw)) hil);by_cases h0:f.refs - 1=0
  ·have hd0:decide (f.refs - 1=0)=true:=xj2 h0;rw [xf0 h0];have e2:((sl.set i ⟨f.data,f.refs - 1⟩).map swC).set i (o6 [.string ⟨f.data.toArray⟩,.int .i64 (f.refs - 1)] 0 [.string ⟨#[]⟩,.int .i64 0])=(sl.set i sw0).map swC:=by
    rw [xl1,xl1,xm6];rfl
   refine yEn Tryz.func134 Tryz.ntmps134 (by kernel_rfl) (by kernel_rfl) rfl rfl ?_
   repeat' (first|(with_reducible apply a8 a7);rfl;rfl;rfl|(with_reducible apply a9);rfl;(apply Ld.sc a7;rfl;exact hS.blkC 0 rfl rfl);rfl|refine yDn (by with_reducible constructor) ?_|(with_reducible apply f8);rfl;assumption|(with_reducible apply l8 hS);rfl;rfl;rfl;clear hS;intro g w' hS)
   (focus ((with_reducible apply a0p _ _ _ 12 (by kernel_rfl) (by kernel_rfl) hS);(simp only [xl2,xl3,xl6,xl7]);(repeat' ((first|(with_reducible apply a1C);rfl;rfl;omega;omega;rfl|(with_reducible apply i7 a7);rfl;rfl|(with_reducible apply i9);rfl;(intro wd hd;replace hd:St _ _ wd _:=hd;(first|apply Ld.sc a7;rfl;(first|exact hd.blkC 0 rfl rfl|exact hd.rowCj 3 rfl (by assumption) rfl)|apply Ld.sl a7;rfl;exact hd.blkC 1 rfl rfl));rfl|(with_reducible apply y8 a7);rfl;rfl;rfl;rfl;omega;rfl)));all_goals ((with_reducible apply j7);intro w' hS';clear hS;have hS:=hS';clear hS')))
   repeat' (first|refine yDn (by with_reducible constructor) ?_|(with_reducible apply t5 hS a7 (i:=3));(iterate 4 rfl);assumption;(iterate 5 rfl);intro w' hS';simp only [List.set] at hS';clear hS;have hS:=hS';clear hS')
   rw [e1] at hS
   (focus ((with_reducible apply d9 _ _ _ (by kernel_rfl) (by kernel_rfl) hS);(repeat' ((first|(with_reducible apply i7 a7);rfl;rfl|(with_reducible apply i9);rfl;(intro wd hd;replace hd:St _ _ wd _:=hd;(first|apply Ld.sc a7;rfl;(first|exact hd.blkC 0 rfl rfl|exact hd.rowCj 3 rfl (by assumption) rfl)|apply Ld.sl a7;rfl;exact hd.blkC 1 rfl rfl));rfl|(with_reducible apply y8 a7);rfl;rfl;rfl;rfl;omega;rfl)));all_goals ((with_reducible apply j7);intro w' hS';clear hS;have hS:=hS';clear hS')))
   repeat' (first|refine yDn (by with_reducible constructor) ?_|(with_reducible apply f6);rfl;assumption)
   (focus ((with_reducible apply a0p _ _ _ 8 (by kernel_rfl) (by kernel_rfl) hS);(simp only [xl2,xl3,xl6,xl7]);(repeat' ((first|(with_reducible apply i7 a7);rfl;rfl|(with_reducible apply i9);rfl;(intro wd hd;replace hd:St _ _ wd _:=hd;(first|apply Ld.sc a7;rfl;exact hd.blkC 0 rfl rfl|apply Ld.sl a7;rfl;exact hd.blkC 1 rfl rfl));rfl|(with_reducible apply y8 a7);rfl;rfl;rfl;rfl;omega;rfl|(with_reducible apply a1Z a7);rfl;rfl;exact (rfl:_=some [_,_]);rfl)));all_goals ((with_reducible apply j7);intro w' hS';clear hS;have hS:=hS';clear hS')))
   repeat' (first|refine yDn (by with_reducible constructor) ?_|(with_reducible apply o5 hS a7 (i:=3));(iterate 4 rfl);assumption;(iterate 5 rfl);intro w' hS';simp only [List.set] at hS';clear hS;have hS:=hS';clear hS')
   rw [e2] at hS
   (refine a7m rfl ?_)
   exact ⟨rfl,by rw [xi9];exact hS.drop⟩
  ·have hd0:decide (f.refs - 1=0)=false:=xj0 h0;rw [xf1 h0];refine yEn Tryz.func134 Tryz.ntmps134 (by kernel_rfl) (by kernel_rfl) rfl rfl ?_
   repeat' (first|(with_reducible apply a8 a7);rfl;rfl;rfl|(with_reducible apply a9);rfl;(apply Ld.sc a7;rfl;exact hS.blkC 0 rfl rfl);rfl|refine yDn (by with_reducible constructor) ?_|(with_reducible apply f8);rfl;assumption|(with_reducible apply l8 hS);rfl;rfl;rfl;clear hS;intro g w' hS)
   (focus ((with_reducible apply a0p _ _ _ 12 (by kernel_rfl) (by kernel_rfl) hS);(simp only [xl2,xl3,xl6,xl7]);(repeat' ((first|(with_reducible apply a1C);rfl;rfl;omega;omega;rfl|(with_reducible apply i7 a7);rfl;rfl|(with_reducible apply i9);rfl;(intro wd hd;replace hd:St _ _ wd _:=hd;(first|apply Ld.sc a7;rfl;(first|exact hd.blkC 0 rfl rfl|exact hd.rowCj 3 rfl (by assumption) rfl)|apply Ld.sl a7;rfl;exact hd.blkC 1 rfl rfl));rfl|(with_reducible apply y8 a7);rfl;rfl;rfl;rfl;omega;rfl)));all_goals ((with_reducible apply j7);intro w' hS';clear hS;have hS:=hS';clear hS')))
   repeat' (first|refine yDn (by with_reducible constructor) ?_|(with_reducible apply t5 hS a7 (i:=3));(iterate 4 rfl);assumption;(iterate 5 rfl);intro w' hS';simp only [List.set] at hS';clear hS;have hS:=hS';clear hS')
   rw [e1] at hS
   (focus ((with_reducible apply d9 _ _ _ (by kernel_rfl) (by kernel_rfl) hS);(repeat' ((first|(with_reducible apply i7 a7);rfl;rfl|(with_reducible apply i9);rfl;(intro wd hd;replace hd:St _ _ wd _:=hd;(first|apply Ld.sc a7;rfl;(first|exact hd.blkC 0 rfl rfl|exact hd.rowCj 3 rfl (by assumption) rfl)|apply Ld.sl a7;rfl;exact hd.blkC 1 rfl rfl));rfl|(with_reducible apply y8 a7);rfl;rfl;rfl;rfl;omega;rfl)));all_goals ((with_reducible apply j7);intro w' hS';clear hS;have hS:=hS';clear hS')))
   repeat' (first|refine yDn (by with_reducible constructor) ?_|(with_reducible apply f8);rfl;assumption)
   (refine a7m rfl ?_)
   exact ⟨rfl,by rw [xi9];exact hS.drop⟩
def en0:En:=⟨0,0,0⟩
theorem a82 {l:List En} {i:Nat} {h x:En} (hi:i<=l.length):(l.take i++h::l.drop i).set i x=l.take i++x::l.drop i:=by
 have hl:(l.take i).length=i:=by rw [xa1];omega
 rw [xf5 _ _ (by omega),hl,xf7];rfl
theorem b2x {l:List En} {i:Nat} {y:En} (hy:l[i]?=some y):l.take (i + 1)++y::l.drop (i + 1)=l.take i++y::l.drop i:=by
 rw [r8 hy,a3a hy,xg0];rfl
theorem b5k {l:List En} {i j:Nat} {h:En} (hj:j < i) (hi:i<=l.length):(l.take i++h::l.drop i)[j]?=l[j]?:=by
 rw [xa6 (by rw [xa1];omega),xf4,xf0 hj]
theorem a8K {F:Nat->Prop} {w0 w:World} {Γ:List Asr} {g0:Nat} {k:KV} (hS0:St F w0 w (rkS g0 k++Γ)) (hR:KRo (fps (rkS g0 k)) w k) {sp:Nat} {x:Sp} (hx:k.sp[sp]?=some x) {e':En} (hr:Rises (j8 x.s.entries)) (hl:x.s.entries.length<=1000) :
  Fn Tryz.prog 133 [a2y k.vsp (sp * 3),.agg (enC e').toArray] w (fun v w'=>v=.tuple #[]/\∃ ve',St (fps (rkS g0 k)) w w' (rkS g0 ⟨k.sh,k.fr,k.sl,k.sp.set sp ⟨⟨x.s.live,x.s.areas,putE x.s.entries e'⟩,x.va,ve'⟩,k.hand,k.vsh,k.vfr,k.vsl,k.vsp⟩)):=by
 have hS:=St.startM hS0;have hxm:=xd0 hx;have hea:=fun w1 Γ1 (h:St (fps (rkS g0 k)) w w1 (rkS g0 k++Γ1))=>a23 ((KerV.rk h hR).spv x hxm) e'.page;have hspV:=fun w1 Γ1 (h:St (fps (rkS g0 k)) w w1 (rkS g0 k++Γ1))=>(KerV.rk h hR).sp;have hix:=a57 x.s.entries e'.page;generalize a1F (fun e:En=>decide (e.page=e'.page)) x.s.entries=ix at hea hix;generalize fps (rkS g0 k)=G at hS hea hspV |-;obtain ⟨sh,fr,sl,sps,hand,vsh,vfr,vsl,vsp⟩:=k;dsimp only at hx hxm hspV |-;have hrow:=c9 (f:=spC) hx;have hspl:=d6 hx;obtain ⟨ps,cs,rfl⟩:∃ p c,vsp=.slice p sps.length c:=by
  have h2:=hS;unfold rkS a04 at h2;obtain ⟨p,c,h⟩:=h2.rowSlice 3 rfl;rw [xi9] at h;exact ⟨p,c,h⟩
 obtain ⟨gs,rfl⟩:∃ g,ps=some ⟨g,0,none⟩:=by
  have h2:=hS;unfold rkS a04 at h2;exact h2.rowSome 3 rfl (by omega)
 unfold a2y;dsimp only;obtain ⟨s,va,ve⟩:=x;dsimp only at hr hl hix |-;unfold spC at hrow hea;dsimp only at hrow hea;obtain ⟨epg,ekd,eat⟩:=e';dsimp only at hea hix;unfold enC;dsimp only;rw [<- List.append_nil (rkS _ _)] at hS;refine yEn Tryz.func133 Tryz.ntmps133 (by kernel_rfl) (by kernel_rfl) rfl rfl ?_
 repeat' (first|refine yDn (by with_reducible constructor) ?_|(with_reducible apply l8 hS);rfl;rfl;rfl;clear hS;intro g w' hS)
 (focus ((with_reducible apply d9 _ _ _ (by kernel_rfl) (by kernel_rfl) hS);(repeat' (first|(first|(with_reducible apply i7 a7);rfl;rfl|(with_reducible apply i9);rfl;(intro wd hd;replace hd:St _ _ wd _:=hd;(apply Ld.sc a7;rfl;exact hd.blkC 0 rfl rfl));rfl)|(with_reducible apply i9);rfl;(intro wd hd;replace hd:St _ _ wd _:=hd;(apply Ld.st a7;rfl;exact ((hspV _ _ hd.drop).rng hrow);rfl));rfl|(with_reducible apply y7);rfl;rfl;rfl;refine ⟨_,fun wd hd=>hea _ _ hd.drop,?_⟩));all_goals ((with_reducible apply j7);intro w' hS';clear hS;have hS:=hS';clear hS')))
 (with_reducible apply a3C)
 (with_reducible apply a2g)
 rename Nat=>g3
 rw [List.append_nil] at hS;unfold rkS kvC frA slA a04 at hS;dsimp only [List.cons_append,List.nil_append] at hS;replace hS:=hS.pullE 5 hx rfl;simp only [xl2,xl3,v6] at hS;unfold a0c at hS;dsimp only at hS;obtain ⟨pe,ce,rfl⟩:=hS.rowSlice 0 rfl;rw [xi9] at hS hx hrow;have hback:∀ w1 (L:List En) (v:Value),St G w w1 (.row 91 3 v (L.map enC)::.blk g3 [.int .i64 epg,.int .i64 ekd,.int .i64 eat]::.blk g0 [vsh,vfr,vsl,.slice (some ⟨gs,0,none⟩) sps.length cs,.int .i64 hand]::.row 89 4 vfr (fr.map fmC)::.row 143 2 vsl (sl.map swC)::.row 75 3 (.slice (some ⟨gs,0,none⟩) sps.length cs) ((sps.set sp ⟨s,va,v⟩).map spC)::(sps.eraseIdx sp).map a0c)->St G w w1 (rkS g0 ⟨sh,fr,sl,sps.set sp ⟨⟨s.live,s.areas,L⟩,va,v⟩,hand,vsh,vfr,vsl,.slice (some ⟨gs,0,none⟩) sps.length cs⟩):=fun w1 L v h=>by
  have h2:=(St.pushE (y:=⟨⟨s.live,s.areas,L⟩,va,v⟩) h 5 hx rfl).drop;have h3:(sps.set sp ⟨⟨s.live,s.areas,L⟩,va,v⟩).map spC=(sps.set sp ⟨s,va,v⟩).map spC:=by rw [xl1,xl1];rfl
  unfold rkS kvC frA slA a04;dsimp only;rw [h3];exact h2
 rcases hix with ⟨h0,rfl⟩|⟨i,e,h0,rfl,hi⟩
 ·have hnm:epg ∉ j8 s.entries:=a1x.1 h0;have hpu:putE s.entries ⟨epg,ekd,eat⟩=a7u s.entries ⟨epg,ekd,eat⟩:=by unfold putE;rw [xf1 hnm]
  rw [hpu]
  repeat' (first|(with_reducible apply a8 a7);rfl;rfl;rfl|(with_reducible apply n7 a7);rfl;rfl;exact (rfl:_=some [_,_,_]);rfl|refine yDn (by with_reducible constructor) ?_|(with_reducible apply f8);rfl;rfl|(with_reducible apply a0R hS a7);(iterate 7 rfl);clear hS;intro g w' hS|(with_reducible apply a9);rfl;(apply Ld.sl a7;rfl;exact hS.rowCj 5 rfl hrow rfl);rfl|(with_reducible apply a2s hS a7 1);(iterate 4 rfl);exact hS.rowRo 0 rfl;rfl;(simp only [xi9,xb1,xa2,xe9];omega);rfl;intro p' cap' w' hS';simp only [List.set] at hS';clear hS;have hS:=hS';clear hS'|(with_reducible apply t5 hS a7 (i:=6));(iterate 4 rfl);assumption;(iterate 5 rfl);intro w' hS';simp only [List.set] at hS';clear hS;have hS:=hS';clear hS')
  simp only [xi9] at hS |-;have hspE:(sps.map spC).set sp (o6 [.bool s.live,va,.slice pe s.entries.length ce] 2 [.slice p' (s.entries.length + 1) cap'])=(sps.set sp ⟨s,va,.slice p' (s.entries.length + 1) cap'⟩).map spC:=by rw [xl1];rfl
  rw [hspE] at hS;have hE0:s.entries.map enC++[[.int .i64 0,.int .i64 0,.int .i64 0]]=(s.entries.take s.entries.length++en0::s.entries.drop s.entries.length).map enC:=by rw [xg6,xl4,xl5];rfl
  rw [hE0] at hS;have hrow1:((sps.set sp ⟨s,va,.slice p' (s.entries.length + 1) cap'⟩).map spC)[sp]?=some [.bool s.live,va,.slice p' (s.entries.length + 1) cap']:=c9 (f:=spC) (a2f (x:=(⟨s,va,.slice p' (s.entries.length + 1) cap'⟩:Sp)) hspl);obtain ⟨ge,hge⟩:=hS.rowSome (p:=p') (n:=s.entries.length + 1) (cap:=cap') (sz:=3) 1 rfl (by omega);subst hge;replace hS:=hS.drop;clear hrow hE0 hspE
  repeat' (first|(with_reducible apply a8 a7);rfl;rfl;rfl|(with_reducible apply a0m);rfl;rfl;omega;omega;rfl|refine yDn (by with_reducible constructor) ?_|(with_reducible apply a9);rfl;(apply Ld.sl a7;rfl;exact hS.rowCj 5 rfl hrow1 rfl);rfl)
  have hsub:(((s.entries.length + 1:Nat):Int) - 1)=(s.entries.length:Int):=by omega
  rw [hsub];refine k9 (X:=Nat×En) (fun x=>[(4,.int .i64 (x.1:Nat))]) [0,3] rfl (fun x=>[.row 91 3 (.slice (some ⟨ge,0,none⟩) (s.entries.length + 1) cap') ((s.entries.take x.1++x.2::s.entries.drop x.1).map enC)]) (fun x=>x.1<=s.entries.length/\∀ (j:Nat) (q:Int),x.1<=j->(j8 s.entries)[j]?=some q->epg<=q) (fun x=>x.1) (s.entries.length,en0) (by exact Fr.sub_of rfl) ⟨xd4 _,fun j q hj hq=>by have:=d6 hq;unfold j8 at this;rw [xi9] at this;omega⟩ hS ?_;clear hS;rintro ⟨i,h⟩ w1 ⟨hi,hge⟩ hS;dsimp only [List.cons_append,List.nil_append] at hi hge hS |-;have hLi:(s.entries.take i++h::s.entries.drop i)[i]?=some h:=by
   rw [xa5 (by rw [xa1];omega),xa1,xj9 hi,xf7];rfl
  have hrowE:=c9 (f:=enC) hLi;have hst:((s.entries.take i++h::s.entries.drop i).map enC).set i (o6 (enC h) 0 [.int .i64 epg,.int .i64 ekd,.int .i64 eat])=(s.entries.take i++(⟨epg,ekd,eat⟩:En)::s.entries.drop i).map enC:=by
   rw [<- a82 (h:=h) (x:=(⟨epg,ekd,eat⟩:En)) hi,xl1];exact congrArg (List.set _ _) (a3W h ⟨epg,ekd,eat⟩)
  have a1N:(∀ (j:Nat) (q:Int),j < i->(j8 s.entries)[j]?=some q->q < epg)->a7u s.entries ⟨epg,ekd,eat⟩=s.entries.take i++(⟨epg,ekd,eat⟩:En)::s.entries.drop i:=fun hlo=>by
   have hlb:lbd (j8 s.entries) epg=i:=a8R (by unfold j8;rw [xi9];exact hi) hlo (fun q hq=>hge i q (xd4 _) hq);unfold a7u;rw [hlb]
  by_cases hz:i=0
  ·subst hz;rw [a1N (fun j q hj _=>by omega)];have hd0:decide (((0:Nat):Int) < ((0:Nat):Int))=false:=rfl;simp only [xl3,xl7] at hst
   repeat' ((refine yDn (by with_reducible constructor) ?_))
   (focus ((with_reducible apply d9 _ _ _ (by kernel_rfl) (by kernel_rfl) hS);(repeat' ((first|(with_reducible apply i7 a7);rfl;rfl|(first|(with_reducible apply a14);(iterate 4 rfl);rfl;rfl|(with_reducible apply r7);rfl;rfl;rfl;rfl))));all_goals ((with_reducible apply j7);intro w' hS';clear hS;have hS:=hS';clear hS')))
   (with_reducible apply a3C)
   (with_reducible apply a2g)
   repeat' (first|refine yDn (by with_reducible constructor) ?_|(with_reducible apply f8);rfl;rfl)
   (focus ((with_reducible apply a0p _ _ _ 7 (by kernel_rfl) (by kernel_rfl) hS);(simp only [xl2,xl3,xl6,xl7]);(repeat' (first|(first|(with_reducible apply i7 a7);rfl;rfl|(with_reducible apply i9);rfl;(intro wd hd;replace hd:St _ _ wd _:=hd;(apply Ld.st a7;rfl;exact hd.blkR 1 rfl;rfl));rfl|(with_reducible apply y8 a7);rfl;rfl;rfl;rfl;omega;rfl)|(with_reducible apply i9);rfl;(intro wd hd;replace hd:St _ _ wd _:=hd;(apply Ld.sl a7;rfl;exact hd.rowCj 5 rfl hrow1 rfl));rfl));all_goals ((with_reducible apply j7);intro w' hS';clear hS;have hS:=hS';clear hS')))
   repeat' (first|refine yDn (by with_reducible constructor) ?_|(with_reducible apply o5 hS a7 (i:=0));(iterate 4 rfl);assumption;(iterate 5 rfl);intro w' hS';simp only [List.set] at hS';clear hS;have hS:=hS';clear hS')
   rw [hst] at hS
   (apply b0d;repeat ((exact ResL.nil)))
   exact ⟨rfl,_,hback _ _ _ hS⟩
  ·obtain ⟨i,rfl⟩:∃ j,i=j + 1:=⟨i - 1,by omega⟩;obtain ⟨y,hy⟩:=j0 (l:=s.entries) (i:=i) (by omega);have hyL:=b5k (h:=h) (Nat.lt_succ_self i) hi;rw [hy] at hyL;have hrowY:((s.entries.take (i + 1)++h::s.entries.drop (i + 1)).map enC)[(((i + 1:Nat):Int) - 1).toNat]?=some [.int .i64 y.page,.int .i64 y.kind,.int .i64 y.at_]:=by
    rw [show (((i + 1:Nat):Int) - 1).toNat=i from by omega];exact c9 (f:=enC) hyL
   have hd1:decide (((0:Nat):Int) < ((i + 1:Nat):Int))=true:=xj2 (by omega);have hsi:(((i + 1:Nat):Int) - 1)=(i:Int):=by omega
   by_cases hlt:epg < y.page
   ·have hd2:decide (epg < y.page)=true:=xj2 hlt
    repeat' ((refine yDn (by with_reducible constructor) ?_))
    (focus ((with_reducible apply d9 _ _ _ (by kernel_rfl) (by kernel_rfl) hS);(repeat' (first|(first|(with_reducible apply a1C);rfl;rfl;omega;omega;rfl|(with_reducible apply i7 a7);rfl;rfl|(with_reducible apply i9);rfl;(intro wd hd;replace hd:St _ _ wd _:=hd;(apply Ld.sc a7;rfl;(first|exact hd.blkC 1 rfl rfl|exact hd.rowC0 0 rfl (by assumption) rfl)));rfl|(with_reducible apply y8 a7);rfl;rfl;rfl;exact xn8 (by omega);omega;rfl|(first|(with_reducible apply a0t);(iterate 4 rfl);assumption|(with_reducible apply t7);rfl;assumption;rfl;rfl))|(with_reducible apply i9);rfl;(intro wd hd;replace hd:St _ _ wd _:=hd;(apply Ld.sl a7;rfl;exact hd.rowCj 5 rfl hrow1 rfl));rfl));all_goals ((with_reducible apply j7);intro w' hS';clear hS;have hS:=hS';clear hS')))
    (with_reducible apply a3C)
    (with_reducible apply a2g)
    repeat' (first|refine yDn (by with_reducible constructor) ?_|(with_reducible apply f6);rfl;assumption)
    (focus ((with_reducible apply a0p _ _ _ 14 (by kernel_rfl) (by kernel_rfl) hS);(simp only [xl2,xl3,xl6,xl7]);(repeat' (first|(first|(with_reducible apply a1C);rfl;rfl;omega;omega;rfl|(with_reducible apply i7 a7);rfl;rfl|(with_reducible apply i9);rfl;(intro wd hd;replace hd:St _ _ wd _:=hd;(apply Ld.st a7;rfl;exact hd.rowR 0 rfl (by assumption);rfl));rfl|(with_reducible apply y8 a7);rfl;rfl;rfl;(first|rfl|exact xn8 (by omega));omega;rfl)|(with_reducible apply i9);rfl;(intro wd hd;replace hd:St _ _ wd _:=hd;(apply Ld.sl a7;rfl;exact hd.rowCj 5 rfl hrow1 rfl));rfl));all_goals ((with_reducible apply j7);intro w' hS';clear hS;have hS:=hS';clear hS')))
    repeat' (first|(with_reducible apply a8 a7);rfl;rfl;rfl|(with_reducible apply a0m);rfl;rfl;omega;omega;rfl|refine yDn (by with_reducible constructor) ?_|(with_reducible apply o5 hS a7 (i:=0));(iterate 4 rfl);assumption;(iterate 5 rfl);intro w' hS';simp only [List.set] at hS';clear hS;have hS:=hS';clear hS')
    have hmv:((s.entries.take (i + 1)++h::s.entries.drop (i + 1)).map enC).set (i + 1) (o6 (enC h) 0 [.int .i64 y.page,.int .i64 y.kind,.int .i64 y.at_])=(s.entries.take i++y::s.entries.drop i).map enC:=by
     rw [<- b2x hy,<- a82 (h:=h) (x:=y) hi,xl1];exact congrArg (List.set _ _) (a3W h y)
    rw [hmv] at hS;rw [hsi];refine e9 (i,y) (by exact Fr.sub_of rfl) ⟨by show i<=s.entries.length;omega,fun j q hj hq=>?_⟩ hS (by show i < i + 1;omega);by_cases hji:j=i
    ·subst hji;have hyp:(j8 s.entries)[j]?=some y.page:=by unfold j8;rw [xh6,hy];rfl
     rw [hyp] at hq
     cases hq
     omega
    ·exact hge j q (by show i + 1<=j;have:i<=j:=hj;omega) hq
   ·have hd2:decide (epg < y.page)=false:=xj0 hlt;have hle:y.page<=epg:=by omega
    rw [a1N (fun j q hj hq=>by
     have hne:y.page≠epg:=fun h=>hnm (xm5.2 ⟨y,xd0 hy,h⟩);have hyp:(j8 s.entries)[i]?=some y.page:=by unfold j8;rw [xh6,hy];rfl
     by_cases hji:j=i
     ·subst hji;rw [hyp] at hq
      cases hq
      omega
     ·have:=hr.at_ (show j < i by omega) hq hyp;omega)]
    repeat' ((refine yDn (by with_reducible constructor) ?_))
    (focus ((with_reducible apply d9 _ _ _ (by kernel_rfl) (by kernel_rfl) hS);(repeat' (first|(first|(with_reducible apply a1C);rfl;rfl;omega;omega;rfl|(with_reducible apply i7 a7);rfl;rfl|(with_reducible apply i9);rfl;(intro wd hd;replace hd:St _ _ wd _:=hd;(apply Ld.sc a7;rfl;(first|exact hd.blkC 1 rfl rfl|exact hd.rowC0 0 rfl (by assumption) rfl)));rfl|(with_reducible apply y8 a7);rfl;rfl;rfl;exact xn8 (by omega);omega;rfl|(first|(with_reducible apply a0t);(iterate 4 rfl);assumption|(with_reducible apply t7);rfl;assumption;rfl;rfl))|(with_reducible apply i9);rfl;(intro wd hd;replace hd:St _ _ wd _:=hd;(apply Ld.sl a7;rfl;exact hd.rowCj 5 rfl hrow1 rfl));rfl));all_goals ((with_reducible apply j7);intro w' hS';clear hS;have hS:=hS';clear hS')))
    (with_reducible apply a3C)
    (with_reducible apply a2g)
    repeat' (first|refine yDn (by with_reducible constructor) ?_|(with_reducible apply f8);rfl;assumption)
    (focus ((with_reducible apply a0p _ _ _ 7 (by kernel_rfl) (by kernel_rfl) hS);(simp only [xl2,xl3,xl6,xl7]);(repeat' (first|(first|(with_reducible apply i7 a7);rfl;rfl|(with_reducible apply i9);rfl;(intro wd hd;replace hd:St _ _ wd _:=hd;(apply Ld.st a7;rfl;exact hd.blkR 1 rfl;rfl));rfl|(with_reducible apply y8 a7);rfl;rfl;rfl;rfl;omega;rfl)|(with_reducible apply i9);rfl;(intro wd hd;replace hd:St _ _ wd _:=hd;(apply Ld.sl a7;rfl;exact hd.rowCj 5 rfl hrow1 rfl));rfl));all_goals ((with_reducible apply j7);intro w' hS';clear hS;have hS:=hS';clear hS')))
    repeat' (first|refine yDn (by with_reducible constructor) ?_|(with_reducible apply o5 hS a7 (i:=0));(iterate 4 rfl);assumption;(iterate 5 rfl);intro w' hS';simp only [List.set] at hS';clear hS;have hS:=hS';clear hS')
    rw [hst] at hS
    (apply b0d;repeat ((exact ResL.nil)))
    exact ⟨rfl,_,hback _ _ _ hS⟩
 ·obtain ⟨hem,hep⟩:=a0a h0;have hm:epg ∈ j8 s.entries:=xm5.2 ⟨e,hem,hep⟩;have hlb:lbd (j8 s.entries) epg=i:=b1w hr (by unfold j8;rw [xh6,hi];exact congrArg some hep);have hpu:putE s.entries ⟨epg,ekd,eat⟩=s.entries.set i ⟨epg,ekd,eat⟩:=by unfold putE;rw [xf0 hm,hlb]
  rw [hpu];have hil:=d6 hi;obtain ⟨ge,hge⟩:=hS.rowSome (p:=pe) (n:=s.entries.length) (cap:=ce) (sz:=3) 0 rfl (by omega);subst hge;have hrowE:=c9 (f:=enC) hi;have hst:(s.entries.map enC).set i (o6 (enC e) 0 [.int .i64 epg,.int .i64 ekd,.int .i64 eat])=(s.entries.set i ⟨epg,ekd,eat⟩).map enC:=by
   rw [xl1];exact congrArg (List.set _ _) (a3W e ⟨epg,ekd,eat⟩)
  have hdi:decide (((0:Nat):Int)<=((i:Nat):Int))=true:=xj2 (by omega)
  repeat' (first|(with_reducible apply a8 a7);rfl;rfl;rfl|refine yDn (by with_reducible constructor) ?_|(with_reducible apply f6);rfl;rfl)
  (focus ((with_reducible apply a0p _ _ _ 7 (by kernel_rfl) (by kernel_rfl) hS);(simp only [xl2,xl3,xl6,xl7]);(repeat' (first|(first|(with_reducible apply i7 a7);rfl;rfl|(with_reducible apply i9);rfl;(intro wd hd;replace hd:St _ _ wd _:=hd;(apply Ld.st a7;rfl;exact hd.blkR 1 rfl;rfl));rfl|(with_reducible apply y8 a7);rfl;rfl;rfl;rfl;omega;rfl)|(with_reducible apply i9);rfl;(intro wd hd;replace hd:St _ _ wd _:=hd;(apply Ld.sl a7;rfl;exact hd.rowCj 5 rfl hrow rfl));rfl));all_goals ((with_reducible apply j7);intro w' hS';clear hS;have hS:=hS';clear hS')))
  repeat' (first|refine yDn (by with_reducible constructor) ?_|(with_reducible apply o5 hS a7 (i:=0));(iterate 4 rfl);assumption;(iterate 5 rfl);intro w' hS';simp only [List.set] at hS';clear hS;have hS:=hS';clear hS')
  rw [hst] at hS
  (refine b2M rfl ?_)
  refine ⟨rfl,.slice (some ⟨ge,0,none⟩) s.entries.length ce,hback _ (s.entries.set i ⟨epg,ekd,eat⟩) _ ?_⟩;rw [a15 hx];exact hS
structure RLike (k k':KV):Prop where
 like:KLike k k'
 vfr:k'.vfr=k.vfr
 vsl:k'.vsl=k.vsl
 vsp:k'.vsp=k.vsp
theorem RLike.refl (k:KV):RLike k k:=⟨KLike.refl k,rfl,rfl,rfl⟩
theorem RLike.trans {a b c:KV} (h:RLike a b) (h2:RLike b c):RLike a c:=⟨h.like.trans h2.like,h2.vfr.trans h.vfr,h2.vsl.trans h.vsl,h2.vsp.trans h.vsp⟩
theorem a8p {l:List Sw} {t j:Nat} {s:Sw} (h:a2a l=some t) (hj:j < t) (hs:l[j]?=some s):s.refs≠0:=by
 unfold a2a at h;rw [xl0] at h;obtain ⟨h1,h2,h3⟩:=h;have h4:=h3 j hj;rw [xe1 (by omega)] at hs
 cases hs
 exact fun h5=>h4 (xj2 h5)
def sAt:Option Nat->Int
 |some t=>(t:Nat)
 |none=>-1
theorem b10 {F:Nat->Prop} {w0 w:World} {Γ:List Asr} {g0:Nat} {k:KV} (hS0:St F w0 w (rkS g0 k++Γ)) {f:Nat} (hA:b1r k f):Fn Tryz.prog 155 [.pointer (some ⟨g0,0,none⟩),.int .i64 (f:Nat)] w (fun v w'=>v=.tuple #[]/\∃ k',k'.K=t4 k.K f/\RLike k k'/\St (fps (rkS g0 k)) w w' (rkS g0 k')):=by
 have hS:=St.startM hS0;obtain ⟨hfl,hfree,hlen,hkd,hspl⟩:=hA;generalize fps (rkS g0 k)=G at hS |-;obtain ⟨sh,fr,sl,sps,hand,vsh,vfr,vsl,vsp⟩:=k;dsimp only at hfl hfree hlen hkd hspl;obtain ⟨fm,hfm⟩:=j0 (l:=fr) (i:=f) (by omega);have hrow:=c9 (f:=fmC) hfm;rw [p9 hfm] at hfree;unfold rkS kvC frA slA a04 at hS;dsimp only [List.cons_append,List.nil_append] at hS;obtain ⟨pf,cf,rfl⟩:=hS.rowSlice 1 rfl;rw [xi9] at hS;obtain ⟨gf,rfl⟩:=hS.rowSome 1 rfl (by omega);obtain ⟨psl,csl,rfl⟩:=hS.rowSlice 2 rfl;rw [xi9] at hS;obtain ⟨psp,csp,rfl⟩:=hS.rowSlice 3 rfl;rw [xi9] at hS;unfold fmC at hrow;obtain ⟨aT,haT⟩:∃ o,o=a0w (⟨sh,fr,sl,sps,hand,vsh,.slice (some ⟨gf,0,none⟩) fr.length cf,.slice psl sl.length csl,.slice psp sps.length csp⟩:KV).K f:=⟨_,rfl⟩;have haT2:aT=if fm.dirty then some ((a2a sl).getD 0) else none:=by
  rw [haT];unfold a0w KV.K;dsimp only;rw [p9 hfm]
 have hb2:=(hS.rowSl 2 rfl).bound;simp only [xi9];refine yEn Tryz.func155 Tryz.ntmps155 (by kernel_rfl) (by kernel_rfl) rfl rfl ?_
 repeat' (first|(with_reducible apply a8 a7);rfl;rfl;rfl|(with_reducible apply a9);rfl;(apply Ld.sl a7;rfl;exact hS.blkC 0 rfl rfl);rfl|(with_reducible apply a0m);rfl;rfl;omega;omega;rfl|(with_reducible first|apply a2R|apply a2Q|apply a3C|apply a2g))
 refine a07 (F:=G) (w0:=w) (X:=Int) (fun x=>[(0,.pointer (some ⟨g0,0,none⟩)),(1,.int .i64 (f:Nat)),(4,.int .i64 x)]) (fun _=>[.blk g0 [vsh,.slice (some ⟨gf,0,none⟩) fr.length cf,.slice psl sl.length csl,.slice psp sps.length csp,.int .i64 hand],.row 89 4 (.slice (some ⟨gf,0,none⟩) fr.length cf) (fr.map fmC),.row 143 2 (.slice psl sl.length csl) (sl.map swC),.row 75 3 (.slice psp sps.length csp) (sps.map spC)]++sps.map a0c) (fun x=>x=sAt aT) ?_ ?_
 ·cases hd:fm.dirty with
  |false=>
   rw [hd,xf1 (by simp)] at haT2;rw [hd] at hrow
   repeat' ((refine yDn (by with_reducible constructor) ?_))
   refine k9 (X:=Unit) (fun _=>[]) [0,1,4,5] rfl (fun _=>[]) (fun _=>True) (fun _=>0) () (by exact Fr.sub_of rfl) trivial hS ?_;clear hS;rintro _ w1 - hS;dsimp only [List.cons_append,List.nil_append] at hS |-;by_cases h0:(0:Int)<=(sl.length:Int) - 1
   ·have hd1:decide ((0:Int)<=(sl.length:Int) - 1)=true:=xj2 h0
    repeat' (first|(with_reducible apply a8 a7);rfl;rfl;rfl|(with_reducible apply a9);rfl;(first|apply Ld.sc a7;rfl;exact hS.rowCj 1 rfl (by assumption) rfl|apply Ld.sl a7;rfl;exact hS.blkC 0 rfl rfl);rfl|(with_reducible apply l7 a7);rfl;rfl;rfl;rfl;omega;rfl|refine yDn (by with_reducible constructor) ?_|(with_reducible apply k8);(iterate 4 rfl);assumption|(with_reducible apply j3);rfl;assumption;rfl;rfl|(with_reducible apply f8);rfl;rfl)
    exact n5 (-1) (by exact Fr.sub_of rfl) (by rw [haT2];rfl) hS
   ·have hd1:decide ((0:Int)<=(sl.length:Int) - 1)=false:=xj0 h0
    repeat' (first|(with_reducible apply a8 a7);rfl;rfl;rfl|refine yDn (by with_reducible constructor) ?_|(with_reducible apply x8);(iterate 4 rfl);assumption;rfl|(with_reducible apply f5);rfl;assumption;rfl;rfl|(with_reducible apply f8);rfl;rfl)
    exact n5 (-1) (by exact Fr.sub_of rfl) (by rw [haT2];rfl) hS
  |true=>
   obtain ⟨t,ht⟩:=hfree hd;rw [hd,xf0 rfl,ht] at haT2;rw [hd] at hrow;obtain ⟨s0,hs0,hs1⟩:=a2v ht;have htl:=d6 hs0
   repeat' ((refine yDn (by with_reducible constructor) ?_))
   refine k9 (X:=Nat×Int) (fun x=>[(4,.int .i64 x.2),(5,.int .i64 ((x.1:Nat) - 1:Int))]) [0,1] rfl (fun _=>[]) (fun x=>x.1<=sl.length/\(x.1<=t->x.2=(t:Nat))) (fun x=>x.1) (sl.length,-1) (by exact Fr.sub_of rfl) ⟨xd4 _,fun h=>by have:sl.length<=t:=h;omega⟩ hS ?_;clear hS;rintro ⟨n,s⟩ w1 ⟨hn,hst⟩ hS;dsimp only [List.cons_append,List.nil_append] at hn hst hS |-
   cases n with
   |zero=>
    have hd1:decide ((0:Int)<=((0:Nat):Int) - 1)=false:=rfl
    repeat' (first|(with_reducible apply a8 a7);rfl;rfl;rfl|refine yDn (by with_reducible constructor) ?_|(with_reducible apply x8);(iterate 4 rfl);rfl;rfl|(with_reducible apply f5);rfl;rfl;rfl;rfl|(with_reducible apply f8);rfl;rfl)
    exact n5 s (by exact Fr.sub_of rfl) (by rw [haT2];exact hst (xg4 _)) hS
   |succ m=>
    have e5:((m + 1:Nat):Int) - 1=((m:Nat):Int):=by omega
    rw [e5];have hd1:decide ((0:Int)<=((m:Nat):Int))=true:=xj2 (by omega);obtain ⟨sm,hsm⟩:=j0 (l:=sl) (i:=m) (by omega);have hrowS:=c9 (f:=swC) hsm;unfold swC at hrowS;obtain ⟨gsl,hgs⟩:=hS.rowSome 2 rfl (by omega);subst hgs;by_cases h0:sm.refs=0
    ·have hd0:decide (sm.refs=0)=true:=xj2 h0
     repeat' (first|(with_reducible apply a8 a7);rfl;rfl;rfl|(with_reducible apply a9);rfl;(first|apply Ld.sc a7;rfl;(first|exact hS.rowCj 1 rfl (by assumption) rfl|exact hS.rowCj 2 rfl (by assumption) rfl)|apply Ld.sl a7;rfl;exact hS.blkC 0 rfl rfl);rfl|(with_reducible apply l7 a7);rfl;rfl;rfl;rfl;omega;rfl|(with_reducible apply a0m);rfl;rfl;omega;omega;rfl|refine yDn (by with_reducible constructor) ?_|(with_reducible apply k8);(iterate 4 rfl);rfl|(with_reducible apply j3);rfl;rfl;rfl;rfl|((with_reducible apply f6);rfl;first|rfl|assumption))
     refine e9 (m,((m:Nat):Int)) (by exact Fr.sub_of rfl) ⟨by show m<=sl.length;omega,fun h=>?_⟩ hS (by show m < m + 1;omega);have h:m<=t:=h;by_cases hmt:m=t
     ·rw [hmt]
     ·exact absurd h0 (a8p ht (by omega) hsm)
    ·have hd0:decide (sm.refs=0)=false:=xj0 h0
     repeat' (first|(with_reducible apply a8 a7);rfl;rfl;rfl|(with_reducible apply a9);rfl;(first|apply Ld.sc a7;rfl;(first|exact hS.rowCj 1 rfl (by assumption) rfl|exact hS.rowCj 2 rfl (by assumption) rfl)|apply Ld.sl a7;rfl;exact hS.blkC 0 rfl rfl);rfl|(with_reducible apply l7 a7);rfl;rfl;rfl;rfl;omega;rfl|(with_reducible apply a0m);rfl;rfl;omega;omega;rfl|refine yDn (by with_reducible constructor) ?_|(with_reducible apply k8);(iterate 4 rfl);rfl|(with_reducible apply j3);rfl;rfl;rfl;rfl|(with_reducible apply f6);rfl;rfl|(with_reducible apply f8);rfl;assumption)
     refine e9 (m,s) (by exact Fr.sub_of rfl) ⟨by show m<=sl.length;omega,fun h=>?_⟩ hS (by show m < m + 1;omega);have h:m<=t:=h;by_cases hmt:m=t
     ·subst hmt;rw [hsm] at hs0
      cases hs0
      exact absurd hs1 h0
     ·exact hst (by omega)
 clear hS;rintro _ w1 rfl hS;dsimp only [List.cons_append,List.nil_append] at hS;obtain ⟨T,hT⟩:∃ T:Option Int,T=aT.map fun (t:Nat)=>(t:Int):=⟨_,rfl⟩
 repeat' (first|(with_reducible apply a8 a7);rfl;rfl;rfl|refine yDn (by with_reducible constructor) ?_)
 refine k9 (F:=G) (w0:=w) (X:=Nat×List Sp) (fun x=>[(6,.int .i64 (x.1:Nat))]) [0,1,4] rfl (fun x=>[.blk g0 [vsh,.slice (some ⟨gf,0,none⟩) fr.length cf,.slice psl sl.length csl,.slice psp sps.length csp,.int .i64 hand],.row 89 4 (.slice (some ⟨gf,0,none⟩) fr.length cf) (fr.map fmC),.row 143 2 (.slice psl sl.length csl) (sl.map swC),.row 75 3 (.slice psp sps.length csp) (x.2.map spC)]++x.2.map a0c) (Γ:=[]) (fun x=>x.1<=sps.length/\x.2.length=sps.length/\∀ (j:Nat) y,sps[j]?=some y->(x.1<=j->x.2[j]?=some y)/\(j < x.1->∃ ve',x.2[j]?=some ⟨z8 (f:Nat) T y.s,y.va,ve'⟩)) (fun x=>sps.length - x.1) (0,sps) (by exact Fr.sub_of rfl) ⟨xg4 _,rfl,fun j y hy=>⟨fun _=>hy,fun h=>by have:j < 0:=h;omega⟩⟩ (by rw [List.append_nil];exact hS) ?_;clear hS;rintro ⟨i,SPS⟩ w2 ⟨hi,hSl,hinv⟩ hS;dsimp only [List.cons_append,List.nil_append] at hi hSl hinv hS |-;rw [List.append_nil] at hS;by_cases hlt:i < sps.length;rotate_left
 ·obtain rfl:i=sps.length:=by omega
  have hinv2:∀ (j:Nat) y,sps[j]?=some y->∃ ve',SPS[j]?=some ⟨z8 (f:Nat) T y.s,y.va,ve'⟩:=fun j y hy=>(hinv j y hy).2 (d6 hy);have hfs:(fr.map fmC).set f (o6 [.string ⟨fm.data.toArray⟩,.int .i64 fm.refs,.bool fm.dirty,.bool fm.seen] 0 [.string ⟨#[]⟩,.int .i64 0,.bool false,.bool false])=(fr.set f fm0).map fmC:=by
   rw [xl1];rfl
  have hfin:∀ sl' w3,sl'=slT aT sl ⟨fm.data,fm.refs⟩->sl'.length=sl.length->St G w w3 (.blk g0 [vsh,.slice (some ⟨gf,0,none⟩) fr.length cf,.slice psl sl.length csl,.slice psp sps.length csp,.int .i64 hand]::.row 89 4 (.slice (some ⟨gf,0,none⟩) fr.length cf) ((fr.set f fm0).map fmC)::.row 143 2 (.slice psl sl.length csl) (sl'.map swC)::.row 75 3 (.slice psp sps.length csp) (SPS.map spC)::SPS.map a0c)->∃ k',k'.K=t4 (KV.K ⟨sh,fr,sl,sps,hand,vsh,.slice (some ⟨gf,0,none⟩) fr.length cf,.slice psl sl.length csl,.slice psp sps.length csp⟩) f/\RLike ⟨sh,fr,sl,sps,hand,vsh,.slice (some ⟨gf,0,none⟩) fr.length cf,.slice psl sl.length csl,.slice psp sps.length csp⟩ k'/\St G w w3 (rkS g0 k'):=by
   intro sl' w3 hsl' hsll h;refine ⟨⟨sh,fr.set f fm0,sl',SPS,hand,vsh,.slice (some ⟨gf,0,none⟩) fr.length cf,.slice psl sl.length csl,.slice psp sps.length csp⟩,?_,⟨⟨rfl,rfl,?_⟩,rfl,rfl,rfl⟩,?_⟩
   ·unfold KV.K t4;have h1:SPS.map (·.s)=(sps.map (·.s)).map (z8 (f:Nat) T):=by
     refine xh1 fun j=>?_;rw [xh6,xh6,xh6]
     cases hj:sps[j]? with
     |none=>
      rw [xn0] at hj;rw [xh8 (by omega)];rfl
     |some y=>
      obtain ⟨ve',h⟩:=hinv2 j y hj;rw [h];rfl
    dsimp only;rw [h1,hsl',hT];have h2:a0w (⟨shs sh,fr,sl,sps.map (·.s),hand⟩:Ker) f=aT:=by rw [haT];rfl
    rw [h2,p9 hfm]
    cases aT <;> rfl
   ·show (SPS.map fun p=>(p.va,p.s.areas))=sps.map fun p=>(p.va,p.s.areas);refine xh1 fun j=>?_;rw [xh6,xh6]
    cases hj:sps[j]? with
    |none=>
     rw [xn0] at hj;rw [xh8 (by omega)]
    |some y=>
     obtain ⟨ve',h⟩:=hinv2 j y hj;rw [h];rfl
   ·exact h
  cases hA:aT with
  |none=>
   have hd4:decide ((0:Int)<=sAt none)=false:=rfl
   repeat' (first|(with_reducible apply a8 a7);rfl;rfl;rfl|(with_reducible apply a9);rfl;(apply Ld.sl a7;rfl;exact hS.blkC 0 rfl rfl);rfl|(with_reducible apply l7 a7);rfl;rfl;rfl;rfl;omega;rfl|(with_reducible apply n7 a7);rfl;rfl;exact (rfl:_=some [_,_,_,_]);rfl|refine yDn (by with_reducible constructor) ?_|(with_reducible apply f8);rfl;rfl|(with_reducible apply b9);rfl;all_goals (intro hb hp;try (exfalso;omega))|(with_reducible apply o5 hS a7 (i:=1));(iterate 4 rfl);assumption;(iterate 5 rfl);intro w' hS';simp only [List.set] at hS';clear hS;have hS:=hS';clear hS')
   (refine a7m rfl ?_)
   rw [hfs] at hS;exact ⟨rfl,hfin sl _ (by rw [hA];rfl) rfl hS⟩
  |some t=>
   have htl:t < sl.length:=by
    rw [hA] at haT2
    cases hd:fm.dirty with
    |false=>rw [hd] at haT2;simp at haT2
    |true=>
     obtain ⟨t',ht'⟩:=hfree hd;rw [hd,xf0 rfl,ht'] at haT2;injection haT2 with e
     obtain ⟨s0,hs0,-⟩:=a2v ht';rw [e];exact d6 hs0
   obtain ⟨s0,hs0⟩:=j0 (l:=sl) (i:=t) (by omega);have hd4:decide ((0:Int)<=sAt (some t))=true:=xj2 (by show (0:Int)<=((t:Nat):Int);omega);have hrowS:=c9 (f:=swC) hs0;obtain ⟨gsl,rfl⟩:=hS.rowSome 2 rfl (by omega);have est:(sl.map swC).set t (o6 (swC s0) 0 [.string ⟨fm.data.toArray⟩,.int .i64 fm.refs])=(sl.set t ⟨fm.data,fm.refs⟩).map swC:=by
    rw [xl1];exact congrArg (List.set _ _) (b1k s0 ⟨fm.data,fm.refs⟩)
   have e4:sAt (some t)=((t:Nat):Int):=rfl;rw [e4] at hd4 |-
   repeat' (first|(with_reducible apply a8 a7);rfl;rfl;rfl|(with_reducible apply a9);rfl;(apply Ld.sl a7;rfl;exact hS.blkC 0 rfl rfl);rfl|refine yDn (by with_reducible constructor) ?_|(with_reducible apply f6);rfl;rfl|(with_reducible apply b9);rfl;all_goals (intro hb hp;try (exfalso;omega)))
   (focus ((with_reducible apply a0p _ _ _ 23 (by kernel_rfl) (by kernel_rfl) hS);(simp only [xl2,xl3,xl6,xl7]);(repeat' ((first|(with_reducible apply i7 a7);rfl;rfl|(with_reducible apply i9);rfl;(intro wd hd;replace hd:St _ _ wd _:=hd;(first|apply Ld.sc a7;rfl;(first|exact hd.rowC0 1 rfl (by assumption) rfl|exact hd.rowCj 1 rfl (by assumption) rfl)|apply Ld.sl a7;rfl;exact hd.blkC 0 rfl rfl));rfl|(with_reducible apply y8 a7);rfl;rfl;rfl;rfl;omega;rfl|(with_reducible apply a1Z a7);rfl;rfl;exact (rfl:_=some [_,_]);rfl)));all_goals ((with_reducible apply j7);intro w' hS';clear hS;have hS:=hS';clear hS')))
   repeat' (first|(with_reducible apply a8 a7);rfl;rfl;rfl|(with_reducible apply a9);rfl;(apply Ld.sl a7;rfl;exact hS.blkC 0 rfl rfl);rfl|(with_reducible apply l7 a7);rfl;rfl;rfl;rfl;omega;rfl|(with_reducible apply n7 a7);rfl;rfl;exact (rfl:_=some [_,_,_,_]);rfl|refine yDn (by with_reducible constructor) ?_|(with_reducible apply o5 hS a7 (i:=2));(iterate 4 rfl);assumption;(iterate 5 rfl);intro w' hS';simp only [List.set] at hS';clear hS;have hS:=hS';clear hS')
   rw [est] at hS
   repeat' (first|refine yDn (by with_reducible constructor) ?_|(with_reducible apply o5 hS a7 (i:=1));(iterate 4 rfl);assumption;(iterate 5 rfl);intro w' hS';simp only [List.set] at hS';clear hS;have hS:=hS';clear hS')
   (refine a7m rfl ?_)
   rw [hfs] at hS;exact ⟨rfl,hfin (sl.set t ⟨fm.data,fm.refs⟩) _ (by rw [hA];rfl) xa8 hS⟩
 obtain ⟨x,hx0⟩:=j0 (l:=sps) (i:=i) (by omega);have hx:=(hinv i x hx0).1 (xd4 _);have hlx:=hlen x (xd0 hx0);have hrowi:=c9 (f:=spC) hx;obtain ⟨gs,rfl⟩:=hS.rowSome 3 rfl (by omega);obtain ⟨s,va,ve⟩:=x;dsimp only at hlx;unfold spC at hrowi;dsimp only at hrowi;replace hS:=hS.pullE 4 hx rfl;simp only [xl2,xl3,v6] at hS;unfold a0c at hS;dsimp only at hS;obtain ⟨pe,ce,rfl⟩:=hS.rowSlice 0 rfl;simp only [xi9] at hS hx0 hx hrowi;replace hS:=hS.addNil 91 3
 repeat' (first|(with_reducible apply a8 a7);rfl;rfl;rfl|(with_reducible apply a9);rfl;(apply Ld.sl a7;rfl;exact hS.blkC 2 rfl rfl);rfl|refine yDn (by with_reducible constructor) ?_|(with_reducible apply b9);rfl;all_goals (intro hb hp;try (exfalso;omega)))
 obtain ⟨M,hM⟩:∃ M:Nat->List En,M=fun j=>(s.entries.take j).filterMap (o8 (f:Nat) T):=⟨_,rfl⟩;have hMl:∀ j,(M j).length<=s.entries.length:=fun j=>by
  rw [hM];exact xd5 (List.length_filterMap_le _ _) (List.length_take_le' _ _)
 have hM0:M 0=[]:=by rw [hM];rfl
 have hMs:∀ j e,s.entries[j]?=some e->M (j + 1)=M j++(o8 (f:Nat) T e).toList:=fun j e he=>by
  rw [hM];dsimp only;rw [r8 he,List.filterMap_append,xm9,List.filterMap_nil]
  cases o8 (f:Nat) T e <;> rfl
 have hMn:M s.entries.length=s.entries.filterMap (o8 (f:Nat) T):=by rw [hM];dsimp only;rw [xg6]
 clear hM;refine k9 (X:=Option Addr×Nat×Nat) (fun x=>[(7,.slice x.1 (M x.2.2).length x.2.1),(8,.int .i64 (x.2.2:Nat))]) [0,1,4,6] rfl (fun x=>[.row 91 3 (.slice x.1 (M x.2.2).length x.2.1) ((M x.2.2).map enC)]) (fun x=>x.2.2<=s.entries.length) (fun x=>s.entries.length - x.2.2) (none,0,0) (by dsimp only;rw [hM0];exact Fr.sub_of rfl) (xg4 _) (by dsimp only;rw [hM0];exact hS) ?_;clear hS;rintro ⟨pm,cm,j⟩ w3 hj hS;dsimp only [List.cons_append,List.nil_append] at hj hS |-;have hMj:=hMl j;by_cases hjl:j < s.entries.length
 ·obtain ⟨e,he⟩:=j0 (l:=s.entries) (i:=j) (by omega);have hrowj:=c9 (f:=enC) he;have hMse:=hMs j e he;obtain ⟨ge,hge⟩:=hS.rowSome (p:=pe) (n:=s.entries.length) (cap:=ce) (sz:=3) 1 rfl (by omega);subst hge;unfold enC at hrowj;have hadd:∀ e2:En,o8 (f:Nat) T e=some e2->(M (j + 1)).length=(M j).length + 1/\(M (j + 1)).map enC=(M j).map enC++[enC e2]:=fun e2 h=>by
   rw [hMse,h];simp [xe9,xl5]
  by_cases hk1:e.kind=1
  ·have hd1:decide (e.kind=1)=true:=xj2 hk1;by_cases hka:e.at_=(f:Nat)
   ·have hd2:decide (e.at_=((f:Nat):Int))=true:=xj2 hka;have has:o8 (f:Nat) T e=T.map (fun s=>(⟨e.page,2,s⟩:En)):=by unfold o8;rw [xf0 ⟨hk1,hka⟩]
    cases hA:aT with
    |none=>
     have hd4:decide (sAt none < (0:Int))=true:=rfl;have hT2:T=none:=by rw [hT,hA];rfl
     have has2:o8 (f:Nat) T e=none:=by rw [has,hT2];rfl
     rw [has2] at hMse;replace hMse:M (j + 1)=M j:=by rw [hMse];exact List.append_nil _
     repeat' (first|(with_reducible apply a8 a7);rfl;rfl;rfl|(with_reducible apply a9);rfl;(first|apply Ld.sc a7;rfl;exact hS.blkC 0 rfl rfl|apply Ld.sl a7;rfl;exact hS.blkC 2 rfl rfl|apply Ld.st a7;rfl;exact hS.rowR 1 rfl (by assumption);rfl);rfl|(with_reducible apply l7 a7);rfl;rfl;rfl;rfl;omega;rfl|(with_reducible apply j4);rfl;rfl;omega;omega;rfl|refine yDn (by with_reducible constructor) ?_|(with_reducible apply k8);(iterate 4 rfl);assumption|(with_reducible apply j3);rfl;assumption;rfl;rfl|((with_reducible apply f6);rfl;first|rfl|assumption)|(with_reducible apply d8 hS a7);rfl;rfl;rfl;clear hS;intro g w' hS|(with_reducible apply b8 hS a7 (i:=0));(iterate 8 rfl);exact (rfl:_=[_,_,_]);clear hS;intro w' hS;simp only [List.set] at hS|(with_reducible apply b9);rfl;all_goals (intro hb hp;try (exfalso;omega))|(with_reducible apply a9);rfl;(apply Ld.sl a7;rfl;exact hS.rowCj 5 rfl hrowi rfl);rfl)
     refine e9 (pm,cm,j + 1) (by dsimp only;rw [hMse];exact Fr.sub_of rfl) (by show j + 1<=s.entries.length;omega) (by dsimp only;rw [hMse];exact hS.drop) (by show s.entries.length - (j + 1) < s.entries.length - j;omega)
    |some t=>
     have hd4:decide (((t:Nat):Int) < (0:Int))=false:=xj0 (by omega);have e4:sAt (some t)=((t:Nat):Int):=rfl;rw [e4];have hT2:T=some ((t:Nat):Int):=by rw [hT,hA];rfl
     obtain ⟨ha1,ha2⟩:=hadd ⟨e.page,2,(t:Nat)⟩ (by rw [has,hT2];rfl)
     repeat' (first|(with_reducible apply a8 a7);rfl;rfl;rfl|(with_reducible apply a9);rfl;(first|apply Ld.sc a7;rfl;exact hS.blkC 0 rfl rfl|apply Ld.sl a7;rfl;exact hS.blkC 2 rfl rfl|apply Ld.st a7;rfl;(first|exact hS.blkR 0 rfl|exact hS.rowR 1 rfl (by assumption));rfl);rfl|(with_reducible apply l7 a7);rfl;rfl;rfl;rfl;omega;rfl|(with_reducible apply j4);rfl;rfl;omega;omega;rfl|(with_reducible apply n7 a7);rfl;rfl;exact (rfl:_=some [_,_,_]);rfl|refine yDn (by with_reducible constructor) ?_|(with_reducible apply k8);(iterate 4 rfl);assumption|(with_reducible apply j3);rfl;assumption;rfl;rfl|(with_reducible apply f6);rfl;assumption|(with_reducible apply f8);rfl;rfl|(with_reducible apply d8 hS a7);rfl;rfl;rfl;clear hS;intro g w' hS|(with_reducible apply a0R hS a7);(iterate 7 rfl);clear hS;intro g w' hS|(with_reducible apply b8 hS a7 (i:=0));(iterate 8 rfl);exact (rfl:_=[_,_,_]);clear hS;intro w' hS;simp only [List.set] at hS|(with_reducible apply b9);rfl;all_goals (intro hb hp;try (exfalso;omega))|(with_reducible apply a9);rfl;(apply Ld.sl a7;rfl;exact hS.rowCj 5 rfl hrowi rfl);rfl|(with_reducible apply a2s hS a7 2);(iterate 4 rfl);exact hS.rowRo 0 rfl;rfl;(simp only [xi9,xb1,xa2,xe9];omega);rfl;intro p' cap' w' hS';simp only [List.set] at hS';clear hS;have hS:=hS';clear hS')
     rw [xi9] at hS |-;refine e9 (p',cap',j + 1) (by dsimp only;rw [ha1];exact Fr.sub_of rfl) (by show j + 1<=s.entries.length;omega) (by dsimp only;rw [ha1,ha2];exact hS.drop.drop) (by show s.entries.length - (j + 1) < s.entries.length - j;omega)
   ·have hd2:decide (e.at_=((f:Nat):Int))=false:=xj0 hka;obtain ⟨ha1,ha2⟩:=hadd e (by unfold o8;rw [xf1 (fun h=>hka h.2)])
    repeat' (first|(with_reducible apply a8 a7);rfl;rfl;rfl|(with_reducible apply a9);rfl;(first|apply Ld.sc a7;rfl;exact hS.blkC 0 rfl rfl|apply Ld.sl a7;rfl;exact hS.blkC 2 rfl rfl|apply Ld.st a7;rfl;(first|exact hS.blkR 0 rfl|exact hS.rowR 1 rfl (by assumption));rfl);rfl|(with_reducible apply l7 a7);rfl;rfl;rfl;rfl;omega;rfl|(with_reducible apply j4);rfl;rfl;omega;omega;rfl|refine yDn (by with_reducible constructor) ?_|(with_reducible apply k8);(iterate 4 rfl);assumption|(with_reducible apply j3);rfl;assumption;rfl;rfl|(with_reducible apply f8);rfl;assumption|(with_reducible apply d8 hS a7);rfl;rfl;rfl;clear hS;intro g w' hS|(with_reducible apply a0R hS a7);(iterate 7 rfl);clear hS;intro g w' hS|(with_reducible apply b8 hS a7 (i:=0));(iterate 8 rfl);exact (rfl:_=[_,_,_]);clear hS;intro w' hS;simp only [List.set] at hS|(with_reducible apply b9);rfl;all_goals (intro hb hp;try (exfalso;omega))|(with_reducible apply a9);rfl;(apply Ld.sl a7;rfl;exact hS.rowCj 5 rfl hrowi rfl);rfl|(with_reducible apply a2s hS a7 2);(iterate 4 rfl);exact hS.rowRo 0 rfl;rfl;(simp only [xi9,xb1,xa2,xe9];omega);rfl;intro p' cap' w' hS';simp only [List.set] at hS';clear hS;have hS:=hS';clear hS')
    rw [xi9] at hS |-;refine e9 (p',cap',j + 1) (by dsimp only;rw [ha1];exact Fr.sub_of rfl) (by show j + 1<=s.entries.length;omega) (by dsimp only;rw [ha1,ha2];exact hS.drop.drop) (by show s.entries.length - (j + 1) < s.entries.length - j;omega)
  ·have hd1:decide (e.kind=1)=false:=xj0 hk1;obtain ⟨ha1,ha2⟩:=hadd e (by unfold o8;rw [xf1 (fun h=>hk1 h.1)])
   repeat' (first|(with_reducible apply a8 a7);rfl;rfl;rfl|(with_reducible apply a9);rfl;(first|apply Ld.sc a7;rfl;exact hS.blkC 0 rfl rfl|apply Ld.sl a7;rfl;exact hS.blkC 2 rfl rfl|apply Ld.st a7;rfl;(first|exact hS.blkR 0 rfl|exact hS.rowR 1 rfl (by assumption));rfl);rfl|(with_reducible apply l7 a7);rfl;rfl;rfl;rfl;omega;rfl|(with_reducible apply j4);rfl;rfl;omega;omega;rfl|refine yDn (by with_reducible constructor) ?_|(with_reducible apply x8);(iterate 4 rfl);assumption;rfl|(with_reducible apply f5);rfl;assumption;rfl;rfl|(with_reducible apply f8);rfl;rfl|(with_reducible apply d8 hS a7);rfl;rfl;rfl;clear hS;intro g w' hS|(with_reducible apply a0R hS a7);(iterate 7 rfl);clear hS;intro g w' hS|(with_reducible apply b8 hS a7 (i:=0));(iterate 8 rfl);exact (rfl:_=[_,_,_]);clear hS;intro w' hS;simp only [List.set] at hS|(with_reducible apply b9);rfl;all_goals (intro hb hp;try (exfalso;omega))|(with_reducible apply a9);rfl;(apply Ld.sl a7;rfl;exact hS.rowCj 5 rfl hrowi rfl);rfl|(with_reducible apply a2s hS a7 2);(iterate 4 rfl);exact hS.rowRo 0 rfl;rfl;(simp only [xi9,xb1,xa2,xe9];omega);rfl;intro p' cap' w' hS';simp only [List.set] at hS';clear hS;have hS:=hS';clear hS')
   rw [xi9] at hS |-;refine e9 (p',cap',j + 1) (by dsimp only;rw [ha1];exact Fr.sub_of rfl) (by show j + 1<=s.entries.length;omega) (by dsimp only;rw [ha1,ha2];exact hS.drop.drop) (by show s.entries.length - (j + 1) < s.entries.length - j;omega)
 ·obtain rfl:j=s.entries.length:=by omega
  rw [hMn] at hS |-
  repeat' (first|(with_reducible apply a8 a7);rfl;rfl;rfl|(with_reducible apply a9);rfl;(apply Ld.sl a7;rfl;exact hS.blkC 2 rfl rfl);rfl|(with_reducible apply l7 a7);rfl;rfl;rfl;rfl;omega;rfl|(with_reducible apply j4);rfl;rfl;omega;omega;rfl|refine yDn (by with_reducible constructor) ?_|(with_reducible apply b9);rfl;all_goals (intro hb hp;try (exfalso;omega))|(with_reducible apply a9);rfl;(apply Ld.sl a7;rfl;exact hS.rowCj 5 rfl hrowi rfl);rfl|(with_reducible apply t5 hS a7 (i:=5));(iterate 4 rfl);assumption;(iterate 5 rfl);intro w' hS';simp only [List.set] at hS';clear hS;have hS:=hS';clear hS')
  have hsp1:(SPS.map spC).set i (o6 [.bool s.live,va,.slice pe s.entries.length ce] 2 [.slice pm (s.entries.filterMap (o8 (f:Nat) T)).length cm])=(SPS.set i ⟨z8 (f:Nat) T s,va,.slice pm (s.entries.filterMap (o8 (f:Nat) T)).length cm⟩).map spC:=by
   rw [xl1];rfl
  rw [hsp1] at hS;replace hS:=hS.reorderT 6 [0,2,3,4,5] (by decide) rfl;simp only [v6,xl6,xl7] at hS;replace hS:=St.pushE (y:=⟨z8 (f:Nat) T s,va,.slice pm (s.entries.filterMap (o8 (f:Nat) T)).length cm⟩) hS 4 hx rfl;simp only [xl2,xl3,v6] at hS;refine e9 (i + 1,SPS.set i ⟨z8 (f:Nat) T s,va,.slice pm (s.entries.filterMap (o8 (f:Nat) T)).length cm⟩) (by exact Fr.sub_of rfl) ⟨by show i + 1<=sps.length;omega,by show (SPS.set i _).length=_;rw [xa8];exact hSl,fun j y hy=>?_⟩ (by rw [List.append_nil];exact hS) (by show sps.length - (i + 1) < sps.length - i;omega);obtain ⟨h1,h2⟩:=hinv j y hy;refine ⟨fun h=>?_,fun h=>?_⟩
  ·show (SPS.set i _)[j]?=some y;rw [xn1 (by have:i + 1<=j:=h;omega)];exact h1 (by have:i + 1<=j:=h;omega)
  ·show ∃ ve',(SPS.set i _)[j]?=_;by_cases hij:i=j
   ·subst hij;rw [hx0] at hy
    cases hy
    exact ⟨_,a2f (by omega)⟩
   ·rw [xn1 hij];exact h2 (by have:j < i + 1:=h;omega)
end Go.Proofs.YtejnpppejalhfabGreat
