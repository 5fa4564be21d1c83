/- Texts that the proof stands on, one behind the other: Ke8, Ke9, Ke10, PlKer3. -/
import Derived.Test.YtejnpppejalhfacGreatPKernelMaps7
set_option linter.unusedVariables false
set_option linter.unusedSimpArgs false
namespace Go.Proofs.YtejnpppejalhfacGreat
set_option maxRecDepth 100000
set_option maxHeartbeats 8000000
open Go.RowKit Go.Sort
theorem b2d {F:Nat->Prop} {w0 w:World} {Γ:List Asr} {gl gk gc:Nat} {vsh vF vS vsp:Value} {l:List (Sh×Value)} {NF NS:NL} {sp:List Sp}
  (hS0:St F w0 w (lkS gl (.pointer (some ⟨gk,0,none⟩)) vF vS 0 NF NS++Γ)) (hc:Bs (fps (lkS gl (.pointer (some ⟨gk,0,none⟩)) vF vS 0 NF NS)) w ⟨gc,0,none⟩ (.pointer (some ⟨gl,0,none⟩))) (hk:Bs (fps (lkS gl (.pointer (some ⟨gk,0,none⟩)) vF vS 0 NF NS)) w ⟨gk,0,none⟩ vsh) (hL:ShsF (fps (lkS gl (.pointer (some ⟨gk,0,none⟩)) vF vS 0 NF NS)) w l vsh) (hr:a0u 0 (shs l)=true)
  (hsl:Sl (fps (lkS gl (.pointer (some ⟨gk,0,none⟩)) vF vS 0 NF NS)) w 3 vsp (sp.map spC)) (hp:∀ p ∈ sp,SpF (fps (lkS gl (.pointer (some ⟨gk,0,none⟩)) vF vS 0 NF NS)) w p) (h4:sp.length<=4) (hF:∀ x ∈ NF,x.2=[]) (hSl:∀ x ∈ NS,x.2=[]) :
  Fn Tryz.prog 125 [vsp,.func (.func 126) #[] #[.pointer (some ⟨gc,0,none⟩)]] w (fun v w'=>v=.bool (!(sp.map (·.s)).all (r6 (shs l) NF.length NS.length))/\∃ NF' NS' room',St (fps (lkS gl (.pointer (some ⟨gk,0,none⟩)) vF vS 0 NF NS)) w w' (lkS gl (.pointer (some ⟨gk,0,none⟩)) vF vS room' NF' NS')/\((sp.map (·.s)).all (r6 (shs l) NF.length NS.length)=true->room'=o8 (sp.map (·.s))/\Grown NF NF' 1 (a04 (sp.map (·.s)))/\Grown NS NS' 2 (a04 (sp.map (·.s))))):=by
 have hcall:=b3t hS0 hc hk hL hr hsl hp h4 hF hSl;refine yEn Tryz.func125 Tryz.ntmps125 (by kernel_rfl) (by kernel_rfl) rfl rfl ?_
 repeat' (first|(with_reducible apply d5 c9);rfl;rfl;rfl|refine yDn (by with_reducible constructor) ?_|(with_reducible apply l9);rfl;rfl;rfl;refine ⟨_,hcall,?_⟩;rintro _ w2 ⟨⟨i,rfl,hi⟩,NF',NS',room',h2,hg⟩)
 (refine l4 rfl ?_)
 exact ⟨by rw [hi],NF',NS',room',h2,hg⟩
theorem a5J {A:List Ar} {nf ns:Int} (hc:g6 A=0):∀ {es:List En} {last:Int},a03 A nf ns last es=true->∀ e ∈ es,last < e.page/\e.page<=255
 |[],_,_,_,h=>by simp at h
 |e::es,last,h,x,hx=>by
  replace h:(a1C A nf ns last e && a03 A nf ns e.page es)=true:=h;rw [xb1] at h;have h1:=h.1;unfold a1C at h1;rw [xb1,xb2] at h1;obtain ⟨hs,hl,-⟩:=h1;obtain ⟨a,ha⟩:=xh7.1 hs;have h2:=xi0 ha;have h3:=(a39 hc ha).1;unfold y8 at h2;rw [xb2] at h2;unfold Ar.ok at h3;unfold Ar.fin at h2;rcases xc3.1 hx with rfl|hx
  ·omega
  ·have:=a5J hc h.2 x hx;omega
theorem a71 {l:List Sh} {nf ns:Int} {L:List Sc} (h:L.all (r6 l nf ns)=true):∀ n ∈ a04 L,-1000000<=n.1.page/\n.1.page<=1000000:=by
 intro n hn;unfold a04 at hn;obtain ⟨s,hs,hn⟩:=xh5.1 hn;obtain ⟨e,he,rfl⟩:=xh6.1 hn;have h1:=xc6.1 h s hs;unfold r6 at h1;by_cases hl:s.live=true
 ·rw [xe6 hl,xb1,xb1,xb2] at h1;have:=a5J h1.1 h1.2.2 e he;show -1000000<=e.page/\e.page<=1000000;omega
 ·rw [xe7 hl,xb2] at h1;rw [h1.2] at he
  cases he
theorem a7w {F:Nat->Prop} {w0 w:World} {Γ:List Asr} (h:St F w0 w Γ):∀ n:Nat,St F w0 w (nlR (List.replicate n (.slice none 0 0,[]))++Γ)
 |0=>h
 |n + 1=>(a7w h n).addNil _ _
theorem a9a {w:World} {k:KV} (hK:KerV w k):Fn Tryz.prog 78 [.agg (kvC k).toArray] w (RBf (.int .i64 (a09 k.K)) w):=by
 have b1:=hK.fr.bound;have b2:=hK.sl.bound;have b3:=hK.sp.bound;have b4:=hK.sh.sl.bound;have hK0:=hK;obtain ⟨sh,fr,sl,sp,hand,vsh,vfr,vsl,vsp⟩:=k;obtain ⟨k1,k2,k3,k4,k5⟩:=hK;dsimp only at b1 b2 b3 b4 k1 k2 k3 k4 k5;obtain ⟨p1,c1,rfl⟩:=k1.sl.len;obtain ⟨p2,c2,rfl⟩:=k2.len;obtain ⟨p3,c3,rfl⟩:=k3.len;obtain ⟨p4,c4,rfl⟩:=k4.len;unfold kvC a09 KV.K;dsimp only;by_cases hcnt:a1s ⟨shs sh,fr,sl,sp.map (·.s),hand⟩=true;rotate_left
 ·rw [xe7 hcnt];unfold a1s at hcnt;rw [xb2] at hcnt;dsimp only at hcnt;rw [xi3,a1u] at hcnt;refine yEn Tryz.func78 Tryz.ntmps78 (by kernel_rfl) (by kernel_rfl) rfl rfl ?_;have hS:=St.start w
  repeat' (first|(with_reducible apply d5 c9);rfl;rfl;rfl|(with_reducible apply d6);rfl;(apply Ld.sl c9;rfl;exact hS.blkC 0 rfl rfl);rfl|refine yDn (by with_reducible constructor) ?_|(with_reducible apply l8);(iterate 4 rfl);assumption|(with_reducible apply a0a);(iterate 4 rfl);(first|rfl|assumption);rfl|(with_reducible apply j9);rfl;(first|rfl|assumption);rfl;rfl|(with_reducible apply i4);rfl;assumption;rfl;rfl|(with_reducible apply i6);rfl;rfl|(with_reducible apply j6 hS);rfl;rfl;rfl;clear hS;intro g w' hS|(with_reducible apply s7);rfl;rfl;rfl;all_goals (intro hb hp;try (exfalso;omega))|(with_reducible apply d8);rfl;all_goals (intro hb hp;try (exfalso;omega)))
  all_goals (apply a22)
  all_goals (repeat (first|exact ResL.nil|apply ResL.tmp;rfl))
  all_goals (exact ⟨rfl,hS.sub (xi4 _)⟩)
 rw [xe6 hcnt];unfold a1s at hcnt;rw [xb2,xi3,a1u] at hcnt;have hshe:=fun w1 (h:ShsV w1 sh (.slice p1 sh.length c1))=>a9S h;generalize hnf:fr.length=nf at *;generalize hns:sl.length=ns at *;refine yEn Tryz.func78 Tryz.ntmps78 (by kernel_rfl) (by kernel_rfl) rfl rfl ?_;have hS:=St.start w
 repeat' (first|(with_reducible apply d5 c9);rfl;rfl;rfl|(with_reducible apply d6);rfl;(apply Ld.sl c9;rfl;exact hS.blkC 0 rfl rfl);rfl|refine yDn (by with_reducible constructor) ?_|(with_reducible apply l8);(iterate 4 rfl);assumption|(with_reducible apply i4);rfl;assumption;rfl;rfl|(with_reducible apply j6 hS);rfl;rfl;rfl;clear hS;intro g w' hS|(with_reducible apply s7);rfl;rfl;rfl;all_goals (intro hb hp;try (exfalso;omega))|(with_reducible apply d8);rfl;all_goals (intro hb hp;try (exfalso;omega)))
 rename Nat=>gk
 refine b17 (F:=nF) (w0:=w) (X:=Nat×Nat×Nat×Nat) (fun x=>[(1,.pointer (some ⟨gk,0,none⟩)),(3,.pointer (some ⟨x.2.2.2,0,none⟩))]) (fun x=>[.blk x.2.2.2 [.pointer (some ⟨x.2.2.1,0,none⟩)],.blk gk [.slice p1 sh.length c1,.slice p2 nf c2,.slice p3 ns c3,.slice p4 sp.length c4,.int .i64 hand],.blk x.2.2.1 [.pointer (some ⟨gk,0,none⟩),.slice (some ⟨x.1,0,none⟩) nf nf,.slice (some ⟨x.2.1,0,none⟩) ns ns,.int .i64 0],.row 202 1 (.slice (some ⟨x.1,0,none⟩) nf nf) (List.replicate nf [.slice none 0 0]),.row 202 1 (.slice (some ⟨x.2.1,0,none⟩) ns ns) (List.replicate ns [.slice none 0 0])]) (fun _=>True) ?_ ?_
 ·refine b0G 1 12 rfl hS (by kernel_rfl) ?_;intro w1 hS';clear hS;have hS:=hS';clear hS';simp only [xl5,xl6]
  ((with_reducible apply a2I (nn 0) c9);rfl;kernel_rfl;kernel_rfl;kernel_rfl;exact (fun _ _ _ h=>h);exact hS;rfl;rfl)
  ((with_reducible apply a0o (nn 1));rfl;kernel_rfl;exact (fun _ _ _ h=>h);exact hS;rfl;(intro wd hd;replace hd:St _ _ wd _:=hd;(apply Ld.sl c9;rfl;exact hd.blkC 0 rfl rfl));rfl)
  ((with_reducible apply t6 (nn 2) c9);rfl;kernel_rfl;exact (fun _ _ _ h=>h);exact hS;rfl;rfl)
  ((with_reducible apply t6 (nn 4) c9);rfl;kernel_rfl;exact (fun _ _ _ h=>h);exact hS;rfl;rfl)
  ((with_reducible apply a0o (nn 5));rfl;kernel_rfl;exact (fun _ _ _ h=>h);exact hS;rfl;(intro wd hd;replace hd:St _ _ wd _:=hd;(apply Ld.sl c9;rfl;exact hd.blkC 0 rfl rfl));rfl)
  ((with_reducible apply t6 (nn 6) c9);rfl;kernel_rfl;exact (fun _ _ _ h=>h);exact hS;rfl;rfl)
  refine b5k (i:=3) (j:=7) (l:=10) (by kernel_rfl) ?_ ?_ ?_
  ·refine n7 rfl (a1K hS c9 (m:=nf) rfl rfl rfl rfl rfl (by omega) (by omega) rfl) rfl ?_;rintro _ w' ⟨gF,rfl,hS'⟩;clear hS;have hS:=hS';clear hS';refine ⟨(hS.sub (by repeat (first|exact xk7 _|apply xl0))),?_⟩;refine a4t (i:=7) (j:=10) (by kernel_rfl) ?_ ?_
   ·refine n7 rfl (a1K hS c9 (m:=ns) rfl rfl rfl rfl rfl (by omega) (by omega) rfl) rfl ?_;rintro _ w' ⟨gS,rfl,hS'⟩;clear hS;have hS:=hS';clear hS';refine ⟨(hS.sub (by repeat (first|exact xk7 _|apply xl0))),?_⟩
    ((with_reducible apply a1R (nn 8) c9);rfl;kernel_rfl;kernel_rfl;kernel_rfl;exact (fun _ _ _ _ h=>h);exact (hS.sub (by repeat (first|exact xk7 _|apply xl0)));rfl;rfl;exact (rfl:_=some [_,_,_,_]);rfl)
    refine a4t (i:=9) (j:=10) (by kernel_rfl) ?_ ?_
    ·refine n7 rfl (a3C hS rfl) rfl ?_;rintro _ w' ⟨gl,rfl,hS'⟩;replace hS':St _ _ w' (.blk gl [.pointer (some ⟨gk,0,none⟩),.slice (some ⟨gF,0,none⟩) nf nf,.slice (some ⟨gS,0,none⟩) ns ns,.int .i64 0]::_):=hS';clear hS;have hS:=hS';clear hS';refine ⟨(hS.sub (by repeat (first|exact xk7 _|apply xl0))),?_⟩;refine s8 (i:=10) (by kernel_rfl) ?_;refine n7 rfl (t8 hS c9 rfl rfl) rfl ?_;rintro _ w' ⟨gc,rfl,hS'⟩;clear hS;have hS:=hS';clear hS';refine ⟨(hS.sub (by repeat (first|exact xk7 _|apply xl0))),?_⟩;refine s8 (i:=11) (by kernel_rfl) ?_;refine a0e (Φ:=fun _ w'=>St _ _ w' _) rfl (s9 hS c9 (i:=0) rfl rfl rfl rfl rfl (xf6 rfl) (xc6.1 rfl)) ?_;intro _ w' hS';simp only [List.set] at hS';clear hS;have hS:=hS';clear hS';refine ⟨(hS.sub (by repeat (first|exact xk7 _|apply xl0))),?_⟩;refine a0B (by kernel_rfl) ?_;replace hS:=St.reorder [0,4,1,3,2] hS (by decide) rfl;exact a1Y (gF,gS,gl,gc) (by exact Fr.sub_of rfl) trivial hS
    ·refine n7 rfl (t8 hS c9 rfl rfl) rfl ?_;rintro _ w' ⟨gc,rfl,hS'⟩;clear hS;have hS:=hS';clear hS';refine ⟨(hS.sub (by repeat (first|exact xk7 _|apply xl0))),?_⟩;refine s8 (i:=9) (by kernel_rfl) ?_;refine n7 rfl (a3C hS rfl) rfl ?_;rintro _ w' ⟨gl,rfl,hS'⟩;replace hS':St _ _ w' (.blk gl [.pointer (some ⟨gk,0,none⟩),.slice (some ⟨gF,0,none⟩) nf nf,.slice (some ⟨gS,0,none⟩) ns ns,.int .i64 0]::_):=hS';clear hS;have hS:=hS';clear hS';refine ⟨(hS.sub (by repeat (first|exact xk7 _|apply xl0))),?_⟩;refine s8 (i:=11) (by kernel_rfl) ?_;refine a0e (Φ:=fun _ w'=>St _ _ w' _) rfl (s9 hS c9 (i:=1) rfl rfl rfl rfl rfl (xf6 rfl) (xc6.1 rfl)) ?_;intro _ w' hS';simp only [List.set] at hS';clear hS;have hS:=hS';clear hS';refine ⟨(hS.sub (by repeat (first|exact xk7 _|apply xl0))),?_⟩;refine a0B (by kernel_rfl) ?_;replace hS:=St.reorder [1,4,0,3,2] hS (by decide) rfl;exact a1Y (gF,gS,gl,gc) (by exact Fr.sub_of rfl) trivial hS
   ·refine n7 rfl (t8 hS c9 rfl rfl) rfl ?_;rintro _ w' ⟨gc,rfl,hS'⟩;clear hS;have hS:=hS';clear hS';refine ⟨(hS.sub (by repeat (first|exact xk7 _|apply xl0))),?_⟩;refine s8 (i:=7) (by kernel_rfl) ?_;refine n7 rfl (a1K hS c9 (m:=ns) rfl rfl rfl rfl rfl (by omega) (by omega) rfl) rfl ?_;rintro _ w' ⟨gS,rfl,hS'⟩;clear hS;have hS:=hS';clear hS';refine ⟨(hS.sub (by repeat (first|exact xk7 _|apply xl0))),?_⟩
    ((with_reducible apply a1R (nn 8) c9);rfl;kernel_rfl;kernel_rfl;kernel_rfl;exact (fun _ _ _ _ h=>h);exact (hS.sub (by repeat (first|exact xk7 _|apply xl0)));rfl;rfl;exact (rfl:_=some [_,_,_,_]);rfl)
    refine s8 (i:=9) (by kernel_rfl) ?_;refine n7 rfl (a3C hS rfl) rfl ?_;rintro _ w' ⟨gl,rfl,hS'⟩;replace hS':St _ _ w' (.blk gl [.pointer (some ⟨gk,0,none⟩),.slice (some ⟨gF,0,none⟩) nf nf,.slice (some ⟨gS,0,none⟩) ns ns,.int .i64 0]::_):=hS';clear hS;have hS:=hS';clear hS';refine ⟨(hS.sub (by repeat (first|exact xk7 _|apply xl0))),?_⟩;refine s8 (i:=11) (by kernel_rfl) ?_;refine a0e (Φ:=fun _ w'=>St _ _ w' _) rfl (s9 hS c9 (i:=2) rfl rfl rfl rfl rfl (xf6 rfl) (xc6.1 rfl)) ?_;intro _ w' hS';simp only [List.set] at hS';clear hS;have hS:=hS';clear hS';refine ⟨(hS.sub (by repeat (first|exact xk7 _|apply xl0))),?_⟩;refine a0B (by kernel_rfl) ?_;replace hS:=St.reorder [2,4,0,3,1] hS (by decide) rfl;exact a1Y (gF,gS,gl,gc) (by exact Fr.sub_of rfl) trivial hS
  ·refine n7 rfl (a1K hS c9 (m:=ns) rfl rfl rfl rfl rfl (by omega) (by omega) rfl) rfl ?_;rintro _ w' ⟨gS,rfl,hS'⟩;clear hS;have hS:=hS';clear hS';refine ⟨(hS.sub (by repeat (first|exact xk7 _|apply xl0))),?_⟩;refine a4t (i:=3) (j:=10) (by kernel_rfl) ?_ ?_
   ·refine n7 rfl (a1K hS c9 (m:=nf) rfl rfl rfl rfl rfl (by omega) (by omega) rfl) rfl ?_;rintro _ w' ⟨gF,rfl,hS'⟩;clear hS;have hS:=hS';clear hS';refine ⟨(hS.sub (by repeat (first|exact xk7 _|apply xl0))),?_⟩
    ((with_reducible apply a1R (nn 8) c9);rfl;kernel_rfl;kernel_rfl;kernel_rfl;exact (fun _ _ _ _ h=>h);exact (hS.sub (by repeat (first|exact xk7 _|apply xl0)));rfl;rfl;exact (rfl:_=some [_,_,_,_]);rfl)
    refine a4t (i:=9) (j:=10) (by kernel_rfl) ?_ ?_
    ·refine n7 rfl (a3C hS rfl) rfl ?_;rintro _ w' ⟨gl,rfl,hS'⟩;replace hS':St _ _ w' (.blk gl [.pointer (some ⟨gk,0,none⟩),.slice (some ⟨gF,0,none⟩) nf nf,.slice (some ⟨gS,0,none⟩) ns ns,.int .i64 0]::_):=hS';clear hS;have hS:=hS';clear hS';refine ⟨(hS.sub (by repeat (first|exact xk7 _|apply xl0))),?_⟩;refine s8 (i:=10) (by kernel_rfl) ?_;refine n7 rfl (t8 hS c9 rfl rfl) rfl ?_;rintro _ w' ⟨gc,rfl,hS'⟩;clear hS;have hS:=hS';clear hS';refine ⟨(hS.sub (by repeat (first|exact xk7 _|apply xl0))),?_⟩;refine s8 (i:=11) (by kernel_rfl) ?_;refine a0e (Φ:=fun _ w'=>St _ _ w' _) rfl (s9 hS c9 (i:=0) rfl rfl rfl rfl rfl (xf6 rfl) (xc6.1 rfl)) ?_;intro _ w' hS';simp only [List.set] at hS';clear hS;have hS:=hS';clear hS';refine ⟨(hS.sub (by repeat (first|exact xk7 _|apply xl0))),?_⟩;refine a0B (by kernel_rfl) ?_;replace hS:=St.reorder [0,4,1,2,3] hS (by decide) rfl;exact a1Y (gF,gS,gl,gc) (by exact Fr.sub_of rfl) trivial hS
    ·refine n7 rfl (t8 hS c9 rfl rfl) rfl ?_;rintro _ w' ⟨gc,rfl,hS'⟩;clear hS;have hS:=hS';clear hS';refine ⟨(hS.sub (by repeat (first|exact xk7 _|apply xl0))),?_⟩;refine s8 (i:=9) (by kernel_rfl) ?_;refine n7 rfl (a3C hS rfl) rfl ?_;rintro _ w' ⟨gl,rfl,hS'⟩;replace hS':St _ _ w' (.blk gl [.pointer (some ⟨gk,0,none⟩),.slice (some ⟨gF,0,none⟩) nf nf,.slice (some ⟨gS,0,none⟩) ns ns,.int .i64 0]::_):=hS';clear hS;have hS:=hS';clear hS';refine ⟨(hS.sub (by repeat (first|exact xk7 _|apply xl0))),?_⟩;refine s8 (i:=11) (by kernel_rfl) ?_;refine a0e (Φ:=fun _ w'=>St _ _ w' _) rfl (s9 hS c9 (i:=1) rfl rfl rfl rfl rfl (xf6 rfl) (xc6.1 rfl)) ?_;intro _ w' hS';simp only [List.set] at hS';clear hS;have hS:=hS';clear hS';refine ⟨(hS.sub (by repeat (first|exact xk7 _|apply xl0))),?_⟩;refine a0B (by kernel_rfl) ?_;replace hS:=St.reorder [1,4,0,2,3] hS (by decide) rfl;exact a1Y (gF,gS,gl,gc) (by exact Fr.sub_of rfl) trivial hS
   ·refine n7 rfl (t8 hS c9 rfl rfl) rfl ?_;rintro _ w' ⟨gc,rfl,hS'⟩;clear hS;have hS:=hS';clear hS';refine ⟨(hS.sub (by repeat (first|exact xk7 _|apply xl0))),?_⟩;refine s8 (i:=3) (by kernel_rfl) ?_;refine n7 rfl (a1K hS c9 (m:=nf) rfl rfl rfl rfl rfl (by omega) (by omega) rfl) rfl ?_;rintro _ w' ⟨gF,rfl,hS'⟩;clear hS;have hS:=hS';clear hS';refine ⟨(hS.sub (by repeat (first|exact xk7 _|apply xl0))),?_⟩
    ((with_reducible apply a1R (nn 8) c9);rfl;kernel_rfl;kernel_rfl;kernel_rfl;exact (fun _ _ _ _ h=>h);exact (hS.sub (by repeat (first|exact xk7 _|apply xl0)));rfl;rfl;exact (rfl:_=some [_,_,_,_]);rfl)
    refine s8 (i:=9) (by kernel_rfl) ?_;refine n7 rfl (a3C hS rfl) rfl ?_;rintro _ w' ⟨gl,rfl,hS'⟩;replace hS':St _ _ w' (.blk gl [.pointer (some ⟨gk,0,none⟩),.slice (some ⟨gF,0,none⟩) nf nf,.slice (some ⟨gS,0,none⟩) ns ns,.int .i64 0]::_):=hS';clear hS;have hS:=hS';clear hS';refine ⟨(hS.sub (by repeat (first|exact xk7 _|apply xl0))),?_⟩;refine s8 (i:=11) (by kernel_rfl) ?_;refine a0e (Φ:=fun _ w'=>St _ _ w' _) rfl (s9 hS c9 (i:=2) rfl rfl rfl rfl rfl (xf6 rfl) (xc6.1 rfl)) ?_;intro _ w' hS';simp only [List.set] at hS';clear hS;have hS:=hS';clear hS';refine ⟨(hS.sub (by repeat (first|exact xk7 _|apply xl0))),?_⟩;refine a0B (by kernel_rfl) ?_;replace hS:=St.reorder [2,4,0,1,3] hS (by decide) rfl;exact a1Y (gF,gS,gl,gc) (by exact Fr.sub_of rfl) trivial hS
  ·refine n7 rfl (t8 hS c9 rfl rfl) rfl ?_;rintro _ w' ⟨gc,rfl,hS'⟩;clear hS;have hS:=hS';clear hS';refine ⟨(hS.sub (by repeat (first|exact xk7 _|apply xl0))),?_⟩;refine a4t (i:=3) (j:=7) (by kernel_rfl) ?_ ?_
   ·refine n7 rfl (a1K hS c9 (m:=nf) rfl rfl rfl rfl rfl (by omega) (by omega) rfl) rfl ?_;rintro _ w' ⟨gF,rfl,hS'⟩;clear hS;have hS:=hS';clear hS';refine ⟨(hS.sub (by repeat (first|exact xk7 _|apply xl0))),?_⟩;refine s8 (i:=7) (by kernel_rfl) ?_;refine n7 rfl (a1K hS c9 (m:=ns) rfl rfl rfl rfl rfl (by omega) (by omega) rfl) rfl ?_;rintro _ w' ⟨gS,rfl,hS'⟩;clear hS;have hS:=hS';clear hS';refine ⟨(hS.sub (by repeat (first|exact xk7 _|apply xl0))),?_⟩
    ((with_reducible apply a1R (nn 8) c9);rfl;kernel_rfl;kernel_rfl;kernel_rfl;exact (fun _ _ _ _ h=>h);exact (hS.sub (by repeat (first|exact xk7 _|apply xl0)));rfl;rfl;exact (rfl:_=some [_,_,_,_]);rfl)
    refine s8 (i:=9) (by kernel_rfl) ?_;refine n7 rfl (a3C hS rfl) rfl ?_;rintro _ w' ⟨gl,rfl,hS'⟩;replace hS':St _ _ w' (.blk gl [.pointer (some ⟨gk,0,none⟩),.slice (some ⟨gF,0,none⟩) nf nf,.slice (some ⟨gS,0,none⟩) ns ns,.int .i64 0]::_):=hS';clear hS;have hS:=hS';clear hS';refine ⟨(hS.sub (by repeat (first|exact xk7 _|apply xl0))),?_⟩;refine s8 (i:=11) (by kernel_rfl) ?_;refine a0e (Φ:=fun _ w'=>St _ _ w' _) rfl (s9 hS c9 (i:=3) rfl rfl rfl rfl rfl (xf6 rfl) (xc6.1 rfl)) ?_;intro _ w' hS';simp only [List.set] at hS';clear hS;have hS:=hS';clear hS';refine ⟨(hS.sub (by repeat (first|exact xk7 _|apply xl0))),?_⟩;refine a0B (by kernel_rfl) ?_;replace hS:=St.reorder [3,4,0,2,1] hS (by decide) rfl;exact a1Y (gF,gS,gl,gc) (by exact Fr.sub_of rfl) trivial hS
   ·refine n7 rfl (a1K hS c9 (m:=ns) rfl rfl rfl rfl rfl (by omega) (by omega) rfl) rfl ?_;rintro _ w' ⟨gS,rfl,hS'⟩;clear hS;have hS:=hS';clear hS';refine ⟨(hS.sub (by repeat (first|exact xk7 _|apply xl0))),?_⟩;refine s8 (i:=3) (by kernel_rfl) ?_;refine n7 rfl (a1K hS c9 (m:=nf) rfl rfl rfl rfl rfl (by omega) (by omega) rfl) rfl ?_;rintro _ w' ⟨gF,rfl,hS'⟩;clear hS;have hS:=hS';clear hS';refine ⟨(hS.sub (by repeat (first|exact xk7 _|apply xl0))),?_⟩
    ((with_reducible apply a1R (nn 8) c9);rfl;kernel_rfl;kernel_rfl;kernel_rfl;exact (fun _ _ _ _ h=>h);exact (hS.sub (by repeat (first|exact xk7 _|apply xl0)));rfl;rfl;exact (rfl:_=some [_,_,_,_]);rfl)
    refine s8 (i:=9) (by kernel_rfl) ?_;refine n7 rfl (a3C hS rfl) rfl ?_;rintro _ w' ⟨gl,rfl,hS'⟩;replace hS':St _ _ w' (.blk gl [.pointer (some ⟨gk,0,none⟩),.slice (some ⟨gF,0,none⟩) nf nf,.slice (some ⟨gS,0,none⟩) ns ns,.int .i64 0]::_):=hS';clear hS;have hS:=hS';clear hS';refine ⟨(hS.sub (by repeat (first|exact xk7 _|apply xl0))),?_⟩;refine s8 (i:=11) (by kernel_rfl) ?_;refine a0e (Φ:=fun _ w'=>St _ _ w' _) rfl (s9 hS c9 (i:=3) rfl rfl rfl rfl rfl (xf6 rfl) (xc6.1 rfl)) ?_;intro _ w' hS';simp only [List.set] at hS';clear hS;have hS:=hS';clear hS';refine ⟨(hS.sub (by repeat (first|exact xk7 _|apply xl0))),?_⟩;refine a0B (by kernel_rfl) ?_;replace hS:=St.reorder [3,4,0,1,2] hS (by decide) rfl;exact a1Y (gF,gS,gl,gc) (by exact Fr.sub_of rfl) trivial hS
 clear hS;rintro ⟨gF,gS,gl,gc⟩ w1 - hS;dsimp only at hS |-
 repeat (with_reducible apply b11)
 have hform:∀ b:Bool,a4U ⟨shs sh,fr,sl,sp.map (·.s),hand⟩=b->(if a4U ⟨shs sh,fr,sl,sp.map (·.s),hand⟩=true then (0:Int) else 1)=if b=true then 0 else 1:=fun b h=>by rw [h]
 have hfe:a4U ⟨shs sh,fr,sl,sp.map (·.s),hand⟩=((a0u 0 (shs sh) && decide (0<=hand/\hand < (nf:Int))) && ((sp.map (·.s)).all (r6 (shs sh) nf ns) && (decide (o8 (sp.map (·.s))<=(ns:Int)) && (a0t ⟨shs sh,fr,sl,sp.map (·.s),hand⟩ && a1j ⟨shs sh,fr,sl,sp.map (·.s),hand⟩)))):=by
  rw [<- hnf,<- hns];rfl
 cases hsh:a0u 0 (shs sh) with
 |false=>
  rw [hsh] at hshe hfe;rw [xi5,xi5] at hfe;rw [hfe]
  (focus ((with_reducible apply d9 _ _ _ (by kernel_rfl) (by kernel_rfl) hS);(repeat' (first|(first|(with_reducible apply g8 c9);rfl;rfl|(with_reducible apply i7);rfl;(intro wd hd;replace hd:St _ _ wd _:=hd;(apply Ld.sl c9;rfl;exact hd.blkC 1 rfl rfl));rfl|(first|(with_reducible apply a1I);(iterate 4 rfl);rfl;rfl|(with_reducible apply q7);rfl;rfl;rfl;rfl))|(with_reducible apply s5);rfl;rfl;rfl;refine ⟨_,fun wd hd=>hshe _ (k1.now hd),?_⟩));all_goals ((with_reducible apply k8);intro w' hS';clear hS;have hS:=hS';clear hS')))
  repeat' (first|(with_reducible apply d5 c9);rfl;rfl;rfl|refine yDn (by with_reducible constructor) ?_|(with_reducible apply i6);rfl;rfl)
  (refine l4 rfl ?_)
  exact ⟨rfl,hS.sub (xi4 _)⟩
 |true=>
  rw [hsh] at hshe hfe;rw [xi6] at hfe;by_cases hh:0<=hand/\hand < (nf:Int);rotate_left
  ·rw [xi7 hh,xi5] at hfe;rw [hfe]
   (focus ((with_reducible apply d9 _ _ _ (by kernel_rfl) (by kernel_rfl) hS);(repeat' (first|(first|(with_reducible apply g8 c9);rfl;rfl|(with_reducible apply i7);rfl;(intro wd hd;replace hd:St _ _ wd _:=hd;(first|apply Ld.sc c9;rfl;exact hd.blkC 1 rfl rfl|apply Ld.sl c9;rfl;exact hd.blkC 1 rfl rfl));rfl|(first|((with_reducible apply y7);(iterate 4 rfl);first|rfl|assumption)|(with_reducible apply a1I);(iterate 4 rfl);(first|rfl|assumption);rfl|(with_reducible apply y5);rfl;rfl;rfl;all_goals (intro hb hp;try (exfalso;omega))|(with_reducible apply q7);rfl;(first|rfl|assumption);rfl;rfl|(with_reducible apply o5);rfl;(first|rfl|assumption);rfl;rfl))|(with_reducible apply s5);rfl;rfl;rfl;refine ⟨_,fun wd hd=>hshe _ (k1.now hd),?_⟩));all_goals ((with_reducible apply k8);intro w' hS';clear hS;have hS:=hS';clear hS')))
   all_goals (repeat' (first|(with_reducible apply a7Q c9);rfl;rfl|(first|(with_reducible first|apply b11|apply a8S|apply b5B|apply b3u|apply b5C|apply a54))|(with_reducible apply i6);rfl;rfl))
   all_goals (apply a22)
   all_goals (repeat (first|exact ResL.nil|apply ResL.tmp;rfl))
   all_goals (exact ⟨rfl,hS.sub (xi4 _)⟩)
  rw [xi8 hh,xi6] at hfe;replace hS:=St.reorder [2,3,4,0,1] hS (by decide) rfl;have hS2:St nF w w1 (lkS gl (.pointer (some ⟨gk,0,none⟩)) (.slice (some ⟨gF,0,none⟩) nf nf) (.slice (some ⟨gS,0,none⟩) ns ns) 0 (List.replicate nf (.slice none 0 0,[])) (List.replicate ns (.slice none 0 0,[]))++[.blk gc [.pointer (some ⟨gl,0,none⟩)],.blk gk [.slice p1 sh.length c1,.slice p2 nf c2,.slice p3 ns c3,.slice p4 sp.length c4,.int .i64 hand]]):=by
   have h3:=a7w (a7w hS ns) nf;unfold lkS nlC;rw [xp4,xp4];rw [<- xf4] at h3;refine h3.perm ?_;show (_++([_,_,_]++[_,_])).Perm (([_,_,_]++_)++[_,_]);rw [<- xf4];exact List.perm_append_comm.append_right _
  clear hS;have hS:=hS2.perm xl8;clear hS2;simp only [List.cons_append,List.nil_append] at hS;have hd1:decide (hand < 0)=false:=xi7 (by omega);have hd2:decide ((nf:Int)<=hand)=false:=xi7 (by omega);refine b0G 2 33 rfl hS (by kernel_rfl) ?_;intro w2 hS';clear hS;have hS:=hS';clear hS';simp only [xl5,xl6];have hH:=hS.sub (xl7 [_,_] _)
  ((with_reducible apply a2I (nn 0) c9);rfl;kernel_rfl;kernel_rfl;kernel_rfl;exact (fun _ _ _ h=>h);exact hH;rfl;rfl)
  ((with_reducible apply b0r (nn 1));rfl;kernel_rfl;kernel_rfl;kernel_rfl;exact (fun _ _ _ h=>h);exact hH;rfl;(intro wd hd;replace hd:St _ _ wd _:=hd;(apply Ld.sl c9;rfl;exact hd.blkC 1 rfl rfl));rfl)
  refine s8 (i:=2) (by kernel_rfl) ?_;refine n7 rfl (a1k (first:=[]) (caps:=[]) rfl rfl (hshe _ (k1.now hS))) rfl ?_;rintro _ w' ⟨rfl,hS'⟩;replace hS:=hS.transA hS';simp only [t5] at hS;clear hS';refine ⟨(hS.sub (xl7 [_,_] _)),?_⟩;have hH:=hS.sub (xl7 [_,_] _)
  ((with_reducible apply a2I (nn 3) c9);rfl;kernel_rfl;kernel_rfl;kernel_rfl;exact (fun _ _ _ h=>h);exact hH;rfl;rfl);((with_reducible apply a2I (nn 4) c9);rfl;kernel_rfl;kernel_rfl;kernel_rfl;exact (fun _ _ _ h=>h);exact hH;rfl;rfl);((with_reducible apply a0H (nn 5));rfl;kernel_rfl;kernel_rfl;kernel_rfl;exact (fun _ _ _ h=>h);exact hH;(iterate 4 rfl);rfl;exact (fun a ha=>m7 c9 ha rfl);rfl);((with_reducible apply a2q (nn 6));rfl;kernel_rfl;kernel_rfl;kernel_rfl;exact (fun _ _ _ h=>h);exact hH;(iterate 4 rfl);rfl;rfl;(intro wd hd;replace hd:St _ _ wd _:=hd;(apply Ld.sc c9;rfl;exact hd.blkC 1 rfl rfl));rfl);((with_reducible apply a0H (nn 7));rfl;kernel_rfl;kernel_rfl;kernel_rfl;exact (fun _ _ _ h=>h);exact hH;(iterate 4 rfl);rfl;exact (fun a ha=>m7 c9 ha rfl);rfl);((with_reducible apply a2f (nn 8));rfl;kernel_rfl;kernel_rfl;kernel_rfl;exact (fun _ _ _ h=>h);exact hH;exact a36 rfl (by (rfl)) rfl;rfl);((with_reducible apply a2I (nn 9) c9);rfl;kernel_rfl;kernel_rfl;kernel_rfl;exact (fun _ _ _ h=>h);exact hH;rfl;rfl);((with_reducible apply a0H (nn 10));rfl;kernel_rfl;kernel_rfl;kernel_rfl;exact (fun _ _ _ h=>h);exact hH;(iterate 4 rfl);assumption;exact (fun a ha=>m7 c9 ha rfl);rfl);((with_reducible apply a2q (nn 11));rfl;kernel_rfl;kernel_rfl;kernel_rfl;exact (fun _ _ _ h=>h);exact hH;(iterate 4 rfl);assumption;rfl;(intro wd hd;replace hd:St _ _ wd _:=hd;(apply Ld.sc c9;rfl;exact hd.blkC 1 rfl rfl));rfl);((with_reducible apply a0H (nn 12));rfl;kernel_rfl;kernel_rfl;kernel_rfl;exact (fun _ _ _ h=>h);exact hH;(iterate 4 rfl);assumption;exact (fun a ha=>m7 c9 ha rfl);rfl);((with_reducible apply a2q (nn 13));rfl;kernel_rfl;kernel_rfl;kernel_rfl;exact (fun _ _ _ h=>h);exact hH;(iterate 4 rfl);assumption;rfl;(intro wd hd;replace hd:St _ _ wd _:=hd;(apply Ld.sl c9;rfl;exact hd.blkC 1 rfl rfl));rfl);((with_reducible apply a0H (nn 14));rfl;kernel_rfl;kernel_rfl;kernel_rfl;exact (fun _ _ _ h=>h);exact hH;(iterate 4 rfl);assumption;exact (fun a ha=>m7 c9 ha rfl);rfl);((with_reducible apply a0H (nn 15));rfl;kernel_rfl;kernel_rfl;kernel_rfl;exact (fun _ _ _ h=>h);exact hH;(iterate 4 rfl);assumption;exact (fun a ha=>m7 c9 ha rfl);rfl);((with_reducible apply a2f (nn 16));rfl;kernel_rfl;kernel_rfl;kernel_rfl;exact (fun _ _ _ h=>h);exact hH;exact a36 rfl (by (assumption)) rfl;rfl);((with_reducible apply a2I (nn 17) c9);rfl;kernel_rfl;kernel_rfl;kernel_rfl;exact (fun _ _ _ h=>h);exact hH;rfl;rfl);((with_reducible apply a0H (nn 18));rfl;kernel_rfl;kernel_rfl;kernel_rfl;exact (fun _ _ _ h=>h);exact hH;(iterate 4 rfl);assumption;exact (fun a ha=>m7 c9 ha rfl);rfl);((with_reducible apply a2q (nn 19));rfl;kernel_rfl;kernel_rfl;kernel_rfl;exact (fun _ _ _ h=>h);exact hH;(iterate 4 rfl);assumption;rfl;(intro wd hd;replace hd:St _ _ wd _:=hd;(apply Ld.sl c9;rfl;exact hd.blkC 1 rfl rfl));rfl);((with_reducible apply a0H (nn 20));rfl;kernel_rfl;kernel_rfl;kernel_rfl;exact (fun _ _ _ h=>h);exact hH;(iterate 4 rfl);assumption;exact (fun a ha=>m7 c9 ha rfl);rfl)
  refine s8 (i:=21) (by kernel_rfl) ?_;have hS2:=hS.perm (xl8 (l₁:=[_,_]));have hcon:=b2d hS2 (St.ownBs hS2 0 rfl rfl) (St.ownBs hS2 1 rfl rfl) ((ShsF.of k1).nowM hS2) hsh (k4.nowM hS2) (fun p hp=>(show SpF nF w p from ⟨(k5 p hp).ar,(k5 p hp).en⟩).nowM hS2) (by omega) (fun x hx=>by rw [(xg4.1 hx).2]) (fun x hx=>by rw [(xg4.1 hx).2]);rw [xh4,xh4] at hcon;refine b0D rfl rfl rfl rfl rfl (by (assumption)) (a1k (first:=[]) (caps:=[]) rfl rfl hcon) rfl ?_;clear hcon;rintro _ w3 ⟨rfl,NF,NS,room,h2,hg⟩;have hS':=(St.transM hS2 h2).perm xl8;clear hS2 h2;unfold lkS at hS';simp only [List.cons_append,List.nil_append] at hS';clear hS;have hS:=hS';clear hS';refine ⟨hS.sub (xl7 [_,_] _),?_⟩;have hH:=hS.sub (xl7 [_,_] _)
  cases hall:(sp.map (·.s)).all (r6 (shs sh) nf ns) with
  |false=>
   rw [hall,xi5] at hfe;rw [hfe]
   ((with_reducible apply a2f (nn 22));rfl;kernel_rfl;kernel_rfl;kernel_rfl;exact (fun _ _ _ h=>h);exact hH;exact a36 rfl (by (assumption)) rfl;rfl);((with_reducible apply a2I (nn 23) c9);rfl;kernel_rfl;kernel_rfl;kernel_rfl;exact (fun _ _ _ h=>h);exact hH;rfl;rfl)
   ((with_reducible apply a2b (nn 24));rfl;kernel_rfl;kernel_rfl;kernel_rfl;exact (fun _ _ _ h=>h);exact hH;(iterate 4 rfl);rfl;rfl);((with_reducible apply a2b (nn 25));rfl;kernel_rfl;kernel_rfl;kernel_rfl;exact (fun _ _ _ h=>h);exact hH;(iterate 4 rfl);rfl;rfl);((with_reducible apply a2b (nn 26));rfl;kernel_rfl;kernel_rfl;kernel_rfl;exact (fun _ _ _ h=>h);exact hH;(iterate 4 rfl);rfl;rfl);((with_reducible apply a2b (nn 27));rfl;kernel_rfl;kernel_rfl;kernel_rfl;exact (fun _ _ _ h=>h);exact hH;(iterate 4 rfl);rfl;rfl);((with_reducible apply a2b (nn 28));rfl;kernel_rfl;kernel_rfl;kernel_rfl;exact (fun _ _ _ h=>h);exact hH;(iterate 4 rfl);rfl;rfl);((with_reducible apply a2b (nn 29));rfl;kernel_rfl;kernel_rfl;kernel_rfl;exact (fun _ _ _ h=>h);exact hH;(iterate 4 rfl);rfl;rfl);((with_reducible apply a2b (nn 30));rfl;kernel_rfl;kernel_rfl;kernel_rfl;exact (fun _ _ _ h=>h);exact hH;(iterate 4 rfl);rfl;rfl);((with_reducible apply a2b (nn 31));rfl;kernel_rfl;kernel_rfl;kernel_rfl;exact (fun _ _ _ h=>h);exact hH;(iterate 4 rfl);rfl;rfl)
   ((with_reducible apply a2f (nn 32));rfl;kernel_rfl;kernel_rfl;kernel_rfl;exact (fun _ _ _ h=>h);exact hH;exact b4P rfl (by (rfl)) rfl;rfl)
   refine a0B (by kernel_rfl) ?_
   repeat' (first|(with_reducible apply d5 c9);rfl;rfl;rfl|refine yDn (by with_reducible constructor) ?_|(with_reducible apply i6);rfl;rfl)
   (refine l4 rfl ?_)
   exact ⟨rfl,hS.sub (xi4 _)⟩
  |true=>
   rw [hall,xi6] at hfe;obtain ⟨hroom,hGF,hGS⟩:=hg hall
   ((with_reducible apply a2f (nn 22));rfl;kernel_rfl;kernel_rfl;kernel_rfl;exact (fun _ _ _ h=>h);exact hH;exact a36 rfl (by (assumption)) rfl;rfl);((with_reducible apply a2I (nn 23) c9);rfl;kernel_rfl;kernel_rfl;kernel_rfl;exact (fun _ _ _ h=>h);exact hH;rfl;rfl);((with_reducible apply a2q (nn 24));rfl;kernel_rfl;kernel_rfl;kernel_rfl;exact (fun _ _ _ h=>h);exact hH;(iterate 4 rfl);rfl;rfl;(intro wd hd;replace hd:St _ _ wd _:=hd;(apply Ld.sc c9;rfl;exact hd.blkC 0 rfl rfl));rfl);((with_reducible apply a0H (nn 25));rfl;kernel_rfl;kernel_rfl;kernel_rfl;exact (fun _ _ _ h=>h);exact hH;(iterate 4 rfl);rfl;exact (fun a ha=>m7 c9 ha rfl);rfl);((with_reducible apply a0H (nn 26));rfl;kernel_rfl;kernel_rfl;kernel_rfl;exact (fun _ _ _ h=>h);exact hH;(iterate 4 rfl);rfl;exact (fun a ha=>m7 c9 ha rfl);rfl);((with_reducible apply a0H (nn 28));rfl;kernel_rfl;kernel_rfl;kernel_rfl;exact (fun _ _ _ h=>h);exact hH;(iterate 4 rfl);rfl;exact (fun a ha=>m7 c9 ha rfl);rfl);((with_reducible apply a2q (nn 29));rfl;kernel_rfl;kernel_rfl;kernel_rfl;exact (fun _ _ _ h=>h);exact hH;(iterate 4 rfl);rfl;rfl;(intro wd hd;replace hd:St _ _ wd _:=hd;(apply Ld.sl c9;rfl;exact hd.blkC 1 rfl rfl));rfl);((with_reducible apply a0H (nn 30));rfl;kernel_rfl;kernel_rfl;kernel_rfl;exact (fun _ _ _ h=>h);exact hH;(iterate 4 rfl);rfl;exact (fun a ha=>m7 c9 ha rfl);rfl)
   refine s8 (i:=27) (by kernel_rfl) ?_;refine b0D rfl rfl rfl rfl rfl rfl (a9d rfl (by (apply Ld.sc c9;rfl;exact hS.blkC 2 rfl rfl))) rfl ?_;rintro _ _ ⟨rfl,rfl⟩;refine ⟨hH,?_⟩
   ((with_reducible apply a0H (nn 31));rfl;kernel_rfl;kernel_rfl;kernel_rfl;exact (fun _ _ _ h=>h);exact hH;(iterate 4 rfl);rfl;exact (fun a ha=>m7 c9 ha rfl);rfl)
   ((with_reducible apply a2f (nn 32));rfl;kernel_rfl;kernel_rfl;kernel_rfl;exact (fun _ _ _ h=>h);exact hH;exact a36 rfl (by (rfl)) rfl;rfl)
   refine a0B (by kernel_rfl) ?_;by_cases hrm:o8 (sp.map (·.s))<=(ns:Int);rotate_left
   ·rw [xi7 hrm,xi5] at hfe;rw [hfe]
    repeat' (first|(with_reducible apply d5 c9);rfl;rfl;rfl|refine yDn (by with_reducible constructor) ?_|(with_reducible apply d8);rfl;all_goals (intro hb hp;try (exfalso;omega)))
    (refine l4 rfl ?_)
    exact ⟨rfl,hS.sub (xi4 _)⟩
   rw [xi8 hrm,xi6] at hfe
   repeat' (first|(with_reducible apply d5 c9);rfl;rfl;rfl|(with_reducible apply d6);rfl;(apply Ld.sl c9;rfl;exact hS.blkC 1 rfl rfl);rfl|refine yDn (by with_reducible constructor) ?_|(with_reducible apply d8);rfl;all_goals (intro hb hp;try (exfalso;omega)))
   have hpg:=a71 hall;clear hg hH hb hp hd1 hd2 hroom;refine n9 (X:=Nat) (fun x=>[(89,.int .i64 (x:Nat))]) [1,3,87,88] rfl (fun _=>[]) (fun x=>x<=nf/\∀ (j:Nat) f,j < x->fr[j]?=some f->a0Y (shs sh) f (j8 (sp.map (·.s)) 1 (j:Nat))=true) (fun x=>nf - x) 0 (by exact Fr.sub_of rfl) ⟨xf9 _,fun j f h=>by omega⟩ hS ?_;clear hS;rintro i w4 ⟨hi,hpre⟩ hS;dsimp only [List.cons_append,List.nil_append] at hi hpre hS |-;by_cases hlt:i < nf
   ·obtain ⟨f,hf⟩:=j4 (l:=fr) (i:=i) (by omega);have hrow:=f8 (f:=fmC) hf;obtain ⟨b,off,rfl,hro⟩:=k2.at_ (i:=i) (by omega);obtain ⟨v,hv⟩:=hGF.2 i (.slice none 0 0,[]) (List.getElem?_replicate_of_lt hlt);rw [List.nil_append,a1T] at hv;have hmem:nsA (v,j8 (sp.map (·.s)) 1 ((i:Nat):Int)) ∈ nlR NF:=xh6.2 ⟨_,xc8 hv,rfl⟩;have hrowN:(nlC NF)[i]?=some [v]:=f8 (f:=fun (x:Value×List Nm)=>[x.1]) hv;have hby:∀ n ∈ j8 (sp.map (·.s)) 1 ((i:Nat):Int),-1000000<=n.1.page/\n.1.page<=1000000:=fun n hn=>by
     rw [<- a1T] at hn;exact hpg n (xh8.1 hn).1
    generalize hbyn:j8 (sp.map (·.s)) 1 ((i:Nat):Int)=by_ at *;have hSm:∀ wd Γd,St nF w wd Γd->nsA (v,by_) ∈ Γd->Sl nF wd 7 v (by_.map nmC):=fun wd Γd hd hm=>St.slMem hd hm;obtain ⟨pv,cv,hvv⟩:=(hSm _ _ hS (by repeat (first|exact xe1 _ hmem|apply xc5))).form;subst hvv;have hfr:=fun wd (a:Bs nF wd ⟨gl,0,none⟩ (.pointer (some ⟨gk,0,none⟩))) (b:Bs nF wd ⟨gk,0,none⟩ (.slice p1 sh.length c1)) (c:ShsV wd sh (.slice p1 sh.length c1)) (d:Sl nF wd 7 (.slice pv (by_.map nmC).length cv) (by_.map nmC))=>a7Y (f:=f) a b c hsh d hby;unfold fmC at hfr hrow
    cases hfb:a0Y (shs sh) f by_ with
    |false=>
     rw [hfb] at hfr;have hff:a0t ⟨shs sh,fr,sl,sp.map (·.s),hand⟩=false:=by
      unfold a0t;rw [xi2];refine ⟨i,by rw [xi1];show i < fr.length;omega,?_⟩;show ¬(match fr[i]? with|some f=>a0Y (shs sh) f (j8 (sp.map (·.s)) 1 ((i:Nat):Int))|none=>true)=true;rw [hf,hbyn];show ¬a0Y (shs sh) f by_=true;rw [hfb];simp
     rw [hff,xi5] at hfe;rw [hfe]
     repeat' (first|(with_reducible apply d5 c9);rfl;rfl;rfl|(with_reducible apply d6);rfl;(apply Ld.st c9;rfl;exact hS.roR (by assumption) (by assumption);rfl);rfl|(with_reducible apply m8 c9);rfl;rfl;rfl;rfl;omega;rfl|refine yDn (by with_reducible constructor) ?_|(with_reducible apply f5 hS c9);rfl;rfl;rfl;clear hS;intro g w' hS|(with_reducible apply d7 hS c9 (i:=0));(iterate 8 rfl);exact (rfl:_=[_,_,_,_]);clear hS;intro w' hS;simp only [List.set] at hS|(with_reducible apply d8);rfl;all_goals (intro hb hp;try (exfalso;omega)))
     (focus ((with_reducible apply d9 _ _ _ (by kernel_rfl) (by kernel_rfl) hS);(repeat' (first|(first|(with_reducible apply g8 c9);rfl;rfl|(with_reducible apply i7);rfl;(intro wd hd;replace hd:St _ _ wd _:=hd;(first|apply Ld.sc c9;rfl;exact hd.blkC 1 rfl rfl|apply Ld.sl c9;rfl;exact hd.blkC 3 rfl rfl|apply Ld.st c9;rfl;exact hd.blkR 0 rfl;rfl));rfl|(with_reducible apply a0f c9);rfl;rfl;rfl;rfl;omega;rfl)|(with_reducible apply i7);rfl;(intro wd hd;replace hd:St _ _ wd _:=hd;apply Ld.sl c9;rfl;exact hd.rowC0 4 rfl hrowN rfl);rfl|(with_reducible apply s5);rfl;rfl;rfl;refine ⟨_,fun wd hd=>hfr _ (Bs.of (hd.blkC 3 rfl rfl)) (Bs.of (hd.blkC 2 rfl rfl)) (k1.now hd) (hSm _ _ hd (by repeat (first|exact xe1 _ hmem|apply xc5))),?_⟩));all_goals ((with_reducible apply k8);intro w' hS';clear hS;have hS:=hS';clear hS')))
     repeat' (first|(with_reducible apply d5 c9);rfl;rfl;rfl|refine yDn (by with_reducible constructor) ?_|(with_reducible apply i6);rfl;rfl)
     (refine l4 rfl ?_)
     exact ⟨rfl,hS.sub (xi4 _)⟩
    |true=>
     rw [hfb] at hfr
     repeat' (first|(with_reducible apply d5 c9);rfl;rfl;rfl|(with_reducible apply d6);rfl;(apply Ld.st c9;rfl;exact hS.roR (by assumption) (by assumption);rfl);rfl|(with_reducible apply m8 c9);rfl;rfl;rfl;rfl;omega;rfl|refine yDn (by with_reducible constructor) ?_|(with_reducible apply f5 hS c9);rfl;rfl;rfl;clear hS;intro g w' hS|(with_reducible apply d7 hS c9 (i:=0));(iterate 8 rfl);exact (rfl:_=[_,_,_,_]);clear hS;intro w' hS;simp only [List.set] at hS|(with_reducible apply d8);rfl;all_goals (intro hb hp;try (exfalso;omega)))
     (focus ((with_reducible apply d9 _ _ _ (by kernel_rfl) (by kernel_rfl) hS);(repeat' (first|(first|(with_reducible apply g8 c9);rfl;rfl|(with_reducible apply i7);rfl;(intro wd hd;replace hd:St _ _ wd _:=hd;(first|apply Ld.sc c9;rfl;exact hd.blkC 1 rfl rfl|apply Ld.sl c9;rfl;exact hd.blkC 3 rfl rfl|apply Ld.st c9;rfl;exact hd.blkR 0 rfl;rfl));rfl|(with_reducible apply a0f c9);rfl;rfl;rfl;rfl;omega;rfl)|(with_reducible apply i7);rfl;(intro wd hd;replace hd:St _ _ wd _:=hd;apply Ld.sl c9;rfl;exact hd.rowC0 4 rfl hrowN rfl);rfl|(with_reducible apply s5);rfl;rfl;rfl;refine ⟨_,fun wd hd=>hfr _ (Bs.of (hd.blkC 3 rfl rfl)) (Bs.of (hd.blkC 2 rfl rfl)) (k1.now hd) (hSm _ _ hd (by repeat (first|exact xe1 _ hmem|apply xc5))),?_⟩));all_goals ((with_reducible apply k8);intro w' hS';clear hS;have hS:=hS';clear hS')))
     repeat' (first|(with_reducible apply d5 c9);rfl;rfl;rfl|(with_reducible apply j7);rfl;rfl;omega;omega;rfl|refine yDn (by with_reducible constructor) ?_|(with_reducible apply i9);rfl;rfl)
     refine i5 (i + 1) (by exact Fr.sub_of rfl) ⟨by show i + 1<=nf;omega,fun j f' hj hf'=>?_⟩ hS.drop (by show nf - (i + 1) < nf - i;omega);rcases xo5.1 hj with h|h
     ·exact hpre j f' h hf'
     ·subst h;rw [hf] at hf'
      cases hf'
      rw [hbyn];exact hfb
   obtain rfl:i=nf:=by omega
   have hff:a0t ⟨shs sh,fr,sl,sp.map (·.s),hand⟩=true:=by
    unfold a0t;rw [xc6];intro j hj;rw [xi1] at hj;dsimp only at hj;obtain ⟨f,hf⟩:=j4 (l:=fr) (i:=j) (by omega);show (match fr[j]? with|some f=>a0Y (shs sh) f (j8 (sp.map (·.s)) 1 ((j:Nat):Int))|none=>true)=true;rw [hf];exact hpre j f (by have:=f7 hf;omega) hf
   rw [hff,xi6] at hfe;rw [hfe]
   repeat' (first|(with_reducible apply d5 c9);rfl;rfl;rfl|(with_reducible apply d6);rfl;(apply Ld.sl c9;rfl;exact hS.blkC 1 rfl rfl);rfl|refine yDn (by with_reducible constructor) ?_|(with_reducible apply d8);rfl;all_goals (intro hb hp;try (exfalso;omega)))
   refine n9 (X:=Nat) (fun x=>[(109,.int .i64 (x:Nat))]) [1,3,107,108] rfl (fun _=>[]) (fun x=>x<=ns/\∀ (j:Nat) f,j < x->sl[j]?=some f->a1A f (j8 (sp.map (·.s)) 2 (j:Nat))=true) (fun x=>ns - x) 0 (by exact Fr.sub_of rfl) ⟨xf9 _,fun j f h=>by omega⟩ hS ?_;clear hS hpre hlt hi hb hp hH;rintro i w5 ⟨hi,hpre⟩ hS;dsimp only [List.cons_append,List.nil_append] at hi hpre hS |-;by_cases hlt:i < ns;rotate_left
   ·obtain rfl:i=ns:=by omega
    have hsf:a1j ⟨shs sh,fr,sl,sp.map (·.s),hand⟩=true:=by
     unfold a1j;rw [xc6];intro j hj;rw [xi1] at hj;dsimp only at hj;obtain ⟨f,hf⟩:=j4 (l:=sl) (i:=j) (by omega);show (match sl[j]? with|some f=>a1A f (j8 (sp.map (·.s)) 2 ((j:Nat):Int))|none=>true)=true;rw [hf];exact hpre j f (by have:=f7 hf;omega) hf
    rw [hsf]
    repeat' (first|(with_reducible apply d5 c9);rfl;rfl;rfl|refine yDn (by with_reducible constructor) ?_|(with_reducible apply d8);rfl;all_goals (intro hb hp;try (exfalso;omega)))
    (refine l4 rfl ?_)
    exact ⟨rfl,hS.sub (xi4 _)⟩
   obtain ⟨f,hf⟩:=j4 (l:=sl) (i:=i) (by omega);have hrow:=f8 (f:=swC) hf;obtain ⟨b,off,rfl,hro⟩:=k3.at_ (i:=i) (by omega);obtain ⟨v,hv⟩:=hGS.2 i (.slice none 0 0,[]) (List.getElem?_replicate_of_lt hlt);rw [List.nil_append,a1T] at hv;have hmem:nsA (v,j8 (sp.map (·.s)) 2 ((i:Nat):Int)) ∈ nlR NS:=xh6.2 ⟨_,xc8 hv,rfl⟩;have hrowN:(nlC NS)[i]?=some [v]:=f8 (f:=fun (x:Value×List Nm)=>[x.1]) hv;have hbad:a1A f (j8 (sp.map (·.s)) 2 ((i:Nat):Int))=false->a1j ⟨shs sh,fr,sl,sp.map (·.s),hand⟩=false:=fun h=>by
    unfold a1j;rw [xi2];refine ⟨i,by rw [xi1];show i < sl.length;omega,?_⟩;show ¬(match sl[i]? with|some f=>a1A f (j8 (sp.map (·.s)) 2 ((i:Nat):Int))|none=>true)=true;rw [hf];show ¬a1A f (j8 (sp.map (·.s)) 2 ((i:Nat):Int))=true;rw [h];simp
   have hgood:a1A f (j8 (sp.map (·.s)) 2 ((i:Nat):Int))=true->∀ (j:Nat) f,j < i + 1->sl[j]?=some f->a1A f (j8 (sp.map (·.s)) 2 (j:Nat))=true:=fun hg j f' hj hf'=>by
    rcases xo5.1 hj with h|h
    ·exact hpre j f' h hf'
    ·subst h;rw [hf] at hf'
     cases hf'
     exact hg
   generalize hbyn:j8 (sp.map (·.s)) 2 ((i:Nat):Int)=by_ at hmem hbad hgood hv;have hSm:∀ wd Γd,St nF w wd Γd->nsA (v,by_) ∈ Γd->Sl nF wd 7 v (by_.map nmC):=fun wd Γd hd hm=>St.slMem hd hm;obtain ⟨pv,cv,hvv⟩:=(hSm _ _ hS (by repeat (first|exact xe2 _ hmem|apply xc5))).form;subst hvv;unfold swC at hrow
   cases by_ with
   |nil=>
    have e0:a1A f ([]:List Nm)=decide (f=sw0):=rfl;rw [e0] at hbad hgood;by_cases hz:f=sw0
    ·have hd:(!decide (f=sw0))=false:=by rw [xi8 hz];rfl
     repeat' (first|(with_reducible apply d5 c9);rfl;rfl;rfl|(with_reducible apply d6);rfl;(first|apply Ld.sc c9;rfl;exact hS.blkC 1 rfl rfl|apply Ld.sl c9;rfl;exact hS.blkC 3 rfl rfl|apply Ld.st c9;rfl;(first|exact hS.blkR 0 rfl|exact hS.roR (by assumption) (by assumption));rfl);rfl|(with_reducible apply m8 c9);rfl;rfl;rfl;rfl;omega;rfl|(with_reducible apply j7);rfl;rfl;omega;omega;rfl|(with_reducible apply v8 c9);rfl;rfl;exact (rfl:_=some [_,_]);rfl|refine yDn (by with_reducible constructor) ?_|((with_reducible apply l8);(iterate 4 rfl);first|rfl|assumption)|(with_reducible apply a0a);(iterate 4 rfl);rfl;rfl|(with_reducible apply a0P);(iterate 5 rfl)|(with_reducible apply j9);rfl;rfl;rfl;rfl|(with_reducible apply i4);rfl;(first|rfl|assumption);rfl;rfl|(with_reducible apply i9);rfl;rfl|(with_reducible apply f5 hS c9);rfl;rfl;rfl;clear hS;intro g w' hS|(with_reducible apply d7 hS c9 (i:=0));(iterate 8 rfl);exact (rfl:_=[_,_]);clear hS;intro w' hS;simp only [List.set] at hS|(with_reducible apply d8);rfl;all_goals (intro hb hp;try (exfalso;omega))|(with_reducible apply d6);rfl;(apply Ld.sl c9;rfl;exact hS.rowC0 5 rfl hrowN rfl);rfl|(with_reducible apply b0a);rfl;rfl;exact b2X f sw0;rfl)
     exact i5 (i + 1) (by exact Fr.sub_of rfl) ⟨by show i + 1<=ns;omega,hgood (xi8 hz)⟩ hS.drop (by show ns - (i + 1) < ns - i;omega)
    ·have hd:(!decide (f=sw0))=true:=by rw [xi7 hz];rfl
     rw [hbad (xi7 hz)]
     repeat' (first|(with_reducible apply d5 c9);rfl;rfl;rfl|(with_reducible apply d6);rfl;(first|apply Ld.sc c9;rfl;exact hS.blkC 1 rfl rfl|apply Ld.sl c9;rfl;exact hS.blkC 3 rfl rfl|apply Ld.st c9;rfl;(first|exact hS.blkR 0 rfl|exact hS.roR (by assumption) (by assumption));rfl);rfl|(with_reducible apply m8 c9);rfl;rfl;rfl;rfl;omega;rfl|(with_reducible apply v8 c9);rfl;rfl;exact (rfl:_=some [_,_]);rfl|refine yDn (by with_reducible constructor) ?_|(with_reducible apply l8);(iterate 4 rfl);rfl|(with_reducible apply a0a);(iterate 4 rfl);assumption;rfl|(with_reducible apply a0P);(iterate 5 rfl)|(with_reducible apply j9);rfl;(first|rfl|assumption);rfl;rfl|(with_reducible apply i6);rfl;rfl|(with_reducible apply f5 hS c9);rfl;rfl;rfl;clear hS;intro g w' hS|(with_reducible apply d7 hS c9 (i:=0));(iterate 8 rfl);exact (rfl:_=[_,_]);clear hS;intro w' hS;simp only [List.set] at hS|(with_reducible apply d8);rfl;all_goals (intro hb hp;try (exfalso;omega))|(with_reducible apply d6);rfl;(apply Ld.sl c9;rfl;exact hS.rowC0 5 rfl hrowN rfl);rfl|(with_reducible apply b0a);rfl;rfl;exact b2X f sw0;rfl)
     (refine l4 rfl ?_)
     exact ⟨rfl,hS.sub (xi4 _)⟩
   |cons n r=>
    have hal:=fun wd (h:Sl nF wd 7 (.slice pv ((n::r).map nmC).length cv) ((n::r).map nmC))=>a7e h rfl;have e0:a1A f (n::r)=(decide (f.refs=((n::r).length:Int)/\f.data.length=16) && a0n (n::r)):=rfl;rw [e0] at hbad hgood;clear e0;have hml:((n::r).map nmC).length=(n::r).length:=xi3 _;have hm0:0 < (n::r).length:=Nat.succ_pos _;have bnd:=(hSm _ _ hS (by repeat (first|exact xe2 _ hmem|apply xc5))).bound;rw [hml] at hal hrowN hSm hmem;generalize hlen:(n::r).length=m at *;by_cases h1:f.refs=(m:Int);rotate_left
    ·have hd:(!decide (f.refs=(m:Int)))=true:=by rw [xi7 h1];rfl
     rw [hbad (by rw [xi7 (fun h=>h1 h.1),xi5])]
     repeat' (first|(with_reducible apply d5 c9);rfl;rfl;rfl|(with_reducible apply d6);rfl;(first|apply Ld.sc c9;rfl;(first|exact hS.blkC 0 rfl rfl|exact hS.blkC 1 rfl rfl)|apply Ld.sl c9;rfl;exact hS.blkC 3 rfl rfl|apply Ld.st c9;rfl;exact hS.roR (by assumption) (by assumption);rfl);rfl|(with_reducible apply m8 c9);rfl;rfl;rfl;rfl;omega;rfl|refine yDn (by with_reducible constructor) ?_|((with_reducible apply l8);(iterate 4 rfl);first|rfl|assumption)|(with_reducible apply a0a);(iterate 4 rfl);(first|rfl|assumption);rfl|(with_reducible apply j9);rfl;(first|rfl|assumption);rfl;rfl|(with_reducible apply i4);rfl;(first|rfl|assumption);rfl;rfl|(with_reducible apply i6);rfl;rfl|(with_reducible apply f5 hS c9);rfl;rfl;rfl;clear hS;intro g w' hS|(with_reducible apply d7 hS c9 (i:=0));(iterate 8 rfl);exact (rfl:_=[_,_]);clear hS;intro w' hS;simp only [List.set] at hS|(with_reducible apply s7);rfl;rfl;rfl;all_goals (intro hb hp;try (exfalso;omega))|(with_reducible apply d8);rfl;all_goals (intro hb hp;try (exfalso;omega))|(with_reducible apply d6);rfl;(apply Ld.sl c9;rfl;exact hS.rowC0 5 rfl hrowN rfl);rfl)
     (refine l4 rfl ?_)
     exact ⟨rfl,hS.sub (xi4 _)⟩
    have hd:(!decide (f.refs=(m:Int)))=false:=by rw [xi8 h1];rfl
    by_cases h2:f.data.length=16;rotate_left
    ·have hd2:(!decide ((f.data.length:Int)=16))=true:=by rw [xi7 (by omega)];rfl
     rw [hbad (by rw [xi7 (fun h=>h2 h.2),xi5])]
     repeat' (first|(with_reducible apply d5 c9);rfl;rfl;rfl|(with_reducible apply d6);rfl;(first|apply Ld.sc c9;rfl;(first|exact hS.blkC 0 rfl rfl|exact hS.blkC 1 rfl rfl)|apply Ld.sl c9;rfl;exact hS.blkC 3 rfl rfl|apply Ld.st c9;rfl;exact hS.roR (by assumption) (by assumption);rfl);rfl|(with_reducible apply m8 c9);rfl;rfl;rfl;rfl;omega;rfl|refine yDn (by with_reducible constructor) ?_|((with_reducible apply l8);(iterate 4 rfl);first|rfl|assumption)|(with_reducible apply a0a);(iterate 4 rfl);assumption;rfl|(with_reducible apply j9);rfl;assumption;rfl;rfl|(with_reducible apply i4);rfl;(first|rfl|assumption);rfl;rfl|(with_reducible apply i6);rfl;rfl|(with_reducible apply f5 hS c9);rfl;rfl;rfl;clear hS;intro g w' hS|(with_reducible apply d7 hS c9 (i:=0));(iterate 8 rfl);exact (rfl:_=[_,_]);clear hS;intro w' hS;simp only [List.set] at hS|(with_reducible apply s7);rfl;rfl;rfl;all_goals (intro hb hp;try (exfalso;omega))|(with_reducible apply d8);rfl;all_goals (intro hb hp;try (exfalso;omega))|(with_reducible apply d6);rfl;(apply Ld.sl c9;rfl;exact hS.rowC0 5 rfl hrowN rfl);rfl)
     (refine l4 rfl ?_)
     exact ⟨rfl,hS.sub (xi4 _)⟩
    have hd2:(!decide ((f.data.length:Int)=16))=false:=by rw [xi8 (by omega)];rfl
    rw [xi8 ⟨h1,h2⟩,xi6] at hbad hgood
    cases ha:a0n (n::r) with
    |false=>
     rw [ha] at hal hbad;rw [hbad rfl]
     repeat' (first|(with_reducible apply d5 c9);rfl;rfl;rfl|(with_reducible apply d6);rfl;(first|apply Ld.sc c9;rfl;(first|exact hS.blkC 0 rfl rfl|exact hS.blkC 1 rfl rfl)|apply Ld.sl c9;rfl;exact hS.blkC 3 rfl rfl|apply Ld.st c9;rfl;exact hS.roR (by assumption) (by assumption);rfl);rfl|(with_reducible apply m8 c9);rfl;rfl;rfl;rfl;omega;rfl|refine yDn (by with_reducible constructor) ?_|((with_reducible apply l8);(iterate 4 rfl);first|rfl|assumption)|(with_reducible apply a0a);(iterate 4 rfl);assumption;rfl|(with_reducible apply j9);rfl;assumption;rfl;rfl|(with_reducible apply i4);rfl;(first|rfl|assumption);rfl;rfl|(with_reducible apply i6);rfl;rfl|(with_reducible apply f5 hS c9);rfl;rfl;rfl;clear hS;intro g w' hS|(with_reducible apply d7 hS c9 (i:=0));(iterate 8 rfl);exact (rfl:_=[_,_]);clear hS;intro w' hS;simp only [List.set] at hS|(with_reducible apply s7);rfl;rfl;rfl;all_goals (intro hb hp;try (exfalso;omega))|(with_reducible apply d8);rfl;all_goals (intro hb hp;try (exfalso;omega))|(with_reducible apply d6);rfl;(apply Ld.sl c9;rfl;exact hS.rowC0 5 rfl hrowN rfl);rfl|(with_reducible apply f9 hS);rfl;rfl;rfl;refine ⟨_,hal _ (hSm _ _ hS (by repeat (first|exact xe2 _ hmem|apply xc5))),?_⟩;clear hS;intro w' hS)
     (refine l4 rfl ?_)
     exact ⟨rfl,hS.sub (xi4 _)⟩
    |true=>
     rw [ha] at hal hgood
     repeat' (first|(with_reducible apply d5 c9);rfl;rfl;rfl|(with_reducible apply d6);rfl;(first|apply Ld.sc c9;rfl;(first|exact hS.blkC 0 rfl rfl|exact hS.blkC 1 rfl rfl)|apply Ld.sl c9;rfl;exact hS.blkC 3 rfl rfl|apply Ld.st c9;rfl;exact hS.roR (by assumption) (by assumption);rfl);rfl|(with_reducible apply m8 c9);rfl;rfl;rfl;rfl;omega;rfl|(with_reducible apply j7);rfl;rfl;omega;omega;rfl|refine yDn (by with_reducible constructor) ?_|((with_reducible apply l8);(iterate 4 rfl);first|rfl|assumption)|(with_reducible apply a0a);(iterate 4 rfl);assumption;rfl|(with_reducible apply j9);rfl;assumption;rfl;rfl|(with_reducible apply i4);rfl;(first|rfl|assumption);rfl;rfl|(with_reducible apply i9);rfl;rfl|(with_reducible apply f5 hS c9);rfl;rfl;rfl;clear hS;intro g w' hS|(with_reducible apply d7 hS c9 (i:=0));(iterate 8 rfl);exact (rfl:_=[_,_]);clear hS;intro w' hS;simp only [List.set] at hS|(with_reducible apply s7);rfl;rfl;rfl;all_goals (intro hb hp;try (exfalso;omega))|(with_reducible apply d8);rfl;all_goals (intro hb hp;try (exfalso;omega))|(with_reducible apply d6);rfl;(apply Ld.sl c9;rfl;exact hS.rowC0 5 rfl hrowN rfl);rfl|(with_reducible apply f9 hS);rfl;rfl;rfl;refine ⟨_,hal _ (hSm _ _ hS (by repeat (first|exact xe2 _ hmem|apply xc5))),?_⟩;clear hS;intro w' hS)
     exact i5 (i + 1) (by exact Fr.sub_of rfl) ⟨by show i + 1<=ns;omega,hgood rfl⟩ hS.drop (by show ns - (i + 1) < ns - i;omega)
def a2B (l:List (Sh×Value)) (p:Int):Option (Sh×Value):=l.find? fun x=>decide (x.1.page=p)
def a4D (o:Option (Sh×Value)):Value:=match o with
 |some x=>.tuple #[.agg (shC x.1 x.2).toArray,.bool true]
 |none=>.tuple #[.agg #[.int .i64 0,.string ⟨#[]⟩,.slice none 0 0],.bool false]
theorem b1a {α:Type} {p:α->Bool} {l:List α} {i:Nat} {x:α} (h:(l.take i).all (fun y=>!p y)=true) (hx:l[i]?=some x) (hp:p x=true):l.find? p=some x:=by
 rw [List.find?_eq_some_iff_getElem];obtain ⟨h1,rfl⟩:=xa6.1 hx;refine ⟨hp,i,h1,rfl,fun j hj=>?_⟩;have:=xc6.1 h l[j] (xd6.2 ⟨j,by rw [xe9];simp [hj]⟩);exact this
theorem a9B {α:Type} {p:α->Bool} {l:List α} (h:l.all (fun y=>!p y)=true):l.find? p=none:=by
 rw [List.find?_eq_none];intro x hx hp;have:=xc6.1 h x hx;rw [hp] at this
 cases this
theorem a56 {l:List (Sh×Value)} {w:World} {vs:Value} (hL:ShsV w l vs) (p:Int):Fn Tryz.prog 176 [vs,.int .i64 p] w (RBf (a4D (a2B l p)) w):=by
 have bnd:=hL.sl.bound;have hsl:=hL.sl;obtain ⟨pv,c,rfl⟩:=hL.sl.len;refine yEn Tryz.func176 Tryz.ntmps176 (by kernel_rfl) (by kernel_rfl) rfl rfl ?_;have hS:=St.start w
 repeat' (first|(with_reducible apply d5 c9);rfl;rfl;rfl|refine yDn (by with_reducible constructor) ?_|(with_reducible apply f5 hS c9);rfl;rfl;rfl;clear hS;intro g w' hS)
 refine n9 (X:=Nat) (fun x=>[(6,.int .i64 (x:Nat))]) [0,1,4] rfl (fun _=>[]) (fun x=>x<=l.length/\(l.take x).all (fun y=>!decide (y.1.page=p))=true) (fun x=>l.length - x) 0 (by exact Fr.sub_of rfl) ⟨xf9 _,rfl⟩ hS ?_;clear hS;rintro i w1 ⟨hi,hall⟩ hS;dsimp only [List.cons_append,List.nil_append] at hi hall hS |-;by_cases hlt:i < l.length;rotate_left
 ·obtain rfl:i=l.length:=by omega
  rw [xg1] at hall;unfold a2B;rw [a9B hall];unfold a4D
  repeat' (first|(with_reducible apply d5 c9);rfl;rfl;rfl|(with_reducible apply v8 c9);rfl;rfl;exact (rfl:_=some [_,_,_]);rfl|refine yDn (by with_reducible constructor) ?_|(with_reducible apply d7 hS c9 (i:=0));(iterate 8 rfl);exact (rfl:_=[_,_,_]);clear hS;intro w' hS;simp only [List.set] at hS|(with_reducible apply d8);rfl;all_goals (intro hb hp;try (exfalso;omega)))
  (apply a0i;repeat (first|exact ResL.nil|apply ResL.tmp;rfl|apply ResL.cell;rfl;(apply Ld.st c9;rfl;exact hS.blkR 0 rfl;rfl)))
  exact ⟨rfl,hS.sub (xi4 _)⟩
 obtain ⟨x,hx⟩:=j4 (l:=l) (i:=i) (by omega);have hrow:=f8 (f:=fun p:Sh×Value=>shC p.1 p.2) hx;obtain ⟨b,off,rfl,hro⟩:=hsl.at_ (i:=i) hlt;have hfx:=hL.fx x (xc8 hx);by_cases hp:x.1.page=p
 ·have hf:a2B l p=some x:=b1a hall hx (xi8 hp);rw [hf];unfold a4D;have hd:decide (x.1.page=p)=true:=xi8 hp;obtain ⟨S,u⟩:=x;dsimp only [shC] at hrow hfx hd |-;obtain ⟨pu,cu,rfl⟩:=hfx.len
  repeat' (first|(with_reducible apply d5 c9);rfl;rfl;rfl|(with_reducible apply d6);rfl;(first|apply Ld.sc c9;rfl;exact hS.roC0 (by assumption) (by assumption) rfl|apply Ld.st c9;rfl;exact hS.roR (by assumption) (by assumption);rfl);rfl|(with_reducible apply m8 c9);rfl;rfl;rfl;rfl;omega;rfl|refine yDn (by with_reducible constructor) ?_|(with_reducible apply i6);rfl;assumption|(with_reducible apply d7 hS c9 (i:=0));(iterate 8 rfl);exact (rfl:_=[_,_,_]);clear hS;intro w' hS;simp only [List.set] at hS|(with_reducible apply d8);rfl;all_goals (intro hb hp;try (exfalso;omega)))
  (apply a0i;repeat (first|exact ResL.nil|apply ResL.tmp;rfl|apply ResL.cell;rfl;(apply Ld.st c9;rfl;exact hS.blkR 0 rfl;rfl)))
  exact ⟨rfl,hS.sub (xi4 _)⟩
 ·have hd:decide (x.1.page=p)=false:=xi7 hp;have hstep:=a2i hall hx (by rw [hd];rfl);obtain ⟨S,u⟩:=x;dsimp only [shC] at hrow hfx hd;obtain ⟨pu,cu,rfl⟩:=hfx.len
  repeat' (first|(with_reducible apply d5 c9);rfl;rfl;rfl|(with_reducible apply d6);rfl;(apply Ld.sc c9;rfl;exact hS.roC0 (by assumption) (by assumption) rfl);rfl|(with_reducible apply m8 c9);rfl;rfl;rfl;rfl;omega;rfl|(with_reducible apply j7);rfl;rfl;omega;omega;rfl|refine yDn (by with_reducible constructor) ?_|(with_reducible apply i9);rfl;assumption|(with_reducible apply d8);rfl;all_goals (intro hb hp;try (exfalso;omega)))
  exact i5 (i + 1) (by exact Fr.sub_of rfl) ⟨by show i + 1<=l.length;omega,hstep⟩ hS (by show l.length - (i + 1) < l.length - i;omega)
theorem a9V {l:List Sc} {i:Nat} {s:Sc} (h:l[i]?=some s):o8 (l.take (i + 1))=o8 (l.take i) + k7 s.areas:=by
 rw [o7 h,a3P]
theorem b0g {w:World} {k:KV} (hK:KerV w k) (hc:∀ p ∈ k.sp,g6 p.s.areas=0) (h4:k.sp.length<=4):Fn Tryz.prog 49 [.agg (kvC k).toArray] w (RBf (.int .i64 (o8 (k.sp.map (·.s)))) w):=by
 obtain ⟨sh,fr,sl,sp,hand,vsh,vfr,vsl,vsp⟩:=k;obtain ⟨k1,k2,k3,k4,k5⟩:=hK;dsimp only at k1 k2 k3 k4 k5 hc h4 |-;obtain ⟨p1,c1,rfl⟩:=k1.sl.len;obtain ⟨p2,c2,rfl⟩:=k2.len;obtain ⟨p3,c3,rfl⟩:=k3.len;obtain ⟨p4,c4,rfl⟩:=k4.len;unfold kvC;dsimp only;refine yEn Tryz.func49 Tryz.ntmps49 (by kernel_rfl) (by kernel_rfl) rfl rfl ?_;have hS:=St.start w
 repeat' (first|(with_reducible apply d5 c9);rfl;rfl;rfl|refine yDn (by with_reducible constructor) ?_|(with_reducible apply j6 hS);rfl;rfl;rfl;clear hS;intro g w' hS)
 refine n9 (X:=Nat×Int) (fun x=>[(4,.int .i64 (x.1:Nat)),(3,.int .i64 x.2)]) [1] rfl (fun _=>[]) (fun x=>x.1<=sp.length/\x.2=o8 ((sp.map (·.s)).take x.1)/\0<=x.2/\x.2<=70000 * (x.1:Int)) (fun x=>sp.length - x.1) (0,0) (by exact Fr.sub_of rfl) ⟨xf9 _,rfl,xl9 _,xl9 _⟩ hS ?_;clear hS;rintro ⟨i,room⟩ w1 ⟨hi,hroom,hr0,hr1⟩ hS;dsimp only [List.cons_append,List.nil_append] at hi hroom hr0 hr1 hS |-;by_cases hlt:i < sp.length;rotate_left
 ·obtain rfl:i=sp.length:=by omega
  rw [xa0 (by rw [xi3];omega)] at hroom
  repeat' (first|(with_reducible apply d5 c9);rfl;rfl;rfl|(with_reducible apply d6);rfl;(apply Ld.sl c9;rfl;exact hS.blkC 0 rfl rfl);rfl|refine yDn (by with_reducible constructor) ?_|(with_reducible apply d8);rfl;all_goals (intro hb hp;try (exfalso;omega)))
  (refine l4 rfl ?_)
  exact ⟨by rw [hroom],hS.sub (xi4 _)⟩
 obtain ⟨x,hx⟩:=j4 (l:=sp) (i:=i) (by omega);have hxs:(sp.map (·.s))[i]?=some x.s:=f8 (f:=fun p:Sp=>p.s) hx;have hrow:=f8 (f:=spC) hx;obtain ⟨b,off,rfl,hro⟩:=k4.at_ (i:=i) hlt;have hxv:=k5 x (xc8 hx);have hcx:=hc x (xc8 hx);have hsum:=a3Z (y9 (k9.1 hcx).2) x.s.areas.length;have hAl:=(k9.1 hcx).1;rw [xg1] at hsum;have htk:=a9V hxs;have har:=hxv.ar;obtain ⟨s,va,ve⟩:=x;dsimp only at har hcx hsum hAl htk;unfold spC at hrow;dsimp only at hrow;obtain ⟨pa,ca,rfl⟩:=har.len
 repeat' (first|(with_reducible apply d5 c9);rfl;rfl;rfl|(with_reducible apply d6);rfl;(apply Ld.sl c9;rfl;(first|exact hS.blkC 0 rfl rfl|exact hS.roC (by assumption) (by assumption) rfl));rfl|(with_reducible apply m8 c9);rfl;rfl;rfl;rfl;omega;rfl|(with_reducible apply j7);rfl;rfl;omega;omega;rfl|refine yDn (by with_reducible constructor) ?_|(with_reducible apply d8);rfl;all_goals (intro hb hp;try (exfalso;omega))|(with_reducible apply f9 hS);rfl;rfl;rfl;refine ⟨_,b21 (har.now hS) hcx,?_⟩;clear hS;intro w' hS)
 exact i5 (i + 1,room + k7 s.areas) (by exact Fr.sub_of rfl) ⟨by show i + 1<=sp.length;omega,by rw [htk,<- hroom],by show 0<=room + k7 s.areas;omega,by show room + k7 s.areas<=70000 * ((i + 1:Nat):Int);omega⟩ hS (by show sp.length - (i + 1) < sp.length - i;omega)
theorem a4W (l:List (Sh×Value)) (p:Int):a7r (shs l) p=(a2B l p).map (·.1):=by
 unfold a7r a2B shs;rw [List.find?_map];rfl
theorem b3H {w:World} {k:KV} (hK:KerV w k) {a:Ar} {p:Int} {x:List UInt8} (hr:a0u 0 (shs k.sh)=true) (hx:a0L (shs k.sh) a.z p=some x):Fn Tryz.prog 132 [.agg (kvC k).toArray,.agg (arC a).toArray,.int .i64 p] w (RBf (.string ⟨x.toArray⟩) w):=by
 obtain ⟨sh,fr,sl,sp,hand,vsh,vfr,vsl,vsp⟩:=k;obtain ⟨k1,k2,k3,k4,k5⟩:=hK;dsimp only at k1 k2 k3 k4 k5 hr hx |-;have hso:=fun w1 (h:ShsV w1 sh vsh)=>a56 h p;obtain ⟨p1,c1,rfl⟩:=k1.sl.len;obtain ⟨p2,c2,rfl⟩:=k2.len;obtain ⟨p3,c3,rfl⟩:=k3.len;obtain ⟨p4,c4,rfl⟩:=k4.len;unfold kvC arC;dsimp only;unfold a0L at hx
 cases hz:a.z with
 |true=>
  rw [hz,xe6 rfl] at hx
  cases hx
  refine yEn Tryz.func132 Tryz.ntmps132 (by kernel_rfl) (by kernel_rfl) rfl rfl ?_;have hS:=St.start w
  repeat' (first|(with_reducible apply d5 c9);rfl;rfl;rfl|(with_reducible apply d6);rfl;(apply Ld.sc c9;rfl;exact hS.blkC 0 rfl rfl);rfl|refine yDn (by with_reducible constructor) ?_|(with_reducible apply i6);rfl;rfl|(with_reducible apply j6 hS);rfl;rfl;rfl;clear hS;intro g w' hS|(with_reducible apply b3C hS c9 (m:=16));(iterate 5 rfl);omega;omega;rfl;rfl;intro gz w' hS';clear hS;have hS:=hS';clear hS')
  ((with_reducible apply a10);rfl;exact b0C hS c9 (i:=0) (l:=List.replicate 16 0) rfl rfl rfl rfl (by rw [xh4]) (by unfold bR;rw [xp4];rfl);rintro _ _ ⟨rfl,rfl⟩)
  repeat' (first|(with_reducible apply d5 c9);rfl;rfl;rfl|refine yDn (by with_reducible constructor) ?_)
  (refine l4 rfl ?_)
  exact ⟨rfl,hS.sub (xi4 _)⟩
 |false=>
  rw [hz,xe7 (by simp),a4W] at hx;obtain ⟨y,hy,rfl⟩:∃ y,a2B sh p=some y/\a65 y.1=x:=by
   cases hq:a2B sh p with
   |none=>rw [hq] at hx;cases hx
   |some y=>rw [hq] at hx;exact ⟨y,rfl,by simpa using hx⟩
  have hm:=xh9 hy;have hrt:=((a3n hr).1 y.1 (xh6.2 ⟨y,hm,rfl⟩)).1;have hfx:=k1.fx y hm;obtain ⟨S,u⟩:=y;dsimp only at hrt hfx |-;rw [hy] at hso;unfold a4D at hso;dsimp only [shC] at hso;obtain ⟨pu,cu,rfl⟩:=hfx.len;have hfl:=fun w1 (h:ShV w1 S (.slice pu S.fixes.length cu))=>b05 h hrt;unfold shA shC at hfl;refine yEn Tryz.func132 Tryz.ntmps132 (by kernel_rfl) (by kernel_rfl) rfl rfl ?_;have hS:=St.start w
  repeat' (first|(with_reducible apply d5 c9);rfl;rfl;rfl|(with_reducible apply d6);rfl;(first|apply Ld.sc c9;rfl;exact hS.blkC 0 rfl rfl|apply Ld.sl c9;rfl;exact hS.blkC 1 rfl rfl|apply Ld.st c9;rfl;exact hS.blkR 0 rfl;rfl);rfl|refine yDn (by with_reducible constructor) ?_|(with_reducible apply i9);rfl;rfl|(with_reducible apply j6 hS);rfl;rfl;rfl;clear hS;intro g w' hS|(with_reducible apply f5 hS c9);rfl;rfl;rfl;clear hS;intro g w' hS|(with_reducible apply d7 hS c9 (i:=0));(iterate 8 rfl);exact (rfl:_=[_,_,_]);clear hS;intro w' hS;simp only [List.set] at hS|(with_reducible apply f9 hS);rfl;rfl;rfl;refine ⟨_,hso _ (k1.now hS),?_⟩;clear hS;intro w' hS|(with_reducible apply f9 hS);rfl;rfl;rfl;refine ⟨_,hfl _ (hfx.now hS),?_⟩;clear hS;intro w' hS)
  (refine l4 rfl ?_)
  exact ⟨rfl,hS.sub (xi4 _)⟩
abbrev b1k:=Int×Int×Bool×Ar
def a2j (st:b1k) (m:Nm):b1k:=(st.1 + 1,m.1.page,st.2.2.1 && (decide (st.1=0)||(decide (m.1.page=st.2.1) && decide (m.2.z=st.2.2.2.z))),m.2)
def a0q (l:List Nm):b1k:=l.foldl a2j (0,0,true,a0r)
def nmV (l:List Nm):Value:=.tuple #[.int .i64 (a0q l).1,.int .i64 (a0q l).2.1,.bool (a0q l).2.2.1,.agg (arC (a0q l).2.2.2).toArray]
theorem a8x (l:List Nm) (m:Nm):a0q (l++[m])=a2j (a0q l) m:=by unfold a0q;rw [xm7];rfl
theorem a8M (L:List Sc) (s:Sc) (kind at_:Int):j8 (L++[s]) kind at_=j8 L kind at_++((s.entries.filter fun e=>decide (e.kind=kind/\e.at_=at_)).map (a1i s)):=by
 unfold j8;rw [List.flatMap_append,xk8,xk9,List.append_nil]
def a2Q (s:Sc) (kind at_:Int) (l:List En):List Nm:=(l.filter fun e=>decide (e.kind=kind/\e.at_=at_)).map (a1i s)
theorem a9E {s:Sc} {kind at_:Int} {l:List En} {i:Nat} {e:En} (h:l[i]?=some e) (hk:e.kind=kind/\e.at_=at_):a2Q s kind at_ (l.take (i + 1))=a2Q s kind at_ (l.take i)++[a1i s e]:=by
 unfold a2Q;rw [o7 h,xj2,xj4 (by simpa using hk),xk3,xj3];rfl
theorem a8w {s:Sc} {kind at_:Int} {l:List En} {i:Nat} {e:En} (h:l[i]?=some e) (hk:¬(e.kind=kind/\e.at_=at_)):a2Q s kind at_ (l.take (i + 1))=a2Q s kind at_ (l.take i):=by
 unfold a2Q;rw [o7 h,xj2,xj5 (by simpa using hk),xk3,List.append_nil]
theorem b1d {w:World} {k:KV} (hK:KerV w k) (hc:∀ p ∈ k.sp,g6 p.s.areas=0) (h4:k.sp.length<=4) (hlen:∀ p ∈ k.sp,p.s.entries.length<=255) (kind at_:Int):Fn Tryz.prog 131 [.agg (kvC k).toArray,.int .i64 kind,.int .i64 at_] w (RBf (nmV (j8 (k.sp.map (·.s)) kind at_)) w):=by
 obtain ⟨sh,fr,sl,sp,hand,vsh,vfr,vsl,vsp⟩:=k;obtain ⟨k1,k2,k3,k4,k5⟩:=hK;dsimp only at k1 k2 k3 k4 k5 hc h4 hlen |-;obtain ⟨p1,c1,rfl⟩:=k1.sl.len;obtain ⟨p2,c2,rfl⟩:=k2.len;obtain ⟨p3,c3,rfl⟩:=k3.len;obtain ⟨p4,c4,rfl⟩:=k4.len;unfold kvC;dsimp only;refine yEn Tryz.func131 Tryz.ntmps131 (by kernel_rfl) (by kernel_rfl) rfl rfl ?_;have hS:=St.start w
 repeat' (first|(with_reducible apply d5 c9);rfl;rfl;rfl|refine yDn (by with_reducible constructor) ?_|(with_reducible apply j6 hS);rfl;rfl;rfl;clear hS;intro g w' hS|(with_reducible apply f5 hS c9);rfl;rfl;rfl;clear hS;intro g w' hS)
 rename Nat=>g13
 replace hS:St nF w w' (.blk g13 [.int .i64 0,.int .i64 0,.int .i64 0,.bool false]::_):=hS;refine n9 (X:=Nat×b1k) (fun x=>[(14,.int .i64 (x.1:Nat)),(10,.int .i64 x.2.1),(11,.int .i64 x.2.2.1),(12,.bool x.2.2.2.1)]) [1,2,3,9,13] rfl (fun x=>[.blk g13 [.int .i64 x.2.2.2.2.pg,.int .i64 x.2.2.2.2.n,.int .i64 x.2.2.2.2.prot,.bool x.2.2.2.2.z]]) (fun x=>x.1<=sp.length/\x.2=a0q (j8 ((sp.map (·.s)).take x.1) kind at_)/\0<=x.2.1/\x.2.1<=255 * (x.1:Int)) (fun x=>sp.length - x.1) (0,0,0,true,a0r) (by exact Fr.sub_of rfl) ⟨xf9 _,rfl,xl9 _,xl9 _⟩ hS ?_;clear hS;rintro ⟨i,n,page,same,ar⟩ w1 ⟨hi,hst,hn0,hn1⟩ hS;dsimp only [List.cons_append,List.nil_append] at hi hst hn0 hn1 hS |-;by_cases hlt:i < sp.length;rotate_left
 ·obtain rfl:i=sp.length:=by omega
  rw [xa0 (by rw [xi3];omega)] at hst;unfold nmV;rw [<- hst]
  repeat' (first|(with_reducible apply d5 c9);rfl;rfl;rfl|(with_reducible apply d6);rfl;(apply Ld.sl c9;rfl;exact hS.blkC 2 rfl rfl);rfl|refine yDn (by with_reducible constructor) ?_|(with_reducible apply d8);rfl;all_goals (intro hb hp;try (exfalso;omega)))
  (focus ((with_reducible apply a2K _ _ _ 7 (by kernel_rfl) (by kernel_rfl) hS);(simp only [xl5,xl6,xl1,xl2]);(repeat' ((first|(with_reducible apply g8 c9);rfl;rfl|(with_reducible apply i7);rfl;(intro wd hd;replace hd:St _ _ wd _:=hd;(apply Ld.st c9;rfl;exact hd.blkR 0 rfl;rfl));rfl)));all_goals ((with_reducible apply k8);intro w' hS';clear hS;have hS:=hS';clear hS')))
  repeat' (first|refine yDn (by with_reducible constructor) ?_|(with_reducible apply d7 hS c9 (i:=1));(iterate 8 rfl);exact (rfl:_=[_,_,_,_]);clear hS;intro w' hS;simp only [List.set] at hS)
  (apply b5V);(repeat (first|exact ResL.nil|apply ResL.tmp;rfl|apply ResL.cell;rfl;(apply Ld.st c9;rfl;exact hS.blkR 1 rfl;rfl)))
  exact ⟨rfl,hS.sub (xi4 _)⟩
 obtain ⟨x,hx⟩:=j4 (l:=sp) (i:=i) (by omega);have hxs:(sp.map (·.s))[i]?=some x.s:=f8 (f:=fun p:Sp=>p.s) hx;have hrow:=f8 (f:=spC) hx;obtain ⟨b,off,rfl,hro⟩:=k4.at_ (i:=i) hlt;have hxv:=k5 x (xc8 hx);have hcx:=hc x (xc8 hx);have hlx:=hlen x (xc8 hx);have hara:=hxv.ar;have henx:=hxv.en;obtain ⟨s,va,ve⟩:=x;obtain ⟨live,A,es⟩:=s;dsimp only at hara henx hcx hlx;unfold spC at hrow;dsimp only at hrow;obtain ⟨pa,ca,rfl⟩:=hara.len;obtain ⟨pe,ce,rfl⟩:=henx.len;have hok:=y9 (k9.1 hcx).2
 repeat' (first|(with_reducible apply d5 c9);rfl;rfl;rfl|(with_reducible apply d6);rfl;(apply Ld.sl c9;rfl;exact hS.blkC 2 rfl rfl);rfl|refine yDn (by with_reducible constructor) ?_|(with_reducible apply d8);rfl;all_goals (intro hb hp;try (exfalso;omega)))
 refine n9 (X:=Nat×b1k) (fun x=>[(15,.int .i64 (x.1:Nat)),(10,.int .i64 x.2.1),(11,.int .i64 x.2.2.1),(12,.bool x.2.2.2.1)]) [1,2,3,9,13,14] rfl (fun x=>[.blk g13 [.int .i64 x.2.2.2.2.pg,.int .i64 x.2.2.2.2.n,.int .i64 x.2.2.2.2.prot,.bool x.2.2.2.2.z]]) (fun x=>x.1<=es.length/\x.2=a0q (j8 ((sp.map (·.s)).take i) kind at_++a2Q ⟨live,A,es⟩ kind at_ (es.take x.1))/\0<=x.2.1/\x.2.1<=255 * (i:Int) + x.1) (fun x=>es.length - x.1) (0,n,page,same,ar) (by exact Fr.sub_of rfl) ⟨xf9 _,by unfold a2Q;simpa using hst,hn0,by show n<=255 * (i:Int) + ((0:Nat):Int);omega⟩ hS ?_;clear hS hst hn0 hn1;rintro ⟨j,n,page,same,ar⟩ w2 ⟨hj,hst,hn0,hn1⟩ hS;dsimp only [List.cons_append,List.nil_append] at hj hst hn0 hn1 hS |-;by_cases hjl:j < es.length;rotate_left
 ·obtain rfl:j=es.length:=by omega
  repeat' (first|(with_reducible apply d5 c9);rfl;rfl;rfl|(with_reducible apply d6);rfl;(apply Ld.sl c9;rfl;(first|exact hS.blkC 2 rfl rfl|exact hS.roC (by assumption) (by assumption) rfl));rfl|(with_reducible apply m8 c9);rfl;rfl;rfl;rfl;omega;rfl|(with_reducible apply j7);rfl;rfl;omega;omega;rfl|refine yDn (by with_reducible constructor) ?_|(with_reducible apply d8);rfl;all_goals (intro hb hp;try (exfalso;omega)))
  refine i5 (i + 1,n,page,same,ar) (by exact Fr.sub_of rfl) ⟨by show i + 1<=sp.length;omega,?_,hn0,by show n<=255 * ((i + 1:Nat):Int);omega⟩ hS (by show sp.length - (i + 1) < sp.length - i;omega);rw [hst,o7 hxs,a8M,xg1];rfl
 obtain ⟨e,he⟩:=j4 (l:=es) (i:=j) (by omega);have hrow2:=f8 (f:=enC) he;obtain ⟨b2,off2,rfl,hro2⟩:=henx.at_ (i:=j) hjl;unfold enC at hrow2;by_cases hk:e.kind=kind/\e.at_=at_;rotate_left
 ·have hmiss:=a8w (s:=⟨live,A,es⟩) he hk
  repeat' (first|(with_reducible apply d5 c9);rfl;rfl;rfl|(with_reducible apply d6);rfl;(first|apply Ld.sc c9;rfl;exact hS.blkC 0 rfl rfl|apply Ld.sl c9;rfl;(first|exact hS.blkC 2 rfl rfl|exact hS.roC (by assumption) (by assumption) rfl)|apply Ld.st c9;rfl;exact hS.roR (by assumption) (by assumption);rfl);rfl|(with_reducible apply m8 c9);rfl;rfl;rfl;rfl;omega;rfl|(with_reducible apply j7);rfl;rfl;omega;omega;rfl|refine yDn (by with_reducible constructor) ?_|(with_reducible apply l8);(iterate 4 rfl);assumption|(with_reducible apply a0a);(iterate 4 rfl);assumption;rfl|(with_reducible apply j9);rfl;assumption;rfl;rfl|(with_reducible apply i4);rfl;assumption;rfl;rfl|(with_reducible apply i6);rfl;rfl|(with_reducible apply f5 hS c9);rfl;rfl;rfl;clear hS;intro g w' hS|(with_reducible apply d7 hS c9 (i:=0));(iterate 8 rfl);exact (rfl:_=[_,_,_]);clear hS;intro w' hS;simp only [List.set] at hS|(with_reducible apply a1v);rfl;rfl;rfl;all_goals (intro hb hp;try (exfalso;omega))|(with_reducible apply d8);rfl;all_goals (intro hb hp;try (exfalso;omega))|(with_reducible apply a0j);rfl;all_goals (intro hb hp;try (exfalso;omega)))
  all_goals exact i5 (j + 1,n,page,same,ar) (by exact Fr.sub_of rfl) ⟨by show j + 1<=es.length;omega,by rw [hmiss];exact hst,hn0,by show n<=255 * (i:Int) + ((j + 1:Nat):Int);omega⟩ hS.drop (by show es.length - (j + 1) < es.length - j;omega)
 have hhit:=a9E (s:=⟨live,A,es⟩) he hk;obtain ⟨hk1,hk2⟩:=hk;have haa:=fun w1 (h:Sl nF w1 4 (.slice pa A.length ca) (A.map arC))=>a4z e.page h hok;unfold a41 at haa;obtain ⟨a,hag⟩:∃ a,(m9 A e.page).getD a0r=a:=⟨_,rfl⟩;have hnm:a1i ⟨live,A,es⟩ e=(e,a):=by unfold a1i;rw [hag]
 rw [hag] at haa;unfold arC at haa;have hnew:a0q (j8 ((sp.map (·.s)).take i) kind at_++a2Q ⟨live,A,es⟩ kind at_ (es.take (j + 1)))=(n + 1,e.page,same && (decide (n=0)||(decide (e.page=page) && decide (a.z=ar.z))),a):=by
  rw [hhit,<- xf4,a8x,<- hst,hnm];rfl
 repeat' (first|(with_reducible apply d5 c9);rfl;rfl;rfl|(with_reducible apply d6);rfl;(first|apply Ld.sc c9;rfl;exact hS.blkC 0 rfl rfl|apply Ld.sl c9;rfl;(first|exact hS.blkC 2 rfl rfl|exact hS.roC (by assumption) (by assumption) rfl)|apply Ld.st c9;rfl;exact hS.roR (by assumption) (by assumption);rfl);rfl|(with_reducible apply m8 c9);rfl;rfl;rfl;rfl;omega;rfl|refine yDn (by with_reducible constructor) ?_|(with_reducible apply l8);(iterate 4 rfl);assumption|(with_reducible apply i4);rfl;assumption;rfl;rfl|(with_reducible apply f5 hS c9);rfl;rfl;rfl;clear hS;intro g w' hS|(with_reducible apply d7 hS c9 (i:=0));(iterate 8 rfl);exact (rfl:_=[_,_,_]);clear hS;intro w' hS;simp only [List.set] at hS|(with_reducible apply a1v);rfl;rfl;rfl;all_goals (intro hb hp;try (exfalso;omega))|(with_reducible apply d8);rfl;all_goals (intro hb hp;try (exfalso;omega))|(with_reducible apply a0j);rfl;all_goals (intro hb hp;try (exfalso;omega)))
 refine a7t 15 rfl hS (by kernel_rfl) ?_;intro wh hh;clear hS;have hS:=hh;clear hh
 ((with_reducible apply t6 (nn 0) c9);rfl;kernel_rfl;exact (fun _ _ _ h=>h);exact hS;rfl;rfl)
 ((with_reducible apply a0o (nn 1));rfl;kernel_rfl;exact (fun _ _ _ h=>h);exact hS;rfl;(intro wd hd;replace hd:St _ _ wd _:=hd;(apply Ld.sl c9;rfl;exact hd.blkC 3 rfl rfl));rfl)
 ((with_reducible apply t6 (nn 2) c9);rfl;kernel_rfl;exact (fun _ _ _ h=>h);exact hS;rfl;rfl)
 ((with_reducible apply b6c (nn 3) c9);rfl;kernel_rfl;kernel_rfl;kernel_rfl;exact (fun _ _ _ _ h=>h);exact hS;rfl;rfl;rfl;rfl;omega;rfl)
 ((with_reducible apply t6 (nn 4) c9);rfl;kernel_rfl;exact (fun _ _ _ h=>h);exact hS;rfl;rfl)
 ((with_reducible apply a0o (nn 5));rfl;kernel_rfl;exact (fun _ _ _ h=>h);exact hS;rfl;(intro wd hd;replace hd:St _ _ wd _:=hd;(apply Ld.sl c9;rfl;exact hd.roC (by assumption) (by assumption) rfl));rfl)
 ((with_reducible apply t6 (nn 6) c9);rfl;kernel_rfl;exact (fun _ _ _ h=>h);exact hS;rfl;rfl)
 ((with_reducible apply a0o (nn 7));rfl;kernel_rfl;exact (fun _ _ _ h=>h);exact hS;rfl;(intro wd hd;replace hd:St _ _ wd _:=hd;(apply Ld.sc c9;rfl;exact hd.blkC 0 rfl rfl));rfl)
 refine a4t (i:=8) (j:=12) (by kernel_rfl) ?_ ?_
 ·refine n7 rfl (a1k (first:=[]) (caps:=[]) rfl rfl (haa _ (hara.now hS))) rfl ?_;rintro _ w' ⟨rfl,hS'⟩;replace hS:=hS.transA hS';simp only [t5] at hS;clear hS';refine ⟨hS,?_⟩
  ((with_reducible apply t6 (nn 9) c9);rfl;kernel_rfl;exact (fun _ _ _ h=>h);exact hS;rfl;rfl)
  ((with_reducible apply t6 (nn 10) c9);rfl;kernel_rfl;exact (fun _ _ _ h=>h);exact hS;rfl;rfl)
  ((with_reducible apply t6 (nn 11) c9);rfl;kernel_rfl;exact (fun _ _ _ h=>h);exact hS;rfl;rfl)
  refine s8 (i:=12) (by kernel_rfl) ?_;refine n7 rfl (t8 hS c9 rfl rfl) rfl ?_;rintro _ w' ⟨g,rfl,hS'⟩;clear hS;have hS:=hS';clear hS';refine ⟨hS.drop,?_⟩;refine s8 (i:=13) (by kernel_rfl) ?_;refine a0e (Φ:=fun _ w'=>St _ _ w' _) rfl (s9 hS c9 (i:=0) rfl rfl rfl rfl rfl (xf6 rfl) (xc6.1 rfl)) ?_;intro _ w' hS';simp only [List.set] at hS';clear hS;have hS:=hS';clear hS';refine ⟨hS.drop,?_⟩
  ((with_reducible apply t6 (nn 14) c9);rfl;kernel_rfl;exact (fun _ _ _ h=>h);exact hS.drop;rfl;rfl)
  refine a0B (by kernel_rfl) ?_
  cases same with
  |false=>
   repeat' (first|(with_reducible apply d5 c9);rfl;rfl;rfl|(with_reducible apply d6);rfl;(first|apply Ld.sc c9;rfl;exact hS.blkC 1 rfl rfl|apply Ld.st c9;rfl;exact hS.blkR 0 rfl;rfl);rfl|(with_reducible apply j7);rfl;rfl;omega;omega;rfl|refine yDn (by with_reducible constructor) ?_|(with_reducible apply a0a);(iterate 4 rfl);rfl;rfl|(with_reducible apply a0P);(iterate 5 rfl)|(with_reducible apply i4);rfl;rfl;rfl;rfl|(with_reducible apply d7 hS c9 (i:=2));(iterate 8 rfl);exact (rfl:_=[_,_,_,_]);clear hS;intro w' hS;simp only [List.set] at hS)
   exact i5 (j + 1,n + 1,e.page,false,a) (by exact Fr.sub_of rfl) ⟨by show j + 1<=es.length;omega,by rw [hnew];rfl,by show 0<=n + 1;omega,by show n + 1<=255 * (i:Int) + ((j + 1:Nat):Int);omega⟩ hS.drop.drop (by show es.length - (j + 1) < es.length - j;omega)
  |true=>
   by_cases h0:n=0
   ·have hd0:decide (n=0)=true:=xi8 h0
    repeat' (first|(with_reducible apply d5 c9);rfl;rfl;rfl|(with_reducible apply d6);rfl;(first|apply Ld.sc c9;rfl;exact hS.blkC 1 rfl rfl|apply Ld.st c9;rfl;exact hS.blkR 0 rfl;rfl);rfl|(with_reducible apply j7);rfl;rfl;omega;omega;rfl|refine yDn (by with_reducible constructor) ?_|(with_reducible apply l8);(iterate 4 rfl);rfl|(with_reducible apply a0a);(iterate 4 rfl);assumption;rfl|(with_reducible apply a0P);(iterate 5 rfl)|(with_reducible apply j9);rfl;(first|rfl|assumption);rfl;rfl|(with_reducible apply d7 hS c9 (i:=2));(iterate 8 rfl);exact (rfl:_=[_,_,_,_]);clear hS;intro w' hS;simp only [List.set] at hS)
    exact i5 (j + 1,n + 1,e.page,true,a) (by exact Fr.sub_of rfl) ⟨by show j + 1<=es.length;omega,by rw [hnew];(rw [hd0];rfl),by show 0<=n + 1;omega,by show n + 1<=255 * (i:Int) + ((j + 1:Nat):Int);omega⟩ hS.drop.drop (by show es.length - (j + 1) < es.length - j;omega)
   ·have hd0:decide (n=0)=false:=xi7 h0;by_cases h1:e.page=page
    ·have hd1:decide (e.page=page)=true:=xi8 h1
     repeat' (first|(with_reducible apply d5 c9);rfl;rfl;rfl|(with_reducible apply d6);rfl;(first|apply Ld.sc c9;rfl;(first|exact hS.blkC 0 rfl rfl|exact hS.blkC 1 rfl rfl|exact hS.blkC 2 rfl rfl)|apply Ld.st c9;rfl;exact hS.blkR 0 rfl;rfl);rfl|(with_reducible apply j7);rfl;rfl;omega;omega;rfl|(with_reducible apply b5K c9);(iterate 4 rfl)|refine yDn (by with_reducible constructor) ?_|((with_reducible apply l8);(iterate 4 rfl);first|rfl|assumption)|(with_reducible apply j9);rfl;(first|rfl|assumption);rfl;rfl|(with_reducible apply i4);rfl;assumption;rfl;rfl|(with_reducible apply d7 hS c9 (i:=2));(iterate 8 rfl);exact (rfl:_=[_,_,_,_]);clear hS;intro w' hS;simp only [List.set] at hS)
     exact i5 (j + 1,n + 1,e.page,(decide (a.z=ar.z)),a) (by exact Fr.sub_of rfl) ⟨by show j + 1<=es.length;omega,by rw [hnew];(rw [hd0,hd1];rfl),by show 0<=n + 1;omega,by show n + 1<=255 * (i:Int) + ((j + 1:Nat):Int);omega⟩ hS.drop.drop (by show es.length - (j + 1) < es.length - j;omega)
    ·have hd1:decide (e.page=page)=false:=xi7 h1
     repeat' (first|(with_reducible apply d5 c9);rfl;rfl;rfl|(with_reducible apply d6);rfl;(first|apply Ld.sc c9;rfl;exact hS.blkC 1 rfl rfl|apply Ld.st c9;rfl;exact hS.blkR 0 rfl;rfl);rfl|(with_reducible apply j7);rfl;rfl;omega;omega;rfl|refine yDn (by with_reducible constructor) ?_|((with_reducible apply l8);(iterate 4 rfl);first|rfl|assumption)|(with_reducible apply a0a);(iterate 4 rfl);assumption;rfl|(with_reducible apply j9);rfl;rfl;rfl;rfl|(with_reducible apply i4);rfl;assumption;rfl;rfl|(with_reducible apply d7 hS c9 (i:=2));(iterate 8 rfl);exact (rfl:_=[_,_,_,_]);clear hS;intro w' hS;simp only [List.set] at hS)
     exact i5 (j + 1,n + 1,e.page,false,a) (by exact Fr.sub_of rfl) ⟨by show j + 1<=es.length;omega,by rw [hnew];(rw [hd0,hd1];rfl),by show 0<=n + 1;omega,by show n + 1<=255 * (i:Int) + ((j + 1:Nat):Int);omega⟩ hS.drop.drop (by show es.length - (j + 1) < es.length - j;omega)
 ·refine n7 rfl (t8 hS c9 rfl rfl) rfl ?_;rintro _ w' ⟨g,rfl,hS'⟩;clear hS;have hS:=hS';clear hS';refine ⟨hS.drop,?_⟩;refine s8 (i:=8) (by kernel_rfl) ?_;refine n7 rfl (a1k (first:=[]) (caps:=[]) rfl rfl (haa _ (hara.now hS))) rfl ?_;rintro _ w' ⟨rfl,hS'⟩;replace hS:=hS.transA hS';simp only [t5] at hS;clear hS';refine ⟨hS.drop,?_⟩
  ((with_reducible apply t6 (nn 9) c9);rfl;kernel_rfl;exact (fun _ _ _ h=>h);exact hS.drop;rfl;rfl)
  ((with_reducible apply t6 (nn 10) c9);rfl;kernel_rfl;exact (fun _ _ _ h=>h);exact hS.drop;rfl;rfl)
  ((with_reducible apply t6 (nn 11) c9);rfl;kernel_rfl;exact (fun _ _ _ h=>h);exact hS.drop;rfl;rfl)
  refine s8 (i:=13) (by kernel_rfl) ?_;refine a0e (Φ:=fun _ w'=>St _ _ w' _) rfl (s9 hS c9 (i:=0) rfl rfl rfl rfl rfl (xf6 rfl) (xc6.1 rfl)) ?_;intro _ w' hS';simp only [List.set] at hS';clear hS;have hS:=hS';clear hS';refine ⟨hS.drop,?_⟩
  ((with_reducible apply t6 (nn 14) c9);rfl;kernel_rfl;exact (fun _ _ _ h=>h);exact hS.drop;rfl;rfl)
  refine a0B (by kernel_rfl) ?_
  cases same with
  |false=>
   repeat' (first|(with_reducible apply d5 c9);rfl;rfl;rfl|(with_reducible apply d6);rfl;(first|apply Ld.sc c9;rfl;exact hS.blkC 1 rfl rfl|apply Ld.st c9;rfl;exact hS.blkR 0 rfl;rfl);rfl|(with_reducible apply j7);rfl;rfl;omega;omega;rfl|refine yDn (by with_reducible constructor) ?_|(with_reducible apply a0a);(iterate 4 rfl);rfl;rfl|(with_reducible apply a0P);(iterate 5 rfl)|(with_reducible apply i4);rfl;rfl;rfl;rfl|(with_reducible apply d7 hS c9 (i:=2));(iterate 8 rfl);exact (rfl:_=[_,_,_,_]);clear hS;intro w' hS;simp only [List.set] at hS)
   exact i5 (j + 1,n + 1,e.page,false,a) (by exact Fr.sub_of rfl) ⟨by show j + 1<=es.length;omega,by rw [hnew];rfl,by show 0<=n + 1;omega,by show n + 1<=255 * (i:Int) + ((j + 1:Nat):Int);omega⟩ hS.drop.drop (by show es.length - (j + 1) < es.length - j;omega)
  |true=>
   by_cases h0:n=0
   ·have hd0:decide (n=0)=true:=xi8 h0
    repeat' (first|(with_reducible apply d5 c9);rfl;rfl;rfl|(with_reducible apply d6);rfl;(first|apply Ld.sc c9;rfl;exact hS.blkC 1 rfl rfl|apply Ld.st c9;rfl;exact hS.blkR 0 rfl;rfl);rfl|(with_reducible apply j7);rfl;rfl;omega;omega;rfl|refine yDn (by with_reducible constructor) ?_|(with_reducible apply l8);(iterate 4 rfl);rfl|(with_reducible apply a0a);(iterate 4 rfl);assumption;rfl|(with_reducible apply a0P);(iterate 5 rfl)|(with_reducible apply j9);rfl;(first|rfl|assumption);rfl;rfl|(with_reducible apply d7 hS c9 (i:=2));(iterate 8 rfl);exact (rfl:_=[_,_,_,_]);clear hS;intro w' hS;simp only [List.set] at hS)
    exact i5 (j + 1,n + 1,e.page,true,a) (by exact Fr.sub_of rfl) ⟨by show j + 1<=es.length;omega,by rw [hnew];(rw [hd0];rfl),by show 0<=n + 1;omega,by show n + 1<=255 * (i:Int) + ((j + 1:Nat):Int);omega⟩ hS.drop.drop (by show es.length - (j + 1) < es.length - j;omega)
   ·have hd0:decide (n=0)=false:=xi7 h0;by_cases h1:e.page=page
    ·have hd1:decide (e.page=page)=true:=xi8 h1
     repeat' (first|(with_reducible apply d5 c9);rfl;rfl;rfl|(with_reducible apply d6);rfl;(first|apply Ld.sc c9;rfl;(first|exact hS.blkC 0 rfl rfl|exact hS.blkC 1 rfl rfl|exact hS.blkC 2 rfl rfl)|apply Ld.st c9;rfl;exact hS.blkR 0 rfl;rfl);rfl|(with_reducible apply j7);rfl;rfl;omega;omega;rfl|(with_reducible apply b5K c9);(iterate 4 rfl)|refine yDn (by with_reducible constructor) ?_|((with_reducible apply l8);(iterate 4 rfl);first|rfl|assumption)|(with_reducible apply j9);rfl;(first|rfl|assumption);rfl;rfl|(with_reducible apply i4);rfl;assumption;rfl;rfl|(with_reducible apply d7 hS c9 (i:=2));(iterate 8 rfl);exact (rfl:_=[_,_,_,_]);clear hS;intro w' hS;simp only [List.set] at hS)
     exact i5 (j + 1,n + 1,e.page,(decide (a.z=ar.z)),a) (by exact Fr.sub_of rfl) ⟨by show j + 1<=es.length;omega,by rw [hnew];(rw [hd0,hd1];rfl),by show 0<=n + 1;omega,by show n + 1<=255 * (i:Int) + ((j + 1:Nat):Int);omega⟩ hS.drop.drop (by show es.length - (j + 1) < es.length - j;omega)
    ·have hd1:decide (e.page=page)=false:=xi7 h1
     repeat' (first|(with_reducible apply d5 c9);rfl;rfl;rfl|(with_reducible apply d6);rfl;(first|apply Ld.sc c9;rfl;exact hS.blkC 1 rfl rfl|apply Ld.st c9;rfl;exact hS.blkR 0 rfl;rfl);rfl|(with_reducible apply j7);rfl;rfl;omega;omega;rfl|refine yDn (by with_reducible constructor) ?_|((with_reducible apply l8);(iterate 4 rfl);first|rfl|assumption)|(with_reducible apply a0a);(iterate 4 rfl);assumption;rfl|(with_reducible apply j9);rfl;rfl;rfl;rfl|(with_reducible apply i4);rfl;assumption;rfl;rfl|(with_reducible apply d7 hS c9 (i:=2));(iterate 8 rfl);exact (rfl:_=[_,_,_,_]);clear hS;intro w' hS;simp only [List.set] at hS)
     exact i5 (j + 1,n + 1,e.page,false,a) (by exact Fr.sub_of rfl) ⟨by show j + 1<=es.length;omega,by rw [hnew];(rw [hd0,hd1];rfl),by show 0<=n + 1;omega,by show n + 1<=255 * (i:Int) + ((j + 1:Nat):Int);omega⟩ hS.drop.drop (by show es.length - (j + 1) < es.length - j;omega)
theorem a7c {A:List Ar}:∀ {e:Int},j3 e A->∀ a ∈ A,e<=a.pg/\a.ok:=by
 induction A with
 |nil=>intro e _ a h;cases h
 |cons b A ih=>
  intro e h a ha;obtain ⟨h1,h2,h3⟩:=h;rcases xc3.1 ha with rfl|ha
  ·exact ⟨h2,h1⟩
  ·have:=ih h3 a ha;unfold Ar.ok at h1;unfold Ar.fin at this;exact ⟨by omega,this.2⟩
theorem b1c {A:List Ar}:∀ {e:Int},j3 e A->∀ a ∈ A,∀ p,a.pg<=p->p < a.pg + a.n->m9 A p=some a:=by
 induction A with
 |nil=>intro e _ a h;cases h
 |cons b A ih=>
  intro e h a ha p h1 h2;obtain ⟨g1,g2,g3⟩:=h;unfold m9;rcases xc3.1 ha with rfl|ha
  ·rw [List.find?_cons_of_pos];unfold y8 Ar.fin;exact xi8 ⟨h1,h2⟩
  ·have:=(a7c g3 a ha).1;unfold Ar.fin at this;rw [List.find?_cons_of_neg]
   ·exact ih g3 a ha p h1 h2
   ·unfold y8 Ar.fin;rw [xb2];omega
def a7a (l:List Sh) (A:List Ar) (p:Int):Bool:=match m9 A p with
 |some a=>a.z||(a7r l p).isSome
 |none=>true
theorem a5x {l:List Sh} {A:List Ar} (hg:a1D A):a1q l A=true ↔ ∀ p:Int,1<=p->p<=255->a7a l A p=true:=by
 constructor
 ·intro h p h1 h2;unfold a7a
  cases hf:m9 A p with
  |none=>rfl
  |some a=>
   have hm:=xh9 hf;have hh:=xi0 hf;unfold y8 Ar.fin at hh;rw [xb2] at hh;unfold a1q at h;have h3:=xc6.1 (xc6.1 h a hm) (p - a.pg).toNat (by rw [xi1];omega);rw [show a.pg + (((p - a.pg).toNat:Nat):Int)=p by omega] at h3;unfold a0L at h3;show (a.z||(a7r l p).isSome)=true
   cases hz:a.z with
   |true=>rfl
   |false=>rw [hz,xe7 (by simp)] at h3;simpa using h3
 ·intro h;unfold a1q;rw [xc6];intro a ha;rw [xc6];intro j hj;rw [xi1] at hj;have h1:=a7c hg.1 a ha;have hok:=h1.2;unfold Ar.ok at hok;have hf:=b1c hg.1 a ha (a.pg + (j:Nat)) (by omega) (by omega);have h3:=h (a.pg + (j:Nat)) (by omega) (by omega);unfold a7a at h3;rw [hf] at h3;unfold a0L
  cases hz:a.z with
  |true=>rfl
  |false=>rw [xe7 (by simp)];simpa [hz] using h3
theorem a5N {A:List Ar} (hc:g6 A=0) {e:En} (h:(m9 A e.page).isSome=true):0 < e.page:=by
 obtain ⟨a,ha⟩:=xh7.1 h;have:=(a39 hc ha).2;omega
end Go.Proofs.YtejnpppejalhfacGreat
