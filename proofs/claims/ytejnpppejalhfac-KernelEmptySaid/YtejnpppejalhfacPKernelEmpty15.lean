/- Texts that the proof stands on, one behind the other: Ke32, Ke33, Lk13, Ke34, Ke35, PlRun10, PlRun11. -/
import Derived.Test.YtejnpppejalhfacPKernelEmpty14
/- kernel.New. -/
namespace Go.Proofs.Ytejnpppejalhfac
open Go.RowKit Go.Sort
def b2U (A:List Ar) (L:List Sh) (en frames slots:Int):Int:=if a1N A L en=0 then (if frames < 3 then 9 else if 64 < frames∨slots < 0∨512 < slots then 3 else if slots < y6 A then 8 else 0) else a1N A L en
def b45 (A:List Ar) (L:List Sh) (en frames slots:Int):Ker:=if b2U A L en frames slots=0 then ⟨L,List.replicate frames.toNat fm0,List.replicate slots.toNat sw0,[⟨true,A,[]⟩],0⟩ else a6s
theorem b3T {w w':World} {k:KV} (h:St nF w w' (kA k)):Came w w' k:=Or.inr (h.perm (a9Z k))
def b2N (A:List Ar) (Lp:List (Sh×Value)) (va vs vF vS vP:Value) (nf ns:Nat):KV:=⟨Lp,List.replicate nf fm0,List.replicate ns sw0,[⟨⟨true,A,[]⟩,va,.slice none 0 0⟩],0,vs,vF,vS,vP⟩
theorem b6b {w:World} {A:List Ar} {Lp:List (Sh×Value)} {va vs vF vS vP:Value} {nf ns:Nat} (hA:Sl nF w 4 va (A.map arC)) (hL:ShsV w Lp vs) (h1:Sl nF w 4 vF (List.replicate nf [.string ⟨#[]⟩,.int .i64 0,.bool false,.bool false])) (h2:Sl nF w 2 vS (List.replicate ns [.string ⟨#[]⟩,.int .i64 0])) (h3:Sl nF w 3 vP [[.bool true,va,.slice none 0 0]]):KerV w (b2N A Lp va vs vF vS vP nf ns):=by
 refine ⟨hL,?_,?_,h3,fun p hp=>?_⟩
 ·show Sl nF w 4 vF ((List.replicate nf fm0).map fmC)
  rw [List.map_replicate];exact h1
 ·show Sl nF w 2 vS ((List.replicate ns sw0).map swC)
  rw [List.map_replicate];exact h2
 ·have:p=⟨⟨true,A,[]⟩,va,.slice none 0 0⟩:=List.mem_singleton.1 hp
  subst this
  exact ⟨hA,Sl.nil0 w 3⟩
theorem b5R {A:List Ar} {Lp:List (Sh×Value)} {va vs vF vS vP:Value} {nf ns:Nat} (hA:A.length≤255) (hL:Lp.length≤255) (hx:∀ x ∈ Lp,x.1.fixes.length≤16) (h1:nf≤1000) (h2:ns≤1000):KBd (b2N A Lp va vs vF vS vP nf ns):=by
 refine ⟨?_,?_,?_,?_,fun x hxm=>?_,fun p hp=>?_,fun p hp=>?_⟩
 ·show (List.replicate nf fm0).length≤1000
  rw [List.length_replicate];omega
 ·show (List.replicate ns sw0).length≤1000
  rw [List.length_replicate];omega
 ·show Lp.length≤1000
  omega
 ·show 1≤1000
  omega
 ·have:=hx x hxm;omega
 ·have:p=⟨⟨true,A,[]⟩,va,.slice none 0 0⟩:=List.mem_singleton.1 hp
  subst this
  show A.length≤1000
  omega
 ·have:p=⟨⟨true,A,[]⟩,va,.slice none 0 0⟩:=List.mem_singleton.1 hp
  subst this
  show 0≤1000
  omega
theorem a6Y:∀ {l:List Ar} {e:Int},a14 e l→e≤256→a5v e l≤256
 |[],_,_,h=>h
 |a::l,e,h,_=>a6Y (l:=l) (e:=a.fin) h.2.2 (by have:=h.1;unfold Ar.ok at this;unfold Ar.fin;omega)
theorem b50 {A:List Ar} {L:List Sh} {en:Int} (h:a1N A L en=0):q7 A=0∧A.length≤255∧L.length≤255∧∀ S ∈ L,S.fixes.length≤16:=by
 unfold a1N at h
 by_cases h1:q7 A=0
 ·rw [if_pos h1] at h
  by_cases h2:lkB A L en=true
  ·unfold lkB at h2
   rw [b4j] at h2
   simp only [Bool.and_eq_true,decide_eq_true_eq] at h2
   obtain ⟨h3,⟨h4,-⟩,-⟩:=h2
   obtain ⟨h5,h6⟩:=a0h.1 h1
   have h7:=(b0E (l:=A) (q:=1) (q':=256) h6.1 (a6Y h6.1 (by omega)) (by omega)).1
   exact ⟨h1,h5,by omega,fun S hS=>a5R ((a2s h4).1 S hS).1⟩
  ·rw [if_neg h2] at h;cases h
 ·rw [if_neg h1] at h;exact absurd h h1
set_option maxRecDepth 100000 in
set_option maxHeartbeats 8000000 in
theorem b5B {w:World} {A:List Ar} {Lp:List (Sh×Value)} {va vs:Value} {en:Int} (hA:Sl nF w 4 va (A.map arC)) (hL:ShsV w Lp vs) (hen:-9223372036854775808≤en) (hen2:en≤9223372036854775807) {frames slots:Int}:Fn Try.prog 15 [lkA va vs en,.int .i64 frames,.int .i64 slots] w (fun v w'=>∃ k',v=.tuple #[.agg (kvC k').toArray,.int .i64 (b2U A (shs Lp) en frames slots)]∧k'.K=b45 A (shs Lp) en frames slots∧Came w w' k'):=by
 have hchk:=fun w1 Γ1 (h:St nF w w1 Γ1)=>a88 (hA.now h) (hL.now h) hen hen2
 have htot:=fun w1 Γ1 (h:St nF w w1 Γ1)=>a29 (hA.now h)
 obtain ⟨RE,hRE⟩:∃ e,e=b2U A (shs Lp) en frames slots:=⟨_,rfl⟩
 unfold b45
 rw [← hRE]
 unfold b2U at hRE
 obtain ⟨pa,ca,rfl⟩:=hA.len
 obtain ⟨ph,ch,rfl⟩:=hL.sl.len
 unfold lkA at hchk ⊢
 unfold kvC
 have hno:∀ {w1 Γ1},St nF w w1 Γ1→∀ {e:Int},e≠0→∃ k':KV,Value.tuple #[.agg #[.slice none 0 0,.slice none 0 0,.slice none 0 0,.slice none 0 0,.int .i64 0],.int .i64 e]=.tuple #[.agg [k'.vsh,k'.vfr,k'.vsl,k'.vsp,.int .i64 k'.hand].toArray,.int .i64 e]∧k'.K=(if e=0 then (⟨shs Lp,List.replicate frames.toNat fm0,List.replicate slots.toNat sw0,[⟨true,A,[]⟩],0⟩:Ker) else a6s)∧Came w w1 k':=by
  intro w1 Γ1 h e he
  exact ⟨kv0,rfl,by rw [if_neg he];rfl,Or.inl ⟨rfl,h.sub (List.nil_sublist _)⟩⟩
 by_cases h0:a1N A (shs Lp) en=0
 rotate_left
 ·rw [if_neg h0] at hRE
  have hd:decide (a1N A (shs Lp) en=0)=false:=decide_eq_false h0
  rw [← hRE] at hd hchk h0
  refine j0 (fn:=Try.f15) ⟨Try.func15,by kernel_rfl,by kernel_rfl⟩ (by exact rfl) Try.ntmps15 (by exact rfl) ?_
  have hS:=St.start w
  repeat' (first|(first|((with_reducible apply d6 c8);exact rfl;exact rfl)|((with_reducible apply d9);exact rfl;(((with_reducible apply Loads.st c8);exact rfl;((exact hS.blkR 1 rfl));exact rfl));exact rfl)|((with_reducible apply n7 c8);exact rfl;exact rfl;((exact (rfl:_=some [_,_,_,_,_])));exact rfl)|((with_reducible apply p7 hS);(iterate 3 exact rfl);intro g w' hS';clear hS;have hS:=hS';clear hS')|((with_reducible apply j7 hS c8);(iterate 3 exact rfl);intro g w' hS';clear hS;have hS:=hS';clear hS')|(((with_reducible apply i7 hS c8 (i:=0));(iterate 8 exact rfl);((exact (rfl:_=[_,_,_,_,_])));intro w' hS';simp only [List.set] at hS';clear hS;have hS:=hS';clear hS')))|(first|(with_reducible first|apply d8|apply c9|apply d7|apply d5|apply j5|apply e6))|(((with_reducible apply a1e);exact rfl;all_goals (intro hb hp;try (exfalso;omega))))|((with_reducible apply e8);exact rfl;exact rfl;exact hchk _ _ hS;exact rfl;rintro _ w' ⟨rfl,hS'⟩;replace hS:=hS.transA hS';simp only [k7] at hS;clear hS'))
  (apply s9);(repeat (first|exact ResL.nil|(apply ResL.tmp;exact rfl)|(apply ResL.cell;exact rfl;(((with_reducible apply Loads.st c8);exact rfl;((exact hS.blkR 0 rfl));exact rfl)))))
  exact hno hS h0
 rw [if_pos h0] at hRE
 rw [h0] at hchk
 obtain ⟨hc,hb1,hb2,hb3⟩:=b50 h0
 rw [if_pos hc] at htot
 by_cases h1:frames < 3
 ·rw [if_pos h1] at hRE
  subst hRE
  have hd:decide (frames < 3)=true:=decide_eq_true h1
  refine j0 (fn:=Try.f15) ⟨Try.func15,by kernel_rfl,by kernel_rfl⟩ (by exact rfl) Try.ntmps15 (by exact rfl) ?_
  have hS:=St.start w
  repeat' (first|(first|((with_reducible apply d6 c8);exact rfl;exact rfl)|((with_reducible apply d9);exact rfl;(((with_reducible apply Loads.st c8);exact rfl;((exact hS.blkR 1 rfl));exact rfl));exact rfl)|((with_reducible apply n7 c8);exact rfl;exact rfl;((exact (rfl:_=some [_,_,_,_,_])));exact rfl)|((with_reducible apply p7 hS);(iterate 3 exact rfl);intro g w' hS';clear hS;have hS:=hS';clear hS')|((with_reducible apply j7 hS c8);(iterate 3 exact rfl);intro g w' hS';clear hS;have hS:=hS';clear hS')|(((with_reducible apply i7 hS c8 (i:=0));(iterate 8 exact rfl);((exact (rfl:_=[_,_,_,_,_])));intro w' hS';simp only [List.set] at hS';clear hS;have hS:=hS';clear hS')))|(first|(with_reducible first|apply d8|apply c9|apply d7|apply d5|apply g8|apply e7|apply j5|apply e6|apply j8))|(first|((with_reducible apply k9);exact rfl;(assumption))|((with_reducible apply l6);exact rfl;(exact rfl)))|((with_reducible apply e8);exact rfl;exact rfl;exact hchk _ _ hS;exact rfl;rintro _ w' ⟨rfl,hS'⟩;replace hS:=hS.transA hS';simp only [k7] at hS;clear hS'))
  (apply s9);(repeat (first|exact ResL.nil|(apply ResL.tmp;exact rfl)|(apply ResL.cell;exact rfl;(((with_reducible apply Loads.st c8);exact rfl;((exact hS.blkR 0 rfl));exact rfl)))))
  exact hno hS (by omega)
 rw [if_neg h1] at hRE
 have hd1:decide (frames < 3)=false:=decide_eq_false h1
 by_cases h2:64 < frames∨slots < 0∨512 < slots
 ·rw [if_pos h2] at hRE
  subst hRE
  refine j0 (fn:=Try.f15) ⟨Try.func15,by kernel_rfl,by kernel_rfl⟩ (by exact rfl) Try.ntmps15 (by exact rfl) ?_
  have hS:=St.start w
  repeat' (first|(first|((with_reducible apply d6 c8);exact rfl;exact rfl)|((with_reducible apply d9);exact rfl;(((with_reducible apply Loads.st c8);exact rfl;((exact hS.blkR 1 rfl));exact rfl));exact rfl)|((with_reducible apply n7 c8);exact rfl;exact rfl;((exact (rfl:_=some [_,_,_,_,_])));exact rfl)|((with_reducible apply p7 hS);(iterate 3 exact rfl);intro g w' hS';clear hS;have hS:=hS';clear hS')|((with_reducible apply j7 hS c8);(iterate 3 exact rfl);intro g w' hS';clear hS;have hS:=hS';clear hS')|(((with_reducible apply i7 hS c8 (i:=0));(iterate 8 exact rfl);((exact (rfl:_=[_,_,_,_,_])));intro w' hS';simp only [List.set] at hS';clear hS;have hS:=hS';clear hS')))|(first|(with_reducible first|apply d8|apply c9|apply d7|apply d5|apply g8|apply e7|apply j5|apply e6|apply j8))|(first|((with_reducible apply k9);exact rfl;(assumption))|((with_reducible apply l6);exact rfl;first|exact rfl|assumption)|((with_reducible apply k6);exact rfl;all_goals (intro hb hp;try (exfalso;omega))))|((with_reducible apply e8);exact rfl;exact rfl;exact hchk _ _ hS;exact rfl;rintro _ w' ⟨rfl,hS'⟩;replace hS:=hS.transA hS';simp only [k7] at hS;clear hS'))
  all_goals (apply s9)
  all_goals (repeat (first|exact ResL.nil|(apply ResL.tmp;exact rfl)|(apply ResL.cell;exact rfl;(((with_reducible apply Loads.st c8);exact rfl;((exact hS.blkR 0 rfl));exact rfl)))))
  all_goals (exact hno hS (by omega))
 rw [if_neg h2] at hRE
 have hd2:decide (64 < frames)=false:=decide_eq_false (by omega)
 have hd3:decide (slots < 0)=false:=decide_eq_false (by omega)
 have hd4:decide (512 < slots)=false:=decide_eq_false (by omega)
 by_cases h3:slots < y6 A
 ·rw [if_pos h3] at hRE
  subst hRE
  have hd5:decide (slots < y6 A)=true:=decide_eq_true h3
  refine j0 (fn:=Try.f15) ⟨Try.func15,by kernel_rfl,by kernel_rfl⟩ (by exact rfl) Try.ntmps15 (by exact rfl) ?_
  have hS:=St.start w
  repeat' (first|(first|((with_reducible apply d6 c8);exact rfl;exact rfl)|((with_reducible apply d9);exact rfl;(first|((with_reducible apply Loads.sl c8);exact rfl;((exact hS.blkC 1 rfl rfl)))|((with_reducible apply Loads.st c8);exact rfl;((exact hS.blkR 1 rfl));exact rfl));exact rfl)|((with_reducible apply n7 c8);exact rfl;exact rfl;((exact (rfl:_=some [_,_,_,_,_])));exact rfl)|((with_reducible apply p7 hS);(iterate 3 exact rfl);intro g w' hS';clear hS;have hS:=hS';clear hS')|((with_reducible apply j7 hS c8);(iterate 3 exact rfl);intro g w' hS';clear hS;have hS:=hS';clear hS')|(((with_reducible apply i7 hS c8 (i:=0));(iterate 8 exact rfl);((exact (rfl:_=[_,_,_,_,_])));intro w' hS';simp only [List.set] at hS';clear hS;have hS:=hS';clear hS')))|(first|(with_reducible first|apply d8|apply c9|apply d7|apply d5|apply g8|apply e7|apply j5|apply e6|apply j8))|(first|((with_reducible apply k9);exact rfl;(assumption))|((with_reducible apply l6);exact rfl;first|exact rfl|assumption))|((with_reducible apply e8);exact rfl;exact rfl;exact hchk _ _ hS;exact rfl;rintro _ w' ⟨rfl,hS'⟩;replace hS:=hS.transA hS';simp only [k7] at hS;clear hS')|((with_reducible apply e8);exact rfl;exact rfl;exact htot _ _ hS;exact rfl;rintro _ w' ⟨rfl,hS'⟩;replace hS:=hS.transA hS';simp only [k7] at hS;clear hS'))
  (apply s9);(repeat (first|exact ResL.nil|(apply ResL.tmp;exact rfl)|(apply ResL.cell;exact rfl;(((with_reducible apply Loads.st c8);exact rfl;((exact hS.blkR 0 rfl));exact rfl)))))
  exact hno hS (by omega)
 rw [if_neg h3] at hRE
 subst hRE
 rw [if_pos rfl]
 have hd5:decide (slots < y6 A)=false:=decide_eq_false h3
 obtain ⟨nf,rfl⟩:∃ n:Nat,frames=(n:Nat):=⟨frames.toNat,by omega⟩
 obtain ⟨ns,rfl⟩:∃ n:Nat,slots=(n:Nat):=⟨slots.toNat,by omega⟩
 refine j0 (fn:=Try.f15) ⟨Try.func15,by kernel_rfl,by kernel_rfl⟩ (by exact rfl) Try.ntmps15 (by exact rfl) ?_
 have hS:=St.start w
 repeat' (first|(first|((with_reducible apply d6 c8);exact rfl;exact rfl)|((with_reducible apply d9);exact rfl;(first|((with_reducible apply Loads.sl c8);exact rfl;((exact hS.blkC 1 rfl rfl)))|((with_reducible apply Loads.st c8);exact rfl;((exact hS.blkR 1 rfl));exact rfl));exact rfl)|((with_reducible apply p7 hS);(iterate 3 exact rfl);intro g w' hS';clear hS;have hS:=hS';clear hS')|((with_reducible apply j7 hS c8);(iterate 3 exact rfl);intro g w' hS';clear hS;have hS:=hS';clear hS'))|(first|(with_reducible first|apply d8|apply c9|apply d7|apply d5|apply g8|apply e7|apply k8))|(((with_reducible apply l6);exact rfl;first|exact rfl|assumption))|((with_reducible apply e8);exact rfl;exact rfl;exact hchk _ _ hS;exact rfl;rintro _ w' ⟨rfl,hS'⟩;replace hS:=hS.transA hS';simp only [k7] at hS;clear hS')|((with_reducible apply e8);exact rfl;exact rfl;exact htot _ _ hS;exact rfl;rintro _ w' ⟨rfl,hS'⟩;replace hS:=hS.transA hS';simp only [k7] at hS;clear hS'))
 rename_i g3 _ _ _
 have hAw:=fun w1 Γ1 (h:St nF w w1 Γ1)=>hA.now h
 have hLw:=fun w1 Γ1 (h:St nF w w1 Γ1)=>hL.now h
 have hlen:Lp.length≤255:=by rw [← a2J];exact hb2
 have hfx:∀ x ∈ Lp,x.1.fixes.length≤16:=fun x hx=>hb3 x.1 (List.mem_map.2 ⟨x,hx,rfl⟩)
 have hown:=fun w1 Γ1 (h:St nF w w1 Γ1) gF gS gP (r1:Sl nF w1 4 (.slice (some ⟨gF,0,none⟩) nf nf) (List.replicate nf [.string ⟨#[]⟩,.int .i64 0,.bool false,.bool false])) (r2:Sl nF w1 2 (.slice (some ⟨gS,0,none⟩) ns ns) (List.replicate ns [.string ⟨#[]⟩,.int .i64 0])) (r3:Sl nF w1 3 (.slice (some ⟨gP,0,none⟩) 1 1) [[.bool true,.slice pa A.length ca,.slice none 0 0]])=>a9w (b6b (hAw _ _ h) (hLw _ _ h) r1 r2 r3) (b5R (va:=.slice pa A.length ca) (vs:=.slice ph Lp.length ch) (vF:=.slice (some ⟨gF,0,none⟩) nf nf) (vS:=.slice (some ⟨gS,0,none⟩) ns ns) (vP:=.slice (some ⟨gP,0,none⟩) 1 1) (nf:=nf) (ns:=ns) hb1 hlen hfx (by omega) (by omega))
 unfold b2N kvC at hown
 refine a4O (F:=nF) (w0:=w) (X:=KV) (fun _=>[(6,.pointer (some ⟨g,0,none⟩)),(7,.int .i64 0)]) (fun k'=>.blk g (kvC k')::kA k') (fun k'=>k'.K=(⟨shs Lp,List.replicate nf fm0,List.replicate ns sw0,[⟨true,A,[]⟩],0⟩:Ker)) ?_ ?_
 ·refine a1F (fun w'=>St nF w w' [.blk g3 [.slice pa A.length ca,.slice ph Lp.length ch,.int .i64 en]]) 14 rfl hS (by kernel_rfl) ?_
  intro w1 hS'
  clear hS;have hS:=hS';clear hS'
  ((with_reducible apply n8 0 c8);exact rfl;kernel_rfl;kernel_rfl;kernel_rfl;exact (fun _ _ _ h=>h);exact (hS.sub (by repeat (first|exact List.Sublist.refl _|apply List.Sublist.cons)));exact rfl;exact rfl)
  ((with_reducible apply v6 1);exact rfl;kernel_rfl;kernel_rfl;kernel_rfl;exact (fun _ _ _ h=>h);exact (hS.sub (by repeat (first|exact List.Sublist.refl _|apply List.Sublist.cons)));exact rfl;(intro wd hd;replace hd:St _ _ wd _:=hd;(((with_reducible apply Loads.sl c8);exact rfl;((exact hd.blkC 0 rfl rfl)))));exact rfl)
  ((with_reducible apply n8 2 c8);exact rfl;kernel_rfl;kernel_rfl;kernel_rfl;exact (fun _ _ _ h=>h);exact (hS.sub (by repeat (first|exact List.Sublist.refl _|apply List.Sublist.cons)));exact rfl;exact rfl)
  ((with_reducible apply n8 4 c8);exact rfl;kernel_rfl;kernel_rfl;kernel_rfl;exact (fun _ _ _ h=>h);exact (hS.sub (by repeat (first|exact List.Sublist.refl _|apply List.Sublist.cons)));exact rfl;exact rfl)
  ((with_reducible apply n8 6 c8);exact rfl;kernel_rfl;kernel_rfl;kernel_rfl;exact (fun _ _ _ h=>h);exact (hS.sub (by repeat (first|exact List.Sublist.refl _|apply List.Sublist.cons)));exact rfl;exact rfl)
  ((with_reducible apply v6 7);exact rfl;kernel_rfl;kernel_rfl;kernel_rfl;exact (fun _ _ _ h=>h);exact (hS.sub (by repeat (first|exact List.Sublist.refl _|apply List.Sublist.cons)));exact rfl;(intro wd hd;replace hd:St _ _ wd _:=hd;(((with_reducible apply Loads.sl c8);exact rfl;((exact hd.blkC 0 rfl rfl)))));exact rfl)
  ((with_reducible apply x6 8 c8);exact rfl;kernel_rfl;kernel_rfl;kernel_rfl;exact (fun _ _ _ _ h=>h);exact (hS.sub (by repeat (first|exact List.Sublist.refl _|apply List.Sublist.cons)));exact rfl;exact rfl;((exact (rfl:_=some [_,_,_])));exact rfl)
  refine b0m (i:=3) (j:=5) (l:=9) (by kernel_rfl) ?_ ?_ ?_
  ·refine o7 rfl (a0t hS c8 (m:=nf) rfl rfl rfl rfl rfl (by omega) (by omega) rfl) rfl ?_
   rintro _ w' ⟨gF,rfl,hS'⟩
   clear hS;have hS:=hS';clear hS'
   refine ⟨(hS.sub (by repeat (first|exact List.Sublist.refl _|apply List.Sublist.cons))),?_⟩
   refine a20 (i:=5) (j:=9) (by kernel_rfl) ?_ ?_
   ·refine o7 rfl (a0t hS c8 (m:=ns) rfl rfl rfl rfl rfl (by omega) (by omega) rfl) rfl ?_
    rintro _ w' ⟨gS,rfl,hS'⟩
    clear hS;have hS:=hS';clear hS'
    refine ⟨(hS.sub (by repeat (first|exact List.Sublist.refl _|apply List.Sublist.cons))),?_⟩
    refine o9 (i:=9) (by kernel_rfl) ?_
    refine o7 rfl (y8 hS c8 rfl rfl rfl rfl rfl rfl) rfl ?_
    rintro _ w' ⟨gP,rfl,hS'⟩
    clear hS;have hS:=hS';clear hS'
    refine ⟨(hS.sub (by repeat (first|exact List.Sublist.refl _|apply List.Sublist.cons))),?_⟩
    ((with_reducible apply x6 10 c8);exact rfl;kernel_rfl;kernel_rfl;kernel_rfl;exact (fun _ _ _ _ h=>h);exact (hS.sub (by repeat (first|exact List.Sublist.refl _|apply List.Sublist.cons)));exact rfl;exact rfl;((exact (rfl:_=some [_,_,_,_,_])));exact rfl)
    replace hS:=St.reorder [2,1,0,3,4] hS (by decide) rfl
    refine o9 (i:=11) (by kernel_rfl) ?_
    refine o7 rfl (a0o (first:=[]) (caps:=[]) rfl rfl (hown _ _ hS gF gS gP (hS.rowSl 0 rfl) (hS.rowSl 1 rfl) (hS.rowSl 2 rfl))) rfl ?_
    rintro _ w' ⟨k',rfl,hk',h2⟩
    replace hS:=hS.trans h2
    clear h2 hown
    replace hS:=hS.perm List.perm_append_comm
    obtain ⟨sh',fr',sl',sps',hand',vsh',vfr',vsl',vsp'⟩:=k'
    unfold kA at hS
    dsimp only [List.cons_append,List.nil_append] at hS
    obtain ⟨q1,d1,rfl⟩:=hS.rowSlice 5 rfl
    obtain ⟨q2,d2,rfl⟩:=hS.rowSlice 6 rfl
    obtain ⟨q3,d3,rfl⟩:=hS.rowSlice 7 rfl
    obtain ⟨q4,d4,rfl⟩:=hS.rowSlice 8 rfl
    refine ⟨(hS.sub (.cons _ (.cons _ (.cons _ (.cons _ (.cons_cons _ (List.nil_sublist _))))))),?_⟩
    refine o9 (i:=12) (by kernel_rfl) ?_
    refine q9 (Φ:=fun _ w'=>St _ _ w' _) rfl (o8 hS c8 (i:=3) rfl rfl rfl rfl rfl (Nat.le_of_ble_eq_true rfl) (List.all_eq_true.1 rfl)) ?_
    intro _ w' hS'
    simp only [List.set] at hS'
    clear hS;have hS:=hS';clear hS'
    refine ⟨(hS.sub (.cons _ (.cons _ (.cons _ (.cons _ (.cons_cons _ (List.nil_sublist _))))))),?_⟩
    ((with_reducible apply n8 13 c8);exact rfl;kernel_rfl;kernel_rfl;kernel_rfl;exact (fun _ _ _ h=>h);exact (hS.sub (.cons _ (.cons _ (.cons _ (.cons _ (.cons_cons _ (List.nil_sublist _)))))));exact rfl;exact rfl)
    refine y0 (by kernel_rfl) ?_
    exact a0e _ (by repeat (first|exact Fr.sub_nil _|(apply Fr.sub_cons;exact rfl))) hk' (hS.sub (.cons _ (.cons _ (.cons _ (.cons_cons _ (.cons _ (.refl _)))))))
   ·refine o7 rfl (y8 hS c8 rfl rfl rfl rfl rfl rfl) rfl ?_
    rintro _ w' ⟨gP,rfl,hS'⟩
    clear hS;have hS:=hS';clear hS'
    refine ⟨(hS.sub (by repeat (first|exact List.Sublist.refl _|apply List.Sublist.cons))),?_⟩
    refine o9 (i:=5) (by kernel_rfl) ?_
    refine o7 rfl (a0t hS c8 (m:=ns) rfl rfl rfl rfl rfl (by omega) (by omega) rfl) rfl ?_
    rintro _ w' ⟨gS,rfl,hS'⟩
    clear hS;have hS:=hS';clear hS'
    refine ⟨(hS.sub (by repeat (first|exact List.Sublist.refl _|apply List.Sublist.cons))),?_⟩
    ((with_reducible apply x6 10 c8);exact rfl;kernel_rfl;kernel_rfl;kernel_rfl;exact (fun _ _ _ _ h=>h);exact (hS.sub (by repeat (first|exact List.Sublist.refl _|apply List.Sublist.cons)));exact rfl;exact rfl;((exact (rfl:_=some [_,_,_,_,_])));exact rfl)
    replace hS:=St.reorder [2,0,1,3,4] hS (by decide) rfl
    refine o9 (i:=11) (by kernel_rfl) ?_
    refine o7 rfl (a0o (first:=[]) (caps:=[]) rfl rfl (hown _ _ hS gF gS gP (hS.rowSl 0 rfl) (hS.rowSl 1 rfl) (hS.rowSl 2 rfl))) rfl ?_
    rintro _ w' ⟨k',rfl,hk',h2⟩
    replace hS:=hS.trans h2
    clear h2 hown
    replace hS:=hS.perm List.perm_append_comm
    obtain ⟨sh',fr',sl',sps',hand',vsh',vfr',vsl',vsp'⟩:=k'
    unfold kA at hS
    dsimp only [List.cons_append,List.nil_append] at hS
    obtain ⟨q1,d1,rfl⟩:=hS.rowSlice 5 rfl
    obtain ⟨q2,d2,rfl⟩:=hS.rowSlice 6 rfl
    obtain ⟨q3,d3,rfl⟩:=hS.rowSlice 7 rfl
    obtain ⟨q4,d4,rfl⟩:=hS.rowSlice 8 rfl
    refine ⟨(hS.sub (.cons _ (.cons _ (.cons _ (.cons _ (.cons_cons _ (List.nil_sublist _))))))),?_⟩
    refine o9 (i:=12) (by kernel_rfl) ?_
    refine q9 (Φ:=fun _ w'=>St _ _ w' _) rfl (o8 hS c8 (i:=3) rfl rfl rfl rfl rfl (Nat.le_of_ble_eq_true rfl) (List.all_eq_true.1 rfl)) ?_
    intro _ w' hS'
    simp only [List.set] at hS'
    clear hS;have hS:=hS';clear hS'
    refine ⟨(hS.sub (.cons _ (.cons _ (.cons _ (.cons _ (.cons_cons _ (List.nil_sublist _))))))),?_⟩
    ((with_reducible apply n8 13 c8);exact rfl;kernel_rfl;kernel_rfl;kernel_rfl;exact (fun _ _ _ h=>h);exact (hS.sub (.cons _ (.cons _ (.cons _ (.cons _ (.cons_cons _ (List.nil_sublist _)))))));exact rfl;exact rfl)
    refine y0 (by kernel_rfl) ?_
    exact a0e _ (by repeat (first|exact Fr.sub_nil _|(apply Fr.sub_cons;exact rfl))) hk' (hS.sub (.cons _ (.cons _ (.cons _ (.cons_cons _ (.cons _ (.refl _)))))))
  ·refine o7 rfl (a0t hS c8 (m:=ns) rfl rfl rfl rfl rfl (by omega) (by omega) rfl) rfl ?_
   rintro _ w' ⟨gS,rfl,hS'⟩
   clear hS;have hS:=hS';clear hS'
   refine ⟨(hS.sub (by repeat (first|exact List.Sublist.refl _|apply List.Sublist.cons))),?_⟩
   refine a20 (i:=3) (j:=9) (by kernel_rfl) ?_ ?_
   ·refine o7 rfl (a0t hS c8 (m:=nf) rfl rfl rfl rfl rfl (by omega) (by omega) rfl) rfl ?_
    rintro _ w' ⟨gF,rfl,hS'⟩
    clear hS;have hS:=hS';clear hS'
    refine ⟨(hS.sub (by repeat (first|exact List.Sublist.refl _|apply List.Sublist.cons))),?_⟩
    refine o9 (i:=9) (by kernel_rfl) ?_
    refine o7 rfl (y8 hS c8 rfl rfl rfl rfl rfl rfl) rfl ?_
    rintro _ w' ⟨gP,rfl,hS'⟩
    clear hS;have hS:=hS';clear hS'
    refine ⟨(hS.sub (by repeat (first|exact List.Sublist.refl _|apply List.Sublist.cons))),?_⟩
    ((with_reducible apply x6 10 c8);exact rfl;kernel_rfl;kernel_rfl;kernel_rfl;exact (fun _ _ _ _ h=>h);exact (hS.sub (by repeat (first|exact List.Sublist.refl _|apply List.Sublist.cons)));exact rfl;exact rfl;((exact (rfl:_=some [_,_,_,_,_])));exact rfl)
    replace hS:=St.reorder [1,2,0,3,4] hS (by decide) rfl
    refine o9 (i:=11) (by kernel_rfl) ?_
    refine o7 rfl (a0o (first:=[]) (caps:=[]) rfl rfl (hown _ _ hS gF gS gP (hS.rowSl 0 rfl) (hS.rowSl 1 rfl) (hS.rowSl 2 rfl))) rfl ?_
    rintro _ w' ⟨k',rfl,hk',h2⟩
    replace hS:=hS.trans h2
    clear h2 hown
    replace hS:=hS.perm List.perm_append_comm
    obtain ⟨sh',fr',sl',sps',hand',vsh',vfr',vsl',vsp'⟩:=k'
    unfold kA at hS
    dsimp only [List.cons_append,List.nil_append] at hS
    obtain ⟨q1,d1,rfl⟩:=hS.rowSlice 5 rfl
    obtain ⟨q2,d2,rfl⟩:=hS.rowSlice 6 rfl
    obtain ⟨q3,d3,rfl⟩:=hS.rowSlice 7 rfl
    obtain ⟨q4,d4,rfl⟩:=hS.rowSlice 8 rfl
    refine ⟨(hS.sub (.cons _ (.cons _ (.cons _ (.cons _ (.cons_cons _ (List.nil_sublist _))))))),?_⟩
    refine o9 (i:=12) (by kernel_rfl) ?_
    refine q9 (Φ:=fun _ w'=>St _ _ w' _) rfl (o8 hS c8 (i:=3) rfl rfl rfl rfl rfl (Nat.le_of_ble_eq_true rfl) (List.all_eq_true.1 rfl)) ?_
    intro _ w' hS'
    simp only [List.set] at hS'
    clear hS;have hS:=hS';clear hS'
    refine ⟨(hS.sub (.cons _ (.cons _ (.cons _ (.cons _ (.cons_cons _ (List.nil_sublist _))))))),?_⟩
    ((with_reducible apply n8 13 c8);exact rfl;kernel_rfl;kernel_rfl;kernel_rfl;exact (fun _ _ _ h=>h);exact (hS.sub (.cons _ (.cons _ (.cons _ (.cons _ (.cons_cons _ (List.nil_sublist _)))))));exact rfl;exact rfl)
    refine y0 (by kernel_rfl) ?_
    exact a0e _ (by repeat (first|exact Fr.sub_nil _|(apply Fr.sub_cons;exact rfl))) hk' (hS.sub (.cons _ (.cons _ (.cons _ (.cons_cons _ (.cons _ (.refl _)))))))
   ·refine o7 rfl (y8 hS c8 rfl rfl rfl rfl rfl rfl) rfl ?_
    rintro _ w' ⟨gP,rfl,hS'⟩
    clear hS;have hS:=hS';clear hS'
    refine ⟨(hS.sub (by repeat (first|exact List.Sublist.refl _|apply List.Sublist.cons))),?_⟩
    refine o9 (i:=3) (by kernel_rfl) ?_
    refine o7 rfl (a0t hS c8 (m:=nf) rfl rfl rfl rfl rfl (by omega) (by omega) rfl) rfl ?_
    rintro _ w' ⟨gF,rfl,hS'⟩
    clear hS;have hS:=hS';clear hS'
    refine ⟨(hS.sub (by repeat (first|exact List.Sublist.refl _|apply List.Sublist.cons))),?_⟩
    ((with_reducible apply x6 10 c8);exact rfl;kernel_rfl;kernel_rfl;kernel_rfl;exact (fun _ _ _ _ h=>h);exact (hS.sub (by repeat (first|exact List.Sublist.refl _|apply List.Sublist.cons)));exact rfl;exact rfl;((exact (rfl:_=some [_,_,_,_,_])));exact rfl)
    replace hS:=St.reorder [0,2,1,3,4] hS (by decide) rfl
    refine o9 (i:=11) (by kernel_rfl) ?_
    refine o7 rfl (a0o (first:=[]) (caps:=[]) rfl rfl (hown _ _ hS gF gS gP (hS.rowSl 0 rfl) (hS.rowSl 1 rfl) (hS.rowSl 2 rfl))) rfl ?_
    rintro _ w' ⟨k',rfl,hk',h2⟩
    replace hS:=hS.trans h2
    clear h2 hown
    replace hS:=hS.perm List.perm_append_comm
    obtain ⟨sh',fr',sl',sps',hand',vsh',vfr',vsl',vsp'⟩:=k'
    unfold kA at hS
    dsimp only [List.cons_append,List.nil_append] at hS
    obtain ⟨q1,d1,rfl⟩:=hS.rowSlice 5 rfl
    obtain ⟨q2,d2,rfl⟩:=hS.rowSlice 6 rfl
    obtain ⟨q3,d3,rfl⟩:=hS.rowSlice 7 rfl
    obtain ⟨q4,d4,rfl⟩:=hS.rowSlice 8 rfl
    refine ⟨(hS.sub (.cons _ (.cons _ (.cons _ (.cons _ (.cons_cons _ (List.nil_sublist _))))))),?_⟩
    refine o9 (i:=12) (by kernel_rfl) ?_
    refine q9 (Φ:=fun _ w'=>St _ _ w' _) rfl (o8 hS c8 (i:=3) rfl rfl rfl rfl rfl (Nat.le_of_ble_eq_true rfl) (List.all_eq_true.1 rfl)) ?_
    intro _ w' hS'
    simp only [List.set] at hS'
    clear hS;have hS:=hS';clear hS'
    refine ⟨(hS.sub (.cons _ (.cons _ (.cons _ (.cons _ (.cons_cons _ (List.nil_sublist _))))))),?_⟩
    ((with_reducible apply n8 13 c8);exact rfl;kernel_rfl;kernel_rfl;kernel_rfl;exact (fun _ _ _ h=>h);exact (hS.sub (.cons _ (.cons _ (.cons _ (.cons _ (.cons_cons _ (List.nil_sublist _)))))));exact rfl;exact rfl)
    refine y0 (by kernel_rfl) ?_
    exact a0e _ (by repeat (first|exact Fr.sub_nil _|(apply Fr.sub_cons;exact rfl))) hk' (hS.sub (.cons _ (.cons _ (.cons _ (.cons_cons _ (.cons _ (.refl _)))))))
  ·refine o7 rfl (y8 hS c8 rfl rfl rfl rfl rfl rfl) rfl ?_
   rintro _ w' ⟨gP,rfl,hS'⟩
   clear hS;have hS:=hS';clear hS'
   refine ⟨(hS.sub (by repeat (first|exact List.Sublist.refl _|apply List.Sublist.cons))),?_⟩
   refine a20 (i:=3) (j:=5) (by kernel_rfl) ?_ ?_
   ·refine o7 rfl (a0t hS c8 (m:=nf) rfl rfl rfl rfl rfl (by omega) (by omega) rfl) rfl ?_
    rintro _ w' ⟨gF,rfl,hS'⟩
    clear hS;have hS:=hS';clear hS'
    refine ⟨(hS.sub (by repeat (first|exact List.Sublist.refl _|apply List.Sublist.cons))),?_⟩
    refine o9 (i:=5) (by kernel_rfl) ?_
    refine o7 rfl (a0t hS c8 (m:=ns) rfl rfl rfl rfl rfl (by omega) (by omega) rfl) rfl ?_
    rintro _ w' ⟨gS,rfl,hS'⟩
    clear hS;have hS:=hS';clear hS'
    refine ⟨(hS.sub (by repeat (first|exact List.Sublist.refl _|apply List.Sublist.cons))),?_⟩
    ((with_reducible apply x6 10 c8);exact rfl;kernel_rfl;kernel_rfl;kernel_rfl;exact (fun _ _ _ _ h=>h);exact (hS.sub (by repeat (first|exact List.Sublist.refl _|apply List.Sublist.cons)));exact rfl;exact rfl;((exact (rfl:_=some [_,_,_,_,_])));exact rfl)
    replace hS:=St.reorder [1,0,2,3,4] hS (by decide) rfl
    refine o9 (i:=11) (by kernel_rfl) ?_
    refine o7 rfl (a0o (first:=[]) (caps:=[]) rfl rfl (hown _ _ hS gF gS gP (hS.rowSl 0 rfl) (hS.rowSl 1 rfl) (hS.rowSl 2 rfl))) rfl ?_
    rintro _ w' ⟨k',rfl,hk',h2⟩
    replace hS:=hS.trans h2
    clear h2 hown
    replace hS:=hS.perm List.perm_append_comm
    obtain ⟨sh',fr',sl',sps',hand',vsh',vfr',vsl',vsp'⟩:=k'
    unfold kA at hS
    dsimp only [List.cons_append,List.nil_append] at hS
    obtain ⟨q1,d1,rfl⟩:=hS.rowSlice 5 rfl
    obtain ⟨q2,d2,rfl⟩:=hS.rowSlice 6 rfl
    obtain ⟨q3,d3,rfl⟩:=hS.rowSlice 7 rfl
    obtain ⟨q4,d4,rfl⟩:=hS.rowSlice 8 rfl
    refine ⟨(hS.sub (.cons _ (.cons _ (.cons _ (.cons _ (.cons_cons _ (List.nil_sublist _))))))),?_⟩
    refine o9 (i:=12) (by kernel_rfl) ?_
    refine q9 (Φ:=fun _ w'=>St _ _ w' _) rfl (o8 hS c8 (i:=3) rfl rfl rfl rfl rfl (Nat.le_of_ble_eq_true rfl) (List.all_eq_true.1 rfl)) ?_
    intro _ w' hS'
    simp only [List.set] at hS'
    clear hS;have hS:=hS';clear hS'
    refine ⟨(hS.sub (.cons _ (.cons _ (.cons _ (.cons _ (.cons_cons _ (List.nil_sublist _))))))),?_⟩
    ((with_reducible apply n8 13 c8);exact rfl;kernel_rfl;kernel_rfl;kernel_rfl;exact (fun _ _ _ h=>h);exact (hS.sub (.cons _ (.cons _ (.cons _ (.cons _ (.cons_cons _ (List.nil_sublist _)))))));exact rfl;exact rfl)
    refine y0 (by kernel_rfl) ?_
    exact a0e _ (by repeat (first|exact Fr.sub_nil _|(apply Fr.sub_cons;exact rfl))) hk' (hS.sub (.cons _ (.cons _ (.cons _ (.cons_cons _ (.cons _ (.refl _)))))))
   ·refine o7 rfl (a0t hS c8 (m:=ns) rfl rfl rfl rfl rfl (by omega) (by omega) rfl) rfl ?_
    rintro _ w' ⟨gS,rfl,hS'⟩
    clear hS;have hS:=hS';clear hS'
    refine ⟨(hS.sub (by repeat (first|exact List.Sublist.refl _|apply List.Sublist.cons))),?_⟩
    refine o9 (i:=3) (by kernel_rfl) ?_
    refine o7 rfl (a0t hS c8 (m:=nf) rfl rfl rfl rfl rfl (by omega) (by omega) rfl) rfl ?_
    rintro _ w' ⟨gF,rfl,hS'⟩
    clear hS;have hS:=hS';clear hS'
    refine ⟨(hS.sub (by repeat (first|exact List.Sublist.refl _|apply List.Sublist.cons))),?_⟩
    ((with_reducible apply x6 10 c8);exact rfl;kernel_rfl;kernel_rfl;kernel_rfl;exact (fun _ _ _ _ h=>h);exact (hS.sub (by repeat (first|exact List.Sublist.refl _|apply List.Sublist.cons)));exact rfl;exact rfl;((exact (rfl:_=some [_,_,_,_,_])));exact rfl)
    replace hS:=St.reorder [0,1,2,3,4] hS (by decide) rfl
    refine o9 (i:=11) (by kernel_rfl) ?_
    refine o7 rfl (a0o (first:=[]) (caps:=[]) rfl rfl (hown _ _ hS gF gS gP (hS.rowSl 0 rfl) (hS.rowSl 1 rfl) (hS.rowSl 2 rfl))) rfl ?_
    rintro _ w' ⟨k',rfl,hk',h2⟩
    replace hS:=hS.trans h2
    clear h2 hown
    replace hS:=hS.perm List.perm_append_comm
    obtain ⟨sh',fr',sl',sps',hand',vsh',vfr',vsl',vsp'⟩:=k'
    unfold kA at hS
    dsimp only [List.cons_append,List.nil_append] at hS
    obtain ⟨q1,d1,rfl⟩:=hS.rowSlice 5 rfl
    obtain ⟨q2,d2,rfl⟩:=hS.rowSlice 6 rfl
    obtain ⟨q3,d3,rfl⟩:=hS.rowSlice 7 rfl
    obtain ⟨q4,d4,rfl⟩:=hS.rowSlice 8 rfl
    refine ⟨(hS.sub (.cons _ (.cons _ (.cons _ (.cons _ (.cons_cons _ (List.nil_sublist _))))))),?_⟩
    refine o9 (i:=12) (by kernel_rfl) ?_
    refine q9 (Φ:=fun _ w'=>St _ _ w' _) rfl (o8 hS c8 (i:=3) rfl rfl rfl rfl rfl (Nat.le_of_ble_eq_true rfl) (List.all_eq_true.1 rfl)) ?_
    intro _ w' hS'
    simp only [List.set] at hS'
    clear hS;have hS:=hS';clear hS'
    refine ⟨(hS.sub (.cons _ (.cons _ (.cons _ (.cons _ (.cons_cons _ (List.nil_sublist _))))))),?_⟩
    ((with_reducible apply n8 13 c8);exact rfl;kernel_rfl;kernel_rfl;kernel_rfl;exact (fun _ _ _ h=>h);exact (hS.sub (.cons _ (.cons _ (.cons _ (.cons _ (.cons_cons _ (List.nil_sublist _)))))));exact rfl;exact rfl)
    refine y0 (by kernel_rfl) ?_
    exact a0e _ (by repeat (first|exact Fr.sub_nil _|(apply Fr.sub_cons;exact rfl))) hk' (hS.sub (.cons _ (.cons _ (.cons _ (.cons_cons _ (.cons _ (.refl _)))))))
 clear hS
 intro k' w1 hk' hS
 unfold kvC at hS
 repeat' (((with_reducible apply j5)))
 (apply s9);(repeat (first|exact ResL.nil|(apply ResL.tmp;exact rfl)|(apply ResL.cell;exact rfl;(((with_reducible apply Loads.st c8);exact rfl;((exact hS.blkR 0 rfl));exact rfl)))))
 exact ⟨k',rfl,by rw [Int.toNat_natCast,Int.toNat_natCast];exact hk',b3T hS.drop⟩
end Go.Proofs.Ytejnpppejalhfac
/- kernel.Fork. -/
namespace Go.Proofs.Ytejnpppejalhfac
open Go.RowKit Go.Sort
def a74 (f:Fm):Fm:=⟨f.data,f.refs + 1,f.dirty,f.seen⟩
def a8V (s:Sw):Sw:=⟨s.data,s.refs + 1⟩
def b39 (K:Ker) (e:En):Ker:=if e.kind=1 then ⟨K.sheets,K.frames.set e.at_.toNat (a74 (l7 K.frames e.at_.toNat)),K.slots,K.spaces,K.hand⟩ else ⟨K.sheets,K.frames,K.slots.set e.at_.toNat (a8V (a0g K.slots e.at_.toNat)),K.spaces,K.hand⟩
def a0J (k:KV) (e:En):KV:=if e.kind=1 then ⟨k.sh,k.fr.set e.at_.toNat (a74 (l7 k.fr e.at_.toNat)),k.sl,k.sp,k.hand,k.vsh,k.vfr,k.vsl,k.vsp⟩ else ⟨k.sh,k.fr,k.sl.set e.at_.toNat (a8V (a0g k.sl e.at_.toNat)),k.sp,k.hand,k.vsh,k.vfr,k.vsl,k.vsp⟩
theorem b0r:∀ {l:List Sc},(∀ s ∈ l,0≤y6 s.areas)→0≤r9 l
 |[],_=>Int.le_refl 0
 |s::l,h=>by
  have h1:=h s List.mem_cons_self
  have h2:=b0r (l:=l) fun x hx=>h x (List.mem_cons_of_mem _ hx)
  have e:r9 (s::l)=y6 s.areas + r9 l:=by unfold r9;simp
  omega
theorem b49 (k:KV) (e:En):(a0J k e).K=b39 k.K e:=by
 unfold a0J b39
 split <;> rfl
def b1J (K:Ker) (sp:Nat):Ker :=
 let K1:=(l5 K sp).foldl b39 K
 ⟨K1.sheets,K1.frames,K1.slots,K1.spaces++[u7 K sp],K1.hand⟩
def a6U (K:Ker) (space:Int):Int:=if a0n K space=0 then (if K.spaces.length=4 then 2 else if (K.slots.length:Int) < r9 K.spaces + y6 (l9 K space.toNat) then 8 else 0) else a0n K space
def b3b (K:Ker) (space:Int):Ker:=if a6U K space=0 then b1J K space.toNat else a6s
def b2C (K:Ker) (space:Int):Int:=if a6U K space=0 then (K.spaces.length:Nat) else 0
theorem b0I (l:List En):∀ (k:KV),(l.foldl a0J k).K=l.foldl b39 k.K:=by
 induction l with
 |nil=>intro k;rfl
 |cons e l ih=>intro k;rw [List.foldl_cons,ih,b49];rfl
structure IncSame (k k':KV):Prop where
 sh:k'.sh=k.sh
 sp:k'.sp=k.sp
 hand:k'.hand=k.hand
 vsh:k'.vsh=k.vsh
 vfr:k'.vfr=k.vfr
 vsl:k'.vsl=k.vsl
 vsp:k'.vsp=k.vsp
 nfr:k'.fr.length=k.fr.length
 nsl:k'.sl.length=k.sl.length
theorem b0S (k:KV) (e:En):IncSame k (a0J k e):=by
 unfold a0J
 split
 ·exact ⟨rfl,rfl,rfl,rfl,rfl,rfl,rfl,List.length_set,rfl⟩
 ·exact ⟨rfl,rfl,rfl,rfl,rfl,rfl,rfl,rfl,List.length_set⟩
theorem IncSame.trans {a b c:KV} (h:IncSame a b) (h2:IncSame b c):IncSame a c:=⟨h2.sh.trans h.sh,h2.sp.trans h.sp,h2.hand.trans h.hand,h2.vsh.trans h.vsh,h2.vfr.trans h.vfr,h2.vsl.trans h.vsl,h2.vsp.trans h.vsp,h2.nfr.trans h.nfr,h2.nsl.trans h.nsl⟩
def RefsB (k:KV) (b:Int):Prop:=(∀ f ∈ k.fr,0≤f.refs∧f.refs≤b)∧∀ f ∈ k.sl,0≤f.refs∧f.refs≤b
theorem RefsB.mono {k:KV} {b c:Int} (h:RefsB k b) (hbc:b≤c):RefsB k c:=⟨fun f hf=>by have:=h.1 f hf;omega,fun f hf=>by have:=h.2 f hf;omega⟩
theorem RefsB.inc {k:KV} {b:Int} (h:RefsB k b) (e:En) (hb:0≤b):RefsB (a0J k e) (b + 1):=by
 have hf0:∀ i,0≤(l7 k.fr i).refs∧(l7 k.fr i).refs≤b:=fun i=>by
  cases hi:k.fr[i]? with
  |none=>
   have:l7 k.fr i=fm0:=by unfold l7;rw [hi];rfl
   rw [this];exact ⟨Int.le_refl 0,hb⟩
  |some f=>rw [q8 hi];exact h.1 f (List.mem_of_getElem? hi)
 have hs0:∀ i,0≤(a0g k.sl i).refs∧(a0g k.sl i).refs≤b:=fun i=>by
  cases hi:k.sl[i]? with
  |none=>
   have:a0g k.sl i=sw0:=by unfold a0g;rw [hi];rfl
   rw [this];exact ⟨Int.le_refl 0,hb⟩
  |some f=>rw [a0B hi];exact h.2 f (List.mem_of_getElem? hi)
 unfold a0J
 split
 ·refine ⟨fun f hf=>?_,fun f hf=>by have:=h.2 f hf;omega⟩
  rcases List.mem_or_eq_of_mem_set hf with h1|h1
  ·have:=h.1 f h1;omega
  ·subst h1
   have:=hf0 e.at_.toNat
   show 0≤(l7 k.fr e.at_.toNat).refs + 1∧(l7 k.fr e.at_.toNat).refs + 1≤b + 1
   omega
 ·refine ⟨fun f hf=>by have:=h.1 f hf;omega,fun f hf=>?_⟩
  rcases List.mem_or_eq_of_mem_set hf with h1|h1
  ·have:=h.2 f h1;omega
  ·subst h1
   have:=hs0 e.at_.toNat
   show 0≤(a0g k.sl e.at_.toNat).refs + 1∧(a0g k.sl e.at_.toNat).refs + 1≤b + 1
   omega
theorem a9V {k:KV} {b:Int} (h:RefsB k b) (hb:0≤b):∀ (l:List En),IncSame k (l.foldl a0J k)∧RefsB (l.foldl a0J k) (b + l.length):=by
 intro l
 induction l generalizing k b with
 |nil=>exact ⟨⟨rfl,rfl,rfl,rfl,rfl,rfl,rfl,rfl,rfl⟩,by rw [List.foldl_nil,List.length_nil];exact h.mono (by omega)⟩
 |cons e l ih=>
  rw [List.foldl_cons]
  obtain ⟨h1,h2⟩:=ih (h.inc e hb) (by omega)
  exact ⟨(b0S k e).trans h1,h2.mono (by rw [List.length_cons];omega)⟩
theorem a7y {l:List En} {i:Nat} {e:En} (h:l[i]?=some e) (k:KV):(l.take (i + 1)).foldl a0J k=a0J ((l.take i).foldl a0J k) e:=by
 rw [List.take_add_one,h,Option.toList_some,List.foldl_append,List.foldl_cons,List.foldl_nil]
theorem b2S {k:KV} {e:En} (h:e.kind=1):(a0J k e).fr=k.fr.set e.at_.toNat (a74 (l7 k.fr e.at_.toNat))∧(a0J k e).sl=k.sl:=by
 unfold a0J;rw [if_pos h];exact ⟨rfl,rfl⟩
theorem b2a {k:KV} {e:En} (h:e.kind≠1):(a0J k e).sl=k.sl.set e.at_.toNat (a8V (a0g k.sl e.at_.toNat))∧(a0J k e).fr=k.fr:=by
 unfold a0J;rw [if_neg h];exact ⟨rfl,rfl⟩
theorem b1t {α:Type} {ar en fr sl sp S:α} {E X A:List α}:(ar::en::fr::sl::sp::(E++(S::(X++A)))).Perm (fr::sl::sp::((E++[en])++(S::(X++(A++[ar]))))):=by
 refine (List.perm_append_comm_assoc [ar,en] [fr,sl,sp] (E++(S::(X++A)))).trans ?_
 refine List.Perm.append_left [fr,sl,sp] ?_
 show (ar::(en::(E++(S::(X++A))))).Perm _
 refine (List.perm_append_singleton _ _).symm.trans ?_
 have e1:(en::(E++(S::(X++A))))++[ar]=en::(E++(S::(X++(A++[ar])))):=by simp
 have e2:(E++[en])++(S::(X++(A++[ar])))=E++en::(S::(X++(A++[ar]))):=by simp
 rw [e1]
 exact List.perm_middle.symm.trans (List.Perm.of_eq e2.symm)
theorem b0j:∀ {l:List Sp} {i:Nat} {p:Sp},l[i]?=some p→[a3j p,a0k p].Sublist (spA l)
 |[],_,_,h=>by simp at h
 |q::l,0,p,h=>by
  have:q=p:=by simpa using h
  subst this
  exact .cons_cons _ (.cons_cons _ (List.nil_sublist _))
 |q::l,i + 1,p,h=>.cons _ (.cons _ (b0j (l:=l) (i:=i) (by simpa using h)))
theorem b2w {g sp:Nat} {k:KV} {vh:Value} {held:List Nat} {a b:Asr} {R:List Asr}:(a::b::(wkS g k sp vh held++R)).Perm (frA k::slA k::a::b::.blk g (wkB k sp vh)::hdA vh held::a2n k::(k.sp.map a0k++R)) :=
 (List.perm_middle (l₁:=[a,b,.blk g (wkB k sp vh),hdA vh held])).trans ((List.perm_middle (l₁:=[a,b,.blk g (wkB k sp vh),hdA vh held])).cons _)
set_option maxRecDepth 100000 in
set_option maxHeartbeats 8000000 in
theorem b30 {w:World} {k:KV} (hK:KerV w k) (space:Int):Fn Try.prog 5 [.agg (kvC k).toArray,.int .i64 space] w (fun v w'=>∃ k',v=.tuple #[.agg (kvC k').toArray,.int .i64 (b2C k.K space),.int .i64 (a6U k.K space)]∧k'.K=b3b k.K space∧Came w w' k'):=by
 have hbeg:=fun w1 (h:KerV w1 k)=>a4i h space
 have hK0:=hK
 have hKown:Right k.K→∀ w1,KerV w1 k→Fn Try.prog 14 [.agg (kvC k).toArray] w1 (fun v w'=>∃ k':KV,v=.agg (kvC k').toArray∧k'.K=k.K∧St nF w1 w' (kA k')):=fun hr w1 h=>a9w h (b4K hr)
 obtain ⟨RE,hRE⟩:∃ e,e=a6U k.K space:=⟨_,rfl⟩
 unfold b3b b2C
 rw [← hRE]
 unfold a6U at hRE
 obtain ⟨sh,fr,sl,sps,hand,vsh,vfr,vsl,vsp⟩:=k
 obtain ⟨k1,k2,k3,k4,k5⟩:=hK
 dsimp only at k1 k2 k3 k4 k5
 obtain ⟨p1,c1,rfl⟩:=k1.sl.len
 obtain ⟨p2,c2,rfl⟩:=k2.len
 obtain ⟨p3,c3,rfl⟩:=k3.len
 obtain ⟨p4,c4,rfl⟩:=k4.len
 have hlS:(KV.K ⟨sh,fr,sl,sps,hand,.slice p1 sh.length c1,.slice p2 fr.length c2,.slice p3 sl.length c3,.slice p4 sps.length c4⟩).spaces.length=sps.length:=List.length_map _
 have hlL:(KV.K ⟨sh,fr,sl,sps,hand,.slice p1 sh.length c1,.slice p2 fr.length c2,.slice p3 sl.length c3,.slice p4 sps.length c4⟩).slots.length=sl.length:=rfl
 generalize hKK:KV.K ⟨sh,fr,sl,sps,hand,.slice p1 sh.length c1,.slice p2 fr.length c2,.slice p3 sl.length c3,.slice p4 sps.length c4⟩=K at hbeg hRE hKown hlS hlL ⊢
 have hpre:∀ w1 Γ1,St nF w w1 Γ1→KerV w1 ⟨sh,fr,sl,sps,hand,.slice p1 sh.length c1,.slice p2 fr.length c2,.slice p3 sl.length c3,.slice p4 sps.length c4⟩:=fun w1 Γ1 h=>hK0.now h
 rw [hlS,hlL] at hRE
 rw [hlS]
 unfold kvC at hbeg hKown ⊢
 dsimp only at hbeg hKown ⊢
 have hno:∀ {w1 Γ1},St nF w w1 Γ1→∀ {e:Int},e≠0→∃ k':KV,Value.tuple #[.agg #[.slice none 0 0,.slice none 0 0,.slice none 0 0,.slice none 0 0,.int .i64 0],.int .i64 0,.int .i64 e]=.tuple #[.agg [k'.vsh,k'.vfr,k'.vsl,k'.vsp,.int .i64 k'.hand].toArray,.int .i64 (if e=0 then ((sps.length:Nat):Int) else 0),.int .i64 e]∧k'.K=(if e=0 then b1J K space.toNat else a6s)∧Came w w1 k':=by
  intro w1 Γ1 h e he
  exact ⟨kv0,by rw [if_neg he];rfl,by rw [if_neg he];rfl,Or.inl ⟨rfl,h.sub (List.nil_sublist _)⟩⟩
 refine j0 (fn:=Try.f5) ⟨Try.func5,by kernel_rfl,by kernel_rfl⟩ (by exact rfl) Try.ntmps5 (by exact rfl) ?_
 have hS:=St.start w
 repeat' (first|(first|((with_reducible apply d6 c8);exact rfl;exact rfl)|((with_reducible apply d9);exact rfl;(((with_reducible apply Loads.st c8);exact rfl;((exact hS.blkR 1 rfl));exact rfl));exact rfl)|((with_reducible apply p7 hS);(iterate 3 exact rfl);intro g w' hS';clear hS;have hS:=hS';clear hS')|((with_reducible apply j7 hS c8);(iterate 3 exact rfl);intro g w' hS';clear hS;have hS:=hS';clear hS'))|(first|(with_reducible first|apply d8|apply c9|apply d7|apply d5)))
 rename_i g2 _
 refine e8 rfl rfl (hbeg _ (hpre _ _ hS)) rfl ?_
 clear hbeg
 rintro v w2 (⟨he,rfl,hS'⟩|⟨gw,sp,k',he,hsp,rfl,hk',hS'⟩)
 ·replace hS:=hS.transA hS'
  simp only [k7] at hS
  rw [if_neg he] at hRE
  have hd:decide (a0n K space=0)=false:=decide_eq_false he
  rw [← hRE] at he hd ⊢
  repeat' (first|(first|((with_reducible apply d6 c8);exact rfl;exact rfl)|((with_reducible apply n7 c8);exact rfl;exact rfl;((exact (rfl:_=some [_,_,_,_,_])));exact rfl)|(((with_reducible apply i7 hS c8 (i:=0));(iterate 8 exact rfl);((exact (rfl:_=[_,_,_,_,_])));intro w' hS';simp only [List.set] at hS';clear hS;have hS:=hS';clear hS')))|(first|(with_reducible first|apply d8|apply c9|apply d7|apply d5|apply e7|apply j5|apply e6|apply j8))|(((with_reducible apply a1e);exact rfl;all_goals (intro hb hp;try (exfalso;omega)))))
  (apply a1C);(repeat (first|exact ResL.nil|(apply ResL.tmp;exact rfl)|(apply ResL.cell;exact rfl;(((with_reducible apply Loads.st c8);exact rfl;((exact hS.blkR 0 rfl));exact rfl)))))
  exact hno hS he
 rw [if_pos he] at hRE
 replace hS:=hS.trans hS'
 clear hS'
 rw [List.append_assoc] at hS
 have hV0:=WkV.own hS
 obtain ⟨hr,sp2,hsp2,hspl,hlv⟩:=a3Y he
 obtain rfl:sp=sp2:=by omega
 subst hsp
 rw [Int.toNat_natCast] at hRE hno ⊢
 subst hk'
 obtain ⟨x,hx⟩:∃ x,k'.sp[sp]?=some x:=by
  have:k'.K.spaces.length=k'.sp.length:=List.length_map _
  exact l8 (by omega)
 have hxm:=List.mem_of_getElem? hx
 obtain ⟨hsc,hel⟩:=a0q hr x.s (List.mem_of_getElem? (a0V hx))
 have hxA:l9 k'.K sp=x.s.areas:=by unfold l9;rw [x7 (a0V hx)]
 have hxe:l5 k'.K sp=x.s.entries:=by unfold l5;rw [x7 (a0V hx)]
 rw [hxA] at hRE
 have hsl3:k'.sp.length=sps.length:=by rw [← hlS];exact (List.length_map _).symm
 have hslL:k'.sl.length=sl.length:=hlL
 obtain ⟨bs,os,cs,hvsp⟩:=hV0.ker.sp.form1 hx
 obtain ⟨f0,hf0⟩:∃ f0,k'.fr[0]?=some f0:=l8 (by have:=hr.cnt.1;have h9:k'.K.frames.length=k'.fr.length:=rfl;omega)
 obtain ⟨bf,of_,cf,hvfr⟩:=hV0.ker.fr.form1 hf0
 obtain ⟨psl,csl,hvsl⟩:=hV0.ker.sl.len
 have hxv:=hV0.ker.spv x hxm
 have hown:=hKown hr
 clear hKown
 have hcA:∀ p ∈ k'.sp,q7 p.s.areas=0:=fun p hp=>(a0q hr p.s (List.mem_map.2 ⟨p,hp,rfl⟩)).1.ar
 have hroom:r9 (k'.sp.map (·.s))=r9 k'.K.spaces:=rfl
 have hsp4:=hr.cnt
 obtain ⟨sh',fr',sl',sps',hand',vsh',vfr',vsl',vsp'⟩:=k'
 dsimp only at hvsp hvfr hvsl hx hxm hf0 hsl3 hslL hcA hroom
 subst hvsp hvfr hvsl
 have hrowS:=j9 (f:=spC) hx
 unfold spC at hrowS
 have hback:∀ {w1 a b},St nF w w1 (a::b::(wkS gw (⟨sh',fr',sl',sps',hand',vsh',.slice (some ⟨bf,of_,none⟩) fr'.length cf,.slice psl sl'.length csl,.slice (some ⟨bs,os,none⟩) sps'.length cs⟩:KV) sp (.slice none 0 0) []++x8 (⟨sh',fr',sl',sps',hand',vsh',.slice (some ⟨bf,of_,none⟩) fr'.length cf,.slice psl sl'.length csl,.slice (some ⟨bs,os,none⟩) sps'.length cs⟩:KV)))→St nF w w1 (wkS gw (⟨sh',fr',sl',sps',hand',vsh',.slice (some ⟨bf,of_,none⟩) fr'.length cf,.slice psl sl'.length csl,.slice (some ⟨bs,os,none⟩) sps'.length cs⟩:KV) sp (.slice none 0 0) []++(x8 (⟨sh',fr',sl',sps',hand',vsh',.slice (some ⟨bf,of_,none⟩) fr'.length cf,.slice psl sl'.length csl,.slice (some ⟨bs,os,none⟩) sps'.length cs⟩:KV)++[a,b])):=fun h=>by
  rw [← List.append_assoc]
  exact h.perm (List.perm_append_comm (l₁:=[_,_]))
 have hspc:=fun w1 a b (h:St nF w w1 (a::b::(wkS gw (⟨sh',fr',sl',sps',hand',vsh',.slice (some ⟨bf,of_,none⟩) fr'.length cf,.slice psl sl'.length csl,.slice (some ⟨bs,os,none⟩) sps'.length cs⟩:KV) sp (.slice none 0 0) []++x8 (⟨sh',fr',sl',sps',hand',vsh',.slice (some ⟨bf,of_,none⟩) fr'.length cf,.slice psl sl'.length csl,.slice (some ⟨bs,os,none⟩) sps'.length cs⟩:KV))))=>a08 (WkV.own (hback h)) (j3 hx)
 have hspV:=fun w1 a b (h:St nF w w1 (a::b::(wkS gw (⟨sh',fr',sl',sps',hand',vsh',.slice (some ⟨bf,of_,none⟩) fr'.length cf,.slice psl sl'.length csl,.slice (some ⟨bs,os,none⟩) sps'.length cs⟩:KV) sp (.slice none 0 0) []++x8 (⟨sh',fr',sl',sps',hand',vsh',.slice (some ⟨bf,of_,none⟩) fr'.length cf,.slice psl sl'.length csl,.slice (some ⟨bs,os,none⟩) sps'.length cs⟩:KV))))=>(WkV.own (hback h)).ker.sp
 have htot:=fun w1 a b (h:St nF w w1 (a::b::(wkS gw (⟨sh',fr',sl',sps',hand',vsh',.slice (some ⟨bf,of_,none⟩) fr'.length cf,.slice psl sl'.length csl,.slice (some ⟨bs,os,none⟩) sps'.length cs⟩:KV) sp (.slice none 0 0) []++x8 (⟨sh',fr',sl',sps',hand',vsh',.slice (some ⟨bf,of_,none⟩) fr'.length cf,.slice psl sl'.length csl,.slice (some ⟨bs,os,none⟩) sps'.length cs⟩:KV))))=>a29 ((WkV.own (hback h)).ker.spv x hxm).ar
 have hroo:=fun w1 a b (h:St nF w w1 (a::b::(wkS gw (⟨sh',fr',sl',sps',hand',vsh',.slice (some ⟨bf,of_,none⟩) fr'.length cf,.slice psl sl'.length csl,.slice (some ⟨bs,os,none⟩) sps'.length cs⟩:KV) sp (.slice none 0 0) []++x8 (⟨sh',fr',sl',sps',hand',vsh',.slice (some ⟨bf,of_,none⟩) fr'.length cf,.slice psl sl'.length csl,.slice (some ⟨bs,os,none⟩) sps'.length cs⟩:KV))))=>b2n (WkV.own (hback h)) hcA (by rw [hsl3,← hlS];omega)
 dsimp only at hroo
 rw [hroom] at hroo
 unfold a1c at hspc
 dsimp only at hspc hspV
 rw [if_pos hsc.ar] at htot
 rw [← List.append_assoc] at hS
 replace hS:=hS.perm List.perm_append_comm
 dsimp only [List.cons_append,List.nil_append] at hS
 obtain ⟨hT0,hT1⟩:0≤y6 x.s.areas∧y6 x.s.areas≤70000:=(a2z (hr.spaces x.s (List.mem_of_getElem? (a0V hx)))).2
 have hR0:0≤r9 (⟨sh',fr',sl',sps',hand',vsh',.slice (some ⟨bf,of_,none⟩) fr'.length cf,.slice psl sl'.length csl,.slice (some ⟨bs,os,none⟩) sps'.length cs⟩:KV).K.spaces:=b0r fun s hs=>(a2z (hr.spaces s hs)).2.1
 have hR1:r9 (⟨sh',fr',sl',sps',hand',vsh',.slice (some ⟨bf,of_,none⟩) fr'.length cf,.slice psl sl'.length csl,.slice (some ⟨bs,os,none⟩) sps'.length cs⟩:KV).K.spaces≤512:=by have:=hr.room;omega
 obtain ⟨pe,ce,hve⟩:=hxv.en.len
 rw [hve] at hrowS
 generalize hRm:r9 (⟨sh',fr',sl',sps',hand',vsh',.slice (some ⟨bf,of_,none⟩) fr'.length cf,.slice psl sl'.length csl,.slice (some ⟨bs,os,none⟩) sps'.length cs⟩:KV).K.spaces=R at hroo hRE hR0 hR1
 generalize hTm:y6 x.s.areas=T at htot hRE hT0 hT1
 have hd0:decide (a0n (⟨sh',fr',sl',sps',hand',vsh',.slice (some ⟨bf,of_,none⟩) fr'.length cf,.slice psl sl'.length csl,.slice (some ⟨bs,os,none⟩) sps'.length cs⟩:KV).K (sp:Nat)=0)=true:=decide_eq_true he
 by_cases h4:sps.length=4
 ·rw [if_pos h4] at hRE
  have hd:decide (((sps.length:Nat):Int)=4)=true:=decide_eq_true (by omega)
  rw [hRE]
  repeat' (first|(first|((with_reducible apply d6 c8);exact rfl;exact rfl)|((with_reducible apply d9);exact rfl;(((with_reducible apply Loads.sl c8);exact rfl;((exact hS.blkC 1 rfl rfl))));exact rfl)|((with_reducible apply n7 c8);exact rfl;exact rfl;((exact (rfl:_=some [_,_,_,_,_])));exact rfl)|(((with_reducible apply i7 hS c8 (i:=0));(iterate 8 exact rfl);((exact (rfl:_=[_,_,_,_,_])));intro w' hS';simp only [List.set] at hS';clear hS;have hS:=hS';clear hS')))|(first|(with_reducible first|apply d8|apply c9|apply d7|apply d5|apply e7|apply j5|apply e6|apply j8))|(first|((with_reducible apply k9);exact rfl;(assumption))|((with_reducible apply l6);exact rfl;(exact rfl))))
  (apply a1C);(repeat (first|exact ResL.nil|(apply ResL.tmp;exact rfl)|(apply ResL.cell;exact rfl;(((with_reducible apply Loads.st c8);exact rfl;((exact hS.blkR 0 rfl));exact rfl)))))
  exact hno hS (by omega)
 rw [if_neg h4] at hRE
 have hd:decide (((sps.length:Nat):Int)=4)=false:=decide_eq_false (by omega)
 by_cases h5:(sl.length:Int) < R + T
 ·rw [if_pos h5] at hRE
  have hd2:decide ((sl.length:Int) < R + T)=true:=decide_eq_true h5
  rw [hRE]
  repeat' (first|(first|((with_reducible apply d6 c8);exact rfl;exact rfl)|((with_reducible apply d9);exact rfl;(((with_reducible apply Loads.sl c8);exact rfl;((exact hS.blkC 1 rfl rfl))));exact rfl))|(first|(with_reducible first|apply d8|apply c9|apply d7|apply d5|apply e7))|(((with_reducible apply l6);exact rfl;first|exact rfl|assumption)))
  (focus ((with_reducible apply m7 _ _ _ (by kernel_rfl) (by kernel_rfl) hS);(repeat' (first|(first|((with_reducible apply a1v);exact rfl;exact rfl;omega;omega;exact rfl)|((with_reducible apply o5 c8);exact rfl;exact rfl)|((with_reducible apply n6);exact rfl;(intro wd hd;replace hd:St _ _ wd _:=hd;(((with_reducible apply Loads.sl c8);exact rfl;((exact hd.blkC 1 rfl rfl)))));exact rfl))|((with_reducible apply a0A);exact rfl;exact rfl;(intro wd hd;replace hd:St _ _ wd _:=hd;exact hroo _ _ _ hd);exact rfl)|((with_reducible apply a0A);exact rfl;exact rfl;(intro wd hd;replace hd:St _ _ wd _:=hd;exact hspc _ _ _ hd);exact rfl)|((with_reducible apply n6);exact rfl;(intro wd hd;replace hd:St _ _ wd _:=hd;(((with_reducible apply Loads.sl c8);exact rfl;exact (hspV _ _ _ hd).cel hrowS rfl)));exact rfl)|((with_reducible apply a0A);exact rfl;exact rfl;(intro wd hd;replace hd:St _ _ wd _:=hd;exact htot _ _ _ hd);exact rfl)));all_goals ((with_reducible apply r5);intro w' hS';clear hS;have hS:=hS';clear hS')))
  repeat' (first|(first|((with_reducible apply d6 c8);exact rfl;exact rfl)|((with_reducible apply n7 c8);exact rfl;exact rfl;((exact (rfl:_=some [_,_,_,_,_])));exact rfl)|(((with_reducible apply i7 hS c8 (i:=0));(iterate 8 exact rfl);((exact (rfl:_=[_,_,_,_,_])));intro w' hS';simp only [List.set] at hS';clear hS;have hS:=hS';clear hS')))|(first|(with_reducible first|apply d8|apply c9|apply d7|apply d5|apply j5|apply e6|apply j8))|(((with_reducible apply k9);exact rfl;(assumption))))
  (apply a1C);(repeat (first|exact ResL.nil|(apply ResL.tmp;exact rfl)|(apply ResL.cell;exact rfl;(((with_reducible apply Loads.st c8);exact rfl;((exact hS.blkR 0 rfl));exact rfl)))))
  exact hno hS (by omega)
 rw [if_neg h5] at hRE
 have hd2:decide ((sl.length:Int) < R + T)=false:=decide_eq_false h5
 repeat' (first|(first|((with_reducible apply d6 c8);exact rfl;exact rfl)|((with_reducible apply d9);exact rfl;(((with_reducible apply Loads.sl c8);exact rfl;((exact hS.blkC 1 rfl rfl))));exact rfl))|(first|(with_reducible first|apply d8|apply c9|apply d7|apply d5|apply e7))|(((with_reducible apply l6);exact rfl;first|exact rfl|assumption)))
 (focus ((with_reducible apply m7 _ _ _ (by kernel_rfl) (by kernel_rfl) hS);(repeat' (first|(first|((with_reducible apply a1v);exact rfl;exact rfl;omega;omega;exact rfl)|((with_reducible apply o5 c8);exact rfl;exact rfl)|((with_reducible apply n6);exact rfl;(intro wd hd;replace hd:St _ _ wd _:=hd;(((with_reducible apply Loads.sl c8);exact rfl;((exact hd.blkC 1 rfl rfl)))));exact rfl))|((with_reducible apply a0A);exact rfl;exact rfl;(intro wd hd;replace hd:St _ _ wd _:=hd;exact hroo _ _ _ hd);exact rfl)|((with_reducible apply a0A);exact rfl;exact rfl;(intro wd hd;replace hd:St _ _ wd _:=hd;exact hspc _ _ _ hd);exact rfl)|((with_reducible apply n6);exact rfl;(intro wd hd;replace hd:St _ _ wd _:=hd;(((with_reducible apply Loads.sl c8);exact rfl;exact (hspV _ _ _ hd).cel hrowS rfl)));exact rfl)|((with_reducible apply a0A);exact rfl;exact rfl;(intro wd hd;replace hd:St _ _ wd _:=hd;exact htot _ _ _ hd);exact rfl)));all_goals ((with_reducible apply r5);intro w' hS';clear hS;have hS:=hS';clear hS')))
 repeat' (first|(((with_reducible apply d6 c8);exact rfl;exact rfl))|(first|(with_reducible first|apply d8|apply c9|apply d7|apply d5|apply g8|apply e7|apply k8))|(((with_reducible apply l6);exact rfl;(assumption)))|((with_reducible apply e8);exact rfl;exact rfl;exact hspc _ _ _ hS;exact rfl;rintro _ w' ⟨rfl,hS'⟩;replace hS:=hS.transA hS';simp only [k7] at hS;clear hS')|((with_reducible apply d9);exact rfl;(((with_reducible apply Loads.sl c8);exact rfl;exact (hspV _ _ _ hS).cel hrowS rfl));exact rfl))
 obtain ⟨hrb1,hrb2⟩:=a3s hr
 have hfold:=fun i=>a9V (k:=(⟨sh',fr',sl',sps',hand',vsh',.slice (some ⟨bf,of_,none⟩) fr'.length cf,.slice psl sl'.length csl,.slice (some ⟨bs,os,none⟩) sps'.length cs⟩:KV)) (b:=100000) ⟨hrb1,hrb2⟩ (by omega) (x.s.entries.take i)
 replace hS:=hS.perm b2w
 unfold frA slA at hS
 dsimp only at hS
 have hof:of_=0:=by
  obtain ⟨gg,hgg⟩:=hS.rowSome 0 rfl (j3 hf0)
  injection hgg with hgg
  injection hgg
 subst hof
 have hEn:∀ {w1 A B C D},St nF w w1 (A::B::C::D::.blk gw (wkB (⟨sh',fr',sl',sps',hand',vsh',.slice (some ⟨bf,0,none⟩) fr'.length cf,.slice psl sl'.length csl,.slice (some ⟨bs,os,none⟩) sps'.length cs⟩:KV) sp (.slice none 0 0))::hdA (.slice none 0 0) []::a2n (⟨sh',fr',sl',sps',hand',vsh',.slice (some ⟨bf,0,none⟩) fr'.length cf,.slice psl sl'.length csl,.slice (some ⟨bs,os,none⟩) sps'.length cs⟩:KV)::((⟨sh',fr',sl',sps',hand',vsh',.slice (some ⟨bf,0,none⟩) fr'.length cf,.slice psl sl'.length csl,.slice (some ⟨bs,os,none⟩) sps'.length cs⟩:KV).sp.map a0k++x8 (⟨sh',fr',sl',sps',hand',vsh',.slice (some ⟨bf,0,none⟩) fr'.length cf,.slice psl sl'.length csl,.slice (some ⟨bs,os,none⟩) sps'.length cs⟩:KV)))→Sl nF w1 3 (.slice pe x.s.entries.length ce) (x.s.entries.map enC):=fun h=>by
  rw [← hve]
  exact h.slMem (e:=55) (by
   refine List.mem_cons_of_mem _ (List.mem_cons_of_mem _ (List.mem_cons_of_mem _ (List.mem_cons_of_mem _ (List.mem_cons_of_mem _ (List.mem_cons_of_mem _ (List.mem_cons_of_mem _ (List.mem_append_left _ ?_)))))))
   exact List.mem_map.2 ⟨x,hxm,rfl⟩)
 refine o6 (F:=nF) (w0:=w) (X:=Nat) (fun i=>[(49,.int .i64 (i:Nat))]) [1,2,4,7,47,48] rfl (fun i=>[.row 43 4 (.slice (some ⟨bf,0,none⟩) fr'.length cf) (((x.s.entries.take i).foldl a0J (⟨sh',fr',sl',sps',hand',vsh',.slice (some ⟨bf,0,none⟩) fr'.length cf,.slice psl sl'.length csl,.slice (some ⟨bs,os,none⟩) sps'.length cs⟩:KV)).fr.map fmC),.row 45 2 (.slice psl sl'.length csl) (((x.s.entries.take i).foldl a0J (⟨sh',fr',sl',sps',hand',vsh',.slice (some ⟨bf,0,none⟩) fr'.length cf,.slice psl sl'.length csl,.slice (some ⟨bs,os,none⟩) sps'.length cs⟩:KV)).sl.map swC)]) (fun i=>i≤x.s.entries.length) (fun i=>x.s.entries.length - i) 0 (by repeat (first|exact Fr.sub_nil _|(apply Fr.sub_cons;exact rfl))) (Nat.zero_le _) hS ?_
 clear hS
 intro i w3 hi hS
 dsimp only [List.cons_append,List.nil_append] at hS ⊢
 obtain ⟨hsm,hrf⟩:=hfold i
 by_cases hlt:i < x.s.entries.length
 ·have hdl:decide ((i:Int) < (x.s.entries.length:Int))=true:=decide_eq_true (by omega)
  obtain ⟨e,he2⟩:=l8 (l:=x.s.entries) (i:=i) (by omega)
  obtain ⟨b,off,rfl,-⟩:=(hEn hS).at_ hlt
  have hrowE:=j9 (f:=enC) he2
  unfold enC at hrowE
  have hnx:=a7y he2 (⟨sh',fr',sl',sps',hand',vsh',.slice (some ⟨bf,0,none⟩) fr'.length cf,.slice psl sl'.length csl,.slice (some ⟨bs,os,none⟩) sps'.length cs⟩:KV)
  obtain ⟨hnm,-,-⟩:=a5V hr hx (List.mem_of_getElem? he2)
  obtain ⟨epg,ekd,eat⟩:=e
  dsimp only at hnm hrowE
  have hln:(x.s.entries.take i).length≤255:=by rw [List.length_take];omega
  rcases hnm with ⟨hk,j,hj,hjl⟩|⟨hk,j,hj,hjl⟩
  ·subst hj
   have hdk:decide (ekd=1)=true:=decide_eq_true hk
   have hjl':j < fr'.length:=hjl
   obtain ⟨f1,hf1⟩:=l8 (l:=((x.s.entries.take i).foldl a0J (⟨sh',fr',sl',sps',hand',vsh',.slice (some ⟨bf,0,none⟩) fr'.length cf,.slice psl sl'.length csl,.slice (some ⟨bs,os,none⟩) sps'.length cs⟩:KV)).fr) (i:=j) (by rw [hsm.nfr];exact Int.ofNat_lt.2 hjl')
   have hrb:=hrf.1 f1 (List.mem_of_getElem? hf1)
   have hrowF:=j9 (f:=fmC) hf1
   unfold fmC at hrowF
   have hn1:((x.s.entries.take (i + 1)).foldl a0J (⟨sh',fr',sl',sps',hand',vsh',.slice (some ⟨bf,0,none⟩) fr'.length cf,.slice psl sl'.length csl,.slice (some ⟨bs,os,none⟩) sps'.length cs⟩:KV)).fr=((x.s.entries.take i).foldl a0J (⟨sh',fr',sl',sps',hand',vsh',.slice (some ⟨bf,0,none⟩) fr'.length cf,.slice psl sl'.length csl,.slice (some ⟨bs,os,none⟩) sps'.length cs⟩:KV)).fr.set j (a74 f1):=by
    rw [hnx,(b2S hk).1,Int.toNat_natCast,q8 hf1]
   have hn2:((x.s.entries.take (i + 1)).foldl a0J (⟨sh',fr',sl',sps',hand',vsh',.slice (some ⟨bf,0,none⟩) fr'.length cf,.slice psl sl'.length csl,.slice (some ⟨bs,os,none⟩) sps'.length cs⟩:KV)).sl=((x.s.entries.take i).foldl a0J (⟨sh',fr',sl',sps',hand',vsh',.slice (some ⟨bf,0,none⟩) fr'.length cf,.slice psl sl'.length csl,.slice (some ⟨bs,os,none⟩) sps'.length cs⟩:KV)).sl:=by
    rw [hnx,(b2S hk).2]
   generalize hFR:((x.s.entries.take i).foldl a0J (⟨sh',fr',sl',sps',hand',vsh',.slice (some ⟨bf,0,none⟩) fr'.length cf,.slice psl sl'.length csl,.slice (some ⟨bs,os,none⟩) sps'.length cs⟩:KV)).fr=FR at *
   generalize hSL:((x.s.entries.take i).foldl a0J (⟨sh',fr',sl',sps',hand',vsh',.slice (some ⟨bf,0,none⟩) fr'.length cf,.slice psl sl'.length csl,.slice (some ⟨bs,os,none⟩) sps'.length cs⟩:KV)).sl=SL at *
   have e1:(FR.map fmC).set j (t8 [.string ⟨f1.data.toArray⟩,.int .i64 f1.refs,.bool f1.dirty,.bool f1.seen] 1 [.int .i64 (f1.refs + 1)])=(FR.set j (a74 f1)).map fmC:=by rw [List.map_set];rfl
   repeat' (first|(first|((with_reducible apply d6 c8);exact rfl;exact rfl)|((with_reducible apply d9);exact rfl;(((with_reducible apply Loads.sc c8);exact rfl;((exact hS.blkC 0 rfl rfl))));exact rfl)|((with_reducible apply p8 c8);(iterate 3 exact rfl);((exact rfl));((omega));exact rfl)|((with_reducible apply j7 hS c8);(iterate 3 exact rfl);intro g w' hS';clear hS;have hS:=hS';clear hS')|(((with_reducible apply i7 hS c8 (i:=0));(iterate 8 exact rfl);((exact (rfl:_=[_,_,_])));intro w' hS';simp only [List.set] at hS';clear hS;have hS:=hS';clear hS')))|(first|(with_reducible first|apply d8|apply c9|apply d7|apply d5|apply g8|apply e7))|(((with_reducible apply k9);exact rfl;(assumption)))|((with_reducible apply d9);exact rfl;((with_reducible apply Loads.st c8);exact rfl;exact ((hEn hS).rng hrowE);exact rfl);exact rfl))
   (focus ((with_reducible apply a0X _ _ _ 13 (by kernel_rfl) (by kernel_rfl) hS);(simp only [List.take_succ_cons,List.take_zero,List.drop_succ_cons,List.drop_zero]);(repeat' ((first|((with_reducible apply a1v);exact rfl;exact rfl;omega;omega;exact rfl)|((with_reducible apply o5 c8);exact rfl;exact rfl)|((with_reducible apply n6);exact rfl;(intro wd hd;replace hd:St _ _ wd _:=hd;(first|((with_reducible apply Loads.sc c8);exact rfl;(first|exact hd.blkC 0 rfl rfl|exact hd.rowCj 1 rfl (by assumption) rfl))|((with_reducible apply Loads.sl c8);exact rfl;((exact hd.blkC 5 rfl rfl)))));exact rfl)|((with_reducible apply a05 c8);(iterate 3 exact rfl);((exact rfl));((omega));exact rfl))));all_goals ((with_reducible apply r5);intro w' hS';clear hS;have hS:=hS';clear hS')))
   repeat' (first|(first|((with_reducible apply m0);exact rfl;exact rfl;omega;omega;exact rfl)|((with_reducible apply d6 c8);exact rfl;exact rfl))|(first|(with_reducible first|apply c9|apply d7|apply d5|apply k8))|((with_reducible apply a0i hS c8 (i:=1));(iterate 4 exact rfl);assumption;(iterate 5 exact rfl);intro w' hS';simp only [List.set] at hS';clear hS;have hS:=hS';clear hS'))
   rw [e1] at hS
   refine m6 (i + 1) (by repeat (first|exact Fr.sub_nil _|(apply Fr.sub_cons;exact rfl))) (by omega) ?_ (by omega)
   dsimp only [List.cons_append,List.nil_append]
   rw [hn1,hn2]
   exact hS.drop
  ·subst hj
   have hdk:decide (ekd=1)=false:=decide_eq_false hk
   have hjl':j < sl'.length:=hjl
   obtain ⟨f1,hf1⟩:=l8 (l:=((x.s.entries.take i).foldl a0J (⟨sh',fr',sl',sps',hand',vsh',.slice (some ⟨bf,0,none⟩) fr'.length cf,.slice psl sl'.length csl,.slice (some ⟨bs,os,none⟩) sps'.length cs⟩:KV)).sl) (i:=j) (by rw [hsm.nsl];exact Int.ofNat_lt.2 hjl')
   have hrb:=hrf.2 f1 (List.mem_of_getElem? hf1)
   have hrowF:=j9 (f:=swC) hf1
   unfold swC at hrowF
   have hn1:((x.s.entries.take (i + 1)).foldl a0J (⟨sh',fr',sl',sps',hand',vsh',.slice (some ⟨bf,0,none⟩) fr'.length cf,.slice psl sl'.length csl,.slice (some ⟨bs,os,none⟩) sps'.length cs⟩:KV)).sl=((x.s.entries.take i).foldl a0J (⟨sh',fr',sl',sps',hand',vsh',.slice (some ⟨bf,0,none⟩) fr'.length cf,.slice psl sl'.length csl,.slice (some ⟨bs,os,none⟩) sps'.length cs⟩:KV)).sl.set j (a8V f1):=by
    rw [hnx,(b2a hk).1,Int.toNat_natCast,a0B hf1]
   have hn2:((x.s.entries.take (i + 1)).foldl a0J (⟨sh',fr',sl',sps',hand',vsh',.slice (some ⟨bf,0,none⟩) fr'.length cf,.slice psl sl'.length csl,.slice (some ⟨bs,os,none⟩) sps'.length cs⟩:KV)).fr=((x.s.entries.take i).foldl a0J (⟨sh',fr',sl',sps',hand',vsh',.slice (some ⟨bf,0,none⟩) fr'.length cf,.slice psl sl'.length csl,.slice (some ⟨bs,os,none⟩) sps'.length cs⟩:KV)).fr:=by
    rw [hnx,(b2a hk).2]
   generalize hFR:((x.s.entries.take i).foldl a0J (⟨sh',fr',sl',sps',hand',vsh',.slice (some ⟨bf,0,none⟩) fr'.length cf,.slice psl sl'.length csl,.slice (some ⟨bs,os,none⟩) sps'.length cs⟩:KV)).fr=FR at *
   generalize hSL:((x.s.entries.take i).foldl a0J (⟨sh',fr',sl',sps',hand',vsh',.slice (some ⟨bf,0,none⟩) fr'.length cf,.slice psl sl'.length csl,.slice (some ⟨bs,os,none⟩) sps'.length cs⟩:KV)).sl=SL at *
   have e1:(SL.map swC).set j (t8 [.string ⟨f1.data.toArray⟩,.int .i64 f1.refs] 1 [.int .i64 (f1.refs + 1)])=(SL.set j (a8V f1)).map swC:=by rw [List.map_set];rfl
   obtain ⟨gs,rfl⟩:=hS.rowSome 1 rfl (by omega)
   repeat' (first|(first|((with_reducible apply d6 c8);exact rfl;exact rfl)|((with_reducible apply d9);exact rfl;(((with_reducible apply Loads.sc c8);exact rfl;((exact hS.blkC 0 rfl rfl))));exact rfl)|((with_reducible apply p8 c8);(iterate 3 exact rfl);((exact rfl));((omega));exact rfl)|((with_reducible apply j7 hS c8);(iterate 3 exact rfl);intro g w' hS';clear hS;have hS:=hS';clear hS')|(((with_reducible apply i7 hS c8 (i:=0));(iterate 8 exact rfl);((exact (rfl:_=[_,_,_])));intro w' hS';simp only [List.set] at hS';clear hS;have hS:=hS';clear hS')))|(first|(with_reducible first|apply d8|apply c9|apply d7|apply d5|apply g8|apply e7))|(first|((with_reducible apply k9);exact rfl;(assumption))|((with_reducible apply l6);exact rfl;(assumption)))|((with_reducible apply d9);exact rfl;((with_reducible apply Loads.st c8);exact rfl;exact ((hEn hS).rng hrowE);exact rfl);exact rfl))
   (focus ((with_reducible apply a0X _ _ _ 13 (by kernel_rfl) (by kernel_rfl) hS);(simp only [List.take_succ_cons,List.take_zero,List.drop_succ_cons,List.drop_zero]);(repeat' ((first|((with_reducible apply a1v);exact rfl;exact rfl;omega;omega;exact rfl)|((with_reducible apply o5 c8);exact rfl;exact rfl)|((with_reducible apply n6);exact rfl;(intro wd hd;replace hd:St _ _ wd _:=hd;(first|((with_reducible apply Loads.sc c8);exact rfl;(first|exact hd.blkC 0 rfl rfl|exact hd.rowCj 2 rfl (by assumption) rfl))|((with_reducible apply Loads.sl c8);exact rfl;((exact hd.blkC 5 rfl rfl)))));exact rfl)|((with_reducible apply a05 c8);(iterate 3 exact rfl);((exact rfl));((omega));exact rfl))));all_goals ((with_reducible apply r5);intro w' hS';clear hS;have hS:=hS';clear hS')))
   repeat' (first|(first|((with_reducible apply m0);exact rfl;exact rfl;omega;omega;exact rfl)|((with_reducible apply d6 c8);exact rfl;exact rfl))|(first|(with_reducible first|apply c9|apply d7|apply d5|apply k8))|((with_reducible apply a0i hS c8 (i:=2));(iterate 4 exact rfl);assumption;(iterate 5 exact rfl);intro w' hS';simp only [List.set] at hS';clear hS;have hS:=hS';clear hS'))
   rw [e1] at hS
   refine m6 (i + 1) (by repeat (first|exact Fr.sub_nil _|(apply Fr.sub_cons;exact rfl))) (by omega) ?_ (by omega)
   dsimp only [List.cons_append,List.nil_append]
   rw [hn1,hn2]
   exact hS.drop
 ·have hdl:decide ((i:Int) < (x.s.entries.length:Int))=false:=decide_eq_false (by omega)
  obtain rfl:i=x.s.entries.length:=by omega
  rw [List.take_length] at hS hsm hrf
  repeat' (first|(((with_reducible apply d6 c8);exact rfl;exact rfl))|(first|(with_reducible first|apply d8|apply c9|apply d7|apply d5|apply n5|apply j4|apply i9))|(((with_reducible apply l6);exact rfl;(assumption))))
  clear hroo htot hspV hspc hback hEn
  obtain ⟨FRs,hFRs⟩:∃ F,F=(x.s.entries.foldl a0J (⟨sh',fr',sl',sps',hand',vsh',.slice (some ⟨bf,0,none⟩) fr'.length cf,.slice psl sl'.length csl,.slice (some ⟨bs,os,none⟩) sps'.length cs⟩:KV)).fr:=⟨_,rfl⟩
  obtain ⟨SLs,hSLs⟩:∃ F,F=(x.s.entries.foldl a0J (⟨sh',fr',sl',sps',hand',vsh',.slice (some ⟨bf,0,none⟩) fr'.length cf,.slice psl sl'.length csl,.slice (some ⟨bs,os,none⟩) sps'.length cs⟩:KV)).sl:=⟨_,rfl⟩
  rw [← hFRs,← hSLs] at hS
  have hos:os=0:=by
   obtain ⟨gg,hgg⟩:=hS.rowSome 6 rfl (Nat.lt_of_le_of_lt (Nat.zero_le _) (j3 hx))
   injection hgg with hgg
   injection hgg
  subst hos
  unfold a2n wkB at hS
  dsimp only at hS
  refine a3o (fun w'=>St nF w w' [.blk g2 [.slice p1 sh.length c1,.slice p2 fr.length c2,.slice p3 sl.length c3,.slice p4 sps.length c4,.int .i64 hand],.blk gw [vsh',.slice (some ⟨bf,0,none⟩) fr'.length cf,.slice psl sl'.length csl,.slice (some ⟨bs,0,none⟩) sps'.length cs,.int .i64 hand',.int .i64 (sp:Nat),.slice none 0 0]]) 17 18 rfl hS (by kernel_rfl) ?_
  intro w4 hS'
  clear hS;have hS:=hS';clear hS'
  have hH:St nF w w4 [.blk g2 [.slice p1 sh.length c1,.slice p2 fr.length c2,.slice p3 sl.length c3,.slice p4 sps.length c4,.int .i64 hand],.blk gw [vsh',.slice (some ⟨bf,0,none⟩) fr'.length cf,.slice psl sl'.length csl,.slice (some ⟨bs,0,none⟩) sps'.length cs,.int .i64 hand',.int .i64 (sp:Nat),.slice none 0 0]]:=hS.sub (.cons _ (.cons _ (.cons _ (.cons_cons _ (.cons_cons _ (List.nil_sublist _))))))
  ((with_reducible apply l4 0 c8);exact rfl;kernel_rfl;kernel_rfl;kernel_rfl;exact rfl;exact (fun _ _ _ h=>h);exact Or.inr hH;exact rfl;exact rfl)
  ((with_reducible apply l4 1 c8);exact rfl;kernel_rfl;kernel_rfl;kernel_rfl;exact rfl;exact (fun _ _ _ h=>h);exact Or.inr hH;exact rfl;exact rfl)
  ((with_reducible apply l4 2 c8);exact rfl;kernel_rfl;kernel_rfl;kernel_rfl;exact rfl;exact (fun _ _ _ h=>h);exact Or.inr hH;exact rfl;exact rfl)
  ((with_reducible apply l4 3 c8);exact rfl;kernel_rfl;kernel_rfl;kernel_rfl;exact rfl;exact (fun _ _ _ h=>h);exact Or.inr hH;exact rfl;exact rfl)
  ((with_reducible apply l4 4 c8);exact rfl;kernel_rfl;kernel_rfl;kernel_rfl;exact rfl;exact (fun _ _ _ h=>h);exact Or.inr hH;exact rfl;exact rfl)
  ((with_reducible apply r7 5);exact rfl;kernel_rfl;kernel_rfl;kernel_rfl;kernel_rfl;exact rfl;exact rfl;exact (fun _ _ _ h=>h);exact hH;exact rfl;(intro w2 hw2;(replace hw2:St _ _ w2 _:=hw2;(((with_reducible apply Loads.sl c8);exact rfl;((exact hw2.blkC 1 rfl rfl))))));exact rfl)
  ((with_reducible apply r7 6);exact rfl;kernel_rfl;kernel_rfl;kernel_rfl;kernel_rfl;exact rfl;exact rfl;exact (fun _ _ _ h=>h);exact hH;exact rfl;(intro w2 hw2;(replace hw2:St _ _ w2 _:=hw2;(((with_reducible apply Loads.st c8);exact rfl;((exact hw2.blkR 0 rfl));exact rfl))));exact rfl)
  ((with_reducible apply l4 9 c8);exact rfl;kernel_rfl;kernel_rfl;kernel_rfl;exact rfl;exact (fun _ _ _ h=>h);exact Or.inr hH;exact rfl;exact rfl)
  refine s7 (i:=7) (by kernel_rfl) ?_
  refine t5 rfl (a0o (first:=[]) (caps:=[]) rfl rfl (hown _ (hpre _ _ hS))) rfl ?_
  rintro _ w5 ⟨ko,rfl,hko,h2⟩
  replace hS:=hS.trans h2
  clear h2 hown
  have hkos:ko.sp.map (·.s)=sps'.map (·.s):=by
   have:=congrArg Ker.spaces hko
   exact this
  obtain ⟨po,hpo,hpos⟩:∃ po,ko.sp[sp]?=some po∧po.s=x.s:=by
   have h1:(ko.sp.map (·.s))[sp]?=some x.s:=by rw [hkos,List.getElem?_map,hx];rfl
   rw [List.getElem?_map] at h1
   obtain ⟨po,h2,h3⟩:=Option.map_eq_some_iff.1 h1
   exact ⟨po,h2,h3⟩
  have hrowO:=j9 (f:=spC) hpo
  unfold spC at hrowO
  have hsub2:[Asr.row 41 3 ko.vsp (ko.sp.map spC),a3j po,a0k po].Sublist (kA ko):=.cons _ (.cons _ (.cons _ (.cons_cons _ ((b0j hpo).trans (List.sublist_append_right _ _)))))
  replace hS:=hS.sub (hsub2.append_right _)
  dsimp only [List.cons_append,List.nil_append] at hS
  obtain ⟨ps,pva,pve⟩:=po
  dsimp only at hpos
  subst hpos
  unfold a3j a0k at hS
  dsimp only at hS hrowO
  obtain ⟨osh,ofr,osl,osp,ohand,ovsh,ovfr,ovsl,ovsp⟩:=ko
  dsimp only at hkos hpo hrowO hS
  obtain ⟨qo,do_,rfl⟩:=hS.rowSlice 0 rfl
  obtain ⟨go,rfl⟩:=hS.rowSome 0 rfl (by have:=j3 hpo;rw [List.length_map];omega)
  obtain ⟨qa,da,rfl⟩:=hS.rowSlice 1 rfl
  obtain ⟨qe,de,rfl⟩:=hS.rowSlice 2 rfl
  simp only [List.length_map] at hS hrowO hpo ⊢
  have hspo:=j3 hpo
  have hH:St nF w w5 [.blk g2 [.slice p1 sh.length c1,.slice p2 fr.length c2,.slice p3 sl.length c3,.slice p4 sps.length c4,.int .i64 hand],.blk gw [vsh',.slice (some ⟨bf,0,none⟩) fr'.length cf,.slice psl sl'.length csl,.slice (some ⟨bs,0,none⟩) sps'.length cs,.int .i64 hand',.int .i64 (sp:Nat),.slice none 0 0]]:=hS.sub (.cons _ (.cons _ (.cons _ (.cons _ (.cons _ (.cons _ (.cons_cons _ (.cons_cons _ (List.nil_sublist _)))))))))
  refine ⟨Or.inr (Or.inr hH),?_⟩
  ((with_reducible apply l4 8 c8);exact rfl;kernel_rfl;kernel_rfl;kernel_rfl;exact rfl;exact (fun _ _ _ h=>h);exact Or.inr hH;exact rfl;exact rfl)
  ((with_reducible apply a2E 10);exact rfl;kernel_rfl;kernel_rfl;kernel_rfl;exact rfl;exact (fun _ _ _ h=>h);exact Or.inr hH;(intro a ha;exact a7T c8 rfl rfl rfl rfl hspo a ha _);exact rfl)
  refine s7 (i:=11) (by kernel_rfl) ?_
  refine t5 rfl (a7P rfl (by ((with_reducible apply Loads.st c8);exact rfl;exact ((hS.rowSl 0 rfl).rng hrowO);exact rfl))) rfl ?_
  rintro _ _ ⟨rfl,rfl⟩
  refine ⟨Or.inr (Or.inr hH),?_⟩
  refine s7 (i:=12) (by kernel_rfl) ?_
  refine t5 rfl (y8 hS c8 rfl rfl rfl rfl rfl rfl) rfl ?_
  rintro _ w' ⟨gu,rfl,hS'⟩
  clear hS;have hS:=hS';clear hS'
  have hH:St nF w w' [.blk g2 [.slice p1 sh.length c1,.slice p2 fr.length c2,.slice p3 sl.length c3,.slice p4 sps.length c4,.int .i64 hand],.blk gw [vsh',.slice (some ⟨bf,0,none⟩) fr'.length cf,.slice psl sl'.length csl,.slice (some ⟨bs,0,none⟩) sps'.length cs,.int .i64 hand',.int .i64 (sp:Nat),.slice none 0 0]]:=hS.drop.sub (.cons _ (.cons _ (.cons _ (.cons _ (.cons _ (.cons _ (.cons_cons _ (.cons_cons _ (List.nil_sublist _)))))))))
  refine ⟨Or.inr (Or.inr hH),?_⟩
  refine s7 (i:=13) (by kernel_rfl) ?_
  refine t5 rfl (a0z hS c8 (i:=10) rfl rfl rfl rfl (hS.rowRo 0 rfl) rfl (by simp only [List.length_map,List.length_cons,List.length_nil];omega)) rfl ?_
  rintro _ w' ⟨ph,ch,rfl,hS'⟩
  simp only [List.set,List.length_map] at hS' ⊢
  clear hS;have hS:=hS';clear hS'
  have hH:St nF w w' [.blk g2 [.slice p1 sh.length c1,.slice p2 fr.length c2,.slice p3 sl.length c3,.slice p4 sps.length c4,.int .i64 hand],.blk gw [vsh',.slice (some ⟨bf,0,none⟩) fr'.length cf,.slice psl sl'.length csl,.slice (some ⟨bs,0,none⟩) sps'.length cs,.int .i64 hand',.int .i64 (sp:Nat),.slice none 0 0]]:=hS.drop.sub (.cons _ (.cons _ (.cons _ (.cons _ (.cons _ (.cons _ (.cons_cons _ (.cons_cons _ (List.nil_sublist _)))))))))
  refine ⟨Or.inr (Or.inr hH),?_⟩
  ((with_reducible apply l4 14 c8);exact rfl;kernel_rfl;kernel_rfl;kernel_rfl;exact rfl;exact (fun _ _ _ h=>h);exact Or.inr hH;exact rfl;exact rfl)
  ((with_reducible apply l4 15 c8);exact rfl;kernel_rfl;kernel_rfl;kernel_rfl;exact rfl;exact (fun _ _ _ h=>h);exact Or.inr hH;exact rfl;exact rfl)
  ((with_reducible apply l4 16 c8);exact rfl;kernel_rfl;kernel_rfl;kernel_rfl;exact rfl;exact (fun _ _ _ h=>h);exact Or.inr hH;exact rfl;exact rfl)
  refine s7 (i:=17) (by kernel_rfl) ?_
  refine a0L (Φ:=fun _ w'=>St _ _ w' _) rfl (o8 hS c8 (i:=8) rfl rfl rfl rfl rfl (Nat.le_of_ble_eq_true rfl) (by intro u hu;simp [Value.cells] at hu;subst hu;rfl)) ?_
  intro _ w' hS'
  simp only [List.set,t8] at hS'
  clear hS;have hS:=hS';clear hS'
  refine ⟨Or.inl rfl,?_⟩
  refine a1a (by kernel_rfl) ?_
  replace hS:=hS.drop.drop
  obtain ⟨psh,csh,rfl⟩:∃ p c,vsh'=.slice p sh'.length c:=hV0.ker.sh.sl.len
  (with_reducible apply d5)
  (with_reducible apply d8)
  refine a1F (fun w'=>St nF w w' [.blk g2 [.slice p1 sh.length c1,.slice p2 fr.length c2,.slice p3 sl.length c3,.slice p4 sps.length c4,.int .i64 hand],.blk gw [.slice psh sh'.length csh,.slice (some ⟨bf,0,none⟩) fr'.length cf,.slice psl sl'.length csl,.slice ph (sps'.length + 1) ch,.int .i64 hand',.int .i64 (sp:Nat),.slice none 0 0]]) 10 rfl hS (by kernel_rfl) ?_
  intro w6 hS'
  clear hS;have hS:=hS';clear hS'
  have hH:St nF w w6 [.blk g2 [.slice p1 sh.length c1,.slice p2 fr.length c2,.slice p3 sl.length c3,.slice p4 sps.length c4,.int .i64 hand],.blk gw [.slice psh sh'.length csh,.slice (some ⟨bf,0,none⟩) fr'.length cf,.slice psl sl'.length csl,.slice ph (sps'.length + 1) ch,.int .i64 hand',.int .i64 (sp:Nat),.slice none 0 0]]:=hS.sub (.cons _ (.cons _ (.cons _ (.cons _ (.cons _ (.cons_cons _ (.cons_cons _ (List.nil_sublist _))))))))
  ((with_reducible apply n8 0 c8);exact rfl;kernel_rfl;kernel_rfl;kernel_rfl;exact (fun _ _ _ h=>h);exact hH;exact rfl;exact rfl)
  ((with_reducible apply n8 1 c8);exact rfl;kernel_rfl;kernel_rfl;kernel_rfl;exact (fun _ _ _ h=>h);exact hH;exact rfl;exact rfl)
  ((with_reducible apply n8 2 c8);exact rfl;kernel_rfl;kernel_rfl;kernel_rfl;exact (fun _ _ _ h=>h);exact hH;exact rfl;exact rfl)
  ((with_reducible apply v6 3);exact rfl;kernel_rfl;kernel_rfl;kernel_rfl;exact (fun _ _ _ h=>h);exact hH;exact rfl;(intro wd hd;replace hd:St _ _ wd _:=hd;((with_reducible apply Loads.st c8);exact rfl;exact (hd.blkRk 1 0 5 rfl);exact rfl));exact rfl)
  ((with_reducible apply n8 4 c8);exact rfl;kernel_rfl;kernel_rfl;kernel_rfl;exact (fun _ _ _ h=>h);exact hH;exact rfl;exact rfl)
  ((with_reducible apply v6 5);exact rfl;kernel_rfl;kernel_rfl;kernel_rfl;exact (fun _ _ _ h=>h);exact hH;exact rfl;(intro wd hd;replace hd:St _ _ wd _:=hd;(((with_reducible apply Loads.sl c8);exact rfl;((exact hd.blkC 0 rfl rfl)))));exact rfl)
  ((with_reducible apply n8 6 c8);exact rfl;kernel_rfl;kernel_rfl;kernel_rfl;exact (fun _ _ _ h=>h);exact hH;exact rfl;exact rfl)
  refine o9 (i:=7) (by kernel_rfl) ?_
  simp only [List.take_succ_cons,List.take_zero,List.drop_zero]
  refine q9 (Φ:=fun _ w'=>St _ _ w' _) rfl (o8 hS c8 (i:=4) rfl rfl rfl rfl rfl (Nat.le_of_ble_eq_true rfl) (List.all_eq_true.1 rfl)) ?_
  intro _ w' hS'
  simp only [List.set] at hS'
  clear hS;have hS:=hS';clear hS'
  refine ⟨hS.sub (.cons _ (.cons _ (.cons _ (.cons _ (.cons _ (.cons_cons _ (.cons_cons _ (List.nil_sublist _)))))))),?_⟩
  have hH:St nF w w' [.blk g2 [.slice p1 sh.length c1,.slice p2 fr.length c2,.slice p3 sl.length c3,.slice p4 sps.length c4,.int .i64 hand],.blk gw [.slice psh sh'.length csh,.slice (some ⟨bf,0,none⟩) fr'.length cf,.slice psl sl'.length csl,.slice ph (sps'.length + 1) ch,.int .i64 hand',.int .i64 (sp:Nat),.slice none 0 0]]:=hS.sub (.cons _ (.cons _ (.cons _ (.cons _ (.cons _ (.cons_cons _ (.cons_cons _ (List.nil_sublist _))))))))
  ((with_reducible apply n8 8 c8);exact rfl;kernel_rfl;kernel_rfl;kernel_rfl;exact (fun _ _ _ h=>h);exact hH;exact rfl;exact rfl)
  ((with_reducible apply n8 9 c8);exact rfl;kernel_rfl;kernel_rfl;kernel_rfl;exact (fun _ _ _ h=>h);exact hH;exact rfl;exact rfl)
  refine y0 (by kernel_rfl) ?_
  repeat' ((first|(with_reducible first|apply d5|apply j5)))
  (apply a1C);(repeat (first|exact ResL.nil|(apply ResL.tmp;exact rfl)|(apply ResL.cell;exact rfl;(((with_reducible apply Loads.st c8);exact rfl;((exact hS.blkR 4 rfl));exact rfl)))))
  refine ⟨⟨sh',FRs,SLs,sps'++[⟨x.s,.slice qa x.s.areas.length da,.slice qe x.s.entries.length de⟩],hand',.slice psh sh'.length csh,.slice (some ⟨bf,0,none⟩) fr'.length cf,.slice psl sl'.length csl,.slice ph (sps'.length + 1) ch⟩,?_,?_,?_⟩
  ·rw [hRE,if_pos rfl];rfl
  ·rw [hRE,if_pos rfl]
   unfold b1J
   rw [hxe,← b0I,x7 (a0V hx),hFRs,hSLs]
   generalize List.foldl a0J _ x.s.entries=kf at hsm ⊢
   obtain ⟨a1,a2,a3,a4,a5,a6,a7,a8,a9⟩:=kf
   obtain ⟨b1,b2,b3,-,-,-,-,-,-⟩:=hsm
   dsimp only at b1 b2 b3
   subst b1 b2 b3
   unfold KV.K
   dsimp only
   rw [List.map_append]
   rfl
  ·refine Or.inr ?_
   unfold a9S frA slA a2n x8
   dsimp only
   rw [List.map_append,List.map_append,List.map_append]
   exact (hS.sub (.cons_cons _ (.cons_cons _ (.cons_cons _ (.cons_cons _ (.cons _ (.cons _ (.cons _ (.cons _ (.cons_cons _ (.refl _))))))))))).perm b1t
end Go.Proofs.Ytejnpppejalhfac
/- linkBegun. -/
namespace Go.Proofs.Ytejnpppejalhfac
open Go.RowKit Go.Sort
end Go.Proofs.Ytejnpppejalhfac
/- three. -/
namespace Go.Proofs.Ytejnpppejalhfac
open Go.RowKit Go.Sort
def a7j:Sg:=⟨0,1,b5G 12 0 0 0 0,false,true⟩
def b0c:Sg:=⟨1,2,[97,98,99],true,false⟩
def a0y:Im:=⟨[116],[],[a7j,b0c],[],[],0⟩
theorem a8R:t9 a0y=0:=by
 have h1:a8h a0y=true:=by decide +kernel
 have h2:a8B a0y=true:=by decide +kernel
 have h3:a4F a0y=true:=by decide +kernel
 have h4:a6q a0y=true:=by
  refine a35 ⟨fun j a b h1 h2=>?_,?_,?_⟩
  ·match j with
   |0=>
    simp [a0y] at h1 h2
    subst h1 h2
    decide
   |j + 1=>simp [a0y] at h2
  ·rintro ⟨i,j,x,_,h,_⟩;simp [a0y] at h
  ·rintro ⟨i,j,x,_,h,_⟩;simp [a0y] at h
 have h5:a8e a0y=true:=by
  refine a35 ⟨?_,?_,?_,?_,?_⟩
  ·intro s hs;simp [a0y] at hs
  ·intro k r h;simp [a0y] at h
  ·intro k q r h;simp [a0y] at h
  ·exact ⟨a7j,by decide +kernel,rfl⟩
  ·decide
 unfold t9
 simp [h1,h2,h3,h4,h5]
theorem b3F:ImB a0y:=⟨by decide,by decide,by decide,by decide⟩
theorem b31:ImD a0y:=by intro s hs;simp [a0y] at hs;rcases hs with rfl|rfl <;> decide
def a2C (vs:Value) (a:Int):Ob:=⟨a0y,.slice none 0 0,vs,.slice none 0 0,.slice none 0 0,a⟩
theorem a9I (vs:Value) (a:Int):([a2C vs a]:List Ob).find? (fun o=>!decide (t9 o.im=0))=none:=by
 rw [List.find?_eq_none]
 intro x hx
 simp only [List.mem_singleton] at hx
 subst hx
 unfold a2C
 rw [a8R]
 decide
theorem a6F (vs:Value):a3l [a2C vs 0] 8 0 (v9 ([],1) (a2C vs 0))=some ([a2C vs 16],4):=rfl
theorem a9y (vs:Value):a4s (a2C vs 0) []=0:=by
 unfold a4s
 rw [if_neg (by decide),a9I]
 dsimp only
 rw [if_pos (by simp),a6F]
 rfl
def a7u:List Sh:=shO [(a0y,16)] a0y 1
def threeA:List Ar:=([a3B 1 a7j,a3B 1 b0c]).foldl z9 []
set_option maxRecDepth 100000 in
set_option maxHeartbeats 8000000 in
theorem b1X (w:World):Fn Try.prog 16 [] w (fun v w'=>∃ va vs N,v=lkA va vs 16∧shs N=a7u∧Sl nF w' 4 va (threeA.map arC)∧ShsV w' N vs∧St nF w w' []):=by
 have hlk:=fun (w1:World) (vs:Value) (h:ImV w1 a0y (.slice none 0 0) vs (.slice none 0 0) (.slice none 0 0))=>b4b (M:=a2C vs 0) (Lb:=[]) (vl:=.slice none 0 0) h (Sl.nil0 w1 6) (by simp) (by
  intro o ho
  simp only [List.mem_singleton] at ho
  subst ho
  exact ⟨b3F,b31⟩)
 refine j0 (fn:=Try.f16) ⟨Try.func16,by kernel_rfl,by kernel_rfl⟩ (by exact rfl) Try.ntmps16 (by exact rfl) ?_
 have hS:=St.start w
 repeat' (first|(first|((with_reducible apply n7 c8);exact rfl;exact rfl;(first|exact (rfl:_=some [_,_,_,_,_])|exact (rfl:_=some [_,_,_,_,_,_]));exact rfl)|((with_reducible apply j7 hS c8);(iterate 3 exact rfl);intro g w' hS';clear hS;have hS:=hS';clear hS')|((with_reducible apply a0v hS c8);(iterate 7 exact rfl);intro g w' hS';clear hS;have hS:=hS';clear hS'))|(first|(with_reducible first|apply d8|apply c9|apply d7|apply d5))|((with_reducible apply e8);exact rfl;exact rfl;exact a6n 12 0 0 0 0 _;exact rfl;rintro _ w' ⟨rfl,hS'⟩;replace hS:=hS.transA hS';simp only [k7] at hS;clear hS'))
 refine e8 rfl rfl (hlk _ (.slice (some ⟨g,0,none⟩) 2 2) ⟨Sl.nil0 _ 1,hS.rowSl 0 rfl,Sl.nil0 _ 2,Sl.nil0 _ 3⟩) rfl ?_
 rintro v w2 (⟨h1,-,-⟩|⟨-,s,va,vh,N,h1,h2,rfl,h4⟩)
 ·exact absurd (a9y _) h1
 rw [a6F] at h1
 cases h1
 have e1:shs N=a7u:=h2.trans (Eq.trans (by rfl) (List.append_nil _))
 have e2:a3e [a2C (.slice (some ⟨g,0,none⟩) 2 2) 16]=threeA:=rfl
 rw [show a3e ([a2C (.slice (some ⟨g,0,none⟩) 2 2) 16],(4:Int)).1=threeA from e2] at h4
 obtain ⟨pa,ca,rfl⟩:∃ p c,va=.slice p threeA.length c:=by
  have:=h4.rowSlice 0 rfl
  rwa [List.length_map] at this
 obtain ⟨ph,ch,rfl⟩:∃ p c,vh=.slice p N.length c:=by
  have:=h4.rowSlice 1 rfl
  rwa [List.length_map] at this
 replace hS:=(hS.trans h4).perm List.perm_append_comm
 dsimp only [List.cons_append,List.nil_append] at hS
 clear h4 hlk
 repeat' (first|(first|((with_reducible apply d6 c8);exact rfl;exact rfl)|((with_reducible apply d9);exact rfl;(((with_reducible apply Loads.st c8);exact rfl;((exact hS.blkR 0 rfl));exact rfl));exact rfl)|((with_reducible apply j7 hS c8);(iterate 3 exact rfl);intro g w' hS';clear hS;have hS:=hS';clear hS')|(first|((with_reducible apply i7 hS c8 (i:=0));(iterate 8 exact rfl);((exact (rfl:_=[_,_,_])));intro w' hS';simp only [List.set] at hS';clear hS;have hS:=hS';clear hS')|((with_reducible apply i7 hS c8 (i:=2));(iterate 8 exact rfl);((exact (rfl:_=[_,_,_])));intro w' hS';simp only [List.set] at hS';clear hS;have hS:=hS';clear hS')))|(first|(with_reducible first|apply d8|apply c9|apply d7|apply d5|apply j5)))
 (apply j6);(repeat (first|exact ResL.nil|(apply ResL.cell;exact rfl;(((with_reducible apply Loads.st c8);exact rfl;((exact hS.blkR 2 rfl));exact rfl)))))
 exact ⟨_,_,N,rfl,e1,hS.rowSl 3 rfl,⟨hS.rowSl 4 rfl,fun p hp=>hS.slMem (e:=100) (List.mem_cons_of_mem _ (List.mem_cons_of_mem _ (List.mem_cons_of_mem _ (List.mem_cons_of_mem _ (List.mem_cons_of_mem _ (List.mem_map.2 ⟨p,hp,rfl⟩))))))⟩,hS.sub (List.nil_sublist _)⟩
def begK1:Ker:=b45 threeA a7u 16 3 8
def begK2:Ker:=a4Q begK1 0 46 [119,120,121,122]
def begK3:Ker:=b3b begK2 0
def begK4:Ker:=a4Q begK3 1 32 [113]
theorem b6a:b2U threeA a7u 16 3 8=0:=by decide +kernel
theorem b4P:y9 begK1 0 (4:Nat) 1=0∧a2i begK1 0 46 (4:Nat) 1=(0,0):=by decide +kernel
theorem b4X:a6U begK2 0=0∧b2C begK2 0=1:=by decide +kernel
theorem b4R:y9 begK3 1 (1:Nat) 1=0∧a2i begK3 1 32 (1:Nat) 1=(0,0):=by decide +kernel
theorem b1V:a3C begK4 0 2 0=0∧a3F begK4 0 32 2 0=(0,0)∧a3E begK4 0 32 2 0=[97,98]:=by decide +kernel
theorem b4V:a7Y begK4 1 2=0∧b2e begK4 1 2=[113,98,99,0,0,0,0,0,0,0,0,0,0,0,119,120]:=by decide +kernel
theorem b0b:begK1.frames.length=3∧begK2.frames.length=3∧begK3.frames.length=3∧begK4.frames.length=3:=by decide +kernel
theorem Came.own {w w':World} {k:KV} (h:Came w w' k) {n:Nat} (hn:k.K.frames.length=n + 1):St nF w w' (a9S k):=by
 rcases h with ⟨rfl,-⟩|h
 ·cases hn
 ·exact h
end Go.Proofs.Ytejnpppejalhfac
/- kernelBegun. -/
namespace Go.Proofs.Ytejnpppejalhfac
open Go.RowKit Go.Sort
theorem b6l (a b c d:Int):a9X Try.prog 65 [.int .i64 a,.int .i64 b] [.int .i64 c,.int .i64 d] (decide (a=c∧b=d)):=by
 refine ⟨fun w=>?_,by kernel_rfl⟩
 simp [go_sem]
 repeat' split
 all_goals simp_all
set_option maxRecDepth 100000 in
set_option maxHeartbeats 8000000 in
theorem a5J (w:World):Fn Try.prog 6 [] w (RBf (.bool true) w):=by
 refine j0 (fn:=Try.f6) ⟨Try.func6,by kernel_rfl,by kernel_rfl⟩ (by exact rfl) Try.ntmps6 (by exact rfl) ?_
 have hS:=St.start w
 repeat' (first|(((with_reducible apply d6 c8);exact rfl;exact rfl))|(first|(with_reducible first|apply d8|apply c9|apply d7|apply d5)))
 refine e8 rfl rfl (b1X _) rfl ?_
 rintro _ w2 ⟨va,vs,N,rfl,hN,hA,hL,hS'⟩
 replace hS:=hS.transA hS'
 simp only [k7] at hS
 clear hS'
 repeat' (fail)
 refine e8 rfl rfl (b5B hA hL (by omega) (by omega) (frames:=3) (slots:=8)) rfl ?_
 rintro _ w3 ⟨k1,rfl,hk1,hc⟩
 rw [hN,b6a]
 rw [hN] at hk1
 replace hk1:k1.K=begK1:=hk1
 have hO:=hc.own (n:=2) (by rw [hk1];exact b0b.1)
 replace hS:=(hS.trans hO).perm List.perm_append_comm
 dsimp only [List.cons_append,List.nil_append] at hS
 have hV:KerV _ k1:=KerV.own (Γ:=[]) (by rw [List.append_nil];exact hO)
 clear hc hO
 obtain ⟨sh,fr,sl,sps,hand,vsh,vfr,vsl,vsp⟩:=k1
 obtain ⟨hV1,hV2,hV3,hV4,hV5⟩:=hV
 dsimp only at hV1 hV2 hV3 hV4 hV5
 obtain ⟨u1,t1,rfl⟩:=hV1.sl.len
 obtain ⟨u2,t2,rfl⟩:=hV2.len
 obtain ⟨u3,t3,rfl⟩:=hV3.len
 obtain ⟨u4,t4,rfl⟩:=hV4.len
 clear hV1 hV2 hV3 hV4 hV5
 repeat' (first|(first|((with_reducible apply d6 c8);exact rfl;exact rfl)|((with_reducible apply d9);exact rfl;(((with_reducible apply Loads.st c8);exact rfl;((exact hS.blkR 0 rfl));exact rfl));exact rfl)|((with_reducible apply j7 hS c8);(iterate 3 exact rfl);intro g w' hS';clear hS;have hS:=hS';clear hS')|(((with_reducible apply i7 hS c8 (i:=0));(iterate 8 exact rfl);((exact (rfl:_=[_,_,_,_,_])));intro w' hS';simp only [List.set] at hS';clear hS;have hS:=hS';clear hS')))|(first|(with_reducible first|apply d8|apply c9|apply d7|apply d5)))
 have hst:=a8H (KerV.own (hS.perm (List.perm_append_comm (l₁:=[_])))) (space:=0) (addr:=46) (s:=[119,120,121,122]) (by omega) (by omega)
 rw [hk1,show ((([119,120,121,122]:List UInt8).length:Nat):Int)=((4:Nat):Int) from rfl,b4P.1,b4P.2] at hst
 refine e8 rfl rfl hst rfl ?_
 clear hst
 rintro _ w4 ⟨k2,rfl,hk2,hc⟩
 replace hk2:k2.K=begK2:=hk2
 replace hS:=hS.sub (.cons_cons _ (List.nil_sublist _))
 have hO:=hc.own (n:=2) (by rw [hk2];exact b0b.2.1)
 replace hS:=(hS.trans hO).perm List.perm_append_comm
 dsimp only [List.cons_append,List.nil_append] at hS
 have hV:KerV _ k2:=KerV.own (Γ:=[]) (by rw [List.append_nil];exact hO)
 clear hc hO
 obtain ⟨sh,fr,sl,sps,hand,vsh,vfr,vsl,vsp⟩:=k2
 obtain ⟨hV1,hV2,hV3,hV4,hV5⟩:=hV
 dsimp only at hV1 hV2 hV3 hV4 hV5
 obtain ⟨u1,t1,rfl⟩:=hV1.sl.len
 obtain ⟨u2,t2,rfl⟩:=hV2.len
 obtain ⟨u3,t3,rfl⟩:=hV3.len
 obtain ⟨u4,t4,rfl⟩:=hV4.len
 clear hV1 hV2 hV3 hV4 hV5
 repeat' (first|(first|((with_reducible apply d6 c8);exact rfl;exact rfl)|((with_reducible apply d9);exact rfl;(((with_reducible apply Loads.st c8);exact rfl;((exact hS.blkR 1 rfl));exact rfl));exact rfl)|((with_reducible apply j7 hS c8);(iterate 3 exact rfl);intro g w' hS';clear hS;have hS:=hS';clear hS')|(first|((with_reducible apply i7 hS c8 (i:=0));(iterate 8 exact rfl);((exact (rfl:_=[_,_])));intro w' hS';simp only [List.set] at hS';clear hS;have hS:=hS';clear hS')|((with_reducible apply i7 hS c8 (i:=1));(iterate 8 exact rfl);((exact (rfl:_=[_,_,_,_,_])));intro w' hS';simp only [List.set] at hS';clear hS;have hS:=hS';clear hS')))|(first|(with_reducible first|apply d8|apply c9|apply d7|apply d5)))
 have hst:=b30 (KerV.own (hS.perm (List.perm_append_comm (l₁:=[_,_])))) 0
 rw [hk2,b4X.1,b4X.2] at hst
 refine e8 rfl rfl hst rfl ?_
 clear hst
 rintro _ w5 ⟨k3,rfl,hk3,hc⟩
 replace hk3:k3.K=begK3:=hk3
 replace hS:=hS.sub (.cons_cons _ (.cons_cons _ (List.nil_sublist _)))
 have hO:=hc.own (n:=2) (by rw [hk3];exact b0b.2.2.1)
 replace hS:=(hS.trans hO).perm List.perm_append_comm
 dsimp only [List.cons_append,List.nil_append] at hS
 have hV:KerV _ k3:=KerV.own (Γ:=[]) (by rw [List.append_nil];exact hO)
 clear hc hO
 obtain ⟨sh,fr,sl,sps,hand,vsh,vfr,vsl,vsp⟩:=k3
 obtain ⟨hV1,hV2,hV3,hV4,hV5⟩:=hV
 dsimp only at hV1 hV2 hV3 hV4 hV5
 obtain ⟨u1,t1,rfl⟩:=hV1.sl.len
 obtain ⟨u2,t2,rfl⟩:=hV2.len
 obtain ⟨u3,t3,rfl⟩:=hV3.len
 obtain ⟨u4,t4,rfl⟩:=hV4.len
 clear hV1 hV2 hV3 hV4 hV5
 repeat' (first|(first|((with_reducible apply d6 c8);exact rfl;exact rfl)|((with_reducible apply d9);exact rfl;(((with_reducible apply Loads.st c8);exact rfl;((exact hS.blkR 1 rfl));exact rfl));exact rfl)|(((with_reducible apply i7 hS c8 (i:=1));(iterate 8 exact rfl);((exact (rfl:_=[_,_,_,_,_])));intro w' hS';simp only [List.set] at hS';clear hS;have hS:=hS';clear hS')))|(first|(with_reducible first|apply d8|apply c9|apply d7|apply d5)))
 have hst:=a8H (KerV.own (hS.perm (List.perm_append_comm (l₁:=[_,_])))) (space:=1) (addr:=32) (s:=[113]) (by omega) (by omega)
 rw [hk3,show ((([113]:List UInt8).length:Nat):Int)=((1:Nat):Int) from rfl,b4R.1,b4R.2] at hst
 refine e8 rfl rfl hst rfl ?_
 clear hst
 rintro _ w6 ⟨k4,rfl,hk4,hc⟩
 replace hk4:k4.K=begK4:=hk4
 replace hS:=hS.sub (.cons_cons _ (.cons_cons _ (List.nil_sublist _)))
 have hO:=hc.own (n:=2) (by rw [hk4];exact b0b.2.2.2)
 replace hS:=(hS.trans hO).perm List.perm_append_comm
 dsimp only [List.cons_append,List.nil_append] at hS
 have hV:KerV _ k4:=KerV.own (Γ:=[]) (by rw [List.append_nil];exact hO)
 clear hc hO
 obtain ⟨sh,fr,sl,sps,hand,vsh,vfr,vsl,vsp⟩:=k4
 obtain ⟨hV1,hV2,hV3,hV4,hV5⟩:=hV
 dsimp only at hV1 hV2 hV3 hV4 hV5
 obtain ⟨u1,t1,rfl⟩:=hV1.sl.len
 obtain ⟨u2,t2,rfl⟩:=hV2.len
 obtain ⟨u3,t3,rfl⟩:=hV3.len
 obtain ⟨u4,t4,rfl⟩:=hV4.len
 clear hV1 hV2 hV3 hV4 hV5
 repeat' (first|(first|((with_reducible apply d6 c8);exact rfl;exact rfl)|((with_reducible apply d9);exact rfl;(((with_reducible apply Loads.st c8);exact rfl;((exact hS.blkR 2 rfl));exact rfl));exact rfl)|((with_reducible apply j7 hS c8);(iterate 3 exact rfl);intro g w' hS';clear hS;have hS:=hS';clear hS')|(first|((with_reducible apply i7 hS c8 (i:=0));(iterate 8 exact rfl);((exact (rfl:_=[_,_])));intro w' hS';simp only [List.set] at hS';clear hS;have hS:=hS';clear hS')|((with_reducible apply i7 hS c8 (i:=2));(iterate 8 exact rfl);((exact (rfl:_=[_,_,_,_,_])));intro w' hS';simp only [List.set] at hS';clear hS;have hS:=hS';clear hS')))|(first|(with_reducible first|apply d8|apply c9|apply d7|apply d5)))
 have hst:=b3W (KerV.own (hS.perm (List.perm_append_comm (l₁:=[_,_,_])))) (space:=0) (addr:=32) (size:=2) (way:=0) (by omega) (by omega)
 rw [hk4,b1V.1,b1V.2.1,b1V.2.2] at hst
 refine e8 rfl rfl hst rfl ?_
 clear hst
 rintro _ w7 ⟨k5,rfl,hk5,hc⟩
 have hV:=hc.V
 replace hS:=hS.trans hc.st
 clear hc hk5
 simp only [List.nil_append] at hS
 obtain ⟨sh5,fr5,sl5,sps5,hand5,vsh5,vfr5,vsl5,vsp5⟩:=k5
 obtain ⟨hV1,hV2,hV3,hV4,hV5⟩:=hV
 dsimp only at hV1 hV2 hV3 hV4 hV5
 obtain ⟨x1,y1,rfl⟩:=hV1.sl.len
 obtain ⟨x2,y2,rfl⟩:=hV2.len
 obtain ⟨x3,y3,rfl⟩:=hV3.len
 obtain ⟨x4,y4,rfl⟩:=hV4.len
 clear hV1 hV2 hV3 hV4 hV5
 repeat' (first|(first|((with_reducible apply d6 c8);exact rfl;exact rfl)|((with_reducible apply d9);exact rfl;(((with_reducible apply Loads.st c8);exact rfl;((exact hS.blkR 4 rfl));exact rfl));exact rfl)|((with_reducible apply j7 hS c8);(iterate 3 exact rfl);intro g w' hS';clear hS;have hS:=hS';clear hS')|(first|((with_reducible apply i7 hS c8 (i:=0));(iterate 8 exact rfl);((exact (rfl:_=[_,_])));intro w' hS';simp only [List.set] at hS';clear hS;have hS:=hS';clear hS')|((with_reducible apply i7 hS c8 (i:=1));(iterate 8 exact rfl);((exact (rfl:_=[_,_,_,_,_])));intro w' hS';simp only [List.set] at hS';clear hS;have hS:=hS';clear hS')))|(first|(with_reducible first|apply d8|apply c9|apply d7|apply d5)))
 have hst:=b4d (KerV.own (hS.perm (List.perm_append_comm (l₁:=[_,_,_,_,_])))) 1 2
 rw [hk4,b4V.1,b4V.2] at hst
 repeat' (first|(first|((with_reducible apply d6 c8);exact rfl;exact rfl)|((with_reducible apply d9);exact rfl;(((with_reducible apply Loads.st c8);exact rfl;(first|exact hS.blkR 0 rfl|exact hS.blkR 2 rfl|exact hS.blkR 3 rfl);exact rfl));exact rfl)|((with_reducible apply n7 c8);exact rfl;exact rfl;((exact (rfl:_=some [_,_])));exact rfl)|(first|((with_reducible apply p9);(iterate 4 exact rfl);(exact rfl))|((with_reducible apply m9);exact rfl;((exact rfl));exact rfl;exact rfl)))|(first|(with_reducible first|apply d8|apply c9|apply d7|apply d5|apply j5))|((with_reducible apply e8);exact rfl;exact rfl;exact hst;exact rfl;rintro _ w' ⟨rfl,hS'⟩;replace hS:=hS.transA hS';simp only [k7] at hS;clear hS')|((with_reducible apply b4N);exact rfl;exact rfl;exact b6l 0 0 0 0;exact rfl)|((with_reducible apply b4G c8);(iterate 3 exact rfl);omega;decide;exact rfl)|((with_reducible apply a6Q c8);(iterate 3 exact rfl);omega;decide;exact rfl))
 (apply j6);(repeat (first|exact ResL.nil|(apply ResL.tmp;exact rfl)))
 exact ⟨rfl,hS.sub (List.nil_sublist _)⟩
end Go.Proofs.Ytejnpppejalhfac
/- What Peek tells of kernels alike; what comes of Reach and Store. -/
namespace Go.Proofs.Ytejnpppejalhfac
open Go.RowKit Go.Sort
end Go.Proofs.Ytejnpppejalhfac
/- What was stored is loaded; all else is as it was. -/
namespace Go.Proofs.Ytejnpppejalhfac
open Go.RowKit Go.Sort
end Go.Proofs.Ytejnpppejalhfac
