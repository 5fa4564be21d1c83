/- Texts that the proof stands on, one behind the other: Ke17, Ke18, Ke19, Ke20, PlRun8, Ke21. -/
import Derived.Test.YtejnpppejalhfacPKernelEmpty10
/- Entries let go, and put: (*work).let and in. -/
namespace Go.Proofs.Ytejnpppejalhfac
open Go.RowKit Go.Sort
def a1G (k:KV) (e:En):KV:=if e.kind=1 then ⟨k.sh,k.fr.set e.at_.toNat (a2o (l7 k.fr e.at_.toNat)),k.sl,k.sp,k.hand,k.vsh,k.vfr,k.vsl,k.vsp⟩ else ⟨k.sh,k.fr,k.sl.set e.at_.toNat (a2p (a0g k.sl e.at_.toNat)),k.sp,k.hand,k.vsh,k.vfr,k.vsl,k.vsp⟩
theorem b3l (k:KV) (e:En):(a1G k e).K=a0c k.K e:=by
 unfold a1G a0c
 split <;> rfl
theorem b4I (k:KV) (e:En):(a1G k e).sp=k.sp∧(a1G k e).vsp=k.vsp∧(a1G k e).fr.length=k.fr.length∧(a1G k e).sl.length=k.sl.length:=by
 unfold a1G
 split
 ·exact ⟨rfl,rfl,List.length_set,rfl⟩
 ·exact ⟨rfl,rfl,rfl,List.length_set⟩
structure a67 (k:KV) (e:En):Prop where
 names:(e.kind=1∧∃ i:Nat,e.at_=(i:Nat)∧i < k.fr.length)∨(e.kind≠1∧∃ i:Nat,e.at_=(i:Nat)∧i < k.sl.length)
 fr:∀ f ∈ k.fr,0≤f.refs∧f.refs≤100000
 sl:∀ f ∈ k.sl,0≤f.refs∧f.refs≤100000
theorem a5r {α:Type} {l:List α} {i:Nat} {x:α} (h:i < l.length):(l.set i x)[i]?=some x:=by rw [List.getElem?_set,if_pos rfl,if_pos h]
theorem b4f (a y:Fm):t8 (fmC a) 0 (fmC y)=fmC y:=a3h (fmC a) (fmC y) rfl
theorem b4E (a y:Sw):t8 (swC a) 0 (swC y)=swC y:=a3h (swC a) (swC y) rfl
set_option maxRecDepth 100000 in
set_option maxHeartbeats 8000000 in
theorem b0n {F:Nat→Prop} {w0 w:World} {Γ:List Asr} {g:Nat} {k:KV} {sp:Nat} {vh:Value} {held:List Nat} (hS0:St F w0 w (wkS g k sp vh held++Γ)) {e:En} (he:a67 k e):Fn Try.prog 52 [.pointer (some ⟨g,0,none⟩),.agg (enC e).toArray] w (fun v w'=>v=.tuple #[]∧St (fps (wkS g k sp vh held)) w w' (wkS g (a1G k e) sp vh held)):=by
 have hS:=St.startM hS0
 obtain ⟨hn,hfr,hsl⟩:=he
 generalize fps (wkS g k sp vh held)=G at hS ⊢
 obtain ⟨sh,fr,sl,sps,hand,vsh,vfr,vsl,vsp⟩:=k
 dsimp only at hn hfr hsl
 unfold wkS wkB hdA frA slA a2n at hS
 dsimp only [List.cons_append,List.nil_append] at hS
 unfold enC
 rcases hn with ⟨hk,i,hi,hil⟩|⟨hk,i,hi,hil⟩
 ·have hlv:a1G ⟨sh,fr,sl,sps,hand,vsh,vfr,vsl,vsp⟩ e=⟨sh,fr.set i (a2o (l7 fr i)),sl,sps,hand,vsh,vfr,vsl,vsp⟩:=by unfold a1G;rw [if_pos hk,hi];rfl
  rw [hlv]
  obtain ⟨f,hf⟩:=l8 (l:=fr) (i:=i) (by omega)
  have hrf:=hfr f (List.mem_of_getElem? hf)
  rw [q8 hf]
  have hrow:=j9 (f:=fmC) hf
  obtain ⟨pf,cf,rfl⟩:=hS.rowSlice 2 rfl
  rw [List.length_map] at hS
  obtain ⟨gf,rfl⟩:=hS.rowSome 2 rfl (by omega)
  have hd:decide (e.kind=1)=true:=decide_eq_true hk
  obtain ⟨epg,ekd,eat⟩:=e
  dsimp only at hd hi hk hlv ⊢
  subst hi
  unfold fmC at hrow
  unfold a2o
  have e1:(fr.map fmC).set i (t8 [.string ⟨f.data.toArray⟩,.int .i64 f.refs,.bool f.dirty,.bool f.seen] 1 [.int .i64 (f.refs - 1)])=(fr.set i ⟨f.data,f.refs - 1,f.dirty,f.seen⟩).map fmC:=by rw [List.map_set];rfl
  have hrow1:((fr.set i ⟨f.data,f.refs - 1,f.dirty,f.seen⟩).map fmC)[i]?=some [.string ⟨f.data.toArray⟩,.int .i64 (f.refs - 1),.bool f.dirty,.bool f.seen]:=j9 (f:=fmC) (a5r (x:=(⟨f.data,f.refs - 1,f.dirty,f.seen⟩:Fm)) hil)
  by_cases h0:f.refs - 1=0
  ·have hd0:decide (f.refs - 1=0)=true:=decide_eq_true h0
   rw [if_pos h0]
   have e2:((fr.set i ⟨f.data,f.refs - 1,f.dirty,f.seen⟩).map fmC).set i (t8 [.string ⟨f.data.toArray⟩,.int .i64 (f.refs - 1),.bool f.dirty,.bool f.seen] 0 [.string ⟨#[]⟩,.int .i64 0,.bool false,.bool false])=(fr.set i fm0).map fmC:=by
    rw [List.map_set,List.map_set,List.set_set]
    rfl
   refine j0 (fn:=Try.f52) ⟨Try.func52,by kernel_rfl,by kernel_rfl⟩ (by exact rfl) Try.ntmps52 (by exact rfl) ?_
   repeat' (first|(first|((with_reducible apply d6 c8);exact rfl;exact rfl)|((with_reducible apply d9);exact rfl;(((with_reducible apply Loads.sc c8);exact rfl;((exact hS.blkC 0 rfl rfl))));exact rfl)|((with_reducible apply p7 hS);(iterate 3 exact rfl);intro g w' hS';clear hS;have hS:=hS';clear hS'))|(first|(with_reducible first|apply d8|apply c9|apply d7|apply d5))|(((with_reducible apply k9);exact rfl;(assumption))))
   (focus ((with_reducible apply m7 _ _ _ (by kernel_rfl) (by kernel_rfl) hS);(repeat' ((first|((with_reducible apply o5 c8);exact rfl;exact rfl)|((with_reducible apply n6);exact rfl;(intro wd hd;replace hd:St _ _ wd _:=hd;(first|((with_reducible apply Loads.sc c8);exact rfl;((exact hd.blkC 0 rfl rfl)))|((with_reducible apply Loads.sl c8);exact rfl;((exact hd.blkC 1 rfl rfl)))));exact rfl)|((with_reducible apply a05 c8);(iterate 3 exact rfl);((exact rfl));((omega));exact rfl))));all_goals ((with_reducible apply r5);intro w' hS';clear hS;have hS:=hS';clear hS')))
   repeat' (first|(first|((with_reducible apply a1X);exact rfl;exact rfl;omega;omega;exact rfl)|((with_reducible apply d6 c8);exact rfl;exact rfl)|((with_reducible apply d9);exact rfl;(((with_reducible apply Loads.sc c8);exact rfl;((exact hS.rowCj 3 rfl (by assumption) rfl))));exact rfl))|(first|(with_reducible first|apply d8|apply c9|apply d7|apply d5))|((with_reducible apply a0i hS c8 (i:=3));(iterate 4 exact rfl);assumption;(iterate 5 exact rfl);intro w' hS';simp only [List.set] at hS';clear hS;have hS:=hS';clear hS'))
   rw [e1] at hS
   repeat' (first|(first|((with_reducible apply d6 c8);exact rfl;exact rfl)|((with_reducible apply d9);exact rfl;(((with_reducible apply Loads.sc c8);exact rfl;((exact hS.rowCj 3 rfl (by assumption) rfl))));exact rfl)|((with_reducible apply n7 c8);exact rfl;exact rfl;((exact (rfl:_=some [_,_,_,_])));exact rfl))|(first|(with_reducible first|apply c9|apply d7|apply d5|apply j5|apply e6))|(((with_reducible apply k9);exact rfl;(assumption)))|((with_reducible apply a0p hS c8 (i:=3));(iterate 4 exact rfl);assumption;(iterate 5 exact rfl);intro w' hS';simp only [List.set] at hS';clear hS;have hS:=hS';clear hS'))
   rw [e2] at hS
   (apply a7r);(repeat ((exact ResL.nil)))
   exact ⟨rfl,by rw [List.length_map];exact hS.drop⟩
  ·have hd0:decide (f.refs - 1=0)=false:=decide_eq_false h0
   rw [if_neg h0]
   refine j0 (fn:=Try.f52) ⟨Try.func52,by kernel_rfl,by kernel_rfl⟩ (by exact rfl) Try.ntmps52 (by exact rfl) ?_
   repeat' (first|(first|((with_reducible apply d6 c8);exact rfl;exact rfl)|((with_reducible apply d9);exact rfl;(((with_reducible apply Loads.sc c8);exact rfl;((exact hS.blkC 0 rfl rfl))));exact rfl)|((with_reducible apply p7 hS);(iterate 3 exact rfl);intro g w' hS';clear hS;have hS:=hS';clear hS'))|(first|(with_reducible first|apply d8|apply c9|apply d7|apply d5))|(((with_reducible apply k9);exact rfl;(assumption))))
   (focus ((with_reducible apply m7 _ _ _ (by kernel_rfl) (by kernel_rfl) hS);(repeat' ((first|((with_reducible apply o5 c8);exact rfl;exact rfl)|((with_reducible apply n6);exact rfl;(intro wd hd;replace hd:St _ _ wd _:=hd;(first|((with_reducible apply Loads.sc c8);exact rfl;((exact hd.blkC 0 rfl rfl)))|((with_reducible apply Loads.sl c8);exact rfl;((exact hd.blkC 1 rfl rfl)))));exact rfl)|((with_reducible apply a05 c8);(iterate 3 exact rfl);((exact rfl));((omega));exact rfl))));all_goals ((with_reducible apply r5);intro w' hS';clear hS;have hS:=hS';clear hS')))
   repeat' (first|(first|((with_reducible apply a1X);exact rfl;exact rfl;omega;omega;exact rfl)|((with_reducible apply d6 c8);exact rfl;exact rfl)|((with_reducible apply d9);exact rfl;(((with_reducible apply Loads.sc c8);exact rfl;((exact hS.rowCj 3 rfl (by assumption) rfl))));exact rfl))|(first|(with_reducible first|apply d8|apply c9|apply d7|apply d5))|((with_reducible apply a0i hS c8 (i:=3));(iterate 4 exact rfl);assumption;(iterate 5 exact rfl);intro w' hS';simp only [List.set] at hS';clear hS;have hS:=hS';clear hS'))
   rw [e1] at hS
   repeat' (first|(first|((with_reducible apply d6 c8);exact rfl;exact rfl)|((with_reducible apply d9);exact rfl;(((with_reducible apply Loads.sc c8);exact rfl;((exact hS.rowCj 3 rfl (by assumption) rfl))));exact rfl))|(first|(with_reducible first|apply d7|apply d5|apply g8|apply j5|apply e6))|(((with_reducible apply l6);exact rfl;(assumption))))
   (apply a7r);(repeat ((exact ResL.nil)))
   exact ⟨rfl,by rw [List.length_map];exact hS.drop⟩
 ·have hlv:a1G ⟨sh,fr,sl,sps,hand,vsh,vfr,vsl,vsp⟩ e=⟨sh,fr,sl.set i (a2p (a0g sl i)),sps,hand,vsh,vfr,vsl,vsp⟩:=by unfold a1G;rw [if_neg hk,hi];rfl
  rw [hlv]
  obtain ⟨f,hf⟩:=l8 (l:=sl) (i:=i) (by omega)
  have hrf:=hsl f (List.mem_of_getElem? hf)
  rw [a0B hf]
  have hrow:=j9 (f:=swC) hf
  obtain ⟨pf,cf,rfl⟩:=hS.rowSlice 3 rfl
  rw [List.length_map] at hS
  obtain ⟨gf,rfl⟩:=hS.rowSome 3 rfl (by omega)
  have hd:decide (e.kind=1)=false:=decide_eq_false hk
  obtain ⟨epg,ekd,eat⟩:=e
  dsimp only at hd hi hk hlv ⊢
  subst hi
  unfold swC at hrow
  unfold a2p
  have e1:(sl.map swC).set i (t8 [.string ⟨f.data.toArray⟩,.int .i64 f.refs] 1 [.int .i64 (f.refs - 1)])=(sl.set i ⟨f.data,f.refs - 1⟩).map swC:=by rw [List.map_set];rfl
  have hrow1:((sl.set i ⟨f.data,f.refs - 1⟩).map swC)[i]?=some [.string ⟨f.data.toArray⟩,.int .i64 (f.refs - 1)]:=j9 (f:=swC) (a5r (x:=(⟨f.data,f.refs - 1⟩:Sw)) hil)
  by_cases h0:f.refs - 1=0
  ·have hd0:decide (f.refs - 1=0)=true:=decide_eq_true h0
   rw [if_pos h0]
   have e2:((sl.set i ⟨f.data,f.refs - 1⟩).map swC).set i (t8 [.string ⟨f.data.toArray⟩,.int .i64 (f.refs - 1)] 0 [.string ⟨#[]⟩,.int .i64 0])=(sl.set i sw0).map swC:=by
    rw [List.map_set,List.map_set,List.set_set]
    rfl
   refine j0 (fn:=Try.f52) ⟨Try.func52,by kernel_rfl,by kernel_rfl⟩ (by exact rfl) Try.ntmps52 (by exact rfl) ?_
   repeat' (first|(first|((with_reducible apply d6 c8);exact rfl;exact rfl)|((with_reducible apply d9);exact rfl;(((with_reducible apply Loads.sc c8);exact rfl;((exact hS.blkC 0 rfl rfl))));exact rfl)|((with_reducible apply p7 hS);(iterate 3 exact rfl);intro g w' hS';clear hS;have hS:=hS';clear hS'))|(first|(with_reducible first|apply d8|apply c9|apply d7|apply d5|apply g8))|(((with_reducible apply l6);exact rfl;(assumption))))
   (focus ((with_reducible apply m7 _ _ _ (by kernel_rfl) (by kernel_rfl) hS);(repeat' ((first|((with_reducible apply o5 c8);exact rfl;exact rfl)|((with_reducible apply n6);exact rfl;(intro wd hd;replace hd:St _ _ wd _:=hd;(first|((with_reducible apply Loads.sc c8);exact rfl;((exact hd.blkC 0 rfl rfl)))|((with_reducible apply Loads.sl c8);exact rfl;((exact hd.blkC 1 rfl rfl)))));exact rfl)|((with_reducible apply a05 c8);(iterate 3 exact rfl);((exact rfl));((omega));exact rfl))));all_goals ((with_reducible apply r5);intro w' hS';clear hS;have hS:=hS';clear hS')))
   repeat' (first|(first|((with_reducible apply a1X);exact rfl;exact rfl;omega;omega;exact rfl)|((with_reducible apply d6 c8);exact rfl;exact rfl))|(first|(with_reducible first|apply d8|apply c9|apply d7|apply d5))|first|((with_reducible apply a0i hS c8 (i:=4));(iterate 4 exact rfl);assumption;(iterate 5 exact rfl);intro w' hS';simp only [List.set] at hS';clear hS;have hS:=hS';clear hS')|((with_reducible apply d9);exact rfl;(((with_reducible apply Loads.sc c8);exact rfl;(exact hS.rowCj 4 rfl hrow rfl)));exact rfl))
   rw [e1] at hS
   repeat' (first|(first|((with_reducible apply d6 c8);exact rfl;exact rfl)|((with_reducible apply n7 c8);exact rfl;exact rfl;((exact (rfl:_=some [_,_])));exact rfl))|(first|(with_reducible first|apply c9|apply d7|apply d5))|(((with_reducible apply k9);exact rfl;(assumption)))|first|((with_reducible apply a0p hS c8 (i:=4));(iterate 4 exact rfl);assumption;(iterate 5 exact rfl);intro w' hS';simp only [List.set] at hS';clear hS;have hS:=hS';clear hS')|((with_reducible apply d9);exact rfl;(((with_reducible apply Loads.sc c8);exact rfl;(exact hS.rowCj 4 rfl hrow1 rfl)));exact rfl))
   rw [e2] at hS
   (apply a11);(repeat ((exact ResL.nil)))
   exact ⟨rfl,by rw [List.length_map];exact hS.drop⟩
  ·have hd0:decide (f.refs - 1=0)=false:=decide_eq_false h0
   rw [if_neg h0]
   refine j0 (fn:=Try.f52) ⟨Try.func52,by kernel_rfl,by kernel_rfl⟩ (by exact rfl) Try.ntmps52 (by exact rfl) ?_
   repeat' (first|(first|((with_reducible apply d6 c8);exact rfl;exact rfl)|((with_reducible apply d9);exact rfl;(((with_reducible apply Loads.sc c8);exact rfl;((exact hS.blkC 0 rfl rfl))));exact rfl)|((with_reducible apply p7 hS);(iterate 3 exact rfl);intro g w' hS';clear hS;have hS:=hS';clear hS'))|(first|(with_reducible first|apply d8|apply c9|apply d7|apply d5|apply g8))|(((with_reducible apply l6);exact rfl;(assumption))))
   (focus ((with_reducible apply m7 _ _ _ (by kernel_rfl) (by kernel_rfl) hS);(repeat' ((first|((with_reducible apply o5 c8);exact rfl;exact rfl)|((with_reducible apply n6);exact rfl;(intro wd hd;replace hd:St _ _ wd _:=hd;(first|((with_reducible apply Loads.sc c8);exact rfl;((exact hd.blkC 0 rfl rfl)))|((with_reducible apply Loads.sl c8);exact rfl;((exact hd.blkC 1 rfl rfl)))));exact rfl)|((with_reducible apply a05 c8);(iterate 3 exact rfl);((exact rfl));((omega));exact rfl))));all_goals ((with_reducible apply r5);intro w' hS';clear hS;have hS:=hS';clear hS')))
   repeat' (first|(first|((with_reducible apply a1X);exact rfl;exact rfl;omega;omega;exact rfl)|((with_reducible apply d6 c8);exact rfl;exact rfl))|(first|(with_reducible first|apply d8|apply c9|apply d7|apply d5))|first|((with_reducible apply a0i hS c8 (i:=4));(iterate 4 exact rfl);assumption;(iterate 5 exact rfl);intro w' hS';simp only [List.set] at hS';clear hS;have hS:=hS';clear hS')|((with_reducible apply d9);exact rfl;(((with_reducible apply Loads.sc c8);exact rfl;(exact hS.rowCj 4 rfl hrow rfl)));exact rfl))
   rw [e1] at hS
   repeat' (first|(((with_reducible apply d6 c8);exact rfl;exact rfl))|(first|(with_reducible first|apply d7|apply d5|apply g8))|(((with_reducible apply l6);exact rfl;(assumption)))|((with_reducible apply d9);exact rfl;(((with_reducible apply Loads.sc c8);exact rfl;(exact hS.rowCj 4 rfl hrow1 rfl)));exact rfl))
   (apply a11);(repeat ((exact ResL.nil)))
   exact ⟨rfl,by rw [List.length_map];exact hS.drop⟩
end Go.Proofs.Ytejnpppejalhfac
/- (*work).in: a page is present in a frame that was got. -/
namespace Go.Proofs.Ytejnpppejalhfac
open Go.RowKit Go.Sort
theorem a8T {l:List Sp} {i:Nat} {x:Sp} (h:l[i]?=some x):(l.map a0k).Perm (a0k x::(l.eraseIdx i).map a0k):=(a03 h).map a0k
theorem b38 {l:List Sp} {i:Nat} {x y:Sp} (h:l[i]?=some x):(a0k y::(l.eraseIdx i).map a0k).Perm ((l.set i y).map a0k):=by
 have h1:=a8T (l:=l.set i y) (i:=i) (x:=y) (a5r (j3 h))
 rw [a1Q] at h1
 exact h1.symm
theorem St.pullE {F:Nat→Prop} {w0 w:World} {Γ:List Asr} (h:St F w0 w Γ) (m:Nat) {l:List Sp} {i:Nat} {x:Sp} (hx:l[i]?=some x) (hΓ:Γ.drop m=l.map a0k):St F w0 w (a0k x::k7 (Γ.take m) ((l.eraseIdx i).map a0k)):=by
 rw [a5c]
 refine h.perm ?_
 have h1:Γ.Perm (Γ.take m++(a0k x::(l.eraseIdx i).map a0k)):=by
  conv=>lhs;rw [← List.take_append_drop m Γ,hΓ]
  exact (a8T hx).append_left _
 exact h1.trans List.perm_middle
theorem St.pushE {F:Nat→Prop} {w0 w:World} {Γ:List Asr} {y:Sp} (h:St F w0 w (a0k y::Γ)) (m:Nat) {l:List Sp} {i:Nat} {x:Sp} (hx:l[i]?=some x) (hΓ:Γ.drop m=(l.eraseIdx i).map a0k):St F w0 w (k7 (Γ.take m) ((l.set i y).map a0k)):=by
 rw [a5c]
 refine h.perm ?_
 have h1:(a0k y::Γ).Perm (Γ.take m++(a0k y::(l.eraseIdx i).map a0k)):=by
  conv=>lhs;rw [← List.take_append_drop m Γ,hΓ]
  exact List.perm_middle.symm
 exact h1.trans ((b38 hx).append_left _)
theorem a4h {α β:Type} {φ:α→β} {l:List α} {i:Nat} {x y:α} (h:l[i]?=some x) (e:φ y=φ x):(l.set i y).map φ=l.map φ:=by
 refine List.ext_getElem? fun j=>?_
 rw [List.getElem?_map,List.getElem?_map,List.getElem?_set]
 by_cases hj:i=j
 ·subst hj
  rw [if_pos rfl,if_pos (j3 h),h]
  exact congrArg some e
 ·rw [if_neg hj]
theorem Sl.rng {w:World} {sz b off n c:Nat} {rows:List (List Value)} (h:Sl nF w sz (.slice (some ⟨b,off,none⟩) n c) rows) {k:Nat} {r:List Value} (hk:rows[k]?=some r):w.rangeAt b (off + k * sz) r:=by
 rcases h with ⟨p,c',h1,h2⟩|⟨b',off',cap,h1,-,-,hro⟩
 ·rw [h2] at hk;simp at hk
 ·cases h1
  exact (St.start w).roR hro hk
theorem b4M {sh:List (Sh×Value)} {fr fr':List Fm} {sl sl':List Sw} {sps:List Sp} {hand:Int} {vsh vfr vsl vsp va ve ve':Value} {s:Sc} {sp:Nat} {page:Int} {f:Nat} {data:List UInt8} {dirty:Bool} (hx:sps[sp]?=some ⟨s,va,ve⟩)
  (hl:a1n (z7 (⟨sh,fr,sl,sps,hand,vsh,vfr,vsl,vsp⟩:KV).K f ⟨data,1,dirty,false⟩) (o0 s.entries page)=(⟨sh,fr',sl',sps,hand,vsh,vfr,vsl,vsp⟩:KV).K) :
  (⟨sh,fr',sl',sps.set sp ⟨⟨s.live,s.areas,a1Z s.entries ⟨page,1,(f:Nat)⟩⟩,va,ve'⟩,hand,vsh,vfr,vsl,vsp⟩:KV).K=inK (⟨sh,fr,sl,sps,hand,vsh,vfr,vsl,vsp⟩:KV).K sp page f data dirty:=by
 have hsc:∀ fr sl,u7 (⟨sh,fr,sl,sps,hand,vsh,vfr,vsl,vsp⟩:KV).K sp=s:=fun fr sl=>by
  unfold u7 KV.K
  dsimp only
  rw [List.getElem?_map,hx]
  rfl
 unfold inK
 have he:l5 (⟨sh,fr,sl,sps,hand,vsh,vfr,vsl,vsp⟩:KV).K sp=s.entries:=by unfold l5;rw [hsc]
 rw [he,hl]
 unfold a7x a69
 rw [hsc]
 unfold KV.K
 dsimp only
 rw [List.map_set]
set_option maxRecDepth 100000 in
set_option maxHeartbeats 8000000 in
theorem b43 {F:Nat→Prop} {w0 w:World} {Γ:List Asr} {g0:Nat} {k:KV} {sp:Nat} {vh:Value} {held:List Nat} (hS0:St F w0 w (wkS g0 k sp vh held++Γ)) (hR:KRo (fps (wkS g0 k sp vh held)) w k) {x:Sp} (hx:k.sp[sp]?=some x) {page:Int} {f:Nat} {data:List UInt8} {dirty:Bool} (hf:f < k.fr.length) (hr:Rises (n9 x.s.entries)) (hb:b5E x.s.entries page) (hl:x.s.entries.length≤1000) (hE:∀ e,o0 x.s.entries page=some e→a67 k e) :
  Fn Try.prog 82 [.pointer (some ⟨g0,0,none⟩),.int .i64 page,.int .i64 (f:Nat),.string ⟨data.toArray⟩,.bool dirty] w (fun v w'=>v=.tuple #[]∧∃ k',k'.K=inK k.K sp page f data dirty∧KLike k k'∧St (fps (wkS g0 k sp vh held)) w w' (wkS g0 k' sp vh held)):=by
 have hS:=St.startM hS0
 have hxe0:l5 k.K sp=x.s.entries:=by
  unfold l5 u7 KV.K
  dsimp only
  rw [List.getElem?_map,hx]
  rfl
 generalize fps (wkS g0 k sp vh held)=G at hS hR ⊢
 obtain ⟨sh,fr,sl,sps,hand,vsh,vfr,vsl,vsp⟩:=k
 dsimp only at hf hx
 obtain ⟨e',he'⟩:∃ e':En,e'=⟨page,1,(f:Nat)⟩:=⟨_,rfl⟩
 have hR1:KRo G w ⟨sh,fr.set f ⟨data,1,dirty,false⟩,sl,sps,hand,vsh,vfr,vsl,vsp⟩:=hR.like ⟨rfl,rfl,rfl⟩
 have hwv:=fun w1 (h:St G w w1 (wkS g0 ⟨sh,fr.set f ⟨data,1,dirty,false⟩,sl,sps,hand,vsh,vfr,vsl,vsp⟩ sp vh held))=>WkV.of (Γ:=[]) (by rw [List.append_nil];exact h) hR1
 have hent:=fun w1 h=>a1S (hwv w1 h) (x:=x) hx page hr hb
 obtain ⟨fm,hfm⟩:=l8 (l:=fr) (i:=f) (by omega)
 have hrow:=j9 (f:=fmC) hfm
 unfold wkS wkB hdA frA slA a2n at hS
 dsimp only [List.cons_append,List.nil_append] at hS
 obtain ⟨pf,cf,rfl⟩:=hS.rowSlice 2 rfl
 rw [List.length_map] at hS hent hwv
 obtain ⟨gf,rfl⟩:=hS.rowSome 2 rfl (by omega)
 have hrw:(fr.map fmC).set f (t8 (fmC fm) 0 [.string ⟨data.toArray⟩,.int .i64 1,.bool dirty,.bool false])=(fr.set f ⟨data,1,dirty,false⟩).map fmC:=by
  rw [List.map_set]
  exact congrArg (List.set _ _) (b4f fm ⟨data,1,dirty,false⟩)
 have hxr:=j9 (f:=a0k) hx
 unfold a0k at hxr
 have hxsp:=j9 (f:=spC) hx
 obtain ⟨s,va,ve⟩:=x
 dsimp only at hr hb hl hE hxr hent hxe0 hxsp
 obtain ⟨ps,cs,rfl⟩:=hS.rowSlice 4 rfl
 rw [List.length_map] at hS hent hwv
 have hlt:=j3 hx
 obtain ⟨gs,rfl⟩:=hS.rowSome 4 rfl (by omega)
 have hspc:=fun w1 h=>a08 (hwv w1 h) hlt
 unfold a1c at hspc
 dsimp only at hspc
 have hxm:=List.mem_of_getElem? hx
 have hbs:=fun w1 h=>b0p (t:=page) ((hwv w1 h).ker.spv _ hxm).en hr hb
 unfold BsV at hbs
 dsimp only at hbs
 unfold spC at hxsp
 dsimp only at hxsp
 cases hwas:o0 s.entries page with
 |some was=>
  have hEw:=hE was hwas
  obtain ⟨hwm,hwp⟩:=z0 hwas
  have hm:page ∈ n9 s.entries:=List.mem_map.2 ⟨was,hwm,hwp⟩
  have hat:=(a01 hr page).2 hm
  obtain ⟨i,hi⟩:∃ i,i=lbd (n9 s.entries) page:=⟨_,rfl⟩
  have hwi:s.entries[i]?=some was:=by
   rw [← hi] at hat
   unfold n9 at hat
   rw [List.getElem?_map] at hat
   obtain ⟨y,hy,hyp⟩:=Option.map_eq_some_iff.1 hat
   have h1:=a2W hr (List.mem_of_getElem? hy)
   rw [hyp,hwas] at h1
   cases h1
   exact hy
  unfold b0Q at hent
  dsimp only at hent
  rw [if_pos hm,← hi] at hent
  have hS2:=hS.pullE 5 hx rfl
  obtain ⟨pe,ce,hve⟩:=hS2.rowSlice 0 rfl
  dsimp only at hve
  rw [List.length_map] at hve
  subst hve
  have hel:=j3 hwi
  obtain ⟨ge,hge⟩:=hS2.rowSome (p:=pe) (n:=s.entries.length) (cap:=ce) (sz:=3) (rows:=s.entries.map enC) 0 rfl (by omega)
  subst hge
  clear hS2
  unfold a1c at hent
  dsimp only at hent
  have hrowE:=j9 (f:=enC) hwi
  have hEw1:a67 ⟨sh,fr.set f ⟨data,1,dirty,false⟩,sl,sps,hand,vsh,.slice (some ⟨gf,0,none⟩) fr.length cf,vsl,.slice (some ⟨gs,0,none⟩) sps.length cs⟩ was:=by
   refine ⟨?_,fun x hx=>?_,hEw.sl⟩
   ·have:=hEw.names
    dsimp only at this ⊢
    rw [List.length_set]
    exact this
   ·rcases List.mem_or_eq_of_mem_set hx with h1|rfl
    ·exact hEw.fr x h1
    ·exact ⟨by show (0:Int)≤1;omega,by show (1:Int)≤100000;omega⟩
  obtain ⟨fr',sl',hlv,hlK⟩:∃ fr' sl',a1G ⟨sh,fr.set f ⟨data,1,dirty,false⟩,sl,sps,hand,vsh,.slice (some ⟨gf,0,none⟩) fr.length cf,vsl,.slice (some ⟨gs,0,none⟩) sps.length cs⟩ was=⟨sh,fr',sl',sps,hand,vsh,.slice (some ⟨gf,0,none⟩) fr.length cf,vsl,.slice (some ⟨gs,0,none⟩) sps.length cs⟩∧a0c (⟨sh,fr.set f ⟨data,1,dirty,false⟩,sl,sps,hand,vsh,.slice (some ⟨gf,0,none⟩) fr.length cf,vsl,.slice (some ⟨gs,0,none⟩) sps.length cs⟩:KV).K was=(⟨sh,fr',sl',sps,hand,vsh,.slice (some ⟨gf,0,none⟩) fr.length cf,vsl,.slice (some ⟨gs,0,none⟩) sps.length cs⟩:KV).K:=by
   rw [← b3l]
   unfold a1G
   split
   ·exact ⟨_,_,rfl,rfl⟩
   ·exact ⟨_,_,rfl,rfl⟩
  have hlet:=fun w1 Γ1 (h:St G w w1 (wkS g0 ⟨sh,fr.set f ⟨data,1,dirty,false⟩,sl,sps,hand,vsh,.slice (some ⟨gf,0,none⟩) fr.length cf,vsl,.slice (some ⟨gs,0,none⟩) sps.length cs⟩ sp vh held++Γ1))=>b0n h hEw1
  rw [hlv] at hlet
  unfold enC at hlet
  refine j0 (fn:=Try.f82) ⟨Try.func82,by kernel_rfl,by kernel_rfl⟩ (by exact rfl) Try.ntmps82 (by exact rfl) ?_
  repeat' (first|(first|((with_reducible apply d6 c8);exact rfl;exact rfl)|((with_reducible apply d9);exact rfl;(((with_reducible apply Loads.sl c8);exact rfl;((exact hS.blkC 0 rfl rfl))));exact rfl)|((with_reducible apply p8 c8);(iterate 3 exact rfl);((exact rfl));((omega));exact rfl)|((with_reducible apply n7 c8);exact rfl;exact rfl;(first|exact (rfl:_=some [_,_,_])|exact (rfl:_=some [_,_,_,_]));exact rfl)|((with_reducible apply j7 hS c8);(iterate 3 exact rfl);intro g w' hS';clear hS;have hS:=hS';clear hS')|(((with_reducible apply i7 hS c8 (i:=0));(iterate 8 exact rfl);((exact (rfl:_=[_,_,_])));intro w' hS';simp only [List.set] at hS';clear hS;have hS:=hS';clear hS')))|(first|(with_reducible first|apply d8|apply c9|apply d7|apply d5))|((with_reducible apply a0p hS c8 (i:=2));(iterate 4 exact rfl);assumption;(iterate 5 exact rfl);intro w' hS';simp only [List.set] at hS';clear hS;have hS:=hS';clear hS'))
  rw [hrw] at hS
  repeat' (first|(((with_reducible apply d6 c8);exact rfl;exact rfl))|(first|(with_reducible first|apply d8|apply c9|apply d7|apply d5))|(((with_reducible apply k9);exact rfl;(exact rfl)))|((with_reducible apply e8);exact rfl;exact rfl;exact hent _ hS.drop;exact rfl;rintro _ w' ⟨rfl,hS'⟩;replace hS:=hS.transA hS';simp only [k7] at hS;clear hS')|((with_reducible apply d9);exact rfl;((with_reducible apply Loads.st c8);exact rfl;exact (((hwv _ hS.drop).ker.spv _ hxm).en.rng hrowE);exact rfl);exact rfl))
  replace hS:=hS.perm (List.perm_append_singleton _ _).symm
  repeat' (first|(((with_reducible apply d6 c8);exact rfl;exact rfl))|(first|(with_reducible first|apply d8|apply c9|apply d7|apply d5))|((with_reducible apply e8);exact rfl;exact rfl;exact hlet _ [_] hS;exact rfl;rintro _ w2 ⟨rfl,h2⟩))
  replace hS:=St.transM hS h2
  clear h2
  replace hS:=hS.perm (List.perm_append_singleton _ _)
  unfold wkS wkB hdA frA slA a2n at hS
  dsimp only [List.cons_append,List.nil_append] at hS
  replace hS:=hS.pullE 6 hx rfl
  simp only [List.take_succ_cons,List.take_zero,k7] at hS
  have hpu:a1Z s.entries e'=s.entries.set i e':=by
   unfold a1Z
   rw [if_pos (by rw [he'];exact hm)]
   rw [he',hi]
  have hst:(s.entries.map enC).set i (t8 (enC was) 0 [.int .i64 page,.int .i64 1,.int .i64 (f:Nat)])=(a1Z s.entries e').map enC:=by
   rw [hpu,List.map_set,he']
   exact congrArg (List.set _ _) (a7n was ⟨page,1,(f:Nat)⟩)
  unfold a0k at hS
  dsimp only at hS
  repeat' (first|(first|((with_reducible apply d6 c8);exact rfl;exact rfl)|((with_reducible apply d9);exact rfl;(((with_reducible apply Loads.st c8);exact rfl;((exact hS.blkR 1 rfl));exact rfl));exact rfl))|(first|(with_reducible first|apply d7|apply d5|apply j5|apply e6))|((with_reducible apply a0p hS c8 (i:=0));(iterate 4 exact rfl);assumption;(iterate 5 exact rfl);intro w' hS';simp only [List.set] at hS';clear hS;have hS:=hS';clear hS'))
  (apply a7r);(repeat ((exact ResL.nil)))
  rw [hst] at hS
  replace hS:=St.pushE (y:=⟨⟨s.live,s.areas,a1Z s.entries e'⟩,va,.slice (some ⟨ge,0,none⟩) s.entries.length ce⟩) hS 6 hx rfl
  simp only [List.take_succ_cons,List.take_zero,k7] at hS
  simp only [List.length_map]
  have hspm:(sps.set sp ⟨⟨s.live,s.areas,a1Z s.entries e'⟩,va,.slice (some ⟨ge,0,none⟩) s.entries.length ce⟩).map spC=sps.map spC:=a4h hx rfl
  rw [← hspm] at hS
  refine ⟨trivial,⟨sh,fr',sl',sps.set sp ⟨⟨s.live,s.areas,a1Z s.entries e'⟩,va,.slice (some ⟨ge,0,none⟩) s.entries.length ce⟩,hand,vsh,.slice (some ⟨gf,0,none⟩) fr.length cf,vsl,.slice (some ⟨gs,0,none⟩) sps.length cs⟩,?_,⟨rfl,rfl,a4h hx rfl⟩,hS.drop⟩
  rw [he']
  refine b4M hx ?_
  rw [hwas]
  exact hlK
 |none=>
  have hm:page ∉ n9 s.entries:=a1l.1 hwas
  unfold b0Q at hent
  dsimp only at hent
  rw [if_neg hm] at hent
  rw [decide_eq_false (show page ∉ s.entries.map fun e=>e.page from hm)] at hbs
  refine j0 (fn:=Try.f82) ⟨Try.func82,by kernel_rfl,by kernel_rfl⟩ (by exact rfl) Try.ntmps82 (by exact rfl) ?_
  repeat' (first|(first|((with_reducible apply d6 c8);exact rfl;exact rfl)|((with_reducible apply d9);exact rfl;(((with_reducible apply Loads.sl c8);exact rfl;((exact hS.blkC 0 rfl rfl))));exact rfl)|((with_reducible apply p8 c8);(iterate 3 exact rfl);((exact rfl));((omega));exact rfl)|((with_reducible apply n7 c8);exact rfl;exact rfl;(first|exact (rfl:_=some [_,_,_])|exact (rfl:_=some [_,_,_,_]));exact rfl)|((with_reducible apply j7 hS c8);(iterate 3 exact rfl);intro g w' hS';clear hS;have hS:=hS';clear hS')|(((with_reducible apply i7 hS c8 (i:=0));(iterate 8 exact rfl);((exact (rfl:_=[_,_,_])));intro w' hS';simp only [List.set] at hS';clear hS;have hS:=hS';clear hS')))|(first|(with_reducible first|apply d8|apply c9|apply d7|apply d5))|((with_reducible apply a0p hS c8 (i:=2));(iterate 4 exact rfl);assumption;(iterate 5 exact rfl);intro w' hS';simp only [List.set] at hS';clear hS;have hS:=hS';clear hS'))
  rw [hrw] at hS
  repeat' (first|(((with_reducible apply d6 c8);exact rfl;exact rfl))|(first|(with_reducible first|apply d8|apply c9|apply d7|apply d5|apply g8))|(((with_reducible apply l6);exact rfl;(exact rfl)))|((with_reducible apply e8);exact rfl;exact rfl;exact hent _ hS.drop;exact rfl;rintro _ w' ⟨rfl,hS'⟩;replace hS:=hS.transA hS';simp only [k7] at hS;clear hS')|((with_reducible apply e8);exact rfl;exact rfl;exact hspc _ hS.drop;exact rfl;rintro _ w' ⟨rfl,hS'⟩;replace hS:=hS.transA hS';simp only [k7] at hS;clear hS')|((with_reducible apply e8);exact rfl;exact rfl;exact hbs _ hS.drop;exact rfl;rintro _ w' ⟨rfl,hS'⟩;replace hS:=hS.transA hS';simp only [k7] at hS;clear hS')|((with_reducible apply d9);exact rfl;(((with_reducible apply Loads.sl c8);exact rfl;(exact hS.rowCj 5 rfl hxsp rfl)));exact rfl))
  refine a2D 6 11 12 rfl hS (by kernel_rfl) ?_
  intro w10 hS'
  clear hS;have hS:=hS';clear hS'
  simp only [List.take_succ_cons,List.take_zero]
  have hH:=hS.sub (List.sublist_append_left [_,_,_,_,_,_] _)
  ((with_reducible apply l4 0 c8);exact rfl;kernel_rfl;kernel_rfl;kernel_rfl;exact rfl;exact (fun _ _ _ h=>h);exact Or.inr hH;exact rfl;exact rfl)
  ((with_reducible apply l4 1 c8);exact rfl;kernel_rfl;kernel_rfl;kernel_rfl;exact rfl;exact (fun _ _ _ h=>h);exact Or.inr hH;exact rfl;exact rfl)
  ((with_reducible apply l4 2 c8);exact rfl;kernel_rfl;kernel_rfl;kernel_rfl;exact rfl;exact (fun _ _ _ h=>h);exact Or.inr hH;exact rfl;exact rfl)
  ((with_reducible apply l4 3 c8);exact rfl;kernel_rfl;kernel_rfl;kernel_rfl;exact rfl;exact (fun _ _ _ h=>h);exact Or.inr hH;exact rfl;exact rfl)
  ((with_reducible apply r7 4);exact rfl;kernel_rfl;kernel_rfl;kernel_rfl;kernel_rfl;exact rfl;exact rfl;exact (fun _ _ _ h=>h);exact hH;exact rfl;(intro w2 hw2;(replace hw2:St _ _ w2 _:=hw2;(with_reducible apply Loads.sl c8);exact rfl;exact hw2.rowCj 5 rfl hxsp rfl));exact rfl)
  ((with_reducible apply l4 5 c8);exact rfl;kernel_rfl;kernel_rfl;kernel_rfl;exact rfl;exact (fun _ _ _ h=>h);exact Or.inr hH;exact rfl;exact rfl)
  ((with_reducible apply r7 6);exact rfl;kernel_rfl;kernel_rfl;kernel_rfl;kernel_rfl;exact rfl;exact rfl;exact (fun _ _ _ h=>h);exact hH;exact rfl;(intro w2 hw2;(replace hw2:St _ _ w2 _:=hw2;(((with_reducible apply Loads.st c8);exact rfl;((exact hw2.blkR 0 rfl));exact rfl))));exact rfl)
  refine s7 (i:=7) (by kernel_rfl) ?_
  refine t5 rfl (y8 hS c8 rfl rfl rfl rfl rfl rfl) rfl ?_
  rintro _ w' ⟨gu,rfl,hS'⟩
  clear hS;have hS:=hS';clear hS'
  have hH:=hS.drop.sub (List.sublist_append_left [_,_,_,_,_,_] _)
  refine ⟨Or.inr (Or.inr hH),?_⟩
  refine s7 (i:=8) (by kernel_rfl) ?_
  replace hS:=hS.pullE 7 hx rfl
  simp only [List.take_succ_cons,List.take_zero,k7] at hS
  replace hS:=hS.reorderT 2 [0,1] (by decide) rfl
  simp only [k7,List.drop_succ_cons,List.drop_zero] at hS
  have hi:=b5k (n9 s.entries) page
  unfold n9 at hi
  rw [List.length_map] at hi
  have hins:=b2r (e:=e') (i:=lbd (s.entries.map fun e=>e.page) page) (v:=ve) (u:=.slice (some ⟨gu,0,none⟩) 1 1) (by rw [he'];exact hS) hi (by omega)
  refine t5 rfl (a0o (first:=[]) (caps:=[]) rfl rfl hins) rfl ?_
  rintro _ w' ⟨q,c,rfl,h2⟩
  replace hS:=St.transM (Θ:=[enA ve s.entries,enA (.slice (some ⟨gu,0,none⟩) 1 1) [e']]) (by rw [he'];exact hS) h2
  dsimp only [List.cons_append,List.nil_append] at hS
  clear h2 hins
  have hH:=hS.drop.sub (List.sublist_append_left [_,_,_,_,_,_] _)
  refine ⟨Or.inr (Or.inr hH),?_⟩
  ((with_reducible apply l4 9 c8);exact rfl;kernel_rfl;kernel_rfl;kernel_rfl;exact rfl;exact (fun _ _ _ h=>h);exact Or.inr hH;exact rfl;exact rfl)
  ((with_reducible apply l4 10 c8);exact rfl;kernel_rfl;kernel_rfl;kernel_rfl;exact rfl;exact (fun _ _ _ h=>h);exact Or.inr hH;exact rfl;exact rfl)
  refine s7 (i:=11) (by kernel_rfl) ?_
  refine a0L (Φ:=fun _ w'=>St _ _ w' _) rfl (a2t hS c8 (i:=6) (kk:=sp) (j:=2) rfl rfl rfl rfl rfl hxsp (a1I rfl) rfl (Nat.le_refl _) rfl) ?_
  intro _ w' hS'
  simp only [List.set,t8] at hS'
  clear hS;have hS:=hS';clear hS'
  refine ⟨Or.inl rfl,?_⟩
  refine a1a (by kernel_rfl) ?_
  (apply a11);(repeat ((exact ResL.nil)))
  have hsp1:(sps.map spC).set sp ((([.bool s.live,va,ve]:List Value).set 2 (.slice q (s.entries.length + 1) c)))=(sps.set sp ⟨⟨s.live,s.areas,a1Z s.entries e'⟩,va,.slice q (s.entries.length + 1) c⟩).map spC:=by
   rw [List.map_set]
   rfl
  have hpu:a1Z s.entries e'=a9t s.entries e':=by
   unfold a1Z
   rw [if_neg]
   rw [he']
   exact hm
  have hS2:=hS
  replace hS2:St G w w' (a0k ⟨⟨s.live,s.areas,a1Z s.entries e'⟩,va,.slice q (s.entries.length + 1) c⟩::.blk g [.int .i64 page,.int .i64 1,.int .i64 (f:Nat)]::.blk g0 [vsh,.slice (some ⟨gf,0,none⟩) fr.length cf,vsl,.slice (some ⟨gs,0,none⟩) sps.length cs,.int .i64 hand,.int .i64 (sp:Nat),vh]::.row 3 1 vh (held.map fun i=>[.int .i64 (i:Nat)])::.row 43 4 (.slice (some ⟨gf,0,none⟩) fr.length cf) ((fr.set f ⟨data,1,dirty,false⟩).map fmC)::.row 45 2 vsl (sl.map swC)::.row 41 3 (.slice (some ⟨gs,0,none⟩) sps.length cs) ((sps.set sp ⟨⟨s.live,s.areas,a1Z s.entries e'⟩,va,.slice q (s.entries.length + 1) c⟩).map spC)::(sps.eraseIdx sp).map a0k):=by
   rw [← hsp1,hpu,he']
   rw [he'] at hS
   exact hS
  clear hS
  have hS:=hS2
  replace hS:=hS.pushE 6 hx rfl
  simp only [List.take_succ_cons,List.take_zero,k7] at hS
  simp only [List.length_map]
  refine ⟨trivial,⟨sh,fr.set f ⟨data,1,dirty,false⟩,sl,sps.set sp ⟨⟨s.live,s.areas,a1Z s.entries e'⟩,va,.slice q (s.entries.length + 1) c⟩,hand,vsh,.slice (some ⟨gf,0,none⟩) fr.length cf,vsl,.slice (some ⟨gs,0,none⟩) sps.length cs⟩,?_,⟨rfl,rfl,a4h hx rfl⟩,hS.drop⟩
  rw [he']
  refine b4M hx ?_
  rw [hwas]
  rfl
end Go.Proofs.Ytejnpppejalhfac
/- (*work).aside: a frame put aside. -/
namespace Go.Proofs.Ytejnpppejalhfac
open Go.RowKit Go.Sort
set_option maxRecDepth 100000 in
theorem a9K (s:Sw) (w:World):Fn Try.prog 98 [.agg (swC s).toArray] w (RBf (.bool (decide (s.refs=0))) w):=by
 unfold swC
 refine j0 (fn:=Try.f98) ⟨Try.func98,by kernel_rfl,by kernel_rfl⟩ (by exact rfl) Try.ntmps98 (by exact rfl) ?_
 have hS:=St.start w
 repeat' (first|(first|((with_reducible apply d6 c8);exact rfl;exact rfl)|((with_reducible apply d9);exact rfl;(((with_reducible apply Loads.sc c8);exact rfl;((exact hS.blkC 0 rfl rfl))));exact rfl)|((with_reducible apply p7 hS);(iterate 3 exact rfl);intro g w' hS';clear hS;have hS:=hS';clear hS'))|(first|(with_reducible first|apply d8|apply c9|apply d7|apply d5|apply j5)))
 (apply j6);(repeat (first|exact ResL.nil|(apply ResL.tmp;exact rfl)))
 exact ⟨rfl,hS.sub (List.nil_sublist _)⟩
set_option maxRecDepth 100000 in
theorem a9e (e:En) (w:World):Fn Try.prog 99 [.agg (enC e).toArray] w (RBf (.bool (decide (e.kind=0))) w):=by
 unfold enC
 refine j0 (fn:=Try.f99) ⟨Try.func99,by kernel_rfl,by kernel_rfl⟩ (by exact rfl) Try.ntmps99 (by exact rfl) ?_
 have hS:=St.start w
 repeat' (first|(first|((with_reducible apply d6 c8);exact rfl;exact rfl)|((with_reducible apply d9);exact rfl;(((with_reducible apply Loads.sc c8);exact rfl;((exact hS.blkC 0 rfl rfl))));exact rfl)|((with_reducible apply p7 hS);(iterate 3 exact rfl);intro g w' hS';clear hS;have hS:=hS';clear hS'))|(first|(with_reducible first|apply d8|apply c9|apply d7|apply d5|apply j5)))
 (apply j6);(repeat (first|exact ResL.nil|(apply ResL.tmp;exact rfl)))
 exact ⟨rfl,hS.sub (List.nil_sublist _)⟩
set_option maxRecDepth 100000 in
theorem a9i (f:Fm) (w:World):Fn Try.prog 89 [.agg (fmC f).toArray] w (RBf (.bool (decide (f.refs=0))) w):=by
 unfold fmC
 refine j0 (fn:=Try.f89) ⟨Try.func89,by kernel_rfl,by kernel_rfl⟩ (by exact rfl) Try.ntmps89 (by exact rfl) ?_
 have hS:=St.start w
 repeat' (first|(first|((with_reducible apply d6 c8);exact rfl;exact rfl)|((with_reducible apply d9);exact rfl;(((with_reducible apply Loads.sc c8);exact rfl;((exact hS.blkC 0 rfl rfl))));exact rfl)|((with_reducible apply p7 hS);(iterate 3 exact rfl);intro g w' hS';clear hS;have hS:=hS';clear hS'))|(first|(with_reducible first|apply d8|apply c9|apply d7|apply d5|apply j5)))
 (apply j6);(repeat (first|exact ResL.nil|(apply ResL.tmp;exact rfl)))
 exact ⟨rfl,hS.sub (List.nil_sublist _)⟩
def a0Z (f a b:Int) (e:En):En:=if e.kind=1∧e.at_=f then ⟨e.page,a,b⟩ else e
theorem a40 {f:Int} {t:Option Int} {a b:Int} (ht:(t=none∧a=0∧b=0)∨∃ s,t=some s∧a=2∧b=s):∀ {l:List En},(∀ e ∈ l,e.kind≠0)→(l.map (a0Z f a b)).filter (fun e=>!decide (e.kind=0))=l.filterMap (x9 f t)
 |[],_=>rfl
 |e::l,h=>by
  have ih:=a40 (f:=f) ht (l:=l) (fun x hx=>h x (List.mem_cons_of_mem _ hx))
  have h0:=h e List.mem_cons_self
  rw [List.map_cons,List.filterMap_cons]
  unfold x9
  by_cases he:e.kind=1∧e.at_=f
  ·rw [if_pos he]
   have hm:a0Z f a b e=⟨e.page,a,b⟩:=by unfold a0Z;rw [if_pos he]
   rw [hm]
   rcases ht with ⟨rfl,rfl,rfl⟩|⟨s,rfl,rfl,rfl⟩
   ·rw [List.filter_cons_of_neg (by simp)]
    exact ih
   ·rw [List.filter_cons_of_pos (by simp)]
    exact congrArg _ ih
  ·rw [if_neg he]
   have hm:a0Z f a b e=e:=by unfold a0Z;rw [if_neg he]
   rw [hm,List.filter_cons_of_pos (by simpa using h0)]
   exact congrArg _ ih
theorem b0G {f a b:Int} {l:List En} {j:Nat} {e:En} (h:l[j]?=some e):(((l.take j).map (a0Z f a b))++l.drop j).set j (a0Z f a b e)=((l.take (j + 1)).map (a0Z f a b))++l.drop (j + 1):=by
 have hj:=j3 h
 rw [a0S h,List.map_append,List.set_append_right _ _ (by rw [List.length_map,List.length_take];omega),List.length_map,List.length_take,Nat.min_eq_left (by omega),Nat.sub_self,a2b h,List.set_cons_zero,List.append_assoc]
 rfl
theorem b0v {f a b:Int} {l:List En} {j:Nat} {e:En} (h:l[j]?=some e):(((l.take j).map (a0Z f a b))++l.drop j)[j]?=some e:=by
 have hj:=j3 h
 rw [List.getElem?_append_right (by rw [List.length_map,List.length_take];omega),List.length_map,List.length_take,Nat.min_eq_left (by omega),Nat.sub_self,a2b h]
 rfl
theorem b1N {f a b:Int} {l:List En} (j:Nat):(((l.take j).map (a0Z f a b))++l.drop j).length=l.length:=by
 rw [List.length_append,List.length_map,List.length_take,List.length_drop]
 omega
def slT (o:Option Nat) (sl:List Sw) (x:Sw):List Sw:=match o with
 |some t=>sl.set t x
 |none=>sl
structure b3U (k:KV) (f:Nat):Prop where
 lt:f < k.fr.length
 free:(l7 k.fr f).dirty=true→∃ t,a19 k.sl=some t
 len:∀ x ∈ k.sp,x.s.entries.length≤1000
 kind:∀ x ∈ k.sp,∀ e ∈ x.s.entries,e.kind≠0
 sp:k.sp.length≤1000
theorem b0Y {l:List Sw} {t:Nat} (h:a19 l=some t):a2h (fun s:Sw=>decide (s.refs=0)) l=((t:Nat):Int):=by
 unfold a2h
 unfold a19 at h
 rw [h]
set_option maxRecDepth 100000 in
set_option maxHeartbeats 8000000 in
theorem a62 {F:Nat→Prop} {w0 w:World} {Γ:List Asr} {g0:Nat} {k:KV} {sp:Nat} {vh:Value} {held:List Nat} (hS0:St F w0 w (wkS g0 k sp vh held++Γ)) {f:Nat} (hA:b3U k f):Fn Try.prog 91 [.pointer (some ⟨g0,0,none⟩),.int .i64 (f:Nat)] w (fun v w'=>v=.tuple #[]∧∃ k',k'.K=v5 k.K f∧KLike k k'∧St (fps (wkS g0 k sp vh held)) w w' (wkS g0 k' sp vh held)):=by
 have hS:=St.startM hS0
 obtain ⟨hfl,hfree,hlen,hkd,hspl⟩:=hA
 generalize fps (wkS g0 k sp vh held)=G at hS ⊢
 obtain ⟨sh,fr,sl,sps,hand,vsh,vfr,vsl,vsp⟩:=k
 dsimp only at hfl hfree hlen hkd hspl
 obtain ⟨fm,hfm⟩:=l8 (l:=fr) (i:=f) (by omega)
 have hrow:=j9 (f:=fmC) hfm
 rw [q8 hfm] at hfree
 unfold wkS wkB hdA frA slA a2n at hS
 dsimp only [List.cons_append,List.nil_append] at hS
 obtain ⟨pf,cf,rfl⟩:=hS.rowSlice 2 rfl
 rw [List.length_map] at hS
 obtain ⟨gf,rfl⟩:=hS.rowSome 2 rfl (by omega)
 obtain ⟨psl,csl,rfl⟩:=hS.rowSlice 3 rfl
 rw [List.length_map] at hS
 obtain ⟨psp,csp,rfl⟩:=hS.rowSlice 4 rfl
 rw [List.length_map] at hS
 unfold fmC at hrow
 have hsw:=fun w1 (h:Sl nF w1 2 (.slice psl sl.length csl) (sl.map swC))=>b12 (p:=fun s:Sw=>decide (s.refs=0)) (k:=98) (caps:=[]) h (fun x _ w' _=>a9K x w')
 obtain ⟨aT,haT⟩:∃ o,o=a0C (⟨sh,fr,sl,sps,hand,vsh,.slice (some ⟨gf,0,none⟩) fr.length cf,.slice psl sl.length csl,.slice psp sps.length csp⟩:KV).K f:=⟨_,rfl⟩
 have haT2:aT=if fm.dirty then some ((a19 sl).getD 0) else none:=by
  rw [haT]
  unfold a0C KV.K
  dsimp only
  rw [q8 hfm]
 refine j0 (fn:=Try.f91) ⟨Try.func91,by kernel_rfl,by kernel_rfl⟩ (by exact rfl) Try.ntmps91 (by exact rfl) ?_
 repeat' (first|(first|((with_reducible apply d6 c8);exact rfl;exact rfl)|((with_reducible apply d9);exact rfl;(first|((with_reducible apply Loads.sc c8);exact rfl;((exact hS.rowCj 3 rfl (by assumption) rfl)))|((with_reducible apply Loads.sl c8);exact rfl;((exact hS.blkC 1 rfl rfl))));exact rfl)|((with_reducible apply p8 c8);(iterate 3 exact rfl);((exact rfl));((omega));exact rfl)|((with_reducible apply n7 c8);exact rfl;exact rfl;((exact (rfl:_=some [_,_,_])));exact rfl)|((with_reducible apply j7 hS c8);(iterate 3 exact rfl);intro g w' hS';clear hS;have hS:=hS';clear hS')|(((with_reducible apply i7 hS c8 (i:=0));(iterate 8 exact rfl);((exact (rfl:_=[_,_,_])));intro w' hS';simp only [List.set] at hS';clear hS;have hS:=hS';clear hS')))|(first|(with_reducible first|apply d8|apply c9|apply d7|apply d5)))
 rename Nat=>gt
 refine a4O (F:=G) (w0:=w) (X:=List Sw×Int×Int) (fun _=>[(0,.pointer (some ⟨g0,0,none⟩)),(1,.int .i64 (f:Nat)),(4,.pointer (some ⟨gt,0,none⟩))]) (fun x=>[.blk gt [.int .i64 0,.int .i64 x.2.1,.int .i64 x.2.2],.blk g0 [vsh,.slice (some ⟨gf,0,none⟩) fr.length cf,.slice psl sl.length csl,.slice psp sps.length csp,.int .i64 hand,.int .i64 (sp:Nat),vh],.row 3 1 vh (held.map fun i=>[.int .i64 (i:Nat)]),.row 43 4 (.slice (some ⟨gf,0,none⟩) fr.length cf) (fr.map fmC),.row 45 2 (.slice psl sl.length csl) (x.1.map swC),.row 41 3 (.slice psp sps.length csp) (sps.map spC)]++sps.map a0k) (fun x=>(aT=none∧x=(sl,0,0))∨∃ t:Nat,aT=some t∧t < sl.length∧x=(sl.set t ⟨fm.data,fm.refs⟩,2,((t:Nat):Int))) ?_ ?_
 ·cases hd:fm.dirty with
  |false=>
   rw [hd,if_neg (by simp)] at haT2
   repeat' (first|((with_reducible apply g8))|(((with_reducible apply l6);exact rfl;(exact rfl))))
   exact a0e (sl,0,0) (by repeat (first|exact Fr.sub_nil _|(apply Fr.sub_cons;exact rfl))) (Or.inl ⟨haT2,rfl⟩) hS
  |true=>
   obtain ⟨t,ht⟩:=hfree hd
   rw [hd,if_pos rfl,ht] at haT2
   rw [b0Y ht] at hsw
   obtain ⟨s0,hs0,-⟩:=a3T ht
   have htl:=j3 hs0
   have hrowS:=j9 (f:=swC) hs0
   obtain ⟨gsl,rfl⟩:=hS.rowSome 4 rfl (by omega)
   have est:(sl.map swC).set t (t8 (swC s0) 0 [.string ⟨fm.data.toArray⟩,.int .i64 fm.refs])=(sl.set t ⟨fm.data,fm.refs⟩).map swC:=by
    rw [List.map_set]
    exact congrArg (List.set _ _) (b4E s0 ⟨fm.data,fm.refs⟩)
   repeat' (first|(first|((with_reducible apply d6 c8);exact rfl;exact rfl)|((with_reducible apply d9);exact rfl;(((with_reducible apply Loads.sl c8);exact rfl;((exact hS.blkC 1 rfl rfl))));exact rfl))|(first|(with_reducible first|apply d8|apply c9|apply d7|apply d5))|(((with_reducible apply k9);exact rfl;(exact rfl)))|((with_reducible apply e8);exact rfl;exact rfl;exact hsw _ (hS.rowSl 4 rfl);exact rfl;rintro _ w' ⟨rfl,hS'⟩;replace hS:=hS.transA hS';simp only [k7] at hS;clear hS'))
   (focus ((with_reducible apply a0X _ _ _ 26 (by kernel_rfl) (by kernel_rfl) hS);(simp only [List.take_succ_cons,List.take_zero,List.drop_succ_cons,List.drop_zero]);(repeat' ((first|((with_reducible apply o5 c8);exact rfl;exact rfl)|((with_reducible apply n6);exact rfl;(intro wd hd;replace hd:St _ _ wd _:=hd;(first|((with_reducible apply Loads.sc c8);exact rfl;(first|exact hd.rowC0 3 rfl (by assumption) rfl|exact hd.rowCj 3 rfl (by assumption) rfl))|((with_reducible apply Loads.sl c8);exact rfl;((exact hd.blkC 1 rfl rfl)))));exact rfl)|((with_reducible apply a05 c8);(iterate 3 exact rfl);((exact rfl));((omega));exact rfl)|((with_reducible apply b0s c8);exact rfl;exact rfl;((exact (rfl:_=some [_,_])));exact rfl))));all_goals ((with_reducible apply r5);intro w' hS';clear hS;have hS:=hS';clear hS')))
   repeat' (first|(first|((with_reducible apply d6 c8);exact rfl;exact rfl)|((with_reducible apply n7 c8);exact rfl;exact rfl;((exact (rfl:_=some [_,_,_])));exact rfl)|(((with_reducible apply i7 hS c8 (i:=0));(iterate 8 exact rfl);((exact (rfl:_=[_,_,_])));intro w' hS';simp only [List.set] at hS';clear hS;have hS:=hS';clear hS')))|(first|(with_reducible first|apply c9|apply d7|apply d5))|((with_reducible apply a0p hS c8 (i:=4));(iterate 4 exact rfl);assumption;(iterate 5 exact rfl);intro w' hS';simp only [List.set] at hS';clear hS;have hS:=hS';clear hS'))
   rw [est] at hS
   exact a0e (sl.set t ⟨fm.data,fm.refs⟩,2,((t:Nat):Int)) (by repeat (first|exact Fr.sub_nil _|(apply Fr.sub_cons;exact rfl))) (Or.inr ⟨t,haT2,htl,rfl⟩) hS
 clear hS hsw
 rintro ⟨sl',a,b⟩ w1 hp hS
 dsimp only [List.cons_append,List.nil_append] at hp hS
 obtain ⟨T,hT⟩:∃ T:Option Int,T=aT.map fun (t:Nat)=>(t:Int):=⟨_,rfl⟩
 have ht:(T=none∧a=0∧b=0)∨∃ s,T=some s∧a=2∧b=s:=by
  rcases hp with ⟨h1,h2⟩|⟨t,h1,-,h2⟩
  ·cases h2
   rw [h1] at hT
   exact Or.inl ⟨hT,rfl,rfl⟩
  ·cases h2
   rw [h1] at hT
   exact Or.inr ⟨_,hT,rfl,rfl⟩
 have hsl':sl'=slT aT sl ⟨fm.data,fm.refs⟩:=by
  rcases hp with ⟨h1,h2⟩|⟨t,h1,-,h2⟩
  ·cases h2;rw [h1];rfl
  ·cases h2;rw [h1];rfl
 have hsll:sl'.length=sl.length:=by
  rw [hsl']
  cases aT with
  |none=>rfl
  |some t=>exact List.length_set
 clear hp
 repeat' (first|(first|((with_reducible apply d6 c8);exact rfl;exact rfl)|((with_reducible apply d9);exact rfl;(((with_reducible apply Loads.sl c8);exact rfl;((exact hS.blkC 1 rfl rfl))));exact rfl))|(first|(with_reducible first|apply d8|apply c9|apply d7|apply d5|apply e7)))
 refine o6 (F:=G) (w0:=w) (X:=Nat×List Sp) (fun x=>[(59,.int .i64 (x.1:Nat))]) [0,1,4,58] rfl (fun x=>[.blk gt [.int .i64 0,.int .i64 a,.int .i64 b],.blk g0 [vsh,.slice (some ⟨gf,0,none⟩) fr.length cf,.slice psl sl.length csl,.slice psp sps.length csp,.int .i64 hand,.int .i64 (sp:Nat),vh],.row 3 1 vh (held.map fun i=>[.int .i64 (i:Nat)]),.row 43 4 (.slice (some ⟨gf,0,none⟩) fr.length cf) (fr.map fmC),.row 45 2 (.slice psl sl.length csl) (sl'.map swC),.row 41 3 (.slice psp sps.length csp) (x.2.map spC)]++x.2.map a0k) (Γ:=[]) (fun x=>x.1≤sps.length∧x.2.length=sps.length∧∀ (j:Nat) y,sps[j]?=some y→(x.1≤j→x.2[j]?=some y)∧(j < x.1→∃ ve',x.2[j]?=some ⟨a0m (f:Nat) T y.s,y.va,ve'⟩)) (fun x=>sps.length - x.1) (0,sps) (by repeat (first|exact Fr.sub_nil _|(apply Fr.sub_cons;exact rfl))) ⟨Nat.zero_le _,rfl,fun j y hy=>⟨fun _=>hy,fun h=>absurd h (Nat.not_lt_zero _)⟩⟩ (by rw [List.append_nil];exact hS) ?_
 clear hS
 rintro ⟨i,SPS⟩ w2 ⟨hi,hSl,hinv⟩ hS
 dsimp only [List.cons_append,List.nil_append] at hi hSl hinv hS ⊢
 rw [List.append_nil] at hS
 by_cases hlt:i < sps.length
 rotate_left
 ·obtain rfl:i=sps.length:=by omega
  repeat' (first|(first|((with_reducible apply d6 c8);exact rfl;exact rfl)|((with_reducible apply d9);exact rfl;(((with_reducible apply Loads.sl c8);exact rfl;((exact hS.blkC 1 rfl rfl))));exact rfl)|((with_reducible apply p8 c8);(iterate 3 exact rfl);((exact rfl));((omega));exact rfl)|((with_reducible apply n7 c8);exact rfl;exact rfl;((exact (rfl:_=some [_,_,_,_])));exact rfl))|(first|(with_reducible first|apply d8|apply c9|apply d7|apply d5|apply n5|apply j4|apply i9))|(((with_reducible apply k6);exact rfl;all_goals (intro hb hp;try (exfalso;omega))))|((with_reducible apply a0p hS c8 (i:=3));(iterate 4 exact rfl);assumption;(iterate 5 exact rfl);intro w' hS';simp only [List.set] at hS';clear hS;have hS:=hS';clear hS'))
  (apply a11);(repeat ((exact ResL.nil)))
  have hfs:(fr.map fmC).set f (t8 [.string ⟨fm.data.toArray⟩,.int .i64 fm.refs,.bool fm.dirty,.bool fm.seen] 0 [.string ⟨#[]⟩,.int .i64 0,.bool false,.bool false])=(fr.set f fm0).map fmC:=by
   rw [List.map_set]
   rfl
  rw [hfs] at hS
  have hinv2:∀ (j:Nat) y,sps[j]?=some y→∃ ve',SPS[j]?=some ⟨a0m (f:Nat) T y.s,y.va,ve'⟩:=fun j y hy=>(hinv j y hy).2 (j3 hy)
  refine ⟨rfl,⟨sh,fr.set f fm0,sl',SPS,hand,vsh,.slice (some ⟨gf,0,none⟩) fr.length cf,.slice psl sl.length csl,.slice psp sps.length csp⟩,?_,⟨rfl,rfl,?_⟩,?_⟩
  ·unfold KV.K v5
   have h1:SPS.map (·.s)=(sps.map (·.s)).map (a0m (f:Nat) T):=by
    refine List.ext_getElem? fun j=>?_
    rw [List.getElem?_map,List.getElem?_map,List.getElem?_map]
    cases hj:sps[j]? with
    |none=>
     rw [List.getElem?_eq_none_iff] at hj
     rw [List.getElem?_eq_none (by omega)]
     rfl
    |some y=>
     obtain ⟨ve',h⟩:=hinv2 j y hj
     rw [h]
     rfl
   dsimp only
   rw [h1,hsl',hT]
   have h2:a0C (⟨shs sh,fr,sl,sps.map (·.s),hand⟩:Ker) f=aT:=by rw [haT];rfl
   rw [h2,q8 hfm]
   cases aT <;> rfl
  ·show (SPS.map fun p=>(p.va,p.s.areas))=sps.map fun p=>(p.va,p.s.areas)
   refine List.ext_getElem? fun j=>?_
   rw [List.getElem?_map,List.getElem?_map]
   cases hj:sps[j]? with
   |none=>
    rw [List.getElem?_eq_none_iff] at hj
    rw [List.getElem?_eq_none (by omega)]
   |some y=>
    obtain ⟨ve',h⟩:=hinv2 j y hj
    rw [h]
    rfl
  ·exact hS.drop
 obtain ⟨x,hx0⟩:=l8 (l:=sps) (i:=i) (by omega)
 have hx:=(hinv i x hx0).1 (Nat.le_refl _)
 have hlx:=hlen x (List.mem_of_getElem? hx0)
 have hkx:=hkd x (List.mem_of_getElem? hx0)
 have hrowi:=j9 (f:=spC) hx
 obtain ⟨gs,rfl⟩:=hS.rowSome 5 rfl (by omega)
 obtain ⟨s,va,ve⟩:=x
 dsimp only at hlx hkx
 unfold spC at hrowi
 dsimp only at hrowi
 replace hS:=hS.pullE 6 hx rfl
 simp only [List.take_succ_cons,List.take_zero,k7] at hS
 unfold a0k at hS
 dsimp only at hS
 obtain ⟨pe,ce,rfl⟩:=hS.rowSlice 0 rfl
 simp only [List.length_map] at hS hx0 hx hrowi
 repeat' (first|(first|((with_reducible apply d6 c8);exact rfl;exact rfl)|((with_reducible apply d9);exact rfl;(((with_reducible apply Loads.sl c8);exact rfl;((exact hS.blkC 2 rfl rfl))));exact rfl)|((with_reducible apply p8 c8);(iterate 3 exact rfl);((exact rfl));((omega));exact rfl))|(first|(with_reducible first|apply d8|apply c9|apply d7|apply d5|apply g8|apply e7))|(((with_reducible apply k6);exact rfl;all_goals (intro hb hp;try (exfalso;omega))))|((with_reducible apply d9);exact rfl;(((with_reducible apply Loads.sl c8);exact rfl;(exact hS.rowCj 6 rfl hrowi rfl)));exact rfl))
 refine o6 (X:=Nat) (fun x=>[(73,.int .i64 (x:Nat))]) [0,1,4,58,59,6,7,72] rfl (fun x=>[.row 55 3 (.slice pe s.entries.length ce) ((((s.entries.take x).map (a0Z (f:Nat) a b))++s.entries.drop x).map enC)]) (fun x=>x≤s.entries.length) (fun x=>s.entries.length - x) 0 (by repeat (first|exact Fr.sub_nil _|(apply Fr.sub_cons;exact rfl))) (Nat.zero_le _) hS ?_
 clear hS
 rintro j w3 hj hS
 dsimp only [List.cons_append,List.nil_append] at hj hS ⊢
 by_cases hjl:j < s.entries.length
 ·obtain ⟨e,he⟩:=l8 (l:=s.entries) (i:=j) (by omega)
  have hrowj:=j9 (f:=enC) (b0v (f:=(f:Nat)) (a:=a) (b:=b) he)
  have hstep:=b0G (f:=(f:Nat)) (a:=a) (b:=b) he
  obtain ⟨ge,hge⟩:=hS.rowSome (p:=pe) (n:=s.entries.length) (cap:=ce) (sz:=3) 0 rfl (by omega)
  subst hge
  unfold enC at hrowj
  by_cases hk:e.kind=1∧e.at_=(f:Nat)
  ·have hd1:decide (e.kind=1)=true:=decide_eq_true hk.1
   have hd2:decide (e.at_=((f:Nat):Int))=true:=decide_eq_true hk.2
   have hm:a0Z (f:Nat) a b e=⟨e.page,a,b⟩:=by unfold a0Z;rw [if_pos hk]
   rw [hm] at hstep
   have hst:((((s.entries.take j).map (a0Z (f:Nat) a b))++s.entries.drop j).map enC).set j (t8 [.int .i64 e.page,.int .i64 e.kind,.int .i64 e.at_] 0 [.int .i64 e.page,.int .i64 a,.int .i64 b])=(((s.entries.take (j + 1)).map (a0Z (f:Nat) a b))++s.entries.drop (j + 1)).map enC:=by
    rw [← hstep,List.map_set]
    exact congrArg (List.set _ _) (a7n e ⟨e.page,a,b⟩)
   repeat' (first|(first|((with_reducible apply d6 c8);exact rfl;exact rfl)|((with_reducible apply d9);exact rfl;(((with_reducible apply Loads.sc c8);exact rfl;((exact hS.rowCj 0 rfl (by assumption) rfl))));exact rfl)|((with_reducible apply p8 c8);(iterate 3 exact rfl);((exact rfl));((omega));exact rfl)|(first|((with_reducible apply p9);(iterate 4 exact rfl);(assumption))|((with_reducible apply m9);exact rfl;((assumption));exact rfl;exact rfl)))|(first|(with_reducible first|apply d8|apply c9|apply d7|apply d5|apply g8|apply e7))|(first|((with_reducible apply k9);exact rfl;(assumption))|((with_reducible apply k6);exact rfl;all_goals (intro hb hp;try (exfalso;omega)))))
   (focus ((with_reducible apply a0X _ _ _ 13 (by kernel_rfl) (by kernel_rfl) hS);(simp only [List.take_succ_cons,List.take_zero,List.drop_succ_cons,List.drop_zero]);(repeat' ((first|((with_reducible apply o5 c8);exact rfl;exact rfl)|((with_reducible apply n6);exact rfl;(intro wd hd;replace hd:St _ _ wd _:=hd;(((with_reducible apply Loads.sc c8);exact rfl;(first|exact hd.blkC 1 rfl rfl|exact hd.rowC0 0 rfl (by assumption) rfl))));exact rfl)|((with_reducible apply a05 c8);(iterate 3 exact rfl);((exact rfl));((omega));exact rfl)|((with_reducible apply b0s c8);exact rfl;exact rfl;((exact (rfl:_=some [_,_,_])));exact rfl))));all_goals ((with_reducible apply r5);intro w' hS';clear hS;have hS:=hS';clear hS')))
   repeat' (first|(first|((with_reducible apply m0);exact rfl;exact rfl;omega;omega;exact rfl)|((with_reducible apply d6 c8);exact rfl;exact rfl))|(first|(with_reducible first|apply c9|apply d7|apply d5|apply k8))|((with_reducible apply a0p hS c8 (i:=0));(iterate 4 exact rfl);assumption;(iterate 5 exact rfl);intro w' hS';simp only [List.set] at hS';clear hS;have hS:=hS';clear hS'))
   rw [hst] at hS
   exact m6 (j + 1) (by repeat (first|exact Fr.sub_nil _|(apply Fr.sub_cons;exact rfl))) (by show j + 1≤s.entries.length;omega) hS (by show s.entries.length - (j + 1) < s.entries.length - j;omega)
  ·have hm:a0Z (f:Nat) a b e=e:=by unfold a0Z;rw [if_neg hk]
   rw [hm] at hstep
   have hst:((s.entries.take j).map (a0Z (f:Nat) a b))++s.entries.drop j=((s.entries.take (j + 1)).map (a0Z (f:Nat) a b))++s.entries.drop (j + 1):=by
    rw [← hstep]
    refine (List.ext_getElem? fun q=>?_).symm
    rw [List.getElem?_set]
    by_cases hq:j=q
    ·subst hq
     rw [if_pos rfl,b0v he,if_pos (by rw [b1N];omega)]
    ·rw [if_neg hq]
   by_cases hk1:e.kind=1
   ·have hd1:decide (e.kind=1)=true:=decide_eq_true hk1
    have hd2:decide (e.at_=((f:Nat):Int))=false:=decide_eq_false (fun h=>hk ⟨hk1,h⟩)
    repeat' (first|(first|((with_reducible apply m0);exact rfl;exact rfl;omega;omega;exact rfl)|((with_reducible apply d6 c8);exact rfl;exact rfl)|((with_reducible apply d9);exact rfl;(((with_reducible apply Loads.sc c8);exact rfl;((exact hS.rowCj 0 rfl (by assumption) rfl))));exact rfl)|((with_reducible apply p8 c8);(iterate 3 exact rfl);((exact rfl));((omega));exact rfl)|(first|((with_reducible apply p9);(iterate 4 exact rfl);(assumption))|((with_reducible apply m9);exact rfl;((assumption));exact rfl;exact rfl)))|(first|(with_reducible first|apply d8|apply c9|apply d7|apply d5|apply g8|apply e7|apply k8))|(first|((with_reducible apply l6);exact rfl;(assumption))|((with_reducible apply k6);exact rfl;all_goals (intro hb hp;try (exfalso;omega)))))
    rw [hst] at hS
    exact m6 (j + 1) (by repeat (first|exact Fr.sub_nil _|(apply Fr.sub_cons;exact rfl))) (by show j + 1≤s.entries.length;omega) hS (by show s.entries.length - (j + 1) < s.entries.length - j;omega)
   ·have hd1:decide (e.kind=1)=false:=decide_eq_false hk1
    repeat' (first|(first|((with_reducible apply m0);exact rfl;exact rfl;omega;omega;exact rfl)|((with_reducible apply d6 c8);exact rfl;exact rfl)|((with_reducible apply d9);exact rfl;(((with_reducible apply Loads.sc c8);exact rfl;((exact hS.rowCj 0 rfl (by assumption) rfl))));exact rfl)|((with_reducible apply p8 c8);(iterate 3 exact rfl);((exact rfl));((omega));exact rfl)|(first|((with_reducible apply a0f);(iterate 4 exact rfl);((assumption));exact rfl)|((with_reducible apply n0);exact rfl;((assumption));exact rfl;exact rfl)))|(first|(with_reducible first|apply d8|apply c9|apply d7|apply d5|apply g8|apply e7|apply k8))|(first|((with_reducible apply l6);exact rfl;(exact rfl))|((with_reducible apply k6);exact rfl;all_goals (intro hb hp;try (exfalso;omega)))))
    rw [hst] at hS
    exact m6 (j + 1) (by repeat (first|exact Fr.sub_nil _|(apply Fr.sub_cons;exact rfl))) (by show j + 1≤s.entries.length;omega) hS (by show s.entries.length - (j + 1) < s.entries.length - j;omega)
 ·obtain rfl:j=s.entries.length:=by omega
  rw [List.take_length,List.drop_length,List.append_nil] at hS
  repeat' (first|(((with_reducible apply d6 c8);exact rfl;exact rfl))|(first|(with_reducible first|apply d8|apply c9|apply d7|apply d5|apply n5|apply j4|apply i9))|(((with_reducible apply k6);exact rfl;all_goals (intro hb hp;try (exfalso;omega)))))
  replace hS:=hS.reorderT 3 [2,1,0] (by decide) rfl
  simp only [k7,List.drop_succ_cons,List.drop_zero] at hS
  refine a2D 2 10 11 rfl hS (by kernel_rfl) ?_
  intro w10 hS'
  clear hS;have hS:=hS';clear hS'
  simp only [List.take_succ_cons,List.take_zero]
  have hH:=hS.sub (List.sublist_append_left [_,_] _)
  ((with_reducible apply l4 0 c8);exact rfl;kernel_rfl;kernel_rfl;kernel_rfl;exact rfl;exact (fun _ _ _ h=>h);exact Or.inr hH;exact rfl;exact rfl)
  ((with_reducible apply l4 1 c8);exact rfl;kernel_rfl;kernel_rfl;kernel_rfl;exact rfl;exact (fun _ _ _ h=>h);exact Or.inr hH;exact rfl;exact rfl)
  ((with_reducible apply l4 2 c8);exact rfl;kernel_rfl;kernel_rfl;kernel_rfl;exact rfl;exact (fun _ _ _ h=>h);exact Or.inr hH;exact rfl;exact rfl)
  ((with_reducible apply l4 3 c8);exact rfl;kernel_rfl;kernel_rfl;kernel_rfl;exact rfl;exact (fun _ _ _ h=>h);exact Or.inr hH;exact rfl;exact rfl)
  ((with_reducible apply r7 4);exact rfl;kernel_rfl;kernel_rfl;kernel_rfl;kernel_rfl;exact rfl;exact rfl;exact (fun _ _ _ h=>h);exact hH;exact rfl;(intro w2 hw2;(replace hw2:St _ _ w2 _:=hw2;(((with_reducible apply Loads.sl c8);exact rfl;((exact hw2.blkC 0 rfl rfl))))));exact rfl)
  ((with_reducible apply l4 5 c8);exact rfl;kernel_rfl;kernel_rfl;kernel_rfl;exact rfl;exact (fun _ _ _ h=>h);exact Or.inr hH;exact rfl;exact rfl)
  ((with_reducible apply l4 6 c8);exact rfl;kernel_rfl;kernel_rfl;kernel_rfl;exact rfl;exact (fun _ _ _ h=>h);exact Or.inr hH;exact rfl;exact rfl)
  replace hS:=hS.reorderT 3 [2,0,1] (by decide) rfl
  simp only [k7,List.drop_succ_cons,List.drop_zero] at hS
  have hdel:=a72 (p:=fun e:En=>decide (e.kind=0)) (k:=99) (caps:=[]) (v:=.slice pe s.entries.length ce) (l:=s.entries.map (a0Z (f:Nat) a b)) hS (fun x _ w' Γ' _=>a9e x w')
  rw [a40 ht hkx] at hdel
  refine s7 (i:=7) (by kernel_rfl) ?_
  refine t5 rfl (a0o (first:=[]) (caps:=[]) rfl rfl hdel) rfl ?_
  rintro _ w' ⟨q,c,rfl,h2⟩
  replace hS:=St.transM (Θ:=[enA (.slice pe s.entries.length ce) (s.entries.map (a0Z (f:Nat) a b))]) hS h2
  dsimp only [List.cons_append,List.nil_append] at hS
  clear h2 hdel
  have hH:=hS.drop.sub (List.sublist_append_left [_,_] _)
  refine ⟨Or.inr (Or.inr hH),?_⟩
  ((with_reducible apply a2E 8);exact rfl;kernel_rfl;kernel_rfl;kernel_rfl;exact rfl;exact (fun _ _ _ h=>h);exact Or.inr hH;(intro a ha;exact a7T c8 (j:=i) rfl rfl rfl rfl (by omega) a ha _);exact rfl)
  ((with_reducible apply l4 9 c8);exact rfl;kernel_rfl;kernel_rfl;kernel_rfl;exact rfl;exact (fun _ _ _ h=>h);exact Or.inr hH;exact rfl;exact rfl)
  refine s7 (i:=10) (by kernel_rfl) ?_
  refine a0L (Φ:=fun _ w'=>St _ _ w' _) rfl (a2t hS c8 (i:=6) (kk:=i) (j:=2) rfl rfl rfl rfl rfl hrowi (a1I rfl) rfl (Nat.le_refl _) rfl) ?_
  intro _ w' hS'
  simp only [List.set,t8] at hS'
  clear hS;have hS:=hS';clear hS'
  refine ⟨Or.inl rfl,?_⟩
  refine a1a (by kernel_rfl) ?_
  have hsp1:(SPS.map spC).set i [.bool s.live,va,.slice q (s.entries.filterMap (x9 (f:Nat) T)).length c]=(SPS.set i ⟨a0m (f:Nat) T s,va,.slice q (s.entries.filterMap (x9 (f:Nat) T)).length c⟩).map spC:=by
   rw [List.map_set]
   rfl
  rw [hsp1] at hS
  replace hS:=St.pushE (y:=⟨a0m (f:Nat) T s,va,.slice q (s.entries.filterMap (x9 (f:Nat) T)).length c⟩) hS 6 hx rfl
  simp only [List.take_succ_cons,List.take_zero,k7] at hS
  replace hS:=hS.reorderT 2 [1,0] (by decide) rfl
  simp only [k7,List.drop_succ_cons,List.drop_zero] at hS
  repeat' (first|(first|((with_reducible apply m0);exact rfl;exact rfl;omega;omega;exact rfl)|((with_reducible apply d6 c8);exact rfl;exact rfl))|(first|(with_reducible first|apply c9|apply d7|apply d5|apply k8)))
  refine m6 (i + 1,SPS.set i ⟨a0m (f:Nat) T s,va,.slice q (s.entries.filterMap (x9 (f:Nat) T)).length c⟩) (by repeat (first|exact Fr.sub_nil _|(apply Fr.sub_cons;exact rfl))) ⟨by show i + 1≤sps.length;omega,by show (SPS.set i _).length=_;rw [List.length_set];exact hSl,fun j y hy=>?_⟩ (by rw [List.append_nil];exact hS) (by show sps.length - (i + 1) < sps.length - i;omega)
  obtain ⟨h1,h2⟩:=hinv j y hy
  refine ⟨fun h=>?_,fun h=>?_⟩
  ·show (SPS.set i _)[j]?=some y
   rw [List.getElem?_set_ne (by have:i + 1≤j:=h;omega)]
   exact h1 (by have:i + 1≤j:=h;omega)
  ·show ∃ ve',(SPS.set i _)[j]?=_
   by_cases hij:i=j
   ·subst hij
    rw [hx0] at hy
    cases hy
    exact ⟨_,a5r (by omega)⟩
   ·rw [List.getElem?_set_ne hij]
    exact h2 (by have:j < i + 1:=h;omega)
end Go.Proofs.Ytejnpppejalhfac
/- (*work).frame: a frame that is got. -/
namespace Go.Proofs.Ytejnpppejalhfac
open Go.RowKit Go.Sort
def b1C (i:Nat):List Value:=[.int .i64 (i:Nat)]
set_option maxRecDepth 100000 in
set_option maxHeartbeats 8000000 in
theorem a8p {l:List Nat} {w:World} {v:Value} (hL:Sl nF w 1 v (l.map b1C)) (x:Nat):Fn Try.prog 96 [v,.int .i64 (x:Nat)] w (RBf (.int .i64 (a2h (fun y:Nat=>decide (y=x)) l)) w):=by
 have bnd:=hL.bound
 obtain ⟨pp,c,rfl⟩:=hL.len
 refine j0 (fn:=Try.f96) ⟨Try.func96,by kernel_rfl,by kernel_rfl⟩ (by exact rfl) Try.ntmps96 (by exact rfl) ?_
 have hS:=St.start w
 repeat' (first|(((with_reducible apply d6 c8);exact rfl;exact rfl))|(first|(with_reducible first|apply d8|apply c9|apply d7|apply d5|apply e7)))
 refine o6 (X:=Nat) (fun x=>[(8,.int .i64 (x:Nat))]) [0,1,7] rfl (fun _=>[]) (fun i=>i≤l.length∧(l.take i).all (fun y=>!decide (y=x))=true) (fun x=>l.length - x) 0 (by repeat (first|exact Fr.sub_nil _|(apply Fr.sub_cons;exact rfl))) (by simp) hS ?_
 clear hS
 rintro i w1 ⟨hi,hall⟩ hS
 dsimp only [List.cons_append,List.nil_append] at hi hall hS ⊢
 by_cases hlt:i < l.length
 ·obtain ⟨y,hy⟩:=l8 (l:=l) (i:=i) (by omega)
  have hrow:=j9 (f:=b1C) hy
  obtain ⟨b,off,rfl,hro⟩:=hL.at_ (i:=i) hlt
  unfold b1C at hrow
  by_cases hxy:y=x
  ·have hd:decide ((x:Int)=(y:Int))=true:=decide_eq_true (by omega)
   rw [a2V hall hy (decide_eq_true hxy)]
   repeat' (first|(first|((with_reducible apply d6 c8);exact rfl;exact rfl)|((with_reducible apply d9);exact rfl;(((with_reducible apply Loads.sc c8);exact rfl;((exact hS.roC0 (by assumption) (by assumption) rfl))));exact rfl)|((with_reducible apply p8 c8);(iterate 3 exact rfl);((exact rfl));((omega));exact rfl))|(first|(with_reducible first|apply d8|apply c9|apply d7|apply d5|apply g8|apply e7|apply j5|apply e6|apply j8))|(first|((with_reducible apply k9);exact rfl;(assumption))|((with_reducible apply k6);exact rfl;all_goals (intro hb hp;try (exfalso;omega)))))
   (apply j6);(repeat (first|exact ResL.nil|(apply ResL.tmp;exact rfl)))
   exact ⟨rfl,hS.sub (List.nil_sublist _)⟩
  ·have hd:decide ((x:Int)=(y:Int))=false:=decide_eq_false (by omega)
   repeat' (first|(first|((with_reducible apply m0);exact rfl;exact rfl;omega;omega;exact rfl)|((with_reducible apply d6 c8);exact rfl;exact rfl)|((with_reducible apply d9);exact rfl;(((with_reducible apply Loads.sc c8);exact rfl;((exact hS.roC0 (by assumption) (by assumption) rfl))));exact rfl)|((with_reducible apply p8 c8);(iterate 3 exact rfl);((exact rfl));((omega));exact rfl))|(first|(with_reducible first|apply d8|apply c9|apply d7|apply d5|apply g8|apply e7|apply k8))|(first|((with_reducible apply l6);exact rfl;(assumption))|((with_reducible apply k6);exact rfl;all_goals (intro hb hp;try (exfalso;omega)))))
   exact m6 (i + 1) (by repeat (first|exact Fr.sub_nil _|(apply Fr.sub_cons;exact rfl))) ⟨by show i + 1≤_;omega,t0 hall hy (by simp [hxy])⟩ hS (by show _ - (i + 1) < _ - i;omega)
 ·rw [a2q hall (by omega)]
  repeat' (first|(((with_reducible apply d6 c8);exact rfl;exact rfl))|(first|(with_reducible first|apply d8|apply c9|apply d7|apply d5|apply n5|apply j5|apply j4|apply i9))|(((with_reducible apply k6);exact rfl;all_goals (intro hb hp;try (exfalso;omega)))))
  (apply j6);(repeat (first|exact ResL.nil|(apply ResL.tmp;exact rfl)))
  exact ⟨rfl,hS.sub (List.nil_sublist _)⟩
set_option maxRecDepth 100000 in
set_option maxHeartbeats 8000000 in
theorem a5W {l:List Nat} {w:World} {v:Value} (hL:Sl nF w 1 v (l.map b1C)) (x:Nat):Fn Try.prog 90 [v,.int .i64 (x:Nat)] w (RBf (.bool (decide (x ∈ l))) w):=by
 have hi:=fun w1 (h:Sl nF w1 1 v (l.map b1C))=>a8p h x
 have hd:decide (0≤a2h (fun y:Nat=>decide (y=x)) l)=decide (x ∈ l):=by
  rw [a8L,Bool.eq_iff_iff,List.any_eq_true,decide_eq_true_eq]
  constructor
  ·rintro ⟨y,hy,hyx⟩
   obtain rfl:y=x:=by simpa using hyx
   exact hy
  ·exact fun h=>⟨x,h,by simp⟩
 rw [← hd]
 obtain ⟨pp,c,rfl⟩:=hL.len
 refine j0 (fn:=Try.f90) ⟨Try.func90,by kernel_rfl,by kernel_rfl⟩ (by exact rfl) Try.ntmps90 (by exact rfl) ?_
 have hS:=St.start w
 repeat' (first|(((with_reducible apply d6 c8);exact rfl;exact rfl))|(first|(with_reducible first|apply d8|apply c9|apply d7|apply d5|apply j5))|((with_reducible apply e8);exact rfl;exact rfl;exact hi _ (hL.now hS);exact rfl;rintro _ w' ⟨rfl,hS'⟩;replace hS:=hS.transA hS';simp only [k7] at hS;clear hS'))
 (apply j6);(repeat (first|exact ResL.nil|(apply ResL.tmp;exact rfl)))
 exact ⟨rfl,hS.sub (List.nil_sublist _)⟩
structure a94 (k:KV) (held:List Nat):Prop where
 hand:0≤k.hand∧k.hand < k.fr.length
 nfr:3≤k.fr.length∧k.fr.length≤64
 held:held.length≤2
 free:a32 k.fr=none→∃ t,a19 k.sl=some t
 len:∀ x ∈ k.sp,x.s.entries.length≤1000
 kind:∀ x ∈ k.sp,∀ e ∈ x.s.entries,e.kind≠0
 sp:k.sp.length≤1000
set_option maxRecDepth 100000 in
set_option maxHeartbeats 8000000 in
theorem a4K {F:Nat→Prop} {w0 w:World} {Γ:List Asr} {g0:Nat} {k:KV} {sp:Nat} {vh:Value} {held:List Nat} (hS0:St F w0 w (wkS g0 k sp vh held++Γ)) (hA:a94 k held):Fn Try.prog 83 [.pointer (some ⟨g0,0,none⟩)] w (fun v w'=>v=.int .i64 ((a0D k.K held).2:Nat)∧∃ k',k'.K=(a0D k.K held).1∧KLike k k'∧St (fps (wkS g0 k sp vh held)) w w' (wkS g0 k' sp vh held)):=by
 have hS:=St.startM hS0
 have hA0:=hA
 obtain ⟨hhand,hnf,hheld,hfree,hlen,hkd,hspl⟩:=hA
 generalize fps (wkS g0 k sp vh held)=G at hS ⊢
 obtain ⟨sh,fr,sl,sps,hand,vsh,vfr,vsl,vsp⟩:=k
 dsimp only at hhand hnf hfree hlen hkd hspl
 unfold wkS wkB hdA frA slA a2n at hS
 dsimp only [List.cons_append,List.nil_append] at hS
 obtain ⟨pf,cf,rfl⟩:=hS.rowSlice 2 rfl
 simp only [List.length_map] at hS
 obtain ⟨gf,rfl⟩:=hS.rowSome 2 rfl (by omega)
 have hidx:=fun w1 (h:Sl nF w1 4 (.slice (some ⟨gf,0,none⟩) fr.length cf) (fr.map fmC))=>b2p (p:=fun s:Fm=>decide (s.refs=0)) (k:=89) (caps:=[]) h (fun x _ w' _=>a9i x w')
 unfold a0D
 cases hff:a32 (KV.K ⟨sh,fr,sl,sps,hand,vsh,.slice (some ⟨gf,0,none⟩) (fr.map fmC).length cf,vsl,vsp⟩).frames with
 |some i=>
  have hii:a2h (fun s:Fm=>decide (s.refs=0)) fr=((i:Nat):Int):=by
   unfold a2h
   replace hff:fr.findIdx? (fun s:Fm=>decide (s.refs=0))=some i:=hff
   rw [hff]
  rw [hii] at hidx
  refine j0 (fn:=Try.f83) ⟨Try.func83,by kernel_rfl,by kernel_rfl⟩ (by exact rfl) Try.ntmps83 (by exact rfl) ?_
  repeat' (first|(first|((with_reducible apply d6 c8);exact rfl;exact rfl)|((with_reducible apply d9);exact rfl;(((with_reducible apply Loads.sl c8);exact rfl;((exact hS.blkC 0 rfl rfl))));exact rfl))|(first|(with_reducible first|apply d8|apply c9|apply d7|apply d5|apply j5|apply e6))|(((with_reducible apply k9);exact rfl;(exact rfl)))|((with_reducible apply e8);exact rfl;exact rfl;exact hidx _ (hS.rowSl 2 rfl);exact rfl;rintro _ w' ⟨rfl,hS'⟩;replace hS:=hS.transA hS';simp only [k7] at hS;clear hS'))
  (apply j6);(repeat (first|exact ResL.nil|(apply ResL.tmp;exact rfl)))
  exact ⟨rfl,_,rfl,KLike.refl _,by unfold wkS wkB hdA frA slA a2n;dsimp only;rw [List.length_map];exact hS⟩
 |none=>
  have hii:a2h (fun s:Fm=>decide (s.refs=0)) fr=-1:=by
   unfold a2h
   replace hff:fr.findIdx? (fun s:Fm=>decide (s.refs=0))=none:=hff
   rw [hff]
  rw [hii] at hidx
  dsimp only
  refine j0 (fn:=Try.f83) ⟨Try.func83,by kernel_rfl,by kernel_rfl⟩ (by exact rfl) Try.ntmps83 (by exact rfl) ?_
  repeat' (first|(first|((with_reducible apply d6 c8);exact rfl;exact rfl)|((with_reducible apply d9);exact rfl;(((with_reducible apply Loads.sl c8);exact rfl;((exact hS.blkC 0 rfl rfl))));exact rfl))|(first|(with_reducible first|apply d8|apply c9|apply d7|apply d5|apply g8|apply e7))|(((with_reducible apply l6);exact rfl;(exact rfl)))|((with_reducible apply e8);exact rfl;exact rfl;exact hidx _ (hS.rowSl 2 rfl);exact rfl;rintro _ w' ⟨rfl,hS'⟩;replace hS:=hS.transA hS';simp only [k7] at hS;clear hS'))
  obtain ⟨h0,rfl⟩:∃ h0:Nat,hand=(h0:Nat):=⟨hand.toNat,by omega⟩
  have hclk:a0j (KV.K ⟨sh,fr,sl,sps,((h0:Nat):Int),vsh,.slice (some ⟨gf,0,none⟩) (fr.map fmC).length cf,vsl,vsp⟩) held=a0E 5000 fr h0 held:=rfl
  rw [hclk]
  generalize hRR:a0E 5000 fr h0 held=R
  refine o6 (F:=G) (w0:=w) (X:=Nat×List Fm×Nat) (fun _=>[]) [0] rfl (fun x=>[.blk g0 [vsh,.slice (some ⟨gf,0,none⟩) fr.length cf,vsl,vsp,.int .i64 (x.2.2:Nat),.int .i64 (sp:Nat),vh],.row 3 1 vh (held.map fun i=>[.int .i64 (i:Nat)]),.row 43 4 (.slice (some ⟨gf,0,none⟩) fr.length cf) (x.2.1.map fmC)]) (fun x=>a0E x.1 x.2.1 x.2.2 held=R∧a1d x.2.1 x.2.2 held < x.1∧x.2.2 < fr.length∧x.2.1.length=fr.length) (fun x=>x.1) (5000,fr,h0) (by repeat ((exact Fr.sub_nil _))) ⟨hRR,a65 hnf.2 _ _,by show h0 < fr.length;omega,rfl⟩ hS ?_
  clear hS hidx
  rintro ⟨n,fr',h⟩ w1 ⟨hcl,hm,hh,hfl⟩ hS
  dsimp only [List.cons_append,List.nil_append] at hcl hm hh hfl hS ⊢
  obtain ⟨m,rfl⟩:∃ m,n=m + 1:=⟨n - 1,by omega⟩
  have hcon:=fun w1 (h':Sl nF w1 1 vh (held.map b1C))=>a5W h' h
  obtain ⟨fm,hfm⟩:=l8 (l:=fr') (i:=h) (by omega)
  have hrow:=j9 (f:=fmC) hfm
  unfold fmC at hrow
  unfold a0E at hcl
  obtain ⟨pn,cn,hvn⟩:=hS.rowSlice 1 rfl
  by_cases hhl:h ∈ held
  ·rw [if_pos hhl] at hcl
   rw [decide_eq_true hhl] at hcon
   have hdd:=a53 (n:=fr'.length) (by omega) (by omega) hheld hhl
   by_cases hn:h + 1=fr.length
   ·have hd:decide (((h:Nat):Int) + 1=((fr.length:Nat):Int))=true:=decide_eq_true (by omega)
    have hnx:a0d fr'.length h=0:=by unfold a0d;rw [hfl,if_pos hn]
    rw [hnx] at hcl hdd
    repeat' (first|(first|((with_reducible apply m0);exact rfl;exact rfl;omega;omega;exact rfl)|((with_reducible apply d6 c8);exact rfl;exact rfl)|((with_reducible apply d9);exact rfl;(((with_reducible apply Loads.sc c8);exact rfl;((exact hS.blkC 0 rfl rfl))));exact rfl)|(((with_reducible apply i7 hS c8 (i:=0));(iterate 8 exact rfl);((exact (rfl:_=[_,_,_,_,_,_,_])));intro w' hS';simp only [List.set] at hS';clear hS;have hS:=hS';clear hS')))|(first|(with_reducible first|apply d8|apply c9|apply d7|apply d5|apply e7)))
    (focus ((with_reducible apply m7 _ _ _ (by kernel_rfl) (by kernel_rfl) hS);(repeat' ((first|((with_reducible apply o5 c8);exact rfl;exact rfl)|((with_reducible apply n6);exact rfl;(intro wd hd;replace hd:St _ _ wd _:=hd;(first|((with_reducible apply Loads.sc c8);exact rfl;((exact hd.blkC 0 rfl rfl)))|((with_reducible apply Loads.sl c8);exact rfl;((exact hd.blkC 0 rfl rfl)))));exact rfl))));all_goals ((with_reducible apply r5);intro w' hS';clear hS;have hS:=hS';clear hS')))
    repeat' (first|(first|((with_reducible apply d6 c8);exact rfl;exact rfl)|((with_reducible apply d9);exact rfl;(((with_reducible apply Loads.sl c8);exact rfl;((exact hS.blkC 0 rfl rfl))));exact rfl)|(((with_reducible apply i7 hS c8 (i:=0));(iterate 8 exact rfl);((exact (rfl:_=[_,_,_,_,_,_,_])));intro w' hS';simp only [List.set] at hS';clear hS;have hS:=hS';clear hS')))|(first|(with_reducible first|apply d8|apply c9|apply d7|apply d5|apply g8|apply e7|apply k8))|(((with_reducible apply k9);exact rfl;first|exact rfl|assumption))|((with_reducible apply e8);exact rfl;exact rfl;exact hcon _ (hS.rowSl 1 rfl);exact rfl;rintro _ w' ⟨rfl,hS'⟩;replace hS:=hS.transA hS';simp only [k7] at hS;clear hS'))
    exact m6 (m,fr',0) (by repeat (first|exact Fr.sub_nil _|(apply Fr.sub_cons;exact rfl))) ⟨hcl,by show a1d fr' 0 held < m;unfold a1d at hm ⊢;omega,by show 0 < fr.length;omega,hfl⟩ hS (by show m < m + 1;omega)
   ·have hd:decide (((h:Nat):Int) + 1=((fr.length:Nat):Int))=false:=decide_eq_false (by omega)
    have hnx:a0d fr'.length h=h + 1:=by unfold a0d;rw [hfl,if_neg hn]
    rw [hnx] at hcl hdd
    repeat' (first|(first|((with_reducible apply m0);exact rfl;exact rfl;omega;omega;exact rfl)|((with_reducible apply d6 c8);exact rfl;exact rfl)|((with_reducible apply d9);exact rfl;(((with_reducible apply Loads.sc c8);exact rfl;((exact hS.blkC 0 rfl rfl))));exact rfl)|(((with_reducible apply i7 hS c8 (i:=0));(iterate 8 exact rfl);((exact (rfl:_=[_,_,_,_,_,_,_])));intro w' hS';simp only [List.set] at hS';clear hS;have hS:=hS';clear hS')))|(first|(with_reducible first|apply d8|apply c9|apply d7|apply d5|apply e7)))
    (focus ((with_reducible apply m7 _ _ _ (by kernel_rfl) (by kernel_rfl) hS);(repeat' ((first|((with_reducible apply o5 c8);exact rfl;exact rfl)|((with_reducible apply n6);exact rfl;(intro wd hd;replace hd:St _ _ wd _:=hd;(first|((with_reducible apply Loads.sc c8);exact rfl;((exact hd.blkC 0 rfl rfl)))|((with_reducible apply Loads.sl c8);exact rfl;((exact hd.blkC 0 rfl rfl)))));exact rfl))));all_goals ((with_reducible apply r5);intro w' hS';clear hS;have hS:=hS';clear hS')))
    repeat' (first|(first|((with_reducible apply d6 c8);exact rfl;exact rfl)|((with_reducible apply d9);exact rfl;(((with_reducible apply Loads.sl c8);exact rfl;((exact hS.blkC 0 rfl rfl))));exact rfl))|(first|(with_reducible first|apply d8|apply c9|apply d7|apply d5|apply g8|apply e7|apply k8))|(first|((with_reducible apply k9);exact rfl;(exact rfl))|((with_reducible apply l6);exact rfl;(assumption)))|((with_reducible apply e8);exact rfl;exact rfl;exact hcon _ (hS.rowSl 1 rfl);exact rfl;rintro _ w' ⟨rfl,hS'⟩;replace hS:=hS.transA hS';simp only [k7] at hS;clear hS'))
    exact m6 (m,fr',h + 1) (by repeat (first|exact Fr.sub_nil _|(apply Fr.sub_cons;exact rfl))) ⟨hcl,by show a1d fr' (h + 1) held < m;unfold a1d at hm ⊢;omega,by show h + 1 < fr.length;omega,hfl⟩ hS (by show m < m + 1;omega)
  ·rw [if_neg hhl,q8 hfm] at hcl
   rw [decide_eq_false hhl] at hcon
   have hdd:=a36 fr'.length 0 held
   have hdd1:=a36 fr'.length (h + 1) held
   by_cases hsn:fm.seen=true
   ·rw [if_pos hsn] at hcl
    have hse:=a4H (x:=⟨fm.data,fm.refs,fm.dirty,false⟩) hfm hsn rfl
    rw [hsn] at hrow
    have hst:(fr'.map fmC).set h (t8 [.string ⟨fm.data.toArray⟩,.int .i64 fm.refs,.bool fm.dirty,.bool true] 3 [.bool false])=(fr'.set h ⟨fm.data,fm.refs,fm.dirty,false⟩).map fmC:=by
     rw [List.map_set]
     rfl
    by_cases hn:h + 1=fr.length
    ·have hd:decide (((h:Nat):Int) + 1=((fr.length:Nat):Int))=true:=decide_eq_true (by omega)
     have hnx:a0d fr'.length h=0:=by unfold a0d;rw [hfl,if_pos hn]
     rw [hnx] at hcl
     repeat' (first|(first|((with_reducible apply m0);exact rfl;exact rfl;omega;omega;exact rfl)|((with_reducible apply d6 c8);exact rfl;exact rfl)|((with_reducible apply d9);exact rfl;(((with_reducible apply Loads.sc c8);exact rfl;((exact hS.blkC 0 rfl rfl))));exact rfl)|(((with_reducible apply i7 hS c8 (i:=0));(iterate 8 exact rfl);((exact (rfl:_=[_,_,_,_,_,_,_])));intro w' hS';simp only [List.set] at hS';clear hS;have hS:=hS';clear hS')))|(first|(with_reducible first|apply d8|apply c9|apply d7|apply d5|apply e7)))
     (focus ((with_reducible apply m7 _ _ _ (by kernel_rfl) (by kernel_rfl) hS);(repeat' ((first|((with_reducible apply o5 c8);exact rfl;exact rfl)|((with_reducible apply n6);exact rfl;(intro wd hd;replace hd:St _ _ wd _:=hd;(first|((with_reducible apply Loads.sc c8);exact rfl;((exact hd.blkC 0 rfl rfl)))|((with_reducible apply Loads.sl c8);exact rfl;((exact hd.blkC 0 rfl rfl)))));exact rfl))));all_goals ((with_reducible apply r5);intro w' hS';clear hS;have hS:=hS';clear hS')))
     repeat' (first|(first|((with_reducible apply d6 c8);exact rfl;exact rfl)|((with_reducible apply d9);exact rfl;(first|((with_reducible apply Loads.sc c8);exact rfl;((exact hS.rowCj 2 rfl (by assumption) rfl)))|((with_reducible apply Loads.sl c8);exact rfl;((exact hS.blkC 0 rfl rfl))));exact rfl)|((with_reducible apply p8 c8);(iterate 3 exact rfl);((exact rfl));((omega));exact rfl)|(((with_reducible apply i7 hS c8 (i:=0));(iterate 8 exact rfl);((exact (rfl:_=[_,_,_,_,_,_,_])));intro w' hS';simp only [List.set] at hS';clear hS;have hS:=hS';clear hS')))|(first|(with_reducible first|apply d8|apply c9|apply d7|apply d5|apply e7|apply k8))|(first|((with_reducible apply k9);exact rfl;first|exact rfl|assumption)|((with_reducible apply l6);exact rfl;(exact rfl)))|((with_reducible apply e8);exact rfl;exact rfl;exact hcon _ (hS.rowSl 1 rfl);exact rfl;rintro _ w' ⟨rfl,hS'⟩;replace hS:=hS.transA hS';simp only [k7] at hS;clear hS')|((with_reducible apply a0i hS c8 (i:=2));(iterate 4 exact rfl);assumption;(iterate 5 exact rfl);intro w' hS';simp only [List.set] at hS';clear hS;have hS:=hS';clear hS'))
     rw [hst] at hS
     exact m6 (m,fr'.set h ⟨fm.data,fm.refs,fm.dirty,false⟩,0) (by repeat (first|exact Fr.sub_nil _|(apply Fr.sub_cons;exact rfl))) ⟨hcl,by show a1d (fr'.set h ⟨fm.data,fm.refs,fm.dirty,false⟩) (0) held < m;unfold a1d at hm ⊢;rw [List.length_set];omega,by show 0 < fr.length;omega,by show (fr'.set h _).length=_;rw [List.length_set];exact hfl⟩ hS (by show m < m + 1;omega)
    ·have hd:decide (((h:Nat):Int) + 1=((fr.length:Nat):Int))=false:=decide_eq_false (by omega)
     have hnx:a0d fr'.length h=h + 1:=by unfold a0d;rw [hfl,if_neg hn]
     rw [hnx] at hcl
     repeat' (first|(first|((with_reducible apply m0);exact rfl;exact rfl;omega;omega;exact rfl)|((with_reducible apply d6 c8);exact rfl;exact rfl)|((with_reducible apply d9);exact rfl;(((with_reducible apply Loads.sc c8);exact rfl;((exact hS.blkC 0 rfl rfl))));exact rfl)|(((with_reducible apply i7 hS c8 (i:=0));(iterate 8 exact rfl);((exact (rfl:_=[_,_,_,_,_,_,_])));intro w' hS';simp only [List.set] at hS';clear hS;have hS:=hS';clear hS')))|(first|(with_reducible first|apply d8|apply c9|apply d7|apply d5|apply e7)))
     (focus ((with_reducible apply m7 _ _ _ (by kernel_rfl) (by kernel_rfl) hS);(repeat' ((first|((with_reducible apply o5 c8);exact rfl;exact rfl)|((with_reducible apply n6);exact rfl;(intro wd hd;replace hd:St _ _ wd _:=hd;(first|((with_reducible apply Loads.sc c8);exact rfl;((exact hd.blkC 0 rfl rfl)))|((with_reducible apply Loads.sl c8);exact rfl;((exact hd.blkC 0 rfl rfl)))));exact rfl))));all_goals ((with_reducible apply r5);intro w' hS';clear hS;have hS:=hS';clear hS')))
     repeat' (first|(first|((with_reducible apply d6 c8);exact rfl;exact rfl)|((with_reducible apply d9);exact rfl;(first|((with_reducible apply Loads.sc c8);exact rfl;((exact hS.rowCj 2 rfl (by assumption) rfl)))|((with_reducible apply Loads.sl c8);exact rfl;((exact hS.blkC 0 rfl rfl))));exact rfl)|((with_reducible apply p8 c8);(iterate 3 exact rfl);((exact rfl));((omega));exact rfl))|(first|(with_reducible first|apply d8|apply c9|apply d7|apply d5|apply g8|apply e7|apply k8))|(first|((with_reducible apply k9);exact rfl;(exact rfl))|((with_reducible apply l6);exact rfl;first|exact rfl|assumption))|((with_reducible apply e8);exact rfl;exact rfl;exact hcon _ (hS.rowSl 1 rfl);exact rfl;rintro _ w' ⟨rfl,hS'⟩;replace hS:=hS.transA hS';simp only [k7] at hS;clear hS')|((with_reducible apply a0i hS c8 (i:=2));(iterate 4 exact rfl);assumption;(iterate 5 exact rfl);intro w' hS';simp only [List.set] at hS';clear hS;have hS:=hS';clear hS'))
     rw [hst] at hS
     exact m6 (m,fr'.set h ⟨fm.data,fm.refs,fm.dirty,false⟩,h + 1) (by repeat (first|exact Fr.sub_nil _|(apply Fr.sub_cons;exact rfl))) ⟨hcl,by show a1d (fr'.set h ⟨fm.data,fm.refs,fm.dirty,false⟩) (h + 1) held < m;unfold a1d at hm ⊢;rw [List.length_set];omega,by show h + 1 < fr.length;omega,by show (fr'.set h _).length=_;rw [List.length_set];exact hfl⟩ hS (by show m < m + 1;omega)
   ·rw [if_neg hsn] at hcl
    have hsf:fm.seen=false:=by simpa using hsn
    rw [hsf] at hrow
    by_cases hn:h + 1=fr.length
    ·have hd:decide (((h:Nat):Int) + 1=((fr.length:Nat):Int))=true:=decide_eq_true (by omega)
     have hnx:a0d fr'.length h=0:=by unfold a0d;rw [hfl,if_pos hn]
     rw [hnx] at hcl
     repeat' (first|(first|((with_reducible apply m0);exact rfl;exact rfl;omega;omega;exact rfl)|((with_reducible apply d6 c8);exact rfl;exact rfl)|((with_reducible apply d9);exact rfl;(((with_reducible apply Loads.sc c8);exact rfl;((exact hS.blkC 0 rfl rfl))));exact rfl)|(((with_reducible apply i7 hS c8 (i:=0));(iterate 8 exact rfl);((exact (rfl:_=[_,_,_,_,_,_,_])));intro w' hS';simp only [List.set] at hS';clear hS;have hS:=hS';clear hS')))|(first|(with_reducible first|apply d8|apply c9|apply d7|apply d5|apply e7)))
     (focus ((with_reducible apply m7 _ _ _ (by kernel_rfl) (by kernel_rfl) hS);(repeat' ((first|((with_reducible apply o5 c8);exact rfl;exact rfl)|((with_reducible apply n6);exact rfl;(intro wd hd;replace hd:St _ _ wd _:=hd;(first|((with_reducible apply Loads.sc c8);exact rfl;((exact hd.blkC 0 rfl rfl)))|((with_reducible apply Loads.sl c8);exact rfl;((exact hd.blkC 0 rfl rfl)))));exact rfl))));all_goals ((with_reducible apply r5);intro w' hS';clear hS;have hS:=hS';clear hS')))
     have hall:=fun w2 (h':St G w w2 (wkS g0 ⟨sh,fr',sl,sps,((0:Nat):Int),vsh,.slice (some ⟨gf,0,none⟩) fr.length cf,vsl,vsp⟩ sp vh held))=>a62 (Γ:=[]) (by rw [List.append_nil];exact h') (f:=h) ⟨by show h < fr'.length;omega,fun _=>hfree hff,hlen,hkd,hspl⟩
     repeat' (first|(first|((with_reducible apply d6 c8);exact rfl;exact rfl)|((with_reducible apply d9);exact rfl;(first|((with_reducible apply Loads.sc c8);exact rfl;((exact hS.rowCj 2 rfl (by assumption) rfl)))|((with_reducible apply Loads.sl c8);exact rfl;((exact hS.blkC 0 rfl rfl))));exact rfl)|((with_reducible apply p8 c8);(iterate 3 exact rfl);((exact rfl));((omega));exact rfl)|(((with_reducible apply i7 hS c8 (i:=0));(iterate 8 exact rfl);((exact (rfl:_=[_,_,_,_,_,_,_])));intro w' hS';simp only [List.set] at hS';clear hS;have hS:=hS';clear hS')))|(first|(with_reducible first|apply d8|apply c9|apply d7|apply d5|apply e7|apply j5|apply e6|apply j8))|(first|((with_reducible apply k9);exact rfl;(assumption))|((with_reducible apply l6);exact rfl;(exact rfl)))|((with_reducible apply e8);exact rfl;exact rfl;exact hcon _ (hS.rowSl 1 rfl);exact rfl;rintro _ w' ⟨rfl,hS'⟩;replace hS:=hS.transA hS';simp only [k7] at hS;clear hS')|((with_reducible apply e8);exact rfl;exact rfl;exact hall _ hS;exact rfl;rintro _ w2 ⟨rfl,k',hk1,hk2,h2⟩))
     (apply j6);(repeat (first|exact ResL.nil|(apply ResL.tmp;exact rfl)))
     replace hS:=St.transM (Γ:=[]) (by rw [List.append_nil];exact hS) h2
     rw [List.append_nil] at hS
     rw [← hcl]
     dsimp only
     refine ⟨rfl,k',?_,?_,hS⟩
     ·rw [hk1]
      rfl
     ·exact ⟨hk2.sh,hk2.vsh,hk2.ar⟩
    ·have hd:decide (((h:Nat):Int) + 1=((fr.length:Nat):Int))=false:=decide_eq_false (by omega)
     have hnx:a0d fr'.length h=h + 1:=by unfold a0d;rw [hfl,if_neg hn]
     rw [hnx] at hcl
     repeat' (first|(first|((with_reducible apply m0);exact rfl;exact rfl;omega;omega;exact rfl)|((with_reducible apply d6 c8);exact rfl;exact rfl)|((with_reducible apply d9);exact rfl;(((with_reducible apply Loads.sc c8);exact rfl;((exact hS.blkC 0 rfl rfl))));exact rfl)|(((with_reducible apply i7 hS c8 (i:=0));(iterate 8 exact rfl);((exact (rfl:_=[_,_,_,_,_,_,_])));intro w' hS';simp only [List.set] at hS';clear hS;have hS:=hS';clear hS')))|(first|(with_reducible first|apply d8|apply c9|apply d7|apply d5|apply e7)))
     (focus ((with_reducible apply m7 _ _ _ (by kernel_rfl) (by kernel_rfl) hS);(repeat' ((first|((with_reducible apply o5 c8);exact rfl;exact rfl)|((with_reducible apply n6);exact rfl;(intro wd hd;replace hd:St _ _ wd _:=hd;(first|((with_reducible apply Loads.sc c8);exact rfl;((exact hd.blkC 0 rfl rfl)))|((with_reducible apply Loads.sl c8);exact rfl;((exact hd.blkC 0 rfl rfl)))));exact rfl))));all_goals ((with_reducible apply r5);intro w' hS';clear hS;have hS:=hS';clear hS')))
     have hall:=fun w2 (h':St G w w2 (wkS g0 ⟨sh,fr',sl,sps,((h + 1:Nat):Int),vsh,.slice (some ⟨gf,0,none⟩) fr.length cf,vsl,vsp⟩ sp vh held))=>a62 (Γ:=[]) (by rw [List.append_nil];exact h') (f:=h) ⟨by show h < fr'.length;omega,fun _=>hfree hff,hlen,hkd,hspl⟩
     repeat' (first|(first|((with_reducible apply d6 c8);exact rfl;exact rfl)|((with_reducible apply d9);exact rfl;(first|((with_reducible apply Loads.sc c8);exact rfl;((exact hS.rowCj 2 rfl (by assumption) rfl)))|((with_reducible apply Loads.sl c8);exact rfl;((exact hS.blkC 0 rfl rfl))));exact rfl)|((with_reducible apply p8 c8);(iterate 3 exact rfl);((exact rfl));((omega));exact rfl))|(first|(with_reducible first|apply d8|apply c9|apply d7|apply d5|apply g8|apply e7|apply j5|apply e6|apply j8))|(((with_reducible apply l6);exact rfl;first|exact rfl|assumption))|((with_reducible apply e8);exact rfl;exact rfl;exact hcon _ (hS.rowSl 1 rfl);exact rfl;rintro _ w' ⟨rfl,hS'⟩;replace hS:=hS.transA hS';simp only [k7] at hS;clear hS')|((with_reducible apply e8);exact rfl;exact rfl;exact hall _ hS;exact rfl;rintro _ w2 ⟨rfl,k',hk1,hk2,h2⟩))
     (apply j6);(repeat (first|exact ResL.nil|(apply ResL.tmp;exact rfl)))
     replace hS:=St.transM (Γ:=[]) (by rw [List.append_nil];exact hS) h2
     rw [List.append_nil] at hS
     rw [← hcl]
     dsimp only
     refine ⟨rfl,k',?_,?_,hS⟩
     ·rw [hk1]
      rfl
     ·exact ⟨hk2.sh,hk2.vsh,hk2.ar⟩
end Go.Proofs.Ytejnpppejalhfac
/- Bytes that are reached, loaded and stored. -/
namespace Go.Proofs.Ytejnpppejalhfac
open Go.RowKit Go.Sort
def Pres (K:Ker) (sp:Nat) (write:Bool) (p:Int):Prop:=∃ f:Nat,o0 (l5 K sp) p=some ⟨p,1,(f:Nat)⟩∧(write=true→(l7 K.frames f).refs=1∧(l7 K.frames f).dirty=true)
theorem a4G {K:Ker} (h:Right K) {sp:Nat} {addr size:Int} (h0:0≤addr) (h1:1≤size) (h2:size≤8) (ha:∀ i,0≤i→i < size→At K sp ((addr + i) / 16)) (write:Bool) :
  Right (a1i K sp addr size write)∧SameP K (a1i K sp addr size write)∧∀ i,0≤i→i < size→Pres (a1i K sp addr size write) sp write ((addr + i) / 16):=by
 have ha1:=ha 0 (by omega) (by omega)
 rw [Int.add_zero] at ha1
 have ha2:=ha (size - 1) (by omega) (by omega)
 rw [show addr + (size - 1)=addr + size - 1 by omega] at ha2
 obtain ⟨b,hb⟩:=a4I h ha1 write (held:=[]) (by simp) (by simp)
 unfold a1i
 generalize a0O K sp (addr / 16) write []=B at b hb ⊢
 by_cases hp:(addr + size - 1) / 16=addr / 16
 ·rw [if_pos hp]
  refine ⟨b.right,b.same,fun i hi1 hi2=>⟨B.2,?_,hb⟩⟩
  rw [show (addr + i) / 16=addr / 16 by omega]
  exact b.ent
 ·rw [if_neg hp]
  obtain ⟨c,hc⟩:=a4I b.right (ha2.same b.same.ar b.same.live) write (held:=[B.2]) (by simp) (fun i hi=>by
   rw [List.mem_singleton] at hi
   subst hi
   exact ⟨addr / 16,by omega,b.ent⟩)
  generalize a0O B.1 sp ((addr + size - 1) / 16) write [B.2]=C at c hc ⊢
  have hk:=c.kept B.2 (by simp) (addr / 16) (by omega) b.ent
  refine ⟨c.right,b.same.trans c.same,fun i hi1 hi2=>?_⟩
  by_cases e:(addr + i) / 16=addr / 16
  ·rw [e]
   exact ⟨B.2,hk.1,fun hw=>by rw [hk.2];exact hb hw⟩
  ·rw [show (addr + i) / 16=(addr + size - 1) / 16 by omega]
   exact ⟨C.2,c.ent,hc⟩
def a1E (K:Ker) (sp:Nat) (a:Int) (c:UInt8):Ker:=match o0 (l5 K sp) (a / 16) with
 |some e=>z7 K e.at_.toNat ⟨(l7 K.frames e.at_.toNat).data.set (a % 16).toNat c,(l7 K.frames e.at_.toNat).refs,(l7 K.frames e.at_.toNat).dirty,(l7 K.frames e.at_.toNat).seen⟩
 |none=>K
def a0u (K:Ker) (sp:Nat) (addr:Int) (s:List UInt8):Nat→Ker
 |0=>K
 |n + 1=>a1E (a0u K sp addr s n) sp (addr + (n:Nat)) (s.getD n 0)
def a2T (K:Ker) (sp:Nat) (addr:Int) (n:Nat):List UInt8:=(List.range n).map fun i=>(t7 K sp ((addr + (i:Nat)) / 16)).getD ((addr + (i:Nat)) % 16).toNat 0
theorem b5H {K:Ker} (h:Right K) {sp sp':Nat} {p q:Int} {f:Nat} (h1:o0 (l5 K sp) p=some ⟨p,1,(f:Nat)⟩) (hr:(l7 K.frames f).refs=1) (h2:o0 (l5 K sp') q=some ⟨q,1,(f:Nat)⟩):sp'=sp∧q=p:=by
 have hpq:=a4o h h1 h2
 subst hpq
 refine ⟨?_,rfl⟩
 apply Classical.byContradiction
 intro hne
 obtain ⟨hfl,-,-⟩:=a12 h h1
 obtain ⟨-,-,s,hs,hm⟩:=a2Q h h1
 obtain ⟨-,-,s',hs',hm'⟩:=a2Q h h2
 have ho:=(h.fr f _ (List.getElem?_eq_getElem hfl)).refs
 rw [q8 (List.getElem?_eq_getElem hfl)] at hr
 have hp:=((a04 (s':=s) hs 1 (f:Nat)).2).length_eq
 rw [List.length_append] at hp
 have n1:a0H s ⟨p,1,(f:Nat)⟩ ∈ nm1 s 1 (f:Nat):=List.mem_map.2 ⟨_,List.mem_filter.2 ⟨hm,by simp⟩,rfl⟩
 have n2:a0H s' ⟨p,1,(f:Nat)⟩ ∈ m8 (K.spaces.eraseIdx sp) 1 (f:Nat):=by
  rw [a0a,List.mem_flatMap]
  exact ⟨s',List.mem_eraseIdx_iff_getElem?.2 ⟨sp',hne,hs'⟩,List.mem_map.2 ⟨_,List.mem_filter.2 ⟨hm',by simp⟩,rfl⟩⟩
 have l1:=List.length_pos_of_mem n1
 have l2:=List.length_pos_of_mem n2
 omega
structure b5h (K K':Ker) (sp:Nat) (a:Int) (c:UInt8):Prop where
 right:Right K'
 sheets:K'.sheets=K.sheets
 spaces:K'.spaces=K.spaces
 slots:K'.slots=K.slots
 hand:K'.hand=K.hand
 nfr:K'.frames.length=K.frames.length
 refs:∀ i,(l7 K'.frames i).refs=(l7 K.frames i).refs∧(l7 K'.frames i).dirty=(l7 K.frames i).dirty
 peek:∀ i q,t7 K' i q=if i=sp∧q=a / 16 then (t7 K i q).set (a % 16).toNat c else t7 K i q
theorem b1a {K:Ker} (h:Right K) {sp:Nat} {a:Int} (hp:Pres K sp true (a / 16)) (c:UInt8):b5h K (a1E K sp a c) sp a c:=by
 obtain ⟨f,he,hw⟩:=hp
 obtain ⟨hr,hd⟩:=hw rfl
 obtain ⟨hfl,-,hlen⟩:=a12 h he
 unfold a1E
 rw [he]
 show b5h K (z7 K f ⟨(l7 K.frames f).data.set (a % 16).toNat c,(l7 K.frames f).refs,(l7 K.frames f).dirty,(l7 K.frames f).seen⟩) sp a c
 have hset:∀ j,l7 (z7 K f ⟨(l7 K.frames f).data.set (a % 16).toNat c,(l7 K.frames f).refs,(l7 K.frames f).dirty,(l7 K.frames f).seen⟩).frames j=if j=f then ⟨(l7 K.frames f).data.set (a % 16).toNat c,(l7 K.frames f).refs,(l7 K.frames f).dirty,(l7 K.frames f).seen⟩ else l7 K.frames j:=fun j=>by
  unfold z7
  dsimp only
  rw [a1w]
  by_cases e:f=j
  ·subst e;rw [if_pos ⟨rfl,hfl⟩,if_pos rfl]
  ·rw [if_neg (fun hh=>e hh.1),if_neg (fun hh=>e hh.symm)]
 generalize hKe:z7 K f ⟨(l7 K.frames f).data.set (a % 16).toNat c,(l7 K.frames f).refs,(l7 K.frames f).dirty,(l7 K.frames f).seen⟩=K' at hset
 have e1:K'.sheets=K.sheets:=by rw [← hKe];rfl
 have e2:K'.spaces=K.spaces:=by rw [← hKe];rfl
 have e3:K'.slots=K.slots:=by rw [← hKe];rfl
 have e4:K'.hand=K.hand:=by rw [← hKe];rfl
 have e5:K'.frames.length=K.frames.length:=by rw [← hKe];unfold z7;simp
 have hent:∀ i q,o0 (l5 K' i) q=o0 (l5 K i) q:=fun i q=>by unfold l5 u7;rw [e2]
 have hc:=h.cnt
 have hh:=h.hand
 have hsp:=h.spaces
 refine ⟨⟨by rw [e1,e2,e3,e5];exact hc,by rw [e1];exact h.rise,by rw [e4,e5];exact hh,fun s hs=>by rw [e1,e3,e5];rw [e2] at hs;exact hsp s hs,by rw [e2,e3];exact h.room,fun i g hg=>?_,by rw [e2,e3];exact h.sl⟩,e1,e2,e3,e4,e5,fun i=>?_,fun i q=>?_⟩
 ·have hil:i < K.frames.length:=by have:=j3 hg;omega
  have hgi:=List.getElem?_eq_getElem hil
  have hge:=hset i
  rw [q8 hg] at hge
  have ho:=h.fr i _ hgi
  rw [e1,e2]
  by_cases e:i=f
  ·subst e
   rw [if_pos rfl] at hge
   rw [q8 hgi] at hge hr hd
   rw [hge]
   refine ⟨ho.refs,fun e0=>?_,fun hne=>?_,ho.same,fun n hn=>Or.inl hd⟩
   ·exfalso
    have:=ho.refs
    rw [show m8 K.spaces 1 (i:Nat)=[] from e0,hr] at this
    cases this
   ·show ((K.frames[i]'hil).data.set _ c).length=16
    rw [List.length_set]
    exact ho.len hne
  ·rw [if_neg e,q8 hgi] at hge
   rw [hge]
   exact ho
 ·rw [hset]
  by_cases e:i=f
  ·subst e;rw [if_pos rfl];exact ⟨rfl,rfl⟩
  ·rw [if_neg e];exact ⟨rfl,rfl⟩
 ·have hfill:a0Q K' i q=a0Q K i q:=a1y (hs:=e1) (ha:=by unfold l9 u7;rw [e2]) q
  by_cases e:i=sp∧q=a / 16
  ·obtain ⟨rfl,rfl⟩:=e
   rw [if_pos ⟨rfl,rfl⟩]
   unfold t7
   rw [hent,he]
   show v8 K' ⟨a / 16,1,(f:Nat)⟩=(v8 K ⟨a / 16,1,(f:Nat)⟩).set _ c
   unfold v8
   rw [if_pos rfl,if_pos rfl]
   show (l7 K'.frames f).data=(l7 K.frames f).data.set _ c
   rw [hset,if_pos rfl]
  ·rw [if_neg e]
   unfold t7
   rw [hent,hfill]
   cases hx:o0 (l5 K i) q with
   |none=>rfl
   |some x=>
    show v8 K' x=v8 K x
    obtain ⟨hxp,hn,-⟩:=a2Q h hx
    unfold v8
    rcases hn with ⟨hk,j,hj,-,-,-⟩|⟨hk,-⟩
    ·rw [if_pos hk,if_pos hk,hj]
     show (l7 K'.frames j).data=(l7 K.frames j).data
     rw [hset,if_neg]
     rintro rfl
     refine e (b5H h he hr ?_)
     rw [hx]
     cases x
     dsimp only at hk hj hxp
     subst hk hj hxp
     rfl
    ·rw [if_neg (by omega),if_neg (by omega),e3]
theorem Pres.of_st {K K':Ker} {sp:Nat} {a:Int} {c:UInt8} (h:b5h K K' sp a c) {p:Int} (hp:Pres K sp true p):Pres K' sp true p:=by
 obtain ⟨f,he,hw⟩:=hp
 refine ⟨f,?_,fun hh=>?_⟩
 ·unfold l5 u7 at he ⊢
  rw [h.spaces]
  exact he
 ·rw [(h.refs f).1,(h.refs f).2]
  exact hw hh
structure b4Q (K K':Ker) (sp:Nat) (addr:Int) (s:List UInt8) (n:Nat):Prop where
 right:Right K'
 sheets:K'.sheets=K.sheets
 spaces:K'.spaces=K.spaces
 slots:K'.slots=K.slots
 hand:K'.hand=K.hand
 nfr:K'.frames.length=K.frames.length
 pres:∀ p,Pres K sp true p→Pres K' sp true p
 len:∀ i q,(t7 K' i q).length=(t7 K i q).length
 peek:∀ i q (j:Nat),(t7 K' i q)[j]?=if i=sp∧addr≤q * 16 + j∧q * 16 + j < addr + (n:Nat)∧j < 16∧j < (t7 K i q).length then s[(q * 16 + j - addr).toNat]? else (t7 K i q)[j]?
theorem a6T {K:Ker} (h:Right K) {sp:Nat} {addr:Int} {s:List UInt8} (h0:0≤addr) (hp:∀ i:Nat,i < s.length→Pres K sp true ((addr + (i:Nat)) / 16)):∀ (n:Nat),n≤s.length→b4Q K (a0u K sp addr s n) sp addr s n
 |0,_=>⟨h,rfl,rfl,rfl,rfl,rfl,fun _ hp=>hp,fun _ _=>rfl,fun i q j=>by rw [if_neg];rfl;omega⟩
 |n + 1,hn=>by
  have ih:=a6T h h0 hp n (by omega)
  have hst:=b1a ih.right (a:=addr + (n:Nat)) (ih.pres _ (hp n (by omega))) (s.getD n 0)
  show b4Q K (a1E (a0u K sp addr s n) sp (addr + (n:Nat)) (s.getD n 0)) sp addr s (n + 1)
  have hlen:∀ i q,(t7 (a1E (a0u K sp addr s n) sp (addr + (n:Nat)) (s.getD n 0)) i q).length=(t7 K i q).length:=fun i q=>by
   rw [hst.peek,← ih.len i q]
   split <;> simp
  refine ⟨hst.right,hst.sheets.trans ih.sheets,hst.spaces.trans ih.spaces,hst.slots.trans ih.slots,hst.hand.trans ih.hand,hst.nfr.trans ih.nfr,fun p hp'=>(ih.pres p hp').of_st hst,hlen,fun i q j=>?_⟩
  rw [hst.peek]
  have hihp:=ih.peek i q j
  have hle:=ih.len i q
  have hsn:s[n]?=some (s.getD n 0):=by rw [List.getD_eq_getElem?_getD,List.getElem?_eq_getElem (by omega)];rfl
  by_cases e:i=sp∧q=(addr + (n:Nat)) / 16
  ·rw [if_pos e,List.getElem?_set]
   by_cases e2:((addr + (n:Nat)) % 16).toNat=j
   ·rw [if_pos e2]
    by_cases e3:((addr + (n:Nat)) % 16).toNat < (t7 (a0u K sp addr s n) i q).length
    ·rw [if_pos e3,if_pos ⟨e.1,by omega,by omega,by omega,by omega⟩,show (q * 16 + (j:Nat) - addr).toNat=n by omega,hsn]
    ·rw [if_neg e3,if_neg (by omega)]
     rw [List.getElem?_eq_none (by omega)]
   ·rw [if_neg e2,hihp]
    by_cases e4:i=sp∧addr≤q * 16 + (j:Nat)∧q * 16 + (j:Nat) < addr + (n:Nat)∧j < 16∧j < (t7 K i q).length
    ·rw [if_pos e4,if_pos ⟨e4.1,e4.2.1,by omega,e4.2.2.2⟩]
    ·rw [if_neg e4,if_neg]
     rintro ⟨f1,f2,f3,f4,f5⟩
     refine e4 ⟨f1,f2,?_,f4,f5⟩
     omega
  ·rw [if_neg e,hihp]
   by_cases e4:i=sp∧addr≤q * 16 + (j:Nat)∧q * 16 + (j:Nat) < addr + (n:Nat)∧j < 16∧j < (t7 K i q).length
   ·rw [if_pos e4,if_pos ⟨e4.1,e4.2.1,by omega,e4.2.2.2⟩]
   ·rw [if_neg e4,if_neg]
    rintro ⟨f1,f2,f3,f4,f5⟩
    by_cases e5:q=(addr + (n:Nat)) / 16
    ·exact e ⟨f1,e5⟩
    ·refine e4 ⟨f1,f2,?_,f4,f5⟩
     omega
end Go.Proofs.Ytejnpppejalhfac
/- What the steps of a kernel at work want, out of its being right. -/
namespace Go.Proofs.Ytejnpppejalhfac
open Go.RowKit Go.Sort
theorem a0V {k:KV} {sp:Nat} {x:Sp} (h:k.sp[sp]?=some x):k.K.spaces[sp]?=some x.s:=by
 show (k.sp.map (·.s))[sp]?=_
 rw [List.getElem?_map,h]
 rfl
theorem a8r {k:KV} {sp:Nat} {page:Int} (h:At k.K sp page):∃ x,k.sp[sp]?=some x∧x.s.live=true∧(v7 x.s.areas page).isSome=true∧l5 k.K sp=x.s.entries∧l9 k.K sp=x.s.areas:=by
 obtain ⟨s,hs,h1,h2⟩:=h.sc
 have:(k.sp.map (·.s))[sp]?=some s:=hs
 rw [List.getElem?_map] at this
 obtain ⟨x,hx,rfl⟩:=Option.map_eq_some_iff.1 this
 refine ⟨x,hx,h1,h2,?_,?_⟩
 ·unfold l5;rw [x7 hs]
 ·unfold l9;rw [x7 hs]
theorem a0q {K:Ker} (h:Right K):∀ s ∈ K.spaces,a84 K.sheets K.frames.length K.slots.length s∧s.entries.length≤255:=fun s hs=>⟨a0x.1 (h.spaces s hs),(a2z (h.spaces s hs)).1⟩
theorem a5f {A:List Ar} (hc:q7 A=0) {p:Int} (h:(v7 A p).isSome=true):1≤p∧p≤255:=by
 obtain ⟨a,ha⟩:=Option.isSome_iff_exists.1 h
 have h1:=(a0F hc ha).1
 have h2:=(a0F hc ha).2
 have h3:=List.find?_some ha
 unfold a0K Ar.fin at h3
 rw [decide_eq_true_eq] at h3
 unfold Ar.ok at h1
 omega
theorem a3p {sh:List Sh} {nf ns:Int} {s:Sc} (h:a84 sh nf ns s) {page:Int} (hp:-1000000≤page∧page≤1000000):b5E s.entries page:=fun q hq=>by
 obtain ⟨e,he,rfl⟩:=List.mem_map.1 hq
 have:=a5f h.ar (h.ents e he).1
 omega
theorem a3s {K:Ker} (h:Right K):(∀ f ∈ K.frames,0≤f.refs∧f.refs≤100000)∧∀ f ∈ K.slots,0≤f.refs∧f.refs≤100000:=by
 have hb:=a4L (L:=K.spaces) (List.all_eq_true.2 h.spaces)
 have hc:=h.cnt
 have hl:∀ k (i:Nat),(m8 K.spaces k (i:Nat)).length≤2000:=fun k i=>by
  rw [← a0T]
  have:=List.length_filter_le (fun (n:Nm)=>decide (n.1.kind=k∧n.1.at_=((i:Nat):Int))) (a0w K.spaces)
  omega
 constructor
 ·intro f hf
  obtain ⟨i,hi⟩:=List.mem_iff_getElem?.1 hf
  rw [(h.fr i f hi).refs]
  have:=hl 1 i
  omega
 ·intro f hf
  obtain ⟨i,hi⟩:=List.mem_iff_getElem?.1 hf
  rw [(h.sl i f hi).refs]
  have:=hl 2 i
  omega
theorem a5V {k:KV} (h:Right k.K) {sp:Nat} {x:Sp} (hx:k.sp[sp]?=some x) {e:En} (he:e ∈ x.s.entries):a67 k e:=by
 refine ⟨?_,(a3s h).1,(a3s h).2⟩
 rcases (h.ent (a0V hx) he).2 with ⟨a,b⟩|⟨a,b⟩
 ·exact Or.inl ⟨a,b⟩
 ·exact Or.inr ⟨by omega,b⟩
theorem a6h {k:KV} (h:Right k.K) {held:List Nat} (hl:held.length≤2):a94 k held:=by
 have hc:=h.cnt
 have hsp:k.sp.length≤4:=by
  have:k.K.spaces.length=k.sp.length:=List.length_map _
  omega
 have hmem:∀ x ∈ k.sp,x.s ∈ k.K.spaces:=fun x hx=>List.mem_map.2 ⟨x,hx,rfl⟩
 refine ⟨h.hand,⟨hc.1,hc.2.1⟩,hl,fun hf=>?_,fun x hx=>?_,fun x hx e he=>?_,by omega⟩
 ·have h0:0 < k.K.frames.length:=by omega
  refine a61 h h0 ?_
  rw [q8 (List.getElem?_eq_getElem h0)]
  exact a3P hf _ (List.getElem_mem h0)
 ·have:=(a0q h x.s (hmem x hx)).2
  omega
 ·have:=((a0q h x.s (hmem x hx)).1.ents e he).2
  omega
end Go.Proofs.Ytejnpppejalhfac
