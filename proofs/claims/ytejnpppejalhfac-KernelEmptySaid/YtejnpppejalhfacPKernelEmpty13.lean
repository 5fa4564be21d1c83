/- Texts that the proof stands on, one behind the other: Ke23, Ke24, Ke25, Sc27, Ke26, Ke27. -/
import Derived.Test.YtejnpppejalhfacPKernelEmpty12
/- kernel.begin, (*work).fault. -/
namespace Go.Proofs.Ytejnpppejalhfac
open Go.RowKit Go.Sort
def x8 (k:KV):List Asr:=.row 97 3 k.vsh (a5C k.sh)::(k.sh.map fxA++k.sp.map a3j)
theorem a3W {k k':KV} (h:KLike k k'):x8 k'=x8 k:=by
 unfold x8
 rw [h.sh,h.vsh]
 have:k'.sp.map a3j=k.sp.map a3j:=by
  have e:∀ l:List Sp,l.map a3j=(l.map fun p=>(p.va,p.s.areas)).map fun x=>Asr.row 71 4 x.1 (x.2.map arC):=fun l=>by rw [List.map_map];rfl
  rw [e,e,h.ar]
 rw [this]
theorem KRo.own {F:Nat→Prop} {w0 w:World} {g:Nat} {k:KV} {sp:Nat} {vh:Value} {held:List Nat} {Γ:List Asr} (hS:St F w0 w (wkS g k sp vh held++(x8 k++Γ))):KRo (fps (wkS g k sp vh held)) w k:=by
 have hmem:∀ {e sz:Nat} {v:Value} {rows:List (List Value)},Asr.row e sz v rows ∈ x8 k→Sl (fps (wkS g k sp vh held)) w sz v rows:=fun h=>by
  obtain ⟨j,hj⟩:=List.mem_iff_getElem?.1 (List.mem_append_left Γ h)
  exact hS.ownSl j hj
 refine ⟨⟨hmem List.mem_cons_self,fun p hp=>?_⟩,fun p hp=>?_⟩
 ·exact hmem (e:=100) (List.mem_cons_of_mem _ (List.mem_append_left _ (List.mem_map.2 ⟨p,hp,rfl⟩)))
 ·exact hmem (e:=71) (List.mem_cons_of_mem _ (List.mem_append_right _ (List.mem_map.2 ⟨p,hp,rfl⟩)))
theorem b2R (l:List Sp):(spA l).Perm (l.map a3j++l.map a0k):=by
 induction l with
 |nil=>exact List.Perm.refl _
 |cons p l ih=>
  show (a3j p::a0k p::spA l).Perm (a3j p::(l.map a3j++a0k p::l.map a0k))
  exact ((ih.cons _).trans List.perm_middle.symm).cons _
theorem a9Z (k:KV):(kA k).Perm (frA k::slA k::a2n k::(k.sp.map a0k++x8 k)):=by
 unfold kA x8
 refine (List.Perm.swap _ _ _).trans (List.Perm.cons _ ?_)
 refine (List.Perm.swap _ _ _).trans (List.Perm.cons _ ?_)
 refine (List.Perm.swap _ _ _).trans (List.Perm.cons _ ?_)
 refine List.Perm.trans (List.Perm.cons _ ?_) List.perm_middle.symm
 refine ((b2R k.sp).append_left _).trans ?_
 rw [← List.append_assoc]
 exact List.perm_append_comm
theorem b4K {k:KV} (h:Right k.K):KBd k:=by
 have hc:=h.cnt
 have h1:k.K.frames.length=k.fr.length:=rfl
 have h2:k.K.slots.length=k.sl.length:=rfl
 have h3:k.K.spaces.length=k.sp.length:=List.length_map _
 have h4:k.K.sheets.length=k.sh.length:=List.length_map _
 refine ⟨by omega,by omega,by omega,by omega,fun x hx=>?_,fun p hp=>?_,fun p hp=>?_⟩
 ·have:=a5R ((a2s h.rise).1 x.1 (List.mem_map.2 ⟨x,hx,rfl⟩)).1
  omega
 ·have:=(a0q h p.s (List.mem_map.2 ⟨p,hp,rfl⟩)).1.ar
  have:=(a0h.1 this).1
  omega
 ·have:=(a0q h p.s (List.mem_map.2 ⟨p,hp,rfl⟩)).2
  omega
set_option maxRecDepth 100000 in
set_option maxHeartbeats 8000000 in
theorem a4i {w:World} {k:KV} (hK:KerV w k) (space:Int):Fn Try.prog 10 [.agg (kvC k).toArray,.int .i64 space] w (fun v w'=>(a0n k.K space≠0∧v=.tuple #[.pointer none,.int .i64 (a0n k.K space)]∧St nF w w' [])∨∃ (g sp:Nat) (k':KV),a0n k.K space=0∧space=(sp:Nat)∧v=.tuple #[.pointer (some ⟨g,0,none⟩),.int .i64 0]∧k'.K=k.K∧St nF w w' (wkS g k' sp (.slice none 0 0) []++x8 k')):=by
 have hchk:=fun w1 (h:KerV w1 k)=>a28 h
 by_cases hc0:a0Y k.K=0
 rotate_left
 ·have hE:a0n k.K space=a0Y k.K:=by unfold a0n;rw [if_neg hc0]
  rw [hE]
  have hd:decide (a0Y k.K=0)=false:=decide_eq_false hc0
  generalize a0Y k.K=c at hchk hc0 hE hd ⊢
  obtain ⟨sh,fr,sl,sps,hand,vsh,vfr,vsl,vsp⟩:=k
  have hK0:=hK
  obtain ⟨k1,k2,k3,k4,k5⟩:=hK
  dsimp only at k1 k2 k3 k4 k5
  obtain ⟨p1,c1,rfl⟩:=k1.sl.len
  obtain ⟨p2,c2,rfl⟩:=k2.len
  obtain ⟨p3,c3,rfl⟩:=k3.len
  obtain ⟨p4,c4,rfl⟩:=k4.len
  unfold kvC at hchk ⊢
  dsimp only at hchk ⊢
  refine j0 (fn:=Try.f10) ⟨Try.func10,by kernel_rfl,by kernel_rfl⟩ (by exact rfl) Try.ntmps10 (by exact rfl) ?_
  have hS:=St.start w
  repeat' (first|(first|((with_reducible apply d6 c8);exact rfl;exact rfl)|((with_reducible apply d9);exact rfl;(((with_reducible apply Loads.st c8);exact rfl;((exact hS.blkR 0 rfl));exact rfl));exact rfl)|((with_reducible apply p7 hS);(iterate 3 exact rfl);intro g w' hS';clear hS;have hS:=hS';clear hS'))|(first|(with_reducible first|apply d8|apply c9|apply d7|apply d5|apply j5|apply e6))|(((with_reducible apply a1e);exact rfl;all_goals (intro hb hp;try (exfalso;omega))))|((with_reducible apply e8);exact rfl;exact rfl;exact hchk _ (hK0.now hS);exact rfl;rintro _ w' ⟨rfl,hS'⟩;replace hS:=hS.transA hS';simp only [k7] at hS;clear hS'))
  (apply s9);(repeat (first|exact ResL.nil|(apply ResL.tmp;exact rfl)))
  exact Or.inl ⟨hc0,rfl,hS.sub (List.nil_sublist _)⟩
 have hr:=a1m.1 hc0
 have hown:=fun w1 (h:KerV w1 k)=>a9w h (b4K hr)
 rw [hc0] at hchk
 have h4:=hr.cnt.2.2.2.2.1
 have hlE:a0n k.K space=if 0≤space∧space < (k.K.spaces.length:Int)∧(u7 k.K space.toNat).live=true then 0 else 6:=by unfold a0n;rw [if_pos hc0]
 have hK0:=hK
 have hKl:k.K.spaces.length=k.sp.length:=List.length_map _
 have hsc:∀ (i:Nat) x,k.sp[i]?=some x→u7 k.K i=x.s:=fun i x hx=>x7 (a0V hx)
 rw [hKl] at hlE h4
 obtain ⟨lE,hlEq⟩:∃ e,e=a0n k.K space:=⟨_,rfl⟩
 rw [← hlEq] at hlE ⊢
 obtain ⟨sh,fr,sl,sps,hand,vsh,vfr,vsl,vsp⟩:=k
 obtain ⟨k1,k2,k3,k4,k5⟩:=hK
 dsimp only at k1 k2 k3 k4 k5 hlE h4 hsc
 obtain ⟨p1,c1,rfl⟩:=k1.sl.len
 obtain ⟨p2,c2,rfl⟩:=k2.len
 obtain ⟨p3,c3,rfl⟩:=k3.len
 obtain ⟨p4,c4,rfl⟩:=k4.len
 unfold kvC at hchk hown ⊢
 dsimp only at hchk hown ⊢
 by_cases hin:0≤space∧space < (sps.length:Int)
 rotate_left
 ·rw [if_neg (fun h=>hin ⟨h.1,h.2.1⟩)] at hlE
  subst hlE
  refine j0 (fn:=Try.f10) ⟨Try.func10,by kernel_rfl,by kernel_rfl⟩ (by exact rfl) Try.ntmps10 (by exact rfl) ?_
  have hS:=St.start w
  repeat' (first|(first|((with_reducible apply d6 c8);exact rfl;exact rfl)|((with_reducible apply d9);exact rfl;(first|((with_reducible apply Loads.sl c8);exact rfl;((exact hS.blkC 0 rfl rfl)))|((with_reducible apply Loads.st c8);exact rfl;((exact hS.blkR 0 rfl));exact rfl));exact rfl)|((with_reducible apply p7 hS);(iterate 3 exact rfl);intro g w' hS';clear hS;have hS:=hS';clear hS')|(first|((with_reducible apply p9);(iterate 4 exact rfl);(assumption))|((with_reducible apply a0f);(iterate 4 exact rfl);(first|exact rfl|assumption);exact rfl)|((with_reducible apply r6);(iterate 3 exact rfl);all_goals (intro hb hp;try (exfalso;omega)))|((with_reducible apply m9);exact rfl;(first|exact rfl|assumption);exact rfl;exact rfl)|((with_reducible apply n0);exact rfl;((assumption));exact rfl;exact rfl)))|(first|(with_reducible first|apply d8|apply c9|apply d7|apply d5|apply g8|apply j5|apply e6))|(first|((with_reducible apply k9);exact rfl;(exact rfl))|((with_reducible apply l6);exact rfl;(exact rfl)))|((with_reducible apply e8);exact rfl;exact rfl;exact hchk _ (hK0.now hS);exact rfl;rintro _ w' ⟨rfl,hS'⟩;replace hS:=hS.transA hS';simp only [k7] at hS;clear hS'))
  all_goals (apply s9)
  all_goals (repeat (first|exact ResL.nil|(apply ResL.tmp;exact rfl)))
  all_goals (exact Or.inl ⟨by omega,rfl,hS.sub (List.nil_sublist _)⟩)
 obtain ⟨i,rfl⟩:∃ i:Nat,space=(i:Nat):=⟨space.toNat,by omega⟩
 obtain ⟨x,hx⟩:=l8 (l:=sps) (i:=i) (by omega)
 have hxs:=hsc i x hx
 have hrow:=j9 (f:=spC) hx
 obtain ⟨b,off,rfl,hro⟩:=k4.at_ (i:=i) (by omega)
 unfold spC at hrow
 rw [show (((i:Nat):Int)).toNat=i from rfl,hxs] at hlE
 cases hlv:x.s.live with
 |false=>
  rw [if_neg (fun h=>by rw [hlv] at h;cases h.2.2)] at hlE
  subst hlE
  rw [hlv] at hrow
  refine j0 (fn:=Try.f10) ⟨Try.func10,by kernel_rfl,by kernel_rfl⟩ (by exact rfl) Try.ntmps10 (by exact rfl) ?_
  have hS:=St.start w
  repeat' (first|(first|((with_reducible apply d6 c8);exact rfl;exact rfl)|((with_reducible apply d9);exact rfl;(first|((with_reducible apply Loads.sc c8);exact rfl;((exact hS.roC0 (by assumption) (by assumption) rfl)))|((with_reducible apply Loads.sl c8);exact rfl;((exact hS.blkC 0 rfl rfl)))|((with_reducible apply Loads.st c8);exact rfl;((exact hS.blkR 0 rfl));exact rfl));exact rfl)|((with_reducible apply p8 c8);(iterate 3 exact rfl);((exact rfl));((omega));exact rfl)|((with_reducible apply p7 hS);(iterate 3 exact rfl);intro g w' hS';clear hS;have hS:=hS';clear hS')|(first|((with_reducible apply p9);(iterate 4 exact rfl);first|exact rfl|assumption)|((with_reducible apply r6);(iterate 3 exact rfl);all_goals (intro hb hp;try (exfalso;omega)))|((with_reducible apply n0);exact rfl;(first|exact rfl|assumption);exact rfl;exact rfl)))|(first|(with_reducible first|apply d8|apply c9|apply d7|apply d5|apply g8|apply j5|apply e6))|(first|((with_reducible apply k9);exact rfl;(exact rfl))|((with_reducible apply l6);exact rfl;(exact rfl)))|((with_reducible apply e8);exact rfl;exact rfl;exact hchk _ (hK0.now hS);exact rfl;rintro _ w' ⟨rfl,hS'⟩;replace hS:=hS.transA hS';simp only [k7] at hS;clear hS'))
  (apply s9);(repeat (first|exact ResL.nil|(apply ResL.tmp;exact rfl)))
  exact Or.inl ⟨by omega,rfl,hS.sub (List.nil_sublist _)⟩
 |true=>
  rw [if_pos ⟨hin.1,hin.2,hlv⟩] at hlE
  subst hlE
  rw [hlv] at hrow
  refine j0 (fn:=Try.f10) ⟨Try.func10,by kernel_rfl,by kernel_rfl⟩ (by exact rfl) Try.ntmps10 (by exact rfl) ?_
  have hS:=St.start w
  repeat' (first|(first|((with_reducible apply d6 c8);exact rfl;exact rfl)|((with_reducible apply d9);exact rfl;(first|((with_reducible apply Loads.sc c8);exact rfl;((exact hS.roC0 (by assumption) (by assumption) rfl)))|((with_reducible apply Loads.sl c8);exact rfl;((exact hS.blkC 0 rfl rfl)))|((with_reducible apply Loads.st c8);exact rfl;((exact hS.blkR 0 rfl));exact rfl));exact rfl)|((with_reducible apply p8 c8);(iterate 3 exact rfl);((exact rfl));((omega));exact rfl)|((with_reducible apply n7 c8);exact rfl;exact rfl;((exact (rfl:_=some [_,_,_,_,_,_,_])));exact rfl)|((with_reducible apply p7 hS);(iterate 3 exact rfl);intro g w' hS';clear hS;have hS:=hS';clear hS')|(first|((with_reducible apply p9);(iterate 4 exact rfl);first|exact rfl|assumption)|((with_reducible apply r6);(iterate 3 exact rfl);all_goals (intro hb hp;try (exfalso;omega)))|((with_reducible apply n0);exact rfl;(first|exact rfl|assumption);exact rfl;exact rfl)))|(first|(with_reducible first|apply d8|apply c9|apply d7|apply d5|apply g8|apply j5))|(((with_reducible apply l6);exact rfl;(exact rfl)))|((with_reducible apply e8);exact rfl;exact rfl;exact hchk _ (hK0.now hS);exact rfl;rintro _ w' ⟨rfl,hS'⟩;replace hS:=hS.transA hS';simp only [k7] at hS;clear hS')|((with_reducible apply e8);exact rfl;exact rfl;exact hown _ (hK0.now hS);exact rfl;rintro _ w' ⟨k',rfl,hk',hS'⟩;(replace hS:=hS.trans hS');clear hS'))
  (apply s9);(repeat (first|exact ResL.nil|(apply ResL.tmp;exact rfl)))
  refine Or.inr ⟨_,i,k',rfl,rfl,rfl,hk',?_⟩
  replace hS:St nF w w' (.blk _ (wkB k' i (.slice none 0 0))::(kA k'++[_])):=hS
  have h1:St nF w w' (.blk _ (wkB k' i (.slice none 0 0))::kA k'):=hS.sub (List.Sublist.cons_cons _ (List.sublist_append_left _ _))
  have h2:=(h1.perm ((a9Z k').cons _)).addNil 3 1
  exact h2.perm (List.Perm.swap _ _ _)
end Go.Proofs.Ytejnpppejalhfac
/- (*work).fault. -/
namespace Go.Proofs.Ytejnpppejalhfac
open Go.RowKit Go.Sort
theorem a0l {A:List Ar} {addr size way:Int} {i:Nat} {p:Int×Int} (h0:¬(way=2∧addr.tmod 8≠0)) (hi:(i:Int) < size) (hp:∀ j:Nat,j < i→u9 A way (addr + (j:Nat))=none) (h:u9 A way (addr + (i:Nat))=some p):t6 A addr size way=p:=by
 unfold t6
 rw [if_neg h0]
 have:(List.range size.toNat).findSome? (fun i=>u9 A way (addr + (i:Nat)))=some p:=by
  rw [List.findSome?_eq_some_iff]
  obtain ⟨m,hm⟩:∃ m,size.toNat=i + (m + 1):=⟨size.toNat - (i + 1),by omega⟩
  refine ⟨List.range i,i,(List.range' (i + 1) m),?_,h,fun j hj=>hp j (List.mem_range.1 hj)⟩
  rw [hm,List.range_eq_range',List.range_eq_range',← List.range'_append_1,Nat.zero_add,List.range'_succ]
 rw [this]
 rfl
theorem a3d {A:List Ar} {addr size way:Int} (h0:¬(way=2∧addr.tmod 8≠0)) (hp:∀ j:Nat,(j:Int) < size→u9 A way (addr + (j:Nat))=none):t6 A addr size way=(0,0):=by
 unfold t6
 rw [if_neg h0]
 have:(List.range size.toNat).findSome? (fun i=>u9 A way (addr + (i:Nat)))=none:=by
  rw [List.findSome?_eq_none_iff]
  intro i hi
  rw [List.mem_range] at hi
  exact hp i (by omega)
 rw [this]
 rfl
set_option maxRecDepth 100000 in
set_option maxHeartbeats 8000000 in
theorem b01 {w:World} {g:Nat} {k:KV} {sp:Nat} {vh:Value} {held:List Nat} (hV:WkV w g k sp vh held) {x:Sp} (hx:k.sp[sp]?=some x) (hc:q7 x.s.areas=0) {addr size way:Int} (hb0:-9223372036854775808≤addr) (hb1:addr≤9223372036854775807) (hs1:1≤size) (hs8:size≤8) (hway:way=0∨way=1∨way=2):Fn Try.prog 65 [.pointer (some ⟨g,0,none⟩),.int .i64 addr,.int .i64 size,.int .i64 way] w (RBf (.agg #[.int .i64 (t6 x.s.areas addr size way).1,.int .i64 (t6 x.s.areas addr size way).2]) w):=by
 have hV0:=hV
 have hspc:=fun w1 (h:WkV w1 g k sp vh held)=>a08 h (j3 hx)
 obtain ⟨c0,c1,c2,c3,c4,c5,c6,hh,⟨k1,k2,k3,k4,k5⟩⟩:=hV
 obtain ⟨bs,os,cs,hvsp⟩:=k4.form1 hx
 have hrowS:=j9 (f:=spC) hx
 have har:=(k5 x (List.mem_of_getElem? hx)).ar
 rw [hvsp] at hspc k4
 unfold a1c at hspc
 dsimp only at hspc
 unfold spC at hrowS
 have hfnd:=fun w1 (h:Sl nF w1 4 x.va (x.s.areas.map arC)) (p:Int)=>a4a p h
 obtain ⟨n,hn⟩:∃ n:Nat,size=(n:Nat):=⟨size.toNat,by omega⟩
 subst hn
 by_cases hal:way=2∧addr.tmod 8≠0
 ·have hF:t6 x.s.areas addr (n:Nat) way=(3,addr):=by unfold t6;rw [if_pos hal]
  obtain ⟨rfl,hal2⟩:=hal
  have hd:decide (addr.tmod 8=0)=false:=decide_eq_false hal2
  refine j0 (fn:=Try.f65) ⟨Try.func65,by kernel_rfl,by kernel_rfl⟩ (by exact rfl) Try.ntmps65 (by exact rfl) ?_
  have hS:=St.start w
  repeat' (first|(first|((with_reducible apply d6 c8);exact rfl;exact rfl)|((with_reducible apply n7 c8);exact rfl;exact rfl;((exact (rfl:_=some [_,_])));exact rfl)|((with_reducible apply j7 hS c8);(iterate 3 exact rfl);intro g w' hS';clear hS;have hS:=hS';clear hS')|(((with_reducible apply i7 hS c8 (i:=0));(iterate 8 exact rfl);((exact (rfl:_=[_,_])));intro w' hS';simp only [List.set] at hS';clear hS;have hS:=hS';clear hS'))|(first|((with_reducible apply p9);(iterate 4 exact rfl);(exact rfl))|((with_reducible apply m9);exact rfl;((exact rfl));exact rfl;exact rfl)))|(first|(with_reducible first|apply d8|apply c9|apply d7|apply d5|apply j5|apply e6))|(((with_reducible apply a1e);exact rfl;all_goals (intro hb hp;try (exfalso;omega))))|((with_reducible apply a24);exact rfl;exact rfl;omega;exact rfl))
  (apply j6);(repeat (first|exact ResL.nil|(apply ResL.cell;exact rfl;(((with_reducible apply Loads.st c8);exact rfl;((exact hS.blkR 0 rfl));exact rfl)))))
  exact ⟨by rw [hF],hS.sub (List.nil_sublist _)⟩
 obtain ⟨F,hF⟩:∃ F,F=t6 x.s.areas addr (n:Nat) way:=⟨_,rfl⟩
 rw [← hF]
 have hstep:∀ i:Nat,(∀ j:Nat,j < i→u9 x.s.areas way (addr + (j:Nat))=none)→1≤i→addr≤4095∧16≤addr:=fun i h h1=>by
  have h2:=a2e hc (h 0 (by omega))
  have h3:addr + ((0:Nat):Int)=addr:=by omega
  rw [h3] at h2
  omega
 rcases hway with rfl|rfl|rfl
 ·refine j0 (fn:=Try.f65) ⟨Try.func65,by kernel_rfl,by kernel_rfl⟩ (by exact rfl) Try.ntmps65 (by exact rfl) ?_
  have hS:=St.start w
  repeat' (first|(first|((with_reducible apply d6 c8);exact rfl;exact rfl)|((with_reducible apply j7 hS c8);(iterate 3 exact rfl);intro g w' hS';clear hS;have hS:=hS';clear hS')|(first|((with_reducible apply a0f);(iterate 4 exact rfl);((exact rfl));exact rfl)|((with_reducible apply n0);exact rfl;((exact rfl));exact rfl;exact rfl)))|(first|(with_reducible first|apply d8|apply c9|apply d7|apply d5|apply g8|apply e7))|(((with_reducible apply l6);exact rfl;(exact rfl))))
  replace hS:St nF w w' (.blk _ [.int .i64 0,.int .i64 0]::[]):=hS
  refine a1f hS 23 [0,1,3,8,22] rfl (n) (fun i=>∀ j:Nat,j < i→u9 x.s.areas 0 (addr + (j:Nat))=none) 0 rfl (Nat.zero_le _) (by (intros;omega)) ?_
  rintro i w1 hi hall hS'
  clear hS;have hS:=hS';clear hS'
  by_cases hlt:i < n
  rotate_left
  ·obtain rfl:i=n:=by omega
   have hff:F=(0,0):=hF.trans (a3d hal (fun j hj=>hall j (by omega)))
   repeat' (first|(first|((with_reducible apply d6 c8);exact rfl;exact rfl)|((with_reducible apply n7 c8);exact rfl;exact rfl;((exact (rfl:_=some [_,_])));exact rfl)|(((with_reducible apply i7 hS c8 (i:=0));(iterate 8 exact rfl);((exact (rfl:_=[_,_])));intro w' hS';simp only [List.set] at hS';clear hS;have hS:=hS';clear hS')))|(first|(with_reducible first|apply d8|apply c9|apply d7|apply d5|apply n5|apply j5|apply j4|apply i9))|(((with_reducible apply k6);exact rfl;all_goals (intro hb hp;try (exfalso;omega)))))
   (apply j6);(repeat (first|exact ResL.nil|(apply ResL.cell;exact rfl;(((with_reducible apply Loads.st c8);exact rfl;((exact hS.blkR 0 rfl));exact rfl)))))
   exact ⟨by rw [hff],hS.sub (List.nil_sublist _)⟩
  have hbd:-9223372036854775808≤addr + (i:Nat)∧addr + (i:Nat)≤9223372036854775807:=by
   by_cases h0:i=0
   ·subst h0;omega
   ·have:=hstep i hall (by omega);omega
  have hbd1:=hbd.1
  have hbd2:=hbd.2
  have hf2:=fun w1 h=>hfnd w1 h ((addr + (i:Nat)).tdiv 16)
  rw [a1g hc] at hf2
  cases hfa:v7 x.s.areas ((addr + (i:Nat)).tdiv 16) with
  |none=>
   rw [hfa] at hf2
   unfold a3b arC at hf2
   dsimp only [Option.getD,Option.isSome] at hf2
   by_cases hneg:addr + (i:Nat) < 0
   ·have hdn:decide (addr + ((i:Nat):Int) < 0)=true:=decide_eq_true hneg
    have hff:F=(1,addr + (i:Nat)):=hF.trans (a0l hal (by omega) hall (by unfold u9;rw [hfa]))
    repeat' (first|(first|((with_reducible apply m0);exact rfl;exact rfl;omega;omega;exact rfl)|((with_reducible apply d6 c8);exact rfl;exact rfl)|((with_reducible apply n7 c8);exact rfl;exact rfl;((exact (rfl:_=some [_,_])));exact rfl)|((with_reducible apply j7 hS c8);(iterate 3 exact rfl);intro g w' hS';clear hS;have hS:=hS';clear hS')|(first|((with_reducible apply i7 hS c8 (i:=0));(iterate 8 exact rfl);((exact (rfl:_=[_,_,_,_])));intro w' hS';simp only [List.set] at hS';clear hS;have hS:=hS';clear hS')|((with_reducible apply i7 hS c8 (i:=1));(iterate 8 exact rfl);((exact (rfl:_=[_,_])));intro w' hS';simp only [List.set] at hS';clear hS;have hS:=hS';clear hS'))|(first|((with_reducible apply a0f);(iterate 4 exact rfl);((assumption));exact rfl)|((with_reducible apply m9);exact rfl;((assumption));exact rfl;exact rfl)))|(first|(with_reducible first|apply d8|apply c9|apply d7|apply d5|apply g8|apply e7|apply j5|apply e6|apply j8))|(first|((with_reducible apply k9);exact rfl;(exact rfl))|((with_reducible apply k6);exact rfl;all_goals (intro hb hp;try (exfalso;omega))))|((with_reducible apply e8);exact rfl;exact rfl;exact hspc _ (hV0.now hS);exact rfl;rintro _ w' ⟨rfl,hS'⟩;replace hS:=hS.transA hS';simp only [k7] at hS;clear hS')|((with_reducible apply d9);exact rfl;(((with_reducible apply Loads.sl c8);exact rfl;exact hS.baseC (k4.cel hrowS rfl) id));exact rfl)|((with_reducible apply e8);exact rfl;exact rfl;exact hf2 _ (har.now hS);exact rfl;rintro _ w' ⟨rfl,hS'⟩;replace hS:=hS.transA hS';simp only [k7] at hS;clear hS')|((with_reducible apply a0s);exact rfl;exact rfl;omega;omega;omega;exact rfl))
    (apply j6);(repeat (first|exact ResL.nil|(apply ResL.cell;exact rfl;(((with_reducible apply Loads.st c8);exact rfl;((exact hS.blkR 1 rfl));exact rfl)))))
    exact ⟨by rw [hff],hS.sub (List.nil_sublist _)⟩
   ·have hdn:decide (addr + ((i:Nat):Int) < 0)=false:=decide_eq_false hneg
    have hff:F=(1,addr + (i:Nat)):=hF.trans (a0l hal (by omega) hall (by unfold u9;rw [hfa]))
    repeat' (first|(first|((with_reducible apply m0);exact rfl;exact rfl;omega;omega;exact rfl)|((with_reducible apply d6 c8);exact rfl;exact rfl)|((with_reducible apply n7 c8);exact rfl;exact rfl;((exact (rfl:_=some [_,_])));exact rfl)|((with_reducible apply j7 hS c8);(iterate 3 exact rfl);intro g w' hS';clear hS;have hS:=hS';clear hS')|(first|((with_reducible apply i7 hS c8 (i:=0));(iterate 8 exact rfl);((exact (rfl:_=[_,_,_,_])));intro w' hS';simp only [List.set] at hS';clear hS;have hS:=hS';clear hS')|((with_reducible apply i7 hS c8 (i:=1));(iterate 8 exact rfl);((exact (rfl:_=[_,_])));intro w' hS';simp only [List.set] at hS';clear hS;have hS:=hS';clear hS'))|(first|((with_reducible apply p9);(iterate 4 exact rfl);(assumption))|((with_reducible apply n0);exact rfl;((assumption));exact rfl;exact rfl)))|(first|(with_reducible first|apply d8|apply c9|apply d7|apply d5|apply g8|apply e7|apply j5|apply e6|apply j8))|(first|((with_reducible apply k9);exact rfl;(exact rfl))|((with_reducible apply k6);exact rfl;all_goals (intro hb hp;try (exfalso;omega))))|((with_reducible apply e8);exact rfl;exact rfl;exact hspc _ (hV0.now hS);exact rfl;rintro _ w' ⟨rfl,hS'⟩;replace hS:=hS.transA hS';simp only [k7] at hS;clear hS')|((with_reducible apply d9);exact rfl;(((with_reducible apply Loads.sl c8);exact rfl;exact hS.baseC (k4.cel hrowS rfl) id));exact rfl)|((with_reducible apply e8);exact rfl;exact rfl;exact hf2 _ (har.now hS);exact rfl;rintro _ w' ⟨rfl,hS'⟩;replace hS:=hS.transA hS';simp only [k7] at hS;clear hS')|((with_reducible apply a0s);exact rfl;exact rfl;omega;omega;omega;exact rfl))
    (apply j6);(repeat (first|exact ResL.nil|(apply ResL.cell;exact rfl;(((with_reducible apply Loads.st c8);exact rfl;((exact hS.blkR 1 rfl));exact rfl)))))
    exact ⟨by rw [hff],hS.sub (List.nil_sublist _)⟩
  |some a=>
   rw [hfa] at hf2
   unfold a3b arC at hf2
   dsimp only [Option.getD,Option.isSome] at hf2
   by_cases hneg:addr + (i:Nat) < 0
   ·have hdn:decide (addr + ((i:Nat):Int) < 0)=true:=decide_eq_true hneg
    have hff:F=(1,addr + (i:Nat)):=hF.trans (a0l hal (by omega) hall (by unfold u9;rw [hfa];exact if_pos hneg))
    repeat' (first|(first|((with_reducible apply m0);exact rfl;exact rfl;omega;omega;exact rfl)|((with_reducible apply d6 c8);exact rfl;exact rfl)|((with_reducible apply n7 c8);exact rfl;exact rfl;((exact (rfl:_=some [_,_])));exact rfl)|((with_reducible apply j7 hS c8);(iterate 3 exact rfl);intro g w' hS';clear hS;have hS:=hS';clear hS')|(first|((with_reducible apply i7 hS c8 (i:=0));(iterate 8 exact rfl);((exact (rfl:_=[_,_,_,_])));intro w' hS';simp only [List.set] at hS';clear hS;have hS:=hS';clear hS')|((with_reducible apply i7 hS c8 (i:=1));(iterate 8 exact rfl);((exact (rfl:_=[_,_])));intro w' hS';simp only [List.set] at hS';clear hS;have hS:=hS';clear hS'))|(first|((with_reducible apply a0f);(iterate 4 exact rfl);((assumption));exact rfl)|((with_reducible apply m9);exact rfl;((assumption));exact rfl;exact rfl)))|(first|(with_reducible first|apply d8|apply c9|apply d7|apply d5|apply g8|apply e7|apply j5|apply e6|apply j8))|(first|((with_reducible apply k9);exact rfl;(exact rfl))|((with_reducible apply k6);exact rfl;all_goals (intro hb hp;try (exfalso;omega))))|((with_reducible apply e8);exact rfl;exact rfl;exact hspc _ (hV0.now hS);exact rfl;rintro _ w' ⟨rfl,hS'⟩;replace hS:=hS.transA hS';simp only [k7] at hS;clear hS')|((with_reducible apply d9);exact rfl;(((with_reducible apply Loads.sl c8);exact rfl;exact hS.baseC (k4.cel hrowS rfl) id));exact rfl)|((with_reducible apply e8);exact rfl;exact rfl;exact hf2 _ (har.now hS);exact rfl;rintro _ w' ⟨rfl,hS'⟩;replace hS:=hS.transA hS';simp only [k7] at hS;clear hS')|((with_reducible apply a0s);exact rfl;exact rfl;omega;omega;omega;exact rfl))
    (apply j6);(repeat (first|exact ResL.nil|(apply ResL.cell;exact rfl;(((with_reducible apply Loads.st c8);exact rfl;((exact hS.blkR 1 rfl));exact rfl)))))
    exact ⟨by rw [hff],hS.sub (List.nil_sublist _)⟩
   have hdn:decide (addr + ((i:Nat):Int) < 0)=false:=decide_eq_false hneg
   have hdv:(addr + ((i:Nat):Int)).tdiv 16=(addr + (i:Nat)) / 16:=Int.tdiv_eq_ediv_of_nonneg (by omega)
   have haok:a.ok:=(a0F hc (by rw [hdv] at hfa;exact hfa)).1
   unfold Ar.ok at haok
   (skip)
   repeat' (first|(first|((with_reducible apply m0);exact rfl;exact rfl;omega;omega;exact rfl)|((with_reducible apply d6 c8);exact rfl;exact rfl)|((with_reducible apply j7 hS c8);(iterate 3 exact rfl);intro g w' hS';clear hS;have hS:=hS';clear hS')|(((with_reducible apply i7 hS c8 (i:=0));(iterate 8 exact rfl);((exact (rfl:_=[_,_,_,_])));intro w' hS';simp only [List.set] at hS';clear hS;have hS:=hS';clear hS'))|(first|((with_reducible apply p9);(iterate 4 exact rfl);(assumption))|((with_reducible apply a0f);(iterate 4 exact rfl);((exact rfl));exact rfl)|((with_reducible apply n0);exact rfl;(first|exact rfl|assumption);exact rfl;exact rfl)))|(first|(with_reducible first|apply d8|apply c9|apply d7|apply d5|apply g8|apply e7|apply k8))|(first|((with_reducible apply l6);exact rfl;(exact rfl))|((with_reducible apply k6);exact rfl;all_goals (intro hb hp;try (exfalso;omega))))|((with_reducible apply e8);exact rfl;exact rfl;exact hspc _ (hV0.now hS);exact rfl;rintro _ w' ⟨rfl,hS'⟩;replace hS:=hS.transA hS';simp only [k7] at hS;clear hS')|((with_reducible apply d9);exact rfl;(((with_reducible apply Loads.sl c8);exact rfl;exact hS.baseC (k4.cel hrowS rfl) id));exact rfl)|((with_reducible apply e8);exact rfl;exact rfl;exact hf2 _ (har.now hS);exact rfl;rintro _ w' ⟨rfl,hS'⟩;replace hS:=hS.transA hS';simp only [k7] at hS;clear hS')|((with_reducible apply a0s);exact rfl;exact rfl;omega;omega;omega;exact rfl))
   have hnx:u9 x.s.areas 0 (addr + (i:Nat))=none:=by
    unfold u9
    rw [hfa]
    dsimp only
    rw [if_neg hneg,if_neg]
    omega
   exact a02 (i + 1) (by repeat (first|exact Fr.sub_nil _|(apply Fr.sub_cons;exact rfl))) (by omega) (fun j hj=>by
    by_cases e:j=i
    ·rw [e];exact hnx
    ·exact hall j (by omega)) (by omega) (hS.sub (by repeat (first|exact List.Sublist.refl _|apply List.Sublist.cons)))
 ·refine j0 (fn:=Try.f65) ⟨Try.func65,by kernel_rfl,by kernel_rfl⟩ (by exact rfl) Try.ntmps65 (by exact rfl) ?_
  have hS:=St.start w
  repeat' (first|(first|((with_reducible apply d6 c8);exact rfl;exact rfl)|((with_reducible apply j7 hS c8);(iterate 3 exact rfl);intro g w' hS';clear hS;have hS:=hS';clear hS')|(first|((with_reducible apply a0f);(iterate 4 exact rfl);((exact rfl));exact rfl)|((with_reducible apply n0);exact rfl;((exact rfl));exact rfl;exact rfl)))|(first|(with_reducible first|apply d8|apply c9|apply d7|apply d5|apply g8|apply e7))|(((with_reducible apply l6);exact rfl;(exact rfl))))
  replace hS:St nF w w' (.blk _ [.int .i64 0,.int .i64 0]::[]):=hS
  refine a1f hS 23 [0,1,3,8,22] rfl (n) (fun i=>∀ j:Nat,j < i→u9 x.s.areas 1 (addr + (j:Nat))=none) 0 rfl (Nat.zero_le _) (by (intros;omega)) ?_
  rintro i w1 hi hall hS'
  clear hS;have hS:=hS';clear hS'
  by_cases hlt:i < n
  rotate_left
  ·obtain rfl:i=n:=by omega
   have hff:F=(0,0):=hF.trans (a3d hal (fun j hj=>hall j (by omega)))
   repeat' (first|(first|((with_reducible apply d6 c8);exact rfl;exact rfl)|((with_reducible apply n7 c8);exact rfl;exact rfl;((exact (rfl:_=some [_,_])));exact rfl)|(((with_reducible apply i7 hS c8 (i:=0));(iterate 8 exact rfl);((exact (rfl:_=[_,_])));intro w' hS';simp only [List.set] at hS';clear hS;have hS:=hS';clear hS')))|(first|(with_reducible first|apply d8|apply c9|apply d7|apply d5|apply n5|apply j5|apply j4|apply i9))|(((with_reducible apply k6);exact rfl;all_goals (intro hb hp;try (exfalso;omega)))))
   (apply j6);(repeat (first|exact ResL.nil|(apply ResL.cell;exact rfl;(((with_reducible apply Loads.st c8);exact rfl;((exact hS.blkR 0 rfl));exact rfl)))))
   exact ⟨by rw [hff],hS.sub (List.nil_sublist _)⟩
  have hbd:-9223372036854775808≤addr + (i:Nat)∧addr + (i:Nat)≤9223372036854775807:=by
   by_cases h0:i=0
   ·subst h0;omega
   ·have:=hstep i hall (by omega);omega
  have hbd1:=hbd.1
  have hbd2:=hbd.2
  have hf2:=fun w1 h=>hfnd w1 h ((addr + (i:Nat)).tdiv 16)
  rw [a1g hc] at hf2
  cases hfa:v7 x.s.areas ((addr + (i:Nat)).tdiv 16) with
  |none=>
   rw [hfa] at hf2
   unfold a3b arC at hf2
   dsimp only [Option.getD,Option.isSome] at hf2
   by_cases hneg:addr + (i:Nat) < 0
   ·have hdn:decide (addr + ((i:Nat):Int) < 0)=true:=decide_eq_true hneg
    have hff:F=(1,addr + (i:Nat)):=hF.trans (a0l hal (by omega) hall (by unfold u9;rw [hfa]))
    repeat' (first|(first|((with_reducible apply m0);exact rfl;exact rfl;omega;omega;exact rfl)|((with_reducible apply d6 c8);exact rfl;exact rfl)|((with_reducible apply n7 c8);exact rfl;exact rfl;((exact (rfl:_=some [_,_])));exact rfl)|((with_reducible apply j7 hS c8);(iterate 3 exact rfl);intro g w' hS';clear hS;have hS:=hS';clear hS')|(first|((with_reducible apply i7 hS c8 (i:=0));(iterate 8 exact rfl);((exact (rfl:_=[_,_,_,_])));intro w' hS';simp only [List.set] at hS';clear hS;have hS:=hS';clear hS')|((with_reducible apply i7 hS c8 (i:=1));(iterate 8 exact rfl);((exact (rfl:_=[_,_])));intro w' hS';simp only [List.set] at hS';clear hS;have hS:=hS';clear hS'))|(first|((with_reducible apply a0f);(iterate 4 exact rfl);((assumption));exact rfl)|((with_reducible apply m9);exact rfl;((assumption));exact rfl;exact rfl)))|(first|(with_reducible first|apply d8|apply c9|apply d7|apply d5|apply g8|apply e7|apply j5|apply e6|apply j8))|(first|((with_reducible apply k9);exact rfl;(exact rfl))|((with_reducible apply k6);exact rfl;all_goals (intro hb hp;try (exfalso;omega))))|((with_reducible apply e8);exact rfl;exact rfl;exact hspc _ (hV0.now hS);exact rfl;rintro _ w' ⟨rfl,hS'⟩;replace hS:=hS.transA hS';simp only [k7] at hS;clear hS')|((with_reducible apply d9);exact rfl;(((with_reducible apply Loads.sl c8);exact rfl;exact hS.baseC (k4.cel hrowS rfl) id));exact rfl)|((with_reducible apply e8);exact rfl;exact rfl;exact hf2 _ (har.now hS);exact rfl;rintro _ w' ⟨rfl,hS'⟩;replace hS:=hS.transA hS';simp only [k7] at hS;clear hS')|((with_reducible apply a0s);exact rfl;exact rfl;omega;omega;omega;exact rfl))
    (apply j6);(repeat (first|exact ResL.nil|(apply ResL.cell;exact rfl;(((with_reducible apply Loads.st c8);exact rfl;((exact hS.blkR 1 rfl));exact rfl)))))
    exact ⟨by rw [hff],hS.sub (List.nil_sublist _)⟩
   ·have hdn:decide (addr + ((i:Nat):Int) < 0)=false:=decide_eq_false hneg
    have hff:F=(1,addr + (i:Nat)):=hF.trans (a0l hal (by omega) hall (by unfold u9;rw [hfa]))
    repeat' (first|(first|((with_reducible apply m0);exact rfl;exact rfl;omega;omega;exact rfl)|((with_reducible apply d6 c8);exact rfl;exact rfl)|((with_reducible apply n7 c8);exact rfl;exact rfl;((exact (rfl:_=some [_,_])));exact rfl)|((with_reducible apply j7 hS c8);(iterate 3 exact rfl);intro g w' hS';clear hS;have hS:=hS';clear hS')|(first|((with_reducible apply i7 hS c8 (i:=0));(iterate 8 exact rfl);((exact (rfl:_=[_,_,_,_])));intro w' hS';simp only [List.set] at hS';clear hS;have hS:=hS';clear hS')|((with_reducible apply i7 hS c8 (i:=1));(iterate 8 exact rfl);((exact (rfl:_=[_,_])));intro w' hS';simp only [List.set] at hS';clear hS;have hS:=hS';clear hS'))|(first|((with_reducible apply p9);(iterate 4 exact rfl);(assumption))|((with_reducible apply n0);exact rfl;((assumption));exact rfl;exact rfl)))|(first|(with_reducible first|apply d8|apply c9|apply d7|apply d5|apply g8|apply e7|apply j5|apply e6|apply j8))|(first|((with_reducible apply k9);exact rfl;(exact rfl))|((with_reducible apply k6);exact rfl;all_goals (intro hb hp;try (exfalso;omega))))|((with_reducible apply e8);exact rfl;exact rfl;exact hspc _ (hV0.now hS);exact rfl;rintro _ w' ⟨rfl,hS'⟩;replace hS:=hS.transA hS';simp only [k7] at hS;clear hS')|((with_reducible apply d9);exact rfl;(((with_reducible apply Loads.sl c8);exact rfl;exact hS.baseC (k4.cel hrowS rfl) id));exact rfl)|((with_reducible apply e8);exact rfl;exact rfl;exact hf2 _ (har.now hS);exact rfl;rintro _ w' ⟨rfl,hS'⟩;replace hS:=hS.transA hS';simp only [k7] at hS;clear hS')|((with_reducible apply a0s);exact rfl;exact rfl;omega;omega;omega;exact rfl))
    (apply j6);(repeat (first|exact ResL.nil|(apply ResL.cell;exact rfl;(((with_reducible apply Loads.st c8);exact rfl;((exact hS.blkR 1 rfl));exact rfl)))))
    exact ⟨by rw [hff],hS.sub (List.nil_sublist _)⟩
  |some a=>
   rw [hfa] at hf2
   unfold a3b arC at hf2
   dsimp only [Option.getD,Option.isSome] at hf2
   by_cases hneg:addr + (i:Nat) < 0
   ·have hdn:decide (addr + ((i:Nat):Int) < 0)=true:=decide_eq_true hneg
    have hff:F=(1,addr + (i:Nat)):=hF.trans (a0l hal (by omega) hall (by unfold u9;rw [hfa];exact if_pos hneg))
    repeat' (first|(first|((with_reducible apply m0);exact rfl;exact rfl;omega;omega;exact rfl)|((with_reducible apply d6 c8);exact rfl;exact rfl)|((with_reducible apply n7 c8);exact rfl;exact rfl;((exact (rfl:_=some [_,_])));exact rfl)|((with_reducible apply j7 hS c8);(iterate 3 exact rfl);intro g w' hS';clear hS;have hS:=hS';clear hS')|(first|((with_reducible apply i7 hS c8 (i:=0));(iterate 8 exact rfl);((exact (rfl:_=[_,_,_,_])));intro w' hS';simp only [List.set] at hS';clear hS;have hS:=hS';clear hS')|((with_reducible apply i7 hS c8 (i:=1));(iterate 8 exact rfl);((exact (rfl:_=[_,_])));intro w' hS';simp only [List.set] at hS';clear hS;have hS:=hS';clear hS'))|(first|((with_reducible apply a0f);(iterate 4 exact rfl);((assumption));exact rfl)|((with_reducible apply m9);exact rfl;((assumption));exact rfl;exact rfl)))|(first|(with_reducible first|apply d8|apply c9|apply d7|apply d5|apply g8|apply e7|apply j5|apply e6|apply j8))|(first|((with_reducible apply k9);exact rfl;(exact rfl))|((with_reducible apply k6);exact rfl;all_goals (intro hb hp;try (exfalso;omega))))|((with_reducible apply e8);exact rfl;exact rfl;exact hspc _ (hV0.now hS);exact rfl;rintro _ w' ⟨rfl,hS'⟩;replace hS:=hS.transA hS';simp only [k7] at hS;clear hS')|((with_reducible apply d9);exact rfl;(((with_reducible apply Loads.sl c8);exact rfl;exact hS.baseC (k4.cel hrowS rfl) id));exact rfl)|((with_reducible apply e8);exact rfl;exact rfl;exact hf2 _ (har.now hS);exact rfl;rintro _ w' ⟨rfl,hS'⟩;replace hS:=hS.transA hS';simp only [k7] at hS;clear hS')|((with_reducible apply a0s);exact rfl;exact rfl;omega;omega;omega;exact rfl))
    (apply j6);(repeat (first|exact ResL.nil|(apply ResL.cell;exact rfl;(((with_reducible apply Loads.st c8);exact rfl;((exact hS.blkR 1 rfl));exact rfl)))))
    exact ⟨by rw [hff],hS.sub (List.nil_sublist _)⟩
   have hdn:decide (addr + ((i:Nat):Int) < 0)=false:=decide_eq_false hneg
   have hdv:(addr + ((i:Nat):Int)).tdiv 16=(addr + (i:Nat)) / 16:=Int.tdiv_eq_ediv_of_nonneg (by omega)
   have haok:a.ok:=(a0F hc (by rw [hdv] at hfa;exact hfa)).1
   unfold Ar.ok at haok
   (skip)
   have h1:=b6n (p:=a.prot) (by omega) (by omega)
   by_cases hp1:a.prot=1∨a.prot=3
   ·rw [if_pos hp1] at h1
    repeat' (first|(first|((with_reducible apply m0);exact rfl;exact rfl;omega;omega;exact rfl)|((with_reducible apply d6 c8);exact rfl;exact rfl)|((with_reducible apply d9);exact rfl;(((with_reducible apply Loads.sc c8);exact rfl;((exact hS.blkC 0 rfl rfl))));exact rfl)|((with_reducible apply j7 hS c8);(iterate 3 exact rfl);intro g w' hS';clear hS;have hS:=hS';clear hS')|(((with_reducible apply i7 hS c8 (i:=0));(iterate 8 exact rfl);((exact (rfl:_=[_,_,_,_])));intro w' hS';simp only [List.set] at hS';clear hS;have hS:=hS';clear hS'))|(first|((with_reducible apply p9);(iterate 4 exact rfl);first|exact rfl|assumption)|((with_reducible apply a0f);(iterate 4 exact rfl);((exact rfl));exact rfl)|((with_reducible apply m9);exact rfl;((exact rfl));exact rfl;exact rfl)|((with_reducible apply n0);exact rfl;(first|exact rfl|assumption);exact rfl;exact rfl)))|(first|(with_reducible first|apply d8|apply c9|apply d7|apply d5|apply g8|apply e7|apply k8))|(first|((with_reducible apply l6);exact rfl;(exact rfl))|((with_reducible apply k6);exact rfl;all_goals (intro hb hp;try (exfalso;omega))))|((with_reducible apply e8);exact rfl;exact rfl;exact hspc _ (hV0.now hS);exact rfl;rintro _ w' ⟨rfl,hS'⟩;replace hS:=hS.transA hS';simp only [k7] at hS;clear hS')|((with_reducible apply d9);exact rfl;(((with_reducible apply Loads.sl c8);exact rfl;exact hS.baseC (k4.cel hrowS rfl) id));exact rfl)|((with_reducible apply e8);exact rfl;exact rfl;exact hf2 _ (har.now hS);exact rfl;rintro _ w' ⟨rfl,hS'⟩;replace hS:=hS.transA hS';simp only [k7] at hS;clear hS')|((with_reducible apply a0s);exact rfl;exact rfl;omega;omega;omega;exact rfl)|((with_reducible apply a6I);exact rfl;exact rfl;exact h1;exact rfl))
    have hnx:u9 x.s.areas 1 (addr + (i:Nat))=none:=by
     unfold u9
     rw [hfa]
     dsimp only
     rw [if_neg hneg,if_neg]
     omega
    exact a02 (i + 1) (by repeat (first|exact Fr.sub_nil _|(apply Fr.sub_cons;exact rfl))) (by omega) (fun j hj=>by
     by_cases e:j=i
     ·rw [e];exact hnx
     ·exact hall j (by omega)) (by omega) (hS.sub (by repeat (first|exact List.Sublist.refl _|apply List.Sublist.cons)))
   ·rw [if_neg hp1] at h1
    have hff:F=(2,addr + (i:Nat)):=hF.trans (a0l hal (by omega) hall (by
     unfold u9
     rw [hfa]
     dsimp only
     rw [if_neg hneg,if_pos]
     omega))
    repeat' (first|(first|((with_reducible apply m0);exact rfl;exact rfl;omega;omega;exact rfl)|((with_reducible apply d6 c8);exact rfl;exact rfl)|((with_reducible apply d9);exact rfl;(((with_reducible apply Loads.sc c8);exact rfl;((exact hS.blkC 0 rfl rfl))));exact rfl)|((with_reducible apply n7 c8);exact rfl;exact rfl;((exact (rfl:_=some [_,_])));exact rfl)|((with_reducible apply j7 hS c8);(iterate 3 exact rfl);intro g w' hS';clear hS;have hS:=hS';clear hS')|(first|((with_reducible apply i7 hS c8 (i:=0));(iterate 8 exact rfl);((exact (rfl:_=[_,_,_,_])));intro w' hS';simp only [List.set] at hS';clear hS;have hS:=hS';clear hS')|((with_reducible apply i7 hS c8 (i:=1));(iterate 8 exact rfl);((exact (rfl:_=[_,_])));intro w' hS';simp only [List.set] at hS';clear hS;have hS:=hS';clear hS'))|(first|((with_reducible apply p9);(iterate 4 exact rfl);first|exact rfl|assumption)|((with_reducible apply m9);exact rfl;((exact rfl));exact rfl;exact rfl)|((with_reducible apply n0);exact rfl;((assumption));exact rfl;exact rfl)))|(first|(with_reducible first|apply d8|apply c9|apply d7|apply d5|apply g8|apply e7|apply j5|apply e6|apply j8))|(first|((with_reducible apply k9);exact rfl;(exact rfl))|((with_reducible apply l6);exact rfl;(exact rfl))|((with_reducible apply k6);exact rfl;all_goals (intro hb hp;try (exfalso;omega))))|((with_reducible apply e8);exact rfl;exact rfl;exact hspc _ (hV0.now hS);exact rfl;rintro _ w' ⟨rfl,hS'⟩;replace hS:=hS.transA hS';simp only [k7] at hS;clear hS')|((with_reducible apply d9);exact rfl;(((with_reducible apply Loads.sl c8);exact rfl;exact hS.baseC (k4.cel hrowS rfl) id));exact rfl)|((with_reducible apply e8);exact rfl;exact rfl;exact hf2 _ (har.now hS);exact rfl;rintro _ w' ⟨rfl,hS'⟩;replace hS:=hS.transA hS';simp only [k7] at hS;clear hS')|((with_reducible apply a0s);exact rfl;exact rfl;omega;omega;omega;exact rfl)|((with_reducible apply a6I);exact rfl;exact rfl;exact h1;exact rfl))
    (apply j6);(repeat (first|exact ResL.nil|(apply ResL.cell;exact rfl;(((with_reducible apply Loads.st c8);exact rfl;((exact hS.blkR 1 rfl));exact rfl)))))
    exact ⟨by rw [hff],hS.sub (List.nil_sublist _)⟩
 ·refine j0 (fn:=Try.f65) ⟨Try.func65,by kernel_rfl,by kernel_rfl⟩ (by exact rfl) Try.ntmps65 (by exact rfl) ?_
  have hS:=St.start w
  repeat' (first|(first|((with_reducible apply d6 c8);exact rfl;exact rfl)|((with_reducible apply j7 hS c8);(iterate 3 exact rfl);intro g w' hS';clear hS;have hS:=hS';clear hS')|(first|((with_reducible apply p9);(iterate 4 exact rfl);(exact rfl))|((with_reducible apply m9);exact rfl;((exact rfl));exact rfl;exact rfl)))|(first|(with_reducible first|apply d8|apply c9|apply d7|apply d5|apply g8|apply e7))|(((with_reducible apply a1e);exact rfl;all_goals (intro hb hp;try (exfalso;omega))))|((with_reducible apply a24);exact rfl;exact rfl;omega;exact rfl))
  replace hS:St nF w w' (.blk _ [.int .i64 0,.int .i64 0]::[]):=hS
  refine a1f hS 23 [0,1,3,8,22] rfl (n) (fun i=>∀ j:Nat,j < i→u9 x.s.areas 2 (addr + (j:Nat))=none) 0 rfl (Nat.zero_le _) (by (intros;omega)) ?_
  rintro i w1 hi hall hS'
  clear hS;have hS:=hS';clear hS'
  by_cases hlt:i < n
  rotate_left
  ·obtain rfl:i=n:=by omega
   have hff:F=(0,0):=hF.trans (a3d hal (fun j hj=>hall j (by omega)))
   repeat' (first|(first|((with_reducible apply d6 c8);exact rfl;exact rfl)|((with_reducible apply n7 c8);exact rfl;exact rfl;((exact (rfl:_=some [_,_])));exact rfl)|(((with_reducible apply i7 hS c8 (i:=0));(iterate 8 exact rfl);((exact (rfl:_=[_,_])));intro w' hS';simp only [List.set] at hS';clear hS;have hS:=hS';clear hS')))|(first|(with_reducible first|apply d8|apply c9|apply d7|apply d5|apply n5|apply j5|apply j4|apply i9))|(((with_reducible apply k6);exact rfl;all_goals (intro hb hp;try (exfalso;omega)))))
   (apply j6);(repeat (first|exact ResL.nil|(apply ResL.cell;exact rfl;(((with_reducible apply Loads.st c8);exact rfl;((exact hS.blkR 0 rfl));exact rfl)))))
   exact ⟨by rw [hff],hS.sub (List.nil_sublist _)⟩
  have hbd:-9223372036854775808≤addr + (i:Nat)∧addr + (i:Nat)≤9223372036854775807:=by
   by_cases h0:i=0
   ·subst h0;omega
   ·have:=hstep i hall (by omega);omega
  have hbd1:=hbd.1
  have hbd2:=hbd.2
  have hf2:=fun w1 h=>hfnd w1 h ((addr + (i:Nat)).tdiv 16)
  rw [a1g hc] at hf2
  cases hfa:v7 x.s.areas ((addr + (i:Nat)).tdiv 16) with
  |none=>
   rw [hfa] at hf2
   unfold a3b arC at hf2
   dsimp only [Option.getD,Option.isSome] at hf2
   by_cases hneg:addr + (i:Nat) < 0
   ·have hdn:decide (addr + ((i:Nat):Int) < 0)=true:=decide_eq_true hneg
    have hff:F=(1,addr + (i:Nat)):=hF.trans (a0l hal (by omega) hall (by unfold u9;rw [hfa]))
    repeat' (first|(first|((with_reducible apply m0);exact rfl;exact rfl;omega;omega;exact rfl)|((with_reducible apply d6 c8);exact rfl;exact rfl)|((with_reducible apply n7 c8);exact rfl;exact rfl;((exact (rfl:_=some [_,_])));exact rfl)|((with_reducible apply j7 hS c8);(iterate 3 exact rfl);intro g w' hS';clear hS;have hS:=hS';clear hS')|(first|((with_reducible apply i7 hS c8 (i:=0));(iterate 8 exact rfl);((exact (rfl:_=[_,_,_,_])));intro w' hS';simp only [List.set] at hS';clear hS;have hS:=hS';clear hS')|((with_reducible apply i7 hS c8 (i:=1));(iterate 8 exact rfl);((exact (rfl:_=[_,_])));intro w' hS';simp only [List.set] at hS';clear hS;have hS:=hS';clear hS'))|(first|((with_reducible apply a0f);(iterate 4 exact rfl);((assumption));exact rfl)|((with_reducible apply m9);exact rfl;((assumption));exact rfl;exact rfl)))|(first|(with_reducible first|apply d8|apply c9|apply d7|apply d5|apply g8|apply e7|apply j5|apply e6|apply j8))|(first|((with_reducible apply k9);exact rfl;(exact rfl))|((with_reducible apply k6);exact rfl;all_goals (intro hb hp;try (exfalso;omega))))|((with_reducible apply e8);exact rfl;exact rfl;exact hspc _ (hV0.now hS);exact rfl;rintro _ w' ⟨rfl,hS'⟩;replace hS:=hS.transA hS';simp only [k7] at hS;clear hS')|((with_reducible apply d9);exact rfl;(((with_reducible apply Loads.sl c8);exact rfl;exact hS.baseC (k4.cel hrowS rfl) id));exact rfl)|((with_reducible apply e8);exact rfl;exact rfl;exact hf2 _ (har.now hS);exact rfl;rintro _ w' ⟨rfl,hS'⟩;replace hS:=hS.transA hS';simp only [k7] at hS;clear hS')|((with_reducible apply a0s);exact rfl;exact rfl;omega;omega;omega;exact rfl))
    (apply j6);(repeat (first|exact ResL.nil|(apply ResL.cell;exact rfl;(((with_reducible apply Loads.st c8);exact rfl;((exact hS.blkR 1 rfl));exact rfl)))))
    exact ⟨by rw [hff],hS.sub (List.nil_sublist _)⟩
   ·have hdn:decide (addr + ((i:Nat):Int) < 0)=false:=decide_eq_false hneg
    have hff:F=(1,addr + (i:Nat)):=hF.trans (a0l hal (by omega) hall (by unfold u9;rw [hfa]))
    repeat' (first|(first|((with_reducible apply m0);exact rfl;exact rfl;omega;omega;exact rfl)|((with_reducible apply d6 c8);exact rfl;exact rfl)|((with_reducible apply n7 c8);exact rfl;exact rfl;((exact (rfl:_=some [_,_])));exact rfl)|((with_reducible apply j7 hS c8);(iterate 3 exact rfl);intro g w' hS';clear hS;have hS:=hS';clear hS')|(first|((with_reducible apply i7 hS c8 (i:=0));(iterate 8 exact rfl);((exact (rfl:_=[_,_,_,_])));intro w' hS';simp only [List.set] at hS';clear hS;have hS:=hS';clear hS')|((with_reducible apply i7 hS c8 (i:=1));(iterate 8 exact rfl);((exact (rfl:_=[_,_])));intro w' hS';simp only [List.set] at hS';clear hS;have hS:=hS';clear hS'))|(first|((with_reducible apply p9);(iterate 4 exact rfl);(assumption))|((with_reducible apply n0);exact rfl;((assumption));exact rfl;exact rfl)))|(first|(with_reducible first|apply d8|apply c9|apply d7|apply d5|apply g8|apply e7|apply j5|apply e6|apply j8))|(first|((with_reducible apply k9);exact rfl;(exact rfl))|((with_reducible apply k6);exact rfl;all_goals (intro hb hp;try (exfalso;omega))))|((with_reducible apply e8);exact rfl;exact rfl;exact hspc _ (hV0.now hS);exact rfl;rintro _ w' ⟨rfl,hS'⟩;replace hS:=hS.transA hS';simp only [k7] at hS;clear hS')|((with_reducible apply d9);exact rfl;(((with_reducible apply Loads.sl c8);exact rfl;exact hS.baseC (k4.cel hrowS rfl) id));exact rfl)|((with_reducible apply e8);exact rfl;exact rfl;exact hf2 _ (har.now hS);exact rfl;rintro _ w' ⟨rfl,hS'⟩;replace hS:=hS.transA hS';simp only [k7] at hS;clear hS')|((with_reducible apply a0s);exact rfl;exact rfl;omega;omega;omega;exact rfl))
    (apply j6);(repeat (first|exact ResL.nil|(apply ResL.cell;exact rfl;(((with_reducible apply Loads.st c8);exact rfl;((exact hS.blkR 1 rfl));exact rfl)))))
    exact ⟨by rw [hff],hS.sub (List.nil_sublist _)⟩
  |some a=>
   rw [hfa] at hf2
   unfold a3b arC at hf2
   dsimp only [Option.getD,Option.isSome] at hf2
   by_cases hneg:addr + (i:Nat) < 0
   ·have hdn:decide (addr + ((i:Nat):Int) < 0)=true:=decide_eq_true hneg
    have hff:F=(1,addr + (i:Nat)):=hF.trans (a0l hal (by omega) hall (by unfold u9;rw [hfa];exact if_pos hneg))
    repeat' (first|(first|((with_reducible apply m0);exact rfl;exact rfl;omega;omega;exact rfl)|((with_reducible apply d6 c8);exact rfl;exact rfl)|((with_reducible apply n7 c8);exact rfl;exact rfl;((exact (rfl:_=some [_,_])));exact rfl)|((with_reducible apply j7 hS c8);(iterate 3 exact rfl);intro g w' hS';clear hS;have hS:=hS';clear hS')|(first|((with_reducible apply i7 hS c8 (i:=0));(iterate 8 exact rfl);((exact (rfl:_=[_,_,_,_])));intro w' hS';simp only [List.set] at hS';clear hS;have hS:=hS';clear hS')|((with_reducible apply i7 hS c8 (i:=1));(iterate 8 exact rfl);((exact (rfl:_=[_,_])));intro w' hS';simp only [List.set] at hS';clear hS;have hS:=hS';clear hS'))|(first|((with_reducible apply a0f);(iterate 4 exact rfl);((assumption));exact rfl)|((with_reducible apply m9);exact rfl;((assumption));exact rfl;exact rfl)))|(first|(with_reducible first|apply d8|apply c9|apply d7|apply d5|apply g8|apply e7|apply j5|apply e6|apply j8))|(first|((with_reducible apply k9);exact rfl;(exact rfl))|((with_reducible apply k6);exact rfl;all_goals (intro hb hp;try (exfalso;omega))))|((with_reducible apply e8);exact rfl;exact rfl;exact hspc _ (hV0.now hS);exact rfl;rintro _ w' ⟨rfl,hS'⟩;replace hS:=hS.transA hS';simp only [k7] at hS;clear hS')|((with_reducible apply d9);exact rfl;(((with_reducible apply Loads.sl c8);exact rfl;exact hS.baseC (k4.cel hrowS rfl) id));exact rfl)|((with_reducible apply e8);exact rfl;exact rfl;exact hf2 _ (har.now hS);exact rfl;rintro _ w' ⟨rfl,hS'⟩;replace hS:=hS.transA hS';simp only [k7] at hS;clear hS')|((with_reducible apply a0s);exact rfl;exact rfl;omega;omega;omega;exact rfl))
    (apply j6);(repeat (first|exact ResL.nil|(apply ResL.cell;exact rfl;(((with_reducible apply Loads.st c8);exact rfl;((exact hS.blkR 1 rfl));exact rfl)))))
    exact ⟨by rw [hff],hS.sub (List.nil_sublist _)⟩
   have hdn:decide (addr + ((i:Nat):Int) < 0)=false:=decide_eq_false hneg
   have hdv:(addr + ((i:Nat):Int)).tdiv 16=(addr + (i:Nat)) / 16:=Int.tdiv_eq_ediv_of_nonneg (by omega)
   have haok:a.ok:=(a0F hc (by rw [hdv] at hfa;exact hfa)).1
   unfold Ar.ok at haok
   (skip)
   have h1:=b5M (p:=a.prot) (by omega) (by omega)
   by_cases hp1:2≤a.prot
   ·rw [if_pos hp1] at h1
    repeat' (first|(first|((with_reducible apply m0);exact rfl;exact rfl;omega;omega;exact rfl)|((with_reducible apply d6 c8);exact rfl;exact rfl)|((with_reducible apply d9);exact rfl;(((with_reducible apply Loads.sc c8);exact rfl;((exact hS.blkC 0 rfl rfl))));exact rfl)|((with_reducible apply j7 hS c8);(iterate 3 exact rfl);intro g w' hS';clear hS;have hS:=hS';clear hS')|(((with_reducible apply i7 hS c8 (i:=0));(iterate 8 exact rfl);((exact (rfl:_=[_,_,_,_])));intro w' hS';simp only [List.set] at hS';clear hS;have hS:=hS';clear hS'))|(first|((with_reducible apply p9);(iterate 4 exact rfl);first|exact rfl|assumption)|((with_reducible apply a0f);(iterate 4 exact rfl);((exact rfl));exact rfl)|((with_reducible apply m9);exact rfl;((exact rfl));exact rfl;exact rfl)|((with_reducible apply n0);exact rfl;(first|exact rfl|assumption);exact rfl;exact rfl)))|(first|(with_reducible first|apply d8|apply c9|apply d7|apply d5|apply g8|apply e7|apply k8))|(first|((with_reducible apply l6);exact rfl;(exact rfl))|((with_reducible apply k6);exact rfl;all_goals (intro hb hp;try (exfalso;omega))))|((with_reducible apply e8);exact rfl;exact rfl;exact hspc _ (hV0.now hS);exact rfl;rintro _ w' ⟨rfl,hS'⟩;replace hS:=hS.transA hS';simp only [k7] at hS;clear hS')|((with_reducible apply d9);exact rfl;(((with_reducible apply Loads.sl c8);exact rfl;exact hS.baseC (k4.cel hrowS rfl) id));exact rfl)|((with_reducible apply e8);exact rfl;exact rfl;exact hf2 _ (har.now hS);exact rfl;rintro _ w' ⟨rfl,hS'⟩;replace hS:=hS.transA hS';simp only [k7] at hS;clear hS')|((with_reducible apply a0s);exact rfl;exact rfl;omega;omega;omega;exact rfl)|((with_reducible apply a6I);exact rfl;exact rfl;exact h1;exact rfl))
    have hnx:u9 x.s.areas 2 (addr + (i:Nat))=none:=by
     unfold u9
     rw [hfa]
     dsimp only
     rw [if_neg hneg,if_neg]
     omega
    exact a02 (i + 1) (by repeat (first|exact Fr.sub_nil _|(apply Fr.sub_cons;exact rfl))) (by omega) (fun j hj=>by
     by_cases e:j=i
     ·rw [e];exact hnx
     ·exact hall j (by omega)) (by omega) (hS.sub (by repeat (first|exact List.Sublist.refl _|apply List.Sublist.cons)))
   ·rw [if_neg hp1] at h1
    have hff:F=(2,addr + (i:Nat)):=hF.trans (a0l hal (by omega) hall (by
     unfold u9
     rw [hfa]
     dsimp only
     rw [if_neg hneg,if_pos]
     omega))
    repeat' (first|(first|((with_reducible apply m0);exact rfl;exact rfl;omega;omega;exact rfl)|((with_reducible apply d6 c8);exact rfl;exact rfl)|((with_reducible apply d9);exact rfl;(((with_reducible apply Loads.sc c8);exact rfl;((exact hS.blkC 0 rfl rfl))));exact rfl)|((with_reducible apply n7 c8);exact rfl;exact rfl;((exact (rfl:_=some [_,_])));exact rfl)|((with_reducible apply j7 hS c8);(iterate 3 exact rfl);intro g w' hS';clear hS;have hS:=hS';clear hS')|(first|((with_reducible apply i7 hS c8 (i:=0));(iterate 8 exact rfl);((exact (rfl:_=[_,_,_,_])));intro w' hS';simp only [List.set] at hS';clear hS;have hS:=hS';clear hS')|((with_reducible apply i7 hS c8 (i:=1));(iterate 8 exact rfl);((exact (rfl:_=[_,_])));intro w' hS';simp only [List.set] at hS';clear hS;have hS:=hS';clear hS'))|(first|((with_reducible apply p9);(iterate 4 exact rfl);first|exact rfl|assumption)|((with_reducible apply a0f);(iterate 4 exact rfl);((exact rfl));exact rfl)|((with_reducible apply m9);exact rfl;((exact rfl));exact rfl;exact rfl)|((with_reducible apply n0);exact rfl;(first|exact rfl|assumption);exact rfl;exact rfl)))|(first|(with_reducible first|apply d8|apply c9|apply d7|apply d5|apply g8|apply e7|apply j5|apply e6|apply j8))|(first|((with_reducible apply k9);exact rfl;(exact rfl))|((with_reducible apply l6);exact rfl;(exact rfl))|((with_reducible apply k6);exact rfl;all_goals (intro hb hp;try (exfalso;omega))))|((with_reducible apply e8);exact rfl;exact rfl;exact hspc _ (hV0.now hS);exact rfl;rintro _ w' ⟨rfl,hS'⟩;replace hS:=hS.transA hS';simp only [k7] at hS;clear hS')|((with_reducible apply d9);exact rfl;(((with_reducible apply Loads.sl c8);exact rfl;exact hS.baseC (k4.cel hrowS rfl) id));exact rfl)|((with_reducible apply e8);exact rfl;exact rfl;exact hf2 _ (har.now hS);exact rfl;rintro _ w' ⟨rfl,hS'⟩;replace hS:=hS.transA hS';simp only [k7] at hS;clear hS')|((with_reducible apply a0s);exact rfl;exact rfl;omega;omega;omega;exact rfl)|((with_reducible apply a6I);exact rfl;exact rfl;exact h1;exact rfl))
    (apply j6);(repeat (first|exact ResL.nil|(apply ResL.cell;exact rfl;(((with_reducible apply Loads.st c8);exact rfl;((exact hS.blkR 1 rfl));exact rfl)))))
    exact ⟨by rw [hff],hS.sub (List.nil_sublist _)⟩
end Go.Proofs.Ytejnpppejalhfac
/- kernel.reach. -/
namespace Go.Proofs.Ytejnpppejalhfac
open Go.RowKit Go.Sort
theorem WkV.own {F:Nat→Prop} {w0 w:World} {g:Nat} {k:KV} {sp:Nat} {vh:Value} {held:List Nat} {Γ:List Asr} (hS:St F w0 w (wkS g k sp vh held++(x8 k++Γ))):WkV w g k sp vh held :=
 WkV.of (Γ:=[]) (by rw [List.append_nil];exact St.startM hS) (KRo.own hS)
theorem a59 {K:Ker} {space size way addr:Int} {sp:Nat} (h0:y9 K space size way=0) (hsp:space=(sp:Nat)) (hF:(t6 (l9 K sp) addr size way).1=0):Right K∧1≤size∧size≤8∧(way=0∨way=1∨way=2)∧16≤addr∧addr + size≤4096∧∀ i,0≤i→i < size→At K sp ((addr + i) / 16):=by
 unfold y9 at h0
 by_cases hl:a0n K space=0
 rotate_left
 ·rw [if_neg hl] at h0;exact absurd h0 hl
 rw [if_pos hl] at h0
 by_cases h1:size < 1∨8 < size
 ·rw [if_pos h1] at h0;cases h0
 rw [if_neg h1] at h0
 by_cases h2:way < 0∨2 < way
 ·rw [if_pos h2] at h0;cases h0
 unfold a0n at hl
 by_cases h3:a0Y K=0
 rotate_left
 ·rw [if_neg h3] at hl;exact absurd hl h3
 rw [if_pos h3] at hl
 have hr:=a1m.1 h3
 subst hsp
 by_cases h4:0≤((sp:Nat):Int)∧((sp:Nat):Int) < (K.spaces.length:Int)∧(u7 K ((sp:Nat):Int).toNat).live=true
 rotate_left
 ·rw [if_neg h4] at hl;cases hl
 obtain ⟨-,hlt,hlv⟩:=h4
 have hsl:sp < K.spaces.length:=by omega
 have hs:=List.getElem?_eq_getElem hsl
 have hsc:=(a0q hr _ (List.mem_of_getElem? hs)).1
 have hA:l9 K sp=K.spaces[sp].areas:=by unfold l9;rw [x7 hs]
 have hc:q7 (l9 K sp)=0:=by rw [hA];exact hsc.ar
 obtain ⟨-,hno⟩:=a8W hc hF (by omega)
 have hf0:=a2e hc (hno 0 (by omega) (by omega))
 have hf1:=a2e hc (hno (size - 1) (by omega) (by omega))
 refine ⟨hr,by omega,by omega,by omega,by omega,by omega,fun i hi1 hi2=>⟨hlv,?_⟩⟩
 obtain ⟨-,-,-,a,ha⟩:=a2e hc (hno i hi1 hi2)
 rw [ha]
 rfl
def a21 (F:Int×Int):Value:=.agg #[.int .i64 F.1,.int .i64 F.2]
set_option maxRecDepth 100000 in
set_option maxHeartbeats 8000000 in
theorem a76 {w:World} {k:KV} (hK:KerV w k) {space addr size way:Int} (hb0:-9223372036854775808≤addr) (hb1:addr≤9223372036854775807):Fn Try.prog 39 [.agg (kvC k).toArray,.int .i64 space,.int .i64 addr,.int .i64 size,.int .i64 way] w (fun v w'=>
  (y9 k.K space size way≠0∧v=.tuple #[.pointer none,a21 (0,0),.int .i64 (y9 k.K space size way)]∧St nF w w' []) ∨
  (y9 k.K space size way=0∧(t6 (l9 k.K space.toNat) addr size way).1≠0∧v=.tuple #[.pointer none,a21 (t6 (l9 k.K space.toNat) addr size way),.int .i64 0]∧St nF w w' []) ∨
  ∃ (g sp:Nat) (k':KV) (vh:Value) (held:List Nat),y9 k.K space size way=0∧(t6 (l9 k.K space.toNat) addr size way).1=0∧space=(sp:Nat)∧v=.tuple #[.pointer (some ⟨g,0,none⟩),a21 (0,0),.int .i64 0]∧k'.K=a1i k.K sp addr size (decide (way=1))∧St nF w w' (wkS g k' sp vh held++x8 k')):=by
 have hbeg:=fun w1 (h:KerV w1 k)=>a4i h space
 have hK0:=hK
 obtain ⟨RE,hRE⟩:∃ e,e=y9 k.K space size way:=⟨_,rfl⟩
 rw [← hRE]
 unfold y9 at hRE
 obtain ⟨sh,fr,sl,sps,hand,vsh,vfr,vsl,vsp⟩:=k
 obtain ⟨k1,k2,k3,k4,k5⟩:=hK
 dsimp only at k1 k2 k3 k4 k5
 obtain ⟨p1,c1,rfl⟩:=k1.sl.len
 obtain ⟨p2,c2,rfl⟩:=k2.len
 obtain ⟨p3,c3,rfl⟩:=k3.len
 obtain ⟨p4,c4,rfl⟩:=k4.len
 generalize hKK:KV.K ⟨sh,fr,sl,sps,hand,.slice p1 sh.length c1,.slice p2 fr.length c2,.slice p3 sl.length c3,.slice p4 sps.length c4⟩=K at hbeg hRE ⊢
 unfold a21
 dsimp only
 have hpre:∀ w1 Γ1,St nF w w1 Γ1→KerV w1 ⟨sh,fr,sl,sps,hand,.slice p1 sh.length c1,.slice p2 fr.length c2,.slice p3 sl.length c3,.slice p4 sps.length c4⟩:=fun w1 Γ1 h=>hK0.now h
 unfold kvC at hbeg ⊢
 dsimp only at hbeg ⊢
 refine j0 (fn:=Try.f39) ⟨Try.func39,by kernel_rfl,by kernel_rfl⟩ (by exact rfl) Try.ntmps39 (by exact rfl) ?_
 have hS:=St.start w
 repeat' (first|(first|((with_reducible apply d6 c8);exact rfl;exact rfl)|((with_reducible apply d9);exact rfl;(((with_reducible apply Loads.st c8);exact rfl;((exact hS.blkR 1 rfl));exact rfl));exact rfl)|((with_reducible apply p7 hS);(iterate 3 exact rfl);intro g w' hS';clear hS;have hS:=hS';clear hS')|((with_reducible apply j7 hS c8);(iterate 3 exact rfl);intro g w' hS';clear hS;have hS:=hS';clear hS'))|(first|(with_reducible first|apply d8|apply c9|apply d7|apply d5)))
 refine e8 rfl rfl (hbeg _ (hpre _ _ hS)) rfl ?_
 rintro v w2 (⟨he,rfl,hS'⟩|⟨gw,sp,k',he,hsp,rfl,hk',hS'⟩)
 ·replace hS:=hS.transA hS'
  simp only [k7] at hS
  rw [if_neg he] at hRE
  have hd:decide (a0n K space=0)=false:=decide_eq_false he
  rw [← hRE] at he hd ⊢
  repeat' (first|(first|((with_reducible apply d6 c8);exact rfl;exact rfl)|((with_reducible apply n7 c8);exact rfl;exact rfl;((exact (rfl:_=some [_,_])));exact rfl)|(((with_reducible apply i7 hS c8 (i:=0));(iterate 8 exact rfl);((exact (rfl:_=[_,_])));intro w' hS';simp only [List.set] at hS';clear hS;have hS:=hS';clear hS')))|(first|(with_reducible first|apply d8|apply c9|apply d7|apply d5|apply j5|apply e6))|(((with_reducible apply a1e);exact rfl;all_goals (intro hb hp;try (exfalso;omega)))))
  (apply a1C);(repeat (first|exact ResL.nil|(apply ResL.tmp;exact rfl)|(apply ResL.cell;exact rfl;(((with_reducible apply Loads.st c8);exact rfl;((exact hS.blkR 0 rfl));exact rfl)))))
  exact Or.inl ⟨he,rfl,hS.sub (List.nil_sublist _)⟩
 rw [if_pos he] at hRE
 replace hS:=hS.trans hS'
 clear hS' hbeg
 replace hS:=hS.perm List.perm_append_comm
 dsimp only [List.cons_append,List.nil_append] at hS
 have hsub:∀ {w1 L},St nF w w1 L→St nF w w1 []:=fun h=>h.sub (List.nil_sublist _)
 by_cases h1:size < 1∨8 < size
 ·rw [if_pos h1] at hRE
  subst hRE
  repeat' (first|(first|((with_reducible apply d6 c8);exact rfl;exact rfl)|((with_reducible apply n7 c8);exact rfl;exact rfl;((exact (rfl:_=some [_,_])));exact rfl)|(((with_reducible apply i7 hS c8 (i:=0));(iterate 8 exact rfl);((exact (rfl:_=[_,_])));intro w' hS';simp only [List.set] at hS';clear hS;have hS:=hS';clear hS'))|(first|((with_reducible apply p9);(iterate 4 exact rfl);(assumption))|((with_reducible apply a0f);(iterate 4 exact rfl);((assumption));exact rfl)|((with_reducible apply r6);(iterate 3 exact rfl);all_goals (intro hb hp;try (exfalso;omega)))|((with_reducible apply m9);exact rfl;((assumption));exact rfl;exact rfl)|((with_reducible apply n0);exact rfl;((assumption));exact rfl;exact rfl)))|(first|(with_reducible first|apply d8|apply c9|apply d7|apply d5|apply g8|apply j5|apply e6))|(first|((with_reducible apply k9);exact rfl;(exact rfl))|((with_reducible apply l6);exact rfl;(exact rfl))|((with_reducible apply k6);exact rfl;all_goals (intro hb hp;try (exfalso;omega)))))
  all_goals (apply a1C)
  all_goals (repeat (first|exact ResL.nil|(apply ResL.tmp;exact rfl)|(apply ResL.cell;exact rfl;(((with_reducible apply Loads.st c8);exact rfl;((exact hS.blkR 0 rfl));exact rfl)))))
  all_goals (exact Or.inl ⟨by omega,rfl,hsub hS⟩)
 rw [if_neg h1] at hRE
 by_cases h2:way < 0∨2 < way
 ·rw [if_pos h2] at hRE
  subst hRE
  repeat' (first|(first|((with_reducible apply d6 c8);exact rfl;exact rfl)|((with_reducible apply n7 c8);exact rfl;exact rfl;((exact (rfl:_=some [_,_])));exact rfl)|(((with_reducible apply i7 hS c8 (i:=0));(iterate 8 exact rfl);((exact (rfl:_=[_,_])));intro w' hS';simp only [List.set] at hS';clear hS;have hS:=hS';clear hS'))|(first|((with_reducible apply p9);(iterate 4 exact rfl);(assumption))|((with_reducible apply a0f);(iterate 4 exact rfl);((assumption));exact rfl)|((with_reducible apply r6);(iterate 3 exact rfl);all_goals (intro hb hp;try (exfalso;omega)))|((with_reducible apply m9);exact rfl;((assumption));exact rfl;exact rfl)|((with_reducible apply n0);exact rfl;((assumption));exact rfl;exact rfl)))|(first|(with_reducible first|apply d8|apply c9|apply d7|apply d5|apply g8|apply j5|apply e6))|(first|((with_reducible apply k9);exact rfl;(exact rfl))|((with_reducible apply l6);exact rfl;(exact rfl))|((with_reducible apply k6);exact rfl;all_goals (intro hb hp;try (exfalso;omega)))))
  all_goals (apply a1C)
  all_goals (repeat (first|exact ResL.nil|(apply ResL.tmp;exact rfl)|(apply ResL.cell;exact rfl;(((with_reducible apply Loads.st c8);exact rfl;((exact hS.blkR 0 rfl));exact rfl)))))
  all_goals (exact Or.inl ⟨by omega,rfl,hsub hS⟩)
 rw [if_neg h2] at hRE
 have hRE0:y9 K space size way=0:=by unfold y9;rw [if_pos he,if_neg h1,if_neg h2]
 subst hsp
 rw [show (((sp:Nat):Int)).toNat=sp from rfl]
 have hr:Right k'.K:=by
  rw [hk']
  unfold a0n at he
  by_cases h3:a0Y K=0
  ·exact a1m.1 h3
  ·rw [if_neg h3] at he;exact absurd he h3
 obtain ⟨x,hx⟩:∃ x,k'.sp[sp]?=some x:=by
  unfold a0n at he
  by_cases h3:a0Y K=0
  ·rw [if_pos h3] at he
   by_cases h4:0≤((sp:Nat):Int)∧((sp:Nat):Int) < (K.spaces.length:Int)∧(u7 K ((sp:Nat):Int).toNat).live=true
   ·have:K.spaces.length=k'.sp.length:=by rw [← hk'];exact List.length_map _
    exact l8 (by omega)
   ·rw [if_neg h4] at he;cases he
  ·rw [if_neg h3] at he;exact absurd he h3
 have hxA:l9 K sp=x.s.areas:=by rw [← hk'];unfold l9;rw [x7 (a0V hx)]
 have hsc:=(a0q hr x.s (List.mem_of_getElem? (a0V hx))).1
 obtain ⟨F,hF⟩:∃ F,F=t6 (l9 K sp) addr size way:=⟨_,rfl⟩
 have hflt:=fun w1 vh held Γ1 (h:St nF w w1 (wkS gw k' sp vh held++(x8 k'++Γ1)))=>b01 (WkV.own h) hx hsc.ar hb0 hb1 (size:=size) (way:=way) (by omega) (by omega) (by omega)
 rw [← hxA,← hF] at hflt
 rw [← hF]
 have hback:∀ {w1 a b},St nF w w1 (a::b::(wkS gw k' sp (.slice none 0 0) []++x8 k'))→St nF w w1 (wkS gw k' sp (.slice none 0 0) []++(x8 k'++[a,b])):=fun h=>by
  rw [← List.append_assoc]
  exact h.perm (List.perm_append_comm (l₁:=[_,_]))
 by_cases hF0:F.1=0
 rotate_left
 ·have hd:decide (F.1=0)=false:=decide_eq_false hF0
  repeat' (first|(first|((with_reducible apply d6 c8);exact rfl;exact rfl)|((with_reducible apply d9);exact rfl;(((with_reducible apply Loads.sc c8);exact rfl;((exact hS.blkC 0 rfl rfl))));exact rfl)|((with_reducible apply j7 hS c8);(iterate 3 exact rfl);intro g w' hS';clear hS;have hS:=hS';clear hS')|(((with_reducible apply i7 hS c8 (i:=0));(iterate 8 exact rfl);((exact (rfl:_=[_,_])));intro w' hS';simp only [List.set] at hS';clear hS;have hS:=hS';clear hS'))|(first|((with_reducible apply p9);(iterate 4 exact rfl);(assumption))|((with_reducible apply r6);(iterate 3 exact rfl);all_goals (intro hb hp;try (exfalso;omega)))|((with_reducible apply n0);exact rfl;((assumption));exact rfl;exact rfl)))|(first|(with_reducible first|apply d8|apply c9|apply d7|apply d5|apply g8))|(first|((with_reducible apply l6);exact rfl;(exact rfl))|((with_reducible apply k6);exact rfl;all_goals (intro hb hp;try (exfalso;omega)))|((with_reducible apply a1e);exact rfl;all_goals (intro hb hp;try (exfalso;omega))))|((with_reducible apply e8);exact rfl;exact rfl;exact hflt _ _ _ _ (hback hS);exact rfl;rintro _ w' ⟨rfl,hS'⟩;replace hS:=hS.transA hS';simp only [k7] at hS;clear hS'))
  (focus ((with_reducible apply a0X _ _ _ 2 (by kernel_rfl) (by kernel_rfl) hS);(simp only [List.take_succ_cons,List.take_zero,List.drop_succ_cons,List.drop_zero]);(repeat' ((first|((with_reducible apply o5 c8);exact rfl;exact rfl)|((with_reducible apply n6);exact rfl;(intro wd hd;replace hd:St _ _ wd _:=hd;(((with_reducible apply Loads.st c8);exact rfl;((exact hd.blkR 0 rfl));exact rfl)));exact rfl))));all_goals ((with_reducible apply r5);intro w' hS';clear hS;have hS:=hS';clear hS')))
  repeat' (first|(first|((with_reducible apply d6 c8);exact rfl;exact rfl)|(((with_reducible apply i7 hS c8 (i:=1));(iterate 8 exact rfl);((exact (rfl:_=[_,_])));intro w' hS';simp only [List.set] at hS';clear hS;have hS:=hS';clear hS')))|(first|(with_reducible first|apply d7|apply d5|apply j5|apply e6)))
  (apply a1C);(repeat (first|exact ResL.nil|(apply ResL.tmp;exact rfl)|(apply ResL.cell;exact rfl;(((with_reducible apply Loads.st c8);exact rfl;((exact hS.blkR 1 rfl));exact rfl)))))
  exact Or.inr (Or.inl ⟨hRE,hF0,rfl,hsub hS⟩)
 have hd:decide (F.1=0)=true:=decide_eq_true hF0
 obtain ⟨-,hs1,hs8,hwy,ha16,ha4,hAt⟩:=a59 hRE0 rfl (by rw [← hF];exact hF0)
 repeat' (first|(first|((with_reducible apply d6 c8);exact rfl;exact rfl)|((with_reducible apply d9);exact rfl;(((with_reducible apply Loads.sc c8);exact rfl;((exact hS.blkC 0 rfl rfl))));exact rfl)|((with_reducible apply j7 hS c8);(iterate 3 exact rfl);intro g w' hS';clear hS;have hS:=hS';clear hS')|(((with_reducible apply i7 hS c8 (i:=0));(iterate 8 exact rfl);((exact (rfl:_=[_,_])));intro w' hS';simp only [List.set] at hS';clear hS;have hS:=hS';clear hS'))|(first|((with_reducible apply p9);(iterate 4 exact rfl);(assumption))|((with_reducible apply r6);(iterate 3 exact rfl);all_goals (intro hb hp;try (exfalso;omega)))|((with_reducible apply n0);exact rfl;((assumption));exact rfl;exact rfl)))|(first|(with_reducible first|apply d8|apply c9|apply d7|apply d5|apply g8|apply e7))|(first|((with_reducible apply l6);exact rfl;(exact rfl))|((with_reducible apply k6);exact rfl;all_goals (intro hb hp;try (exfalso;omega)))|((with_reducible apply a1e);exact rfl;all_goals (intro hb hp;try (exfalso;omega))))|((with_reducible apply e8);exact rfl;exact rfl;exact hflt _ _ _ _ (hback hS);exact rfl;rintro _ w' ⟨rfl,hS'⟩;replace hS:=hS.transA hS';simp only [k7] at hS;clear hS')|((with_reducible apply a7g);exact rfl;exact rfl;omega;omega;omega;exact rfl))
 replace hS:=hS.sub (List.Sublist.cons _ (List.Sublist.cons_cons _ (List.Sublist.cons _ (List.Sublist.refl _))))
 obtain ⟨B,hB⟩:∃ B,B=a0O K sp (addr / 16) (decide (way=1)) []:=⟨_,rfl⟩
 obtain ⟨C,hC⟩:∃ C,C=a0O B.1 sp ((addr + size - 1) / 16) (decide (way=1)) [B.2]:=⟨_,rfl⟩
 have hrK:a1i K sp addr size (decide (way=1))=if (addr + size - 1) / 16=addr / 16 then B.1 else C.1:=by unfold a1i;rw [← hB,← hC]
 refine o6 (F:=nF) (w0:=w) (X:=Nat×KV×Value×List Nat) (fun x=>[(16,.int .i64 (addr / 16 + (x.1:Nat)))]) [2,3,4,11,13] rfl (fun x=>.blk _ [.int .i64 0,.int .i64 0]::(wkS gw x.2.1 sp x.2.2.1 x.2.2.2++x8 k')) (Γ:=[]) (fun x=>KLike k' x.2.1∧((x.1=0∧x.2.1.K=K∧x.2.2.2=[])∨(x.1=1∧x.2.1.K=B.1∧x.2.2.2=[B.2])∨(x.1=2∧(addr + size - 1) / 16≠addr / 16∧x.2.1.K=C.1))) (fun x=>2 - x.1) (0,k',.slice none 0 0,[]) (by dsimp only;rw [show addr / 16 + ((0:Nat):Int)=addr / 16 by omega];repeat (first|exact Fr.sub_nil _|(apply Fr.sub_cons;exact rfl))) ⟨KLike.refl _,Or.inl ⟨rfl,hk',rfl⟩⟩ (by rw [List.append_nil];exact hS) ?_
 clear hS
 rintro ⟨r,k2,vh2,hd2⟩ w3 ⟨hl2,hcase⟩ hS
 dsimp only at hl2 hcase hS ⊢
 rw [List.append_nil] at hS
 rw [← a3W hl2] at hS
 have hwrap:∀ {w1 a L R},St nF w w1 (a::(L++R))→St nF w w1 (L++(R++[a])):=fun h=>by
  rw [← List.append_assoc]
  exact h.perm (List.perm_append_singleton _ _).symm
 have hwrap2:∀ {w1 a L R},St nF w w1 (L++(R++[a]))→St nF w w1 (a::(L++R)):=fun h=>by
  rw [← List.append_assoc] at h
  exact h.perm (List.perm_append_singleton _ _)
 dsimp only [List.cons_append,List.nil_append]
 by_cases hmore:addr / 16 + (r:Nat)≤(addr + size - 1) / 16
 rotate_left
 ·have hd3:decide (addr / 16 + ((r:Nat):Int)≤(addr + size - 1) / 16)=false:=decide_eq_false hmore
  have hK2:k2.K=a1i K sp addr size (decide (way=1)):=by
   rw [hrK]
   rcases hcase with ⟨rfl,-,-⟩|⟨rfl,h3,-⟩|⟨rfl,h3,h4⟩
   ·omega
   ·rw [if_pos (by omega),h3]
   ·rw [if_neg h3,h4]
  repeat' (first|(first|((with_reducible apply m0);exact rfl;exact rfl;omega;omega;exact rfl)|((with_reducible apply a1X);exact rfl;exact rfl;omega;omega;exact rfl)|((with_reducible apply d6 c8);exact rfl;exact rfl)|((with_reducible apply n7 c8);exact rfl;exact rfl;((exact (rfl:_=some [_,_])));exact rfl)|(((with_reducible apply i7 hS c8 (i:=0));(iterate 8 exact rfl);((exact (rfl:_=[_,_])));intro w' hS';simp only [List.set] at hS';clear hS;have hS:=hS';clear hS')))|(first|(with_reducible first|apply d8|apply c9|apply d7|apply d5|apply n5|apply j5|apply j4|apply i9))|(((with_reducible apply l6);exact rfl;(assumption)))|((with_reducible apply a7g);exact rfl;exact rfl;omega;omega;omega;exact rfl))
  (apply a1C);(repeat (first|exact ResL.nil|(apply ResL.tmp;exact rfl)|(apply ResL.cell;exact rfl;(((with_reducible apply Loads.st c8);exact rfl;((exact hS.blkR 0 rfl));exact rfl)))))
  exact Or.inr (Or.inr ⟨gw,sp,k2,vh2,hd2,hRE,hF0,rfl,rfl,hK2,hS.drop⟩)
 have hd3:decide (addr / 16 + ((r:Nat):Int)≤(addr + size - 1) / 16)=true:=decide_eq_true hmore
 rcases hcase with ⟨rfl,h3,rfl⟩|⟨rfl,h3,rfl⟩|⟨rfl,h3,h4⟩
 ·have hp:=hAt 0 (by omega) (by omega)
  rw [Int.add_zero] at hp
  have hr2:Right k2.K:=by rw [h3,← hk'];exact hr
  have hbr:=fun w1 Γ1 (h:St nF w w1 (wkS gw k2 sp vh2 []++(x8 k2++Γ1)))=>a6M h (KRo.own h) hr2 (page:=addr / 16) (by rw [h3];exact hp) (decide (way=1)) (by simp) (by simp)
  rw [h3,← hB] at hbr
  rw [show addr / 16 + ((0:Nat):Int)=addr / 16 by omega] at hd3 ⊢
  repeat' (first|(first|((with_reducible apply m0);exact rfl;exact rfl;omega;omega;exact rfl)|((with_reducible apply a1X);exact rfl;exact rfl;omega;omega;exact rfl)|((with_reducible apply d6 c8);exact rfl;exact rfl))|(first|(with_reducible first|apply d8|apply c9|apply d7|apply d5|apply g8|apply e7))|(((with_reducible apply k9);exact rfl;(assumption)))|((with_reducible apply a7g);exact rfl;exact rfl;omega;omega;omega;exact rfl))
  replace hS:=hwrap hS
  repeat' (first|(first|((with_reducible apply m0);exact rfl;exact rfl;omega;omega;exact rfl)|((with_reducible apply d6 c8);exact rfl;exact rfl))|(first|(with_reducible first|apply c9|apply d7|apply d5|apply k8))|((with_reducible apply e8);exact rfl;exact rfl;exact hbr _ _ hS;exact rfl;rintro _ w4 ⟨rfl,k3,vh3,e3,l3,h4⟩;(replace hS:=hwrap2 (St.transM hS h4));clear h4))
  rw [a3W hl2] at hS
  exact m6 (1,k3,vh3,[B.2]) (by dsimp only;rw [show addr / 16 + ((1:Nat):Int)=addr / 16 + 1 by omega];repeat (first|exact Fr.sub_nil _|(apply Fr.sub_cons;exact rfl))) ⟨hl2.trans l3,Or.inr (Or.inl ⟨rfl,e3,rfl⟩)⟩ (by rw [List.append_nil];exact hS) (by show 2 - 1 < 2 - 0;omega)
 ·have hp:=hAt 0 (by omega) (by omega)
  rw [Int.add_zero] at hp
  have hp2:=hAt (size - 1) (by omega) (by omega)
  rw [show addr + (size - 1)=addr + size - 1 by omega] at hp2
  have hpg:(addr + size - 1) / 16=addr / 16 + ((1:Nat):Int):=by omega
  have hbo:=(a4I (by rw [← hk'];exact hr) hp (decide (way=1)) (held:=[]) (by simp) (by simp)).1
  rw [← hB] at hbo
  have hr2:Right k2.K:=by rw [h3];exact hbo.right
  have hbr:=fun w1 Γ1 (h:St nF w w1 (wkS gw k2 sp vh2 [B.2]++(x8 k2++Γ1)))=>a6M h (KRo.own h) hr2 (page:=(addr + size - 1) / 16) (by rw [h3];exact hp2.same hbo.same.ar hbo.same.live) (decide (way=1)) (by simp) (fun i hi=>by
   rw [List.mem_singleton] at hi
   subst hi
   exact ⟨addr / 16,by omega,by rw [h3];exact hbo.ent⟩)
  rw [h3,← hC,hpg] at hbr
  repeat' (first|(first|((with_reducible apply m0);exact rfl;exact rfl;omega;omega;exact rfl)|((with_reducible apply a1X);exact rfl;exact rfl;omega;omega;exact rfl)|((with_reducible apply d6 c8);exact rfl;exact rfl))|(first|(with_reducible first|apply d8|apply c9|apply d7|apply d5|apply g8|apply e7))|(((with_reducible apply k9);exact rfl;(assumption)))|((with_reducible apply a7g);exact rfl;exact rfl;omega;omega;omega;exact rfl))
  replace hS:=hwrap hS
  repeat' (first|(first|((with_reducible apply m0);exact rfl;exact rfl;omega;omega;exact rfl)|((with_reducible apply d6 c8);exact rfl;exact rfl))|(first|(with_reducible first|apply c9|apply d7|apply d5|apply k8))|((with_reducible apply e8);exact rfl;exact rfl;exact hbr _ _ hS;exact rfl;rintro _ w4 ⟨rfl,k3,vh3,e3,l3,h4⟩;(replace hS:=hwrap2 (St.transM hS h4));clear h4))
  rw [a3W hl2] at hS
  exact m6 (2,k3,vh3,_) (by dsimp only;rw [show addr / 16 + ((2:Nat):Int)=addr / 16 + ((1:Nat):Int) + 1 by omega];repeat (first|exact Fr.sub_nil _|(apply Fr.sub_cons;exact rfl))) ⟨hl2.trans l3,Or.inr (Or.inr ⟨rfl,by omega,e3⟩)⟩ (by rw [List.append_nil];exact hS) (by show 2 - 2 < 2 - 1;omega)
 ·exfalso;omega
end Go.Proofs.Ytejnpppejalhfac
/- THE STEP CALCULUS, part 27: pointers held against nil; a call of a closure that turns what is one's own. -/
namespace Go.Proofs.Ytejnpppejalhfac
open Go.RowKit Go.Sort
section
variable {P:Program} {n:Nat} {ds:List Deferred} {E:Fr} {w w':World} {Q:Exit→Act→World→Prop} {ops:Array Oper} {rest:List Oper} {d:Nat} {dst:Option Nat} {ty:TypeId} {pos:String} {after:Array Edge} {F:Nat→Prop} {w0:World} {Γ:List Asr} {T:Tab}
theorem b3N {t yt:TypeId} {x y:Operand} {p:Option Addr} (ht:P.underlying t=some (.pointer (P.pointee t))) (hx:E.ev x=some (.pointer p)) (hy:E.ev y=some (.pointer none)):∀ a,Has n ds a E→∀ dst,a0I P ⟨dst,.binOp .eql t x y yt,ty,pos,after,none⟩ a (.bool p.isNone):=fun a ha _ w=>by
 have e:=run_eql_pointer_nil (P:=P) (w:=w) t p ht
 simp only [execOp,ha.ev hx,ha.ev hy,eqGuard]
 simp [e,Result.andThen]
theorem a18 {t yt:TypeId} {x y:Operand} {p:Option Addr} (ht:P.underlying t=some (.pointer (P.pointee t))) (hx:E.ev x=some (.pointer p)) (hy:E.ev y=some (.pointer none)) (hd:Nat.blt d n=true) (k':WL P ops Q rest n ds ((d,.bool p.isNone)::E) w):WL P ops Q (⟨some d,.binOp .eql t x y yt,ty,pos,after,none⟩::rest) n ds E w:=z8 (fun a ha=>b3N ht hx hy a ha _) hd k'
end
end Go.Proofs.Ytejnpppejalhfac
/- kernel.Reach. -/
namespace Go.Proofs.Ytejnpppejalhfac
open Go.RowKit Go.Sort
def a9S (k:KV):List Asr:=frA k::slA k::a2n k::(k.sp.map a0k++x8 k)
theorem KerV.own {F:Nat→Prop} {w0 w:World} {k:KV} {Γ:List Asr} (hS:St F w0 w (a9S k++Γ)):KerV w k:=by
 have hmem:∀ {e sz:Nat} {v:Value} {rows:List (List Value)},Asr.row e sz v rows ∈ a9S k→Sl nF w sz v rows:=fun h=>hS.slMem (List.mem_append_left Γ h)
 have hr:∀ {A},A ∈ x8 k→A ∈ a9S k:=fun h=>List.mem_cons_of_mem _ (List.mem_cons_of_mem _ (List.mem_cons_of_mem _ (List.mem_append_right _ h)))
 refine ⟨⟨hmem (e:=97) (hr List.mem_cons_self),fun p hp=>?_⟩,hmem (e:=43) List.mem_cons_self,hmem (e:=45) (List.mem_cons_of_mem _ List.mem_cons_self),hmem (e:=41) (List.mem_cons_of_mem _ (List.mem_cons_of_mem _ List.mem_cons_self)),fun p hp=>⟨?_,?_⟩⟩
 ·exact hmem (e:=100) (hr (List.mem_cons_of_mem _ (List.mem_append_left _ (List.mem_map.2 ⟨p,hp,rfl⟩))))
 ·exact hmem (e:=71) (hr (List.mem_cons_of_mem _ (List.mem_append_right _ (List.mem_map.2 ⟨p,hp,rfl⟩))))
 ·exact hmem (e:=55) (List.mem_cons_of_mem _ (List.mem_cons_of_mem _ (List.mem_cons_of_mem _ (List.mem_append_left _ (List.mem_map.2 ⟨p,hp,rfl⟩)))))
def a6s:Ker:=⟨[],[],[],[],0⟩
def kv0:KV:=⟨[],[],[],[],0,.slice none 0 0,.slice none 0 0,.slice none 0 0,.slice none 0 0⟩
theorem b59 (w:World):KerV w kv0:=⟨⟨Sl.nil0 w 3,(fun _ h=>by cases h)⟩,Sl.nil0 w 4,Sl.nil0 w 2,Sl.nil0 w 3,(fun _ h=>by cases h)⟩
def Came (w w':World) (k:KV):Prop:=(k=kv0∧St nF w w' [])∨St nF w w' (a9S k)
theorem Came.st {w w':World} {k:KV} (h:Came w w' k):St nF w w' []:=by
 rcases h with ⟨-,h⟩|h
 ·exact h
 ·exact h.sub (List.nil_sublist _)
theorem Came.V {w w':World} {k:KV} (h:Came w w' k):KerV w' k:=by
 rcases h with ⟨rfl,-⟩|h
 ·exact b59 w'
 ·exact KerV.own (Γ:=[]) (by rw [List.append_nil];exact h)
theorem b0l {w w':World} {g sp:Nat} {k:KV} {vh:Value} {held:List Nat} {Γ:List Asr} (h:St nF w w' (wkS g k sp vh held++(x8 k++Γ))):Came w w' k:=by
 refine Or.inr ?_
 rw [← List.append_assoc] at h
 replace h:=h.sub (List.sublist_append_left _ _)
 unfold wkS at h
 have h2:St nF w w' (frA k::slA k::a2n k::(k.sp.map a0k++x8 k)):=h.drop.drop
 exact h2
/-! what Reach answers -/
def okR (K:Ker) (space addr size way:Int):Prop:=y9 K space size way=0∧(t6 (l9 K space.toNat) addr size way).1=0
instance (K:Ker) (space addr size way:Int):Decidable (okR K space addr size way):=by unfold okR;infer_instance
def a2i (K:Ker) (space addr size way:Int):Int×Int:=if y9 K space size way=0 then t6 (l9 K space.toNat) addr size way else (0,0)
theorem a6J {K:Ker} {space addr size way:Int} (h:okR K space addr size way):a2i K space addr size way=(0,0):=by
 unfold a2i
 rw [if_pos h.1]
 obtain ⟨h1,h2⟩:=h
 have hs1:1≤size:=by
  unfold y9 at h1
  by_cases hl:a0n K space=0
  ·rw [if_pos hl] at h1
   by_cases h3:size < 1∨8 < size
   ·rw [if_pos h3] at h1;cases h1
   ·omega
  ·rw [if_neg hl] at h1;exact absurd h1 hl
 unfold t6 at h2 ⊢
 by_cases hw:way=2∧addr.tmod 8≠0
 ·rw [if_pos hw] at h2;cases h2
 ·rw [if_neg hw] at h2 ⊢
  cases hf:(List.range size.toNat).findSome? fun i=>u9 (l9 K space.toNat) way (addr + (i:Nat)) with
  |none=>rfl
  |some p=>
   exfalso
   rw [hf] at h2
   dsimp only [Option.getD] at h2
   obtain ⟨i,-,hi⟩:=List.exists_of_findSome?_eq_some hf
   unfold u9 at hi
   split at hi
   ·cases hi;cases h2
   ·split at hi
    ·cases hi;cases h2
    ·split at hi
     ·cases hi;cases h2
     ·cases hi
end Go.Proofs.Ytejnpppejalhfac
/- kernel.Load$1 and kernel.Store$1: what is done with each byte. -/
namespace Go.Proofs.Ytejnpppejalhfac
open Go.RowKit Go.Sort
section
variable {P:Program} {n:Nat} {ds:List Deferred} {E:Fr} {ops:Array Oper} {rest:List Oper} {d:Nat} {ty:TypeId} {pos:String} {after:Array Edge} {T:Tab}
end
theorem b4m {s:List UInt8} {c:UInt8}:∀ {o:Nat},o < s.length→splice s o [c]=s.set o c:=by
 intro o h
 rw [List.set_eq_take_append_cons_drop,if_pos h]
 rfl
theorem b5C (l:List UInt8) (i:Nat) (c:UInt8):bR (l.set i c)=(bR l).set i [.int .u8 c.toNat]:=by unfold bR;rw [List.map_set]
set_option maxRecDepth 100000 in
set_option maxHeartbeats 8000000 in
theorem b26 {F:Nat→Prop} {w0 w:World} {Γ:List Asr} {k:KV} {p:Option Addr} {n c gc f:Nat} {l:List UInt8} {off i:Nat} {x:UInt8} (hS0:St F w0 w ([.row 5 1 (.slice p n c) (bR l),.blk gc [.slice p n c],frA k]++Γ)) (hf:f < k.fr.length) (hx:(l7 k.fr f).data[off]?=some x) (hi:i < l.length):Fn Try.prog 43 [a1c k.vfr (f * 4),.int .i64 (off:Nat),.int .i64 (i:Nat),.pointer (some ⟨gc,0,none⟩)] w (fun v w'=>v=.tuple #[]∧St (fps [.row 5 1 (.slice p n c) (bR l),.blk gc [.slice p n c],frA k]) w w' [.row 5 1 (.slice p n c) (bR (l.set i x)),.blk gc [.slice p n c],frA k]):=by
 have hS:=St.startM hS0
 have hnl:=a30 l
 generalize fps [_,_,_]=G at hS ⊢
 obtain ⟨sh,fr,sl,sps,hand,vsh,vfr,vsl,vsp⟩:=k
 dsimp only at hf hx ⊢
 unfold frA at hS ⊢
 dsimp only at hS ⊢
 obtain ⟨pf,cf,he⟩:=hS.rowSlice 0 rfl
 injection he with e1 e2 e3
 subst e2 e3
 obtain ⟨gf,rfl⟩:=hS.rowSome 0 rfl (by omega)
 obtain ⟨pg,cg,rfl⟩:=hS.rowSlice 2 rfl
 simp only [List.length_map] at hS ⊢
 obtain ⟨gg,rfl⟩:=hS.rowSome 2 rfl (by omega)
 obtain ⟨fm,hfm⟩:=l8 (l:=fr) (i:=f) (by omega)
 rw [q8 hfm] at hx
 have hrow:=j9 (f:=fmC) hfm
 unfold fmC at hrow
 obtain ⟨y,hy⟩:=l8 (l:=l) (i:=i) (by omega)
 have hr:(bR l)[i]?=some [.int .u8 y.toNat]:=j9 (f:=fun b:UInt8=>[Value.int .u8 b.toNat]) hy
 unfold a1c
 dsimp only
 rw [b5C]
 refine j0 (fn:=Try.f43) ⟨Try.func43,by kernel_rfl,by kernel_rfl⟩ (by exact rfl) Try.ntmps43 (by exact rfl) ?_
 repeat' (fail)
 (focus ((with_reducible apply a0X _ _ _ 9 (by kernel_rfl) (by kernel_rfl) hS);(simp only [List.take_succ_cons,List.take_zero,List.drop_succ_cons,List.drop_zero]);(repeat' (first|(first|((with_reducible apply o5 c8);exact rfl;exact rfl)|((with_reducible apply n6);exact rfl;(intro wd hd;replace hd:St _ _ wd _:=hd;(first|((with_reducible apply Loads.sc c8);exact rfl;((exact hd.rowC0 2 rfl (by assumption) rfl)))|((with_reducible apply Loads.sl c8);exact rfl;((exact hd.blkC 1 rfl rfl)))));exact rfl)|((with_reducible apply a05 c8);(iterate 3 exact rfl);((exact rfl));((omega));exact rfl))|((with_reducible apply b57 c8);(iterate 4 exact rfl);exact hx;exact rfl)));all_goals ((with_reducible apply r5);intro w' hS';clear hS;have hS:=hS';clear hS')))
 repeat' (first|((with_reducible apply d7))|((with_reducible apply a0p hS c8 (i:=0));(iterate 4 exact rfl);assumption;(iterate 5 exact rfl);intro w' hS';simp only [List.set] at hS';clear hS;have hS:=hS';clear hS'))
 (apply a11);(repeat ((exact ResL.nil)))
 exact ⟨rfl,hS⟩
set_option maxRecDepth 100000 in
set_option maxHeartbeats 8000000 in
theorem b1u {F:Nat→Prop} {w0 w:World} {Γ:List Asr} {k:KV} {gc f:Nat} {l:List UInt8} {off i:Nat} {x:UInt8} (hS0:St F w0 w ([.blk gc [.string ⟨l.toArray⟩],frA k]++Γ)) (hf:f < k.fr.length) (hoff:off < (l7 k.fr f).data.length) (hlen:(l7 k.fr f).data.length≤1000) (hx:l[i]?=some x) (hi:(i:Int) < 9223372036854775807):Fn Try.prog 41 [a1c k.vfr (f * 4),.int .i64 (off:Nat),.int .i64 (i:Nat),.pointer (some ⟨gc,0,none⟩)] w (fun v w'=>v=.tuple #[]∧St (fps [.blk gc [.string ⟨l.toArray⟩],frA k]) w w' [.blk gc [.string ⟨l.toArray⟩],frA { k with fr:=k.fr.set f ⟨(l7 k.fr f).data.set off x,(l7 k.fr f).refs,(l7 k.fr f).dirty,(l7 k.fr f).seen⟩ }]):=by
 have hS:=St.startM hS0
 generalize fps [_,_]=G at hS ⊢
 obtain ⟨sh,fr,sl,sps,hand,vsh,vfr,vsl,vsp⟩:=k
 dsimp only at hf hoff hlen hS ⊢
 unfold frA at hS ⊢
 dsimp only at hS ⊢
 obtain ⟨pg,cg,rfl⟩:=hS.rowSlice 1 rfl
 simp only [List.length_map] at hS ⊢
 obtain ⟨gg,rfl⟩:=hS.rowSome 1 rfl (by omega)
 obtain ⟨fm,hfm⟩:=l8 (l:=fr) (i:=f) (by omega)
 rw [q8 hfm] at hoff hlen ⊢
 have hrow:=j9 (f:=fmC) hfm
 have e1:(fr.map fmC).set f (t8 [.string ⟨fm.data.toArray⟩,.int .i64 fm.refs,.bool fm.dirty,.bool fm.seen] 0 [.string ⟨(fm.data.set off x).toArray⟩])=(fr.set f ⟨fm.data.set off x,fm.refs,fm.dirty,fm.seen⟩).map fmC:=by rw [List.map_set];rfl
 unfold fmC at hrow
 unfold a1c
 dsimp only
 have hil:=j3 hx
 have hsub:(l.drop i).take (i + 1 - i)=[x]:=by
  rw [show i + 1 - i=1 by omega,List.drop_eq_getElem_cons hil,(List.getElem?_eq_some_iff.1 hx).2]
  rfl
 have hlay:∀ w1 l',l'=[x]→Fn Try.prog 42 [.string ⟨fm.data.toArray⟩,.int .i64 (off:Nat),.string ⟨l'.toArray⟩] w1 (RBf (.tuple #[.string ⟨(fm.data.set off x).toArray⟩,.int .i64 0]) w1):=by
  rintro w1 _ rfl
  have h:=b14 fm.data [x] (off:Nat) w1 (by unfold maxLen;omega)
  rw [show inB ((off:Nat):Int) [x].length fm.data.length=true by unfold inB;simp;omega,if_pos rfl,if_pos rfl,Int.toNat_natCast,b4m hoff] at h
  exact h
 refine j0 (fn:=Try.f41) ⟨Try.func41,by kernel_rfl,by kernel_rfl⟩ (by exact rfl) Try.ntmps41 (by exact rfl) ?_
 repeat' (fail)
 refine a2D 2 17 18 rfl hS (by kernel_rfl) ?_
 intro w10 hS'
 clear hS;have hS:=hS';clear hS'
 simp only [List.take_succ_cons,List.take_zero]
 ((with_reducible apply l4 0 c8);exact rfl;kernel_rfl;kernel_rfl;kernel_rfl;exact rfl;exact (fun _ _ _ h=>h);exact Or.inr hS;exact rfl;exact rfl)
 ((with_reducible apply l4 1 c8);exact rfl;kernel_rfl;kernel_rfl;kernel_rfl;exact rfl;exact (fun _ _ _ h=>h);exact Or.inr hS;exact rfl;exact rfl)
 ((with_reducible apply l4 2 c8);exact rfl;kernel_rfl;kernel_rfl;kernel_rfl;exact rfl;exact (fun _ _ _ h=>h);exact Or.inr hS;exact rfl;exact rfl)
 ((with_reducible apply l4 3 c8);exact rfl;kernel_rfl;kernel_rfl;kernel_rfl;exact rfl;exact (fun _ _ _ h=>h);exact Or.inr hS;exact rfl;exact rfl)
 ((with_reducible apply r7 4);exact rfl;kernel_rfl;kernel_rfl;kernel_rfl;kernel_rfl;exact rfl;exact rfl;exact (fun _ _ _ h=>h);exact hS;exact rfl;(intro w2 hw2;(replace hw2:St _ _ w2 _:=hw2;(((with_reducible apply Loads.sc c8);exact rfl;((exact hw2.rowC0 1 rfl (by assumption) rfl))))));exact rfl)
 ((with_reducible apply l4 5 c8);exact rfl;kernel_rfl;kernel_rfl;kernel_rfl;exact rfl;exact (fun _ _ _ h=>h);exact Or.inr hS;exact rfl;exact rfl)
 ((with_reducible apply r7 6);exact rfl;kernel_rfl;kernel_rfl;kernel_rfl;kernel_rfl;exact rfl;exact rfl;exact (fun _ _ _ h=>h);exact hS;exact rfl;(intro w2 hw2;(replace hw2:St _ _ w2 _:=hw2;(((with_reducible apply Loads.sc c8);exact rfl;((exact hw2.blkC 0 rfl rfl))))));exact rfl)
 ((with_reducible apply l4 7 c8);exact rfl;kernel_rfl;kernel_rfl;kernel_rfl;exact rfl;exact (fun _ _ _ h=>h);exact Or.inr hS;exact rfl;exact rfl)
 ((with_reducible apply l4 8 c8);exact rfl;kernel_rfl;kernel_rfl;kernel_rfl;exact rfl;exact (fun _ _ _ h=>h);exact Or.inr hS;exact rfl;exact rfl)
 ((with_reducible apply a2E 9);exact rfl;kernel_rfl;kernel_rfl;kernel_rfl;exact rfl;exact (fun _ _ _ h=>h);exact Or.inr hS;(intro a ha;exact a7X rfl rfl (by omega) (by omega) a ha _);exact rfl)
 ((with_reducible apply a2E 10);exact rfl;kernel_rfl;kernel_rfl;kernel_rfl;exact rfl;exact (fun _ _ _ h=>h);exact Or.inr hS;(intro a ha;exact b2Y c8 rfl rfl rfl rfl (by omega) (by omega) (by omega) a ha _);exact rfl)
 refine s7 (i:=11) (by kernel_rfl) ?_
 refine t5 rfl (a0o (first:=[]) (caps:=[]) rfl rfl (hlay _ _ hsub)) rfl ?_
 rintro _ w' ⟨rfl,hS'⟩
 replace hS:=hS.transA hS'
 simp only [k7] at hS
 clear hS'
 refine ⟨Or.inr (Or.inr hS),?_⟩
 ((with_reducible apply l4 12 c8);exact rfl;kernel_rfl;kernel_rfl;kernel_rfl;exact rfl;exact (fun _ _ _ h=>h);exact Or.inr hS;exact rfl;exact rfl)
 ((with_reducible apply l4 13 c8);exact rfl;kernel_rfl;kernel_rfl;kernel_rfl;exact rfl;exact (fun _ _ _ h=>h);exact Or.inr hS;exact rfl;exact rfl)
 ((with_reducible apply l4 14 c8);exact rfl;kernel_rfl;kernel_rfl;kernel_rfl;exact rfl;exact (fun _ _ _ h=>h);exact Or.inr hS;exact rfl;exact rfl)
 ((with_reducible apply l4 15 c8);exact rfl;kernel_rfl;kernel_rfl;kernel_rfl;exact rfl;exact (fun _ _ _ h=>h);exact Or.inr hS;exact rfl;exact rfl)
 ((with_reducible apply l4 16 c8);exact rfl;kernel_rfl;kernel_rfl;kernel_rfl;exact rfl;exact (fun _ _ _ h=>h);exact Or.inr hS;exact rfl;exact rfl)
 refine s7 (i:=17) (by kernel_rfl) ?_
 refine a0L (Φ:=fun _ w'=>St _ _ w' _) rfl (a2t hS c8 (i:=1) (kk:=f) (j:=0) rfl rfl rfl rfl rfl hrow rfl rfl (Nat.le_of_ble_eq_true rfl) rfl) ?_
 intro _ w' hS'
 simp only [List.set] at hS'
 rw [show (Value.string ⟨(fm.data.set off x).toArray⟩).cells.toList=[.string ⟨(fm.data.set off x).toArray⟩] from rfl] at hS'
 rw [e1] at hS'
 clear hS;have hS:=hS';clear hS'
 refine ⟨Or.inl rfl,?_⟩
 refine a1a (by kernel_rfl) ?_
 (apply a11);(repeat ((exact ResL.nil)))
 exact ⟨rfl,hS⟩
end Go.Proofs.Ytejnpppejalhfac
