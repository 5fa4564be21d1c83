/- Texts that the proof stands on, one behind the other: Ke28, Ke29, Ke30, Ke31. -/
import Derived.Test.YtejnpppejalhfacPKernelEmpty13
/- (*kernel.work).each, loading and storing. -/
namespace Go.Proofs.Ytejnpppejalhfac
open Go.RowKit Go.Sort
def wkR (g:Nat) (k:KV) (sp:Nat) (vh:Value) (held:List Nat):List Asr:=.blk g (wkB k sp vh)::hdA vh held::slA k::a2n k::k.sp.map a0k
theorem wk_perm {g:Nat} {k:KV} {sp:Nat} {vh:Value} {held:List Nat}:(wkS g k sp vh held).Perm (frA k::wkR g k sp vh held):=List.perm_middle (l₁:=[_,_])
theorem KRo.ownG {F:Nat→Prop} {w0 w:World} {Θ:List Asr} {k:KV} {Γ:List Asr} (hS:St F w0 w (Θ++(x8 k++Γ))):KRo (fps Θ) w k:=by
 have hmem:∀ {e sz:Nat} {v:Value} {rows:List (List Value)},Asr.row e sz v rows ∈ x8 k→Sl (fps Θ) w sz v rows:=fun h=>by
  obtain ⟨j,hj⟩:=List.mem_iff_getElem?.1 (List.mem_append_left Γ h)
  exact hS.ownSl j hj
 refine ⟨⟨hmem List.mem_cons_self,fun p hp=>?_⟩,fun p hp=>?_⟩
 ·exact hmem (e:=100) (List.mem_cons_of_mem _ (List.mem_append_left _ (List.mem_map.2 ⟨p,hp,rfl⟩)))
 ·exact hmem (e:=71) (List.mem_cons_of_mem _ (List.mem_append_right _ (List.mem_map.2 ⟨p,hp,rfl⟩)))
theorem a3q {K:Ker} {sp:Nat} {a:Int} {n:Nat}:(a2T K sp a n).length=n:=by unfold a2T;rw [List.length_map,List.length_range]
def ldL (K:Ker) (sp a n i:Nat):List UInt8:=(a2T K sp (a:Nat) n).take i++List.replicate (n - i) 0
theorem b3D {K:Ker} {sp a n i:Nat} (h:i≤n):(ldL K sp a n i).length=n:=by unfold ldL;rw [List.length_append,List.length_take,List.length_replicate,a3q];omega
theorem b3k {K:Ker} {sp a n i:Nat} (h:i < n) {y:UInt8} (hy:(t7 K sp (((a:Nat) + (i:Nat):Int) / 16)).getD (((a:Nat) + (i:Nat):Int) % 16).toNat 0=y):(ldL K sp a n i).set i y=ldL K sp a n (i + 1):=by
 unfold ldL
 have hl:((a2T K sp (a:Nat) n).take i).length=i:=by rw [List.length_take,a3q];omega
 have hg:(a2T K sp (a:Nat) n)[i]?=some y:=by
  unfold a2T
  rw [List.getElem?_map,List.getElem?_range h]
  exact congrArg some hy
 have h2:n - i=(n - (i + 1)) + 1:=by omega
 rw [h2,List.replicate_succ,List.set_append_right _ _ (by omega),hl,Nat.sub_self,List.set_cons_zero,List.take_add_one,hg]
 simp
set_option maxRecDepth 100000 in
set_option maxHeartbeats 8000000 in
theorem b18 {F:Nat→Prop} {w0 w:World} {Γ:List Asr} {g0:Nat} {k:KV} {sp:Nat} {vh:Value} {held:List Nat} {p:Option Addr} {m c gc a n:Nat} (hS0:St F w0 w ((.row 5 1 (.slice p m c) (bR (ldL k.K sp a n 0))::.blk gc [.slice p m c]::wkS g0 k sp vh held)++Γ)) (hR0:KRo (fps (.row 5 1 (.slice p m c) (bR (ldL k.K sp a n 0))::.blk gc [.slice p m c]::wkS g0 k sp vh held)) w k) (hr:Right k.K) {x:Sp} (hx:k.sp[sp]?=some x) (ha:a≤4096) (hn:n≤8) (hp:∀ i:Nat,i < n→Pres k.K sp false (((a:Nat) + (i:Nat):Int) / 16)):Fn Try.prog 40 [.pointer (some ⟨g0,0,none⟩),.int .i64 (a:Nat),.int .i64 (n:Nat),.func (.func 43) #[] #[.pointer (some ⟨gc,0,none⟩)]] w (fun v w'=>v=.tuple #[]∧St (fps (.row 5 1 (.slice p m c) (bR (ldL k.K sp a n 0))::.blk gc [.slice p m c]::wkS g0 k sp vh held)) w w' (.row 5 1 (.slice p m c) (bR (ldL k.K sp a n n))::.blk gc [.slice p m c]::wkS g0 k sp vh held)):=by
 have hS:=St.startM hS0
 have hR:=hR0
 generalize fps _=G at hS hR ⊢
 clear hR0 hS0
 obtain ⟨bf,of_,cf,hvfr⟩:=(WkV.of (Γ:=[_,_]) (hS.perm (List.perm_append_comm (l₁:=[_,_]))) hR).ker.fr.form1 (List.getElem?_eq_getElem (show 0 < k.fr.length by have:=hr.cnt.1;have h9:k.K.frames.length=k.fr.length:=rfl;omega))
 obtain ⟨sh,fr,sl,sps,hand,vsh,vfr,vsl,vsp⟩:=k
 dsimp only at hvfr hx
 subst hvfr
 have hxm:=List.mem_of_getElem? hx
 obtain ⟨hsc,hel⟩:=a0q hr x.s (List.mem_of_getElem? (a0V hx))
 have hV:∀ w1 A B,St G w w1 (A::B::wkS g0 (⟨sh,fr,sl,sps,hand,vsh,.slice (some ⟨bf,of_,none⟩) fr.length cf,vsl,vsp⟩:KV) sp vh held)→WkV w1 g0 (⟨sh,fr,sl,sps,hand,vsh,.slice (some ⟨bf,of_,none⟩) fr.length cf,vsl,vsp⟩:KV) sp vh held:=fun w1 A B h=>WkV.of (Γ:=[A,B]) (h.perm (List.perm_append_comm (l₁:=[A,B]))) hR
 have hent:=fun w1 A B (h:St G w w1 (A::B::wkS g0 (⟨sh,fr,sl,sps,hand,vsh,.slice (some ⟨bf,of_,none⟩) fr.length cf,vsl,vsp⟩:KV) sp vh held)) (page:Int) (hpb:-1000000≤page∧page≤1000000)=>a1S (hV w1 A B h) hx page hsc.rises (a3p hsc hpb)
 refine j0 (fn:=Try.f40) ⟨Try.func40,by kernel_rfl,by kernel_rfl⟩ (by exact rfl) Try.ntmps40 (by exact rfl) ?_
 repeat' (first|(((with_reducible apply d6 c8);exact rfl;exact rfl))|(first|(with_reducible first|apply d8|apply c9|apply d7|apply d5|apply e7)))
 refine o6 (F:=G) (w0:=w) (X:=Nat) (fun i=>[(12,.int .i64 (i:Nat))]) [0,1,3,11] rfl (fun i=>[.row 5 1 (.slice p m c) (bR (ldL (⟨sh,fr,sl,sps,hand,vsh,.slice (some ⟨bf,of_,none⟩) fr.length cf,vsl,vsp⟩:KV).K sp a n i))]) (fun i=>i≤n) (fun i=>n - i) 0 (by repeat (first|exact Fr.sub_nil _|(apply Fr.sub_cons;exact rfl))) (Nat.zero_le _) hS ?_
 clear hS
 intro i w1 hi hS
 dsimp only [List.cons_append,List.nil_append] at hS ⊢
 by_cases hlt:i < n
 ·have hd:decide ((i:Int) < (n:Int))=true:=decide_eq_true (by omega)
  obtain ⟨f,hf,-⟩:=hp i hlt
  obtain ⟨pt,is,hEV,hcase⟩:=a4r (page:=((a:Nat) + (i:Nat):Int) / 16) hsc.rises ((hV _ _ _ hS).ker.spv x hxm).en
  have hee:l5 (⟨sh,fr,sl,sps,hand,vsh,.slice (some ⟨bf,of_,none⟩) fr.length cf,vsl,vsp⟩:KV).K sp=x.s.entries:=by unfold l5;rw [x7 (a0V hx)]
  rw [hee] at hf
  rcases hcase with ⟨-,-,he⟩|⟨rfl,e,b,off,c',j,he,hve,hei,rfl⟩
  ·rw [he] at hf;cases hf
  rw [he] at hf
  cases hf
  have hen:=hent _ _ _ hS (((a:Nat) + (i:Nat):Int) / 16) (by omega)
  rw [hEV] at hen
  repeat' (first|(first|((with_reducible apply m0);exact rfl;exact rfl;omega;omega;exact rfl)|((with_reducible apply d6 c8);exact rfl;exact rfl))|(first|(with_reducible first|apply d8|apply c9|apply d7|apply d5|apply g8|apply e7))|(((with_reducible apply k9);exact rfl;(assumption)))|((with_reducible apply a7g);exact rfl;exact rfl;omega;omega;omega;exact rfl)|((with_reducible apply e8);exact rfl;exact rfl;exact hen;exact rfl;rintro _ w' ⟨rfl,hS'⟩;replace hS:=hS.transA hS';simp only [k7] at hS;clear hS'))
  obtain ⟨hfl,-,hdl⟩:=a12 hr (by rw [hee];exact he)
  replace hfl:f < fr.length:=hfl
  have hfl':=hfl
  have hEn:∀ wd A B,St G w wd (A::B::wkS g0 (⟨sh,fr,sl,sps,hand,vsh,.slice (some ⟨bf,of_,none⟩) fr.length cf,vsl,vsp⟩:KV) sp vh held)→Sl nF wd 3 (.slice (some ⟨b,off,none⟩) x.s.entries.length c') (x.s.entries.map enC):=fun wd A B h=>by
   rw [← hve];exact ((hV _ _ _ h).ker.spv x hxm).en
  have hFr:∀ wd A B,St G w wd (A::B::wkS g0 (⟨sh,fr,sl,sps,hand,vsh,.slice (some ⟨bf,of_,none⟩) fr.length cf,vsl,vsp⟩:KV) sp vh held)→wd.cell? ⟨g0,1,none⟩=some (.slice (some ⟨bf,of_,none⟩) fr.length cf):=fun wd A B h=>by
   exact (St.start wd).bs (hV _ _ _ h).c1
  have hrowE:=j9 (f:=enC) hei
  unfold enC at hrowE
  replace hdl:(l7 fr f).data.length=16:=hdl
  obtain ⟨y,hy⟩:=l8 (l:=(l7 fr f).data) (i:=(a + i) % 16) (by omega)
  have hcall:=fun w1 Γ1 (h:St G w w1 ([.row 5 1 (.slice p m c) (bR (ldL (⟨sh,fr,sl,sps,hand,vsh,.slice (some ⟨bf,of_,none⟩) fr.length cf,vsl,vsp⟩:KV).K sp a n i)),.blk gc [.slice p m c],frA (⟨sh,fr,sl,sps,hand,vsh,.slice (some ⟨bf,of_,none⟩) fr.length cf,vsl,vsp⟩:KV)]++Γ1))=>b26 h hfl hy (by rw [b3D hi];exact hlt)
  unfold a1c at hcall
  dsimp only at hcall
  (focus ((with_reducible apply a0X _ _ _ 16 (by kernel_rfl) (by kernel_rfl) hS);(simp only [List.take_succ_cons,List.take_zero,List.drop_succ_cons,List.drop_zero]);(repeat' (first|(first|((with_reducible apply a1v);exact rfl;exact rfl;omega;omega;exact rfl)|((with_reducible apply o5 c8);exact rfl;exact rfl)|((with_reducible apply n6);exact rfl;(intro wd hd;replace hd:St _ _ wd _:=hd;(((with_reducible apply Loads.sl c8);exact rfl;((exact hd.blkC 2 rfl rfl)))));exact rfl)|((with_reducible apply a05 c8);(iterate 3 exact rfl);((exact rfl));((omega));exact rfl))|((with_reducible apply n6);exact rfl;(intro wd hd;replace hd:St _ _ wd _:=hd;(((with_reducible apply Loads.sc c8);exact rfl;exact (hEn _ _ _ hd).cel hrowE rfl)));exact rfl)|((with_reducible apply b4Y);exact rfl;exact rfl;omega;omega;exact rfl)));all_goals ((with_reducible apply r5);intro w' hS';clear hS;have hS:=hS';clear hS')))
  have hS2:=hS.perm ((wk_perm.cons _).cons _)
  refine e8 (first:=[]) (caps:=[.pointer (some ⟨gc,0,none⟩)]) rfl rfl (hcall _ _ hS2) rfl ?_
  rintro _ w3 ⟨rfl,h3⟩
  replace hS:=(St.transM hS2 h3).perm ((wk_perm.symm.cons _).cons _)
  have hpk:t7 (⟨sh,fr,sl,sps,hand,vsh,.slice (some ⟨bf,of_,none⟩) fr.length cf,vsl,vsp⟩:KV).K sp (((a:Nat) + (i:Nat):Int) / 16)=(l7 fr f).data:=by
   unfold t7
   rw [hee,he]
   show v8 _ _=_
   unfold v8
   rw [if_pos rfl]
   rfl
  rw [b3k hlt (by rw [hpk,List.getD_eq_getElem?_getD];exact congrArg (·.getD 0) hy)] at hS
  repeat' (first|(first|((with_reducible apply m0);exact rfl;exact rfl;omega;omega;exact rfl)|((with_reducible apply d6 c8);exact rfl;exact rfl))|(first|(with_reducible first|apply c9|apply d7|apply d5|apply k8)))
  exact m6 (i + 1) (by repeat (first|exact Fr.sub_nil _|(apply Fr.sub_cons;exact rfl))) (by omega) hS (by omega)
 ·have hd:decide ((i:Int) < (n:Int))=false:=decide_eq_false (by omega)
  obtain rfl:i=n:=by omega
  repeat' (first|(((with_reducible apply d6 c8);exact rfl;exact rfl))|(first|(with_reducible first|apply d8|apply c9|apply d7|apply d5|apply n5|apply j4|apply i9))|(((with_reducible apply l6);exact rfl;(assumption))))
  (apply a11);(repeat ((exact ResL.nil)))
  exact ⟨rfl,hS⟩
def kvS (k:KV) (sp:Nat) (a:Nat) (s:List UInt8) (i:Nat):KV:={ k with fr:=(a0u k.K sp (a:Nat) s i).frames }
theorem a3i (K:Ker) (sp:Nat) (a:Int) (s:List UInt8):∀ i,(a0u K sp a s i).sheets=K.sheets∧(a0u K sp a s i).spaces=K.spaces∧(a0u K sp a s i).slots=K.slots∧(a0u K sp a s i).hand=K.hand
 |0=>⟨rfl,rfl,rfl,rfl⟩
 |i + 1=>by
  obtain ⟨h1,h2,h3,h4⟩:=a3i K sp a s i
  show (a1E (a0u K sp a s i) sp _ _).sheets=_∧(a1E (a0u K sp a s i) sp _ _).spaces=_∧(a1E (a0u K sp a s i) sp _ _).slots=_∧(a1E (a0u K sp a s i) sp _ _).hand=_
  unfold a1E
  split
  ·exact ⟨h1,h2,h3,h4⟩
  ·exact ⟨h1,h2,h3,h4⟩
theorem b6d (k:KV) (sp a:Nat) (s:List UInt8) (i:Nat):(kvS k sp a s i).K=a0u k.K sp (a:Nat) s i:=by
 obtain ⟨h1,h2,h3,h4⟩:=a3i k.K sp (a:Nat) s i
 generalize hX:a0u k.K sp (a:Nat) s i=X at *
 unfold kvS
 rw [hX]
 obtain ⟨x1,x2,x3,x4,x5⟩:=X
 dsimp only at h1 h2 h3 h4
 subst h1 h2 h3 h4
 rfl
theorem b11 {k:KV} {sp a i f:Nat} {s:List UInt8} {y:UInt8} (he:o0 (l5 k.K sp) (((a:Nat) + (i:Nat):Int) / 16)=some ⟨((a:Nat) + (i:Nat):Int) / 16,1,(f:Nat)⟩) (hy:s[i]?=some y):{ kvS k sp a s i with fr:=(kvS k sp a s i).fr.set f ⟨(l7 (kvS k sp a s i).fr f).data.set ((a + i) % 16) y,(l7 (kvS k sp a s i).fr f).refs,(l7 (kvS k sp a s i).fr f).dirty,(l7 (kvS k sp a s i).fr f).seen⟩ }=kvS k sp a s (i + 1):=by
 obtain ⟨h1,h2,h3,h4⟩:=a3i k.K sp (a:Nat) s i
 unfold kvS
 show _={ k with fr:=(a1E (a0u k.K sp (a:Nat) s i) sp ((a:Nat) + (i:Nat)) (s.getD i 0)).frames }
 unfold a1E
 have he2:l5 (a0u k.K sp (a:Nat) s i) sp=l5 k.K sp:=by unfold l5 u7;rw [h2]
 rw [he2,he,List.getD_eq_getElem?_getD,hy]
 rfl
set_option maxRecDepth 100000 in
set_option maxHeartbeats 8000000 in
theorem b2P {F:Nat→Prop} {w0 w:World} {Γ:List Asr} {g0:Nat} {k:KV} {sp:Nat} {vh:Value} {held:List Nat} {gc a:Nat} {s:List UInt8} (hS0:St F w0 w ((.blk gc [.string ⟨s.toArray⟩]::wkS g0 k sp vh held)++Γ)) (hR0:KRo (fps (.blk gc [.string ⟨s.toArray⟩]::wkS g0 k sp vh held)) w k) (hr:Right k.K) {x:Sp} (hx:k.sp[sp]?=some x) (ha:a≤4096) (hn:s.length≤8) (hp:∀ i:Nat,i < s.length→Pres k.K sp true (((a:Nat) + (i:Nat):Int) / 16)):Fn Try.prog 40 [.pointer (some ⟨g0,0,none⟩),.int .i64 (a:Nat),.int .i64 (s.length:Nat),.func (.func 41) #[] #[.pointer (some ⟨gc,0,none⟩)]] w (fun v w'=>v=.tuple #[]∧St (fps (.blk gc [.string ⟨s.toArray⟩]::wkS g0 k sp vh held)) w w' (.blk gc [.string ⟨s.toArray⟩]::wkS g0 (kvS k sp a s s.length) sp vh held)):=by
 have hS:=St.startM hS0
 have hR:=hR0
 generalize fps _=G at hS hR ⊢
 clear hR0 hS0
 obtain ⟨bf,of_,cf,hvfr⟩:=(WkV.of (Γ:=[_]) (hS.perm (List.perm_append_comm (l₁:=[_]))) hR).ker.fr.form1 (List.getElem?_eq_getElem (show 0 < k.fr.length by have:=hr.cnt.1;have h9:k.K.frames.length=k.fr.length:=rfl;omega))
 obtain ⟨sh,fr,sl,sps,hand,vsh,vfr,vsl,vsp⟩:=k
 dsimp only at hvfr hx
 subst hvfr
 have hxm:=List.mem_of_getElem? hx
 obtain ⟨hsc,hel⟩:=a0q hr x.s (List.mem_of_getElem? (a0V hx))
 have hV:∀ i w1 A,St G w w1 (A::frA (kvS (⟨sh,fr,sl,sps,hand,vsh,.slice (some ⟨bf,of_,none⟩) fr.length cf,vsl,vsp⟩:KV) sp a s i)::wkR g0 (⟨sh,fr,sl,sps,hand,vsh,.slice (some ⟨bf,of_,none⟩) fr.length cf,vsl,vsp⟩:KV) sp vh held)→WkV w1 g0 (kvS (⟨sh,fr,sl,sps,hand,vsh,.slice (some ⟨bf,of_,none⟩) fr.length cf,vsl,vsp⟩:KV) sp a s i) sp vh held:=fun i w1 A h=>WkV.of (Γ:=[A]) ((h.perm ((wk_perm (k:=kvS (⟨sh,fr,sl,sps,hand,vsh,.slice (some ⟨bf,of_,none⟩) fr.length cf,vsl,vsp⟩:KV) sp a s i)).symm.cons _)).perm (List.perm_append_comm (l₁:=[A]))) ⟨hR.sh,hR.ar⟩
 have hent:=fun i w1 A (h:St G w w1 (A::frA (kvS (⟨sh,fr,sl,sps,hand,vsh,.slice (some ⟨bf,of_,none⟩) fr.length cf,vsl,vsp⟩:KV) sp a s i)::wkR g0 (⟨sh,fr,sl,sps,hand,vsh,.slice (some ⟨bf,of_,none⟩) fr.length cf,vsl,vsp⟩:KV) sp vh held)) (page:Int) (hpb:-1000000≤page∧page≤1000000)=>a1S (hV i w1 A h) hx page hsc.rises (a3p hsc hpb)
 replace hS:=hS.perm (wk_perm.cons _)
 refine j0 (fn:=Try.f40) ⟨Try.func40,by kernel_rfl,by kernel_rfl⟩ (by exact rfl) Try.ntmps40 (by exact rfl) ?_
 repeat' (first|(((with_reducible apply d6 c8);exact rfl;exact rfl))|(first|(with_reducible first|apply d8|apply c9|apply d7|apply d5|apply e7)))
 refine o6 (F:=G) (w0:=w) (X:=Nat) (fun i=>[(12,.int .i64 (i:Nat))]) [0,1,3,11] rfl (fun i=>[.blk gc [.string ⟨s.toArray⟩],frA (kvS (⟨sh,fr,sl,sps,hand,vsh,.slice (some ⟨bf,of_,none⟩) fr.length cf,vsl,vsp⟩:KV) sp a s i)]) (fun i=>i≤s.length) (fun i=>s.length - i) 0 (by repeat (first|exact Fr.sub_nil _|(apply Fr.sub_cons;exact rfl))) (Nat.zero_le _) hS ?_
 clear hS
 intro i w1 hi hS
 dsimp only [List.cons_append,List.nil_append] at hS ⊢
 by_cases hlt:i < s.length
 ·have hd:decide ((i:Int) < (s.length:Int))=true:=decide_eq_true (by omega)
  obtain ⟨f,hf0,-⟩:=hp i hlt
  have hf:=hf0
  have hok:=a6T hr (s:=s) (addr:=(a:Nat)) (by omega) hp i hi
  obtain ⟨pt,is,hEV,hcase⟩:=a4r (page:=((a:Nat) + (i:Nat):Int) / 16) hsc.rises ((hV _ _ _ hS).ker.spv x hxm).en
  have hee:l5 (⟨sh,fr,sl,sps,hand,vsh,.slice (some ⟨bf,of_,none⟩) fr.length cf,vsl,vsp⟩:KV).K sp=x.s.entries:=by unfold l5;rw [x7 (a0V hx)]
  rw [hee] at hf
  rcases hcase with ⟨-,-,he⟩|⟨rfl,e,b,off,c',j,he,hve,hei,rfl⟩
  ·rw [he] at hf;cases hf
  rw [he] at hf
  cases hf
  have hen:=hent _ _ _ hS (((a:Nat) + (i:Nat):Int) / 16) (by omega)
  rw [hEV] at hen
  repeat' (first|(first|((with_reducible apply m0);exact rfl;exact rfl;omega;omega;exact rfl)|((with_reducible apply d6 c8);exact rfl;exact rfl))|(first|(with_reducible first|apply d8|apply c9|apply d7|apply d5|apply g8|apply e7))|(((with_reducible apply k9);exact rfl;(assumption)))|((with_reducible apply a7g);exact rfl;exact rfl;omega;omega;omega;exact rfl)|((with_reducible apply e8);exact rfl;exact rfl;exact hen;exact rfl;rintro _ w' ⟨rfl,hS'⟩;replace hS:=hS.transA hS';simp only [k7] at hS;clear hS'))
  have he3:l5 (a0u (⟨sh,fr,sl,sps,hand,vsh,.slice (some ⟨bf,of_,none⟩) fr.length cf,vsl,vsp⟩:KV).K sp (a:Nat) s i) sp=l5 (⟨sh,fr,sl,sps,hand,vsh,.slice (some ⟨bf,of_,none⟩) fr.length cf,vsl,vsp⟩:KV).K sp:=by unfold l5 u7;rw [hok.spaces]
  obtain ⟨hfl,-,hdl⟩:=a12 hok.right (by rw [he3];exact hf0)
  replace hdl:(l7 (kvS (⟨sh,fr,sl,sps,hand,vsh,.slice (some ⟨bf,of_,none⟩) fr.length cf,vsl,vsp⟩:KV) sp a s i).fr f).data.length=16:=hdl
  have hfl0:=hfl
  rw [hok.nfr] at hfl0
  replace hfl0:f < fr.length:=hfl0
  replace hfl:f < (kvS (⟨sh,fr,sl,sps,hand,vsh,.slice (some ⟨bf,of_,none⟩) fr.length cf,vsl,vsp⟩:KV) sp a s i).fr.length:=hfl
  have hEn:∀ wd A,St G w wd (A::frA (kvS (⟨sh,fr,sl,sps,hand,vsh,.slice (some ⟨bf,of_,none⟩) fr.length cf,vsl,vsp⟩:KV) sp a s i)::wkR g0 (⟨sh,fr,sl,sps,hand,vsh,.slice (some ⟨bf,of_,none⟩) fr.length cf,vsl,vsp⟩:KV) sp vh held)→Sl nF wd 3 (.slice (some ⟨b,off,none⟩) x.s.entries.length c') (x.s.entries.map enC):=fun wd A h=>by
   rw [← hve];exact ((hV _ _ _ h).ker.spv x hxm).en
  have hFr:∀ wd A,St G w wd (A::frA (kvS (⟨sh,fr,sl,sps,hand,vsh,.slice (some ⟨bf,of_,none⟩) fr.length cf,vsl,vsp⟩:KV) sp a s i)::wkR g0 (⟨sh,fr,sl,sps,hand,vsh,.slice (some ⟨bf,of_,none⟩) fr.length cf,vsl,vsp⟩:KV) sp vh held)→wd.cell? ⟨g0,1,none⟩=some (.slice (some ⟨bf,of_,none⟩) fr.length cf):=fun wd A h=>by
   exact (St.start wd).bs (hV _ _ _ h).c1
  have hrowE:=j9 (f:=enC) hei
  unfold enC at hrowE
  obtain ⟨y,hy⟩:=l8 (l:=s) (i:=i) (by omega)
  have hcall:=fun w1 Γ1 (h:St G w w1 ([.blk gc [.string ⟨s.toArray⟩],frA (kvS (⟨sh,fr,sl,sps,hand,vsh,.slice (some ⟨bf,of_,none⟩) fr.length cf,vsl,vsp⟩:KV) sp a s i)]++Γ1))=>b1u (off:=(a + i) % 16) h hfl (by omega) (by omega) hy (by omega)
  rw [b11 hf0 hy] at hcall
  unfold a1c at hcall
  have hvv:(kvS (⟨sh,fr,sl,sps,hand,vsh,.slice (some ⟨bf,of_,none⟩) fr.length cf,vsl,vsp⟩:KV) sp a s i).vfr=.slice (some ⟨bf,of_,none⟩) fr.length cf:=rfl
  rw [hvv] at hcall
  dsimp only at hcall
  (focus ((with_reducible apply a0X _ _ _ 16 (by kernel_rfl) (by kernel_rfl) hS);(simp only [List.take_succ_cons,List.take_zero,List.drop_succ_cons,List.drop_zero]);(repeat' (first|(first|((with_reducible apply a1v);exact rfl;exact rfl;omega;omega;exact rfl)|((with_reducible apply o5 c8);exact rfl;exact rfl)|((with_reducible apply n6);exact rfl;(intro wd hd;replace hd:St _ _ wd _:=hd;(((with_reducible apply Loads.sl c8);exact rfl;((exact hd.blkC 2 rfl rfl)))));exact rfl)|((with_reducible apply a05 c8);(iterate 3 exact rfl);((exact rfl));((omega));exact rfl))|((with_reducible apply n6);exact rfl;(intro wd hd;replace hd:St _ _ wd _:=hd;(((with_reducible apply Loads.sc c8);exact rfl;exact (hEn _ _ hd).cel hrowE rfl)));exact rfl)|((with_reducible apply b4Y);exact rfl;exact rfl;omega;omega;exact rfl)));all_goals ((with_reducible apply r5);intro w' hS';clear hS;have hS:=hS';clear hS')))
  refine e8 (first:=[]) (caps:=[.pointer (some ⟨gc,0,none⟩)]) rfl rfl (hcall _ _ hS) rfl ?_
  rintro _ w3 ⟨rfl,h3⟩
  replace hS:=St.transM (Δ:=[_,_]) hS h3
  repeat' (first|(first|((with_reducible apply m0);exact rfl;exact rfl;omega;omega;exact rfl)|((with_reducible apply d6 c8);exact rfl;exact rfl))|(first|(with_reducible first|apply c9|apply d7|apply d5|apply k8)))
  exact m6 (i + 1) (by repeat (first|exact Fr.sub_nil _|(apply Fr.sub_cons;exact rfl))) (by omega) hS (by omega)
 ·have hd:decide ((i:Int) < (s.length:Int))=false:=decide_eq_false (by omega)
  obtain rfl:i=s.length:=by omega
  repeat' (first|(((with_reducible apply d6 c8);exact rfl;exact rfl))|(first|(with_reducible first|apply d8|apply c9|apply d7|apply d5|apply n5|apply j4|apply i9))|(((with_reducible apply l6);exact rfl;(assumption))))
  (apply a11);(repeat ((exact ResL.nil)))
  exact ⟨rfl,hS.perm ((wk_perm (k:=kvS (⟨sh,fr,sl,sps,hand,vsh,.slice (some ⟨bf,of_,none⟩) fr.length cf,vsl,vsp⟩:KV) sp a s s.length)).symm.cons _)⟩
end Go.Proofs.Ytejnpppejalhfac
/- kernel.Store. -/
namespace Go.Proofs.Ytejnpppejalhfac
open Go.RowKit Go.Sort
theorem perm5 {α:Type} {a b c d e:α} {W R:List α}:(a::b::c::d::e::(W++R)).Perm ((d::W)++(R++[a,b,c,e])):=by
 refine (List.perm_middle (l₁:=[a,b,c])).trans (List.Perm.cons _ ?_)
 refine (List.perm_append_comm (l₁:=[a,b,c,e])).trans ?_
 exact List.Perm.of_eq (List.append_assoc W R _)
def a4Q (K:Ker) (space addr:Int) (s:List UInt8):Ker:=if okR K space addr s.length 1 then a0u (a1i K space.toNat addr s.length true) space.toNat addr s s.length else a6s
set_option maxRecDepth 100000 in
set_option maxHeartbeats 8000000 in
theorem a8H {w:World} {k:KV} (hK:KerV w k) {space addr:Int} {s:List UInt8} (hb0:-9223372036854775808≤addr) (hb1:addr≤9223372036854775807):Fn Try.prog 17 [.agg (kvC k).toArray,.int .i64 space,.int .i64 addr,.string ⟨s.toArray⟩] w (fun v w'=>∃ k',v=.tuple #[.agg (kvC k').toArray,a21 (a2i k.K space addr s.length 1),.int .i64 (y9 k.K space s.length 1)]∧k'.K=a4Q k.K space addr s∧Came w w' k'):=by
 have hre:=fun w1 (h:KerV w1 k)=>a76 h (space:=space) (size:=(s.length:Nat)) (way:=1) hb0 hb1
 have hK0:=hK
 obtain ⟨sh,fr,sl,sps,hand,vsh,vfr,vsl,vsp⟩:=k
 obtain ⟨k1,k2,k3,k4,k5⟩:=hK
 dsimp only at k1 k2 k3 k4 k5
 obtain ⟨p1,c1,rfl⟩:=k1.sl.len
 obtain ⟨p2,c2,rfl⟩:=k2.len
 obtain ⟨p3,c3,rfl⟩:=k3.len
 obtain ⟨p4,c4,rfl⟩:=k4.len
 generalize hKK:KV.K ⟨sh,fr,sl,sps,hand,.slice p1 sh.length c1,.slice p2 fr.length c2,.slice p3 sl.length c3,.slice p4 sps.length c4⟩=K at hre ⊢
 have hpre:∀ w1 Γ1,St nF w w1 Γ1→KerV w1 ⟨sh,fr,sl,sps,hand,.slice p1 sh.length c1,.slice p2 fr.length c2,.slice p3 sl.length c3,.slice p4 sps.length c4⟩:=fun w1 Γ1 h=>hK0.now h
 unfold a21 at hre ⊢
 unfold kvC at hre
 dsimp only at hre
 unfold kvC
 dsimp only
 refine j0 (fn:=Try.f17) ⟨Try.func17,by kernel_rfl,by kernel_rfl⟩ (by exact rfl) Try.ntmps17 (by exact rfl) ?_
 have hS:=St.start w
 repeat' (first|(first|((with_reducible apply d6 c8);exact rfl;exact rfl)|((with_reducible apply d9);exact rfl;(first|((with_reducible apply Loads.sc c8);exact rfl;((exact hS.blkC 2 rfl rfl)))|((with_reducible apply Loads.st c8);exact rfl;((exact hS.blkR 3 rfl));exact rfl));exact rfl)|((with_reducible apply p7 hS);(iterate 3 exact rfl);intro g w' hS';clear hS;have hS:=hS';clear hS')|((with_reducible apply j7 hS c8);(iterate 3 exact rfl);intro g w' hS';clear hS;have hS:=hS';clear hS'))|(first|(with_reducible first|apply d8|apply c9|apply d7|apply d5)))
 refine e8 rfl rfl (hre _ (hpre _ _ hS)) rfl ?_
 rintro v w2 (⟨he,rfl,hS'⟩|⟨he,hf,rfl,hS'⟩|⟨gw,sp,k',vh,held,he,hf,hsp,rfl,hk',hS'⟩)
 ·replace hS:=hS.transA hS'
  simp only [k7] at hS
  repeat' (first|(first|((with_reducible apply d6 c8);exact rfl;exact rfl)|((with_reducible apply j7 hS c8);(iterate 3 exact rfl);intro g w' hS';clear hS;have hS:=hS';clear hS')|(((with_reducible apply i7 hS c8 (i:=0));(iterate 8 exact rfl);((exact (rfl:_=[_,_])));intro w' hS';simp only [List.set] at hS';clear hS;have hS:=hS';clear hS')))|(first|(with_reducible first|apply d8|apply c9|apply d7|apply d5))|(((with_reducible apply k9);exact rfl;(exact rfl)))|((with_reducible apply a18 (by kernel_rfl));(iterate 3 exact rfl)))
  rename Nat=>g14
  refine a1F (fun w'=>St nF w w' [.blk g14 [.int .i64 0,.int .i64 0]]) 6 rfl hS (by kernel_rfl) ?_
  intro w1 hS'
  clear hS;have hS:=hS';clear hS'
  have hH:St nF w w1 [.blk g14 [.int .i64 0,.int .i64 0]]:=hS.sub (.cons_cons _ (List.nil_sublist _))
  ((with_reducible apply x6 0 c8);exact rfl;kernel_rfl;kernel_rfl;kernel_rfl;exact (fun _ _ _ _ h=>h);exact hH;exact rfl;exact rfl;((exact (rfl:_=some [_,_,_,_,_])));exact rfl)
  ((with_reducible apply v6 1);exact rfl;kernel_rfl;kernel_rfl;kernel_rfl;exact (fun _ _ _ h=>h);exact hH;exact rfl;(intro wd hd;replace hd:St _ _ wd _:=hd;(((with_reducible apply Loads.st c8);exact rfl;((exact hd.blkR 0 rfl));exact rfl)));exact rfl)
  ((with_reducible apply n8 2 c8);exact rfl;kernel_rfl;kernel_rfl;kernel_rfl;exact (fun _ _ _ h=>h);exact hH;exact rfl;exact rfl)
  refine o9 (i:=3) (by kernel_rfl) ?_
  refine q9 (Φ:=fun _ w'=>St _ _ w' _) rfl (o8 hS c8 (i:=2) rfl rfl rfl rfl rfl (Nat.le_of_ble_eq_true rfl) (List.all_eq_true.1 rfl)) ?_
  intro _ w' hS'
  simp only [List.set] at hS'
  clear hS;have hS:=hS';clear hS'
  refine ⟨(hS.sub (.cons_cons _ (List.nil_sublist _))),?_⟩
  refine o9 (i:=4) (by kernel_rfl) ?_
  refine q9 (Φ:=fun _ w'=>St _ _ w' _) rfl (o8 hS c8 (i:=1) rfl rfl rfl rfl rfl (Nat.le_of_ble_eq_true rfl) (List.all_eq_true.1 rfl)) ?_
  intro _ w' hS'
  simp only [List.set] at hS'
  clear hS;have hS:=hS';clear hS'
  refine ⟨(hS.sub (.cons_cons _ (List.nil_sublist _))),?_⟩
  have hH:St nF w w' [.blk g14 [.int .i64 0,.int .i64 0]]:=hS.sub (.cons_cons _ (List.nil_sublist _))
  ((with_reducible apply n8 5 c8);exact rfl;kernel_rfl;kernel_rfl;kernel_rfl;exact (fun _ _ _ h=>h);exact hH;exact rfl;exact rfl)
  refine y0 (by kernel_rfl) ?_
  repeat' ((first|(with_reducible first|apply d5|apply j5|apply e6)))
  (apply a1C);(repeat (first|exact ResL.nil|(apply ResL.tmp;exact rfl)|(apply ResL.cell;exact rfl;(((with_reducible apply Loads.st c8);exact rfl;(first|exact hS.blkR 1 rfl|exact hS.blkR 2 rfl);exact rfl)))))
  refine ⟨kv0,?_,?_,Or.inl ⟨rfl,hS.sub (List.nil_sublist _)⟩⟩
  ·unfold a2i;rw [if_neg he];rfl
  ·unfold a4Q;rw [if_neg (fun h=>he h.1)];rfl
 ·replace hS:=hS.transA hS'
  simp only [k7] at hS
  repeat' (first|(first|((with_reducible apply d6 c8);exact rfl;exact rfl)|((with_reducible apply j7 hS c8);(iterate 3 exact rfl);intro g w' hS';clear hS;have hS:=hS';clear hS')|(((with_reducible apply i7 hS c8 (i:=0));(iterate 8 exact rfl);((exact (rfl:_=[_,_])));intro w' hS';simp only [List.set] at hS';clear hS;have hS:=hS';clear hS')))|(first|(with_reducible first|apply d8|apply c9|apply d7|apply d5))|(((with_reducible apply k9);exact rfl;(exact rfl)))|((with_reducible apply a18 (by kernel_rfl));(iterate 3 exact rfl)))
  rename Nat=>g14
  refine a1F (fun w'=>St nF w w' [.blk g14 [.int .i64 (t6 (l9 K space.toNat) addr s.length 1).1,.int .i64 (t6 (l9 K space.toNat) addr s.length 1).2]]) 6 rfl hS (by kernel_rfl) ?_
  intro w1 hS'
  clear hS;have hS:=hS';clear hS'
  have hH:St nF w w1 [.blk g14 [.int .i64 (t6 (l9 K space.toNat) addr s.length 1).1,.int .i64 (t6 (l9 K space.toNat) addr s.length 1).2]]:=hS.sub (.cons_cons _ (List.nil_sublist _))
  ((with_reducible apply x6 0 c8);exact rfl;kernel_rfl;kernel_rfl;kernel_rfl;exact (fun _ _ _ _ h=>h);exact hH;exact rfl;exact rfl;((exact (rfl:_=some [_,_,_,_,_])));exact rfl)
  ((with_reducible apply v6 1);exact rfl;kernel_rfl;kernel_rfl;kernel_rfl;exact (fun _ _ _ h=>h);exact hH;exact rfl;(intro wd hd;replace hd:St _ _ wd _:=hd;(((with_reducible apply Loads.st c8);exact rfl;((exact hd.blkR 0 rfl));exact rfl)));exact rfl)
  ((with_reducible apply n8 2 c8);exact rfl;kernel_rfl;kernel_rfl;kernel_rfl;exact (fun _ _ _ h=>h);exact hH;exact rfl;exact rfl)
  refine o9 (i:=3) (by kernel_rfl) ?_
  refine q9 (Φ:=fun _ w'=>St _ _ w' _) rfl (o8 hS c8 (i:=2) rfl rfl rfl rfl rfl (Nat.le_of_ble_eq_true rfl) (List.all_eq_true.1 rfl)) ?_
  intro _ w' hS'
  simp only [List.set] at hS'
  clear hS;have hS:=hS';clear hS'
  refine ⟨(hS.sub (.cons_cons _ (List.nil_sublist _))),?_⟩
  refine o9 (i:=4) (by kernel_rfl) ?_
  refine q9 (Φ:=fun _ w'=>St _ _ w' _) rfl (o8 hS c8 (i:=1) rfl rfl rfl rfl rfl (Nat.le_of_ble_eq_true rfl) (List.all_eq_true.1 rfl)) ?_
  intro _ w' hS'
  simp only [List.set] at hS'
  clear hS;have hS:=hS';clear hS'
  refine ⟨(hS.sub (.cons_cons _ (List.nil_sublist _))),?_⟩
  have hH:St nF w w' [.blk g14 [.int .i64 (t6 (l9 K space.toNat) addr s.length 1).1,.int .i64 (t6 (l9 K space.toNat) addr s.length 1).2]]:=hS.sub (.cons_cons _ (List.nil_sublist _))
  ((with_reducible apply n8 5 c8);exact rfl;kernel_rfl;kernel_rfl;kernel_rfl;exact (fun _ _ _ h=>h);exact hH;exact rfl;exact rfl)
  refine y0 (by kernel_rfl) ?_
  repeat' ((first|(with_reducible first|apply d5|apply j5|apply e6)))
  (apply a1C);(repeat (first|exact ResL.nil|(apply ResL.tmp;exact rfl)|(apply ResL.cell;exact rfl;(((with_reducible apply Loads.st c8);exact rfl;(first|exact hS.blkR 1 rfl|exact hS.blkR 2 rfl);exact rfl)))))
  refine ⟨kv0,?_,?_,Or.inl ⟨rfl,hS.sub (List.nil_sublist _)⟩⟩
  ·unfold a2i;rw [if_pos he,he];rfl
  ·unfold a4Q;rw [if_neg (fun h=>hf h.2)];rfl
 have hkv:KerV w2 k':=(WkV.own (Γ:=[]) (by rw [List.append_nil];exact hS')).ker
 obtain ⟨hr0,hs1,hs8,-,ha1,ha2,hat⟩:=a59 he hsp (by rw [hsp] at hf;exact hf)
 obtain ⟨hrt,-,hpres⟩:=a4G hr0 (sp:=sp) (by omega) hs1 hs8 hat (decide ((1:Int)=1))
 rw [← hk'] at hrt hpres
 obtain ⟨a,rfl⟩:∃ a:Nat,addr=(a:Nat):=⟨addr.toNat,by omega⟩
 replace hS:=hS.trans hS'
 clear hS' hre
 replace hS:=hS.perm List.perm_append_comm
 dsimp only [List.cons_append,List.nil_append] at hS
 repeat' (first|(first|((with_reducible apply d6 c8);exact rfl;exact rfl)|((with_reducible apply d9);exact rfl;(((with_reducible apply Loads.sc c8);exact rfl;((exact hS.blkC 3 rfl rfl))));exact rfl)|((with_reducible apply j7 hS c8);(iterate 3 exact rfl);intro g w' hS';clear hS;have hS:=hS';clear hS')|(((with_reducible apply i7 hS c8 (i:=0));(iterate 8 exact rfl);((exact (rfl:_=[_,_])));intro w' hS';simp only [List.set] at hS';clear hS;have hS:=hS';clear hS')))|(first|(with_reducible first|apply d8|apply c9|apply d7|apply d5|apply g8))|(((with_reducible apply l6);exact rfl;(exact rfl)))|((with_reducible apply a18 (by kernel_rfl));(iterate 3 exact rfl)))
 obtain ⟨x,hx,-⟩:=a8r (k:=k') (sp:=sp) (page:=((a:Nat) + (0:Int)) / 16) (by
  have h:=hat 0 (by omega) (by omega)
  have hsm:=(a4G hr0 (sp:=sp) (by omega) hs1 hs8 hat (decide ((1:Int)=1))).2.1
  rw [hk']
  exact h.same hsm.ar hsm.live)
 replace hS:=hS.perm perm5
 have hea:=b2P (a:=a) (s:=s) hS (KRo.ownG hS) hrt hx (by omega) (by omega) (fun i hi=>hpres (i:Nat) (by omega) (by omega))
 refine e8 (first:=[]) (caps:=[]) rfl rfl hea rfl ?_
 clear hea
 rintro _ w3 ⟨rfl,h3⟩
 replace hS:=(St.transM (Δ:=.blk _ _::wkS gw (kvS k' sp a s s.length) sp vh held) hS h3).perm perm5.symm
 clear h3
 obtain ⟨sh',fr',sl',sps',hand',vsh',vfr',vsl',vsp'⟩:=k'
 obtain ⟨m1,m2,m3,m4,-⟩:=hkv
 dsimp only at m1 m2 m3 m4
 obtain ⟨q1,d1,rfl⟩:=m1.sl.len
 obtain ⟨q2,d2,rfl⟩:=m2.len
 obtain ⟨q3,d3,rfl⟩:=m3.len
 obtain ⟨q4,d4,rfl⟩:=m4.len
 repeat' ((first|(with_reducible first|apply d8|apply d7|apply d5)))
 unfold wkS at hS
 dsimp only [List.cons_append] at hS
 refine a1F (fun w'=>St nF w w' [.blk g [.int .i64 0,.int .i64 0],.blk gw [.slice q1 sh'.length d1,.slice q2 fr'.length d2,.slice q3 sl'.length d3,.slice q4 sps'.length d4,.int .i64 hand',.int .i64 (sp:Nat),vh]]) 9 rfl hS (by kernel_rfl) ?_
 intro w1 hS'
 clear hS;have hS:=hS';clear hS'
 have hH:St nF w w1 [.blk g [.int .i64 0,.int .i64 0],.blk gw [.slice q1 sh'.length d1,.slice q2 fr'.length d2,.slice q3 sl'.length d3,.slice q4 sps'.length d4,.int .i64 hand',.int .i64 (sp:Nat),vh]]:=hS.sub (.cons_cons _ (.cons _ (.cons _ (.cons _ (.cons _ (.cons_cons _ (List.nil_sublist _)))))))
 ((with_reducible apply n8 0 c8);exact rfl;kernel_rfl;kernel_rfl;kernel_rfl;exact (fun _ _ _ h=>h);exact hH;exact rfl;exact rfl)
 ((with_reducible apply n8 1 c8);exact rfl;kernel_rfl;kernel_rfl;kernel_rfl;exact (fun _ _ _ h=>h);exact hH;exact rfl;exact rfl)
 ((with_reducible apply n8 2 c8);exact rfl;kernel_rfl;kernel_rfl;kernel_rfl;exact (fun _ _ _ h=>h);exact hH;exact rfl;exact rfl)
 ((with_reducible apply v6 3);exact rfl;kernel_rfl;kernel_rfl;kernel_rfl;exact (fun _ _ _ h=>h);exact hH;exact rfl;(intro wd hd;replace hd:St _ _ wd _:=hd;((with_reducible apply Loads.st c8);exact rfl;exact (hd.blkRk 1 0 5 rfl);exact rfl));exact rfl)
 ((with_reducible apply v6 4);exact rfl;kernel_rfl;kernel_rfl;kernel_rfl;exact (fun _ _ _ h=>h);exact hH;exact rfl;(intro wd hd;replace hd:St _ _ wd _:=hd;(((with_reducible apply Loads.st c8);exact rfl;((exact hd.blkR 0 rfl));exact rfl)));exact rfl)
 ((with_reducible apply n8 5 c8);exact rfl;kernel_rfl;kernel_rfl;kernel_rfl;exact (fun _ _ _ h=>h);exact hH;exact rfl;exact rfl)
 refine o9 (i:=6) (by kernel_rfl) ?_
 simp only [List.take_succ_cons,List.take_zero,List.drop_zero]
 refine q9 (Φ:=fun _ w'=>St _ _ w' _) rfl (o8 hS c8 (i:=2) rfl rfl rfl rfl rfl (Nat.le_of_ble_eq_true rfl) (List.all_eq_true.1 rfl)) ?_
 intro _ w' hS'
 simp only [List.set] at hS'
 clear hS;have hS:=hS';clear hS'
 refine ⟨(hS.sub (.cons_cons _ (.cons _ (.cons _ (.cons _ (.cons _ (.cons_cons _ (List.nil_sublist _)))))))),?_⟩
 refine o9 (i:=7) (by kernel_rfl) ?_
 refine q9 (Φ:=fun _ w'=>St _ _ w' _) rfl (o8 hS c8 (i:=1) rfl rfl rfl rfl rfl (Nat.le_of_ble_eq_true rfl) (List.all_eq_true.1 rfl)) ?_
 intro _ w' hS'
 simp only [List.set] at hS'
 clear hS;have hS:=hS';clear hS'
 refine ⟨(hS.sub (.cons_cons _ (.cons _ (.cons _ (.cons _ (.cons _ (.cons_cons _ (List.nil_sublist _)))))))),?_⟩
 have hH:St nF w w' [.blk g [.int .i64 0,.int .i64 0],.blk gw [.slice q1 sh'.length d1,.slice q2 fr'.length d2,.slice q3 sl'.length d3,.slice q4 sps'.length d4,.int .i64 hand',.int .i64 (sp:Nat),vh]]:=hS.sub (.cons_cons _ (.cons _ (.cons _ (.cons _ (.cons _ (.cons_cons _ (List.nil_sublist _)))))))
 ((with_reducible apply n8 8 c8);exact rfl;kernel_rfl;kernel_rfl;kernel_rfl;exact (fun _ _ _ h=>h);exact hH;exact rfl;exact rfl)
 refine y0 (by kernel_rfl) ?_
 repeat' ((first|(with_reducible first|apply d5|apply j5)))
 (apply a1C);(repeat (first|exact ResL.nil|(apply ResL.tmp;exact rfl)|(apply ResL.cell;exact rfl;(((with_reducible apply Loads.st c8);exact rfl;(first|exact hS.blkR 1 rfl|exact hS.blkR 2 rfl);exact rfl)))))
 have hok:okR K space (a:Nat) s.length 1:=⟨he,hf⟩
 refine ⟨kvS ⟨sh',fr',sl',sps',hand',.slice q1 sh'.length d1,.slice q2 fr'.length d2,.slice q3 sl'.length d3,.slice q4 sps'.length d4⟩ sp a s s.length,?_,?_,?_⟩
 ·rw [a6J hok,he];rfl
 ·rw [b6d,hk'];unfold a4Q;rw [if_pos hok,hsp];rfl
 ·refine b0l (Γ:=[]) (g:=gw) (sp:=sp) (vh:=vh) (held:=held) ?_
  rw [List.append_nil]
  exact hS.sub (.cons _ (.cons _ (.cons _ (.cons _ (.cons _ (.refl _))))))
end Go.Proofs.Ytejnpppejalhfac
/- kernel.Load. -/
namespace Go.Proofs.Ytejnpppejalhfac
open Go.RowKit Go.Sort
theorem perm6 {α:Type} {a b c d e f:α} {W R:List α}:(a::b::c::d::e::f::(W++R)).Perm ((b::a::W)++(R++[c,d,e,f])):=by
 refine (List.Perm.swap _ _ _).trans (List.Perm.cons _ (List.Perm.cons _ ?_))
 refine (List.perm_append_comm (l₁:=[c,d,e,f])).trans ?_
 exact List.Perm.of_eq (List.append_assoc W R _)
section
variable {P:Program} {n:Nat} {ds:List Deferred} {E:Fr} {w:World} {Q:Exit→Act→World→Prop} {ops:Array Oper} {S:World→Prop} {fuel:Nat} {li:Array Bool} {d:Nat} {op:Op} {ty:TypeId} {pos:String} {after:Array Edge} {F:Nat→Prop} {w0:World} {Γ:List Asr} {T:Tab}
theorem b37 (k i:Nat) {t u e sz2:Nat} {z2:Value} {x:Operand} {v:Value} {l:List UInt8} (hi:ops[i]?=some ⟨some d,.convert t u x,ty,pos,after,none⟩) (hs:Region.noSelect ops=true) (hf:Region.free .any ops li i=true) (hr:(Region.ready .any ops li).contains i=true)
  (hQ:∀ c (a:Act) w,Q (.panic c) (a.put (some d) (.string ⟨l.toArray⟩)) w→Q (.panic c) a w) (hS:S w) (hT:TabOk P T) (ht:T.get t=some (.sl e 1 1 false [.int .u8 0])) (he:T.get e=some (.sc (.int .u8) 1 (.int .u8 0))) (hu2:T.get u=some (.sc .string sz2 z2)) (hx:E.ev x=some v)
  (hl:∀ w,S w→St F w0 w Γ) (hg:Γ[k]?=some (.row e 1 v (bR l))) (hne:0 < l.length) (hd:Nat.blt d n=true) (kk:WA P ops Q S fuel (li.setIfInBounds i true) n ds ((d,.string ⟨l.toArray⟩)::E) w):WA P ops Q S (fuel + 1) li n ds E w:=fun a ha=>
 wpAnyH_take hi hs hf hr hQ (Or.inl ⟨rfl,fun w hw=>by
  have hS:=hl w hw
  obtain ⟨ji,zv,hu,hinfo,_⟩:=hT.sl ht
  obtain ⟨_,hus,_⟩:=hT.sc hu2
  obtain ⟨_,hue,_⟩:=hT.sc he
  rcases hS.rowForm k hg with ⟨rfl,h0⟩|⟨g,cap,rfl,_⟩
  ·have:=congrArg List.length h0
   rw [a30,List.length_nil] at this
   omega
  ·have hrun:=run_convert_bytes_back (P:=P) w t u e ⟨g,0,none⟩ cap l hu hue hus (fun j hj=>by
    rw [a2Z]
    have:=hS.rowC k hg (k:=j) (j:=0) (r:=[.int .u8 l[j].toNat]) (u:=.int .u8 l[j].toNat) (by unfold bR;simp [hj]) rfl
    simpa using this)
   rw [a30] at hx
   simp only [execOp,ha.ev hx,Sem.run_bind,hrun,Result.andThen_ok,Sem.run_pure]⟩) hS (kk _ (ha.put d _ hd))
end
def okL (K:Ker) (space addr size way:Int):Prop:=okR K space addr size way∧way≠1
instance (K:Ker) (space addr size way:Int):Decidable (okL K space addr size way):=by unfold okL;infer_instance
def a3C (K:Ker) (space size way:Int):Int:=if y9 K space size way=0∧way=1 then 10 else y9 K space size way
def a3F (K:Ker) (space addr size way:Int):Int×Int:=if way=1 then (0,0) else a2i K space addr size way
def a4p (K:Ker) (space addr size way:Int):Ker:=if okL K space addr size way then a1i K space.toNat addr size false else a6s
def a3E (K:Ker) (space addr size way:Int):List UInt8:=if okL K space addr size way then a2T (a1i K space.toNat addr size false) space.toNat addr size.toNat else []
theorem b32 {K:Ker} {space addr size way:Int} (he:y9 K space size way≠0):a3E K space addr size way=[]∧a3F K space addr size way=(0,0)∧a3C K space size way=y9 K space size way∧a4p K space addr size way=a6s:=by
 unfold a3E a3F a3C a4p
 have hn:¬okL K space addr size way:=fun h=>he h.1.1
 rw [if_neg hn,if_neg hn,if_neg (fun h:y9 K space size way=0∧way=1=>he h.1)]
 unfold a2i
 rw [if_neg he,ite_self]
 exact ⟨rfl,rfl,rfl,rfl⟩
theorem b0g {K:Ker} {space addr size way:Int} (he:y9 K space size way=0) (hw:way=1):a3E K space addr size way=[]∧a3F K space addr size way=(0,0)∧a3C K space size way=10∧a4p K space addr size way=a6s:=by
 unfold a3E a3F a3C a4p
 have hn:¬okL K space addr size way:=fun h=>h.2 hw
 rw [if_neg hn,if_neg hn,if_pos hw,if_pos (⟨he,hw⟩:y9 K space size way=0∧way=1)]
 exact ⟨rfl,rfl,rfl,rfl⟩
theorem b4s {K:Ker} {space addr size way:Int} (he:y9 K space size way=0) (hf:(t6 (l9 K space.toNat) addr size way).1≠0) (hw:way≠1):a3E K space addr size way=[]∧a3F K space addr size way=t6 (l9 K space.toNat) addr size way∧a3C K space size way=0∧a4p K space addr size way=a6s:=by
 unfold a3E a3F a3C a4p
 have hn:¬okL K space addr size way:=fun h=>hf h.1.2
 rw [if_neg hn,if_neg hn,if_neg hw,if_neg (fun h:y9 K space size way=0∧way=1=>hw h.2)]
 unfold a2i
 rw [if_pos he,he]
 exact ⟨rfl,rfl,rfl,rfl⟩
theorem b4e {K:Ker} {space addr size way:Int} (h:okL K space addr size way):a3E K space addr size way=a2T (a1i K space.toNat addr size false) space.toNat addr size.toNat∧a3F K space addr size way=(0,0)∧a3C K space size way=0∧a4p K space addr size way=a1i K space.toNat addr size false:=by
 unfold a3E a3F a3C a4p
 rw [if_pos h,if_pos h,if_neg h.2,if_neg (fun h2:y9 K space size way=0∧way=1=>h.2 h2.2),a6J h.1,h.1.1]
 exact ⟨rfl,rfl,rfl,rfl⟩
set_option maxRecDepth 100000 in
set_option maxHeartbeats 8000000 in
theorem b3W {w:World} {k:KV} (hK:KerV w k) {space addr size way:Int} (hb0:-9223372036854775808≤addr) (hb1:addr≤9223372036854775807):Fn Try.prog 18 [.agg (kvC k).toArray,.int .i64 space,.int .i64 addr,.int .i64 size,.int .i64 way] w (fun v w'=>∃ k',v=.tuple #[.agg (kvC k').toArray,.string ⟨(a3E k.K space addr size way).toArray⟩,a21 (a3F k.K space addr size way),.int .i64 (a3C k.K space size way)]∧k'.K=a4p k.K space addr size way∧Came w w' k'):=by
 have hre:=fun w1 (h:KerV w1 k)=>a76 h (space:=space) (size:=size) (way:=way) hb0 hb1
 have hK0:=hK
 obtain ⟨sh,fr,sl,sps,hand,vsh,vfr,vsl,vsp⟩:=k
 obtain ⟨k1,k2,k3,k4,k5⟩:=hK
 dsimp only at k1 k2 k3 k4 k5
 obtain ⟨p1,c1,rfl⟩:=k1.sl.len
 obtain ⟨p2,c2,rfl⟩:=k2.len
 obtain ⟨p3,c3,rfl⟩:=k3.len
 obtain ⟨p4,c4,rfl⟩:=k4.len
 generalize hKK:KV.K ⟨sh,fr,sl,sps,hand,.slice p1 sh.length c1,.slice p2 fr.length c2,.slice p3 sl.length c3,.slice p4 sps.length c4⟩=K at hre ⊢
 have hpre:∀ w1 Γ1,St nF w w1 Γ1→KerV w1 ⟨sh,fr,sl,sps,hand,.slice p1 sh.length c1,.slice p2 fr.length c2,.slice p3 sl.length c3,.slice p4 sps.length c4⟩:=fun w1 Γ1 h=>hK0.now h
 unfold a21 at hre ⊢
 unfold kvC at hre
 dsimp only at hre
 unfold kvC
 dsimp only
 have hE0:∀ e:Int,decide (e=0)=true∨decide (e=0)=false:=fun e=>by cases decide (e=0) <;> simp
 refine j0 (fn:=Try.f18) ⟨Try.func18,by kernel_rfl,by kernel_rfl⟩ (by exact rfl) Try.ntmps18 (by exact rfl) ?_
 have hS:=St.start w
 repeat' (first|(first|((with_reducible apply d6 c8);exact rfl;exact rfl)|((with_reducible apply d9);exact rfl;(((with_reducible apply Loads.st c8);exact rfl;((exact hS.blkR 2 rfl));exact rfl));exact rfl)|((with_reducible apply p7 hS);(iterate 3 exact rfl);intro g w' hS';clear hS;have hS:=hS';clear hS')|((with_reducible apply j7 hS c8);(iterate 3 exact rfl);intro g w' hS';clear hS;have hS:=hS';clear hS'))|(first|(with_reducible first|apply d8|apply c9|apply d7|apply d5)))
 refine e8 rfl rfl (hre _ (hpre _ _ hS)) rfl ?_
 rintro v w2 (⟨he,rfl,hS'⟩|⟨he,hf,rfl,hS'⟩|⟨gw,sp,k',vh,held,he,hf,hsp,rfl,hk',hS'⟩)
 ·replace hS:=hS.transA hS'
  simp only [k7] at hS
  have hd:decide (y9 K space size way=0)=false:=decide_eq_false he
  repeat' (first|(first|((with_reducible apply d6 c8);exact rfl;exact rfl)|((with_reducible apply j7 hS c8);(iterate 3 exact rfl);intro g w' hS';clear hS;have hS:=hS';clear hS')|(((with_reducible apply i7 hS c8 (i:=0));(iterate 8 exact rfl);((exact (rfl:_=[_,_])));intro w' hS';simp only [List.set] at hS';clear hS;have hS:=hS';clear hS'))|(first|((with_reducible apply a0f);(iterate 4 exact rfl);((assumption));exact rfl)|((with_reducible apply n0);exact rfl;((assumption));exact rfl;exact rfl)))|(first|(with_reducible first|apply d8|apply c9|apply d7|apply d5|apply g8))|(first|((with_reducible apply k9);exact rfl;(exact rfl))|((with_reducible apply l6);exact rfl;(exact rfl)))|((with_reducible apply a18 (by kernel_rfl));(iterate 3 exact rfl)))
  rename Nat=>g14
  refine a1F (fun w'=>St nF w w' [.blk g14 [.int .i64 0,.int .i64 0]]) 7 rfl hS (by kernel_rfl) ?_
  intro w1 hS'
  clear hS;have hS:=hS';clear hS'
  have hH:St nF w w1 [.blk g14 [.int .i64 0,.int .i64 0]]:=hS.sub (.cons_cons _ (List.nil_sublist _))
  ((with_reducible apply x6 0 c8);exact rfl;kernel_rfl;kernel_rfl;kernel_rfl;exact (fun _ _ _ _ h=>h);exact hH;exact rfl;exact rfl;((exact (rfl:_=some [_,_,_,_,_])));exact rfl)
  ((with_reducible apply v6 1);exact rfl;kernel_rfl;kernel_rfl;kernel_rfl;exact (fun _ _ _ h=>h);exact hH;exact rfl;(intro wd hd;replace hd:St _ _ wd _:=hd;(((with_reducible apply Loads.st c8);exact rfl;((exact hd.blkR 0 rfl));exact rfl)));exact rfl)
  ((with_reducible apply n8 2 c8);exact rfl;kernel_rfl;kernel_rfl;kernel_rfl;exact (fun _ _ _ h=>h);exact hH;exact rfl;exact rfl)
  refine o9 (i:=3) (by kernel_rfl) ?_
  refine q9 (Φ:=fun _ w'=>St _ _ w' _) rfl (o8 hS c8 (i:=2) rfl rfl rfl rfl rfl (Nat.le_of_ble_eq_true rfl) (List.all_eq_true.1 rfl)) ?_
  intro _ w' hS'
  simp only [List.set] at hS'
  clear hS;have hS:=hS';clear hS'
  refine ⟨(hS.sub (.cons_cons _ (List.nil_sublist _))),?_⟩
  have hH:St nF w w' [.blk g14 [.int .i64 0,.int .i64 0]]:=hS.sub (.cons_cons _ (List.nil_sublist _))
  ((with_reducible apply n8 4 c8);exact rfl;kernel_rfl;kernel_rfl;kernel_rfl;exact (fun _ _ _ h=>h);exact hH;exact rfl;exact rfl)
  refine o9 (i:=5) (by kernel_rfl) ?_
  refine q9 (Φ:=fun _ w'=>St _ _ w' _) rfl (o8 hS c8 (i:=1) rfl rfl rfl rfl rfl (Nat.le_of_ble_eq_true rfl) (List.all_eq_true.1 rfl)) ?_
  intro _ w' hS'
  simp only [List.set] at hS'
  clear hS;have hS:=hS';clear hS'
  refine ⟨(hS.sub (.cons_cons _ (List.nil_sublist _))),?_⟩
  have hH:St nF w w' [.blk g14 [.int .i64 0,.int .i64 0]]:=hS.sub (.cons_cons _ (List.nil_sublist _))
  ((with_reducible apply n8 6 c8);exact rfl;kernel_rfl;kernel_rfl;kernel_rfl;exact (fun _ _ _ h=>h);exact hH;exact rfl;exact rfl)
  refine y0 (by kernel_rfl) ?_
  repeat' ((first|(with_reducible first|apply d5|apply j5|apply e6)))
  (apply a5K)
  (repeat (first|exact ResL.nil|(apply ResL.tmp;exact rfl)|(apply ResL.cell;exact rfl;(((with_reducible apply Loads.st c8);exact rfl;(first|exact hS.blkR 1 rfl|exact hS.blkR 2 rfl);exact rfl)))))
  obtain ⟨v1,v2,v3,v4⟩:=b32 he (addr:=addr)
  refine ⟨kv0,?_,?_,Or.inl ⟨rfl,hS.sub (List.nil_sublist _)⟩⟩
  ·rw [v1,v2,v3];rfl
  ·rw [v4];rfl
 ·replace hS:=hS.transA hS'
  simp only [k7] at hS
  by_cases hw:way=1
  ·have hd:decide (way=1)=true:=decide_eq_true hw
   repeat' (first|(first|((with_reducible apply d6 c8);exact rfl;exact rfl)|((with_reducible apply n7 c8);exact rfl;exact rfl;((exact (rfl:_=some [_,_])));exact rfl)|((with_reducible apply j7 hS c8);(iterate 3 exact rfl);intro g w' hS';clear hS;have hS:=hS';clear hS')|(((with_reducible apply i7 hS c8 (i:=0));(iterate 8 exact rfl);((exact (rfl:_=[_,_])));intro w' hS';simp only [List.set] at hS';clear hS;have hS:=hS';clear hS'))|(first|((with_reducible apply p9);(iterate 4 exact rfl);(exact rfl))|((with_reducible apply m9);exact rfl;((exact rfl));exact rfl;exact rfl)))|(first|(with_reducible first|apply d8|apply c9|apply d7|apply d5))|(((with_reducible apply k9);exact rfl;first|exact rfl|assumption))|((with_reducible apply a18 (by kernel_rfl));(iterate 3 exact rfl)))
   rename Nat=>g14
   refine a1F (fun w'=>St nF w w' [.blk g14 [.int .i64 0,.int .i64 0]]) 7 rfl hS (by kernel_rfl) ?_
   intro w1 hS'
   clear hS;have hS:=hS';clear hS'
   have hH:St nF w w1 [.blk g14 [.int .i64 0,.int .i64 0]]:=hS.sub (.cons_cons _ (List.nil_sublist _))
   ((with_reducible apply x6 0 c8);exact rfl;kernel_rfl;kernel_rfl;kernel_rfl;exact (fun _ _ _ _ h=>h);exact hH;exact rfl;exact rfl;((exact (rfl:_=some [_,_,_,_,_])));exact rfl)
   ((with_reducible apply v6 1);exact rfl;kernel_rfl;kernel_rfl;kernel_rfl;exact (fun _ _ _ h=>h);exact hH;exact rfl;(intro wd hd;replace hd:St _ _ wd _:=hd;(((with_reducible apply Loads.st c8);exact rfl;((exact hd.blkR 0 rfl));exact rfl)));exact rfl)
   ((with_reducible apply n8 2 c8);exact rfl;kernel_rfl;kernel_rfl;kernel_rfl;exact (fun _ _ _ h=>h);exact hH;exact rfl;exact rfl)
   refine o9 (i:=3) (by kernel_rfl) ?_
   refine q9 (Φ:=fun _ w'=>St _ _ w' _) rfl (o8 hS c8 (i:=2) rfl rfl rfl rfl rfl (Nat.le_of_ble_eq_true rfl) (List.all_eq_true.1 rfl)) ?_
   intro _ w' hS'
   simp only [List.set] at hS'
   clear hS;have hS:=hS';clear hS'
   refine ⟨(hS.sub (.cons_cons _ (List.nil_sublist _))),?_⟩
   have hH:St nF w w' [.blk g14 [.int .i64 0,.int .i64 0]]:=hS.sub (.cons_cons _ (List.nil_sublist _))
   ((with_reducible apply n8 4 c8);exact rfl;kernel_rfl;kernel_rfl;kernel_rfl;exact (fun _ _ _ h=>h);exact hH;exact rfl;exact rfl)
   refine o9 (i:=5) (by kernel_rfl) ?_
   refine q9 (Φ:=fun _ w'=>St _ _ w' _) rfl (o8 hS c8 (i:=1) rfl rfl rfl rfl rfl (Nat.le_of_ble_eq_true rfl) (List.all_eq_true.1 rfl)) ?_
   intro _ w' hS'
   simp only [List.set] at hS'
   clear hS;have hS:=hS';clear hS'
   refine ⟨(hS.sub (.cons_cons _ (List.nil_sublist _))),?_⟩
   have hH:St nF w w' [.blk g14 [.int .i64 0,.int .i64 0]]:=hS.sub (.cons_cons _ (List.nil_sublist _))
   ((with_reducible apply n8 6 c8);exact rfl;kernel_rfl;kernel_rfl;kernel_rfl;exact (fun _ _ _ h=>h);exact hH;exact rfl;exact rfl)
   refine y0 (by kernel_rfl) ?_
   repeat' ((first|(with_reducible first|apply d5|apply j5|apply e6)))
   (apply a5K)
   (repeat (first|exact ResL.nil|(apply ResL.tmp;exact rfl)|(apply ResL.cell;exact rfl;(((with_reducible apply Loads.st c8);exact rfl;(first|exact hS.blkR 1 rfl|exact hS.blkR 2 rfl);exact rfl)))))
   obtain ⟨v1,v2,v3,v4⟩:=b0g he hw (addr:=addr)
   refine ⟨kv0,?_,?_,Or.inl ⟨rfl,hS.sub (List.nil_sublist _)⟩⟩
   ·rw [v1,v2,v3];rfl
   ·rw [v4];rfl
  ·have hd:decide (way=1)=false:=decide_eq_false hw
   repeat' (first|(first|((with_reducible apply d6 c8);exact rfl;exact rfl)|((with_reducible apply j7 hS c8);(iterate 3 exact rfl);intro g w' hS';clear hS;have hS:=hS';clear hS')|(((with_reducible apply i7 hS c8 (i:=0));(iterate 8 exact rfl);((exact (rfl:_=[_,_])));intro w' hS';simp only [List.set] at hS';clear hS;have hS:=hS';clear hS'))|(first|((with_reducible apply p9);(iterate 4 exact rfl);(exact rfl))|((with_reducible apply m9);exact rfl;((exact rfl));exact rfl;exact rfl)))|(first|(with_reducible first|apply d8|apply c9|apply d7|apply d5|apply g8))|(first|((with_reducible apply k9);exact rfl;(exact rfl))|((with_reducible apply l6);exact rfl;(assumption)))|((with_reducible apply a18 (by kernel_rfl));(iterate 3 exact rfl)))
   rename Nat=>g14
   refine a1F (fun w'=>St nF w w' [.blk g14 [.int .i64 (t6 (l9 K space.toNat) addr size way).1,.int .i64 (t6 (l9 K space.toNat) addr size way).2]]) 7 rfl hS (by kernel_rfl) ?_
   intro w1 hS'
   clear hS;have hS:=hS';clear hS'
   have hH:St nF w w1 [.blk g14 [.int .i64 (t6 (l9 K space.toNat) addr size way).1,.int .i64 (t6 (l9 K space.toNat) addr size way).2]]:=hS.sub (.cons_cons _ (List.nil_sublist _))
   ((with_reducible apply x6 0 c8);exact rfl;kernel_rfl;kernel_rfl;kernel_rfl;exact (fun _ _ _ _ h=>h);exact hH;exact rfl;exact rfl;((exact (rfl:_=some [_,_,_,_,_])));exact rfl)
   ((with_reducible apply v6 1);exact rfl;kernel_rfl;kernel_rfl;kernel_rfl;exact (fun _ _ _ h=>h);exact hH;exact rfl;(intro wd hd;replace hd:St _ _ wd _:=hd;(((with_reducible apply Loads.st c8);exact rfl;((exact hd.blkR 0 rfl));exact rfl)));exact rfl)
   ((with_reducible apply n8 2 c8);exact rfl;kernel_rfl;kernel_rfl;kernel_rfl;exact (fun _ _ _ h=>h);exact hH;exact rfl;exact rfl)
   refine o9 (i:=3) (by kernel_rfl) ?_
   refine q9 (Φ:=fun _ w'=>St _ _ w' _) rfl (o8 hS c8 (i:=2) rfl rfl rfl rfl rfl (Nat.le_of_ble_eq_true rfl) (List.all_eq_true.1 rfl)) ?_
   intro _ w' hS'
   simp only [List.set] at hS'
   clear hS;have hS:=hS';clear hS'
   refine ⟨(hS.sub (.cons_cons _ (List.nil_sublist _))),?_⟩
   have hH:St nF w w' [.blk g14 [.int .i64 (t6 (l9 K space.toNat) addr size way).1,.int .i64 (t6 (l9 K space.toNat) addr size way).2]]:=hS.sub (.cons_cons _ (List.nil_sublist _))
   ((with_reducible apply n8 4 c8);exact rfl;kernel_rfl;kernel_rfl;kernel_rfl;exact (fun _ _ _ h=>h);exact hH;exact rfl;exact rfl)
   refine o9 (i:=5) (by kernel_rfl) ?_
   refine q9 (Φ:=fun _ w'=>St _ _ w' _) rfl (o8 hS c8 (i:=1) rfl rfl rfl rfl rfl (Nat.le_of_ble_eq_true rfl) (List.all_eq_true.1 rfl)) ?_
   intro _ w' hS'
   simp only [List.set] at hS'
   clear hS;have hS:=hS';clear hS'
   refine ⟨(hS.sub (.cons_cons _ (List.nil_sublist _))),?_⟩
   have hH:St nF w w' [.blk g14 [.int .i64 (t6 (l9 K space.toNat) addr size way).1,.int .i64 (t6 (l9 K space.toNat) addr size way).2]]:=hS.sub (.cons_cons _ (List.nil_sublist _))
   ((with_reducible apply n8 6 c8);exact rfl;kernel_rfl;kernel_rfl;kernel_rfl;exact (fun _ _ _ h=>h);exact hH;exact rfl;exact rfl)
   refine y0 (by kernel_rfl) ?_
   repeat' ((first|(with_reducible first|apply d5|apply j5|apply e6)))
   (apply a5K)
   (repeat (first|exact ResL.nil|(apply ResL.tmp;exact rfl)|(apply ResL.cell;exact rfl;(((with_reducible apply Loads.st c8);exact rfl;(first|exact hS.blkR 1 rfl|exact hS.blkR 2 rfl);exact rfl)))))
   obtain ⟨v1,v2,v3,v4⟩:=b4s he hf hw
   refine ⟨kv0,?_,?_,Or.inl ⟨rfl,hS.sub (List.nil_sublist _)⟩⟩
   ·rw [v1,v2,v3];rfl
   ·rw [v4];rfl
 ·have hkv:KerV w2 k':=(WkV.own (Γ:=[]) (by rw [List.append_nil];exact hS')).ker
  obtain ⟨hr0,hs1,hs8,-,ha1,ha2,hat⟩:=a59 he hsp (by rw [hsp] at hf;exact hf)
  replace hS:=hS.trans hS'
  clear hS' hre
  replace hS:=hS.perm List.perm_append_comm
  dsimp only [List.cons_append,List.nil_append] at hS
  by_cases hw:way=1
  ·have hd:decide (way=1)=true:=decide_eq_true hw
   repeat' (first|(first|((with_reducible apply d6 c8);exact rfl;exact rfl)|((with_reducible apply n7 c8);exact rfl;exact rfl;((exact (rfl:_=some [_,_])));exact rfl)|((with_reducible apply j7 hS c8);(iterate 3 exact rfl);intro g w' hS';clear hS;have hS:=hS';clear hS')|(((with_reducible apply i7 hS c8 (i:=0));(iterate 8 exact rfl);((exact (rfl:_=[_,_])));intro w' hS';simp only [List.set] at hS';clear hS;have hS:=hS';clear hS'))|(first|((with_reducible apply p9);(iterate 4 exact rfl);(exact rfl))|((with_reducible apply m9);exact rfl;((exact rfl));exact rfl;exact rfl)))|(first|(with_reducible first|apply d8|apply c9|apply d7|apply d5))|(((with_reducible apply k9);exact rfl;first|exact rfl|assumption))|((with_reducible apply a18 (by kernel_rfl));(iterate 3 exact rfl)))
   rename Nat=>g14
   refine a1F (fun w'=>St nF w w' [.blk g14 [.int .i64 0,.int .i64 0]]) 7 rfl hS (by kernel_rfl) ?_
   intro w1 hS'
   clear hS;have hS:=hS';clear hS'
   have hH:St nF w w1 [.blk g14 [.int .i64 0,.int .i64 0]]:=hS.sub (.cons_cons _ (List.nil_sublist _))
   ((with_reducible apply x6 0 c8);exact rfl;kernel_rfl;kernel_rfl;kernel_rfl;exact (fun _ _ _ _ h=>h);exact hH;exact rfl;exact rfl;((exact (rfl:_=some [_,_,_,_,_])));exact rfl)
   ((with_reducible apply v6 1);exact rfl;kernel_rfl;kernel_rfl;kernel_rfl;exact (fun _ _ _ h=>h);exact hH;exact rfl;(intro wd hd;replace hd:St _ _ wd _:=hd;(((with_reducible apply Loads.st c8);exact rfl;((exact hd.blkR 0 rfl));exact rfl)));exact rfl)
   ((with_reducible apply n8 2 c8);exact rfl;kernel_rfl;kernel_rfl;kernel_rfl;exact (fun _ _ _ h=>h);exact hH;exact rfl;exact rfl)
   refine o9 (i:=3) (by kernel_rfl) ?_
   refine q9 (Φ:=fun _ w'=>St _ _ w' _) rfl (o8 hS c8 (i:=2) rfl rfl rfl rfl rfl (Nat.le_of_ble_eq_true rfl) (List.all_eq_true.1 rfl)) ?_
   intro _ w' hS'
   simp only [List.set] at hS'
   clear hS;have hS:=hS';clear hS'
   refine ⟨(hS.sub (.cons_cons _ (List.nil_sublist _))),?_⟩
   have hH:St nF w w' [.blk g14 [.int .i64 0,.int .i64 0]]:=hS.sub (.cons_cons _ (List.nil_sublist _))
   ((with_reducible apply n8 4 c8);exact rfl;kernel_rfl;kernel_rfl;kernel_rfl;exact (fun _ _ _ h=>h);exact hH;exact rfl;exact rfl)
   refine o9 (i:=5) (by kernel_rfl) ?_
   refine q9 (Φ:=fun _ w'=>St _ _ w' _) rfl (o8 hS c8 (i:=1) rfl rfl rfl rfl rfl (Nat.le_of_ble_eq_true rfl) (List.all_eq_true.1 rfl)) ?_
   intro _ w' hS'
   simp only [List.set] at hS'
   clear hS;have hS:=hS';clear hS'
   refine ⟨(hS.sub (.cons_cons _ (List.nil_sublist _))),?_⟩
   have hH:St nF w w' [.blk g14 [.int .i64 0,.int .i64 0]]:=hS.sub (.cons_cons _ (List.nil_sublist _))
   ((with_reducible apply n8 6 c8);exact rfl;kernel_rfl;kernel_rfl;kernel_rfl;exact (fun _ _ _ h=>h);exact hH;exact rfl;exact rfl)
   refine y0 (by kernel_rfl) ?_
   repeat' ((first|(with_reducible first|apply d5|apply j5|apply e6)))
   (apply a5K)
   (repeat (first|exact ResL.nil|(apply ResL.tmp;exact rfl)|(apply ResL.cell;exact rfl;(((with_reducible apply Loads.st c8);exact rfl;(first|exact hS.blkR 1 rfl|exact hS.blkR 2 rfl);exact rfl)))))
   obtain ⟨v1,v2,v3,v4⟩:=b0g he hw (addr:=addr)
   refine ⟨kv0,?_,?_,Or.inl ⟨rfl,hS.sub (List.nil_sublist _)⟩⟩
   ·rw [v1,v2,v3];rfl
   ·rw [v4];rfl
  have hd:decide (way=1)=false:=decide_eq_false hw
  rw [hd] at hk'
  obtain ⟨hrt,hsm,hpres⟩:=a4G hr0 (sp:=sp) (by omega) hs1 hs8 hat false
  obtain ⟨a,rfl⟩:∃ a:Nat,addr=(a:Nat):=⟨addr.toNat,by omega⟩
  obtain ⟨n,rfl⟩:∃ n:Nat,size=(n:Nat):=⟨size.toNat,by omega⟩
  rw [← hk'] at hrt hpres hsm
  obtain ⟨x,hx,-⟩:=a8r (k:=k') (sp:=sp) (page:=((a:Nat) + (0:Int)) / 16) ((hat 0 (by omega) (by omega)).same hsm.ar hsm.live)
  repeat' (first|(first|((with_reducible apply d6 c8);exact rfl;exact rfl)|((with_reducible apply j7 hS c8);(iterate 3 exact rfl);intro g w' hS';clear hS;have hS:=hS';clear hS')|(((with_reducible apply i7 hS c8 (i:=0));(iterate 8 exact rfl);(first|exact (rfl:_=[_])|exact (rfl:_=[_,_]));intro w' hS';simp only [List.set] at hS';clear hS;have hS:=hS';clear hS'))|(first|((with_reducible apply p9);(iterate 4 exact rfl);(exact rfl))|((with_reducible apply m9);exact rfl;((exact rfl));exact rfl;exact rfl)))|(first|(with_reducible first|apply d8|apply c9|apply d7|apply d5|apply g8))|(((with_reducible apply l6);exact rfl;first|exact rfl|assumption))|((with_reducible apply a18 (by kernel_rfl));(iterate 3 exact rfl))|((with_reducible apply a7B hS c8 (m:=n));(iterate 5 exact rfl);omega;omega;exact rfl;exact rfl;intro gr w' hS';clear hS;have hS:=hS';clear hS'))
  rename_i g15 _ _ _ _
  have e0:List.replicate n [Value.int .u8 0]=bR (ldL k'.K sp a n 0):=by
   unfold ldL bR
   rw [List.take_zero,List.nil_append,List.map_replicate]
   rfl
  rw [e0] at hS
  replace hS:=hS.perm perm6
  have hea:=b18 hS (KRo.ownG hS) hrt hx (by omega) (by omega) (fun i hi=>hpres (i:Nat) (by omega) (by omega))
  refine e8 (first:=[]) (caps:=[]) rfl rfl hea rfl ?_
  clear hea
  rintro _ w3 ⟨rfl,h3⟩
  replace hS:=(St.transM (Δ:=.row _ _ _ _::.blk _ _::wkS gw k' sp vh held) hS h3).perm perm6.symm
  clear h3
  have e1:ldL k'.K sp a n n=a2T k'.K sp (a:Nat) n:=by
   unfold ldL
   rw [Nat.sub_self,List.replicate_zero,List.append_nil,List.take_of_length_le (by rw [a3q];omega)]
  rw [e1] at hS
  have e2:(a2T k'.K sp (a:Nat) n).length=n:=a3q
  generalize hD:a2T k'.K sp (a:Nat) n=D at hS e2
  obtain ⟨sh',fr',sl',sps',hand',vsh',vfr',vsl',vsp'⟩:=k'
  obtain ⟨m1,m2,m3,m4,-⟩:=hkv
  dsimp only at m1 m2 m3 m4
  obtain ⟨q1,d1,rfl⟩:=m1.sl.len
  obtain ⟨q2,d2,rfl⟩:=m2.len
  obtain ⟨q3,d3,rfl⟩:=m3.len
  obtain ⟨q4,d4,rfl⟩:=m4.len
  repeat' ((first|(with_reducible first|apply d8|apply d7|apply d5)))
  unfold wkS at hS
  dsimp only [List.cons_append] at hS
  have hlH:∀ w',St nF w w' [.blk g [.slice (some ⟨gr,0,none⟩) n n],.row 5 1 (.slice (some ⟨gr,0,none⟩) n n) (bR D),.blk g15 [.int .i64 0,.int .i64 0],.blk gw [.slice q1 sh'.length d1,.slice q2 fr'.length d2,.slice q3 sl'.length d3,.slice q4 sps'.length d4,.int .i64 hand',.int .i64 (sp:Nat),vh]]→St nF w w' [.blk g [.slice (some ⟨gr,0,none⟩) n n],.row 5 1 (.slice (some ⟨gr,0,none⟩) n n) (bR D),.blk g15 [.int .i64 0,.int .i64 0],.blk gw [.slice q1 sh'.length d1,.slice q2 fr'.length d2,.slice q3 sl'.length d3,.slice q4 sps'.length d4,.int .i64 hand',.int .i64 (sp:Nat),vh]]:=fun _ h=>h
  refine a1F (fun w'=>St nF w w' [.blk g [.slice (some ⟨gr,0,none⟩) n n],.row 5 1 (.slice (some ⟨gr,0,none⟩) n n) (bR D),.blk g15 [.int .i64 0,.int .i64 0],.blk gw [.slice q1 sh'.length d1,.slice q2 fr'.length d2,.slice q3 sl'.length d3,.slice q4 sps'.length d4,.int .i64 hand',.int .i64 (sp:Nat),vh]]) 12 rfl hS (by kernel_rfl) ?_
  intro w1 hS'
  clear hS;have hS:=hS';clear hS'
  have hH:=hlH _ (hS.sub (.cons_cons _ (.cons_cons _ (.cons_cons _ (.cons _ (.cons _ (.cons _ (.cons_cons _ (List.nil_sublist _)))))))))
  ((with_reducible apply n8 0 c8);exact rfl;kernel_rfl;kernel_rfl;kernel_rfl;exact (fun _ _ _ h=>h);exact hH;exact rfl;exact rfl)
  ((with_reducible apply n8 1 c8);exact rfl;kernel_rfl;kernel_rfl;kernel_rfl;exact (fun _ _ _ h=>h);exact hH;exact rfl;exact rfl)
  ((with_reducible apply n8 2 c8);exact rfl;kernel_rfl;kernel_rfl;kernel_rfl;exact (fun _ _ _ h=>h);exact hH;exact rfl;exact rfl)
  ((with_reducible apply v6 3);exact rfl;kernel_rfl;kernel_rfl;kernel_rfl;exact (fun _ _ _ h=>h);exact hH;exact rfl;(intro wd hd;replace hd:St _ _ wd _:=hd;((with_reducible apply Loads.st c8);exact rfl;exact (hd.blkRk 3 0 5 rfl);exact rfl));exact rfl)
  ((with_reducible apply v6 4);exact rfl;kernel_rfl;kernel_rfl;kernel_rfl;exact (fun _ _ _ h=>h);exact hH;exact rfl;(intro wd hd;replace hd:St _ _ wd _:=hd;(((with_reducible apply Loads.sl c8);exact rfl;((exact hd.blkC 0 rfl rfl)))));exact rfl)
  ((with_reducible apply b37 1 5);exact rfl;kernel_rfl;kernel_rfl;kernel_rfl;exact (fun _ _ _ h=>h);exact hH;exact c8;(iterate 4 exact rfl);exact hlH;exact rfl;omega;exact rfl)
  ((with_reducible apply v6 6);exact rfl;kernel_rfl;kernel_rfl;kernel_rfl;exact (fun _ _ _ h=>h);exact hH;exact rfl;(intro wd hd;replace hd:St _ _ wd _:=hd;(((with_reducible apply Loads.st c8);exact rfl;((exact hd.blkR 2 rfl));exact rfl)));exact rfl)
  ((with_reducible apply n8 7 c8);exact rfl;kernel_rfl;kernel_rfl;kernel_rfl;exact (fun _ _ _ h=>h);exact hH;exact rfl;exact rfl)
  refine o9 (i:=8) (by kernel_rfl) ?_
  simp only [List.take_succ_cons,List.take_zero,List.drop_zero]
  refine q9 (Φ:=fun _ w'=>St _ _ w' _) rfl (o8 hS c8 (i:=4) rfl rfl rfl rfl rfl (Nat.le_of_ble_eq_true rfl) (List.all_eq_true.1 rfl)) ?_
  intro _ w' hS'
  simp only [List.set] at hS'
  clear hS;have hS:=hS';clear hS'
  refine ⟨hlH _ (hS.sub (.cons_cons _ (.cons_cons _ (.cons_cons _ (.cons _ (.cons _ (.cons _ (.cons_cons _ (List.nil_sublist _))))))))),?_⟩
  have hH:=hlH _ (hS.sub (.cons_cons _ (.cons_cons _ (.cons_cons _ (.cons _ (.cons _ (.cons _ (.cons_cons _ (List.nil_sublist _)))))))))
  ((with_reducible apply n8 9 c8);exact rfl;kernel_rfl;kernel_rfl;kernel_rfl;exact (fun _ _ _ h=>h);exact hH;exact rfl;exact rfl)
  refine o9 (i:=10) (by kernel_rfl) ?_
  refine q9 (Φ:=fun _ w'=>St _ _ w' _) rfl (o8 hS c8 (i:=3) rfl rfl rfl rfl rfl (Nat.le_of_ble_eq_true rfl) (List.all_eq_true.1 rfl)) ?_
  intro _ w' hS'
  simp only [List.set] at hS'
  clear hS;have hS:=hS';clear hS'
  refine ⟨hlH _ (hS.sub (.cons_cons _ (.cons_cons _ (.cons_cons _ (.cons _ (.cons _ (.cons _ (.cons_cons _ (List.nil_sublist _))))))))),?_⟩
  have hH:=hlH _ (hS.sub (.cons_cons _ (.cons_cons _ (.cons_cons _ (.cons _ (.cons _ (.cons _ (.cons_cons _ (List.nil_sublist _)))))))))
  ((with_reducible apply n8 11 c8);exact rfl;kernel_rfl;kernel_rfl;kernel_rfl;exact (fun _ _ _ h=>h);exact hH;exact rfl;exact rfl)
  refine y0 (by kernel_rfl) ?_
  repeat' ((first|(with_reducible first|apply d5|apply j5)))
  (apply a5K)
  (repeat (first|exact ResL.nil|(apply ResL.tmp;exact rfl)|(apply ResL.cell;exact rfl;(((with_reducible apply Loads.st c8);exact rfl;(first|exact hS.blkR 3 rfl|exact hS.blkR 4 rfl);exact rfl)))))
  have hok:okL K space (a:Nat) (n:Nat) way:=⟨⟨he,hf⟩,hw⟩
  obtain ⟨v1,v2,v3,v4⟩:=b4e hok
  refine ⟨⟨sh',fr',sl',sps',hand',.slice q1 sh'.length d1,.slice q2 fr'.length d2,.slice q3 sl'.length d3,.slice q4 sps'.length d4⟩,?_,?_,?_⟩
  ·rw [v1,v2,v3,hsp,Int.toNat_natCast,← hk',Int.toNat_natCast,hD]
   rfl
  ·rw [hk',v4,hsp];rfl
  ·refine b0l (Γ:=[]) (g:=gw) (sp:=sp) (vh:=vh) (held:=held) ?_
   rw [List.append_nil]
   exact hS.sub (.cons _ (.cons _ (.cons _ (.cons _ (.cons _ (.cons _ (.refl _)))))))
end Go.Proofs.Ytejnpppejalhfac
/- kernel.Peek. -/
namespace Go.Proofs.Ytejnpppejalhfac
open Go.RowKit Go.Sort
def a7Y (K:Ker) (space page:Int):Int:=if a0n K space=0 then (if (v7 (l9 K space.toNat) page).isSome=true then 0 else 6) else a0n K space
def b2e (K:Ker) (space page:Int):List UInt8:=if a7Y K space page=0 then t7 K space.toNat page else []
theorem a3Y {K:Ker} {space:Int} (h:a0n K space=0):Right K∧∃ sp:Nat,space=(sp:Nat)∧sp < K.spaces.length∧(u7 K sp).live=true:=by
 unfold a0n at h
 by_cases h3:a0Y K=0
 ·rw [if_pos h3] at h
  by_cases h4:0≤space∧space < (K.spaces.length:Int)∧(u7 K space.toNat).live=true
  ·exact ⟨a1m.1 h3,space.toNat,by omega,by omega,h4.2.2⟩
  ·rw [if_neg h4] at h;cases h
 ·rw [if_neg h3] at h;exact absurd h h3
set_option maxRecDepth 100000 in
set_option maxHeartbeats 8000000 in
theorem b4d {w:World} {k:KV} (hK:KerV w k) (space page:Int):Fn Try.prog 7 [.agg (kvC k).toArray,.int .i64 space,.int .i64 page] w (RBf (.tuple #[.string ⟨(b2e k.K space page).toArray⟩,.int .i64 (a7Y k.K space page)]) w):=by
 have hbeg:=fun w1 (h:KerV w1 k)=>a4i h space
 have hK0:=hK
 obtain ⟨RE,hRE⟩:∃ e,e=a7Y k.K space page:=⟨_,rfl⟩
 unfold b2e
 rw [← hRE]
 unfold a7Y at hRE
 obtain ⟨sh,fr,sl,sps,hand,vsh,vfr,vsl,vsp⟩:=k
 obtain ⟨k1,k2,k3,k4,k5⟩:=hK
 dsimp only at k1 k2 k3 k4 k5
 obtain ⟨p1,c1,rfl⟩:=k1.sl.len
 obtain ⟨p2,c2,rfl⟩:=k2.len
 obtain ⟨p3,c3,rfl⟩:=k3.len
 obtain ⟨p4,c4,rfl⟩:=k4.len
 generalize hKK:KV.K ⟨sh,fr,sl,sps,hand,.slice p1 sh.length c1,.slice p2 fr.length c2,.slice p3 sl.length c3,.slice p4 sps.length c4⟩=K at hbeg hRE ⊢
 have hpre:∀ w1 Γ1,St nF w w1 Γ1→KerV w1 ⟨sh,fr,sl,sps,hand,.slice p1 sh.length c1,.slice p2 fr.length c2,.slice p3 sl.length c3,.slice p4 sps.length c4⟩:=fun w1 Γ1 h=>hK0.now h
 unfold kvC at hbeg ⊢
 dsimp only at hbeg ⊢
 refine j0 (fn:=Try.f7) ⟨Try.func7,by kernel_rfl,by kernel_rfl⟩ (by exact rfl) Try.ntmps7 (by exact rfl) ?_
 have hS:=St.start w
 repeat' (first|(first|((with_reducible apply d6 c8);exact rfl;exact rfl)|((with_reducible apply d9);exact rfl;(((with_reducible apply Loads.st c8);exact rfl;((exact hS.blkR 0 rfl));exact rfl));exact rfl)|((with_reducible apply p7 hS);(iterate 3 exact rfl);intro g w' hS';clear hS;have hS:=hS';clear hS'))|(first|(with_reducible first|apply d8|apply c9|apply d7|apply d5)))
 refine e8 rfl rfl (hbeg _ (hpre _ _ hS)) rfl ?_
 clear hbeg
 rintro v w2 (⟨he,rfl,hS'⟩|⟨gw,sp,k',he,hsp,rfl,hk',hS'⟩)
 ·replace hS:=hS.transA hS'
  simp only [k7] at hS
  rw [if_neg he] at hRE
  have hd:decide (a0n K space=0)=false:=decide_eq_false he
  rw [← hRE] at he hd ⊢
  rw [if_neg he]
  repeat' (first|(((with_reducible apply d6 c8);exact rfl;exact rfl))|(first|(with_reducible first|apply d8|apply c9|apply d7|apply d5|apply j5|apply e6))|(((with_reducible apply a1e);exact rfl;all_goals (intro hb hp;try (exfalso;omega)))))
  (apply s9);(repeat (first|exact ResL.nil|(apply ResL.tmp;exact rfl)))
  exact ⟨rfl,hS.sub (List.nil_sublist _)⟩
 rw [if_pos he] at hRE
 obtain ⟨hr,sp2,hsp2,hspl,hlv⟩:=a3Y he
 obtain rfl:sp=sp2:=by omega
 replace hS:=hS.trans hS'
 clear hS'
 rw [List.append_assoc] at hS
 subst hsp
 rw [Int.toNat_natCast] at hRE ⊢
 clear hKK hpre hK0 k1 k2 k3 k4 k5
 subst hk'
 obtain ⟨x,hx⟩:∃ x,k'.sp[sp]?=some x:=by
  have:k'.K.spaces.length=k'.sp.length:=List.length_map _
  exact l8 (by omega)
 have hxm:=List.mem_of_getElem? hx
 obtain ⟨hsc,hel⟩:=a0q hr x.s (List.mem_of_getElem? (a0V hx))
 have hxA:l9 k'.K sp=x.s.areas:=by unfold l9;rw [x7 (a0V hx)]
 have hxe:l5 k'.K sp=x.s.entries:=by unfold l5;rw [x7 (a0V hx)]
 rw [hxA] at hRE
 have hV0:=WkV.own hS
 obtain ⟨bs,os,cs,hvsp⟩:=hV0.ker.sp.form1 hx
 obtain ⟨f0,hf0⟩:∃ f0,k'.fr[0]?=some f0:=l8 (by have:=hr.cnt.1;have h9:k'.K.frames.length=k'.fr.length:=rfl;omega)
 obtain ⟨bf,of_,cf,hvfr⟩:=hV0.ker.fr.form1 hf0
 obtain ⟨psl,csl,hvsl⟩:=hV0.ker.sl.len
 have hxv:=hV0.ker.spv x hxm
 obtain ⟨sh',fr',sl',sps',hand',vsh',vfr',vsl',vsp'⟩:=k'
 dsimp only at hvsp hvfr hvsl hx hxm hf0
 subst hvsp hvfr hvsl
 have hrowS:=j9 (f:=spC) hx
 unfold spC at hrowS
 have hspc:=fun w1 Γ1 (h:St nF w w1 (wkS gw (⟨sh',fr',sl',sps',hand',vsh',.slice (some ⟨bf,of_,none⟩) fr'.length cf,.slice psl sl'.length csl,.slice (some ⟨bs,os,none⟩) sps'.length cs⟩:KV) sp (.slice none 0 0) []++(x8 (⟨sh',fr',sl',sps',hand',vsh',.slice (some ⟨bf,of_,none⟩) fr'.length cf,.slice psl sl'.length csl,.slice (some ⟨bs,os,none⟩) sps'.length cs⟩:KV)++Γ1)))=>a08 (WkV.own h) (j3 hx)
 have hspV:=fun w1 Γ1 (h:St nF w w1 (wkS gw (⟨sh',fr',sl',sps',hand',vsh',.slice (some ⟨bf,of_,none⟩) fr'.length cf,.slice psl sl'.length csl,.slice (some ⟨bs,os,none⟩) sps'.length cs⟩:KV) sp (.slice none 0 0) []++(x8 (⟨sh',fr',sl',sps',hand',vsh',.slice (some ⟨bf,of_,none⟩) fr'.length cf,.slice psl sl'.length csl,.slice (some ⟨bs,os,none⟩) sps'.length cs⟩:KV)++Γ1)))=>(WkV.own h).ker.sp
 have hfnd:=fun w1 Γ1 (h:St nF w w1 (wkS gw (⟨sh',fr',sl',sps',hand',vsh',.slice (some ⟨bf,of_,none⟩) fr'.length cf,.slice psl sl'.length csl,.slice (some ⟨bs,os,none⟩) sps'.length cs⟩:KV) sp (.slice none 0 0) []++(x8 (⟨sh',fr',sl',sps',hand',vsh',.slice (some ⟨bf,of_,none⟩) fr'.length cf,.slice psl sl'.length csl,.slice (some ⟨bs,os,none⟩) sps'.length cs⟩:KV)++Γ1)))=>a4a page ((WkV.own h).ker.spv x hxm).ar
 unfold a1c at hspc
 dsimp only at hspc hspV
 rw [a1g hsc.ar] at hfnd
 unfold a3b at hfnd
 cases hfa:v7 x.s.areas page with
 |none=>
  rw [hfa] at hRE hfnd
  dsimp only [Option.getD,Option.isSome] at hfnd hRE
  have hRE2:RE=6:=hRE
  rw [hRE2]
  repeat' (first|(first|((with_reducible apply d6 c8);exact rfl;exact rfl)|((with_reducible apply j7 hS c8);(iterate 3 exact rfl);intro g w' hS';clear hS;have hS:=hS';clear hS')|(((with_reducible apply i7 hS c8 (i:=0));(iterate 8 exact rfl);((exact (rfl:_=[_,_,_,_])));intro w' hS';simp only [List.set] at hS';clear hS;have hS:=hS';clear hS')))|(first|(with_reducible first|apply d8|apply c9|apply d7|apply d5|apply g8|apply j5|apply e6))|(first|((with_reducible apply k9);exact rfl;(exact rfl))|((with_reducible apply l6);exact rfl;(exact rfl)))|((with_reducible apply e8);exact rfl;exact rfl;exact hspc _ _ hS;exact rfl;rintro _ w' ⟨rfl,hS'⟩;replace hS:=hS.transA hS';simp only [k7] at hS;clear hS')|((with_reducible apply d9);exact rfl;(((with_reducible apply Loads.sl c8);exact rfl;exact (hspV _ _ hS).cel hrowS rfl));exact rfl)|((with_reducible apply e8);exact rfl;exact rfl;exact hfnd _ _ hS;exact rfl;rintro _ w' ⟨rfl,hS'⟩;replace hS:=hS.transA hS';simp only [k7] at hS;clear hS'))
  (apply s9);(repeat (first|exact ResL.nil|(apply ResL.tmp;exact rfl)))
  exact ⟨rfl,hS.sub (List.nil_sublist _)⟩
 |some a=>
  rw [hfa] at hRE hfnd
  dsimp only [Option.getD,Option.isSome] at hfnd hRE
  have hRE2:RE=0:=hRE
  rw [hRE2,if_pos rfl]
  unfold arC at hfnd
  have hpg:=a5f hsc.ar (p:=page) (by rw [hfa];rfl)
  have hent:=fun w1 Γ1 (h:St nF w w1 (wkS gw (⟨sh',fr',sl',sps',hand',vsh',.slice (some ⟨bf,of_,none⟩) fr'.length cf,.slice psl sl'.length csl,.slice (some ⟨bs,os,none⟩) sps'.length cs⟩:KV) sp (.slice none 0 0) []++(x8 (⟨sh',fr',sl',sps',hand',vsh',.slice (some ⟨bf,of_,none⟩) fr'.length cf,.slice psl sl'.length csl,.slice (some ⟨bs,os,none⟩) sps'.length cs⟩:KV)++Γ1)))=>a1S (WkV.own h) hx page hsc.rises (a3p hsc (by omega))
  obtain ⟨pt,is,hEV,hcase⟩:=a4r (page:=page) hsc.rises hxv.en
  rw [hEV] at hent
  rcases hcase with ⟨rfl,rfl,he2⟩|⟨rfl,e,b,off,c,i,he2,hve,hei,rfl⟩
  ·obtain ⟨d,d1,d2,d3⟩:=a5L hr (sp:=sp) (page:=page) ⟨hlv,by rw [hxA,hfa];rfl⟩
   have hz:zAt (⟨sh',fr',sl',sps',hand',vsh',.slice (some ⟨bf,of_,none⟩) fr'.length cf,.slice psl sl'.length csl,.slice (some ⟨bs,os,none⟩) sps'.length cs⟩:KV).K sp page=a.z:=by unfold zAt;rw [hxA,hfa];rfl
   rw [hz] at d1
   have hfil:=fun w1 Γ1 (h:St nF w w1 (wkS gw (⟨sh',fr',sl',sps',hand',vsh',.slice (some ⟨bf,of_,none⟩) fr'.length cf,.slice psl sl'.length csl,.slice (some ⟨bs,os,none⟩) sps'.length cs⟩:KV) sp (.slice none 0 0) []++(x8 (⟨sh',fr',sl',sps',hand',vsh',.slice (some ⟨bf,of_,none⟩) fr'.length cf,.slice psl sl'.length csl,.slice (some ⟨bs,os,none⟩) sps'.length cs⟩:KV)++Γ1)))=>a2H (F:=nF) (a:=a) (p:=page) (WkV.own h).c0 (WkV.own h).ker.sh hr.rise (by omega)
   have hdd:a09 (shs sh') a.z page=some d:=d1
   rw [hdd] at hfil
   unfold a6w at hfil
   dsimp only [Option.getD,Option.isSome] at hfil
   unfold arC at hfil
   have hpk:t7 (⟨sh',fr',sl',sps',hand',vsh',.slice (some ⟨bf,of_,none⟩) fr'.length cf,.slice psl sl'.length csl,.slice (some ⟨bs,os,none⟩) sps'.length cs⟩:KV).K sp page=d:=by unfold t7;rw [hxe,he2];exact d3
   rw [hpk]
   repeat' (first|(first|((with_reducible apply d6 c8);exact rfl;exact rfl)|((with_reducible apply j7 hS c8);(iterate 3 exact rfl);intro g w' hS';clear hS;have hS:=hS';clear hS')|(((with_reducible apply i7 hS c8 (i:=0));(iterate 8 exact rfl);((exact (rfl:_=[_,_,_,_])));intro w' hS';simp only [List.set] at hS';clear hS;have hS:=hS';clear hS')))|(first|(with_reducible first|apply d8|apply c9|apply d7|apply d5|apply g8|apply e7))|(first|((with_reducible apply k9);exact rfl;(exact rfl))|((with_reducible apply l6);exact rfl;(exact rfl)))|((with_reducible apply e8);exact rfl;exact rfl;exact hspc _ _ hS;exact rfl;rintro _ w' ⟨rfl,hS'⟩;replace hS:=hS.transA hS';simp only [k7] at hS;clear hS')|((with_reducible apply d9);exact rfl;(((with_reducible apply Loads.sl c8);exact rfl;exact (hspV _ _ hS).cel hrowS rfl));exact rfl)|((with_reducible apply e8);exact rfl;exact rfl;exact hfnd _ _ hS;exact rfl;rintro _ w' ⟨rfl,hS'⟩;replace hS:=hS.transA hS';simp only [k7] at hS;clear hS')|((with_reducible apply e8);exact rfl;exact rfl;exact hent _ _ hS.drop;exact rfl;rintro _ w' ⟨rfl,hS'⟩;replace hS:=hS.transA hS';simp only [k7] at hS;clear hS'))
   (focus ((with_reducible apply m7 _ _ _ (by kernel_rfl) (by kernel_rfl) hS);(repeat' (first|(first|((with_reducible apply o5 c8);exact rfl;exact rfl)|((with_reducible apply n6);exact rfl;(intro wd hd;replace hd:St _ _ wd _:=hd;(((with_reducible apply Loads.st c8);exact rfl;((exact hd.blkR 0 rfl));exact rfl)));exact rfl))|((with_reducible apply a0A);exact rfl;exact rfl;(intro wd hd;replace hd:St _ _ wd _:=hd;exact hfil _ _ hd.drop);exact rfl)));all_goals ((with_reducible apply r5);intro w' hS';clear hS;have hS:=hS';clear hS')))
   repeat' (first|(((with_reducible apply d6 c8);exact rfl;exact rfl))|(first|(with_reducible first|apply d8|apply c9|apply d7|apply d5|apply j5|apply e6|apply j8)))
   (apply s9);(repeat (first|exact ResL.nil|(apply ResL.tmp;exact rfl)))
   exact ⟨rfl,hS.sub (List.nil_sublist _)⟩
  ·obtain ⟨hep,hnm,-⟩:=a2Q hr (sp:=sp) (p:=page) (e:=e) (by rw [hxe];exact he2)
   have hrowE:=j9 (f:=enC) hei
   have hentV:=fun w1 Γ1 (h:St nF w w1 (wkS gw (⟨sh',fr',sl',sps',hand',vsh',.slice (some ⟨bf,of_,none⟩) fr'.length cf,.slice psl sl'.length csl,.slice (some ⟨bs,os,none⟩) sps'.length cs⟩:KV) sp (.slice none 0 0) []++(x8 (⟨sh',fr',sl',sps',hand',vsh',.slice (some ⟨bf,of_,none⟩) fr'.length cf,.slice psl sl'.length csl,.slice (some ⟨bs,os,none⟩) sps'.length cs⟩:KV)++Γ1)))=>((WkV.own h).ker.spv x hxm).en
   rw [hve] at hentV
   unfold enC at hrowE
   have hpk:t7 (⟨sh',fr',sl',sps',hand',vsh',.slice (some ⟨bf,of_,none⟩) fr'.length cf,.slice psl sl'.length csl,.slice (some ⟨bs,os,none⟩) sps'.length cs⟩:KV).K sp page=v8 (⟨sh',fr',sl',sps',hand',vsh',.slice (some ⟨bf,of_,none⟩) fr'.length cf,.slice psl sl'.length csl,.slice (some ⟨bs,os,none⟩) sps'.length cs⟩:KV).K e:=by unfold t7;rw [hxe,he2]
   rw [hpk]
   unfold v8
   have hfrV:=fun w1 Γ1 (h:St nF w w1 (wkS gw (⟨sh',fr',sl',sps',hand',vsh',.slice (some ⟨bf,of_,none⟩) fr'.length cf,.slice psl sl'.length csl,.slice (some ⟨bs,os,none⟩) sps'.length cs⟩:KV) sp (.slice none 0 0) []++(x8 (⟨sh',fr',sl',sps',hand',vsh',.slice (some ⟨bf,of_,none⟩) fr'.length cf,.slice psl sl'.length csl,.slice (some ⟨bs,os,none⟩) sps'.length cs⟩:KV)++Γ1)))=>(WkV.own h).ker.fr
   have hslV:=fun w1 Γ1 (h:St nF w w1 (wkS gw (⟨sh',fr',sl',sps',hand',vsh',.slice (some ⟨bf,of_,none⟩) fr'.length cf,.slice psl sl'.length csl,.slice (some ⟨bs,os,none⟩) sps'.length cs⟩:KV) sp (.slice none 0 0) []++(x8 (⟨sh',fr',sl',sps',hand',vsh',.slice (some ⟨bf,of_,none⟩) fr'.length cf,.slice psl sl'.length csl,.slice (some ⟨bs,os,none⟩) sps'.length cs⟩:KV)++Γ1)))=>(WkV.own h).ker.sl
   dsimp only at hfrV hslV
   rcases hnm with ⟨hk1,j,hj,hjl,-⟩|⟨hk2,j,hj,hjl,-⟩
   ·have hd1:decide (e.kind=1)=true:=decide_eq_true hk1
    obtain ⟨epg,ekd,eat⟩:=e
    dsimp only at hj hk1 hep
    subst hj
    rw [if_pos hk1,Int.toNat_natCast]
    have hjl':j < fr'.length:=hjl
    obtain ⟨s1,hs1⟩:=l8 (l:=fr') (i:=j) (by omega)
    rw [show (⟨sh',fr',sl',sps',hand',vsh',.slice (some ⟨bf,of_,none⟩) fr'.length cf,.slice psl sl'.length csl,.slice (some ⟨bs,os,none⟩) sps'.length cs⟩:KV).K.frames=fr' from rfl,q8 hs1]
    have hrowL:=j9 (f:=fmC) hs1
    unfold fmC at hrowL
    repeat' (first|(first|((with_reducible apply d6 c8);exact rfl;exact rfl)|((with_reducible apply j7 hS c8);(iterate 3 exact rfl);intro g w' hS';clear hS;have hS:=hS';clear hS')|(((with_reducible apply i7 hS c8 (i:=0));(iterate 8 exact rfl);((exact (rfl:_=[_,_,_,_])));intro w' hS';simp only [List.set] at hS';clear hS;have hS:=hS';clear hS')))|(first|(with_reducible first|apply d8|apply c9|apply d7|apply d5|apply g8|apply e7))|(first|((with_reducible apply k9);exact rfl;(assumption))|((with_reducible apply l6);exact rfl;(exact rfl)))|((with_reducible apply e8);exact rfl;exact rfl;exact hspc _ _ hS;exact rfl;rintro _ w' ⟨rfl,hS'⟩;replace hS:=hS.transA hS';simp only [k7] at hS;clear hS')|((with_reducible apply d9);exact rfl;(((with_reducible apply Loads.sl c8);exact rfl;exact (hspV _ _ hS).cel hrowS rfl));exact rfl)|((with_reducible apply e8);exact rfl;exact rfl;exact hfnd _ _ hS;exact rfl;rintro _ w' ⟨rfl,hS'⟩;replace hS:=hS.transA hS';simp only [k7] at hS;clear hS')|((with_reducible apply e8);exact rfl;exact rfl;exact hent _ _ hS.drop;exact rfl;rintro _ w' ⟨rfl,hS'⟩;replace hS:=hS.transA hS';simp only [k7] at hS;clear hS')|((with_reducible apply d9);exact rfl;(((with_reducible apply Loads.sc c8);exact rfl;exact (hentV _ _ hS.drop).cel hrowE rfl));exact rfl))
    (focus ((with_reducible apply m7 _ _ _ (by kernel_rfl) (by kernel_rfl) hS);(repeat' (first|(first|((with_reducible apply o5 c8);exact rfl;exact rfl)|((with_reducible apply n6);exact rfl;(intro wd hd;replace hd:St _ _ wd _:=hd;(((with_reducible apply Loads.sl c8);exact rfl;((exact hd.blkC 1 rfl rfl)))));exact rfl)|((with_reducible apply a05 c8);(iterate 3 exact rfl);((exact rfl));((omega));exact rfl))|((with_reducible apply n6);exact rfl;(intro wd hd;replace hd:St _ _ wd _:=hd;(((with_reducible apply Loads.sc c8);exact rfl;exact (hentV _ _ hd.drop).cel hrowE rfl)));exact rfl)|((with_reducible apply n6);exact rfl;(intro wd hd;replace hd:St _ _ wd _:=hd;(((with_reducible apply Loads.sc c8);exact rfl;exact (hfrV _ _ hd.drop).cel0 hrowL rfl)));exact rfl)));all_goals ((with_reducible apply r5);intro w' hS';clear hS;have hS:=hS';clear hS')))
    repeat' ((first|(with_reducible first|apply d7|apply d5|apply j5|apply e6|apply j8)))
    (apply s9);(repeat (first|exact ResL.nil|(apply ResL.tmp;exact rfl)))
    exact ⟨rfl,hS.sub (List.nil_sublist _)⟩
   ·have hd1:decide (e.kind=1)=false:=decide_eq_false (by omega)
    obtain ⟨epg,ekd,eat⟩:=e
    dsimp only at hj hk2 hep
    subst hj
    rw [if_neg (show ¬ekd=1 by omega),Int.toNat_natCast]
    have hjl':j < sl'.length:=hjl
    obtain ⟨s1,hs1⟩:=l8 (l:=sl') (i:=j) (by omega)
    rw [show (⟨sh',fr',sl',sps',hand',vsh',.slice (some ⟨bf,of_,none⟩) fr'.length cf,.slice psl sl'.length csl,.slice (some ⟨bs,os,none⟩) sps'.length cs⟩:KV).K.slots=sl' from rfl,a0B hs1]
    have hrowL:=j9 (f:=swC) hs1
    obtain ⟨bl,ol,cl,hfl⟩:=hV0.ker.sl.form1 hs1
    injection hfl with hfl1 hfl2 hfl3
    subst hfl1
    have hslV2:=fun w1 Γ1 (h:St nF w w1 (wkS gw (⟨sh',fr',sl',sps',hand',vsh',.slice (some ⟨bf,of_,none⟩) fr'.length cf,.slice (some ⟨bl,ol,none⟩) sl'.length csl,.slice (some ⟨bs,os,none⟩) sps'.length cs⟩:KV) sp (.slice none 0 0) []++(x8 (⟨sh',fr',sl',sps',hand',vsh',.slice (some ⟨bf,of_,none⟩) fr'.length cf,.slice (some ⟨bl,ol,none⟩) sl'.length csl,.slice (some ⟨bs,os,none⟩) sps'.length cs⟩:KV)++Γ1)))=>(WkV.own h).ker.sl
    unfold swC at hrowL
    repeat' (first|(first|((with_reducible apply d6 c8);exact rfl;exact rfl)|((with_reducible apply j7 hS c8);(iterate 3 exact rfl);intro g w' hS';clear hS;have hS:=hS';clear hS')|(((with_reducible apply i7 hS c8 (i:=0));(iterate 8 exact rfl);((exact (rfl:_=[_,_,_,_])));intro w' hS';simp only [List.set] at hS';clear hS;have hS:=hS';clear hS')))|(first|(with_reducible first|apply d8|apply c9|apply d7|apply d5|apply g8|apply e7|apply k8))|(((with_reducible apply l6);exact rfl;first|exact rfl|assumption))|((with_reducible apply e8);exact rfl;exact rfl;exact hspc _ _ hS;exact rfl;rintro _ w' ⟨rfl,hS'⟩;replace hS:=hS.transA hS';simp only [k7] at hS;clear hS')|((with_reducible apply d9);exact rfl;(((with_reducible apply Loads.sl c8);exact rfl;exact (hspV _ _ hS).cel hrowS rfl));exact rfl)|((with_reducible apply e8);exact rfl;exact rfl;exact hfnd _ _ hS;exact rfl;rintro _ w' ⟨rfl,hS'⟩;replace hS:=hS.transA hS';simp only [k7] at hS;clear hS')|((with_reducible apply e8);exact rfl;exact rfl;exact hent _ _ hS.drop;exact rfl;rintro _ w' ⟨rfl,hS'⟩;replace hS:=hS.transA hS';simp only [k7] at hS;clear hS')|((with_reducible apply d9);exact rfl;(((with_reducible apply Loads.sc c8);exact rfl;exact (hentV _ _ hS.drop).cel hrowE rfl));exact rfl))
    (focus ((with_reducible apply m7 _ _ _ (by kernel_rfl) (by kernel_rfl) hS);(repeat' (first|(first|((with_reducible apply o5 c8);exact rfl;exact rfl)|((with_reducible apply n6);exact rfl;(intro wd hd;replace hd:St _ _ wd _:=hd;(((with_reducible apply Loads.sl c8);exact rfl;((exact hd.blkC 1 rfl rfl)))));exact rfl)|((with_reducible apply a05 c8);(iterate 3 exact rfl);((exact rfl));((omega));exact rfl))|((with_reducible apply n6);exact rfl;(intro wd hd;replace hd:St _ _ wd _:=hd;(((with_reducible apply Loads.sc c8);exact rfl;exact (hentV _ _ hd.drop).cel hrowE rfl)));exact rfl)|((with_reducible apply n6);exact rfl;(intro wd hd;replace hd:St _ _ wd _:=hd;(((with_reducible apply Loads.sc c8);exact rfl;exact (hslV2 _ _ hd.drop).cel0 hrowL rfl)));exact rfl)));all_goals ((with_reducible apply r5);intro w' hS';clear hS;have hS:=hS';clear hS')))
    repeat' ((first|(with_reducible first|apply d7|apply d5|apply j5)))
    (apply s9);(repeat (first|exact ResL.nil|(apply ResL.tmp;exact rfl)))
    exact ⟨rfl,hS.sub (List.nil_sublist _)⟩
end Go.Proofs.Ytejnpppejalhfac
