/- Texts that the proof stands on, one behind the other: Ke28, Ke29, Ke30, Ke31, Ke32. -/
import Derived.Test.YtejnpppejalhfacPKernelApart10
/- (*kernel.work).each, loading and storing. -/
namespace Go.Proofs.Ytejnpppejalhfac
open Go.RowKit Go.Sort
def wkR (g:Nat) (k:KV) (sp:Nat) (vh:Value) (held:List Nat):List Asr:=.blk g (wkB k sp vh)::hdA vh held::slA k::spA0 k::k.sp.map enAp
theorem wk_perm {g:Nat} {k:KV} {sp:Nat} {vh:Value} {held:List Nat}:(wkS g k sp vh held).Perm (frA k::wkR g k sp vh held):=List.perm_middle (l₁:=[_,_])
theorem KRo.ownG {F:Nat→Prop} {w0 w:World} {Θ:List Asr} {k:KV} {Γ:List Asr} (hS:St F w0 w (Θ++(restA k++Γ))):KRo (fps Θ) w k:=by
 have hmem:∀ {e sz:Nat} {v:Value} {rows:List (List Value)},Asr.row e sz v rows ∈ restA k→Sl (fps Θ) w sz v rows:=fun h=>by
  obtain ⟨j,hj⟩:=List.mem_iff_getElem?.1 (List.mem_append_left Γ h)
  exact hS.ownSl j hj
 refine ⟨⟨hmem List.mem_cons_self,fun p hp=>?_⟩,fun p hp=>?_⟩
 ·exact hmem (e:=100) (List.mem_cons_of_mem _ (List.mem_append_left _ (List.mem_map.2 ⟨p,hp,rfl⟩)))
 ·exact hmem (e:=71) (List.mem_cons_of_mem _ (List.mem_append_right _ (List.mem_map.2 ⟨p,hp,rfl⟩)))
theorem loadN_len {K:Ker} {sp:Nat} {a:Int} {n:Nat}:(loadN K sp a n).length=n:=by unfold loadN;rw [List.length_map,List.length_range]
def ldL (K:Ker) (sp a n i:Nat):List UInt8:=(loadN K sp (a:Nat) n).take i++List.replicate (n - i) 0
theorem ldL_len {K:Ker} {sp a n i:Nat} (h:i≤n):(ldL K sp a n i).length=n:=by unfold ldL;rw [List.length_append,List.length_take,List.length_replicate,loadN_len];omega
theorem ldL_next {K:Ker} {sp a n i:Nat} (h:i < n) {y:UInt8} (hy:(peekK K sp (((a:Nat) + (i:Nat):Int) / 16)).getD (((a:Nat) + (i:Nat):Int) % 16).toNat 0=y):(ldL K sp a n i).set i y=ldL K sp a n (i + 1):=by
 unfold ldL
 have hl:((loadN K sp (a:Nat) n).take i).length=i:=by rw [List.length_take,loadN_len];omega
 have hg:(loadN K sp (a:Nat) n)[i]?=some y:=by
  unfold loadN
  rw [List.getElem?_map,List.getElem?_range h]
  exact congrArg some hy
 have h2:n - i=(n - (i + 1)) + 1:=by omega
 rw [h2,List.replicate_succ,List.set_append_right _ _ (by omega),hl,Nat.sub_self,List.set_cons_zero,List.take_add_one,hg]
 simp
set_option maxRecDepth 100000 in
set_option maxHeartbeats 8000000 in
theorem eachL_fn {F:Nat→Prop} {w0 w:World} {Γ:List Asr} {g0:Nat} {k:KV} {sp:Nat} {vh:Value} {held:List Nat} {p:Option Addr} {m c gc a n:Nat} (hS0:St F w0 w ((.row 5 1 (.slice p m c) (bR (ldL k.K sp a n 0))::.blk gc [.slice p m c]::wkS g0 k sp vh held)++Γ)) (hR0:KRo (fps (.row 5 1 (.slice p m c) (bR (ldL k.K sp a n 0))::.blk gc [.slice p m c]::wkS g0 k sp vh held)) w k) (hr:Right k.K) {x:Sp} (hx:k.sp[sp]?=some x) (ha:a≤4096) (hn:n≤8) (hp:∀ i:Nat,i < n→Pres k.K sp false (((a:Nat) + (i:Nat):Int) / 16)):Fn Try.prog 40 [.pointer (some ⟨g0,0,none⟩),.int .i64 (a:Nat),.int .i64 (n:Nat),.func (.func 43) #[] #[.pointer (some ⟨gc,0,none⟩)]] w (fun v w'=>v=.tuple #[]∧St (fps (.row 5 1 (.slice p m c) (bR (ldL k.K sp a n 0))::.blk gc [.slice p m c]::wkS g0 k sp vh held)) w w' (.row 5 1 (.slice p m c) (bR (ldL k.K sp a n n))::.blk gc [.slice p m c]::wkS g0 k sp vh held)):=by
 have hS:=St.startM hS0
 have hR:=hR0
 generalize fps _=G at hS hR ⊢
 clear hR0 hS0
 obtain ⟨bf,of_,cf,hvfr⟩:=(WkV.of (Γ:=[_,_]) (hS.perm (List.perm_append_comm (l₁:=[_,_]))) hR).ker.fr.form1 (List.getElem?_eq_getElem (show 0 < k.fr.length by have:=hr.cnt.1;have h9:k.K.frames.length=k.fr.length:=rfl;omega))
 obtain ⟨sh,fr,sl,sps,hand,vsh,vfr,vsl,vsp⟩:=k
 dsimp only at hvfr hx
 subst hvfr
 have hxm:=List.mem_of_getElem? hx
 obtain ⟨hsc,hel⟩:=right_bd hr x.s (List.mem_of_getElem? (kv_sp hx))
 have hV:∀ w1 A B,St G w w1 (A::B::wkS g0 (⟨sh,fr,sl,sps,hand,vsh,.slice (some ⟨bf,of_,none⟩) fr.length cf,vsl,vsp⟩:KV) sp vh held)→WkV w1 g0 (⟨sh,fr,sl,sps,hand,vsh,.slice (some ⟨bf,of_,none⟩) fr.length cf,vsl,vsp⟩:KV) sp vh held:=fun w1 A B h=>WkV.of (Γ:=[A,B]) (h.perm (List.perm_append_comm (l₁:=[A,B]))) hR
 have hent:=fun w1 A B (h:St G w w1 (A::B::wkS g0 (⟨sh,fr,sl,sps,hand,vsh,.slice (some ⟨bf,of_,none⟩) fr.length cf,vsl,vsp⟩:KV) sp vh held)) (page:Int) (hpb:-1000000≤page∧page≤1000000)=>wentry_fn (hV w1 A B h) hx page hsc.rises (pgBd_of hsc hpb)
 refine yEn Try.func40 Try.ntmps40 ?_
 repeat' ((refine yO ?_))
 refine c_loopK (F:=G) (w0:=w) (X:=Nat) (fun i=>[(12,.int .i64 (i:Nat))]) [0,1,3,11] rfl (fun i=>[.row 5 1 (.slice p m c) (bR (ldL (⟨sh,fr,sl,sps,hand,vsh,.slice (some ⟨bf,of_,none⟩) fr.length cf,vsl,vsp⟩:KV).K sp a n i))]) (fun i=>i≤n) (fun i=>n - i) 0 (by exact zS) (Nat.zero_le _) hS ?_
 clear hS
 intro i w1 hi hS
 dsimp only [List.cons_append,List.nil_append] at hS ⊢
 by_cases hlt:i < n
 ·have hd:decide ((i:Int) < (n:Int))=true:=decide_eq_true (by omega)
  obtain ⟨f,hf,-⟩:=hp i hlt
  obtain ⟨pt,is,hEV,hcase⟩:=entV_of (page:=((a:Nat) + (i:Nat):Int) / 16) hsc.rises ((hV _ _ _ hS).ker.spv x hxm).en
  have hee:entsOf (⟨sh,fr,sl,sps,hand,vsh,.slice (some ⟨bf,of_,none⟩) fr.length cf,vsl,vsp⟩:KV).K sp=x.s.entries:=by unfold entsOf;rw [scAt_eq (kv_sp hx)]
  rw [hee] at hf
  rcases hcase with ⟨-,-,he⟩|⟨rfl,e,b,off,c',j,he,hve,hei,rfl⟩
  ·rw [he] at hf;cases hf
  rw [he] at hf
  cases hf
  have hen:=hent _ _ _ hS (((a:Nat) + (i:Nat):Int) / 16) (by omega)
  rw [hEV] at hen
  repeat' (first|refine yO ?_|((with_reducible apply l_quo);exact rfl;exact rfl;omega;omega;omega;exact rfl)|(refine yC ?_;refine ⟨_,hen,?_⟩;clear hS;intro w' hS))
  obtain ⟨hfl,-,hdl⟩:=named_fm hr (by rw [hee];exact he)
  replace hfl:f < fr.length:=hfl
  have hfl':=hfl
  have hEn:∀ wd A B,St G w wd (A::B::wkS g0 (⟨sh,fr,sl,sps,hand,vsh,.slice (some ⟨bf,of_,none⟩) fr.length cf,vsl,vsp⟩:KV) sp vh held)→Sl nF wd 3 (.slice (some ⟨b,off,none⟩) x.s.entries.length c') (x.s.entries.map enC):=fun wd A B h=>by
   rw [← hve];exact ((hV _ _ _ h).ker.spv x hxm).en
  have hFr:∀ wd A B,St G w wd (A::B::wkS g0 (⟨sh,fr,sl,sps,hand,vsh,.slice (some ⟨bf,of_,none⟩) fr.length cf,vsl,vsp⟩:KV) sp vh held)→wd.cell? ⟨g0,1,none⟩=some (.slice (some ⟨bf,of_,none⟩) fr.length cf):=fun wd A B h=>by
   exact (St.start wd).bs (hV _ _ _ h).c1
  have hrowE:=map_get (f:=enC) hei
  unfold enC at hrowE
  replace hdl:(fmAt fr f).data.length=16:=hdl
  obtain ⟨y,hy⟩:=lt_get (l:=(fmAt fr f).data) (i:=(a + i) % 16) (by omega)
  have hcall:=fun w1 Γ1 (h:St G w w1 ([.row 5 1 (.slice p m c) (bR (ldL (⟨sh,fr,sl,sps,hand,vsh,.slice (some ⟨bf,of_,none⟩) fr.length cf,vsl,vsp⟩:KV).K sp a n i)),.blk gc [.slice p m c],frA (⟨sh,fr,sl,sps,hand,vsh,.slice (some ⟨bf,of_,none⟩) fr.length cf,vsl,vsp⟩:KV)]++Γ1))=>load1_fn h hfl hy (by rw [ldL_len hi];exact hlt)
  unfold elemP at hcall
  dsimp only at hcall
  (focus (refine yW (nn 16) ?_;(repeat' (first|refine yP ?_|((with_reducible apply d_load);exact rfl;(intro wd hd;replace hd:St _ _ wd _:=hd;(((with_reducible apply Loads.sc tabOk);exact rfl;exact (hEn _ _ _ hd).cel hrowE rfl)));exact rfl)|((with_reducible apply d_rem);exact rfl;exact rfl;omega;omega;exact rfl)));all_goals (refine yZ ?_;clear hS;intro w' hS)))
  have hS2:=hS.perm ((wk_perm.cons _).cons _)
  refine l_call (first:=[]) (caps:=[.pointer (some ⟨gc,0,none⟩)]) rfl rfl (hcall _ _ hS2) rfl ?_
  rintro _ w3 ⟨rfl,h3⟩
  replace hS:=(St.transM hS2 h3).perm ((wk_perm.symm.cons _).cons _)
  have hpk:peekK (⟨sh,fr,sl,sps,hand,vsh,.slice (some ⟨bf,of_,none⟩) fr.length cf,vsl,vsp⟩:KV).K sp (((a:Nat) + (i:Nat):Int) / 16)=(fmAt fr f).data:=by
   unfold peekK
   rw [hee,he]
   show dataE _ _=_
   unfold dataE
   rw [if_pos rfl]
   rfl
  rw [ldL_next hlt (by rw [hpk,List.getD_eq_getElem?_getD];exact congrArg (·.getD 0) hy)] at hS
  repeat' ((refine yO ?_))
  exact q_loopK (i + 1) (by exact zS) (by omega) hS (by omega)
 ·have hd:decide ((i:Int) < (n:Int))=false:=decide_eq_false (by omega)
  obtain rfl:i=n:=by omega
  repeat' ((refine yO ?_))
  refine yV0 ?_
  exact ⟨rfl,hS⟩
def kvS (k:KV) (sp:Nat) (a:Nat) (s:List UInt8) (i:Nat):KV:={ k with fr:=(storeN k.K sp (a:Nat) s i).frames }
theorem storeN_same (K:Ker) (sp:Nat) (a:Int) (s:List UInt8):∀ i,(storeN K sp a s i).sheets=K.sheets∧(storeN K sp a s i).spaces=K.spaces∧(storeN K sp a s i).slots=K.slots∧(storeN K sp a s i).hand=K.hand
 |0=>⟨rfl,rfl,rfl,rfl⟩
 |i + 1=>by
  obtain ⟨h1,h2,h3,h4⟩:=storeN_same K sp a s i
  show (storeS (storeN K sp a s i) sp _ _).sheets=_∧(storeS (storeN K sp a s i) sp _ _).spaces=_∧(storeS (storeN K sp a s i) sp _ _).slots=_∧(storeS (storeN K sp a s i) sp _ _).hand=_
  unfold storeS
  split
  ·exact ⟨h1,h2,h3,h4⟩
  ·exact ⟨h1,h2,h3,h4⟩
theorem kvS_K (k:KV) (sp a:Nat) (s:List UInt8) (i:Nat):(kvS k sp a s i).K=storeN k.K sp (a:Nat) s i:=by
 obtain ⟨h1,h2,h3,h4⟩:=storeN_same k.K sp (a:Nat) s i
 generalize hX:storeN k.K sp (a:Nat) s i=X at *
 unfold kvS
 rw [hX]
 obtain ⟨x1,x2,x3,x4,x5⟩:=X
 dsimp only at h1 h2 h3 h4
 subst h1 h2 h3 h4
 rfl
theorem kvS_next {k:KV} {sp a i f:Nat} {s:List UInt8} {y:UInt8} (he:entAt (entsOf k.K sp) (((a:Nat) + (i:Nat):Int) / 16)=some ⟨((a:Nat) + (i:Nat):Int) / 16,1,(f:Nat)⟩) (hy:s[i]?=some y):{ kvS k sp a s i with fr:=(kvS k sp a s i).fr.set f ⟨(fmAt (kvS k sp a s i).fr f).data.set ((a + i) % 16) y,(fmAt (kvS k sp a s i).fr f).refs,(fmAt (kvS k sp a s i).fr f).dirty,(fmAt (kvS k sp a s i).fr f).seen⟩ }=kvS k sp a s (i + 1):=by
 obtain ⟨h1,h2,h3,h4⟩:=storeN_same k.K sp (a:Nat) s i
 unfold kvS
 show _={ k with fr:=(storeS (storeN k.K sp (a:Nat) s i) sp ((a:Nat) + (i:Nat)) (s.getD i 0)).frames }
 unfold storeS
 have he2:entsOf (storeN k.K sp (a:Nat) s i) sp=entsOf k.K sp:=by unfold entsOf scAt;rw [h2]
 rw [he2,he,List.getD_eq_getElem?_getD,hy]
 rfl
set_option maxRecDepth 100000 in
set_option maxHeartbeats 8000000 in
theorem eachS_fn {F:Nat→Prop} {w0 w:World} {Γ:List Asr} {g0:Nat} {k:KV} {sp:Nat} {vh:Value} {held:List Nat} {gc a:Nat} {s:List UInt8} (hS0:St F w0 w ((.blk gc [.string ⟨s.toArray⟩]::wkS g0 k sp vh held)++Γ)) (hR0:KRo (fps (.blk gc [.string ⟨s.toArray⟩]::wkS g0 k sp vh held)) w k) (hr:Right k.K) {x:Sp} (hx:k.sp[sp]?=some x) (ha:a≤4096) (hn:s.length≤8) (hp:∀ i:Nat,i < s.length→Pres k.K sp true (((a:Nat) + (i:Nat):Int) / 16)):Fn Try.prog 40 [.pointer (some ⟨g0,0,none⟩),.int .i64 (a:Nat),.int .i64 (s.length:Nat),.func (.func 41) #[] #[.pointer (some ⟨gc,0,none⟩)]] w (fun v w'=>v=.tuple #[]∧St (fps (.blk gc [.string ⟨s.toArray⟩]::wkS g0 k sp vh held)) w w' (.blk gc [.string ⟨s.toArray⟩]::wkS g0 (kvS k sp a s s.length) sp vh held)):=by
 have hS:=St.startM hS0
 have hR:=hR0
 generalize fps _=G at hS hR ⊢
 clear hR0 hS0
 obtain ⟨bf,of_,cf,hvfr⟩:=(WkV.of (Γ:=[_]) (hS.perm (List.perm_append_comm (l₁:=[_]))) hR).ker.fr.form1 (List.getElem?_eq_getElem (show 0 < k.fr.length by have:=hr.cnt.1;have h9:k.K.frames.length=k.fr.length:=rfl;omega))
 obtain ⟨sh,fr,sl,sps,hand,vsh,vfr,vsl,vsp⟩:=k
 dsimp only at hvfr hx
 subst hvfr
 have hxm:=List.mem_of_getElem? hx
 obtain ⟨hsc,hel⟩:=right_bd hr x.s (List.mem_of_getElem? (kv_sp hx))
 have hV:∀ i w1 A,St G w w1 (A::frA (kvS (⟨sh,fr,sl,sps,hand,vsh,.slice (some ⟨bf,of_,none⟩) fr.length cf,vsl,vsp⟩:KV) sp a s i)::wkR g0 (⟨sh,fr,sl,sps,hand,vsh,.slice (some ⟨bf,of_,none⟩) fr.length cf,vsl,vsp⟩:KV) sp vh held)→WkV w1 g0 (kvS (⟨sh,fr,sl,sps,hand,vsh,.slice (some ⟨bf,of_,none⟩) fr.length cf,vsl,vsp⟩:KV) sp a s i) sp vh held:=fun i w1 A h=>WkV.of (Γ:=[A]) ((h.perm ((wk_perm (k:=kvS (⟨sh,fr,sl,sps,hand,vsh,.slice (some ⟨bf,of_,none⟩) fr.length cf,vsl,vsp⟩:KV) sp a s i)).symm.cons _)).perm (List.perm_append_comm (l₁:=[A]))) ⟨hR.sh,hR.ar⟩
 have hent:=fun i w1 A (h:St G w w1 (A::frA (kvS (⟨sh,fr,sl,sps,hand,vsh,.slice (some ⟨bf,of_,none⟩) fr.length cf,vsl,vsp⟩:KV) sp a s i)::wkR g0 (⟨sh,fr,sl,sps,hand,vsh,.slice (some ⟨bf,of_,none⟩) fr.length cf,vsl,vsp⟩:KV) sp vh held)) (page:Int) (hpb:-1000000≤page∧page≤1000000)=>wentry_fn (hV i w1 A h) hx page hsc.rises (pgBd_of hsc hpb)
 replace hS:=hS.perm (wk_perm.cons _)
 refine yEn Try.func40 Try.ntmps40 ?_
 repeat' ((refine yO ?_))
 refine c_loopK (F:=G) (w0:=w) (X:=Nat) (fun i=>[(12,.int .i64 (i:Nat))]) [0,1,3,11] rfl (fun i=>[.blk gc [.string ⟨s.toArray⟩],frA (kvS (⟨sh,fr,sl,sps,hand,vsh,.slice (some ⟨bf,of_,none⟩) fr.length cf,vsl,vsp⟩:KV) sp a s i)]) (fun i=>i≤s.length) (fun i=>s.length - i) 0 (by exact zS) (Nat.zero_le _) hS ?_
 clear hS
 intro i w1 hi hS
 dsimp only [List.cons_append,List.nil_append] at hS ⊢
 by_cases hlt:i < s.length
 ·have hd:decide ((i:Int) < (s.length:Int))=true:=decide_eq_true (by omega)
  obtain ⟨f,hf0,-⟩:=hp i hlt
  have hf:=hf0
  have hok:=storeN_ok hr (s:=s) (addr:=(a:Nat)) (by omega) hp i hi
  obtain ⟨pt,is,hEV,hcase⟩:=entV_of (page:=((a:Nat) + (i:Nat):Int) / 16) hsc.rises ((hV _ _ _ hS).ker.spv x hxm).en
  have hee:entsOf (⟨sh,fr,sl,sps,hand,vsh,.slice (some ⟨bf,of_,none⟩) fr.length cf,vsl,vsp⟩:KV).K sp=x.s.entries:=by unfold entsOf;rw [scAt_eq (kv_sp hx)]
  rw [hee] at hf
  rcases hcase with ⟨-,-,he⟩|⟨rfl,e,b,off,c',j,he,hve,hei,rfl⟩
  ·rw [he] at hf;cases hf
  rw [he] at hf
  cases hf
  have hen:=hent _ _ _ hS (((a:Nat) + (i:Nat):Int) / 16) (by omega)
  rw [hEV] at hen
  repeat' (first|refine yO ?_|((with_reducible apply l_quo);exact rfl;exact rfl;omega;omega;omega;exact rfl)|(refine yC ?_;refine ⟨_,hen,?_⟩;clear hS;intro w' hS))
  have he3:entsOf (storeN (⟨sh,fr,sl,sps,hand,vsh,.slice (some ⟨bf,of_,none⟩) fr.length cf,vsl,vsp⟩:KV).K sp (a:Nat) s i) sp=entsOf (⟨sh,fr,sl,sps,hand,vsh,.slice (some ⟨bf,of_,none⟩) fr.length cf,vsl,vsp⟩:KV).K sp:=by unfold entsOf scAt;rw [hok.spaces]
  obtain ⟨hfl,-,hdl⟩:=named_fm hok.right (by rw [he3];exact hf0)
  replace hdl:(fmAt (kvS (⟨sh,fr,sl,sps,hand,vsh,.slice (some ⟨bf,of_,none⟩) fr.length cf,vsl,vsp⟩:KV) sp a s i).fr f).data.length=16:=hdl
  have hfl0:=hfl
  rw [hok.nfr] at hfl0
  replace hfl0:f < fr.length:=hfl0
  replace hfl:f < (kvS (⟨sh,fr,sl,sps,hand,vsh,.slice (some ⟨bf,of_,none⟩) fr.length cf,vsl,vsp⟩:KV) sp a s i).fr.length:=hfl
  have hEn:∀ wd A,St G w wd (A::frA (kvS (⟨sh,fr,sl,sps,hand,vsh,.slice (some ⟨bf,of_,none⟩) fr.length cf,vsl,vsp⟩:KV) sp a s i)::wkR g0 (⟨sh,fr,sl,sps,hand,vsh,.slice (some ⟨bf,of_,none⟩) fr.length cf,vsl,vsp⟩:KV) sp vh held)→Sl nF wd 3 (.slice (some ⟨b,off,none⟩) x.s.entries.length c') (x.s.entries.map enC):=fun wd A h=>by
   rw [← hve];exact ((hV _ _ _ h).ker.spv x hxm).en
  have hFr:∀ wd A,St G w wd (A::frA (kvS (⟨sh,fr,sl,sps,hand,vsh,.slice (some ⟨bf,of_,none⟩) fr.length cf,vsl,vsp⟩:KV) sp a s i)::wkR g0 (⟨sh,fr,sl,sps,hand,vsh,.slice (some ⟨bf,of_,none⟩) fr.length cf,vsl,vsp⟩:KV) sp vh held)→wd.cell? ⟨g0,1,none⟩=some (.slice (some ⟨bf,of_,none⟩) fr.length cf):=fun wd A h=>by
   exact (St.start wd).bs (hV _ _ _ h).c1
  have hrowE:=map_get (f:=enC) hei
  unfold enC at hrowE
  obtain ⟨y,hy⟩:=lt_get (l:=s) (i:=i) (by omega)
  have hcall:=fun w1 Γ1 (h:St G w w1 ([.blk gc [.string ⟨s.toArray⟩],frA (kvS (⟨sh,fr,sl,sps,hand,vsh,.slice (some ⟨bf,of_,none⟩) fr.length cf,vsl,vsp⟩:KV) sp a s i)]++Γ1))=>store1_fn (off:=(a + i) % 16) h hfl (by omega) (by omega) hy (by omega)
  rw [kvS_next hf0 hy] at hcall
  unfold elemP at hcall
  have hvv:(kvS (⟨sh,fr,sl,sps,hand,vsh,.slice (some ⟨bf,of_,none⟩) fr.length cf,vsl,vsp⟩:KV) sp a s i).vfr=.slice (some ⟨bf,of_,none⟩) fr.length cf:=rfl
  rw [hvv] at hcall
  dsimp only at hcall
  (focus (refine yW (nn 16) ?_;(repeat' (first|refine yP ?_|((with_reducible apply d_load);exact rfl;(intro wd hd;replace hd:St _ _ wd _:=hd;(((with_reducible apply Loads.sc tabOk);exact rfl;exact (hEn _ _ hd).cel hrowE rfl)));exact rfl)|((with_reducible apply d_rem);exact rfl;exact rfl;omega;omega;exact rfl)));all_goals (refine yZ ?_;clear hS;intro w' hS)))
  refine l_call (first:=[]) (caps:=[.pointer (some ⟨gc,0,none⟩)]) rfl rfl (hcall _ _ hS) rfl ?_
  rintro _ w3 ⟨rfl,h3⟩
  replace hS:=St.transM (Δ:=[_,_]) hS h3
  repeat' ((refine yO ?_))
  exact q_loopK (i + 1) (by exact zS) (by omega) hS (by omega)
 ·have hd:decide ((i:Int) < (s.length:Int))=false:=decide_eq_false (by omega)
  obtain rfl:i=s.length:=by omega
  repeat' ((refine yO ?_))
  refine yV0 ?_
  exact ⟨rfl,hS.perm ((wk_perm (k:=kvS (⟨sh,fr,sl,sps,hand,vsh,.slice (some ⟨bf,of_,none⟩) fr.length cf,vsl,vsp⟩:KV) sp a s s.length)).symm.cons _)⟩
end Go.Proofs.Ytejnpppejalhfac
/- kernel.Store. -/
namespace Go.Proofs.Ytejnpppejalhfac
open Go.RowKit Go.Sort
theorem perm5 {α:Type} {a b c d e:α} {W R:List α}:(a::b::c::d::e::(W++R)).Perm ((d::W)++(R++[a,b,c,e])):=by
 refine (List.perm_middle (l₁:=[a,b,c])).trans (List.Perm.cons _ ?_)
 refine (List.perm_append_comm (l₁:=[a,b,c,e])).trans ?_
 exact List.Perm.of_eq (List.append_assoc W R _)
def storeK (K:Ker) (space addr:Int) (s:List UInt8):Ker:=if okR K space addr s.length 1 then storeN (reachK K space.toNat addr s.length true) space.toNat addr s s.length else ker0
set_option maxRecDepth 100000 in
set_option maxHeartbeats 8000000 in
theorem Store_fn {w:World} {k:KV} (hK:KerV w k) {space addr:Int} {s:List UInt8} (hb0:-9223372036854775808≤addr) (hb1:addr≤9223372036854775807):Fn Try.prog 17 [.agg (kvC k).toArray,.int .i64 space,.int .i64 addr,.string ⟨s.toArray⟩] w (fun v w'=>∃ k',v=.tuple #[.agg (kvC k').toArray,faultV (reachF k.K space addr s.length 1),.int .i64 (reachE k.K space s.length 1)]∧k'.K=storeK k.K space addr s∧Came w w' k'):=by
 have hre:=fun w1 (h:KerV w1 k)=>reach_fn h (space:=space) (size:=(s.length:Nat)) (way:=1) hb0 hb1
 have hK0:=hK
 obtain ⟨sh,fr,sl,sps,hand,vsh,vfr,vsl,vsp⟩:=k
 obtain ⟨k1,k2,k3,k4,k5⟩:=hK
 dsimp only at k1 k2 k3 k4 k5
 obtain ⟨p1,c1,rfl⟩:=k1.sl.len
 obtain ⟨p2,c2,rfl⟩:=k2.len
 obtain ⟨p3,c3,rfl⟩:=k3.len
 obtain ⟨p4,c4,rfl⟩:=k4.len
 generalize hKK:KV.K ⟨sh,fr,sl,sps,hand,.slice p1 sh.length c1,.slice p2 fr.length c2,.slice p3 sl.length c3,.slice p4 sps.length c4⟩=K at hre ⊢
 have hpre:∀ w1 Γ1,St nF w w1 Γ1→KerV w1 ⟨sh,fr,sl,sps,hand,.slice p1 sh.length c1,.slice p2 fr.length c2,.slice p3 sl.length c3,.slice p4 sps.length c4⟩:=fun w1 Γ1 h=>hK0.now h
 unfold faultV at hre ⊢
 unfold kvC at hre
 dsimp only at hre
 unfold kvC
 dsimp only
 refine yEn Try.func17 Try.ntmps17 ?_
 have hS:=St.start w
 repeat' (first|refine yO ?_|(refine yM ?_;clear hS;intro g w' hS))
 refine l_call rfl rfl (hre _ (hpre _ _ hS)) rfl ?_
 rintro v w2 (⟨he,rfl,hS'⟩|⟨he,hf,rfl,hS'⟩|⟨gw,sp,k',vh,held,he,hf,hsp,rfl,hk',hS'⟩)
 ·replace hS:=hS.transA hS'
  simp only [appA] at hS
  repeat' (first|refine yO ?_|(refine yM ?_;clear hS;intro g w' hS)|(refine yN ?_;clear hS;intro w' hS)|((with_reducible apply l_eqPtr (by kernel_rfl));(iterate 3 exact rfl)))
  rename Nat=>g14
  refine c_held (fun w'=>St nF w w' [.blk g14 [.int .i64 0,.int .i64 0]]) 6 rfl hS (by kernel_rfl) ?_
  intro w1 hS'
  clear hS;have hS:=hS';clear hS'
  have hH:St nF w w1 [.blk g14 [.int .i64 0,.int .i64 0]]:=hS.sub (.cons_cons _ (List.nil_sublist _))
  (refine xD (nn 0) ?_;refine ⟨hH,?_⟩)
  (refine xM (nn 1) ?_;refine ⟨hH,?_⟩)
  (refine xA (nn 2) ?_;refine ⟨hH,?_⟩)
  refine a_one (i:=3) (by kernel_rfl) ?_
  refine o_gets0 (Φ:=fun _ w'=>St _ _ w' _) rfl (g_store hS tabOk (i:=2) rfl rfl rfl rfl rfl (Nat.le_of_ble_eq_true rfl) (List.all_eq_true.1 rfl)) ?_
  intro _ w' hS'
  simp only [List.set] at hS'
  clear hS;have hS:=hS';clear hS'
  refine ⟨(hS.sub (.cons_cons _ (List.nil_sublist _))),?_⟩
  refine a_one (i:=4) (by kernel_rfl) ?_
  refine o_gets0 (Φ:=fun _ w'=>St _ _ w' _) rfl (g_store hS tabOk (i:=1) rfl rfl rfl rfl rfl (Nat.le_of_ble_eq_true rfl) (List.all_eq_true.1 rfl)) ?_
  intro _ w' hS'
  simp only [List.set] at hS'
  clear hS;have hS:=hS';clear hS'
  refine ⟨(hS.sub (.cons_cons _ (List.nil_sublist _))),?_⟩
  have hH:St nF w w' [.blk g14 [.int .i64 0,.int .i64 0]]:=hS.sub (.cons_cons _ (List.nil_sublist _))
  (refine xA (nn 5) ?_;refine ⟨hH,?_⟩)
  refine a_done (by kernel_rfl) ?_
  repeat' ((refine yO ?_))
  refine yR3 ?_
  refine ⟨kv0,?_,?_,Or.inl ⟨rfl,hS.sub (List.nil_sublist _)⟩⟩
  ·unfold reachF;rw [if_neg he];rfl
  ·unfold storeK;rw [if_neg (fun h=>he h.1)];rfl
 ·replace hS:=hS.transA hS'
  simp only [appA] at hS
  repeat' (first|refine yO ?_|(refine yM ?_;clear hS;intro g w' hS)|(refine yN ?_;clear hS;intro w' hS)|((with_reducible apply l_eqPtr (by kernel_rfl));(iterate 3 exact rfl)))
  rename Nat=>g14
  refine c_held (fun w'=>St nF w w' [.blk g14 [.int .i64 (faultK (areasOf K space.toNat) addr s.length 1).1,.int .i64 (faultK (areasOf K space.toNat) addr s.length 1).2]]) 6 rfl hS (by kernel_rfl) ?_
  intro w1 hS'
  clear hS;have hS:=hS';clear hS'
  have hH:St nF w w1 [.blk g14 [.int .i64 (faultK (areasOf K space.toNat) addr s.length 1).1,.int .i64 (faultK (areasOf K space.toNat) addr s.length 1).2]]:=hS.sub (.cons_cons _ (List.nil_sublist _))
  (refine xD (nn 0) ?_;refine ⟨hH,?_⟩)
  (refine xM (nn 1) ?_;refine ⟨hH,?_⟩)
  (refine xA (nn 2) ?_;refine ⟨hH,?_⟩)
  refine a_one (i:=3) (by kernel_rfl) ?_
  refine o_gets0 (Φ:=fun _ w'=>St _ _ w' _) rfl (g_store hS tabOk (i:=2) rfl rfl rfl rfl rfl (Nat.le_of_ble_eq_true rfl) (List.all_eq_true.1 rfl)) ?_
  intro _ w' hS'
  simp only [List.set] at hS'
  clear hS;have hS:=hS';clear hS'
  refine ⟨(hS.sub (.cons_cons _ (List.nil_sublist _))),?_⟩
  refine a_one (i:=4) (by kernel_rfl) ?_
  refine o_gets0 (Φ:=fun _ w'=>St _ _ w' _) rfl (g_store hS tabOk (i:=1) rfl rfl rfl rfl rfl (Nat.le_of_ble_eq_true rfl) (List.all_eq_true.1 rfl)) ?_
  intro _ w' hS'
  simp only [List.set] at hS'
  clear hS;have hS:=hS';clear hS'
  refine ⟨(hS.sub (.cons_cons _ (List.nil_sublist _))),?_⟩
  have hH:St nF w w' [.blk g14 [.int .i64 (faultK (areasOf K space.toNat) addr s.length 1).1,.int .i64 (faultK (areasOf K space.toNat) addr s.length 1).2]]:=hS.sub (.cons_cons _ (List.nil_sublist _))
  (refine xA (nn 5) ?_;refine ⟨hH,?_⟩)
  refine a_done (by kernel_rfl) ?_
  repeat' ((refine yO ?_))
  refine yR3 ?_
  refine ⟨kv0,?_,?_,Or.inl ⟨rfl,hS.sub (List.nil_sublist _)⟩⟩
  ·unfold reachF;rw [if_pos he,he];rfl
  ·unfold storeK;rw [if_neg (fun h=>hf h.2)];rfl
 have hkv:KerV w2 k':=(WkV.own (Γ:=[]) (by rw [List.append_nil];exact hS')).ker
 obtain ⟨hr0,hs1,hs8,-,ha1,ha2,hat⟩:=reach_at he hsp (by rw [hsp] at hf;exact hf)
 obtain ⟨hrt,-,hpres⟩:=reachK_ok hr0 (sp:=sp) (by omega) hs1 hs8 hat (decide ((1:Int)=1))
 rw [← hk'] at hrt hpres
 obtain ⟨a,rfl⟩:∃ a:Nat,addr=(a:Nat):=⟨addr.toNat,by omega⟩
 replace hS:=hS.trans hS'
 clear hS' hre
 replace hS:=hS.perm List.perm_append_comm
 dsimp only [List.cons_append,List.nil_append] at hS
 repeat' (first|refine yO ?_|(refine yM ?_;clear hS;intro g w' hS)|(refine yN ?_;clear hS;intro w' hS)|((with_reducible apply l_eqPtr (by kernel_rfl));(iterate 3 exact rfl)))
 obtain ⟨x,hx,-⟩:=kv_at (k:=k') (sp:=sp) (page:=((a:Nat) + (0:Int)) / 16) (by
  have h:=hat 0 (by omega) (by omega)
  have hsm:=(reachK_ok hr0 (sp:=sp) (by omega) hs1 hs8 hat (decide ((1:Int)=1))).2.1
  rw [hk']
  exact h.same hsm.ar hsm.live)
 replace hS:=hS.perm perm5
 have hea:=eachS_fn (a:=a) (s:=s) hS (KRo.ownG hS) hrt hx (by omega) (by omega) (fun i hi=>hpres (i:Nat) (by omega) (by omega))
 refine l_call (first:=[]) (caps:=[]) rfl rfl hea rfl ?_
 clear hea
 rintro _ w3 ⟨rfl,h3⟩
 replace hS:=(St.transM (Δ:=.blk _ _::wkS gw (kvS k' sp a s s.length) sp vh held) hS h3).perm perm5.symm
 clear h3
 obtain ⟨sh',fr',sl',sps',hand',vsh',vfr',vsl',vsp'⟩:=k'
 obtain ⟨m1,m2,m3,m4,-⟩:=hkv
 dsimp only at m1 m2 m3 m4
 obtain ⟨q1,d1,rfl⟩:=m1.sl.len
 obtain ⟨q2,d2,rfl⟩:=m2.len
 obtain ⟨q3,d3,rfl⟩:=m3.len
 obtain ⟨q4,d4,rfl⟩:=m4.len
 repeat' ((refine yO ?_))
 unfold wkS at hS
 dsimp only [List.cons_append] at hS
 refine c_held (fun w'=>St nF w w' [.blk g [.int .i64 0,.int .i64 0],.blk gw [.slice q1 sh'.length d1,.slice q2 fr'.length d2,.slice q3 sl'.length d3,.slice q4 sps'.length d4,.int .i64 hand',.int .i64 (sp:Nat),vh]]) 9 rfl hS (by kernel_rfl) ?_
 intro w1 hS'
 clear hS;have hS:=hS';clear hS'
 have hH:St nF w w1 [.blk g [.int .i64 0,.int .i64 0],.blk gw [.slice q1 sh'.length d1,.slice q2 fr'.length d2,.slice q3 sl'.length d3,.slice q4 sps'.length d4,.int .i64 hand',.int .i64 (sp:Nat),vh]]:=hS.sub (.cons_cons _ (.cons _ (.cons _ (.cons _ (.cons _ (.cons_cons _ (List.nil_sublist _)))))))
 (refine xA (nn 0) ?_;refine ⟨hH,?_⟩)
 (refine xA (nn 1) ?_;refine ⟨hH,?_⟩)
 (refine xA (nn 2) ?_;refine ⟨hH,?_⟩)
 ((with_reducible apply a_takeL (nn 3));exact rfl;kernel_rfl;kernel_rfl;kernel_rfl;exact (fun _ _ _ h=>h);exact hH;exact rfl;(intro wd hd;replace hd:St _ _ wd _:=hd;((with_reducible apply Loads.st tabOk);exact rfl;exact (hd.blkRk 1 0 5 rfl);exact rfl));exact rfl)
 (refine xM (nn 4) ?_;refine ⟨hH,?_⟩)
 (refine xA (nn 5) ?_;refine ⟨hH,?_⟩)
 refine a_one (i:=6) (by kernel_rfl) ?_
 simp only [List.take_succ_cons,List.take_zero,List.drop_zero]
 refine o_gets0 (Φ:=fun _ w'=>St _ _ w' _) rfl (g_store hS tabOk (i:=2) rfl rfl rfl rfl rfl (Nat.le_of_ble_eq_true rfl) (List.all_eq_true.1 rfl)) ?_
 intro _ w' hS'
 simp only [List.set] at hS'
 clear hS;have hS:=hS';clear hS'
 refine ⟨(hS.sub (.cons_cons _ (.cons _ (.cons _ (.cons _ (.cons _ (.cons_cons _ (List.nil_sublist _)))))))),?_⟩
 refine a_one (i:=7) (by kernel_rfl) ?_
 refine o_gets0 (Φ:=fun _ w'=>St _ _ w' _) rfl (g_store hS tabOk (i:=1) rfl rfl rfl rfl rfl (Nat.le_of_ble_eq_true rfl) (List.all_eq_true.1 rfl)) ?_
 intro _ w' hS'
 simp only [List.set] at hS'
 clear hS;have hS:=hS';clear hS'
 refine ⟨(hS.sub (.cons_cons _ (.cons _ (.cons _ (.cons _ (.cons _ (.cons_cons _ (List.nil_sublist _)))))))),?_⟩
 have hH:St nF w w' [.blk g [.int .i64 0,.int .i64 0],.blk gw [.slice q1 sh'.length d1,.slice q2 fr'.length d2,.slice q3 sl'.length d3,.slice q4 sps'.length d4,.int .i64 hand',.int .i64 (sp:Nat),vh]]:=hS.sub (.cons_cons _ (.cons _ (.cons _ (.cons _ (.cons _ (.cons_cons _ (List.nil_sublist _)))))))
 (refine xA (nn 8) ?_;refine ⟨hH,?_⟩)
 refine a_done (by kernel_rfl) ?_
 repeat' ((refine yO ?_))
 refine yR3 ?_
 have hok:okR K space (a:Nat) s.length 1:=⟨he,hf⟩
 refine ⟨kvS ⟨sh',fr',sl',sps',hand',.slice q1 sh'.length d1,.slice q2 fr'.length d2,.slice q3 sl'.length d3,.slice q4 sps'.length d4⟩ sp a s s.length,?_,?_,?_⟩
 ·rw [reachF_ok hok,he];rfl
 ·rw [kvS_K,hk'];unfold storeK;rw [if_pos hok,hsp];rfl
 ·refine came_of (Γ:=[]) (g:=gw) (sp:=sp) (vh:=vh) (held:=held) ?_
  rw [List.append_nil]
  exact hS.sub (.cons _ (.cons _ (.cons _ (.cons _ (.cons _ (.refl _))))))
end Go.Proofs.Ytejnpppejalhfac
/- kernel.Load. -/
namespace Go.Proofs.Ytejnpppejalhfac
open Go.RowKit Go.Sort
theorem perm6 {α:Type} {a b c d e f:α} {W R:List α}:(a::b::c::d::e::f::(W++R)).Perm ((b::a::W)++(R++[c,d,e,f])):=by
 refine (List.Perm.swap _ _ _).trans (List.Perm.cons _ (List.Perm.cons _ ?_))
 refine (List.perm_append_comm (l₁:=[c,d,e,f])).trans ?_
 exact List.Perm.of_eq (List.append_assoc W R _)
section
variable {P:Program} {n:Nat} {ds:List Deferred} {E:Fr} {w:World} {Q:Exit→Act→World→Prop} {ops:Array Oper} {S:World→Prop} {fuel:Nat} {li:Array Bool} {d:Nat} {op:Op} {ty:TypeId} {pos:String} {after:Array Edge} {F:Nat→Prop} {w0:World} {Γ:List Asr} {T:Tab}
theorem a_takeC (k i:Nat) {t u e sz2:Nat} {z2:Value} {x:Operand} {v:Value} {l:List UInt8} (hi:ops[i]?=some ⟨some d,.convert t u x,ty,pos,after,none⟩) (hs:Region.noSelect ops=true) (hf:Region.free .any ops li i=true) (hr:(Region.ready .any ops li).contains i=true)
  (hQ:∀ c (a:Act) w,Q (.panic c) (a.put (some d) (.string ⟨l.toArray⟩)) w→Q (.panic c) a w) (hS:S w) (hT:TabOk P T) (ht:T.get t=some (.sl e 1 1 false [.int .u8 0])) (he:T.get e=some (.sc (.int .u8) 1 (.int .u8 0))) (hu2:T.get u=some (.sc .string sz2 z2)) (hx:E.ev x=some v)
  (hl:∀ w,S w→St F w0 w Γ) (hg:Γ[k]?=some (.row e 1 v (bR l))) (hne:0 < l.length) (hd:Nat.blt d n=true) (kk:WA P ops Q S fuel (li.setIfInBounds i true) n ds ((d,.string ⟨l.toArray⟩)::E) w):WA P ops Q S (fuel + 1) li n ds E w:=fun a ha=>
 wpAnyH_take hi hs hf hr hQ (Or.inl ⟨rfl,fun w hw=>by
  have hS:=hl w hw
  obtain ⟨ji,zv,hu,hinfo,_⟩:=hT.sl ht
  obtain ⟨_,hus,_⟩:=hT.sc hu2
  obtain ⟨_,hue,_⟩:=hT.sc he
  rcases hS.rowForm k hg with ⟨rfl,h0⟩|⟨g,cap,rfl,_⟩
  ·have:=congrArg List.length h0
   rw [bR_len,List.length_nil] at this
   omega
  ·have hrun:=run_convert_bytes_back (P:=P) w t u e ⟨g,0,none⟩ cap l hu hue hus (fun j hj=>by
    rw [add_zero_at]
    have:=hS.rowC k hg (k:=j) (j:=0) (r:=[.int .u8 l[j].toNat]) (u:=.int .u8 l[j].toNat) (by unfold bR;simp [hj]) rfl
    simpa using this)
   rw [bR_len] at hx
   simp only [execOp,ha.ev hx,Sem.run_bind,hrun,Result.andThen_ok,Sem.run_pure]⟩) hS (kk _ (ha.put d _ hd))
end
def okL (K:Ker) (space addr size way:Int):Prop:=okR K space addr size way∧way≠1
instance (K:Ker) (space addr size way:Int):Decidable (okL K space addr size way):=by unfold okL;infer_instance
def loadE (K:Ker) (space size way:Int):Int:=if reachE K space size way=0∧way=1 then 10 else reachE K space size way
def loadF (K:Ker) (space addr size way:Int):Int×Int:=if way=1 then (0,0) else reachF K space addr size way
def loadR (K:Ker) (space addr size way:Int):Ker:=if okL K space addr size way then reachK K space.toNat addr size false else ker0
def loadD (K:Ker) (space addr size way:Int):List UInt8:=if okL K space addr size way then loadN (reachK K space.toNat addr size false) space.toNat addr size.toNat else []
theorem load_v1 {K:Ker} {space addr size way:Int} (he:reachE K space size way≠0):loadD K space addr size way=[]∧loadF K space addr size way=(0,0)∧loadE K space size way=reachE K space size way∧loadR K space addr size way=ker0:=by
 unfold loadD loadF loadE loadR
 have hn:¬okL K space addr size way:=fun h=>he h.1.1
 rw [if_neg hn,if_neg hn,if_neg (fun h:reachE K space size way=0∧way=1=>he h.1)]
 unfold reachF
 rw [if_neg he,ite_self]
 exact ⟨rfl,rfl,rfl,rfl⟩
theorem load_v2 {K:Ker} {space addr size way:Int} (he:reachE K space size way=0) (hw:way=1):loadD K space addr size way=[]∧loadF K space addr size way=(0,0)∧loadE K space size way=10∧loadR K space addr size way=ker0:=by
 unfold loadD loadF loadE loadR
 have hn:¬okL K space addr size way:=fun h=>h.2 hw
 rw [if_neg hn,if_neg hn,if_pos hw,if_pos (⟨he,hw⟩:reachE K space size way=0∧way=1)]
 exact ⟨rfl,rfl,rfl,rfl⟩
theorem load_v3 {K:Ker} {space addr size way:Int} (he:reachE K space size way=0) (hf:(faultK (areasOf K space.toNat) addr size way).1≠0) (hw:way≠1):loadD K space addr size way=[]∧loadF K space addr size way=faultK (areasOf K space.toNat) addr size way∧loadE K space size way=0∧loadR K space addr size way=ker0:=by
 unfold loadD loadF loadE loadR
 have hn:¬okL K space addr size way:=fun h=>hf h.1.2
 rw [if_neg hn,if_neg hn,if_neg hw,if_neg (fun h:reachE K space size way=0∧way=1=>hw h.2)]
 unfold reachF
 rw [if_pos he,he]
 exact ⟨rfl,rfl,rfl,rfl⟩
theorem load_v4 {K:Ker} {space addr size way:Int} (h:okL K space addr size way):loadD K space addr size way=loadN (reachK K space.toNat addr size false) space.toNat addr size.toNat∧loadF K space addr size way=(0,0)∧loadE K space size way=0∧loadR K space addr size way=reachK K space.toNat addr size false:=by
 unfold loadD loadF loadE loadR
 rw [if_pos h,if_pos h,if_neg h.2,if_neg (fun h2:reachE K space size way=0∧way=1=>h.2 h2.2),reachF_ok h.1,h.1.1]
 exact ⟨rfl,rfl,rfl,rfl⟩
set_option maxRecDepth 100000 in
set_option maxHeartbeats 8000000 in
theorem Load_fn {w:World} {k:KV} (hK:KerV w k) {space addr size way:Int} (hb0:-9223372036854775808≤addr) (hb1:addr≤9223372036854775807):Fn Try.prog 18 [.agg (kvC k).toArray,.int .i64 space,.int .i64 addr,.int .i64 size,.int .i64 way] w (fun v w'=>∃ k',v=.tuple #[.agg (kvC k').toArray,.string ⟨(loadD k.K space addr size way).toArray⟩,faultV (loadF k.K space addr size way),.int .i64 (loadE k.K space size way)]∧k'.K=loadR k.K space addr size way∧Came w w' k'):=by
 have hre:=fun w1 (h:KerV w1 k)=>reach_fn h (space:=space) (size:=size) (way:=way) hb0 hb1
 have hK0:=hK
 obtain ⟨sh,fr,sl,sps,hand,vsh,vfr,vsl,vsp⟩:=k
 obtain ⟨k1,k2,k3,k4,k5⟩:=hK
 dsimp only at k1 k2 k3 k4 k5
 obtain ⟨p1,c1,rfl⟩:=k1.sl.len
 obtain ⟨p2,c2,rfl⟩:=k2.len
 obtain ⟨p3,c3,rfl⟩:=k3.len
 obtain ⟨p4,c4,rfl⟩:=k4.len
 generalize hKK:KV.K ⟨sh,fr,sl,sps,hand,.slice p1 sh.length c1,.slice p2 fr.length c2,.slice p3 sl.length c3,.slice p4 sps.length c4⟩=K at hre ⊢
 have hpre:∀ w1 Γ1,St nF w w1 Γ1→KerV w1 ⟨sh,fr,sl,sps,hand,.slice p1 sh.length c1,.slice p2 fr.length c2,.slice p3 sl.length c3,.slice p4 sps.length c4⟩:=fun w1 Γ1 h=>hK0.now h
 unfold faultV at hre ⊢
 unfold kvC at hre
 dsimp only at hre
 unfold kvC
 dsimp only
 have hE0:∀ e:Int,decide (e=0)=true∨decide (e=0)=false:=fun e=>by cases decide (e=0) <;> simp
 refine yEn Try.func18 Try.ntmps18 ?_
 have hS:=St.start w
 repeat' (first|refine yO ?_|(refine yM ?_;clear hS;intro g w' hS))
 refine l_call rfl rfl (hre _ (hpre _ _ hS)) rfl ?_
 rintro v w2 (⟨he,rfl,hS'⟩|⟨he,hf,rfl,hS'⟩|⟨gw,sp,k',vh,held,he,hf,hsp,rfl,hk',hS'⟩)
 ·replace hS:=hS.transA hS'
  simp only [appA] at hS
  have hd:decide (reachE K space size way=0)=false:=decide_eq_false he
  repeat' (first|refine yO ?_|(refine yM ?_;clear hS;intro g w' hS)|(refine yN ?_;clear hS;intro w' hS)|((with_reducible apply l_eqPtr (by kernel_rfl));(iterate 3 exact rfl)))
  rename Nat=>g14
  refine c_held (fun w'=>St nF w w' [.blk g14 [.int .i64 0,.int .i64 0]]) 7 rfl hS (by kernel_rfl) ?_
  intro w1 hS'
  clear hS;have hS:=hS';clear hS'
  have hH:St nF w w1 [.blk g14 [.int .i64 0,.int .i64 0]]:=hS.sub (.cons_cons _ (List.nil_sublist _))
  (refine xD (nn 0) ?_;refine ⟨hH,?_⟩)
  (refine xM (nn 1) ?_;refine ⟨hH,?_⟩)
  (refine xA (nn 2) ?_;refine ⟨hH,?_⟩)
  refine a_one (i:=3) (by kernel_rfl) ?_
  refine o_gets0 (Φ:=fun _ w'=>St _ _ w' _) rfl (g_store hS tabOk (i:=2) rfl rfl rfl rfl rfl (Nat.le_of_ble_eq_true rfl) (List.all_eq_true.1 rfl)) ?_
  intro _ w' hS'
  simp only [List.set] at hS'
  clear hS;have hS:=hS';clear hS'
  refine ⟨(hS.sub (.cons_cons _ (List.nil_sublist _))),?_⟩
  have hH:St nF w w' [.blk g14 [.int .i64 0,.int .i64 0]]:=hS.sub (.cons_cons _ (List.nil_sublist _))
  (refine xA (nn 4) ?_;refine ⟨hH,?_⟩)
  refine a_one (i:=5) (by kernel_rfl) ?_
  refine o_gets0 (Φ:=fun _ w'=>St _ _ w' _) rfl (g_store hS tabOk (i:=1) rfl rfl rfl rfl rfl (Nat.le_of_ble_eq_true rfl) (List.all_eq_true.1 rfl)) ?_
  intro _ w' hS'
  simp only [List.set] at hS'
  clear hS;have hS:=hS';clear hS'
  refine ⟨(hS.sub (.cons_cons _ (List.nil_sublist _))),?_⟩
  have hH:St nF w w' [.blk g14 [.int .i64 0,.int .i64 0]]:=hS.sub (.cons_cons _ (List.nil_sublist _))
  (refine xA (nn 6) ?_;refine ⟨hH,?_⟩)
  refine a_done (by kernel_rfl) ?_
  repeat' ((refine yO ?_))
  (apply q_ret4)
  ((repeat (first|exact ResL.nil|(apply ResL.tmp;exact rfl)|(apply ResL.cell;exact rfl;exact zLd))))
  obtain ⟨v1,v2,v3,v4⟩:=load_v1 he (addr:=addr)
  refine ⟨kv0,?_,?_,Or.inl ⟨rfl,hS.sub (List.nil_sublist _)⟩⟩
  ·rw [v1,v2,v3];rfl
  ·rw [v4];rfl
 ·replace hS:=hS.transA hS'
  simp only [appA] at hS
  by_cases hw:way=1
  ·have hd:decide (way=1)=true:=decide_eq_true hw
   repeat' (first|refine yO ?_|(refine yM ?_;clear hS;intro g w' hS)|(refine yN ?_;clear hS;intro w' hS)|((with_reducible apply l_eqPtr (by kernel_rfl));(iterate 3 exact rfl)))
   rename Nat=>g14
   refine c_held (fun w'=>St nF w w' [.blk g14 [.int .i64 0,.int .i64 0]]) 7 rfl hS (by kernel_rfl) ?_
   intro w1 hS'
   clear hS;have hS:=hS';clear hS'
   have hH:St nF w w1 [.blk g14 [.int .i64 0,.int .i64 0]]:=hS.sub (.cons_cons _ (List.nil_sublist _))
   (refine xD (nn 0) ?_;refine ⟨hH,?_⟩)
   (refine xM (nn 1) ?_;refine ⟨hH,?_⟩)
   (refine xA (nn 2) ?_;refine ⟨hH,?_⟩)
   refine a_one (i:=3) (by kernel_rfl) ?_
   refine o_gets0 (Φ:=fun _ w'=>St _ _ w' _) rfl (g_store hS tabOk (i:=2) rfl rfl rfl rfl rfl (Nat.le_of_ble_eq_true rfl) (List.all_eq_true.1 rfl)) ?_
   intro _ w' hS'
   simp only [List.set] at hS'
   clear hS;have hS:=hS';clear hS'
   refine ⟨(hS.sub (.cons_cons _ (List.nil_sublist _))),?_⟩
   have hH:St nF w w' [.blk g14 [.int .i64 0,.int .i64 0]]:=hS.sub (.cons_cons _ (List.nil_sublist _))
   (refine xA (nn 4) ?_;refine ⟨hH,?_⟩)
   refine a_one (i:=5) (by kernel_rfl) ?_
   refine o_gets0 (Φ:=fun _ w'=>St _ _ w' _) rfl (g_store hS tabOk (i:=1) rfl rfl rfl rfl rfl (Nat.le_of_ble_eq_true rfl) (List.all_eq_true.1 rfl)) ?_
   intro _ w' hS'
   simp only [List.set] at hS'
   clear hS;have hS:=hS';clear hS'
   refine ⟨(hS.sub (.cons_cons _ (List.nil_sublist _))),?_⟩
   have hH:St nF w w' [.blk g14 [.int .i64 0,.int .i64 0]]:=hS.sub (.cons_cons _ (List.nil_sublist _))
   (refine xA (nn 6) ?_;refine ⟨hH,?_⟩)
   refine a_done (by kernel_rfl) ?_
   repeat' ((refine yO ?_))
   (apply q_ret4)
   ((repeat (first|exact ResL.nil|(apply ResL.tmp;exact rfl)|(apply ResL.cell;exact rfl;exact zLd))))
   obtain ⟨v1,v2,v3,v4⟩:=load_v2 he hw (addr:=addr)
   refine ⟨kv0,?_,?_,Or.inl ⟨rfl,hS.sub (List.nil_sublist _)⟩⟩
   ·rw [v1,v2,v3];rfl
   ·rw [v4];rfl
  ·have hd:decide (way=1)=false:=decide_eq_false hw
   repeat' (first|refine yO ?_|(refine yM ?_;clear hS;intro g w' hS)|(refine yN ?_;clear hS;intro w' hS)|((with_reducible apply l_eqPtr (by kernel_rfl));(iterate 3 exact rfl)))
   rename Nat=>g14
   refine c_held (fun w'=>St nF w w' [.blk g14 [.int .i64 (faultK (areasOf K space.toNat) addr size way).1,.int .i64 (faultK (areasOf K space.toNat) addr size way).2]]) 7 rfl hS (by kernel_rfl) ?_
   intro w1 hS'
   clear hS;have hS:=hS';clear hS'
   have hH:St nF w w1 [.blk g14 [.int .i64 (faultK (areasOf K space.toNat) addr size way).1,.int .i64 (faultK (areasOf K space.toNat) addr size way).2]]:=hS.sub (.cons_cons _ (List.nil_sublist _))
   (refine xD (nn 0) ?_;refine ⟨hH,?_⟩)
   (refine xM (nn 1) ?_;refine ⟨hH,?_⟩)
   (refine xA (nn 2) ?_;refine ⟨hH,?_⟩)
   refine a_one (i:=3) (by kernel_rfl) ?_
   refine o_gets0 (Φ:=fun _ w'=>St _ _ w' _) rfl (g_store hS tabOk (i:=2) rfl rfl rfl rfl rfl (Nat.le_of_ble_eq_true rfl) (List.all_eq_true.1 rfl)) ?_
   intro _ w' hS'
   simp only [List.set] at hS'
   clear hS;have hS:=hS';clear hS'
   refine ⟨(hS.sub (.cons_cons _ (List.nil_sublist _))),?_⟩
   have hH:St nF w w' [.blk g14 [.int .i64 (faultK (areasOf K space.toNat) addr size way).1,.int .i64 (faultK (areasOf K space.toNat) addr size way).2]]:=hS.sub (.cons_cons _ (List.nil_sublist _))
   (refine xA (nn 4) ?_;refine ⟨hH,?_⟩)
   refine a_one (i:=5) (by kernel_rfl) ?_
   refine o_gets0 (Φ:=fun _ w'=>St _ _ w' _) rfl (g_store hS tabOk (i:=1) rfl rfl rfl rfl rfl (Nat.le_of_ble_eq_true rfl) (List.all_eq_true.1 rfl)) ?_
   intro _ w' hS'
   simp only [List.set] at hS'
   clear hS;have hS:=hS';clear hS'
   refine ⟨(hS.sub (.cons_cons _ (List.nil_sublist _))),?_⟩
   have hH:St nF w w' [.blk g14 [.int .i64 (faultK (areasOf K space.toNat) addr size way).1,.int .i64 (faultK (areasOf K space.toNat) addr size way).2]]:=hS.sub (.cons_cons _ (List.nil_sublist _))
   (refine xA (nn 6) ?_;refine ⟨hH,?_⟩)
   refine a_done (by kernel_rfl) ?_
   repeat' ((refine yO ?_))
   (apply q_ret4)
   ((repeat (first|exact ResL.nil|(apply ResL.tmp;exact rfl)|(apply ResL.cell;exact rfl;exact zLd))))
   obtain ⟨v1,v2,v3,v4⟩:=load_v3 he hf hw
   refine ⟨kv0,?_,?_,Or.inl ⟨rfl,hS.sub (List.nil_sublist _)⟩⟩
   ·rw [v1,v2,v3];rfl
   ·rw [v4];rfl
 ·have hkv:KerV w2 k':=(WkV.own (Γ:=[]) (by rw [List.append_nil];exact hS')).ker
  obtain ⟨hr0,hs1,hs8,-,ha1,ha2,hat⟩:=reach_at he hsp (by rw [hsp] at hf;exact hf)
  replace hS:=hS.trans hS'
  clear hS' hre
  replace hS:=hS.perm List.perm_append_comm
  dsimp only [List.cons_append,List.nil_append] at hS
  by_cases hw:way=1
  ·have hd:decide (way=1)=true:=decide_eq_true hw
   repeat' (first|refine yO ?_|(refine yM ?_;clear hS;intro g w' hS)|(refine yN ?_;clear hS;intro w' hS)|((with_reducible apply l_eqPtr (by kernel_rfl));(iterate 3 exact rfl)))
   rename Nat=>g14
   refine c_held (fun w'=>St nF w w' [.blk g14 [.int .i64 0,.int .i64 0]]) 7 rfl hS (by kernel_rfl) ?_
   intro w1 hS'
   clear hS;have hS:=hS';clear hS'
   have hH:St nF w w1 [.blk g14 [.int .i64 0,.int .i64 0]]:=hS.sub (.cons_cons _ (List.nil_sublist _))
   (refine xD (nn 0) ?_;refine ⟨hH,?_⟩)
   (refine xM (nn 1) ?_;refine ⟨hH,?_⟩)
   (refine xA (nn 2) ?_;refine ⟨hH,?_⟩)
   refine a_one (i:=3) (by kernel_rfl) ?_
   refine o_gets0 (Φ:=fun _ w'=>St _ _ w' _) rfl (g_store hS tabOk (i:=2) rfl rfl rfl rfl rfl (Nat.le_of_ble_eq_true rfl) (List.all_eq_true.1 rfl)) ?_
   intro _ w' hS'
   simp only [List.set] at hS'
   clear hS;have hS:=hS';clear hS'
   refine ⟨(hS.sub (.cons_cons _ (List.nil_sublist _))),?_⟩
   have hH:St nF w w' [.blk g14 [.int .i64 0,.int .i64 0]]:=hS.sub (.cons_cons _ (List.nil_sublist _))
   (refine xA (nn 4) ?_;refine ⟨hH,?_⟩)
   refine a_one (i:=5) (by kernel_rfl) ?_
   refine o_gets0 (Φ:=fun _ w'=>St _ _ w' _) rfl (g_store hS tabOk (i:=1) rfl rfl rfl rfl rfl (Nat.le_of_ble_eq_true rfl) (List.all_eq_true.1 rfl)) ?_
   intro _ w' hS'
   simp only [List.set] at hS'
   clear hS;have hS:=hS';clear hS'
   refine ⟨(hS.sub (.cons_cons _ (List.nil_sublist _))),?_⟩
   have hH:St nF w w' [.blk g14 [.int .i64 0,.int .i64 0]]:=hS.sub (.cons_cons _ (List.nil_sublist _))
   (refine xA (nn 6) ?_;refine ⟨hH,?_⟩)
   refine a_done (by kernel_rfl) ?_
   repeat' ((refine yO ?_))
   (apply q_ret4)
   ((repeat (first|exact ResL.nil|(apply ResL.tmp;exact rfl)|(apply ResL.cell;exact rfl;exact zLd))))
   obtain ⟨v1,v2,v3,v4⟩:=load_v2 he hw (addr:=addr)
   refine ⟨kv0,?_,?_,Or.inl ⟨rfl,hS.sub (List.nil_sublist _)⟩⟩
   ·rw [v1,v2,v3];rfl
   ·rw [v4];rfl
  have hd:decide (way=1)=false:=decide_eq_false hw
  rw [hd] at hk'
  obtain ⟨hrt,hsm,hpres⟩:=reachK_ok hr0 (sp:=sp) (by omega) hs1 hs8 hat false
  obtain ⟨a,rfl⟩:∃ a:Nat,addr=(a:Nat):=⟨addr.toNat,by omega⟩
  obtain ⟨n,rfl⟩:∃ n:Nat,size=(n:Nat):=⟨size.toNat,by omega⟩
  rw [← hk'] at hrt hpres hsm
  obtain ⟨x,hx,-⟩:=kv_at (k:=k') (sp:=sp) (page:=((a:Nat) + (0:Int)) / 16) ((hat 0 (by omega) (by omega)).same hsm.ar hsm.live)
  repeat' (first|refine yO ?_|(refine yM ?_;clear hS;intro g w' hS)|(refine yN ?_;clear hS;intro w' hS)|((with_reducible apply l_eqPtr (by kernel_rfl));(iterate 3 exact rfl))|((with_reducible apply l_make hS tabOk (m:=n));(iterate 5 exact rfl);omega;omega;exact rfl;exact rfl;intro gr w' hS';clear hS;have hS:=hS';clear hS'))
  rename_i g15 _ _ _ _
  have e0:List.replicate n [Value.int .u8 0]=bR (ldL k'.K sp a n 0):=by
   unfold ldL bR
   rw [List.take_zero,List.nil_append,List.map_replicate]
   rfl
  rw [e0] at hS
  replace hS:=hS.perm perm6
  have hea:=eachL_fn hS (KRo.ownG hS) hrt hx (by omega) (by omega) (fun i hi=>hpres (i:Nat) (by omega) (by omega))
  refine l_call (first:=[]) (caps:=[]) rfl rfl hea rfl ?_
  clear hea
  rintro _ w3 ⟨rfl,h3⟩
  replace hS:=(St.transM (Δ:=.row _ _ _ _::.blk _ _::wkS gw k' sp vh held) hS h3).perm perm6.symm
  clear h3
  have e1:ldL k'.K sp a n n=loadN k'.K sp (a:Nat) n:=by
   unfold ldL
   rw [Nat.sub_self,List.replicate_zero,List.append_nil,List.take_of_length_le (by rw [loadN_len];omega)]
  rw [e1] at hS
  have e2:(loadN k'.K sp (a:Nat) n).length=n:=loadN_len
  generalize hD:loadN k'.K sp (a:Nat) n=D at hS e2
  obtain ⟨sh',fr',sl',sps',hand',vsh',vfr',vsl',vsp'⟩:=k'
  obtain ⟨m1,m2,m3,m4,-⟩:=hkv
  dsimp only at m1 m2 m3 m4
  obtain ⟨q1,d1,rfl⟩:=m1.sl.len
  obtain ⟨q2,d2,rfl⟩:=m2.len
  obtain ⟨q3,d3,rfl⟩:=m3.len
  obtain ⟨q4,d4,rfl⟩:=m4.len
  repeat' ((refine yO ?_))
  unfold wkS at hS
  dsimp only [List.cons_append] at hS
  have hlH:∀ w',St nF w w' [.blk g [.slice (some ⟨gr,0,none⟩) n n],.row 5 1 (.slice (some ⟨gr,0,none⟩) n n) (bR D),.blk g15 [.int .i64 0,.int .i64 0],.blk gw [.slice q1 sh'.length d1,.slice q2 fr'.length d2,.slice q3 sl'.length d3,.slice q4 sps'.length d4,.int .i64 hand',.int .i64 (sp:Nat),vh]]→St nF w w' [.blk g [.slice (some ⟨gr,0,none⟩) n n],.row 5 1 (.slice (some ⟨gr,0,none⟩) n n) (bR D),.blk g15 [.int .i64 0,.int .i64 0],.blk gw [.slice q1 sh'.length d1,.slice q2 fr'.length d2,.slice q3 sl'.length d3,.slice q4 sps'.length d4,.int .i64 hand',.int .i64 (sp:Nat),vh]]:=fun _ h=>h
  refine c_held (fun w'=>St nF w w' [.blk g [.slice (some ⟨gr,0,none⟩) n n],.row 5 1 (.slice (some ⟨gr,0,none⟩) n n) (bR D),.blk g15 [.int .i64 0,.int .i64 0],.blk gw [.slice q1 sh'.length d1,.slice q2 fr'.length d2,.slice q3 sl'.length d3,.slice q4 sps'.length d4,.int .i64 hand',.int .i64 (sp:Nat),vh]]) 12 rfl hS (by kernel_rfl) ?_
  intro w1 hS'
  clear hS;have hS:=hS';clear hS'
  have hH:=hlH _ (hS.sub (.cons_cons _ (.cons_cons _ (.cons_cons _ (.cons _ (.cons _ (.cons _ (.cons_cons _ (List.nil_sublist _)))))))))
  (refine xA (nn 0) ?_;refine ⟨hH,?_⟩)
  (refine xA (nn 1) ?_;refine ⟨hH,?_⟩)
  (refine xA (nn 2) ?_;refine ⟨hH,?_⟩)
  ((with_reducible apply a_takeL (nn 3));exact rfl;kernel_rfl;kernel_rfl;kernel_rfl;exact (fun _ _ _ h=>h);exact hH;exact rfl;(intro wd hd;replace hd:St _ _ wd _:=hd;((with_reducible apply Loads.st tabOk);exact rfl;exact (hd.blkRk 3 0 5 rfl);exact rfl));exact rfl)
  (refine xM (nn 4) ?_;refine ⟨hH,?_⟩)
  ((with_reducible apply a_takeC 1 5);exact rfl;kernel_rfl;kernel_rfl;kernel_rfl;exact (fun _ _ _ h=>h);exact hH;exact tabOk;(iterate 4 exact rfl);exact hlH;exact rfl;omega;exact rfl)
  (refine xM (nn 6) ?_;refine ⟨hH,?_⟩)
  (refine xA (nn 7) ?_;refine ⟨hH,?_⟩)
  refine a_one (i:=8) (by kernel_rfl) ?_
  simp only [List.take_succ_cons,List.take_zero,List.drop_zero]
  refine o_gets0 (Φ:=fun _ w'=>St _ _ w' _) rfl (g_store hS tabOk (i:=4) rfl rfl rfl rfl rfl (Nat.le_of_ble_eq_true rfl) (List.all_eq_true.1 rfl)) ?_
  intro _ w' hS'
  simp only [List.set] at hS'
  clear hS;have hS:=hS';clear hS'
  refine ⟨hlH _ (hS.sub (.cons_cons _ (.cons_cons _ (.cons_cons _ (.cons _ (.cons _ (.cons _ (.cons_cons _ (List.nil_sublist _))))))))),?_⟩
  have hH:=hlH _ (hS.sub (.cons_cons _ (.cons_cons _ (.cons_cons _ (.cons _ (.cons _ (.cons _ (.cons_cons _ (List.nil_sublist _)))))))))
  (refine xA (nn 9) ?_;refine ⟨hH,?_⟩)
  refine a_one (i:=10) (by kernel_rfl) ?_
  refine o_gets0 (Φ:=fun _ w'=>St _ _ w' _) rfl (g_store hS tabOk (i:=3) rfl rfl rfl rfl rfl (Nat.le_of_ble_eq_true rfl) (List.all_eq_true.1 rfl)) ?_
  intro _ w' hS'
  simp only [List.set] at hS'
  clear hS;have hS:=hS';clear hS'
  refine ⟨hlH _ (hS.sub (.cons_cons _ (.cons_cons _ (.cons_cons _ (.cons _ (.cons _ (.cons _ (.cons_cons _ (List.nil_sublist _))))))))),?_⟩
  have hH:=hlH _ (hS.sub (.cons_cons _ (.cons_cons _ (.cons_cons _ (.cons _ (.cons _ (.cons _ (.cons_cons _ (List.nil_sublist _)))))))))
  (refine xA (nn 11) ?_;refine ⟨hH,?_⟩)
  refine a_done (by kernel_rfl) ?_
  repeat' ((refine yO ?_))
  (apply q_ret4)
  ((repeat (first|exact ResL.nil|(apply ResL.tmp;exact rfl)|(apply ResL.cell;exact rfl;exact zLd))))
  have hok:okL K space (a:Nat) (n:Nat) way:=⟨⟨he,hf⟩,hw⟩
  obtain ⟨v1,v2,v3,v4⟩:=load_v4 hok
  refine ⟨⟨sh',fr',sl',sps',hand',.slice q1 sh'.length d1,.slice q2 fr'.length d2,.slice q3 sl'.length d3,.slice q4 sps'.length d4⟩,?_,?_,?_⟩
  ·rw [v1,v2,v3,hsp,Int.toNat_natCast,← hk',Int.toNat_natCast,hD]
   rfl
  ·rw [hk',v4,hsp];rfl
  ·refine came_of (Γ:=[]) (g:=gw) (sp:=sp) (vh:=vh) (held:=held) ?_
   rw [List.append_nil]
   exact hS.sub (.cons _ (.cons _ (.cons _ (.cons _ (.cons _ (.cons _ (.refl _)))))))
end Go.Proofs.Ytejnpppejalhfac
/- kernel.Peek. -/
namespace Go.Proofs.Ytejnpppejalhfac
open Go.RowKit Go.Sort
def peekE (K:Ker) (space page:Int):Int:=if liveE K space=0 then (if (findA (areasOf K space.toNat) page).isSome=true then 0 else 6) else liveE K space
def peekD (K:Ker) (space page:Int):List UInt8:=if peekE K space page=0 then peekK K space.toNat page else []
theorem live_right {K:Ker} {space:Int} (h:liveE K space=0):Right K∧∃ sp:Nat,space=(sp:Nat)∧sp < K.spaces.length∧(scAt K sp).live=true:=by
 unfold liveE at h
 by_cases h3:checkK K=0
 ·rw [if_pos h3] at h
  by_cases h4:0≤space∧space < (K.spaces.length:Int)∧(scAt K space.toNat).live=true
  ·exact ⟨right_iff.1 h3,space.toNat,by omega,by omega,h4.2.2⟩
  ·rw [if_neg h4] at h;cases h
 ·rw [if_neg h3] at h;exact absurd h h3
set_option maxRecDepth 100000 in
set_option maxHeartbeats 8000000 in
theorem Peek_fn {w:World} {k:KV} (hK:KerV w k) (space page:Int):Fn Try.prog 7 [.agg (kvC k).toArray,.int .i64 space,.int .i64 page] w (RBf (.tuple #[.string ⟨(peekD k.K space page).toArray⟩,.int .i64 (peekE k.K space page)]) w):=by
 have hbeg:=fun w1 (h:KerV w1 k)=>begin_fn h space
 have hK0:=hK
 obtain ⟨RE,hRE⟩:∃ e,e=peekE k.K space page:=⟨_,rfl⟩
 unfold peekD
 rw [← hRE]
 unfold peekE at hRE
 obtain ⟨sh,fr,sl,sps,hand,vsh,vfr,vsl,vsp⟩:=k
 obtain ⟨k1,k2,k3,k4,k5⟩:=hK
 dsimp only at k1 k2 k3 k4 k5
 obtain ⟨p1,c1,rfl⟩:=k1.sl.len
 obtain ⟨p2,c2,rfl⟩:=k2.len
 obtain ⟨p3,c3,rfl⟩:=k3.len
 obtain ⟨p4,c4,rfl⟩:=k4.len
 generalize hKK:KV.K ⟨sh,fr,sl,sps,hand,.slice p1 sh.length c1,.slice p2 fr.length c2,.slice p3 sl.length c3,.slice p4 sps.length c4⟩=K at hbeg hRE ⊢
 have hpre:∀ w1 Γ1,St nF w w1 Γ1→KerV w1 ⟨sh,fr,sl,sps,hand,.slice p1 sh.length c1,.slice p2 fr.length c2,.slice p3 sl.length c3,.slice p4 sps.length c4⟩:=fun w1 Γ1 h=>hK0.now h
 unfold kvC at hbeg ⊢
 dsimp only at hbeg ⊢
 refine yEn Try.func7 Try.ntmps7 ?_
 have hS:=St.start w
 repeat' (first|refine yO ?_|(refine yM ?_;clear hS;intro g w' hS))
 refine l_call rfl rfl (hbeg _ (hpre _ _ hS)) rfl ?_
 clear hbeg
 rintro v w2 (⟨he,rfl,hS'⟩|⟨gw,sp,k',he,hsp,rfl,hk',hS'⟩)
 ·replace hS:=hS.transA hS'
  simp only [appA] at hS
  rw [if_neg he] at hRE
  have hd:decide (liveE K space=0)=false:=decide_eq_false he
  rw [← hRE] at he hd ⊢
  rw [if_neg he]
  repeat' (first|refine yO ?_|(refine yS ?_ ?_;all_goals (intro hb hp;try (exfalso;omega))))
  refine yR2 ?_
  exact ⟨rfl,hS.sub (List.nil_sublist _)⟩
 rw [if_pos he] at hRE
 obtain ⟨hr,sp2,hsp2,hspl,hlv⟩:=live_right he
 obtain rfl:sp=sp2:=by omega
 replace hS:=hS.trans hS'
 clear hS'
 rw [List.append_assoc] at hS
 subst hsp
 rw [Int.toNat_natCast] at hRE ⊢
 clear hKK hpre hK0 k1 k2 k3 k4 k5
 subst hk'
 obtain ⟨x,hx⟩:∃ x,k'.sp[sp]?=some x:=by
  have:k'.K.spaces.length=k'.sp.length:=List.length_map _
  exact lt_get (by omega)
 have hxm:=List.mem_of_getElem? hx
 obtain ⟨hsc,hel⟩:=right_bd hr x.s (List.mem_of_getElem? (kv_sp hx))
 have hxA:areasOf k'.K sp=x.s.areas:=by unfold areasOf;rw [scAt_eq (kv_sp hx)]
 have hxe:entsOf k'.K sp=x.s.entries:=by unfold entsOf;rw [scAt_eq (kv_sp hx)]
 rw [hxA] at hRE
 have hV0:=WkV.own hS
 obtain ⟨bs,os,cs,hvsp⟩:=hV0.ker.sp.form1 hx
 obtain ⟨f0,hf0⟩:∃ f0,k'.fr[0]?=some f0:=lt_get (by have:=hr.cnt.1;have h9:k'.K.frames.length=k'.fr.length:=rfl;omega)
 obtain ⟨bf,of_,cf,hvfr⟩:=hV0.ker.fr.form1 hf0
 obtain ⟨psl,csl,hvsl⟩:=hV0.ker.sl.len
 have hxv:=hV0.ker.spv x hxm
 obtain ⟨sh',fr',sl',sps',hand',vsh',vfr',vsl',vsp'⟩:=k'
 dsimp only at hvsp hvfr hvsl hx hxm hf0
 subst hvsp hvfr hvsl
 have hrowS:=map_get (f:=spC) hx
 unfold spC at hrowS
 have hspc:=fun w1 Γ1 (h:St nF w w1 (wkS gw (⟨sh',fr',sl',sps',hand',vsh',.slice (some ⟨bf,of_,none⟩) fr'.length cf,.slice psl sl'.length csl,.slice (some ⟨bs,os,none⟩) sps'.length cs⟩:KV) sp (.slice none 0 0) []++(restA (⟨sh',fr',sl',sps',hand',vsh',.slice (some ⟨bf,of_,none⟩) fr'.length cf,.slice psl sl'.length csl,.slice (some ⟨bs,os,none⟩) sps'.length cs⟩:KV)++Γ1)))=>wspace_fn (WkV.own h) (lt_of_getE hx)
 have hspV:=fun w1 Γ1 (h:St nF w w1 (wkS gw (⟨sh',fr',sl',sps',hand',vsh',.slice (some ⟨bf,of_,none⟩) fr'.length cf,.slice psl sl'.length csl,.slice (some ⟨bs,os,none⟩) sps'.length cs⟩:KV) sp (.slice none 0 0) []++(restA (⟨sh',fr',sl',sps',hand',vsh',.slice (some ⟨bf,of_,none⟩) fr'.length cf,.slice psl sl'.length csl,.slice (some ⟨bs,os,none⟩) sps'.length cs⟩:KV)++Γ1)))=>(WkV.own h).ker.sp
 have hfnd:=fun w1 Γ1 (h:St nF w w1 (wkS gw (⟨sh',fr',sl',sps',hand',vsh',.slice (some ⟨bf,of_,none⟩) fr'.length cf,.slice psl sl'.length csl,.slice (some ⟨bs,os,none⟩) sps'.length cs⟩:KV) sp (.slice none 0 0) []++(restA (⟨sh',fr',sl',sps',hand',vsh',.slice (some ⟨bf,of_,none⟩) fr'.length cf,.slice psl sl'.length csl,.slice (some ⟨bs,os,none⟩) sps'.length cs⟩:KV)++Γ1)))=>Find_fn page ((WkV.own h).ker.spv x hxm).ar
 unfold elemP at hspc
 dsimp only at hspc hspV
 rw [findI_good hsc.ar] at hfnd
 unfold FindV at hfnd
 cases hfa:findA x.s.areas page with
 |none=>
  rw [hfa] at hRE hfnd
  dsimp only [Option.getD,Option.isSome] at hfnd hRE
  have hRE2:RE=6:=hRE
  rw [hRE2]
  repeat' (first|refine yO ?_|(refine yM ?_;clear hS;intro g w' hS)|(refine yN ?_;clear hS;intro w' hS)|(refine yC ?_;refine ⟨_,hspc _ _ hS,?_⟩;clear hS;intro w' hS)|(refine yC1 ?_;refine ⟨_,(hspV _ _ hS).cel hrowS rfl,?_⟩)|(refine yC ?_;refine ⟨_,hfnd _ _ hS,?_⟩;clear hS;intro w' hS))
  refine yR2 ?_
  exact ⟨rfl,hS.sub (List.nil_sublist _)⟩
 |some a=>
  rw [hfa] at hRE hfnd
  dsimp only [Option.getD,Option.isSome] at hfnd hRE
  have hRE2:RE=0:=hRE
  rw [hRE2,if_pos rfl]
  unfold arC at hfnd
  have hpg:=page_bd hsc.ar (p:=page) (by rw [hfa];rfl)
  have hent:=fun w1 Γ1 (h:St nF w w1 (wkS gw (⟨sh',fr',sl',sps',hand',vsh',.slice (some ⟨bf,of_,none⟩) fr'.length cf,.slice psl sl'.length csl,.slice (some ⟨bs,os,none⟩) sps'.length cs⟩:KV) sp (.slice none 0 0) []++(restA (⟨sh',fr',sl',sps',hand',vsh',.slice (some ⟨bf,of_,none⟩) fr'.length cf,.slice psl sl'.length csl,.slice (some ⟨bs,os,none⟩) sps'.length cs⟩:KV)++Γ1)))=>wentry_fn (WkV.own h) hx page hsc.rises (pgBd_of hsc (by omega))
  obtain ⟨pt,is,hEV,hcase⟩:=entV_of (page:=page) hsc.rises hxv.en
  rw [hEV] at hent
  rcases hcase with ⟨rfl,rfl,he2⟩|⟨rfl,e,b,off,c,i,he2,hve,hei,rfl⟩
  ·obtain ⟨d,d1,d2,d3⟩:=fill_len hr (sp:=sp) (page:=page) ⟨hlv,by rw [hxA,hfa];rfl⟩
   have hz:zAt (⟨sh',fr',sl',sps',hand',vsh',.slice (some ⟨bf,of_,none⟩) fr'.length cf,.slice psl sl'.length csl,.slice (some ⟨bs,os,none⟩) sps'.length cs⟩:KV).K sp page=a.z:=by unfold zAt;rw [hxA,hfa];rfl
   rw [hz] at d1
   have hfil:=fun w1 Γ1 (h:St nF w w1 (wkS gw (⟨sh',fr',sl',sps',hand',vsh',.slice (some ⟨bf,of_,none⟩) fr'.length cf,.slice psl sl'.length csl,.slice (some ⟨bs,os,none⟩) sps'.length cs⟩:KV) sp (.slice none 0 0) []++(restA (⟨sh',fr',sl',sps',hand',vsh',.slice (some ⟨bf,of_,none⟩) fr'.length cf,.slice psl sl'.length csl,.slice (some ⟨bs,os,none⟩) sps'.length cs⟩:KV)++Γ1)))=>filling_fn (F:=nF) (a:=a) (p:=page) (WkV.own h).c0 (WkV.own h).ker.sh hr.rise (by omega)
   have hdd:fillP (shs sh') a.z page=some d:=d1
   rw [hdd] at hfil
   unfold fillV at hfil
   dsimp only [Option.getD,Option.isSome] at hfil
   unfold arC at hfil
   have hpk:peekK (⟨sh',fr',sl',sps',hand',vsh',.slice (some ⟨bf,of_,none⟩) fr'.length cf,.slice psl sl'.length csl,.slice (some ⟨bs,os,none⟩) sps'.length cs⟩:KV).K sp page=d:=by unfold peekK;rw [hxe,he2];exact d3
   rw [hpk]
   repeat' (first|refine yO ?_|(refine yM ?_;clear hS;intro g w' hS)|(refine yN ?_;clear hS;intro w' hS)|(refine yC ?_;refine ⟨_,hspc _ _ hS,?_⟩;clear hS;intro w' hS)|(refine yC1 ?_;refine ⟨_,(hspV _ _ hS).cel hrowS rfl,?_⟩)|(refine yC ?_;refine ⟨_,hfnd _ _ hS,?_⟩;clear hS;intro w' hS)|(refine yC ?_;refine ⟨_,hent _ _ hS.drop,?_⟩;clear hS;intro w' hS))
   (focus (refine yD ?_;(repeat' (first|refine yP ?_|(refine yF ?_;refine ⟨_,fun wd hd=>hfil _ _ hd.drop,?_⟩)));all_goals (refine yZ ?_;clear hS;intro w' hS)))
   repeat' ((refine yO ?_))
   refine yR2 ?_
   exact ⟨rfl,hS.sub (List.nil_sublist _)⟩
  ·obtain ⟨hep,hnm,-⟩:=named hr (sp:=sp) (p:=page) (e:=e) (by rw [hxe];exact he2)
   have hrowE:=map_get (f:=enC) hei
   have hentV:=fun w1 Γ1 (h:St nF w w1 (wkS gw (⟨sh',fr',sl',sps',hand',vsh',.slice (some ⟨bf,of_,none⟩) fr'.length cf,.slice psl sl'.length csl,.slice (some ⟨bs,os,none⟩) sps'.length cs⟩:KV) sp (.slice none 0 0) []++(restA (⟨sh',fr',sl',sps',hand',vsh',.slice (some ⟨bf,of_,none⟩) fr'.length cf,.slice psl sl'.length csl,.slice (some ⟨bs,os,none⟩) sps'.length cs⟩:KV)++Γ1)))=>((WkV.own h).ker.spv x hxm).en
   rw [hve] at hentV
   unfold enC at hrowE
   have hpk:peekK (⟨sh',fr',sl',sps',hand',vsh',.slice (some ⟨bf,of_,none⟩) fr'.length cf,.slice psl sl'.length csl,.slice (some ⟨bs,os,none⟩) sps'.length cs⟩:KV).K sp page=dataE (⟨sh',fr',sl',sps',hand',vsh',.slice (some ⟨bf,of_,none⟩) fr'.length cf,.slice psl sl'.length csl,.slice (some ⟨bs,os,none⟩) sps'.length cs⟩:KV).K e:=by unfold peekK;rw [hxe,he2]
   rw [hpk]
   unfold dataE
   have hfrV:=fun w1 Γ1 (h:St nF w w1 (wkS gw (⟨sh',fr',sl',sps',hand',vsh',.slice (some ⟨bf,of_,none⟩) fr'.length cf,.slice psl sl'.length csl,.slice (some ⟨bs,os,none⟩) sps'.length cs⟩:KV) sp (.slice none 0 0) []++(restA (⟨sh',fr',sl',sps',hand',vsh',.slice (some ⟨bf,of_,none⟩) fr'.length cf,.slice psl sl'.length csl,.slice (some ⟨bs,os,none⟩) sps'.length cs⟩:KV)++Γ1)))=>(WkV.own h).ker.fr
   have hslV:=fun w1 Γ1 (h:St nF w w1 (wkS gw (⟨sh',fr',sl',sps',hand',vsh',.slice (some ⟨bf,of_,none⟩) fr'.length cf,.slice psl sl'.length csl,.slice (some ⟨bs,os,none⟩) sps'.length cs⟩:KV) sp (.slice none 0 0) []++(restA (⟨sh',fr',sl',sps',hand',vsh',.slice (some ⟨bf,of_,none⟩) fr'.length cf,.slice psl sl'.length csl,.slice (some ⟨bs,os,none⟩) sps'.length cs⟩:KV)++Γ1)))=>(WkV.own h).ker.sl
   dsimp only at hfrV hslV
   rcases hnm with ⟨hk1,j,hj,hjl,-⟩|⟨hk2,j,hj,hjl,-⟩
   ·have hd1:decide (e.kind=1)=true:=decide_eq_true hk1
    obtain ⟨epg,ekd,eat⟩:=e
    dsimp only at hj hk1 hep
    subst hj
    rw [if_pos hk1,Int.toNat_natCast]
    have hjl':j < fr'.length:=hjl
    obtain ⟨s1,hs1⟩:=lt_get (l:=fr') (i:=j) (by omega)
    rw [show (⟨sh',fr',sl',sps',hand',vsh',.slice (some ⟨bf,of_,none⟩) fr'.length cf,.slice psl sl'.length csl,.slice (some ⟨bs,os,none⟩) sps'.length cs⟩:KV).K.frames=fr' from rfl,fmAt_eq hs1]
    have hrowL:=map_get (f:=fmC) hs1
    unfold fmC at hrowL
    repeat' (first|refine yO ?_|(refine yM ?_;clear hS;intro g w' hS)|(refine yN ?_;clear hS;intro w' hS)|(refine yC ?_;refine ⟨_,hspc _ _ hS,?_⟩;clear hS;intro w' hS)|(refine yC1 ?_;refine ⟨_,(hspV _ _ hS).cel hrowS rfl,?_⟩)|(refine yC ?_;refine ⟨_,hfnd _ _ hS,?_⟩;clear hS;intro w' hS)|(refine yC ?_;refine ⟨_,hent _ _ hS.drop,?_⟩;clear hS;intro w' hS)|(refine yC1 ?_;refine ⟨_,(hentV _ _ hS.drop).cel hrowE rfl,?_⟩))
    (focus (refine yD ?_;(repeat' (first|refine yP ?_|((with_reducible apply d_load);exact rfl;(intro wd hd;replace hd:St _ _ wd _:=hd;(((with_reducible apply Loads.sc tabOk);exact rfl;exact (hentV _ _ hd.drop).cel hrowE rfl)));exact rfl)|((with_reducible apply d_load);exact rfl;(intro wd hd;replace hd:St _ _ wd _:=hd;(((with_reducible apply Loads.sc tabOk);exact rfl;exact (hfrV _ _ hd.drop).cel0 hrowL rfl)));exact rfl)));all_goals (refine yZ ?_;clear hS;intro w' hS)))
    repeat' ((refine yO ?_))
    refine yR2 ?_
    exact ⟨rfl,hS.sub (List.nil_sublist _)⟩
   ·have hd1:decide (e.kind=1)=false:=decide_eq_false (by omega)
    obtain ⟨epg,ekd,eat⟩:=e
    dsimp only at hj hk2 hep
    subst hj
    rw [if_neg (show ¬ekd=1 by omega),Int.toNat_natCast]
    have hjl':j < sl'.length:=hjl
    obtain ⟨s1,hs1⟩:=lt_get (l:=sl') (i:=j) (by omega)
    rw [show (⟨sh',fr',sl',sps',hand',vsh',.slice (some ⟨bf,of_,none⟩) fr'.length cf,.slice psl sl'.length csl,.slice (some ⟨bs,os,none⟩) sps'.length cs⟩:KV).K.slots=sl' from rfl,swAt_eq hs1]
    have hrowL:=map_get (f:=swC) hs1
    obtain ⟨bl,ol,cl,hfl⟩:=hV0.ker.sl.form1 hs1
    injection hfl with hfl1 hfl2 hfl3
    subst hfl1
    have hslV2:=fun w1 Γ1 (h:St nF w w1 (wkS gw (⟨sh',fr',sl',sps',hand',vsh',.slice (some ⟨bf,of_,none⟩) fr'.length cf,.slice (some ⟨bl,ol,none⟩) sl'.length csl,.slice (some ⟨bs,os,none⟩) sps'.length cs⟩:KV) sp (.slice none 0 0) []++(restA (⟨sh',fr',sl',sps',hand',vsh',.slice (some ⟨bf,of_,none⟩) fr'.length cf,.slice (some ⟨bl,ol,none⟩) sl'.length csl,.slice (some ⟨bs,os,none⟩) sps'.length cs⟩:KV)++Γ1)))=>(WkV.own h).ker.sl
    unfold swC at hrowL
    repeat' (first|refine yO ?_|(refine yM ?_;clear hS;intro g w' hS)|(refine yN ?_;clear hS;intro w' hS)|(refine yC ?_;refine ⟨_,hspc _ _ hS,?_⟩;clear hS;intro w' hS)|(refine yC1 ?_;refine ⟨_,(hspV _ _ hS).cel hrowS rfl,?_⟩)|(refine yC ?_;refine ⟨_,hfnd _ _ hS,?_⟩;clear hS;intro w' hS)|(refine yC ?_;refine ⟨_,hent _ _ hS.drop,?_⟩;clear hS;intro w' hS)|(refine yC1 ?_;refine ⟨_,(hentV _ _ hS.drop).cel hrowE rfl,?_⟩))
    (focus (refine yD ?_;(repeat' (first|refine yP ?_|((with_reducible apply d_load);exact rfl;(intro wd hd;replace hd:St _ _ wd _:=hd;(((with_reducible apply Loads.sc tabOk);exact rfl;exact (hentV _ _ hd.drop).cel hrowE rfl)));exact rfl)|((with_reducible apply d_load);exact rfl;(intro wd hd;replace hd:St _ _ wd _:=hd;(((with_reducible apply Loads.sc tabOk);exact rfl;exact (hslV2 _ _ hd.drop).cel0 hrowL rfl)));exact rfl)));all_goals (refine yZ ?_;clear hS;intro w' hS)))
    repeat' ((refine yO ?_))
    refine yR2 ?_
    exact ⟨rfl,hS.sub (List.nil_sublist _)⟩
end Go.Proofs.Ytejnpppejalhfac
/- kernel.New. -/
namespace Go.Proofs.Ytejnpppejalhfac
open Go.RowKit Go.Sort
def newE (A:List Ar) (L:List Sh) (en frames slots:Int):Int:=if checkLk A L en=0 then (if frames < 3 then 9 else if 64 < frames∨slots < 0∨512 < slots then 3 else if slots < sumN A then 8 else 0) else checkLk A L en
def newK (A:List Ar) (L:List Sh) (en frames slots:Int):Ker:=if newE A L en frames slots=0 then ⟨L,List.replicate frames.toNat fm0,List.replicate slots.toNat sw0,[⟨true,A,[]⟩],0⟩ else ker0
theorem came_kA {w w':World} {k:KV} (h:St nF w w' (kA k)):Came w w' k:=Or.inr (h.perm (kA_perm k))
def newKV (A:List Ar) (Lp:List (Sh×Value)) (va vs vF vS vP:Value) (nf ns:Nat):KV:=⟨Lp,List.replicate nf fm0,List.replicate ns sw0,[⟨⟨true,A,[]⟩,va,.slice none 0 0⟩],0,vs,vF,vS,vP⟩
theorem new_V {w:World} {A:List Ar} {Lp:List (Sh×Value)} {va vs vF vS vP:Value} {nf ns:Nat} (hA:Sl nF w 4 va (A.map arC)) (hL:ShsV w Lp vs) (h1:Sl nF w 4 vF (List.replicate nf [.string ⟨#[]⟩,.int .i64 0,.bool false,.bool false])) (h2:Sl nF w 2 vS (List.replicate ns [.string ⟨#[]⟩,.int .i64 0])) (h3:Sl nF w 3 vP [[.bool true,va,.slice none 0 0]]):KerV w (newKV A Lp va vs vF vS vP nf ns):=by
 refine ⟨hL,?_,?_,h3,fun p hp=>?_⟩
 ·show Sl nF w 4 vF ((List.replicate nf fm0).map fmC)
  rw [List.map_replicate];exact h1
 ·show Sl nF w 2 vS ((List.replicate ns sw0).map swC)
  rw [List.map_replicate];exact h2
 ·have:p=⟨⟨true,A,[]⟩,va,.slice none 0 0⟩:=List.mem_singleton.1 hp
  subst this
  exact ⟨hA,Sl.nil0 w 3⟩
theorem new_B {A:List Ar} {Lp:List (Sh×Value)} {va vs vF vS vP:Value} {nf ns:Nat} (hA:A.length≤255) (hL:Lp.length≤255) (hx:∀ x ∈ Lp,x.1.fixes.length≤16) (h1:nf≤1000) (h2:ns≤1000):KBd (newKV A Lp va vs vF vS vP nf ns):=by
 refine ⟨?_,?_,?_,?_,fun x hxm=>?_,fun p hp=>?_,fun p hp=>?_⟩
 ·show (List.replicate nf fm0).length≤1000
  rw [List.length_replicate];omega
 ·show (List.replicate ns sw0).length≤1000
  rw [List.length_replicate];omega
 ·show Lp.length≤1000
  omega
 ·show 1≤1000
  omega
 ·have:=hx x hxm;omega
 ·have:p=⟨⟨true,A,[]⟩,va,.slice none 0 0⟩:=List.mem_singleton.1 hp
  subst this
  show A.length≤1000
  omega
 ·have:p=⟨⟨true,A,[]⟩,va,.slice none 0 0⟩:=List.mem_singleton.1 hp
  subst this
  show 0≤1000
  omega
theorem endOf_256:∀ {l:List Ar} {e:Int},RiseF e l→e≤256→endOf e l≤256
 |[],_,_,h=>h
 |a::l,e,h,_=>endOf_256 (l:=l) (e:=a.fin) h.2.2 (by have:=h.1;unfold Ar.ok at this;unfold Ar.fin;omega)
theorem lk_bd {A:List Ar} {L:List Sh} {en:Int} (h:checkLk A L en=0):checkI A=0∧A.length≤255∧L.length≤255∧∀ S ∈ L,S.fixes.length≤16:=by
 unfold checkLk at h
 by_cases h1:checkI A=0
 ·rw [if_pos h1] at h
  by_cases h2:lkB A L en=true
  ·unfold lkB at h2
   rw [shsB_eq] at h2
   simp only [Bool.and_eq_true,decide_eq_true_eq] at h2
   obtain ⟨h3,⟨h4,-⟩,-⟩:=h2
   obtain ⟨h5,h6⟩:=checkI_zero.1 h1
   have h7:=(sumN_spec (l:=A) (q:=1) (q':=256) h6.1 (endOf_256 h6.1 (by omega)) (by omega)).1
   exact ⟨h1,h5,by omega,fun S hS=>rightS_len ((riseB_all h4).1 S hS).1⟩
  ·rw [if_neg h2] at h;cases h
 ·rw [if_neg h1] at h;exact absurd h h1
set_option maxRecDepth 100000 in
set_option maxHeartbeats 8000000 in
theorem New_fn {w:World} {A:List Ar} {Lp:List (Sh×Value)} {va vs:Value} {en:Int} (hA:Sl nF w 4 va (A.map arC)) (hL:ShsV w Lp vs) (hen:-9223372036854775808≤en) (hen2:en≤9223372036854775807) {frames slots:Int}:Fn Try.prog 15 [lkA va vs en,.int .i64 frames,.int .i64 slots] w (fun v w'=>∃ k',v=.tuple #[.agg (kvC k').toArray,.int .i64 (newE A (shs Lp) en frames slots)]∧k'.K=newK A (shs Lp) en frames slots∧Came w w' k'):=by
 have hchk:=fun w1 Γ1 (h:St nF w w1 Γ1)=>LkCheck_fn (hA.now h) (hL.now h) hen hen2
 have htot:=fun w1 Γ1 (h:St nF w w1 Γ1)=>Total_fn (hA.now h)
 obtain ⟨RE,hRE⟩:∃ e,e=newE A (shs Lp) en frames slots:=⟨_,rfl⟩
 unfold newK
 rw [← hRE]
 unfold newE at hRE
 obtain ⟨pa,ca,rfl⟩:=hA.len
 obtain ⟨ph,ch,rfl⟩:=hL.sl.len
 unfold lkA at hchk ⊢
 unfold kvC
 have hno:∀ {w1 Γ1},St nF w w1 Γ1→∀ {e:Int},e≠0→∃ k':KV,Value.tuple #[.agg #[.slice none 0 0,.slice none 0 0,.slice none 0 0,.slice none 0 0,.int .i64 0],.int .i64 e]=.tuple #[.agg [k'.vsh,k'.vfr,k'.vsl,k'.vsp,.int .i64 k'.hand].toArray,.int .i64 e]∧k'.K=(if e=0 then (⟨shs Lp,List.replicate frames.toNat fm0,List.replicate slots.toNat sw0,[⟨true,A,[]⟩],0⟩:Ker) else ker0)∧Came w w1 k':=by
  intro w1 Γ1 h e he
  exact ⟨kv0,rfl,by rw [if_neg he];rfl,Or.inl ⟨rfl,h.sub (List.nil_sublist _)⟩⟩
 by_cases h0:checkLk A (shs Lp) en=0
 rotate_left
 ·rw [if_neg h0] at hRE
  have hd:decide (checkLk A (shs Lp) en=0)=false:=decide_eq_false h0
  rw [← hRE] at hd hchk h0
  refine yEn Try.func15 Try.ntmps15 ?_
  have hS:=St.start w
  repeat' (first|refine yO ?_|(refine yM ?_;clear hS;intro g w' hS)|(refine yN ?_;clear hS;intro w' hS)|(refine yS ?_ ?_;all_goals (intro hb hp;try (exfalso;omega)))|(refine yC ?_;refine ⟨_,hchk _ _ hS,?_⟩;clear hS;intro w' hS))
  refine yR2 ?_
  exact hno hS h0
 rw [if_pos h0] at hRE
 rw [h0] at hchk
 obtain ⟨hc,hb1,hb2,hb3⟩:=lk_bd h0
 rw [if_pos hc] at htot
 by_cases h1:frames < 3
 ·rw [if_pos h1] at hRE
  subst hRE
  have hd:decide (frames < 3)=true:=decide_eq_true h1
  refine yEn Try.func15 Try.ntmps15 ?_
  have hS:=St.start w
  repeat' (first|refine yO ?_|(refine yM ?_;clear hS;intro g w' hS)|(refine yN ?_;clear hS;intro w' hS)|(refine yC ?_;refine ⟨_,hchk _ _ hS,?_⟩;clear hS;intro w' hS))
  refine yR2 ?_
  exact hno hS (by omega)
 rw [if_neg h1] at hRE
 have hd1:decide (frames < 3)=false:=decide_eq_false h1
 by_cases h2:64 < frames∨slots < 0∨512 < slots
 ·rw [if_pos h2] at hRE
  subst hRE
  refine yEn Try.func15 Try.ntmps15 ?_
  have hS:=St.start w
  repeat' (first|refine yO ?_|(refine yM ?_;clear hS;intro g w' hS)|(refine yN ?_;clear hS;intro w' hS)|(refine yS ?_ ?_;all_goals (intro hb hp;try (exfalso;omega)))|(refine yC ?_;refine ⟨_,hchk _ _ hS,?_⟩;clear hS;intro w' hS))
  all_goals (apply q_ret2)
  all_goals ((repeat (first|exact ResL.nil|(apply ResL.tmp;exact rfl)|(apply ResL.cell;exact rfl;exact zLd))))
  all_goals (exact hno hS (by omega))
 rw [if_neg h2] at hRE
 have hd2:decide (64 < frames)=false:=decide_eq_false (by omega)
 have hd3:decide (slots < 0)=false:=decide_eq_false (by omega)
 have hd4:decide (512 < slots)=false:=decide_eq_false (by omega)
 by_cases h3:slots < sumN A
 ·rw [if_pos h3] at hRE
  subst hRE
  have hd5:decide (slots < sumN A)=true:=decide_eq_true h3
  refine yEn Try.func15 Try.ntmps15 ?_
  have hS:=St.start w
  repeat' (first|refine yO ?_|(refine yM ?_;clear hS;intro g w' hS)|(refine yN ?_;clear hS;intro w' hS)|(refine yC ?_;refine ⟨_,hchk _ _ hS,?_⟩;clear hS;intro w' hS)|(refine yC ?_;refine ⟨_,htot _ _ hS,?_⟩;clear hS;intro w' hS))
  refine yR2 ?_
  exact hno hS (by omega)
 rw [if_neg h3] at hRE
 subst hRE
 rw [if_pos rfl]
 have hd5:decide (slots < sumN A)=false:=decide_eq_false h3
 obtain ⟨nf,rfl⟩:∃ n:Nat,frames=(n:Nat):=⟨frames.toNat,by omega⟩
 obtain ⟨ns,rfl⟩:∃ n:Nat,slots=(n:Nat):=⟨slots.toNat,by omega⟩
 refine yEn Try.func15 Try.ntmps15 ?_
 have hS:=St.start w
 repeat' (first|refine yO ?_|(refine yM ?_;clear hS;intro g w' hS)|(refine yC ?_;refine ⟨_,hchk _ _ hS,?_⟩;clear hS;intro w' hS)|(refine yC ?_;refine ⟨_,htot _ _ hS,?_⟩;clear hS;intro w' hS))
 rename_i g3 _ _ _
 have hAw:=fun w1 Γ1 (h:St nF w w1 Γ1)=>hA.now h
 have hLw:=fun w1 Γ1 (h:St nF w w1 Γ1)=>hL.now h
 have hlen:Lp.length≤255:=by rw [← shs_len];exact hb2
 have hfx:∀ x ∈ Lp,x.1.fixes.length≤16:=fun x hx=>hb3 x.1 (List.mem_map.2 ⟨x,hx,rfl⟩)
 have hown:=fun w1 Γ1 (h:St nF w w1 Γ1) gF gS gP (r1:Sl nF w1 4 (.slice (some ⟨gF,0,none⟩) nf nf) (List.replicate nf [.string ⟨#[]⟩,.int .i64 0,.bool false,.bool false])) (r2:Sl nF w1 2 (.slice (some ⟨gS,0,none⟩) ns ns) (List.replicate ns [.string ⟨#[]⟩,.int .i64 0])) (r3:Sl nF w1 3 (.slice (some ⟨gP,0,none⟩) 1 1) [[.bool true,.slice pa A.length ca,.slice none 0 0]])=>own_fn (new_V (hAw _ _ h) (hLw _ _ h) r1 r2 r3) (new_B (va:=.slice pa A.length ca) (vs:=.slice ph Lp.length ch) (vF:=.slice (some ⟨gF,0,none⟩) nf nf) (vS:=.slice (some ⟨gS,0,none⟩) ns ns) (vP:=.slice (some ⟨gP,0,none⟩) 1 1) (nf:=nf) (ns:=ns) hb1 hlen hfx (by omega) (by omega))
 unfold newKV kvC at hown
 refine c_varX (F:=nF) (w0:=w) (X:=KV) (fun _=>[(6,.pointer (some ⟨g,0,none⟩)),(7,.int .i64 0)]) (fun k'=>.blk g (kvC k')::kA k') (fun k'=>k'.K=(⟨shs Lp,List.replicate nf fm0,List.replicate ns sw0,[⟨true,A,[]⟩],0⟩:Ker)) ?_ ?_
 ·refine c_held (fun w'=>St nF w w' [.blk g3 [.slice pa A.length ca,.slice ph Lp.length ch,.int .i64 en]]) 14 rfl hS (by kernel_rfl) ?_
  intro w1 hS'
  clear hS;have hS:=hS';clear hS'
  (refine xA (nn 0) ?_;refine ⟨(hS.sub (by repeat (first|exact List.Sublist.refl _|apply List.Sublist.cons))),?_⟩)
  (refine xM (nn 1) ?_;refine ⟨(hS.sub (by repeat (first|exact List.Sublist.refl _|apply List.Sublist.cons))),?_⟩)
  (refine xA (nn 2) ?_;refine ⟨(hS.sub (by repeat (first|exact List.Sublist.refl _|apply List.Sublist.cons))),?_⟩)
  (refine xA (nn 4) ?_;refine ⟨(hS.sub (by repeat (first|exact List.Sublist.refl _|apply List.Sublist.cons))),?_⟩)
  (refine xA (nn 6) ?_;refine ⟨(hS.sub (by repeat (first|exact List.Sublist.refl _|apply List.Sublist.cons))),?_⟩)
  (refine xM (nn 7) ?_;refine ⟨(hS.sub (by repeat (first|exact List.Sublist.refl _|apply List.Sublist.cons))),?_⟩)
  (refine xD (nn 8) ?_;refine ⟨(hS.sub (by repeat (first|exact List.Sublist.refl _|apply List.Sublist.cons))),?_⟩)
  refine a_three (i:=3) (j:=5) (l:=9) (by kernel_rfl) ?_ ?_ ?_
  ·refine o_gets rfl (g_make hS tabOk (m:=nf) rfl rfl rfl rfl rfl (by omega) (by omega) rfl) rfl ?_
   rintro _ w' ⟨gF,rfl,hS'⟩
   clear hS;have hS:=hS';clear hS'
   refine ⟨(hS.sub (by repeat (first|exact List.Sublist.refl _|apply List.Sublist.cons))),?_⟩
   refine a_two (i:=5) (j:=9) (by kernel_rfl) ?_ ?_
   ·refine o_gets rfl (g_make hS tabOk (m:=ns) rfl rfl rfl rfl rfl (by omega) (by omega) rfl) rfl ?_
    rintro _ w' ⟨gS,rfl,hS'⟩
    clear hS;have hS:=hS';clear hS'
    refine ⟨(hS.sub (by repeat (first|exact List.Sublist.refl _|apply List.Sublist.cons))),?_⟩
    refine a_one (i:=9) (by kernel_rfl) ?_
    refine o_gets rfl (g_bslice hS tabOk rfl rfl rfl rfl rfl rfl) rfl ?_
    rintro _ w' ⟨gP,rfl,hS'⟩
    clear hS;have hS:=hS';clear hS'
    refine ⟨(hS.sub (by repeat (first|exact List.Sublist.refl _|apply List.Sublist.cons))),?_⟩
    (refine xD (nn 10) ?_;refine ⟨(hS.sub (by repeat (first|exact List.Sublist.refl _|apply List.Sublist.cons))),?_⟩)
    replace hS:=St.reorder [2,1,0,3,4] hS (by decide) rfl
    refine a_one (i:=11) (by kernel_rfl) ?_
    refine o_gets rfl (g_call (first:=[]) (caps:=[]) rfl rfl (hown _ _ hS gF gS gP (hS.rowSl 0 rfl) (hS.rowSl 1 rfl) (hS.rowSl 2 rfl))) rfl ?_
    rintro _ w' ⟨k',rfl,hk',h2⟩
    replace hS:=hS.trans h2
    clear h2 hown
    replace hS:=hS.perm List.perm_append_comm
    obtain ⟨sh',fr',sl',sps',hand',vsh',vfr',vsl',vsp'⟩:=k'
    unfold kA at hS
    dsimp only [List.cons_append,List.nil_append] at hS
    obtain ⟨q1,d1,rfl⟩:=hS.rowSlice 5 rfl
    obtain ⟨q2,d2,rfl⟩:=hS.rowSlice 6 rfl
    obtain ⟨q3,d3,rfl⟩:=hS.rowSlice 7 rfl
    obtain ⟨q4,d4,rfl⟩:=hS.rowSlice 8 rfl
    refine ⟨(hS.sub (.cons _ (.cons _ (.cons _ (.cons _ (.cons_cons _ (List.nil_sublist _))))))),?_⟩
    refine a_one (i:=12) (by kernel_rfl) ?_
    refine o_gets0 (Φ:=fun _ w'=>St _ _ w' _) rfl (g_store hS tabOk (i:=3) rfl rfl rfl rfl rfl (Nat.le_of_ble_eq_true rfl) (List.all_eq_true.1 rfl)) ?_
    intro _ w' hS'
    simp only [List.set] at hS'
    clear hS;have hS:=hS';clear hS'
    refine ⟨(hS.sub (.cons _ (.cons _ (.cons _ (.cons _ (.cons_cons _ (List.nil_sublist _))))))),?_⟩
    (refine xA (nn 13) ?_;refine ⟨(hS.sub (.cons _ (.cons _ (.cons _ (.cons _ (.cons_cons _ (List.nil_sublist _))))))),?_⟩)
    refine a_done (by kernel_rfl) ?_
    exact q_varX _ (by exact zS) hk' (hS.sub (.cons _ (.cons _ (.cons _ (.cons_cons _ (.cons _ (.refl _)))))))
   ·refine o_gets rfl (g_bslice hS tabOk rfl rfl rfl rfl rfl rfl) rfl ?_
    rintro _ w' ⟨gP,rfl,hS'⟩
    clear hS;have hS:=hS';clear hS'
    refine ⟨(hS.sub (by repeat (first|exact List.Sublist.refl _|apply List.Sublist.cons))),?_⟩
    refine a_one (i:=5) (by kernel_rfl) ?_
    refine o_gets rfl (g_make hS tabOk (m:=ns) rfl rfl rfl rfl rfl (by omega) (by omega) rfl) rfl ?_
    rintro _ w' ⟨gS,rfl,hS'⟩
    clear hS;have hS:=hS';clear hS'
    refine ⟨(hS.sub (by repeat (first|exact List.Sublist.refl _|apply List.Sublist.cons))),?_⟩
    (refine xD (nn 10) ?_;refine ⟨(hS.sub (by repeat (first|exact List.Sublist.refl _|apply List.Sublist.cons))),?_⟩)
    replace hS:=St.reorder [2,0,1,3,4] hS (by decide) rfl
    refine a_one (i:=11) (by kernel_rfl) ?_
    refine o_gets rfl (g_call (first:=[]) (caps:=[]) rfl rfl (hown _ _ hS gF gS gP (hS.rowSl 0 rfl) (hS.rowSl 1 rfl) (hS.rowSl 2 rfl))) rfl ?_
    rintro _ w' ⟨k',rfl,hk',h2⟩
    replace hS:=hS.trans h2
    clear h2 hown
    replace hS:=hS.perm List.perm_append_comm
    obtain ⟨sh',fr',sl',sps',hand',vsh',vfr',vsl',vsp'⟩:=k'
    unfold kA at hS
    dsimp only [List.cons_append,List.nil_append] at hS
    obtain ⟨q1,d1,rfl⟩:=hS.rowSlice 5 rfl
    obtain ⟨q2,d2,rfl⟩:=hS.rowSlice 6 rfl
    obtain ⟨q3,d3,rfl⟩:=hS.rowSlice 7 rfl
    obtain ⟨q4,d4,rfl⟩:=hS.rowSlice 8 rfl
    refine ⟨(hS.sub (.cons _ (.cons _ (.cons _ (.cons _ (.cons_cons _ (List.nil_sublist _))))))),?_⟩
    refine a_one (i:=12) (by kernel_rfl) ?_
    refine o_gets0 (Φ:=fun _ w'=>St _ _ w' _) rfl (g_store hS tabOk (i:=3) rfl rfl rfl rfl rfl (Nat.le_of_ble_eq_true rfl) (List.all_eq_true.1 rfl)) ?_
    intro _ w' hS'
    simp only [List.set] at hS'
    clear hS;have hS:=hS';clear hS'
    refine ⟨(hS.sub (.cons _ (.cons _ (.cons _ (.cons _ (.cons_cons _ (List.nil_sublist _))))))),?_⟩
    (refine xA (nn 13) ?_;refine ⟨(hS.sub (.cons _ (.cons _ (.cons _ (.cons _ (.cons_cons _ (List.nil_sublist _))))))),?_⟩)
    refine a_done (by kernel_rfl) ?_
    exact q_varX _ (by exact zS) hk' (hS.sub (.cons _ (.cons _ (.cons _ (.cons_cons _ (.cons _ (.refl _)))))))
  ·refine o_gets rfl (g_make hS tabOk (m:=ns) rfl rfl rfl rfl rfl (by omega) (by omega) rfl) rfl ?_
   rintro _ w' ⟨gS,rfl,hS'⟩
   clear hS;have hS:=hS';clear hS'
   refine ⟨(hS.sub (by repeat (first|exact List.Sublist.refl _|apply List.Sublist.cons))),?_⟩
   refine a_two (i:=3) (j:=9) (by kernel_rfl) ?_ ?_
   ·refine o_gets rfl (g_make hS tabOk (m:=nf) rfl rfl rfl rfl rfl (by omega) (by omega) rfl) rfl ?_
    rintro _ w' ⟨gF,rfl,hS'⟩
    clear hS;have hS:=hS';clear hS'
    refine ⟨(hS.sub (by repeat (first|exact List.Sublist.refl _|apply List.Sublist.cons))),?_⟩
    refine a_one (i:=9) (by kernel_rfl) ?_
    refine o_gets rfl (g_bslice hS tabOk rfl rfl rfl rfl rfl rfl) rfl ?_
    rintro _ w' ⟨gP,rfl,hS'⟩
    clear hS;have hS:=hS';clear hS'
    refine ⟨(hS.sub (by repeat (first|exact List.Sublist.refl _|apply List.Sublist.cons))),?_⟩
    (refine xD (nn 10) ?_;refine ⟨(hS.sub (by repeat (first|exact List.Sublist.refl _|apply List.Sublist.cons))),?_⟩)
    replace hS:=St.reorder [1,2,0,3,4] hS (by decide) rfl
    refine a_one (i:=11) (by kernel_rfl) ?_
    refine o_gets rfl (g_call (first:=[]) (caps:=[]) rfl rfl (hown _ _ hS gF gS gP (hS.rowSl 0 rfl) (hS.rowSl 1 rfl) (hS.rowSl 2 rfl))) rfl ?_
    rintro _ w' ⟨k',rfl,hk',h2⟩
    replace hS:=hS.trans h2
    clear h2 hown
    replace hS:=hS.perm List.perm_append_comm
    obtain ⟨sh',fr',sl',sps',hand',vsh',vfr',vsl',vsp'⟩:=k'
    unfold kA at hS
    dsimp only [List.cons_append,List.nil_append] at hS
    obtain ⟨q1,d1,rfl⟩:=hS.rowSlice 5 rfl
    obtain ⟨q2,d2,rfl⟩:=hS.rowSlice 6 rfl
    obtain ⟨q3,d3,rfl⟩:=hS.rowSlice 7 rfl
    obtain ⟨q4,d4,rfl⟩:=hS.rowSlice 8 rfl
    refine ⟨(hS.sub (.cons _ (.cons _ (.cons _ (.cons _ (.cons_cons _ (List.nil_sublist _))))))),?_⟩
    refine a_one (i:=12) (by kernel_rfl) ?_
    refine o_gets0 (Φ:=fun _ w'=>St _ _ w' _) rfl (g_store hS tabOk (i:=3) rfl rfl rfl rfl rfl (Nat.le_of_ble_eq_true rfl) (List.all_eq_true.1 rfl)) ?_
    intro _ w' hS'
    simp only [List.set] at hS'
    clear hS;have hS:=hS';clear hS'
    refine ⟨(hS.sub (.cons _ (.cons _ (.cons _ (.cons _ (.cons_cons _ (List.nil_sublist _))))))),?_⟩
    (refine xA (nn 13) ?_;refine ⟨(hS.sub (.cons _ (.cons _ (.cons _ (.cons _ (.cons_cons _ (List.nil_sublist _))))))),?_⟩)
    refine a_done (by kernel_rfl) ?_
    exact q_varX _ (by exact zS) hk' (hS.sub (.cons _ (.cons _ (.cons _ (.cons_cons _ (.cons _ (.refl _)))))))
   ·refine o_gets rfl (g_bslice hS tabOk rfl rfl rfl rfl rfl rfl) rfl ?_
    rintro _ w' ⟨gP,rfl,hS'⟩
    clear hS;have hS:=hS';clear hS'
    refine ⟨(hS.sub (by repeat (first|exact List.Sublist.refl _|apply List.Sublist.cons))),?_⟩
    refine a_one (i:=3) (by kernel_rfl) ?_
    refine o_gets rfl (g_make hS tabOk (m:=nf) rfl rfl rfl rfl rfl (by omega) (by omega) rfl) rfl ?_
    rintro _ w' ⟨gF,rfl,hS'⟩
    clear hS;have hS:=hS';clear hS'
    refine ⟨(hS.sub (by repeat (first|exact List.Sublist.refl _|apply List.Sublist.cons))),?_⟩
    (refine xD (nn 10) ?_;refine ⟨(hS.sub (by repeat (first|exact List.Sublist.refl _|apply List.Sublist.cons))),?_⟩)
    replace hS:=St.reorder [0,2,1,3,4] hS (by decide) rfl
    refine a_one (i:=11) (by kernel_rfl) ?_
    refine o_gets rfl (g_call (first:=[]) (caps:=[]) rfl rfl (hown _ _ hS gF gS gP (hS.rowSl 0 rfl) (hS.rowSl 1 rfl) (hS.rowSl 2 rfl))) rfl ?_
    rintro _ w' ⟨k',rfl,hk',h2⟩
    replace hS:=hS.trans h2
    clear h2 hown
    replace hS:=hS.perm List.perm_append_comm
    obtain ⟨sh',fr',sl',sps',hand',vsh',vfr',vsl',vsp'⟩:=k'
    unfold kA at hS
    dsimp only [List.cons_append,List.nil_append] at hS
    obtain ⟨q1,d1,rfl⟩:=hS.rowSlice 5 rfl
    obtain ⟨q2,d2,rfl⟩:=hS.rowSlice 6 rfl
    obtain ⟨q3,d3,rfl⟩:=hS.rowSlice 7 rfl
    obtain ⟨q4,d4,rfl⟩:=hS.rowSlice 8 rfl
    refine ⟨(hS.sub (.cons _ (.cons _ (.cons _ (.cons _ (.cons_cons _ (List.nil_sublist _))))))),?_⟩
    refine a_one (i:=12) (by kernel_rfl) ?_
    refine o_gets0 (Φ:=fun _ w'=>St _ _ w' _) rfl (g_store hS tabOk (i:=3) rfl rfl rfl rfl rfl (Nat.le_of_ble_eq_true rfl) (List.all_eq_true.1 rfl)) ?_
    intro _ w' hS'
    simp only [List.set] at hS'
    clear hS;have hS:=hS';clear hS'
    refine ⟨(hS.sub (.cons _ (.cons _ (.cons _ (.cons _ (.cons_cons _ (List.nil_sublist _))))))),?_⟩
    (refine xA (nn 13) ?_;refine ⟨(hS.sub (.cons _ (.cons _ (.cons _ (.cons _ (.cons_cons _ (List.nil_sublist _))))))),?_⟩)
    refine a_done (by kernel_rfl) ?_
    exact q_varX _ (by exact zS) hk' (hS.sub (.cons _ (.cons _ (.cons _ (.cons_cons _ (.cons _ (.refl _)))))))
  ·refine o_gets rfl (g_bslice hS tabOk rfl rfl rfl rfl rfl rfl) rfl ?_
   rintro _ w' ⟨gP,rfl,hS'⟩
   clear hS;have hS:=hS';clear hS'
   refine ⟨(hS.sub (by repeat (first|exact List.Sublist.refl _|apply List.Sublist.cons))),?_⟩
   refine a_two (i:=3) (j:=5) (by kernel_rfl) ?_ ?_
   ·refine o_gets rfl (g_make hS tabOk (m:=nf) rfl rfl rfl rfl rfl (by omega) (by omega) rfl) rfl ?_
    rintro _ w' ⟨gF,rfl,hS'⟩
    clear hS;have hS:=hS';clear hS'
    refine ⟨(hS.sub (by repeat (first|exact List.Sublist.refl _|apply List.Sublist.cons))),?_⟩
    refine a_one (i:=5) (by kernel_rfl) ?_
    refine o_gets rfl (g_make hS tabOk (m:=ns) rfl rfl rfl rfl rfl (by omega) (by omega) rfl) rfl ?_
    rintro _ w' ⟨gS,rfl,hS'⟩
    clear hS;have hS:=hS';clear hS'
    refine ⟨(hS.sub (by repeat (first|exact List.Sublist.refl _|apply List.Sublist.cons))),?_⟩
    (refine xD (nn 10) ?_;refine ⟨(hS.sub (by repeat (first|exact List.Sublist.refl _|apply List.Sublist.cons))),?_⟩)
    replace hS:=St.reorder [1,0,2,3,4] hS (by decide) rfl
    refine a_one (i:=11) (by kernel_rfl) ?_
    refine o_gets rfl (g_call (first:=[]) (caps:=[]) rfl rfl (hown _ _ hS gF gS gP (hS.rowSl 0 rfl) (hS.rowSl 1 rfl) (hS.rowSl 2 rfl))) rfl ?_
    rintro _ w' ⟨k',rfl,hk',h2⟩
    replace hS:=hS.trans h2
    clear h2 hown
    replace hS:=hS.perm List.perm_append_comm
    obtain ⟨sh',fr',sl',sps',hand',vsh',vfr',vsl',vsp'⟩:=k'
    unfold kA at hS
    dsimp only [List.cons_append,List.nil_append] at hS
    obtain ⟨q1,d1,rfl⟩:=hS.rowSlice 5 rfl
    obtain ⟨q2,d2,rfl⟩:=hS.rowSlice 6 rfl
    obtain ⟨q3,d3,rfl⟩:=hS.rowSlice 7 rfl
    obtain ⟨q4,d4,rfl⟩:=hS.rowSlice 8 rfl
    refine ⟨(hS.sub (.cons _ (.cons _ (.cons _ (.cons _ (.cons_cons _ (List.nil_sublist _))))))),?_⟩
    refine a_one (i:=12) (by kernel_rfl) ?_
    refine o_gets0 (Φ:=fun _ w'=>St _ _ w' _) rfl (g_store hS tabOk (i:=3) rfl rfl rfl rfl rfl (Nat.le_of_ble_eq_true rfl) (List.all_eq_true.1 rfl)) ?_
    intro _ w' hS'
    simp only [List.set] at hS'
    clear hS;have hS:=hS';clear hS'
    refine ⟨(hS.sub (.cons _ (.cons _ (.cons _ (.cons _ (.cons_cons _ (List.nil_sublist _))))))),?_⟩
    (refine xA (nn 13) ?_;refine ⟨(hS.sub (.cons _ (.cons _ (.cons _ (.cons _ (.cons_cons _ (List.nil_sublist _))))))),?_⟩)
    refine a_done (by kernel_rfl) ?_
    exact q_varX _ (by exact zS) hk' (hS.sub (.cons _ (.cons _ (.cons _ (.cons_cons _ (.cons _ (.refl _)))))))
   ·refine o_gets rfl (g_make hS tabOk (m:=ns) rfl rfl rfl rfl rfl (by omega) (by omega) rfl) rfl ?_
    rintro _ w' ⟨gS,rfl,hS'⟩
    clear hS;have hS:=hS';clear hS'
    refine ⟨(hS.sub (by repeat (first|exact List.Sublist.refl _|apply List.Sublist.cons))),?_⟩
    refine a_one (i:=3) (by kernel_rfl) ?_
    refine o_gets rfl (g_make hS tabOk (m:=nf) rfl rfl rfl rfl rfl (by omega) (by omega) rfl) rfl ?_
    rintro _ w' ⟨gF,rfl,hS'⟩
    clear hS;have hS:=hS';clear hS'
    refine ⟨(hS.sub (by repeat (first|exact List.Sublist.refl _|apply List.Sublist.cons))),?_⟩
    (refine xD (nn 10) ?_;refine ⟨(hS.sub (by repeat (first|exact List.Sublist.refl _|apply List.Sublist.cons))),?_⟩)
    replace hS:=St.reorder [0,1,2,3,4] hS (by decide) rfl
    refine a_one (i:=11) (by kernel_rfl) ?_
    refine o_gets rfl (g_call (first:=[]) (caps:=[]) rfl rfl (hown _ _ hS gF gS gP (hS.rowSl 0 rfl) (hS.rowSl 1 rfl) (hS.rowSl 2 rfl))) rfl ?_
    rintro _ w' ⟨k',rfl,hk',h2⟩
    replace hS:=hS.trans h2
    clear h2 hown
    replace hS:=hS.perm List.perm_append_comm
    obtain ⟨sh',fr',sl',sps',hand',vsh',vfr',vsl',vsp'⟩:=k'
    unfold kA at hS
    dsimp only [List.cons_append,List.nil_append] at hS
    obtain ⟨q1,d1,rfl⟩:=hS.rowSlice 5 rfl
    obtain ⟨q2,d2,rfl⟩:=hS.rowSlice 6 rfl
    obtain ⟨q3,d3,rfl⟩:=hS.rowSlice 7 rfl
    obtain ⟨q4,d4,rfl⟩:=hS.rowSlice 8 rfl
    refine ⟨(hS.sub (.cons _ (.cons _ (.cons _ (.cons _ (.cons_cons _ (List.nil_sublist _))))))),?_⟩
    refine a_one (i:=12) (by kernel_rfl) ?_
    refine o_gets0 (Φ:=fun _ w'=>St _ _ w' _) rfl (g_store hS tabOk (i:=3) rfl rfl rfl rfl rfl (Nat.le_of_ble_eq_true rfl) (List.all_eq_true.1 rfl)) ?_
    intro _ w' hS'
    simp only [List.set] at hS'
    clear hS;have hS:=hS';clear hS'
    refine ⟨(hS.sub (.cons _ (.cons _ (.cons _ (.cons _ (.cons_cons _ (List.nil_sublist _))))))),?_⟩
    (refine xA (nn 13) ?_;refine ⟨(hS.sub (.cons _ (.cons _ (.cons _ (.cons _ (.cons_cons _ (List.nil_sublist _))))))),?_⟩)
    refine a_done (by kernel_rfl) ?_
    exact q_varX _ (by exact zS) hk' (hS.sub (.cons _ (.cons _ (.cons _ (.cons_cons _ (.cons _ (.refl _)))))))
 clear hS
 intro k' w1 hk' hS
 unfold kvC at hS
 repeat' ((refine yO ?_))
 refine yR2 ?_
 exact ⟨k',rfl,by rw [Int.toNat_natCast,Int.toNat_natCast];exact hk',came_kA hS.drop⟩
end Go.Proofs.Ytejnpppejalhfac
