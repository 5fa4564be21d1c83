/- Texts that the proof stands on, one behind the other: Ke28, Ke29, Ke30, Ke31, Ke32, Ke41, Ke42, Ke43, Ke55, Ke44. -/
import Derived.Test.YtejnpppejalhfabGreatPKernelReaches13
set_option linter.unusedVariables false
set_option linter.unusedSimpArgs false
namespace Go.Proofs.YtejnpppejalhfabGreat
set_option maxRecDepth 100000
set_option maxHeartbeats 8000000
open Go.RowKit Go.Sort
def wkR (g:Nat) (k:KV) (sp:Nat) (vh:Value) (held:List Nat):List Asr:=.blk g (wkB k sp vh)::hdA vh held::slA k::a08 k::k.sp.map a0j
theorem wk_perm {g:Nat} {k:KV} {sp:Nat} {vh:Value} {held:List Nat}:(wkS g k sp vh held).Perm (frA k::wkR g k sp vh held):=xm9 (l₁:=[_,_])
theorem KRo.ownG {F:Nat->Prop} {w0 w:World} {Θ:List Asr} {k:KV} {Γ:List Asr} (hS:St F w0 w (Θ++(a0U k++Γ))):KRo (fps Θ) w k:=by
 have hmem:∀ {e sz:Nat} {v:Value} {rows:List (List Value)},Asr.row e sz v rows ∈ a0U k->Sl (fps Θ) w sz v rows:=fun h=>by
  obtain ⟨j,hj⟩:=xd9.1 (xe5 Γ h);exact hS.ownSl j hj
 refine ⟨⟨hmem xc5,fun p hp=>?_⟩,fun p hp=>?_⟩
 ·exact hmem (e:=96) (xc6 _ (xe5 _ (xm7.2 ⟨p,hp,rfl⟩)))
 ·exact hmem (e:=81) (xc6 _ (xe6 _ (xm7.2 ⟨p,hp,rfl⟩)))
theorem a2U {K:Ker} {sp:Nat} {a:Int} {n:Nat}:(a1y K sp a n).length=n:=by unfold a1y;rw [xj1,List.length_range]
def ldL (K:Ker) (sp a n i:Nat):List UInt8:=(a1y K sp (a:Nat) n).take i++List.replicate (n - i) 0
theorem b49 {K:Ker} {sp a n i:Nat} (h:i<=n):(ldL K sp a n i).length=n:=by unfold ldL;rw [xe9,xa1,xi2,a2U];omega
theorem b2Y {K:Ker} {sp a n i:Nat} (h:i < n) {y:UInt8} (hy:(a0x K sp (((a:Nat) + (i:Nat):Int) / 16)).getD (((a:Nat) + (i:Nat):Int) % 16).toNat 0=y):(ldL K sp a n i).set i y=ldL K sp a n (i + 1):=by
 unfold ldL;have hl:((a1y K sp (a:Nat) n).take i).length=i:=by rw [xa1,a2U];omega
 have hg:(a1y K sp (a:Nat) n)[i]?=some y:=by
  unfold a1y;rw [xh8,List.getElem?_range h];exact congrArg some hy
 have h2:n - i=(n - (i + 1)) + 1:=by omega
 rw [h2,List.replicate_succ,xf6 _ _ (by omega),hl,xf8,xf9,xn9,hg];simp
theorem b4v {F:Nat->Prop} {w0 w:World} {Γ:List Asr} {g0:Nat} {k:KV} {sp:Nat} {vh:Value} {held:List Nat} {p:Option Addr} {m c gc a n:Nat} (hS0:St F w0 w ((.row 5 1 (.slice p m c) (bR (ldL k.K sp a n 0))::.blk gc [.slice p m c]::wkS g0 k sp vh held)++Γ)) (hR0:KRo (fps (.row 5 1 (.slice p m c) (bR (ldL k.K sp a n 0))::.blk gc [.slice p m c]::wkS g0 k sp vh held)) w k) (hr:Right k.K) {x:Sp} (hx:k.sp[sp]?=some x) (ha:a<=4096) (hn:n<=8) (hp:∀ i:Nat,i < n->b7C k.K sp false (((a:Nat) + (i:Nat):Int) / 16)):Fn Tryz.prog 74 [.pointer (some ⟨g0,0,none⟩),.int .i64 (a:Nat),.int .i64 (n:Nat),.func (.func 86) #[] #[.pointer (some ⟨gc,0,none⟩)]] w (fun v w'=>v=.tuple #[]/\St (fps (.row 5 1 (.slice p m c) (bR (ldL k.K sp a n 0))::.blk gc [.slice p m c]::wkS g0 k sp vh held)) w w' (.row 5 1 (.slice p m c) (bR (ldL k.K sp a n n))::.blk gc [.slice p m c]::wkS g0 k sp vh held)):=by
 have hS:=St.startM hS0;have hR:=hR0;generalize fps _=G at hS hR |-;clear hR0 hS0;obtain ⟨bf,of_,cf,hvfr⟩:=(WkV.of (Γ:=[_,_]) (hS.perm (xm6 (l₁:=[_,_]))) hR).ker.fr.form1 (xe1 (show 0 < k.fr.length by have:=hr.cnt.1;have h9:k.K.frames.length=k.fr.length:=rfl;omega));obtain ⟨sh,fr,sl,sps,hand,vsh,vfr,vsl,vsp⟩:=k;dsimp only at hvfr hx;subst hvfr;have hxm:=xd0 hx;obtain ⟨hsc,hel⟩:=z7 hr x.s (xd0 (a1F hx));have hV:∀ w1 A B,St G w w1 (A::B::wkS g0 (⟨sh,fr,sl,sps,hand,vsh,.slice (some ⟨bf,of_,none⟩) fr.length cf,vsl,vsp⟩:KV) sp vh held)->WkV w1 g0 (⟨sh,fr,sl,sps,hand,vsh,.slice (some ⟨bf,of_,none⟩) fr.length cf,vsl,vsp⟩:KV) sp vh held:=fun w1 A B h=>WkV.of (Γ:=[A,B]) (h.perm (xm6 (l₁:=[A,B]))) hR;have hent:=fun w1 A B (h:St G w w1 (A::B::wkS g0 (⟨sh,fr,sl,sps,hand,vsh,.slice (some ⟨bf,of_,none⟩) fr.length cf,vsl,vsp⟩:KV) sp vh held)) (page:Int) (hpb:-1000000<=page/\page<=1000000)=>a35 (hV w1 A B h) hx page hsc.rises (a6a hsc hpb);refine yEn Tryz.func74 Tryz.ntmps74 (by kernel_rfl) (by kernel_rfl) rfl rfl ?_
 repeat' (first|(with_reducible apply a8 a7);rfl;rfl;rfl|refine yDn (by with_reducible constructor) ?_)
 refine l7 (F:=G) (w0:=w) (X:=Nat) (fun i=>[(12,.int .i64 (i:Nat))]) [0,1,3,11] rfl (fun i=>[.row 5 1 (.slice p m c) (bR (ldL (⟨sh,fr,sl,sps,hand,vsh,.slice (some ⟨bf,of_,none⟩) fr.length cf,vsl,vsp⟩:KV).K sp a n i))]) (fun i=>i<=n) (fun i=>n - i) 0 (by exact Fr.sub_of rfl) (xg6 _) hS ?_;clear hS;intro i w1 hi hS;dsimp only [List.cons_append,List.nil_append] at hS |-;by_cases hlt:i < n
 ·have hd:decide ((i:Int) < (n:Int))=true:=xj4 (by omega);obtain ⟨f,hf,-⟩:=hp i hlt;obtain ⟨pt,is,hEV,hcase⟩:=a8v (page:=((a:Nat) + (i:Nat):Int) / 16) hsc.rises ((hV _ _ _ hS).ker.spv x hxm).en;have hee:j6 (⟨sh,fr,sl,sps,hand,vsh,.slice (some ⟨bf,of_,none⟩) fr.length cf,vsl,vsp⟩:KV).K sp=x.s.entries:=by unfold j6;rw [a01 (a1F hx)]
  rw [hee] at hf;rcases hcase with ⟨-,-,he⟩|⟨rfl,e,b,off,c',j,he,hve,hei,rfl⟩
  ·rw [he] at hf;cases hf
  rw [he] at hf
  cases hf
  have hen:=hent _ _ _ hS (((a:Nat) + (i:Nat):Int) / 16) (by omega);rw [hEV] at hen
  repeat' (first|(with_reducible apply a8 a7);rfl;rfl;rfl|(with_reducible apply j0);rfl;rfl;omega;omega;rfl|refine yDn (by with_reducible constructor) ?_|(with_reducible apply d9);rfl;assumption|(with_reducible apply a8Y);rfl;rfl;omega;omega;omega;rfl|(with_reducible apply d6 hS);rfl;rfl;rfl;refine ⟨_,hen,?_⟩;clear hS;intro w' hS)
  obtain ⟨hfl,-,hdl⟩:=a2N hr (by rw [hee];exact he);replace hfl:f < fr.length:=hfl;have hfl':=hfl;have hEn:∀ wd A B,St G w wd (A::B::wkS g0 (⟨sh,fr,sl,sps,hand,vsh,.slice (some ⟨bf,of_,none⟩) fr.length cf,vsl,vsp⟩:KV) sp vh held)->Sl nF wd 3 (.slice (some ⟨b,off,none⟩) x.s.entries.length c') (x.s.entries.map enC):=fun wd A B h=>by
   rw [<- hve];exact ((hV _ _ _ h).ker.spv x hxm).en
  have hFr:∀ wd A B,St G w wd (A::B::wkS g0 (⟨sh,fr,sl,sps,hand,vsh,.slice (some ⟨bf,of_,none⟩) fr.length cf,vsl,vsp⟩:KV) sp vh held)->wd.cell? ⟨g0,1,none⟩=some (.slice (some ⟨bf,of_,none⟩) fr.length cf):=fun wd A B h=>by
   exact (St.start wd).bs (hV _ _ _ h).c1
  have hrowE:=c9 (f:=enC) hei;unfold enC at hrowE;replace hdl:(k9 fr f).data.length=16:=hdl;obtain ⟨y,hy⟩:=j3 (l:=(k9 fr f).data) (i:=(a + i) % 16) (by omega);have hcall:=fun w1 Γ1 (h:St G w w1 ([.row 5 1 (.slice p m c) (bR (ldL (⟨sh,fr,sl,sps,hand,vsh,.slice (some ⟨bf,of_,none⟩) fr.length cf,vsl,vsp⟩:KV).K sp a n i)),.blk gc [.slice p m c],frA (⟨sh,fr,sl,sps,hand,vsh,.slice (some ⟨bf,of_,none⟩) fr.length cf,vsl,vsp⟩:KV)]++Γ1))=>b24 h hfl hy (by rw [b49 hi];exact hlt);unfold a11 at hcall;dsimp only at hcall
  (focus ((with_reducible apply a0b _ _ _ 16 (by kernel_rfl) (by kernel_rfl) hS);(simp only [xl4,xl5,xl8,xl9]);(repeat' (first|(first|(with_reducible apply b1c);rfl;rfl;omega;omega;rfl|(with_reducible apply i9 a7);rfl;rfl|(with_reducible apply i7);rfl;(intro wd hd;replace hd:St _ _ wd _:=hd;(apply Ld.sl a7;rfl;exact hd.blkC 2 rfl rfl));rfl|(with_reducible apply x7 a7);rfl;rfl;rfl;rfl;omega;rfl)|(with_reducible apply i7);rfl;(intro wd hd;replace hd:St _ _ wd _:=hd;(apply Ld.sc a7;rfl;exact (hEn _ _ _ hd).cel hrowE rfl));rfl|(with_reducible apply b7e);rfl;rfl;omega;omega;rfl));all_goals ((with_reducible apply j7);intro w' hS';clear hS;have hS:=hS';clear hS')))
  have hS2:=hS.perm ((wk_perm.cons _).cons _);refine a4v (first:=[]) (caps:=[.pointer (some ⟨gc,0,none⟩)]) rfl rfl (hcall _ _ hS2) rfl ?_;rintro _ w3 ⟨rfl,h3⟩;replace hS:=(St.transM hS2 h3).perm ((wk_perm.symm.cons _).cons _);have hpk:a0x (⟨sh,fr,sl,sps,hand,vsh,.slice (some ⟨bf,of_,none⟩) fr.length cf,vsl,vsp⟩:KV).K sp (((a:Nat) + (i:Nat):Int) / 16)=(k9 fr f).data:=by
   unfold a0x;rw [hee,he];show a0g _ _=_;unfold a0g;rw [xf0 rfl];rfl
  rw [b2Y hlt (by rw [hpk,List.getD_eq_getElem?_getD];exact congrArg (·.getD 0) hy)] at hS
  repeat' (first|(with_reducible apply a8 a7);rfl;rfl;rfl|(with_reducible apply j0);rfl;rfl;omega;omega;rfl|refine yDn (by with_reducible constructor) ?_)
  exact f7 (i + 1) (by exact Fr.sub_of rfl) (by omega) hS (by omega)
 ·have hd:decide ((i:Int) < (n:Int))=false:=xj2 (by omega);obtain rfl:i=n:=by omega
  repeat' (first|(with_reducible apply a8 a7);rfl;rfl;rfl|refine yDn (by with_reducible constructor) ?_|(with_reducible apply f6);rfl;assumption)
  (refine a56 rfl ?_)
  exact ⟨rfl,hS⟩
theorem perm6 {α:Type} {a b c d e f:α} {W R:List α}:(a::b::c::d::e::f::(W++R)).Perm ((b::a::W)++(R++[c,d,e,f])):=by
 refine (List.Perm.swap _ _ _).trans (List.Perm.cons _ (List.Perm.cons _ ?_));refine (xm6 (l₁:=[c,d,e,f])).trans ?_;exact List.Perm.of_eq (xg2 W R _)
section
variable {P:Program} {n:Nat} {ds:List Deferred} {E:Fr} {w:World} {Q:Exit->Act->World->Prop} {ops:Array Oper} {S:World->Prop} {fuel:Nat} {li:Array Bool} {d:Nat} {op:Op} {ty:TypeId} {pos:String} {after:Array Edge} {F:Nat->Prop} {w0:World} {Γ:List Asr} {T:Tab}
theorem b44 (k i:Nat) {t u e sz2:Nat} {z2:Value} {x:Operand} {v:Value} {l:List UInt8} (hi:ops[i]?=some ⟨some d,.convert t u x,ty,pos,after,none⟩) (hs:Region.noSelect ops=true) (hf:Region.free .any ops li i=true) (hr:(Region.ready .any ops li).contains i=true)
  (hQ:∀ c (a:Act) w,Q (.panic c) (a.put (some d) (.string ⟨l.toArray⟩)) w->Q (.panic c) a w) (hS:S w) (hT:TabOk P T) (ht:T.get t=some (.sl e 1 1 false [.int .u8 0])) (he:T.get e=some (.sc (.int .u8) 1 (.int .u8 0))) (hu2:T.get u=some (.sc .string sz2 z2)) (hx:E.ev x=some v)
  (hl:∀ w,S w->St F w0 w Γ) (hg:Γ[k]?=some (.row e 1 v (bR l))) (hne:0 < l.length) (hd:Nat.blt d n=true) (kk:WA P ops Q S fuel (li.setIfInBounds i true) n ds ((d,.string ⟨l.toArray⟩)::E) w):WA P ops Q S (fuel + 1) li n ds E w:=fun a ha=>
 wpAnyH_take hi hs hf hr hQ (xd6 ⟨rfl,fun w hw=>by
  have hS:=hl w hw;obtain ⟨ji,zv,hu,hinfo,_⟩:=hT.sl ht;obtain ⟨_,hus,_⟩:=hT.sc hu2;obtain ⟨_,hue,_⟩:=hT.sc he;rcases hS.rowForm k hg with ⟨rfl,h0⟩|⟨g,cap,rfl,_⟩
  ·have:=congrArg List.length h0;rw [a2H,xa2] at this;omega
  ·have hrun:=run_convert_bytes_back (P:=P) w t u e ⟨g,0,none⟩ cap l hu hue hus (fun j hj=>by
    rw [a3I];have:=hS.rowC k hg (k:=j) (j:=0) (r:=[.int .u8 l[j].toNat]) (u:=.int .u8 l[j].toNat) (by unfold bR;simp [hj]) rfl
    simpa using this)
   rw [a2H] at hx;simp only [execOp,ha.ev hx,Sem.run_bind,hrun,Result.andThen_ok,Sem.run_pure]⟩) hS (kk _ (ha.put d _ hd))
end
def okL (K:Ker) (space addr size way:Int):Prop:=okR K space addr size way/\way≠1
instance (K:Ker) (space addr size way:Int):Decidable (okL K space addr size way):=by unfold okL;infer_instance
def a4J (K:Ker) (space size way:Int):Int:=if x5 K space size way=0/\way=1 then 10 else x5 K space size way
def a45 (K:Ker) (space addr size way:Int):Int×Int:=if way=1 then (0,0) else a19 K space addr size way
def a4W (K:Ker) (space addr size way:Int):Ker:=if okL K space addr size way then a0H K space.toNat addr size false else b0R
def a40 (K:Ker) (space addr size way:Int):List UInt8:=if okL K space addr size way then a1y (a0H K space.toNat addr size false) space.toNat addr size.toNat else []
theorem b1x {K:Ker} {space addr size way:Int} (he:x5 K space size way≠0):a40 K space addr size way=[]/\a45 K space addr size way=(0,0)/\a4J K space size way=x5 K space size way/\a4W K space addr size way=b0R:=by
 unfold a40 a45 a4J a4W;have hn:¬okL K space addr size way:=fun h=>he h.1.1;rw [xf1 hn,xf1 hn,xf1 (fun h:x5 K space size way=0/\way=1=>he h.1)];unfold a19;rw [xf1 he,ite_self];exact ⟨rfl,rfl,rfl,rfl⟩
theorem a57 {K:Ker} {space addr size way:Int} (he:x5 K space size way=0) (hw:way=1):a40 K space addr size way=[]/\a45 K space addr size way=(0,0)/\a4J K space size way=10/\a4W K space addr size way=b0R:=by
 unfold a40 a45 a4J a4W;have hn:¬okL K space addr size way:=fun h=>h.2 hw;rw [xf1 hn,xf1 hn,xf0 hw,xf0 (⟨he,hw⟩:x5 K space size way=0/\way=1)];exact ⟨rfl,rfl,rfl,rfl⟩
theorem b0W {K:Ker} {space addr size way:Int} (he:x5 K space size way=0) (hf:(q8 (k7 K space.toNat) addr size way).1≠0) (hw:way≠1):a40 K space addr size way=[]/\a45 K space addr size way=q8 (k7 K space.toNat) addr size way/\a4J K space size way=0/\a4W K space addr size way=b0R:=by
 unfold a40 a45 a4J a4W;have hn:¬okL K space addr size way:=fun h=>hf h.1.2;rw [xf1 hn,xf1 hn,xf1 hw,xf1 (fun h:x5 K space size way=0/\way=1=>hw h.2)];unfold a19;rw [xf0 he,he];exact ⟨rfl,rfl,rfl,rfl⟩
theorem b1t {K:Ker} {space addr size way:Int} (h:okL K space addr size way):a40 K space addr size way=a1y (a0H K space.toNat addr size false) space.toNat addr size.toNat/\a45 K space addr size way=(0,0)/\a4J K space size way=0/\a4W K space addr size way=a0H K space.toNat addr size false:=by
 unfold a40 a45 a4J a4W;rw [xf0 h,xf0 h,xf1 h.2,xf1 (fun h2:x5 K space size way=0/\way=1=>h.2 h2.2),a5h h.1,h.1.1];exact ⟨rfl,rfl,rfl,rfl⟩
theorem b5e {w:World} {k:KV} (hK:KerV w k) {space addr size way:Int} (hb0:-9223372036854775808<=addr) (hb1:addr<=9223372036854775807):Fn Tryz.prog 35 [.agg (kvC k).toArray,.int .i64 space,.int .i64 addr,.int .i64 size,.int .i64 way] w (fun v w'=>∃ k',v=.tuple #[.agg (kvC k').toArray,.string ⟨(a40 k.K space addr size way).toArray⟩,a2b (a45 k.K space addr size way),.int .i64 (a4J k.K space size way)]/\k'.K=a4W k.K space addr size way/\Came w w' k'):=by
 have hre:=fun w1 (h:KerV w1 k)=>a9S h (space:=space) (size:=size) (way:=way) hb0 hb1;have hK0:=hK;obtain ⟨sh,fr,sl,sps,hand,vsh,vfr,vsl,vsp⟩:=k;obtain ⟨k1,k2,k3,k4,k5⟩:=hK;dsimp only at k1 k2 k3 k4 k5;obtain ⟨p1,c1,rfl⟩:=k1.sl.len;obtain ⟨p2,c2,rfl⟩:=k2.len;obtain ⟨p3,c3,rfl⟩:=k3.len;obtain ⟨p4,c4,rfl⟩:=k4.len;generalize hKK:KV.K ⟨sh,fr,sl,sps,hand,.slice p1 sh.length c1,.slice p2 fr.length c2,.slice p3 sl.length c3,.slice p4 sps.length c4⟩=K at hre |-;have hpre:∀ w1 Γ1,St nF w w1 Γ1->KerV w1 ⟨sh,fr,sl,sps,hand,.slice p1 sh.length c1,.slice p2 fr.length c2,.slice p3 sl.length c3,.slice p4 sps.length c4⟩:=fun w1 Γ1 h=>hK0.now h;unfold a2b at hre |-;unfold kvC at hre;dsimp only at hre;unfold kvC;dsimp only;have hE0:∀ e:Int,decide (e=0)=true\/decide (e=0)=false:=fun e=>by cases decide (e=0) <;> simp
 refine yEn Tryz.func35 Tryz.ntmps35 (by kernel_rfl) (by kernel_rfl) rfl rfl ?_;have hS:=St.start w
 repeat' (first|(with_reducible apply a8 a7);rfl;rfl;rfl|(with_reducible apply a9);rfl;(apply Ld.st a7;rfl;exact hS.blkR 2 rfl;rfl);rfl|refine yDn (by with_reducible constructor) ?_|(with_reducible apply l6 hS);rfl;rfl;rfl;clear hS;intro g w' hS|(with_reducible apply d7 hS a7);rfl;rfl;rfl;clear hS;intro g w' hS)
 refine a4v rfl rfl (hre _ (hpre _ _ hS)) rfl ?_;rintro v w2 (⟨he,rfl,hS'⟩|⟨he,hf,rfl,hS'⟩|⟨gw,sp,k',vh,held,he,hf,hsp,rfl,hk',hS'⟩)
 ·replace hS:=hS.transA hS';simp only [v7] at hS;have hd:decide (x5 K space size way=0)=false:=xj2 he
  repeat' (first|(with_reducible apply a8 a7);rfl;rfl;rfl|refine yDn (by with_reducible constructor) ?_|(with_reducible apply s9);(iterate 4 rfl);assumption;rfl|(with_reducible apply f5);rfl;assumption;rfl;rfl|(with_reducible apply d9);rfl;rfl|(with_reducible apply f6);rfl;rfl|(with_reducible apply d7 hS a7);rfl;rfl;rfl;clear hS;intro g w' hS|(with_reducible apply b8 hS a7 (i:=0));(iterate 8 rfl);exact (rfl:_=[_,_]);clear hS;intro w' hS;simp only [List.set] at hS|(with_reducible apply a2G (by kernel_rfl));rfl;rfl;rfl)
  rename Nat=>g14
  refine a2L (fun w'=>St nF w w' [.blk g14 [.int .i64 0,.int .i64 0]]) 7 rfl hS (by kernel_rfl) ?_;intro w1 hS';clear hS;have hS:=hS';clear hS';have hH:St nF w w1 [.blk g14 [.int .i64 0,.int .i64 0]]:=hS.sub (.cons_cons _ (xj3 _))
  ((with_reducible apply a0O (nn 0) a7);rfl;kernel_rfl;kernel_rfl;kernel_rfl;exact (fun _ _ _ _ h=>h);exact hH;rfl;rfl;exact (rfl:_=some [_,_,_,_,_]);rfl)
  ((with_reducible apply r8 (nn 1));rfl;kernel_rfl;exact (fun _ _ _ h=>h);exact hH;rfl;(intro wd hd;replace hd:St _ _ wd _:=hd;(apply Ld.st a7;rfl;exact hd.blkR 0 rfl;rfl));rfl)
  ((with_reducible apply l5 (nn 2) a7);rfl;kernel_rfl;exact (fun _ _ _ h=>h);exact hH;rfl;rfl)
  refine o5 (i:=3) (by kernel_rfl) ?_;refine n9 (Φ:=fun _ w'=>St _ _ w' _) rfl (l8 hS a7 (i:=2) rfl rfl rfl rfl rfl (xg3 rfl) (xc7.1 rfl)) ?_;intro _ w' hS';simp only [List.set] at hS';clear hS;have hS:=hS';clear hS';refine ⟨(hS.sub (.cons_cons _ (xj3 _))),?_⟩;have hH:St nF w w' [.blk g14 [.int .i64 0,.int .i64 0]]:=hS.sub (.cons_cons _ (xj3 _))
  ((with_reducible apply l5 (nn 4) a7);rfl;kernel_rfl;exact (fun _ _ _ h=>h);exact hH;rfl;rfl)
  refine o5 (i:=5) (by kernel_rfl) ?_;refine n9 (Φ:=fun _ w'=>St _ _ w' _) rfl (l8 hS a7 (i:=1) rfl rfl rfl rfl rfl (xg3 rfl) (xc7.1 rfl)) ?_;intro _ w' hS';simp only [List.set] at hS';clear hS;have hS:=hS';clear hS';refine ⟨(hS.sub (.cons_cons _ (xj3 _))),?_⟩;have hH:St nF w w' [.blk g14 [.int .i64 0,.int .i64 0]]:=hS.sub (.cons_cons _ (xj3 _))
  ((with_reducible apply l5 (nn 6) a7);rfl;kernel_rfl;exact (fun _ _ _ h=>h);exact hH;rfl;rfl)
  refine z8 (by kernel_rfl) ?_
  repeat' ((refine yDn (by with_reducible constructor) ?_))
  (apply a5m)
  (repeat (first|exact ResL.nil|apply ResL.tmp;rfl|apply ResL.cell;rfl;(apply Ld.st a7;rfl;(first|exact hS.blkR 1 rfl|exact hS.blkR 2 rfl);rfl)))
  obtain ⟨v1,v2,v3,v4⟩:=b1x he (addr:=addr);refine ⟨kv0,?_,?_,xd6 ⟨rfl,hS.sub (xj3 _)⟩⟩
  ·rw [v1,v2,v3];rfl
  ·rw [v4];rfl
 ·replace hS:=hS.transA hS';simp only [v7] at hS;by_cases hw:way=1
  ·have hd:decide (way=1)=true:=xj4 hw
   repeat' (first|(with_reducible apply a8 a7);rfl;rfl;rfl|(with_reducible apply l4 a7);rfl;rfl;exact (rfl:_=some [_,_]);rfl|refine yDn (by with_reducible constructor) ?_|(with_reducible apply j5);(iterate 4 rfl);rfl|(with_reducible apply e9);rfl;rfl;rfl;rfl|((with_reducible apply d9);rfl;first|rfl|assumption)|(with_reducible apply d7 hS a7);rfl;rfl;rfl;clear hS;intro g w' hS|(with_reducible apply b8 hS a7 (i:=0));(iterate 8 rfl);exact (rfl:_=[_,_]);clear hS;intro w' hS;simp only [List.set] at hS|(with_reducible apply a2G (by kernel_rfl));rfl;rfl;rfl)
   rename Nat=>g14
   refine a2L (fun w'=>St nF w w' [.blk g14 [.int .i64 0,.int .i64 0]]) 7 rfl hS (by kernel_rfl) ?_;intro w1 hS';clear hS;have hS:=hS';clear hS';have hH:St nF w w1 [.blk g14 [.int .i64 0,.int .i64 0]]:=hS.sub (.cons_cons _ (xj3 _))
   ((with_reducible apply a0O (nn 0) a7);rfl;kernel_rfl;kernel_rfl;kernel_rfl;exact (fun _ _ _ _ h=>h);exact hH;rfl;rfl;exact (rfl:_=some [_,_,_,_,_]);rfl)
   ((with_reducible apply r8 (nn 1));rfl;kernel_rfl;exact (fun _ _ _ h=>h);exact hH;rfl;(intro wd hd;replace hd:St _ _ wd _:=hd;(apply Ld.st a7;rfl;exact hd.blkR 0 rfl;rfl));rfl)
   ((with_reducible apply l5 (nn 2) a7);rfl;kernel_rfl;exact (fun _ _ _ h=>h);exact hH;rfl;rfl)
   refine o5 (i:=3) (by kernel_rfl) ?_;refine n9 (Φ:=fun _ w'=>St _ _ w' _) rfl (l8 hS a7 (i:=2) rfl rfl rfl rfl rfl (xg3 rfl) (xc7.1 rfl)) ?_;intro _ w' hS';simp only [List.set] at hS';clear hS;have hS:=hS';clear hS';refine ⟨(hS.sub (.cons_cons _ (xj3 _))),?_⟩;have hH:St nF w w' [.blk g14 [.int .i64 0,.int .i64 0]]:=hS.sub (.cons_cons _ (xj3 _))
   ((with_reducible apply l5 (nn 4) a7);rfl;kernel_rfl;exact (fun _ _ _ h=>h);exact hH;rfl;rfl)
   refine o5 (i:=5) (by kernel_rfl) ?_;refine n9 (Φ:=fun _ w'=>St _ _ w' _) rfl (l8 hS a7 (i:=1) rfl rfl rfl rfl rfl (xg3 rfl) (xc7.1 rfl)) ?_;intro _ w' hS';simp only [List.set] at hS';clear hS;have hS:=hS';clear hS';refine ⟨(hS.sub (.cons_cons _ (xj3 _))),?_⟩;have hH:St nF w w' [.blk g14 [.int .i64 0,.int .i64 0]]:=hS.sub (.cons_cons _ (xj3 _))
   ((with_reducible apply l5 (nn 6) a7);rfl;kernel_rfl;exact (fun _ _ _ h=>h);exact hH;rfl;rfl)
   refine z8 (by kernel_rfl) ?_
   repeat' ((refine yDn (by with_reducible constructor) ?_))
   (apply a5m)
   (repeat (first|exact ResL.nil|apply ResL.tmp;rfl|apply ResL.cell;rfl;(apply Ld.st a7;rfl;(first|exact hS.blkR 1 rfl|exact hS.blkR 2 rfl);rfl)))
   obtain ⟨v1,v2,v3,v4⟩:=a57 he hw (addr:=addr);refine ⟨kv0,?_,?_,xd6 ⟨rfl,hS.sub (xj3 _)⟩⟩
   ·rw [v1,v2,v3];rfl
   ·rw [v4];rfl
  ·have hd:decide (way=1)=false:=xj2 hw
   repeat' (first|(with_reducible apply a8 a7);rfl;rfl;rfl|refine yDn (by with_reducible constructor) ?_|(with_reducible apply j5);(iterate 4 rfl);rfl|(with_reducible apply e9);rfl;rfl;rfl;rfl|(with_reducible apply d9);rfl;rfl|(with_reducible apply f6);rfl;assumption|(with_reducible apply d7 hS a7);rfl;rfl;rfl;clear hS;intro g w' hS|(with_reducible apply b8 hS a7 (i:=0));(iterate 8 rfl);exact (rfl:_=[_,_]);clear hS;intro w' hS;simp only [List.set] at hS|(with_reducible apply a2G (by kernel_rfl));rfl;rfl;rfl)
   rename Nat=>g14
   refine a2L (fun w'=>St nF w w' [.blk g14 [.int .i64 (q8 (k7 K space.toNat) addr size way).1,.int .i64 (q8 (k7 K space.toNat) addr size way).2]]) 7 rfl hS (by kernel_rfl) ?_;intro w1 hS';clear hS;have hS:=hS';clear hS';have hH:St nF w w1 [.blk g14 [.int .i64 (q8 (k7 K space.toNat) addr size way).1,.int .i64 (q8 (k7 K space.toNat) addr size way).2]]:=hS.sub (.cons_cons _ (xj3 _))
   ((with_reducible apply a0O (nn 0) a7);rfl;kernel_rfl;kernel_rfl;kernel_rfl;exact (fun _ _ _ _ h=>h);exact hH;rfl;rfl;exact (rfl:_=some [_,_,_,_,_]);rfl)
   ((with_reducible apply r8 (nn 1));rfl;kernel_rfl;exact (fun _ _ _ h=>h);exact hH;rfl;(intro wd hd;replace hd:St _ _ wd _:=hd;(apply Ld.st a7;rfl;exact hd.blkR 0 rfl;rfl));rfl)
   ((with_reducible apply l5 (nn 2) a7);rfl;kernel_rfl;exact (fun _ _ _ h=>h);exact hH;rfl;rfl)
   refine o5 (i:=3) (by kernel_rfl) ?_;refine n9 (Φ:=fun _ w'=>St _ _ w' _) rfl (l8 hS a7 (i:=2) rfl rfl rfl rfl rfl (xg3 rfl) (xc7.1 rfl)) ?_;intro _ w' hS';simp only [List.set] at hS';clear hS;have hS:=hS';clear hS';refine ⟨(hS.sub (.cons_cons _ (xj3 _))),?_⟩;have hH:St nF w w' [.blk g14 [.int .i64 (q8 (k7 K space.toNat) addr size way).1,.int .i64 (q8 (k7 K space.toNat) addr size way).2]]:=hS.sub (.cons_cons _ (xj3 _))
   ((with_reducible apply l5 (nn 4) a7);rfl;kernel_rfl;exact (fun _ _ _ h=>h);exact hH;rfl;rfl)
   refine o5 (i:=5) (by kernel_rfl) ?_;refine n9 (Φ:=fun _ w'=>St _ _ w' _) rfl (l8 hS a7 (i:=1) rfl rfl rfl rfl rfl (xg3 rfl) (xc7.1 rfl)) ?_;intro _ w' hS';simp only [List.set] at hS';clear hS;have hS:=hS';clear hS';refine ⟨(hS.sub (.cons_cons _ (xj3 _))),?_⟩;have hH:St nF w w' [.blk g14 [.int .i64 (q8 (k7 K space.toNat) addr size way).1,.int .i64 (q8 (k7 K space.toNat) addr size way).2]]:=hS.sub (.cons_cons _ (xj3 _))
   ((with_reducible apply l5 (nn 6) a7);rfl;kernel_rfl;exact (fun _ _ _ h=>h);exact hH;rfl;rfl)
   refine z8 (by kernel_rfl) ?_
   repeat' ((refine yDn (by with_reducible constructor) ?_))
   (apply a5m)
   (repeat (first|exact ResL.nil|apply ResL.tmp;rfl|apply ResL.cell;rfl;(apply Ld.st a7;rfl;(first|exact hS.blkR 1 rfl|exact hS.blkR 2 rfl);rfl)))
   obtain ⟨v1,v2,v3,v4⟩:=b0W he hf hw;refine ⟨kv0,?_,?_,xd6 ⟨rfl,hS.sub (xj3 _)⟩⟩
   ·rw [v1,v2,v3];rfl
   ·rw [v4];rfl
 ·have hkv:KerV w2 k':=(WkV.own (Γ:=[]) (by rw [List.append_nil];exact hS')).ker;obtain ⟨hr0,hs1,hs8,-,ha1,ha2,hat⟩:=a6W he hsp (by rw [hsp] at hf;exact hf);replace hS:=hS.trans hS';clear hS' hre;replace hS:=hS.perm xm6;dsimp only [List.cons_append,List.nil_append] at hS;by_cases hw:way=1
  ·have hd:decide (way=1)=true:=xj4 hw
   repeat' (first|(with_reducible apply a8 a7);rfl;rfl;rfl|(with_reducible apply l4 a7);rfl;rfl;exact (rfl:_=some [_,_]);rfl|refine yDn (by with_reducible constructor) ?_|(with_reducible apply j5);(iterate 4 rfl);rfl|(with_reducible apply e9);rfl;rfl;rfl;rfl|((with_reducible apply d9);rfl;first|rfl|assumption)|(with_reducible apply d7 hS a7);rfl;rfl;rfl;clear hS;intro g w' hS|(with_reducible apply b8 hS a7 (i:=0));(iterate 8 rfl);exact (rfl:_=[_,_]);clear hS;intro w' hS;simp only [List.set] at hS|(with_reducible apply a2G (by kernel_rfl));rfl;rfl;rfl)
   rename Nat=>g14
   refine a2L (fun w'=>St nF w w' [.blk g14 [.int .i64 0,.int .i64 0]]) 7 rfl hS (by kernel_rfl) ?_;intro w1 hS';clear hS;have hS:=hS';clear hS';have hH:St nF w w1 [.blk g14 [.int .i64 0,.int .i64 0]]:=hS.sub (.cons_cons _ (xj3 _))
   ((with_reducible apply a0O (nn 0) a7);rfl;kernel_rfl;kernel_rfl;kernel_rfl;exact (fun _ _ _ _ h=>h);exact hH;rfl;rfl;exact (rfl:_=some [_,_,_,_,_]);rfl)
   ((with_reducible apply r8 (nn 1));rfl;kernel_rfl;exact (fun _ _ _ h=>h);exact hH;rfl;(intro wd hd;replace hd:St _ _ wd _:=hd;(apply Ld.st a7;rfl;exact hd.blkR 0 rfl;rfl));rfl)
   ((with_reducible apply l5 (nn 2) a7);rfl;kernel_rfl;exact (fun _ _ _ h=>h);exact hH;rfl;rfl)
   refine o5 (i:=3) (by kernel_rfl) ?_;refine n9 (Φ:=fun _ w'=>St _ _ w' _) rfl (l8 hS a7 (i:=2) rfl rfl rfl rfl rfl (xg3 rfl) (xc7.1 rfl)) ?_;intro _ w' hS';simp only [List.set] at hS';clear hS;have hS:=hS';clear hS';refine ⟨(hS.sub (.cons_cons _ (xj3 _))),?_⟩;have hH:St nF w w' [.blk g14 [.int .i64 0,.int .i64 0]]:=hS.sub (.cons_cons _ (xj3 _))
   ((with_reducible apply l5 (nn 4) a7);rfl;kernel_rfl;exact (fun _ _ _ h=>h);exact hH;rfl;rfl)
   refine o5 (i:=5) (by kernel_rfl) ?_;refine n9 (Φ:=fun _ w'=>St _ _ w' _) rfl (l8 hS a7 (i:=1) rfl rfl rfl rfl rfl (xg3 rfl) (xc7.1 rfl)) ?_;intro _ w' hS';simp only [List.set] at hS';clear hS;have hS:=hS';clear hS';refine ⟨(hS.sub (.cons_cons _ (xj3 _))),?_⟩;have hH:St nF w w' [.blk g14 [.int .i64 0,.int .i64 0]]:=hS.sub (.cons_cons _ (xj3 _))
   ((with_reducible apply l5 (nn 6) a7);rfl;kernel_rfl;exact (fun _ _ _ h=>h);exact hH;rfl;rfl)
   refine z8 (by kernel_rfl) ?_
   repeat' ((refine yDn (by with_reducible constructor) ?_))
   (apply a5m)
   (repeat (first|exact ResL.nil|apply ResL.tmp;rfl|apply ResL.cell;rfl;(apply Ld.st a7;rfl;(first|exact hS.blkR 1 rfl|exact hS.blkR 2 rfl);rfl)))
   obtain ⟨v1,v2,v3,v4⟩:=a57 he hw (addr:=addr);refine ⟨kv0,?_,?_,xd6 ⟨rfl,hS.sub (xj3 _)⟩⟩
   ·rw [v1,v2,v3];rfl
   ·rw [v4];rfl
  have hd:decide (way=1)=false:=xj2 hw;rw [hd] at hk';obtain ⟨hrt,hsm,hpres⟩:=a70 hr0 (sp:=sp) (by omega) hs1 hs8 hat false;obtain ⟨a,rfl⟩:∃ a:Nat,addr=(a:Nat):=⟨addr.toNat,by omega⟩;obtain ⟨n,rfl⟩:∃ n:Nat,size=(n:Nat):=⟨size.toNat,by omega⟩;rw [<- hk'] at hrt hpres hsm;obtain ⟨x,hx,-⟩:=a4h (k:=k') (sp:=sp) (page:=((a:Nat) + (0:Int)) / 16) ((hat 0 (by omega) (by omega)).same hsm.ar hsm.live)
  repeat' (first|(with_reducible apply a8 a7);rfl;rfl;rfl|refine yDn (by with_reducible constructor) ?_|(with_reducible apply j5);(iterate 4 rfl);rfl|(with_reducible apply e9);rfl;rfl;rfl;rfl|((with_reducible apply f6);rfl;first|rfl|assumption)|(with_reducible apply d7 hS a7);rfl;rfl;rfl;clear hS;intro g w' hS|(with_reducible apply b8 hS a7 (i:=0));(iterate 8 rfl);(first|exact (rfl:_=[_])|exact (rfl:_=[_,_]));clear hS;intro w' hS;simp only [List.set] at hS|(with_reducible apply a2G (by kernel_rfl));rfl;rfl;rfl|(with_reducible apply b0w hS a7 (m:=n));(iterate 5 rfl);omega;omega;rfl;rfl;intro gr w' hS';clear hS;have hS:=hS';clear hS')
  rename_i g15 _ _ _ _;have e0:List.replicate n [Value.int .u8 0]=bR (ldL k'.K sp a n 0):=by
   unfold ldL bR;rw [xl5,List.nil_append,xo0];rfl
  rw [e0] at hS;replace hS:=hS.perm perm6;have hea:=b4v hS (KRo.ownG hS) hrt hx (by omega) (by omega) (fun i hi=>hpres (i:Nat) (by omega) (by omega));refine a4v (first:=[]) (caps:=[]) rfl rfl hea rfl ?_;clear hea;rintro _ w3 ⟨rfl,h3⟩;replace hS:=(St.transM (Δ:=.row _ _ _ _::.blk _ _::wkS gw k' sp vh held) hS h3).perm perm6.symm;clear h3;have e1:ldL k'.K sp a n n=a1y k'.K sp (a:Nat) n:=by
   unfold ldL;rw [xf8,List.replicate_zero,List.append_nil,xa0 (by rw [a2U];omega)]
  rw [e1] at hS;have e2:(a1y k'.K sp (a:Nat) n).length=n:=a2U;generalize hD:a1y k'.K sp (a:Nat) n=D at hS e2;obtain ⟨sh',fr',sl',sps',hand',vsh',vfr',vsl',vsp'⟩:=k';obtain ⟨m1,m2,m3,m4,-⟩:=hkv;dsimp only at m1 m2 m3 m4;obtain ⟨q1,d1,rfl⟩:=m1.sl.len;obtain ⟨q2,d2,rfl⟩:=m2.len;obtain ⟨q3,d3,rfl⟩:=m3.len;obtain ⟨q4,d4,rfl⟩:=m4.len
  repeat' ((refine yDn (by with_reducible constructor) ?_))
  unfold wkS at hS;dsimp only [List.cons_append] at hS;have hlH:∀ w',St nF w w' [.blk g [.slice (some ⟨gr,0,none⟩) n n],.row 5 1 (.slice (some ⟨gr,0,none⟩) n n) (bR D),.blk g15 [.int .i64 0,.int .i64 0],.blk gw [.slice q1 sh'.length d1,.slice q2 fr'.length d2,.slice q3 sl'.length d3,.slice q4 sps'.length d4,.int .i64 hand',.int .i64 (sp:Nat),vh]]->St nF w w' [.blk g [.slice (some ⟨gr,0,none⟩) n n],.row 5 1 (.slice (some ⟨gr,0,none⟩) n n) (bR D),.blk g15 [.int .i64 0,.int .i64 0],.blk gw [.slice q1 sh'.length d1,.slice q2 fr'.length d2,.slice q3 sl'.length d3,.slice q4 sps'.length d4,.int .i64 hand',.int .i64 (sp:Nat),vh]]:=fun _ h=>h;refine a2L (fun w'=>St nF w w' [.blk g [.slice (some ⟨gr,0,none⟩) n n],.row 5 1 (.slice (some ⟨gr,0,none⟩) n n) (bR D),.blk g15 [.int .i64 0,.int .i64 0],.blk gw [.slice q1 sh'.length d1,.slice q2 fr'.length d2,.slice q3 sl'.length d3,.slice q4 sps'.length d4,.int .i64 hand',.int .i64 (sp:Nat),vh]]) 12 rfl hS (by kernel_rfl) ?_;intro w1 hS';clear hS;have hS:=hS';clear hS';have hH:=hlH _ (hS.sub (.cons_cons _ (.cons_cons _ (.cons_cons _ (.cons _ (.cons _ (.cons _ (.cons_cons _ (xj3 _)))))))))
  ((with_reducible apply l5 (nn 0) a7);rfl;kernel_rfl;exact (fun _ _ _ h=>h);exact hH;rfl;rfl)
  ((with_reducible apply l5 (nn 1) a7);rfl;kernel_rfl;exact (fun _ _ _ h=>h);exact hH;rfl;rfl)
  ((with_reducible apply l5 (nn 2) a7);rfl;kernel_rfl;exact (fun _ _ _ h=>h);exact hH;rfl;rfl)
  ((with_reducible apply a6d (nn 3));rfl;kernel_rfl;kernel_rfl;kernel_rfl;exact (fun _ _ _ h=>h);exact hH;rfl;(intro wd hd;replace hd:St _ _ wd _:=hd;(apply Ld.st a7;rfl;exact (hd.blkRk 3 0 5 rfl);rfl));rfl)
  ((with_reducible apply r8 (nn 4));rfl;kernel_rfl;exact (fun _ _ _ h=>h);exact hH;rfl;(intro wd hd;replace hd:St _ _ wd _:=hd;(apply Ld.sl a7;rfl;exact hd.blkC 0 rfl rfl));rfl)
  ((with_reducible apply b44 1 5);rfl;kernel_rfl;kernel_rfl;kernel_rfl;exact (fun _ _ _ h=>h);exact hH;exact a7;(iterate 4 rfl);exact hlH;rfl;omega;rfl)
  ((with_reducible apply r8 (nn 6));rfl;kernel_rfl;exact (fun _ _ _ h=>h);exact hH;rfl;(intro wd hd;replace hd:St _ _ wd _:=hd;(apply Ld.st a7;rfl;exact hd.blkR 2 rfl;rfl));rfl)
  ((with_reducible apply l5 (nn 7) a7);rfl;kernel_rfl;exact (fun _ _ _ h=>h);exact hH;rfl;rfl)
  refine o5 (i:=8) (by kernel_rfl) ?_;simp only [xl4,xl5,xl9];refine n9 (Φ:=fun _ w'=>St _ _ w' _) rfl (l8 hS a7 (i:=4) rfl rfl rfl rfl rfl (xg3 rfl) (xc7.1 rfl)) ?_;intro _ w' hS';simp only [List.set] at hS';clear hS;have hS:=hS';clear hS';refine ⟨hlH _ (hS.sub (.cons_cons _ (.cons_cons _ (.cons_cons _ (.cons _ (.cons _ (.cons _ (.cons_cons _ (xj3 _))))))))),?_⟩;have hH:=hlH _ (hS.sub (.cons_cons _ (.cons_cons _ (.cons_cons _ (.cons _ (.cons _ (.cons _ (.cons_cons _ (xj3 _)))))))))
  ((with_reducible apply l5 (nn 9) a7);rfl;kernel_rfl;exact (fun _ _ _ h=>h);exact hH;rfl;rfl)
  refine o5 (i:=10) (by kernel_rfl) ?_;refine n9 (Φ:=fun _ w'=>St _ _ w' _) rfl (l8 hS a7 (i:=3) rfl rfl rfl rfl rfl (xg3 rfl) (xc7.1 rfl)) ?_;intro _ w' hS';simp only [List.set] at hS';clear hS;have hS:=hS';clear hS';refine ⟨hlH _ (hS.sub (.cons_cons _ (.cons_cons _ (.cons_cons _ (.cons _ (.cons _ (.cons _ (.cons_cons _ (xj3 _))))))))),?_⟩;have hH:=hlH _ (hS.sub (.cons_cons _ (.cons_cons _ (.cons_cons _ (.cons _ (.cons _ (.cons _ (.cons_cons _ (xj3 _)))))))))
  ((with_reducible apply l5 (nn 11) a7);rfl;kernel_rfl;exact (fun _ _ _ h=>h);exact hH;rfl;rfl)
  refine z8 (by kernel_rfl) ?_
  repeat' ((refine yDn (by with_reducible constructor) ?_))
  (apply a5m)
  (repeat (first|exact ResL.nil|apply ResL.tmp;rfl|apply ResL.cell;rfl;(apply Ld.st a7;rfl;(first|exact hS.blkR 3 rfl|exact hS.blkR 4 rfl);rfl)))
  have hok:okL K space (a:Nat) (n:Nat) way:=⟨⟨he,hf⟩,hw⟩;obtain ⟨v1,v2,v3,v4⟩:=b1t hok;refine ⟨⟨sh',fr',sl',sps',hand',.slice q1 sh'.length d1,.slice q2 fr'.length d2,.slice q3 sl'.length d3,.slice q4 sps'.length d4⟩,?_,?_,?_⟩
  ·rw [v1,v2,v3,hsp,xi1,<- hk',xi1,hD];rfl
  ·rw [hk',v4,hsp];rfl
  ·refine b06 (Γ:=[]) (g:=gw) (sp:=sp) (vh:=vh) (held:=held) ?_;rw [List.append_nil];exact hS.sub (.cons _ (.cons _ (.cons _ (.cons _ (.cons _ (.cons _ (.refl _)))))))
theorem a6z {K:Ker} {space:Int} (h:a0Q K space=0):Right K/\∃ sp:Nat,space=(sp:Nat)/\sp < K.spaces.length/\(a0C K sp).live=true:=by
 unfold a0Q at h;by_cases h3:a02 K=0
 ·rw [xf0 h3] at h;by_cases h4:0<=space/\space < (K.spaces.length:Int)/\(a0C K space.toNat).live=true
  ·exact ⟨a3X.1 h3,space.toNat,by omega,by omega,h4.2.2⟩
  ·rw [xf1 h4] at h;cases h
 ·rw [xf1 h3] at h;exact absurd h h3
theorem w9 {w:World} {k k':KV} (hK:KerV w k) (hK':KerV w k') (he:k.K=k'.K):Fn Tryz.prog 22 [.agg (kvC k).toArray,.agg (kvC k').toArray] w (RBf (.bool true) w):=by
 have b1:=hK.fr.bound;have b2:=hK.sl.bound;have b3:=hK.sp.bound;have b4:=hK.sh.sl.bound;obtain ⟨sh,fr,sl,sps,hand,vsh,vfr,vsl,vsp⟩:=k;obtain ⟨sh',fr',sl',sps',hand',vsh',vfr',vsl',vsp'⟩:=k';unfold KV.K at he;injection he with e1 e2 e3 e4 e5
 dsimp only at e1 e2 e3 e4 e5;subst e2 e3 e5;have hsame:=fun w1 (h:ShsV w1 sh vsh) (h':ShsV w1 sh' vsh')=>a7x h h' e1;have hl4:sps.length=sps'.length:=by have:=congrArg List.length e4;simpa using this
 obtain ⟨k1,k2,k3,k4,k5⟩:=hK;obtain ⟨m1,m2,m3,m4,m5⟩:=hK';dsimp only at b1 b2 b3 b4 k1 k2 k3 k4 k5 m1 m2 m3 m4 m5;obtain ⟨p1,c1,rfl⟩:=k1.sl.len;obtain ⟨p2,c2,rfl⟩:=k2.len;obtain ⟨p3,c3,rfl⟩:=k3.len;obtain ⟨p4,c4,rfl⟩:=k4.len;obtain ⟨q1,d1,rfl⟩:=m1.sl.len;obtain ⟨q2,d2,rfl⟩:=m2.len;obtain ⟨q3,d3,rfl⟩:=m3.len;obtain ⟨q4,d4,rfl⟩:=m4.len;unfold kvC;dsimp only;have z0:(!decide (hand=hand))=false:=by rw [xj4 rfl];rfl
 have z2:(!decide ((fr.length:Int)=fr.length))=false:=by rw [xj4 rfl];rfl
 have z3:(!decide ((sl.length:Int)=sl.length))=false:=by rw [xj4 rfl];rfl
 have z4:(!decide ((sps.length:Int)=sps'.length))=false:=by rw [xj4 (by omega)];rfl
 refine yEn Tryz.func22 Tryz.ntmps22 (by kernel_rfl) (by kernel_rfl) rfl rfl ?_;have hS:=St.start w
 repeat' (first|(with_reducible apply a8 a7);rfl;rfl;rfl|(with_reducible apply a9);rfl;(first|apply Ld.sc a7;rfl;(first|exact hS.blkC 0 rfl rfl|exact hS.blkC 1 rfl rfl)|apply Ld.sl a7;rfl;(first|exact hS.blkC 0 rfl rfl|exact hS.blkC 1 rfl rfl));rfl|refine yDn (by with_reducible constructor) ?_|((with_reducible apply j5);(iterate 4 rfl);first|rfl|assumption)|(with_reducible apply f5);rfl;(first|rfl|assumption);rfl;rfl|(with_reducible apply f6);rfl;assumption|(with_reducible apply l6 hS);rfl;rfl;rfl;clear hS;intro g w' hS|(with_reducible apply d6 hS);rfl;rfl;rfl;refine ⟨_,hsame _ (k1.now hS) (m1.now hS),?_⟩;clear hS;intro w' hS)
 refine a1v hS 5 [2,3] rfl fr.length (fun _=>True) 0 rfl (xg6 _) trivial ?_;rintro i w1 hi - hS';clear hS;have hS:=hS';clear hS';by_cases hlt:i < fr.length
 ·obtain ⟨f,hf⟩:=j3 (l:=fr) (i:=i) (by omega);have hrow:=c9 (f:=fmC) hf;obtain ⟨b,off,rfl,hro⟩:=k2.at_ (i:=i) hlt;obtain ⟨b',off',rfl,hro'⟩:=m2.at_ (i:=i) hlt;have heq:=b5l f f;rw [xj4 rfl] at heq
  repeat' (first|(with_reducible apply a8 a7);rfl;rfl;rfl|(with_reducible apply a9);rfl;(apply Ld.sl a7;rfl;exact hS.blkC 1 rfl rfl);rfl|refine yDn (by with_reducible constructor) ?_|(with_reducible apply d5);rfl;all_goals (intro hb hp;try (exfalso;omega)))
  (focus ((with_reducible apply d8 _ _ _ (by kernel_rfl) (by kernel_rfl) hS);(repeat' (first|(first|(with_reducible apply i9 a7);rfl;rfl|(with_reducible apply i7);rfl;(intro wd hd;replace hd:St _ _ wd _:=hd;(first|apply Ld.sl a7;rfl;(first|exact hd.blkC 0 rfl rfl|exact hd.blkC 1 rfl rfl)|apply Ld.st a7;rfl;exact hd.roR (by assumption) (by assumption);rfl));rfl|(with_reducible apply x7 a7);rfl;rfl;rfl;rfl;omega;rfl)|(with_reducible apply a7f);rfl;rfl;exact heq;rfl));all_goals ((with_reducible apply j7);intro w' hS';clear hS;have hS:=hS';clear hS')))
  repeat' (first|(with_reducible apply a8 a7);rfl;rfl;rfl|(with_reducible apply j0);rfl;rfl;omega;omega;rfl|refine yDn (by with_reducible constructor) ?_|(with_reducible apply f6);rfl;rfl)
  exact a0N (i + 1) (by exact Fr.sub_of rfl) (by omega) trivial (by omega) hS
 repeat' (first|(with_reducible apply a8 a7);rfl;rfl;rfl|(with_reducible apply a9);rfl;(apply Ld.sl a7;rfl;exact hS.blkC 1 rfl rfl);rfl|refine yDn (by with_reducible constructor) ?_|(with_reducible apply d5);rfl;all_goals (intro hb hp;try (exfalso;omega)))
 refine a1v hS 6 [2,3] rfl sl.length (fun _=>True) 0 rfl (xg6 _) trivial ?_;rintro i w1 hi - hS';clear hS;have hS:=hS';clear hS';by_cases hlt:i < sl.length
 ·obtain ⟨f,hf⟩:=j3 (l:=sl) (i:=i) (by omega);have hrow:=c9 (f:=swC) hf;obtain ⟨b,off,rfl,hro⟩:=k3.at_ (i:=i) hlt;obtain ⟨b',off',rfl,hro'⟩:=m3.at_ (i:=i) hlt;have heq:=b4c f f;rw [xj4 rfl] at heq
  repeat' (first|(with_reducible apply a8 a7);rfl;rfl;rfl|(with_reducible apply a9);rfl;(apply Ld.sl a7;rfl;exact hS.blkC 1 rfl rfl);rfl|refine yDn (by with_reducible constructor) ?_|(with_reducible apply d5);rfl;all_goals (intro hb hp;try (exfalso;omega)))
  (focus ((with_reducible apply d8 _ _ _ (by kernel_rfl) (by kernel_rfl) hS);(repeat' (first|(first|(with_reducible apply i9 a7);rfl;rfl|(with_reducible apply i7);rfl;(intro wd hd;replace hd:St _ _ wd _:=hd;(first|apply Ld.sl a7;rfl;(first|exact hd.blkC 0 rfl rfl|exact hd.blkC 1 rfl rfl)|apply Ld.st a7;rfl;exact hd.roR (by assumption) (by assumption);rfl));rfl|(with_reducible apply x7 a7);rfl;rfl;rfl;rfl;omega;rfl)|(with_reducible apply a7f);rfl;rfl;exact heq;rfl));all_goals ((with_reducible apply j7);intro w' hS';clear hS;have hS:=hS';clear hS')))
  repeat' (first|(with_reducible apply a8 a7);rfl;rfl;rfl|(with_reducible apply j0);rfl;rfl;omega;omega;rfl|refine yDn (by with_reducible constructor) ?_|(with_reducible apply f6);rfl;rfl)
  exact a0N (i + 1) (by exact Fr.sub_of rfl) (by omega) trivial (by omega) hS
 repeat' (first|(with_reducible apply a8 a7);rfl;rfl;rfl|(with_reducible apply a9);rfl;(apply Ld.sl a7;rfl;exact hS.blkC 1 rfl rfl);rfl|refine yDn (by with_reducible constructor) ?_|(with_reducible apply d5);rfl;all_goals (intro hb hp;try (exfalso;omega)))
 refine a1v hS 7 [2,3] rfl sps.length (fun _=>True) 0 rfl (xg6 _) trivial ?_;rintro i w1 hi - hS';clear hS;have hS:=hS';clear hS';by_cases hlt:i < sps.length;rotate_left
 ·repeat' (first|(with_reducible apply a8 a7);rfl;rfl;rfl|(with_reducible apply a9);rfl;(apply Ld.sl a7;rfl;exact hS.blkC 1 rfl rfl);rfl|refine yDn (by with_reducible constructor) ?_|(with_reducible apply d5);rfl;all_goals (intro hb hp;try (exfalso;omega)))
  (refine k6 rfl ?_)
  exact ⟨rfl,hS.sub (xj3 _)⟩
 obtain ⟨x,hx⟩:=j3 (l:=sps) (i:=i) (by omega);obtain ⟨y,hy⟩:=j3 (l:=sps') (i:=i) (by omega);have hxy:x.s=y.s:=by
  have h1:(sps.map (·.s))[i]?=some x.s:=c9 (f:=fun p:Sp=>p.s) hx;have h2:(sps'.map (·.s))[i]?=some y.s:=c9 (f:=fun p:Sp=>p.s) hy;rw [e4,h2] at h1;exact (Option.some.inj h1).symm
 have hrow:=c9 (f:=spC) hx;have hrow':=c9 (f:=spC) hy;obtain ⟨b,off,rfl,hro⟩:=k4.at_ (i:=i) hlt;obtain ⟨b',off',rfl,hro'⟩:=m4.at_ (i:=i) (by omega);have hxv:=k5 x (xd0 hx);have hyv:=m5 y (xd0 hy);have ha:=hxv.ar;have hen:=hxv.en;have ha':=hyv.ar;have hen':=hyv.en;obtain ⟨s,va,ve⟩:=x;obtain ⟨s',va',ve'⟩:=y;dsimp only at hxy ha hen ha' hen';subst hxy;have be:=hen.bound;obtain ⟨pa,ca,rfl⟩:=ha.len;obtain ⟨pe,ce,rfl⟩:=hen.len;obtain ⟨pa',ca',rfl⟩:=ha'.len;obtain ⟨pe',ce',rfl⟩:=hen'.len;unfold spC at hrow hrow';dsimp only at hrow hrow';have hsa:=fun w1 (h:Sl nF w1 4 (.slice pa s.areas.length ca) (s.areas.map arC)) (h':Sl nF w1 4 (.slice pa' s.areas.length ca') (s.areas.map arC))=>b5D h h';rw [xj4 rfl] at hsa;have z5:(!decide ((s.entries.length:Int)=s.entries.length))=false:=by rw [xj4 rfl];rfl
 have z6:(!decide (s.live=s.live))=false:=by rw [xj4 rfl];rfl
 repeat' (first|(with_reducible apply a8 a7);rfl;rfl;rfl|(with_reducible apply a9);rfl;(apply Ld.sl a7;rfl;exact hS.blkC 1 rfl rfl);rfl|refine yDn (by with_reducible constructor) ?_|(with_reducible apply d5);rfl;all_goals (intro hb hp;try (exfalso;omega)))
 refine a8t 14 rfl hS (by kernel_rfl) ?_;intro wh hh;clear hS;have hS:=hh;clear hh
 ((with_reducible apply l5 (nn 0) a7);rfl;kernel_rfl;exact (fun _ _ _ h=>h);exact hS;rfl;rfl)
 ((with_reducible apply r8 (nn 1));rfl;kernel_rfl;exact (fun _ _ _ h=>h);exact hS;rfl;(intro wd hd;replace hd:St _ _ wd _:=hd;(apply Ld.sl a7;rfl;exact hd.blkC 1 rfl rfl));rfl)
 ((with_reducible apply l5 (nn 2) a7);rfl;kernel_rfl;exact (fun _ _ _ h=>h);exact hS;rfl;rfl)
 ((with_reducible apply b6k (nn 3) a7);rfl;kernel_rfl;kernel_rfl;kernel_rfl;exact (fun _ _ _ _ h=>h);exact hS;rfl;rfl;rfl;rfl;omega;rfl)
 ((with_reducible apply r8 (nn 4));rfl;kernel_rfl;exact (fun _ _ _ h=>h);exact hS;rfl;(intro wd hd;replace hd:St _ _ wd _:=hd;(apply Ld.st a7;rfl;exact hd.roR (by assumption) (by assumption);rfl));rfl)
 ((with_reducible apply l5 (nn 5) a7);rfl;kernel_rfl;exact (fun _ _ _ h=>h);exact hS;rfl;rfl)
 ((with_reducible apply r8 (nn 6));rfl;kernel_rfl;exact (fun _ _ _ h=>h);exact hS;rfl;(intro wd hd;replace hd:St _ _ wd _:=hd;(apply Ld.sl a7;rfl;exact hd.blkC 0 rfl rfl));rfl)
 ((with_reducible apply l5 (nn 7) a7);rfl;kernel_rfl;exact (fun _ _ _ h=>h);exact hS;rfl;rfl)
 ((with_reducible apply b6k (nn 8) a7);rfl;kernel_rfl;kernel_rfl;kernel_rfl;exact (fun _ _ _ _ h=>h);exact hS;rfl;rfl;rfl;rfl;omega;rfl)
 ((with_reducible apply r8 (nn 9));rfl;kernel_rfl;exact (fun _ _ _ h=>h);exact hS;rfl;(intro wd hd;replace hd:St _ _ wd _:=hd;(apply Ld.st a7;rfl;exact hd.roR (by assumption) (by assumption);rfl));rfl)
 refine a42 (i:=10) (j:=11) (by kernel_rfl) ?_ ?_
 ·refine p8 rfl (v6 hS a7 rfl rfl) rfl ?_;rintro _ w' ⟨g,rfl,hS'⟩;clear hS;have hS:=hS';clear hS';refine ⟨hS.drop,?_⟩;refine o5 (i:=11) (by kernel_rfl) ?_;refine p8 rfl (v6 hS a7 rfl rfl) rfl ?_;rintro _ w' ⟨g,rfl,hS'⟩;clear hS;have hS:=hS';clear hS';refine ⟨hS.drop.drop,?_⟩;refine o5 (i:=12) (by kernel_rfl) ?_;refine n9 (Φ:=fun _ w'=>St _ _ w' _) rfl (l8 hS a7 (i:=1) rfl rfl rfl rfl rfl (xg3 rfl) (xc7.1 rfl)) ?_;intro _ w' hS';simp only [List.set] at hS';clear hS;have hS:=hS';clear hS';refine ⟨hS.drop.drop,?_⟩;refine o5 (i:=13) (by kernel_rfl) ?_;refine n9 (Φ:=fun _ w'=>St _ _ w' _) rfl (l8 hS a7 (i:=0) rfl rfl rfl rfl rfl (xg3 rfl) (xc7.1 rfl)) ?_;intro _ w' hS';simp only [List.set] at hS';clear hS;have hS:=hS';clear hS';refine ⟨hS.drop.drop,?_⟩;refine z8 (by kernel_rfl) ?_
  repeat' (first|(with_reducible apply a8 a7);rfl;rfl;rfl|(with_reducible apply a9);rfl;(first|apply Ld.sc a7;rfl;(first|exact hS.blkC 0 rfl rfl|exact hS.blkC 1 rfl rfl)|apply Ld.sl a7;rfl;(first|exact hS.blkC 0 rfl rfl|exact hS.blkC 1 rfl rfl));rfl|(with_reducible apply b53 a7);(iterate 4 rfl)|refine yDn (by with_reducible constructor) ?_|((with_reducible apply j5);(iterate 4 rfl);first|rfl|assumption)|(with_reducible apply f5);rfl;(first|rfl|assumption);rfl;rfl|(with_reducible apply f6);rfl;assumption|(with_reducible apply d6 hS);rfl;rfl;rfl;refine ⟨_,hsa _ (ha.now hS) (ha'.now hS),?_⟩;clear hS;intro w' hS)
  refine a1v hS 10 [2,3,7,8,9] rfl s.entries.length (fun _=>True) 0 rfl (xg6 _) trivial ?_;rintro j w3 hj - hS';clear hS;have hS:=hS';clear hS';by_cases hjl:j < s.entries.length
  ·obtain ⟨e,he⟩:=j3 (l:=s.entries) (i:=j) (by omega);have hrow2:=c9 (f:=enC) he;obtain ⟨b2,off2,rfl,hro2⟩:=hen.at_ (i:=j) hjl;obtain ⟨b3,off3,rfl,hro3⟩:=hen'.at_ (i:=j) hjl;have heq:=b7d e e;rw [xj4 rfl] at heq
   repeat' (first|(with_reducible apply a8 a7);rfl;rfl;rfl|(with_reducible apply a9);rfl;(apply Ld.sl a7;rfl;exact hS.blkC 1 rfl rfl);rfl|refine yDn (by with_reducible constructor) ?_|(with_reducible apply d5);rfl;all_goals (intro hb hp;try (exfalso;omega)))
   (focus ((with_reducible apply d8 _ _ _ (by kernel_rfl) (by kernel_rfl) hS);(repeat' (first|(first|(with_reducible apply i9 a7);rfl;rfl|(with_reducible apply i7);rfl;(intro wd hd;replace hd:St _ _ wd _:=hd;(first|apply Ld.sl a7;rfl;(first|exact hd.blkC 0 rfl rfl|exact hd.blkC 1 rfl rfl)|apply Ld.st a7;rfl;exact hd.roR (by assumption) (by assumption);rfl));rfl|(with_reducible apply x7 a7);rfl;rfl;rfl;rfl;omega;rfl)|(with_reducible apply a7f);rfl;rfl;exact heq;rfl));all_goals ((with_reducible apply j7);intro w' hS';clear hS;have hS:=hS';clear hS')))
   repeat' (first|(with_reducible apply a8 a7);rfl;rfl;rfl|(with_reducible apply j0);rfl;rfl;omega;omega;rfl|refine yDn (by with_reducible constructor) ?_|(with_reducible apply f6);rfl;rfl)
   exact a0N (j + 1) (by exact Fr.sub_of rfl) (by omega) trivial (by omega) hS
  ·repeat' (first|(with_reducible apply a8 a7);rfl;rfl;rfl|(with_reducible apply a9);rfl;(apply Ld.sl a7;rfl;exact hS.blkC 1 rfl rfl);rfl|(with_reducible apply j0);rfl;rfl;omega;omega;rfl|refine yDn (by with_reducible constructor) ?_|(with_reducible apply d5);rfl;all_goals (intro hb hp;try (exfalso;omega)))
   exact a0N (i + 1) (by exact Fr.sub_of rfl) (by omega) trivial (by omega) hS.drop.drop
 ·refine p8 rfl (v6 hS a7 rfl rfl) rfl ?_;rintro _ w' ⟨g,rfl,hS'⟩;clear hS;have hS:=hS';clear hS';refine ⟨hS.drop,?_⟩;refine o5 (i:=10) (by kernel_rfl) ?_;refine p8 rfl (v6 hS a7 rfl rfl) rfl ?_;rintro _ w' ⟨g,rfl,hS'⟩;clear hS;have hS:=hS';clear hS';refine ⟨hS.drop.drop,?_⟩;refine o5 (i:=12) (by kernel_rfl) ?_;refine n9 (Φ:=fun _ w'=>St _ _ w' _) rfl (l8 hS a7 (i:=0) rfl rfl rfl rfl rfl (xg3 rfl) (xc7.1 rfl)) ?_;intro _ w' hS';simp only [List.set] at hS';clear hS;have hS:=hS';clear hS';refine ⟨hS.drop.drop,?_⟩;refine o5 (i:=13) (by kernel_rfl) ?_;refine n9 (Φ:=fun _ w'=>St _ _ w' _) rfl (l8 hS a7 (i:=1) rfl rfl rfl rfl rfl (xg3 rfl) (xc7.1 rfl)) ?_;intro _ w' hS';simp only [List.set] at hS';clear hS;have hS:=hS';clear hS';refine ⟨hS.drop.drop,?_⟩;refine z8 (by kernel_rfl) ?_
  repeat' (first|(with_reducible apply a8 a7);rfl;rfl;rfl|(with_reducible apply a9);rfl;(first|apply Ld.sc a7;rfl;(first|exact hS.blkC 0 rfl rfl|exact hS.blkC 1 rfl rfl)|apply Ld.sl a7;rfl;(first|exact hS.blkC 0 rfl rfl|exact hS.blkC 1 rfl rfl));rfl|(with_reducible apply b53 a7);(iterate 4 rfl)|refine yDn (by with_reducible constructor) ?_|((with_reducible apply j5);(iterate 4 rfl);first|rfl|assumption)|(with_reducible apply f5);rfl;(first|rfl|assumption);rfl;rfl|(with_reducible apply f6);rfl;assumption|(with_reducible apply d6 hS);rfl;rfl;rfl;refine ⟨_,hsa _ (ha.now hS) (ha'.now hS),?_⟩;clear hS;intro w' hS)
  refine a1v hS 10 [2,3,7,8,9] rfl s.entries.length (fun _=>True) 0 rfl (xg6 _) trivial ?_;rintro j w3 hj - hS';clear hS;have hS:=hS';clear hS';by_cases hjl:j < s.entries.length
  ·obtain ⟨e,he⟩:=j3 (l:=s.entries) (i:=j) (by omega);have hrow2:=c9 (f:=enC) he;obtain ⟨b2,off2,rfl,hro2⟩:=hen.at_ (i:=j) hjl;obtain ⟨b3,off3,rfl,hro3⟩:=hen'.at_ (i:=j) hjl;have heq:=b7d e e;rw [xj4 rfl] at heq
   repeat' (first|(with_reducible apply a8 a7);rfl;rfl;rfl|(with_reducible apply a9);rfl;(apply Ld.sl a7;rfl;exact hS.blkC 0 rfl rfl);rfl|refine yDn (by with_reducible constructor) ?_|(with_reducible apply d5);rfl;all_goals (intro hb hp;try (exfalso;omega)))
   (focus ((with_reducible apply d8 _ _ _ (by kernel_rfl) (by kernel_rfl) hS);(repeat' (first|(first|(with_reducible apply i9 a7);rfl;rfl|(with_reducible apply i7);rfl;(intro wd hd;replace hd:St _ _ wd _:=hd;(first|apply Ld.sl a7;rfl;(first|exact hd.blkC 0 rfl rfl|exact hd.blkC 1 rfl rfl)|apply Ld.st a7;rfl;exact hd.roR (by assumption) (by assumption);rfl));rfl|(with_reducible apply x7 a7);rfl;rfl;rfl;rfl;omega;rfl)|(with_reducible apply a7f);rfl;rfl;exact heq;rfl));all_goals ((with_reducible apply j7);intro w' hS';clear hS;have hS:=hS';clear hS')))
   repeat' (first|(with_reducible apply a8 a7);rfl;rfl;rfl|(with_reducible apply j0);rfl;rfl;omega;omega;rfl|refine yDn (by with_reducible constructor) ?_|(with_reducible apply f6);rfl;rfl)
   exact a0N (j + 1) (by exact Fr.sub_of rfl) (by omega) trivial (by omega) hS
  ·repeat' (first|(with_reducible apply a8 a7);rfl;rfl;rfl|(with_reducible apply a9);rfl;(apply Ld.sl a7;rfl;exact hS.blkC 0 rfl rfl);rfl|(with_reducible apply j0);rfl;rfl;omega;omega;rfl|refine yDn (by with_reducible constructor) ?_|(with_reducible apply d5);rfl;all_goals (intro hb hp;try (exfalso;omega)))
   exact a0N (i + 1) (by exact Fr.sub_of rfl) (by omega) trivial (by omega) hS.drop.drop
theorem Came.keep {w w':World} {k:KV} (h:Came w w' k):∃ Δ,St nF w w' Δ/\∀ {F:Nat->Prop} {w0 w2:World} {Γ:List Asr},St F w0 w2 Γ->(∀ A ∈ Δ,A ∈ Γ)->KerV w2 k:=by
 rcases h with ⟨rfl,h⟩|h
 ·exact ⟨[],h,fun _ _=>a4V _⟩
 ·refine ⟨a5n k,h,fun {F w0 w2 Γ} hS hm=>?_⟩;have hmem:∀ {e sz:Nat} {v:Value} {rows:List (List Value)},Asr.row e sz v rows ∈ a5n k->Sl nF w2 sz v rows:=fun h=>hS.slMem (hm _ h);have hr:∀ {A},A ∈ a0U k->A ∈ a5n k:=fun h=>xc6 _ (xc6 _ (xc6 _ (xe6 _ h)));refine ⟨⟨hmem (e:=94) (hr xc5),fun p hp=>?_⟩,hmem (e:=89) xc5,hmem (e:=143) (xc6 _ xc5),hmem (e:=75) (xc6 _ (xc6 _ xc5)),fun p hp=>⟨?_,?_⟩⟩
  ·exact hmem (e:=96) (hr (xc6 _ (xe5 _ (xm7.2 ⟨p,hp,rfl⟩))))
  ·exact hmem (e:=81) (hr (xc6 _ (xe6 _ (xm7.2 ⟨p,hp,rfl⟩))))
  ·exact hmem (e:=91) (xc6 _ (xc6 _ (xc6 _ (xe5 _ (xm7.2 ⟨p,hp,rfl⟩)))))
theorem b2w {w:World} {va:Value} {A:List Ar} (hL:Sl nF w 4 va (A.map arC)) (hc:m6 A=0) {addr size way:Int} (hb0:-9223372036854775808<=addr) (hb1:addr<=9223372036854775807) (hs1:1<=size) (hs8:size<=8) (hway:way=0\/way=1\/way=2):Fn Tryz.prog 27 [va,.int .i64 addr,.int .i64 size,.int .i64 way] w (RBf (a2b (q8 A addr size way)) w):=by
 have hok:=a0E (t6.1 hc).2;obtain ⟨n,hn⟩:∃ n:Nat,size=(n:Nat):=⟨size.toNat,by omega⟩;subst hn;refine yEn Tryz.func27 Tryz.ntmps27 (by kernel_rfl) (by kernel_rfl) rfl rfl ?_;have hS:=St.start w
 repeat (with_reducible apply a2T)
 (with_reducible apply a2X)
 (((with_reducible apply d7 hS a7);rfl;rfl;rfl);clear hS;intro g8 w' hS)
 (with_reducible apply a3t)
 (with_reducible apply a2a)
 repeat (with_reducible apply a2T)
 have hS8:St nF w _ [.blk g8 [.int .i64 0,.int .i64 0]]:=hS;refine a1H (F:=nF) (w0:=w) (X:=Unit) (fun _=>[(0,va),(1,.int .i64 addr),(2,.int .i64 (n:Nat)),(3,.int .i64 way),(8,.pointer (some ⟨g8,0,none⟩)),(18,.bool (decide (way=2/\addr.tmod 8≠0)))]) (fun _=>[.blk g8 [.int .i64 0,.int .i64 0]]) (fun _=>True) ?_ ?_
 ·by_cases hw:way=2
  ·have hdw:decide (way=2)=true:=xj4 hw;have hdr:(!decide (addr.tmod 8=0))=decide (way=2/\addr.tmod 8≠0):=by
    by_cases h:addr.tmod 8=0
    ·rw [xj4 h,xj2 (fun h2=>h2.2 h)];rfl
    ·rw [xj2 h,xj4 ⟨hw,h⟩];rfl
   rw [<- hdr]
   repeat' (first|(with_reducible apply a8 a7);rfl;rfl;rfl|refine yDn (by with_reducible constructor) ?_|(with_reducible apply j5);(iterate 4 rfl);assumption|(with_reducible apply e9);rfl;assumption;rfl;rfl|(with_reducible apply a4n);rfl;rfl;omega;rfl)
   exact r6 () (by exact Fr.sub_of rfl) trivial hS
  ·have hdw:decide (way=2)=false:=xj2 hw;rw [show decide (way=2/\addr.tmod 8≠0)=false from xj2 (fun h=>hw h.1)]
   repeat' (first|(with_reducible apply a8 a7);rfl;rfl;rfl|refine yDn (by with_reducible constructor) ?_|(with_reducible apply s9);(iterate 4 rfl);assumption;rfl|(with_reducible apply f5);rfl;assumption;rfl;rfl)
   exact r6 () (by exact Fr.sub_of rfl) trivial hS
 clear hS hS8;rintro - w2 - hS;by_cases hal:way=2/\addr.tmod 8≠0
 ·have hF:q8 A addr (n:Nat) way=(3,addr):=by unfold q8;rw [xf0 hal]
  rw [xj4 hal]
  repeat' (first|(with_reducible apply a8 a7);rfl;rfl;rfl|(with_reducible apply l4 a7);rfl;rfl;exact (rfl:_=some [_,_]);rfl|refine yDn (by with_reducible constructor) ?_|(with_reducible apply d9);rfl;rfl|(with_reducible apply b8 hS a7 (i:=0));(iterate 8 rfl);exact (rfl:_=[_,_]);clear hS;intro w' hS;simp only [List.set] at hS)
  (apply w7;repeat (first|exact ResL.nil|apply ResL.cell;rfl;(apply Ld.st a7;rfl;exact hS.blkR 0 rfl;rfl)))
  exact ⟨by rw [hF];rfl,hS.sub (xj3 _)⟩
 rw [xj2 hal];obtain ⟨F,hF⟩:∃ F,F=q8 A addr (n:Nat) way:=⟨_,rfl⟩;rw [<- hF];have hstep:∀ i:Nat,(∀ j:Nat,j < i->n7 A way (addr + (j:Nat))=none)->1<=i->addr<=4095/\16<=addr:=fun i h h1=>by
  have h2:=a16 hc (h 0 (by omega));have h3:addr + ((0:Nat):Int)=addr:=by omega
  rw [h3] at h2;omega
 have hout:(addr < 0\/4096 < addr)->n7 A way (addr + ((0:Nat):Int))=some (1,addr):=fun h=>by
  rw [show addr + ((0:Nat):Int)=addr by omega];unfold n7
  cases hf:o9 A (addr.tdiv 16) with
  |none=>rfl
  |some a=>
   have hp:=a3Z hc (p:=addr.tdiv 16) (by rw [hf];rfl);rcases h with h|h
   ·have:addr.tdiv 16<=0:=by
     rw [show addr=-(-addr) by omega,Int.neg_tdiv];have:=Int.tdiv_nonneg (a:=-addr) (b:=16) (by omega) (by omega);omega
    omega
   ·rw [xf2 (by omega)] at hp;omega
 repeat' (first|(with_reducible apply a8 a7);rfl;rfl;rfl|refine yDn (by with_reducible constructor) ?_|(with_reducible apply f6);rfl;rfl)
 refine l7 (F:=nF) (w0:=w) (X:=Nat) (fun x=>[(9,.int .i64 (x:Nat))]) [0,1,2,3,8] rfl (fun _=>[]) (fun i=>i<=n/\∀ j:Nat,j < i->n7 A way (addr + (j:Nat))=none) (fun i=>n - i) 0 (by exact Fr.sub_of rfl) ⟨xg6 _,fun j hj=>by omega⟩ hS ?_;clear hS;rintro i w1 ⟨hi,hall⟩ hS;dsimp only [List.cons_append,List.nil_append] at hi hall hS |-;by_cases hlt:i < n;rotate_left
 ·obtain rfl:i=n:=by omega
  have hff:F=(0,0):=hF.trans (a2D hal (fun j hj=>hall j (by omega)))
  repeat' (first|(with_reducible apply a8 a7);rfl;rfl;rfl|(with_reducible apply l4 a7);rfl;rfl;exact (rfl:_=some [_,_]);rfl|refine yDn (by with_reducible constructor) ?_|(with_reducible apply b8 hS a7 (i:=0));(iterate 8 rfl);exact (rfl:_=[_,_]);clear hS;intro w' hS;simp only [List.set] at hS|(with_reducible apply d5);rfl;all_goals (intro hb hp;try (exfalso;omega)))
  (apply w7;repeat (first|exact ResL.nil|apply ResL.cell;rfl;(apply Ld.st a7;rfl;exact hS.blkR 0 rfl;rfl)))
  exact ⟨by rw [hff];rfl,hS.sub (xj3 _)⟩
 have hi0:1<=i->addr<=4095/\16<=addr:=fun h=>hstep i hall h;by_cases hn0:addr < 0
 ·obtain rfl:i=0:=by
   by_cases h:1<=i
   ·have:=hi0 h;omega
   ·omega
  have hda:decide (addr < 0)=true:=xj4 hn0;have hff:F=(1,addr):=hF.trans (v8 (i:=0) hal (by omega) hall (hout (xd6 hn0)))
  repeat' (first|(with_reducible apply a8 a7);rfl;rfl;rfl|(with_reducible apply l4 a7);rfl;rfl;exact (rfl:_=some [_,_]);rfl|refine yDn (by with_reducible constructor) ?_|(with_reducible apply s9);(iterate 4 rfl);assumption;rfl|(with_reducible apply e9);rfl;assumption;rfl;rfl|(with_reducible apply d9);rfl;rfl|(with_reducible apply b8 hS a7 (i:=0));(iterate 8 rfl);exact (rfl:_=[_,_]);clear hS;intro w' hS;simp only [List.set] at hS|(with_reducible apply d5);rfl;all_goals (intro hb hp;try (exfalso;omega)))
  (apply w7;repeat (first|exact ResL.nil|apply ResL.cell;rfl;(apply Ld.st a7;rfl;exact hS.blkR 0 rfl;rfl)))
  exact ⟨by rw [hff];rfl,hS.sub (xj3 _)⟩
 have hda:decide (addr < 0)=false:=xj2 hn0;by_cases hn1:4096 < addr
 ·obtain rfl:i=0:=by
   by_cases h:1<=i
   ·have:=hi0 h;omega
   ·omega
  have hdb:decide (4096 < addr)=true:=xj4 hn1;have hff:F=(1,addr):=hF.trans (v8 (i:=0) hal (by omega) hall (hout (xd3 hn1)))
  repeat' (first|(with_reducible apply a8 a7);rfl;rfl;rfl|(with_reducible apply l4 a7);rfl;rfl;exact (rfl:_=some [_,_]);rfl|refine yDn (by with_reducible constructor) ?_|(with_reducible apply j5);(iterate 4 rfl);assumption|(with_reducible apply f5);rfl;assumption;rfl;rfl|(with_reducible apply d9);rfl;assumption|(with_reducible apply b8 hS a7 (i:=0));(iterate 8 rfl);exact (rfl:_=[_,_]);clear hS;intro w' hS;simp only [List.set] at hS|(with_reducible apply d5);rfl;all_goals (intro hb hp;try (exfalso;omega)))
  (apply w7;repeat (first|exact ResL.nil|apply ResL.cell;rfl;(apply Ld.st a7;rfl;exact hS.blkR 0 rfl;rfl)))
  exact ⟨by rw [hff];rfl,hS.sub (xj3 _)⟩
 have hdb:decide (4096 < addr)=false:=xj2 hn1;have hneg:¬ addr + (i:Nat) < 0:=by omega
 have haa:=fun w1 (h:Sl nF w1 4 va (A.map arC))=>a2j ((addr + (i:Nat)).tdiv 16) h hok
 cases hfa:o9 A ((addr + (i:Nat)).tdiv 16) with
 |none=>
  rw [hfa] at haa;unfold a1w arC at haa;dsimp only [Option.getD,Option.isSome] at haa;have hff:F=(1,addr + (i:Nat)):=hF.trans (v8 hal (by omega) hall (by unfold n7;rw [hfa]))
  repeat' (first|(with_reducible apply a8 a7);rfl;rfl;rfl|(with_reducible apply j0);rfl;rfl;omega;omega;rfl|(with_reducible apply l4 a7);rfl;rfl;exact (rfl:_=some [_,_]);rfl|refine yDn (by with_reducible constructor) ?_|(with_reducible apply j5);(iterate 4 rfl);assumption|(with_reducible apply f5);rfl;assumption;rfl;rfl|(with_reducible apply d9);rfl;rfl|(with_reducible apply f6);rfl;assumption|(with_reducible apply d7 hS a7);rfl;rfl;rfl;clear hS;intro g w' hS|(with_reducible apply b8 hS a7 (i:=0));(iterate 8 rfl);exact (rfl:_=[_,_,_,_]);clear hS;intro w' hS;simp only [List.set] at hS|(with_reducible apply b8 hS a7 (i:=1));(iterate 8 rfl);exact (rfl:_=[_,_]);clear hS;intro w' hS;simp only [List.set] at hS|(with_reducible apply d5);rfl;all_goals (intro hb hp;try (exfalso;omega))|(with_reducible apply a0t);rfl;rfl;omega;omega;omega;rfl|(with_reducible apply d6 hS);rfl;rfl;rfl;refine ⟨_,haa _ (hL.now hS),?_⟩;clear hS;intro w' hS)
  (apply w7;repeat (first|exact ResL.nil|apply ResL.cell;rfl;(apply Ld.st a7;rfl;exact hS.blkR 1 rfl;rfl)))
  exact ⟨by rw [hff];rfl,hS.sub (xj3 _)⟩
 |some a=>
  rw [hfa] at haa;unfold a1w arC at haa;dsimp only [Option.getD,Option.isSome] at haa;have hdv:(addr + ((i:Nat):Int)).tdiv 16=(addr + (i:Nat)) / 16:=xf2 (by omega);have haok:a.ok:=(a0R hc (by rw [hdv] at hfa;exact hfa)).1;unfold Ar.ok at haok
  (skip)
  by_cases hw1:way=1
  ·have hdw:decide (way=1)=true:=xj4 hw1;by_cases hp1:a.prot.tmod 2=0
   ·have hdp:decide (a.prot.tmod 2=0)=true:=xj4 hp1;rw [xf3 (by omega)] at hp1;have hff:F=(2,addr + (i:Nat)):=hF.trans (v8 hal (by omega) hall (by
     unfold n7;rw [hfa];dsimp only;rw [xf1 hneg,xf0];omega))
    repeat' (first|(with_reducible apply a8 a7);rfl;rfl;rfl|(with_reducible apply a9);rfl;(apply Ld.sc a7;rfl;exact hS.blkC 0 rfl rfl);rfl|(with_reducible apply j0);rfl;rfl;omega;omega;rfl|(with_reducible apply l4 a7);rfl;rfl;exact (rfl:_=some [_,_]);rfl|refine yDn (by with_reducible constructor) ?_|(with_reducible apply j5);(iterate 4 rfl);assumption|(with_reducible apply s9);(iterate 4 rfl);assumption;rfl|(with_reducible apply a07);(iterate 5 rfl)|(with_reducible apply e9);rfl;assumption;rfl;rfl|(with_reducible apply f5);rfl;assumption;rfl;rfl|(with_reducible apply d9);rfl;rfl|((with_reducible apply f6);rfl;first|rfl|assumption)|(with_reducible apply d7 hS a7);rfl;rfl;rfl;clear hS;intro g w' hS|(with_reducible apply b8 hS a7 (i:=0));(iterate 8 rfl);exact (rfl:_=[_,_,_,_]);clear hS;intro w' hS;simp only [List.set] at hS|(with_reducible apply b8 hS a7 (i:=1));(iterate 8 rfl);exact (rfl:_=[_,_]);clear hS;intro w' hS;simp only [List.set] at hS|(with_reducible apply d5);rfl;all_goals (intro hb hp;try (exfalso;omega))|(with_reducible apply a4n);rfl;rfl;omega;rfl|(with_reducible apply a0t);rfl;rfl;omega;omega;omega;rfl|(with_reducible apply d6 hS);rfl;rfl;rfl;refine ⟨_,haa _ (hL.now hS),?_⟩;clear hS;intro w' hS)
    (apply w7;repeat (first|exact ResL.nil|apply ResL.cell;rfl;(apply Ld.st a7;rfl;exact hS.blkR 1 rfl;rfl)))
    exact ⟨by rw [hff];rfl,hS.sub (xj3 _)⟩
   ·have hdp:decide (a.prot.tmod 2=0)=false:=xj2 hp1;have hdv:decide (way=2)=false:=xj2 (by omega);rw [xf3 (by omega)] at hp1;have hnx:n7 A way (addr + (i:Nat))=none:=by
     unfold n7;rw [hfa];dsimp only;rw [xf1 hneg,xf1];omega
    repeat' (first|(with_reducible apply a8 a7);rfl;rfl;rfl|(with_reducible apply a9);rfl;(apply Ld.sc a7;rfl;exact hS.blkC 0 rfl rfl);rfl|(with_reducible apply j0);rfl;rfl;omega;omega;rfl|refine yDn (by with_reducible constructor) ?_|(with_reducible apply j5);(iterate 4 rfl);assumption|(with_reducible apply s9);(iterate 4 rfl);assumption;rfl|(with_reducible apply e9);rfl;assumption;rfl;rfl|(with_reducible apply f5);rfl;assumption;rfl;rfl|((with_reducible apply f6);rfl;first|rfl|assumption)|(with_reducible apply d7 hS a7);rfl;rfl;rfl;clear hS;intro g w' hS|(with_reducible apply b8 hS a7 (i:=0));(iterate 8 rfl);exact (rfl:_=[_,_,_,_]);clear hS;intro w' hS;simp only [List.set] at hS|(with_reducible apply d5);rfl;all_goals (intro hb hp;try (exfalso;omega))|(with_reducible apply a4n);rfl;rfl;omega;rfl|(with_reducible apply a0t);rfl;rfl;omega;omega;omega;rfl|(with_reducible apply d6 hS);rfl;rfl;rfl;refine ⟨_,haa _ (hL.now hS),?_⟩;clear hS;intro w' hS)
    refine f7 (i + 1) (by exact Fr.sub_of rfl) ⟨by omega,fun j hj=>?_⟩ (hS.sub (by repeat (first|exact xm0 _|apply xm3))) (by omega);by_cases e:j=i
    ·rw [e];exact hnx
    ·exact hall j (by omega)
  ·have hdw:decide (way=1)=false:=xj2 hw1;by_cases hw2:way=2
   ·have hdv:decide (way=2)=true:=xj4 hw2;by_cases hp1:a.prot < 2
    ·have hdp:decide (a.prot < 2)=true:=xj4 hp1;have hff:F=(2,addr + (i:Nat)):=hF.trans (v8 hal (by omega) hall (by
      unfold n7;rw [hfa];dsimp only;rw [xf1 hneg,xf0];omega))
     repeat' (first|(with_reducible apply a8 a7);rfl;rfl;rfl|(with_reducible apply a9);rfl;(apply Ld.sc a7;rfl;exact hS.blkC 0 rfl rfl);rfl|(with_reducible apply j0);rfl;rfl;omega;omega;rfl|(with_reducible apply l4 a7);rfl;rfl;exact (rfl:_=some [_,_]);rfl|refine yDn (by with_reducible constructor) ?_|((with_reducible apply j5);(iterate 4 rfl);first|rfl|assumption)|(with_reducible apply s9);(iterate 4 rfl);assumption;rfl|(with_reducible apply e9);rfl;assumption;rfl;rfl|(with_reducible apply f5);rfl;(first|rfl|assumption);rfl;rfl|(with_reducible apply d9);rfl;assumption|((with_reducible apply f6);rfl;first|rfl|assumption)|(with_reducible apply d7 hS a7);rfl;rfl;rfl;clear hS;intro g w' hS|(with_reducible apply b8 hS a7 (i:=0));(iterate 8 rfl);exact (rfl:_=[_,_,_,_]);clear hS;intro w' hS;simp only [List.set] at hS|(with_reducible apply b8 hS a7 (i:=1));(iterate 8 rfl);exact (rfl:_=[_,_]);clear hS;intro w' hS;simp only [List.set] at hS|(with_reducible apply d5);rfl;all_goals (intro hb hp;try (exfalso;omega))|(with_reducible apply a0t);rfl;rfl;omega;omega;omega;rfl|(with_reducible apply d6 hS);rfl;rfl;rfl;refine ⟨_,haa _ (hL.now hS),?_⟩;clear hS;intro w' hS)
     (apply w7;repeat (first|exact ResL.nil|apply ResL.cell;rfl;(apply Ld.st a7;rfl;exact hS.blkR 1 rfl;rfl)))
     exact ⟨by rw [hff];rfl,hS.sub (xj3 _)⟩
    ·have hdp:decide (a.prot < 2)=false:=xj2 hp1;have hnx:n7 A way (addr + (i:Nat))=none:=by
      unfold n7;rw [hfa];dsimp only;rw [xf1 hneg,xf1];omega
     repeat' (first|(with_reducible apply a8 a7);rfl;rfl;rfl|(with_reducible apply a9);rfl;(apply Ld.sc a7;rfl;exact hS.blkC 0 rfl rfl);rfl|(with_reducible apply j0);rfl;rfl;omega;omega;rfl|refine yDn (by with_reducible constructor) ?_|((with_reducible apply j5);(iterate 4 rfl);first|rfl|assumption)|(with_reducible apply s9);(iterate 4 rfl);assumption;rfl|(with_reducible apply e9);rfl;assumption;rfl;rfl|(with_reducible apply f5);rfl;(first|rfl|assumption);rfl;rfl|((with_reducible apply f6);rfl;first|rfl|assumption)|(with_reducible apply d7 hS a7);rfl;rfl;rfl;clear hS;intro g w' hS|(with_reducible apply b8 hS a7 (i:=0));(iterate 8 rfl);exact (rfl:_=[_,_,_,_]);clear hS;intro w' hS;simp only [List.set] at hS|(with_reducible apply d5);rfl;all_goals (intro hb hp;try (exfalso;omega))|(with_reducible apply a0t);rfl;rfl;omega;omega;omega;rfl|(with_reducible apply d6 hS);rfl;rfl;rfl;refine ⟨_,haa _ (hL.now hS),?_⟩;clear hS;intro w' hS)
     refine f7 (i + 1) (by exact Fr.sub_of rfl) ⟨by omega,fun j hj=>?_⟩ (hS.sub (by repeat (first|exact xm0 _|apply xm3))) (by omega);by_cases e:j=i
     ·rw [e];exact hnx
     ·exact hall j (by omega)
   ·have hdv:decide (way=2)=false:=xj2 hw2;have hnx:n7 A way (addr + (i:Nat))=none:=by
     unfold n7;rw [hfa];dsimp only;rw [xf1 hneg,xf1];omega
    repeat' (first|(with_reducible apply a8 a7);rfl;rfl;rfl|(with_reducible apply j0);rfl;rfl;omega;omega;rfl|refine yDn (by with_reducible constructor) ?_|((with_reducible apply j5);(iterate 4 rfl);first|rfl|assumption)|(with_reducible apply s9);(iterate 4 rfl);assumption;rfl|(with_reducible apply f5);rfl;(first|rfl|assumption);rfl;rfl|((with_reducible apply f6);rfl;first|rfl|assumption)|(with_reducible apply d7 hS a7);rfl;rfl;rfl;clear hS;intro g w' hS|(with_reducible apply b8 hS a7 (i:=0));(iterate 8 rfl);exact (rfl:_=[_,_,_,_]);clear hS;intro w' hS;simp only [List.set] at hS|(with_reducible apply d5);rfl;all_goals (intro hb hp;try (exfalso;omega))|(with_reducible apply a0t);rfl;rfl;omega;omega;omega;rfl|(with_reducible apply d6 hS);rfl;rfl;rfl;refine ⟨_,haa _ (hL.now hS),?_⟩;clear hS;intro w' hS)
    refine f7 (i + 1) (by exact Fr.sub_of rfl) ⟨by omega,fun j hj=>?_⟩ (hS.sub (by repeat (first|exact xm0 _|apply xm3))) (by omega);by_cases e:j=i
    ·rw [e];exact hnx
    ·exact hall j (by omega)
def rkS (g:Nat) (k:KV):List Asr:=.blk g (kvC k)::frA k::slA k::a08 k::k.sp.map a0j
theorem KerV.rk {F:Nat->Prop} {w0 w:World} {Γ:List Asr} {g:Nat} {k:KV} (hS:St F w0 w (rkS g k++Γ)) (hR:KRo F w0 k):KerV w k:=by
 refine ⟨hR.sh.now hS,hS.rowSl 1 rfl,hS.rowSl 2 rfl,hS.rowSl 3 rfl,fun p hp=>⟨(hR.ar p hp).now hS,?_⟩⟩;refine hS.slMem (e:=91) (xe5 _ ?_);unfold rkS;exact xc6 _ (xc6 _ (xc6 _ (xc6 _ (xm7.2 ⟨p,hp,rfl⟩))))
theorem a8c {F:Nat->Prop} {w0 w:World} {Γ:List Asr} {g:Nat} {k:KV} (hS0:St F w0 w (rkS g k++Γ)) {e:En} (he:EntOk k e):Fn Tryz.prog 134 [.pointer (some ⟨g,0,none⟩),.agg (enC e).toArray] w (fun v w'=>v=.tuple #[]/\St (fps (rkS g k)) w w' (rkS g (a2c k e))):=by
 have hS:=St.startM hS0;obtain ⟨hn,hfr,hsl⟩:=he;generalize fps (rkS g k)=G at hS |-;obtain ⟨sh,fr,sl,sps,hand,vsh,vfr,vsl,vsp⟩:=k;dsimp only at hn hfr hsl;unfold rkS kvC frA slA a08 at hS;dsimp only [List.cons_append,List.nil_append] at hS;unfold enC;rcases hn with ⟨hk,i,hi,hil⟩|⟨hk,i,hi,hil⟩
 ·have hlv:a2c ⟨sh,fr,sl,sps,hand,vsh,vfr,vsl,vsp⟩ e=⟨sh,fr.set i (a3k (k9 fr i)),sl,sps,hand,vsh,vfr,vsl,vsp⟩:=by unfold a2c;rw [xf0 hk,hi];rfl
  rw [hlv];obtain ⟨f,hf⟩:=j3 (l:=fr) (i:=i) (by omega);have hrf:=hfr f (xd0 hf);rw [o3 hf];have hrow:=c9 (f:=fmC) hf;obtain ⟨pf,cf,rfl⟩:=hS.rowSlice 1 rfl;rw [xj1] at hS;obtain ⟨gf,rfl⟩:=hS.rowSome 1 rfl (by omega);have hd:decide (e.kind=1)=true:=xj4 hk;obtain ⟨epg,ekd,eat⟩:=e;dsimp only at hd hi hk hlv |-;subst hi;unfold fmC at hrow;unfold a3k;have e1:(fr.map fmC).set i (p7 [.string ⟨f.data.toArray⟩,.int .i64 f.refs,.bool f.dirty,.bool f.seen] 1 [.int .i64 (f.refs - 1)])=(fr.set i ⟨f.data,f.refs - 1,f.dirty,f.seen⟩).map fmC:=by rw [xl3];rfl
  have hrow1:((fr.set i ⟨f.data,f.refs - 1,f.dirty,f.seen⟩).map fmC)[i]?=some [.string ⟨f.data.toArray⟩,.int .i64 (f.refs - 1),.bool f.dirty,.bool f.seen]:=c9 (f:=fmC) (a2K (x:=(⟨f.data,f.refs - 1,f.dirty,f.seen⟩:Fm)) hil);by_cases h0:f.refs - 1=0
  ·have hd0:decide (f.refs - 1=0)=true:=xj4 h0;rw [xf0 h0];have e2:((fr.set i ⟨f.data,f.refs - 1,f.dirty,f.seen⟩).map fmC).set i (p7 [.string ⟨f.data.toArray⟩,.int .i64 (f.refs - 1),.bool f.dirty,.bool f.seen] 0 [.string ⟨#[]⟩,.int .i64 0,.bool false,.bool false])=(fr.set i fm0).map fmC:=by
    rw [xl3,xl3,xm8];rfl
   refine yEn Tryz.func134 Tryz.ntmps134 (by kernel_rfl) (by kernel_rfl) rfl rfl ?_
   repeat' (first|(with_reducible apply a8 a7);rfl;rfl;rfl|(with_reducible apply a9);rfl;(apply Ld.sc a7;rfl;exact hS.blkC 0 rfl rfl);rfl|refine yDn (by with_reducible constructor) ?_|(with_reducible apply d9);rfl;assumption|(with_reducible apply l6 hS);rfl;rfl;rfl;clear hS;intro g w' hS)
   (focus ((with_reducible apply a0b _ _ _ 12 (by kernel_rfl) (by kernel_rfl) hS);(simp only [xl4,xl5,xl8,xl9]);(repeat' ((first|(with_reducible apply a1A);rfl;rfl;omega;omega;rfl|(with_reducible apply i9 a7);rfl;rfl|(with_reducible apply i7);rfl;(intro wd hd;replace hd:St _ _ wd _:=hd;(first|apply Ld.sc a7;rfl;(first|exact hd.blkC 0 rfl rfl|exact hd.rowCj 2 rfl (by assumption) rfl)|apply Ld.sl a7;rfl;exact hd.blkC 1 rfl rfl));rfl|(with_reducible apply x7 a7);rfl;rfl;rfl;rfl;omega;rfl)));all_goals ((with_reducible apply j7);intro w' hS';clear hS;have hS:=hS';clear hS')))
   repeat' (first|refine yDn (by with_reducible constructor) ?_|(with_reducible apply t9 hS a7 (i:=2));(iterate 4 rfl);assumption;(iterate 5 rfl);intro w' hS';simp only [List.set] at hS';clear hS;have hS:=hS';clear hS')
   rw [e1] at hS
   (focus ((with_reducible apply d8 _ _ _ (by kernel_rfl) (by kernel_rfl) hS);(repeat' ((first|(with_reducible apply i9 a7);rfl;rfl|(with_reducible apply i7);rfl;(intro wd hd;replace hd:St _ _ wd _:=hd;(first|apply Ld.sc a7;rfl;(first|exact hd.blkC 0 rfl rfl|exact hd.rowCj 2 rfl (by assumption) rfl)|apply Ld.sl a7;rfl;exact hd.blkC 1 rfl rfl));rfl|(with_reducible apply x7 a7);rfl;rfl;rfl;rfl;omega;rfl)));all_goals ((with_reducible apply j7);intro w' hS';clear hS;have hS:=hS';clear hS')))
   repeat' (first|refine yDn (by with_reducible constructor) ?_|(with_reducible apply d9);rfl;assumption)
   (focus ((with_reducible apply a0b _ _ _ 8 (by kernel_rfl) (by kernel_rfl) hS);(simp only [xl4,xl5,xl8,xl9]);(repeat' ((first|(with_reducible apply i9 a7);rfl;rfl|(with_reducible apply i7);rfl;(intro wd hd;replace hd:St _ _ wd _:=hd;(first|apply Ld.sc a7;rfl;exact hd.blkC 0 rfl rfl|apply Ld.sl a7;rfl;exact hd.blkC 1 rfl rfl));rfl|(with_reducible apply x7 a7);rfl;rfl;rfl;rfl;omega;rfl|(with_reducible apply a1W a7);rfl;rfl;exact (rfl:_=some [_,_,_,_]);rfl)));all_goals ((with_reducible apply j7);intro w' hS';clear hS;have hS:=hS';clear hS')))
   repeat' (first|refine yDn (by with_reducible constructor) ?_|(with_reducible apply q7 hS a7 (i:=2));(iterate 4 rfl);assumption;(iterate 5 rfl);intro w' hS';simp only [List.set] at hS';clear hS;have hS:=hS';clear hS')
   rw [e2] at hS
   (refine b2I rfl ?_)
   exact ⟨rfl,by rw [xj1];exact hS.drop⟩
  ·have hd0:decide (f.refs - 1=0)=false:=xj2 h0;rw [xf1 h0];refine yEn Tryz.func134 Tryz.ntmps134 (by kernel_rfl) (by kernel_rfl) rfl rfl ?_
   repeat' (first|(with_reducible apply a8 a7);rfl;rfl;rfl|(with_reducible apply a9);rfl;(apply Ld.sc a7;rfl;exact hS.blkC 0 rfl rfl);rfl|refine yDn (by with_reducible constructor) ?_|(with_reducible apply d9);rfl;assumption|(with_reducible apply l6 hS);rfl;rfl;rfl;clear hS;intro g w' hS)
   (focus ((with_reducible apply a0b _ _ _ 12 (by kernel_rfl) (by kernel_rfl) hS);(simp only [xl4,xl5,xl8,xl9]);(repeat' ((first|(with_reducible apply a1A);rfl;rfl;omega;omega;rfl|(with_reducible apply i9 a7);rfl;rfl|(with_reducible apply i7);rfl;(intro wd hd;replace hd:St _ _ wd _:=hd;(first|apply Ld.sc a7;rfl;(first|exact hd.blkC 0 rfl rfl|exact hd.rowCj 2 rfl (by assumption) rfl)|apply Ld.sl a7;rfl;exact hd.blkC 1 rfl rfl));rfl|(with_reducible apply x7 a7);rfl;rfl;rfl;rfl;omega;rfl)));all_goals ((with_reducible apply j7);intro w' hS';clear hS;have hS:=hS';clear hS')))
   repeat' (first|refine yDn (by with_reducible constructor) ?_|(with_reducible apply t9 hS a7 (i:=2));(iterate 4 rfl);assumption;(iterate 5 rfl);intro w' hS';simp only [List.set] at hS';clear hS;have hS:=hS';clear hS')
   rw [e1] at hS
   (focus ((with_reducible apply d8 _ _ _ (by kernel_rfl) (by kernel_rfl) hS);(repeat' ((first|(with_reducible apply i9 a7);rfl;rfl|(with_reducible apply i7);rfl;(intro wd hd;replace hd:St _ _ wd _:=hd;(first|apply Ld.sc a7;rfl;(first|exact hd.blkC 0 rfl rfl|exact hd.rowCj 2 rfl (by assumption) rfl)|apply Ld.sl a7;rfl;exact hd.blkC 1 rfl rfl));rfl|(with_reducible apply x7 a7);rfl;rfl;rfl;rfl;omega;rfl)));all_goals ((with_reducible apply j7);intro w' hS';clear hS;have hS:=hS';clear hS')))
   repeat' (first|refine yDn (by with_reducible constructor) ?_|(with_reducible apply f6);rfl;assumption)
   (refine b2I rfl ?_)
   exact ⟨rfl,by rw [xj1];exact hS.drop⟩
 ·have hlv:a2c ⟨sh,fr,sl,sps,hand,vsh,vfr,vsl,vsp⟩ e=⟨sh,fr,sl.set i (a3h (a0I sl i)),sps,hand,vsh,vfr,vsl,vsp⟩:=by unfold a2c;rw [xf1 hk,hi];rfl
  rw [hlv];obtain ⟨f,hf⟩:=j3 (l:=sl) (i:=i) (by omega);have hrf:=hsl f (xd0 hf);rw [a1i hf];have hrow:=c9 (f:=swC) hf;obtain ⟨pf,cf,rfl⟩:=hS.rowSlice 2 rfl;rw [xj1] at hS;obtain ⟨gf,rfl⟩:=hS.rowSome 2 rfl (by omega);have hd:decide (e.kind=1)=false:=xj2 hk;obtain ⟨epg,ekd,eat⟩:=e;dsimp only at hd hi hk hlv |-;subst hi;unfold swC at hrow;unfold a3h;have e1:(sl.map swC).set i (p7 [.string ⟨f.data.toArray⟩,.int .i64 f.refs] 1 [.int .i64 (f.refs - 1)])=(sl.set i ⟨f.data,f.refs - 1⟩).map swC:=by rw [xl3];rfl
  have hrow1:((sl.set i ⟨f.data,f.refs - 1⟩).map swC)[i]?=some [.string ⟨f.data.toArray⟩,.int .i64 (f.refs - 1)]:=c9 (f:=swC) (a2K (x:=(⟨f.data,f.refs - 1⟩:Sw)) hil);by_cases h0:f.refs - 1=0
  ·have hd0:decide (f.refs - 1=0)=true:=xj4 h0;rw [xf0 h0];have e2:((sl.set i ⟨f.data,f.refs - 1⟩).map swC).set i (p7 [.string ⟨f.data.toArray⟩,.int .i64 (f.refs - 1)] 0 [.string ⟨#[]⟩,.int .i64 0])=(sl.set i sw0).map swC:=by
    rw [xl3,xl3,xm8];rfl
   refine yEn Tryz.func134 Tryz.ntmps134 (by kernel_rfl) (by kernel_rfl) rfl rfl ?_
   repeat' (first|(with_reducible apply a8 a7);rfl;rfl;rfl|(with_reducible apply a9);rfl;(apply Ld.sc a7;rfl;exact hS.blkC 0 rfl rfl);rfl|refine yDn (by with_reducible constructor) ?_|(with_reducible apply f6);rfl;assumption|(with_reducible apply l6 hS);rfl;rfl;rfl;clear hS;intro g w' hS)
   (focus ((with_reducible apply a0b _ _ _ 12 (by kernel_rfl) (by kernel_rfl) hS);(simp only [xl4,xl5,xl8,xl9]);(repeat' ((first|(with_reducible apply a1A);rfl;rfl;omega;omega;rfl|(with_reducible apply i9 a7);rfl;rfl|(with_reducible apply i7);rfl;(intro wd hd;replace hd:St _ _ wd _:=hd;(first|apply Ld.sc a7;rfl;(first|exact hd.blkC 0 rfl rfl|exact hd.rowCj 3 rfl (by assumption) rfl)|apply Ld.sl a7;rfl;exact hd.blkC 1 rfl rfl));rfl|(with_reducible apply x7 a7);rfl;rfl;rfl;rfl;omega;rfl)));all_goals ((with_reducible apply j7);intro w' hS';clear hS;have hS:=hS';clear hS')))
   repeat' (first|refine yDn (by with_reducible constructor) ?_|(with_reducible apply t9 hS a7 (i:=3));(iterate 4 rfl);assumption;(iterate 5 rfl);intro w' hS';simp only [List.set] at hS';clear hS;have hS:=hS';clear hS')
   rw [e1] at hS
   (focus ((with_reducible apply d8 _ _ _ (by kernel_rfl) (by kernel_rfl) hS);(repeat' ((first|(with_reducible apply i9 a7);rfl;rfl|(with_reducible apply i7);rfl;(intro wd hd;replace hd:St _ _ wd _:=hd;(first|apply Ld.sc a7;rfl;(first|exact hd.blkC 0 rfl rfl|exact hd.rowCj 3 rfl (by assumption) rfl)|apply Ld.sl a7;rfl;exact hd.blkC 1 rfl rfl));rfl|(with_reducible apply x7 a7);rfl;rfl;rfl;rfl;omega;rfl)));all_goals ((with_reducible apply j7);intro w' hS';clear hS;have hS:=hS';clear hS')))
   repeat' (first|refine yDn (by with_reducible constructor) ?_|(with_reducible apply d9);rfl;assumption)
   (focus ((with_reducible apply a0b _ _ _ 8 (by kernel_rfl) (by kernel_rfl) hS);(simp only [xl4,xl5,xl8,xl9]);(repeat' ((first|(with_reducible apply i9 a7);rfl;rfl|(with_reducible apply i7);rfl;(intro wd hd;replace hd:St _ _ wd _:=hd;(first|apply Ld.sc a7;rfl;exact hd.blkC 0 rfl rfl|apply Ld.sl a7;rfl;exact hd.blkC 1 rfl rfl));rfl|(with_reducible apply x7 a7);rfl;rfl;rfl;rfl;omega;rfl|(with_reducible apply a1W a7);rfl;rfl;exact (rfl:_=some [_,_]);rfl)));all_goals ((with_reducible apply j7);intro w' hS';clear hS;have hS:=hS';clear hS')))
   repeat' (first|refine yDn (by with_reducible constructor) ?_|(with_reducible apply q7 hS a7 (i:=3));(iterate 4 rfl);assumption;(iterate 5 rfl);intro w' hS';simp only [List.set] at hS';clear hS;have hS:=hS';clear hS')
   rw [e2] at hS
   (refine a56 rfl ?_)
   exact ⟨rfl,by rw [xj1];exact hS.drop⟩
  ·have hd0:decide (f.refs - 1=0)=false:=xj2 h0;rw [xf1 h0];refine yEn Tryz.func134 Tryz.ntmps134 (by kernel_rfl) (by kernel_rfl) rfl rfl ?_
   repeat' (first|(with_reducible apply a8 a7);rfl;rfl;rfl|(with_reducible apply a9);rfl;(apply Ld.sc a7;rfl;exact hS.blkC 0 rfl rfl);rfl|refine yDn (by with_reducible constructor) ?_|(with_reducible apply f6);rfl;assumption|(with_reducible apply l6 hS);rfl;rfl;rfl;clear hS;intro g w' hS)
   (focus ((with_reducible apply a0b _ _ _ 12 (by kernel_rfl) (by kernel_rfl) hS);(simp only [xl4,xl5,xl8,xl9]);(repeat' ((first|(with_reducible apply a1A);rfl;rfl;omega;omega;rfl|(with_reducible apply i9 a7);rfl;rfl|(with_reducible apply i7);rfl;(intro wd hd;replace hd:St _ _ wd _:=hd;(first|apply Ld.sc a7;rfl;(first|exact hd.blkC 0 rfl rfl|exact hd.rowCj 3 rfl (by assumption) rfl)|apply Ld.sl a7;rfl;exact hd.blkC 1 rfl rfl));rfl|(with_reducible apply x7 a7);rfl;rfl;rfl;rfl;omega;rfl)));all_goals ((with_reducible apply j7);intro w' hS';clear hS;have hS:=hS';clear hS')))
   repeat' (first|refine yDn (by with_reducible constructor) ?_|(with_reducible apply t9 hS a7 (i:=3));(iterate 4 rfl);assumption;(iterate 5 rfl);intro w' hS';simp only [List.set] at hS';clear hS;have hS:=hS';clear hS')
   rw [e1] at hS
   (focus ((with_reducible apply d8 _ _ _ (by kernel_rfl) (by kernel_rfl) hS);(repeat' ((first|(with_reducible apply i9 a7);rfl;rfl|(with_reducible apply i7);rfl;(intro wd hd;replace hd:St _ _ wd _:=hd;(first|apply Ld.sc a7;rfl;(first|exact hd.blkC 0 rfl rfl|exact hd.rowCj 3 rfl (by assumption) rfl)|apply Ld.sl a7;rfl;exact hd.blkC 1 rfl rfl));rfl|(with_reducible apply x7 a7);rfl;rfl;rfl;rfl;omega;rfl)));all_goals ((with_reducible apply j7);intro w' hS';clear hS;have hS:=hS';clear hS')))
   repeat' (first|refine yDn (by with_reducible constructor) ?_|(with_reducible apply f6);rfl;assumption)
   (refine a56 rfl ?_)
   exact ⟨rfl,by rw [xj1];exact hS.drop⟩
end Go.Proofs.YtejnpppejalhfabGreat
