/- Texts that the proof stands on, one behind the other: Cx6, Cx7, Cx8, Cx9, Cx10, Cx11, Cx12. -/
import Derived.Test.YtejnpppejalhfadGreatPFlatPeeks6
set_option linter.unusedVariables false
set_option linter.unusedSimpArgs false
namespace Go.Proofs.YtejnpppejalhfadGreat
set_option maxRecDepth 100000
set_option maxHeartbeats 8000000
open Go.RowKit Go.Sort
section
variable {P:Program} {T:TT} {q:EqT} {ρ:Ren} {N:Nat} {ds:List Deferred} {a:Act} {E:Fr} {v:Value}
def Yl (P:Program) (ρ:Ren) (a:Act) (op:Op) (v:Value):Prop:=∃ u,VR ρ v u/\∀ dst ty pos after,t8 P ⟨dst,op,ty,pos,after,none⟩ a u
theorem Yl.pure {op:Op} {u:Value} {Tb:Tab} (hTb:TabOk P Tb) (ha:HasR ρ N ds a E) (hv:VR ρ v u) (h:j9 Tb (t9 a) op=some u):Yl P ρ a op v :=
 ⟨u,hv,fun _ _ _ _=>t7 hTb ha.full h⟩
theorem b0E (ha:HasR ρ N ds a E) {c x y:Operand} (h:a76 E c x y=some v):Yl P ρ a (.pick c x y) v:=by
 unfold a76 at h
 split at h
 ·rename_i hc;obtain ⟨u,hu,hx⟩:=ha.ev h;obtain ⟨b,hb,hc⟩:=ha.ev hc;rw [VR.bool hb] at hc;exact ⟨u,hu,fun _ _ _ _ w=>by simp [execOp,ha.full.ev hc,asBool,ha.full.ev hx]⟩
 ·rename_i hc;obtain ⟨u,hu,hx⟩:=ha.ev h;obtain ⟨b,hb,hc⟩:=ha.ev hc;rw [VR.bool hb] at hc;exact ⟨u,hu,fun _ _ _ _ w=>by simp [execOp,ha.full.ev hc,asBool,ha.full.ev hx]⟩
 ·cases h
theorem b01 (ha:HasR ρ N ds a E) {x:Operand} (h:b0t E x=some v):Yl P ρ a (.nilCheck x) v:=by
 unfold b0t at h
 split at h
 ·rename_i p hx
  cases h
  obtain ⟨u,hu,hx⟩:=ha.ev hx;obtain ⟨p',rfl,hp⟩:=VR.ptrAny hu
  cases p' with
  |none=>cases hp
  |some p'=>exact Yl.pure (TabOk.nil P) ha hu (by simp only [j9,hx])
 ·cases h
theorem b1R (hT:TOk P T) (ha:HasR ρ N ds a E) {s:TypeId} {x:Operand} {f:Nat} (h:sFA T E s x f=some v):Yl P ρ a (.fieldAddr s x f) v:=by
 unfold sFA at h
 split at h
 ·rename_i sz fs z g k hs hx;obtain ⟨Tb,hTb,hget⟩:=hT.tabs [s];obtain ⟨u,hu,hx⟩:=ha.ev hx;obtain ⟨y,hy,rfl⟩:=VR.ptr hu;rw [n9] at h
  split at h
  ·rename_i o n b hf
   cases h
   refine Yl.pure hTb ha (VR.mkPtr hy) ?_;simp only [j9,hget s _ (by simp) hs,hx,hf]
   cases e:Nat.beq o 0 with
   |true=>rw [xa8 e];rfl
   |false=>rfl
  ·cases h
 ·cases h
theorem b1a (ha:HasR ρ N ds a E) {x:Operand} {i:Nat} (h:b0C E x i=some v):Yl P ρ a (.extract x i) v:=by
 unfold b0C at h
 split at h
 ·rename_i vs hx;obtain ⟨u,hu,hx⟩:=ha.ev hx;obtain ⟨m,rfl,hm⟩:=VR.tup hu;rw [n9] at h;obtain ⟨w,hw,hv⟩:=hm.get h;exact Yl.pure (TabOk.nil P) ha hv (by simp only [j9,hx];exact hw)
 ·cases h
theorem b1x (ha:HasR ρ N ds a E) {op:UnOp} {t:TypeId} {x:Operand} (h:a9R E op x=some v):Yl P ρ a (.unOp op t x) v:=by
 unfold a9R at h
 split at h
 ·rename_i b hx
  cases h
  obtain ⟨u,hu,hx⟩:=ha.ev hx;rw [VR.bool hu] at hx;exact Yl.pure (TabOk.nil P) ha (VR.cOk rfl) (by simp only [j9,hx])
 ·cases h
theorem b1P (ha:HasR ρ N ds a E) {fn:Go.Fn} {x y:Array Operand} (h:sMF E fn x y=some v):Yl P ρ a (.makeFunc fn x y) v:=by
 unfold sMF at h
 split at h
 ·rename_i us vs h1 h2
  cases h
  obtain ⟨us',h3,h4⟩:=ha.evs h1;obtain ⟨vs',h5,h6⟩:=ha.evs h2;exact Yl.pure (TabOk.nil P) ha (VR.mkFun h3 h5) (by simp only [j9,h4,h6])
 ·cases h
theorem b1N (hT:TOk P T) (ha:HasR ρ N ds a E) {s t:TypeId} {x:Operand} (h:sCv T E s t x=some v):Yl P ρ a (.convert s t x) v:=by
 obtain ⟨Tb,hTb,hget⟩:=hT.tabs [s,t];unfold sCv at h
 split at h
 ·rename_i hs ht hx
  cases h
  obtain ⟨u,hu,hx⟩:=ha.ev hx;rw [VR.int hu] at hx;exact Yl.pure hTb ha (VR.cOk rfl) (by simp only [j9,hget s _ (by simp) hs,hget t _ (by simp) ht,hx])
 ·rename_i hs ht hx
  cases h
  obtain ⟨u,hu,hx⟩:=ha.ev hx;rw [VR.str hu] at hx;exact Yl.pure hTb ha (VR.cOk rfl) (by simp only [j9,hget s _ (by simp) hs,hget t _ (by simp) ht,hx])
 ·cases h
theorem b1Q (hT:TOk P T) (hq:QOk P q) (ha:HasR ρ N ds a E) {op:BinOp} {t yt:TypeId} {x y:Operand} (h:sBO T q E op t x y=some v):Yl P ρ a (.binOp op t x y yt) v:=by
 obtain ⟨Tb,hTb,hget⟩:=hT.tabs [t];unfold sBO at h
 split at h
 ·rename_i v1 v2 hx hy;obtain ⟨u1,hu1,gx⟩:=ha.ev hx;obtain ⟨u2,hu2,gy⟩:=ha.ev hy;clear hx hy;unfold b1i at h
  split at h
  ·rw [VR.int hu1] at gx;rw [VR.int hu2] at gy;exact ⟨v,a30 h,fun _ _ _ _=>b0d ha gx gy h⟩
  ·rw [VR.str hu1] at gx;rw [VR.str hu2] at gy;unfold a9o at h
   split at h
   ·cases h
    exact Yl.pure hTb ha (VR.cOk rfl) (by simp only [j9,gx,gy,a5S])
   ·cases h
    exact Yl.pure hTb ha (VR.cOk rfl) (by simp only [j9,gx,gy,a5S])
   ·obtain ⟨h1,h2⟩:=a8 h
    cases h2
    have h1:=xe5 h1;exact ⟨_,VR.cOk rfl,fun _ _ _ _=>b1A gx gy (by omega) a ha.full _⟩
   ·cases h
  ·rw [VR.bool hu1] at gx;rw [VR.bool hu2] at gy;unfold a9s at h
   split at h
   ·rename_i ht
    cases h
    exact ⟨_,VR.cOk rfl,fun _ _ _ _=>b05 hTb (hget t _ (by simp) ht) gx gy a ha.full _⟩
   ·rename_i ht
    cases h
    exact ⟨_,VR.cOk rfl,fun _ _ _ _=>a9B hTb (hget t _ (by simp) ht) gx gy a ha.full _⟩
   ·cases h
  ·obtain ⟨p',c',rfl,hp⟩:=VR.slAny hu1;rw [VR.sl0 hu2] at gy;unfold a9z at h
   split at h
   ·rename_i ht
    cases h
    rw [<- hp];exact ⟨_,VR.cOk rfl,fun _ _ _ _=>a87 hTb (hget t _ (by simp) ht) gx gy a ha.full _⟩
   ·cases h
  ·obtain ⟨p',rfl,hp⟩:=VR.ptrAny hu1;rw [VR.ptr0 hu2] at gy;unfold a9F at h
   split at h
   ·rename_i ht
    cases h
    rw [<- hp];obtain ⟨i,hun,_⟩:=hTb.sc (hget t _ (by simp) ht);refine ⟨_,VR.cOk rfl,fun _ _ _ _=>a85 ?_ gx gy a ha.full _⟩;rw [hun];unfold Program.pointee;rw [hun]
   ·cases h
  ·obtain ⟨m1,rfl,hm1⟩:=VR.agg hu1;obtain ⟨m2,rfl,hm2⟩:=VR.agg hu2;unfold a9x at h
   split at h
   ·rename_i s hs
    split at h
    ·rename_i b hb
     cases h
     obtain rfl:=a35 hb hm1;obtain rfl:=a2C hb hm2;exact ⟨_,VR.cOk rfl,fun _ _ _ _=>a9I gx gy (hq t s hs _ _ _ hb) a ha.full _⟩
    ·rename_i b hb
     cases h
     obtain rfl:=a35 hb hm1;obtain rfl:=a2C hb hm2;exact ⟨_,VR.cOk rfl,fun _ _ _ _=>b1e gx gy (hq t s hs _ _ _ hb) a ha.full _⟩
    ·cases h
   ·cases h
  ·cases h
 ·cases h
theorem a5F {α:Type} {a:Array α} {x:α} (h:a.toList=[x]):a=#[x]:=by cases a;simp_all
theorem a6Q {α:Type} {a:Array α} {x y:α} (h:a.toList=[x,y]):a=#[x,y]:=by cases a;simp_all
theorem b1W (hT:TOk P T) (ha:HasR ρ N ds a E) {c:Call} (h:sCP T E c=some v):Yl P ρ a (.call c) v:=by
 obtain ⟨cl,args,ats⟩:=c;unfold sCP at h
 split at h
 ·rename_i b hc;dsimp only at hc h;subst hc;unfold b1B at h
  split at h
  ·rename_i x t h1 h2;obtain rfl:=a5F h1;obtain rfl:=a5F h2
   split at h
   ·rename_i v1 hx;obtain ⟨u1,hu1,gx⟩:=ha.ev hx;clear hx;obtain ⟨Tb,hTb,hget⟩:=hT.tabs [t];unfold b1D at h
    split at h
    ·rename_i ht
     cases h
     obtain ⟨p',c',rfl,hp⟩:=VR.slAny hu1;exact Yl.pure hTb ha (VR.cOk rfl) (by simp only [j9,hget t _ (by simp) ht,gx])
    ·rename_i ht
     cases h
     rw [VR.str hu1] at gx;exact Yl.pure hTb ha (VR.cOk rfl) (by simp only [j9,hget t _ (by simp) ht,gx])
    ·cases h
   ·cases h
  ·rename_i x t h1 h2;obtain rfl:=a5F h1;obtain rfl:=a5F h2
   split at h
   ·rename_i v1 hx;obtain ⟨u1,hu1,gx⟩:=ha.ev hx;clear hx;obtain ⟨Tb,hTb,hget⟩:=hT.tabs [t];unfold b1u at h
    split at h
    ·rename_i ht
     cases h
     rw [VR.sl0 hu1] at gx;exact ⟨_,VR.cOk rfl,fun _ _ _ _=>b00 hTb (hget t _ (by simp) ht) gx a ha.full _⟩
    ·cases h
   ·cases h
  ·rename_i x y _ h1;obtain rfl:=a6Q h1
   split at h
   ·rename_i m k hx hy
    cases h
    obtain ⟨u1,hu1,hx⟩:=ha.ev hx;obtain ⟨u2,hu2,hy⟩:=ha.ev hy;rw [VR.int hu1] at hx;rw [VR.int hu2] at hy;exact ⟨_,VR.cOk rfl,fun _ _ _ _=>b1t hx hy a ha.full _⟩
   ·cases h
  ·cases h
 ·cases h
theorem b1r (hT:TOk P T) (ha:HasR ρ N ds a E) {s:TypeId} {x:Operand} {f:Nat} (h:a9N T E s x f=some v):Yl P ρ a (.field s x f) v:=by
 obtain ⟨Tb,hTb,hget⟩:=hT.tabs [s];unfold a9N at h
 split at h
 ·rename_i sz fs z c hs hx;obtain ⟨u,hu,hx⟩:=ha.ev hx;obtain ⟨m,rfl,hm⟩:=VR.agg hu;rw [n9] at h
  split at h
  ·rename_i o n hf
   cases h
   exact Yl.pure hTb ha (VR.mkAgg (hm.drop o|>.take n)) (by simp only [j9,hget s _ (by simp) hs,hx,hf])
  ·rename_i o n hf;rw [n9] at h;obtain ⟨w,hw,hv⟩:=hm.get h;exact Yl.pure hTb ha hv (by simp only [j9,hget s _ (by simp) hs,hx,hf];exact hw)
  ·cases h
 ·cases h
theorem VR.cells {u:Value} (h:VR ρ v u):LR ρ v.cells.toList u.cells.toList:=by
 have h0:=h;unfold VR m8 at h
 split at h
 all_goals first
  |(cases h;exact LR.cons h0 LR.nil;done)
  |(obtain ⟨x,hx,rfl⟩:=xk1.1 h;exact LR.cons h0 LR.nil;done)
  |(obtain ⟨x,hx,rfl⟩:=xk1.1 h;exact hx;done)
  |(obtain ⟨_,_,h⟩:=xi4.1 h;obtain ⟨_,_,rfl⟩:=xk1.1 h;exact LR.cons h0 LR.nil;done)
  |(cases h;done)
theorem PR.cons_inv {i:Nat} {x:Value} {r m:List (Nat×Value)} (h:PR ρ ((i,x)::r) m):∃ u m',m=(i,u)::m'/\VR ρ x u/\PR ρ r m':=by
 obtain ⟨h1,h2⟩:=h
 cases m with
 |nil=>cases h1
 |cons p m'=>
  obtain ⟨j,u⟩:=p;obtain ⟨u',r',e,h3,h4⟩:=LR.inv h2;simp only [xa9,List.cons.injEq] at h1 e;obtain ⟨rfl,h1⟩:=h1;obtain ⟨rfl,rfl⟩:=e;exact ⟨u,m',rfl,h3,h1,h4⟩
theorem PR.nil_inv {m:List (Nat×Value)} (h:PR ρ [] m):m=[]:=by
 obtain ⟨h1,_⟩:=h
 simpa using h1
theorem a27 {pl:Nat->Option (Nat×Nat)}:∀ {ps qs:List (Nat×Value)} {L M L':List Value},LR ρ L M->PR ρ ps qs->y6 pl L ps=some L'->∃ M',y6 pl M qs=some M'/\LR ρ L' M'
 |[],qs,L,M,L',hL,hp,h=>by
  rw [PR.nil_inv hp]
  cases h
  exact ⟨M,rfl,hL⟩
 |(i,x)::r,qs,L,M,L',hL,hp,h=>by
  obtain ⟨u,m',rfl,hx,hr⟩:=PR.cons_inv hp;simp only [y6] at h |-
  split at h
  ·rename_i o s ho;have hc:=hx.cells
   cases e:(Nat.beq x.cells.toList.length s && Nat.ble (o + s) L.length) with
   |false=>rw [e] at h;cases h
   |true=>
    rw [e] at h;rw [hc.len,hL.len,e];exact a27 (hL.setLs hc) hr h
  ·cases h
def TI.zeros:TI->List Value
 |.sc _ _ z=>z.cells.toList
 |.st _ _ z=>z
 |.ar _ _ _ _ z=>z
 |.sl _ _ _ _ z=>z
def ZOk (T:TT):Prop:=∀ t ti,T.get t=some ti->ti.zeros.all cOk=true
theorem LR.cOks:∀ {l:List Value},l.all cOk=true->LR ρ l l
 |[],_=>LR.nil
 |x::l,h=>by
  simp only [xg4,xb6] at h;exact LR.cons (VR.cOk h.1) (LR.cOks h.2)
theorem b1q (hT:TOk P T) (hZ:ZOk T) (ha:HasR ρ N ds a E) {t:TypeId} {parts:Array (Nat×Operand)} (h:a95 T E t parts=some v):Yl P ρ a (.build t parts) v:=by
 obtain ⟨Tb,hTb,hget⟩:=hT.tabs [t];unfold a95 at h
 split at h
 ·rename_i sz fs z ps ht hp;obtain ⟨qs,hq,hp⟩:=ha.evP hp;obtain ⟨L,hL,rfl⟩:=xk1.1 h;have hfun:(fun i=>(a0L fs i).map fun f=>(f.1,f.2.1))=fun i=>(fs[i]?).map fun f=>(f.1,f.2.1):=by funext i;rw [n9]
  rw [hfun] at hL;obtain ⟨M,hM,hr⟩:=a27 (LR.cOks (hZ t _ ht)) hq hL;exact ⟨_,VR.mkAgg hr,fun _ _ _ _=>a3f hTb (hget t _ (by simp) ht) hp hM a ha.full⟩
 ·cases h
theorem b1Y (hT:TOk P T) (ha:HasR ρ N ds a E) {t:TypeId} {x y:Operand} (h:sIA T E t x y=some v):Yl P ρ a (.indexAddr t x y) v:=by
 obtain ⟨Tb,hTb,hget⟩:=hT.tabs [t];unfold sIA at h
 split at h
 ·rename_i ht hx hy;obtain ⟨h1,h2⟩:=a8 h
  cases h2
  obtain ⟨u,hu,hx⟩:=ha.ev hx;obtain ⟨z,hz,rfl⟩:=VR.sl hu;obtain ⟨u2,hu2,hy⟩:=ha.ev hy;rw [VR.int hu2] at hy;exact ⟨_,VR.mkPtr hz,fun _ _ _ _=>a8c hTb (hget t _ (by simp) ht) hx hy rfl (by simpa [xb0] using h1) a ha.full _⟩
 ·rename_i ht hx hy;obtain ⟨h1,h2⟩:=a8 h
  cases h2
  obtain ⟨u,hu,hx⟩:=ha.ev hx;obtain ⟨z,hz,rfl⟩:=VR.ptr hu;obtain ⟨u2,hu2,hy⟩:=ha.ev hy;rw [VR.int hu2] at hy;exact ⟨_,VR.mkPtr hz,fun _ _ _ _=>b1C hTb (hget t _ (by simp) ht) hx hy rfl (by simpa [xb0] using h1) a ha.full _⟩
 ·cases h
theorem b1E (hT:TOk P T) (ha:HasR ρ N ds a E) {t:TypeId} {x y:Operand} (h:sIx T E t x y=some v):Yl P ρ a (.index t x y) v:=by
 obtain ⟨Tb,hTb,hget⟩:=hT.tabs [t];unfold sIx at h
 split at h
 ·rename_i ht hx hy;rw [n9] at h;obtain ⟨c,hc,rfl⟩:=xk1.1 h;obtain ⟨u,hu,hx⟩:=ha.ev hx;rw [VR.str hu] at hx;obtain ⟨u2,hu2,hy⟩:=ha.ev hy;rw [VR.int hu2] at hy;exact ⟨_,VR.cOk rfl,fun _ _ _ _=>b1d hTb (hget t _ (by simp) ht) hx hy rfl hc a ha.full _⟩
 ·cases h
theorem a5n (ha:HasR ρ N ds a E) {o:Option Operand} {o':Option Value} {z y i:Nat} (h:a8m E o=some o') (hb:sBd o' z y=some i):o.map a.eval=o':=by
 cases o with
 |none=>cases h;rfl
 |some x=>
  obtain ⟨v,hv,rfl⟩:=xk1.1 (show (sEv E x).map some=some o' from h);obtain ⟨u,hu,hx⟩:=ha.ev hv;unfold sBd at hb
  split at hb
  ·rename_i e;cases e
  ·rename_i e
   cases e
   rw [VR.int hu] at hx;simp [ha.full.ev hx]
  ·cases hb
theorem a1T {o:Value} {z y i y':Nat} {code:BoundsCode} (h:sBd (some o) z y=some i) (hy:y<=y') (w:World):(Instr.sliceBound o y' code).run P w=.ok i w:=by
 unfold sBd at h
 split at h
 ·rename_i e;cases e
 ·rename_i e
  cases e
  obtain ⟨h1,h2⟩:=a8 h
  cases h2
  have h1:=xe5 h1;simp [Instr.sliceBound,asIntOf,show i<=y' by omega]
 ·cases h
theorem a1Z (ha:HasR ρ N ds a E) {lo hi:Option Operand} {len cap cap' l h:Nat} {b:Bool} (hb:a7R E lo hi len cap=some (l,h)) (hc:cap<=cap') (w:World):(Instr.sliceBounds b len cap' (lo.map a.eval) (hi.map a.eval) none).run P w=.ok (l,h,cap') w:=by
 unfold a7R at hb
 split at hb
 ·rename_i lo' hi' h1 h2
  split at hb
  ·rename_i h' hh
   split at hb
   ·rename_i a' hl
    cases hb
    rw [a5n ha h1 hl,a5n ha h2 hh]
    cases hi' with
    |none=>
     cases hh
     cases lo' with
     |none=>cases hl;simp [Instr.sliceBounds]
     |some o=>simp [Instr.sliceBounds,a1T hl (xc4 _)]
    |some o2=>
     cases lo' with
     |none=>cases hl;simp [Instr.sliceBounds,a1T hh hc]
     |some o=>simp [Instr.sliceBounds,a1T hl (xc4 _),a1T hh hc]
   ·cases hb
  ·cases hb
 ·cases hb
theorem b1J (hT:TOk P T) (ha:HasR ρ N ds a E) {t:TypeId} {x:Operand} {lo hi mx:Option Operand} (h:sSl T E t x lo hi mx=some v):Yl P ρ a (.slice t x lo hi mx) v:=by
 obtain ⟨Tb,hTb,hget⟩:=hT.tabs [t];unfold sSl at h
 split at h
 ·rename_i _ _ L ht hx
  split at h
  ·rename_i l h' hb
   cases h
   obtain ⟨u,hu,hx⟩:=ha.ev hx;rw [VR.str hu] at hx;obtain ⟨_,hu,_⟩:=hTb.sc (hget t _ (by simp) ht);refine ⟨_,VR.cOk rfl,fun _ _ _ _ w=>?_⟩;have hr:=a1Z (P:=P) (b:=false) ha hb (xc4 _) w;simp only [execOp,ha.full.ev hx,xi3];have hs:(⟨⟨L⟩⟩:ByteArray).size=L.length:=rfl;simp only [Sem.run_bind,run_sliceAt_string w t _ _ _ _ hu];simp [Instr.slice,run_underlying hu,hs,hr,Result.andThen];exact a32 _ _ _
  ·cases h
 ·rename_i el sz eb ag z b off m c ht hx
  split at h
  ·rename_i l h' hb;obtain ⟨h1,h2⟩:=a8 h
   cases h2
   obtain ⟨u,hu,hx⟩:=ha.ev hx;obtain ⟨y,hy,rfl⟩:=VR.sl hu;obtain ⟨ji,zv,hun,hinfo,_,hs,_⟩:=hTb.sl (hget t _ (by simp) ht);have hr:=a1Z (P:=P) (b:=true) ha hb (show c<=c + y.2 by omega);refine ⟨.slice (some ⟨y.1,off + l * sz,none⟩) (h' - l) (c + y.2 - l),?_,fun _ _ _ _ w=>?_⟩
   ·have e:c + y.2 - l=(c - l) + y.2:=by
     rw [Bool.or_eq_true] at h1;rcases h1 with h1|h1
     ·rw [xa8 h1];omega
     ·have h1:l < c:=by simpa [xb0] using h1
      omega
    rw [e];exact VR.mkSl hy
   ·simp only [execOp,ha.full.ev hx,xi3];simp [Instr.sliceAt,Instr.slice,run_underlying hun,hr w,sizeOf,typeInfo,hinfo,hs];rw [Bool.or_eq_true] at h1;rcases h1 with h1|h1
    ·rw [xa8 h1];simp [Addr.add]
    ·have h1:l < c:=by simpa [xb0] using h1
     rw [xd7 (by omega),a3P]
  ·cases h
 ·rename_i el sz eb ag z m c ht hx
  split at h
  ·rename_i l h' hb
   cases h
   obtain ⟨u,hu,hx⟩:=ha.ev hx;rw [VR.sl0 hu] at hx;obtain ⟨ji,zv,hun,hinfo,_,hs,_⟩:=hTb.sl (hget t _ (by simp) ht);have hr:=a1Z (P:=P) (b:=true) ha hb (xc4 _);refine ⟨_,VR.cOk rfl,fun _ _ _ _ w=>?_⟩;simp only [execOp,ha.full.ev hx,xi3];simp [Instr.sliceAt,Instr.slice,run_underlying hun,hr w,sizeOf,typeInfo,hinfo,hs]
  ·cases h
 ·cases h
theorem a6W (hT:TOk P T) (hZ:ZOk T) (hq:QOk P q) (ha:HasR ρ N ds a E) {op:Op} (h:a5k T q E op=some v):Yl P ρ a op v:=by
 unfold a5k at h
 split at h
 ·obtain ⟨u,hu,hx⟩:=ha.ev h;exact Yl.pure (TabOk.nil P) ha hu (by simp only [j9,hx])
 ·obtain ⟨u,hu,hx⟩:=ha.ev h;exact Yl.pure (TabOk.nil P) ha hu (by simp only [j9,hx])
 ·exact b0E ha h
 ·exact b01 ha h
 ·exact b1R hT ha h
 ·exact b1a ha h
 ·exact b1x ha h
 ·exact b1Q hT hq ha h
 ·exact b1P ha h
 ·exact b1N hT ha h
 ·exact b1W hT ha h
 ·exact b1r hT ha h
 ·exact b1q hT hZ ha h
 ·exact b1Y hT ha h
 ·exact b1E hT ha h
 ·exact b1J hT ha h
 ·cases h
end
def RR (ρ:Ren) (l m:List (List Value)):Prop:=m.length=l.length/\∀ (i:Nat) r,l[i]?=some r->∃ s,m[i]?=some s/\LR ρ r s
def R2 (ρ:Ren) (l m:List (Value×Value)):Prop:=m.map (·.1)=l.map (·.1)/\LR ρ (l.map (·.2)) (m.map (·.2))
def Fits (P:Program) (ρ:Ren) (x:Nat):SA->Obj->Prop
 |.blk L,o=>∃ M t,LR ρ L M/\o=.cells M.toArray t (0,0)
 |.row e sz rows cap u,o=>∃ rs cur,RR ρ rows rs/\o=.cells cur e (0,0)/\rs.length<=cap + x/\cap + x<=maxLen/\cur.size=(cap + x) * sz/\cur.toList.take (rs.length * sz)=rs.flatten/\(∀ r ∈ rs,r.length=sz)/\(∀ r ∈ rs,r.all (·.oneCell')=true)/\(u=false->x=0)
 |.smap t es,o=>∃ arr c Kt Et D L,P.underlying t=some (.map Kt Et)/\P.underlying Kt=some D/\o=.map arr c/\MapG D arr L/\R2 ρ es L/\∀ p ∈ es,(∃ n,p.1=.int .i64 n)\/∃ s,p.1=.string s
 |.siter l k,o=>o=.stringIter ⟨l.toArray⟩ k
structure Inv (P:Program) (w0:World) (ρ:Ren) (H:SH) (w:World):Prop where
 below:Below w0.heap.size w0 w
 held:∀ i s,d4 H i=some s->∃ x o,ρ i=some x/\w.heap[x.1]?=some o/\Fits P ρ x.2 s o/\w0.heap.size<=x.1
 inj:∀ i j s t x y,d4 H i=some s->d4 H j=some t->ρ i=some x->ρ j=some y->x.1=y.1->i=j
def Fsh (ρ:Ren) (n m:Nat):Prop:=∀ j,n<=j->j < m->ρ j=none
structure Stp (ρ σ:Ren) (n m:Nat):Prop where
 le:Rle ρ σ
 only:∀ j,j < n\/m<=j->σ j=ρ j
section
variable {P:Program} {w0 w w':World} {ρ σ τ:Ren} {H:SH} {n m k i:Nat} {s s':SA} {x:Nat×Nat} {o o':Obj}
theorem Rle.refl (ρ:Ren):Rle ρ ρ:=fun _ _ h=>h
theorem Rle.trans (h:Rle ρ σ) (h2:Rle σ τ):Rle ρ τ:=fun i x hx=>h2 i x (h i x hx)
theorem Stp.refl (ρ:Ren) (n m:Nat):Stp ρ ρ n m:=⟨Rle.refl ρ,fun _ _=>rfl⟩
theorem Stp.trans (h:Stp ρ σ n m) (h2:Stp σ τ m k) (hn:n<=m) (hm:m<=k):Stp ρ τ n k:=⟨h.le.trans h2.le,fun j hj=>(h2.only j (by omega)).trans (h.only j (by omega))⟩
theorem Fsh.step (h:Fsh ρ n k) (hs:Stp ρ σ n m) (hm:n<=m):Fsh σ m k:=fun j h1 h2=>(hs.only j (xc3 h1)).trans (h j (by omega) h2)
theorem RR.mono {l r:List (List Value)} (h:RR ρ l r) (hl:Rle ρ σ):RR σ l r:=⟨h.1,fun i q hq=>by
 obtain ⟨s,h1,h2⟩:=h.2 i q hq;exact ⟨s,h1,h2.mono hl⟩⟩
theorem R2.mono {l r:List (Value×Value)} (h:R2 ρ l r) (hl:Rle ρ σ):R2 σ l r:=⟨h.1,h.2.mono hl⟩
theorem Fits.mono {x:Nat} (h:Fits P ρ x s o) (hl:Rle ρ σ):Fits P σ x s o:=by
 cases s with
 |blk L=>obtain ⟨M,t,h1,h2⟩:=h;exact ⟨M,t,h1.mono hl,h2⟩
 |row e sz rows cap u=>obtain ⟨rs,cur,h1,h2⟩:=h;exact ⟨rs,cur,h1.mono hl,h2⟩
 |smap t es=>obtain ⟨arr,c,Kt,Et,D,L,h1,h2,h3,h4,h5,h6⟩:=h;exact ⟨arr,c,Kt,Et,D,L,h1,h2,h3,h4,h5.mono hl,h6⟩
 |siter l k=>exact h
theorem a2d:∀ (H:SH) (i:Nat) (s:SA) (j:Nat),d4 (y5 H i s) j=if i=j then (d4 H i).map fun _=>s else d4 H j
 |[],i,s,j=>by simp [a3N,show y5 [] i s=[] from rfl]
 |(k,t)::r,i,s,j=>by
  have e:y5 ((k,t)::r) i s=if k=i then (k,s)::r else (k,t)::y5 r i s:=by
   show @Bool.rec (fun _=>SH) ((k,t)::y5 r i s) ((k,s)::r) (Nat.beq k i)=_;by_cases h:k=i
   ·subst h;rw [xk2,xd6 rfl]
   ·rw [a2x h,xd7 h]
  rw [e];by_cases h:k=i
  ·subst h;rw [xd6 rfl,e9,e9,e9,xd6 rfl];by_cases h2:k=j <;> simp [h2]
  ·rw [xd7 h,e9,e9,e9,xd7 h,a2d r i s j];by_cases h2:k=j
   ·subst h2;rw [xd6 rfl,xd7 (fun e=>h (Eq.symm e)),xd6 rfl]
   ·rw [xd7 h2,xd7 h2]
theorem a1c:∀ (H:SH) (i:Nat) (s:SA) (j:Nat),d4 H i=none->d4 (x9 H i s) j=if i=j then some s else d4 H j
 |[],i,s,j,_=>by
  show d4 [(i,s)] j=_;rw [e9]
 |(k,t)::r,i,s,j,hn=>by
  have e:x9 ((k,t)::r) i s=if k < i then (i,s)::(k,t)::r else (k,t)::x9 r i s:=by
   show @Bool.rec (fun _=>SH) ((k,t)::x9 r i s) ((i,s)::(k,t)::r) (Nat.blt k i)=_;by_cases h:k < i
   ·rw [show Nat.blt k i=true from by simpa [xb0] using h,xd6 h]
   ·rw [show Nat.blt k i=false from by cases e:Nat.blt k i;rfl;exact (h (by simpa [xb0] using e)).elim,xd7 h]
  rw [e9] at hn;rw [e];by_cases h:k < i
  ·rw [xd6 h,e9]
  ·rw [xd7 h,e9,e9];by_cases h2:k=i
   ·rw [xd6 h2] at hn;cases hn
   ·rw [xd7 h2] at hn;rw [a1c r i s j hn];by_cases h3:k=j
    ·subst h3;rw [xd6 rfl,xd7 (fun e=>h2 (Eq.symm e)),xd6 rfl]
    ·rw [xd7 h3,xd7 h3]
def upR (ρ:Ren) (n:Nat) (x:Nat×Nat):Ren:=fun i=>if i=n then some x else ρ i
theorem a0l (h:ρ n=none):Rle ρ (upR ρ n x):=fun i y hy=>by
 unfold upR;by_cases e:i=n
 ·subst e;rw [h] at hy;cases hy
 ·rw [xd7 e];exact hy
theorem a0g:upR ρ n x n=some x:=by unfold upR;rw [xd6 rfl]
theorem a4S (h:i≠n):upR ρ n x i=ρ i:=by unfold upR;rw [xd7 h]
theorem a5j (h:ρ n=none):Stp ρ (upR ρ n x) n (n + 1):=⟨a0l h,fun j hj=>a4S (by omega)⟩
theorem Inv.fresh (h:Inv P w0 ρ H w) (hn:ρ n=none):d4 H n=none:=by
 cases e:d4 H n with
 |none=>rfl
 |some s=>obtain ⟨x,_,hx,_⟩:=h.held n s e;rw [hn] at hx;cases hx
theorem Inv.grow (h:Inv P w0 ρ H w) (hg:w.grownBy w' none):Inv P w0 ρ H w':=by
 have hlt:∀ {b:Nat} {o:Obj},w.heap[b]?=some o->w'.heap[b]?=some o:=fun {b o} hb=>by
  rw [hg.block b (xa7.1 hb).1 (by simp)];exact hb
 refine ⟨⟨hg.os.trans h.below.os,hg.tape.trans h.below.tape,hg.output.trans h.below.output,xc5 h.below.size hg.size,fun k hk=>?_⟩,fun i s hi=>?_,h.inj⟩
 ·rw [hg.block k (xa6 hk h.below.size) (by simp)];exact h.below.block k hk
 ·obtain ⟨x,o,h1,h2,h3,h4⟩:=h.held i s hi;exact ⟨x,o,h1,hlt h2,h3,h4⟩
theorem Inv.sub {H':SH} (h:Inv P w0 ρ H w) (hs:∀ i s,d4 H' i=some s->d4 H i=some s):Inv P w0 ρ H' w :=
 ⟨h.below,fun i s hi=>h.held i s (hs i s hi),fun i j s t x y hi hj=>h.inj i j s t x y (hs i s hi) (hs j t hj)⟩
theorem Inv.upd (h:Inv P w0 ρ H w) (hi:d4 H i=some s) (hx:ρ i=some x) (hg:w.grownBy w' (some x.1)) (ho:w'.heap[x.1]?=some o') (hf:Fits P ρ x.2 s' o'):Inv P w0 ρ (y5 H i s') w':=by
 obtain ⟨x',o,h1,h2,h3,h4⟩:=h.held i s hi;rw [hx] at h1
 cases h1
 refine ⟨⟨hg.os.trans h.below.os,hg.tape.trans h.below.tape,hg.output.trans h.below.output,xc5 h.below.size hg.size,fun k hk=>?_⟩,fun j t hj=>?_,fun j k t t' y z hj hk hy hz e=>?_⟩
 ·rw [hg.block k (xa6 hk h.below.size) (fun e=>by cases e;omega)];exact h.below.block k hk
 ·rw [a2d] at hj;by_cases e:i=j
  ·subst e;rw [xd6 rfl,hi] at hj
   cases hj
   exact ⟨x,o',hx,ho,hf,h4⟩
  ·rw [xd7 e] at hj;obtain ⟨y,p,g1,g2,g3,g4⟩:=h.held j t hj;refine ⟨y,p,g1,?_,g3,g4⟩;rw [hg.block y.1 (xa7.1 g2).1 (fun e2=>e (h.inj i j s t x y hi hj hx g1 (Option.some.inj e2).symm))];exact g2
 ·have old:∀ j t,d4 (y5 H i s') j=some t->∃ t',d4 H j=some t':=fun j t hj=>by
   rw [a2d] at hj;by_cases e:i=j
   ·subst e;exact ⟨s,hi⟩
   ·rw [xd7 e] at hj;exact ⟨t,hj⟩
  obtain ⟨_,hj'⟩:=old j t hj;obtain ⟨_,hk'⟩:=old k t' hk;exact h.inj j k _ _ y z hj' hk' hy hz e
theorem Inv.new (h:Inv P w0 ρ H w) (hn:ρ n=none) (hg:w.grownBy w' none) (ho:w'.heap[x.1]?=some o) (hb:w.heap.size<=x.1) (hf:Fits P (upR ρ n x) x.2 s o):Inv P w0 (upR ρ n x) (x9 H n s) w':=by
 have hfr:=h.fresh hn;have hG:=h.grow hg;refine ⟨hG.below,fun j t hj=>?_,fun j k t t' y z hj hk hy hz e=>?_⟩
 ·rw [a1c _ _ _ _ hfr] at hj;by_cases e:n=j
  ·subst e;rw [xd6 rfl] at hj
   cases hj
   exact ⟨x,o,a0g,ho,hf,xc5 h.below.size hb⟩
  ·rw [xd7 e] at hj;obtain ⟨y,p,g1,g2,g3,g4⟩:=hG.held j t hj;exact ⟨y,p,a0l hn j y g1,g2,g3.mono (a0l hn),g4⟩
 ·have old:∀ j t y,d4 (x9 H n s) j=some t->upR ρ n x j=some y->(j=n/\y=x)\/(j≠n/\d4 H j=some t/\ρ j=some y):=fun j t y hj hy=>by
   rw [a1c _ _ _ _ hfr] at hj;by_cases e:n=j
   ·subst e;rw [a0g] at hy
    cases hy
    exact xc6 ⟨rfl,rfl⟩
   ·rw [xd7 e] at hj;rw [a4S (Ne.symm e)] at hy;exact xc3 ⟨Ne.symm e,hj,hy⟩
  have low:∀ j t y,d4 H j=some t->ρ j=some y->y.1 < w.heap.size:=fun j t y hj hy=>by
   obtain ⟨y',p,g1,g2,_⟩:=h.held j t hj;rw [hy] at g1
   cases g1
   exact (xa7.1 g2).1
  rcases old j t y hj hy with ⟨rfl,rfl⟩|⟨_,h1,h2⟩
  ·rcases old k t' z hk hz with ⟨rfl,_⟩|⟨_,h3,h4⟩
   ·rfl
   ·have:=low k t' z h3 h4;omega
  ·rcases old k t' z hk hz with ⟨rfl,rfl⟩|⟨_,h3,h4⟩
   ·have:=low j t y h1 h2;omega
   ·exact h.inj j k t t' y z h1 h3 h2 h4 e
theorem Inv.move {y:Nat×Nat} (h:Inv P w0 ρ H w) (hn:ρ n=none) (hi:d4 H i=some s) (hx:ρ i=some x) (hg:w.grownBy w' (some x.1)) (ho:w'.heap[y.1]?=some o) (hb:y.1=x.1\/w.heap.size<=y.1) (hf:Fits P (upR ρ n y) y.2 s' o):Inv P w0 (upR ρ n y) (x9 (p8 H i) n s') w':=by
 have hin:i≠n:=fun e=>by subst e;rw [hn] at hx;cases hx
 obtain ⟨x',o0,h1,h2,h3,h4⟩:=h.held i s hi;rw [hx] at h1
 cases h1
 have hfr:d4 (p8 H i) n=none:=by rw [a0e,xd7 hin];exact h.fresh hn
 have old:∀ j t,d4 (x9 (p8 H i) n s') j=some t->(j=n/\t=s')\/(j≠n/\j≠i/\d4 H j=some t):=fun j t hj=>by
  rw [a1c _ _ _ _ hfr] at hj;by_cases e:n=j
  ·subst e;rw [xd6 rfl] at hj
   cases hj
   exact xc6 ⟨rfl,rfl⟩
  ·rw [xd7 e] at hj;by_cases e2:i=j
   ·rw [a0e,xd6 e2] at hj;cases hj
   ·rw [a0e,xd7 e2] at hj;exact xc3 ⟨Ne.symm e,Ne.symm e2,hj⟩
 refine ⟨⟨hg.os.trans h.below.os,hg.tape.trans h.below.tape,hg.output.trans h.below.output,xc5 h.below.size hg.size,fun k hk=>?_⟩,fun j t hj=>?_,fun j k t t' u z hj hk hu hz e=>?_⟩
 ·rw [hg.block k (xa6 hk h.below.size) (fun e=>by cases e;omega)];exact h.below.block k hk
 ·rcases old j t hj with ⟨rfl,rfl⟩|⟨e1,e2,hj⟩
  ·refine ⟨y,o,a0g,ho,hf,?_⟩;rcases hb with hb|hb
   ·rw [hb];exact h4
   ·exact xc5 h.below.size hb
  ·obtain ⟨u,p,g1,g2,g3,g4⟩:=h.held j t hj;refine ⟨u,p,a0l hn j u g1,?_,g3.mono (a0l hn),g4⟩;rw [hg.block u.1 (xa7.1 g2).1 (fun e3=>e2 (h.inj j i t s u x hj hi g1 hx (Option.some.inj e3)))];exact g2
 ·have low:∀ j t u,j≠i->d4 H j=some t->ρ j=some u->u.1 < w.heap.size/\u.1≠x.1:=fun j t u hji hj hu=>by
   obtain ⟨y',p,g1,g2,_⟩:=h.held j t hj;rw [hu] at g1
   cases g1
   exact ⟨(xa7.1 g2).1,fun e=>hji (h.inj j i t s u x hj hi hu hx e)⟩
  have up:∀ j u,j≠n->upR ρ n y j=some u->ρ j=some u:=fun j u hjn hu=>by rw [a4S hjn] at hu;exact hu
  rcases old j t hj with ⟨rfl,rfl⟩|⟨e1,e2,hj'⟩
  ·rcases old k t' hk with ⟨rfl,_⟩|⟨e3,e4,hk⟩
   ·rfl
   ·rw [a0g] at hu
    cases hu
    have:=low k t' z e4 hk (up k z e3 hz);rcases hb with hb|hb <;> omega
  ·rcases old k t' hk with ⟨rfl,rfl⟩|⟨e3,e4,hk⟩
   ·rw [a0g] at hz
    cases hz
    have:=low j t u e2 hj' (up j u e1 hu);rcases hb with hb|hb <;> omega
   ·exact h.inj j k t t' u z hj' hk (up j u e1 hu) (up k z e3 hz) e
end
section
variable {F:Nat->Prop} {w0 w w':World} {Γ:List Asr} {A:Asr}
theorem St.self (h:A.holds w):St (fps [A]) w w [A] :=
 ⟨rfl,rfl,rfl,xc4 _,fun _ _ _=>rfl,by simpa using h,fun B hB k hk=>xc3 ⟨B,hB,hk⟩,by simp⟩
theorem St.grown1 {b:Nat} (h:St (fps [A]) w w' Γ) (hb:A.fp=some b):w.grownBy w' (some b) :=
 ⟨h.os,h.tape,h.output,h.size,fun k hk hne=>h.base k hk (fun ⟨B,hB,e⟩=>by
  rw [xh5.1 hB,hb] at e;exact hne (by rw [e]))⟩
theorem St.grown0 (h:St nF w w' Γ):w.grownBy w' none:=⟨h.os,h.tape,h.output,h.size,fun k hk _=>h.base k hk id⟩
end
section
variable {P:Program} {T:TT} {q:EqT} {w0 w w':World} {ρ σ:Ren} {N:Nat} {ds:List Deferred} {a:Act} {E:Fr} {H:SH} {n:Nat} {x:Nat×Nat} {i:Nat}
theorem Fits.blk {L:List Value} {b y:Nat} {o:Obj} (h:Fits P ρ y (.blk L) o) (hb:w.heap[b]?=some o):∃ M,LR ρ L M/\Asr.holds w (.blk b M):=by
 obtain ⟨M,t,h1,h2⟩:=h;exact ⟨M,h1,t,by rw [hb,h2]⟩
theorem Fits.of_blk {L M:List Value} {b y:Nat} (h:Asr.holds w (.blk b M)) (hr:LR ρ L M):∃ o,w.heap[b]?=some o/\Fits P ρ y (.blk L) o:=by
 obtain ⟨t,h⟩:=h;exact ⟨_,h,M,t,hr,rfl⟩
theorem Fits.row {e sz cap b y:Nat} {u:Bool} {rows:List (List Value)} {o:Obj} (h:Fits P ρ y (.row e sz rows cap u) o) (hb:w.heap[b]?=some o):∃ rs,RR ρ rows rs/\Asr.holds w (.row e sz (.slice (some ⟨b,0,none⟩) rs.length (cap + y)) rs)/\(u=false->y=0):=by
 obtain ⟨rs,cur,h1,h2,h3,h4,h5,h6,h7,h8,h9⟩:=h;exact ⟨rs,h1,⟨⟨f8 h7,.inr ⟨b,cap + y,cur,rfl,xe7 _,by rw [hb,h2],h3,h4,h5,h6⟩⟩,h7,h8⟩,h9⟩
theorem Fits.of_row {e sz cap b y m c:Nat} {u:Bool} {rows rs:List (List Value)} (h:Asr.holds w (.row e sz (.slice (some ⟨b,0,none⟩) m c) rs)) (hr:RR ρ rows rs) (hc:c=cap + y) (hu:u=false->y=0):∃ o,w.heap[b]?=some o/\Fits P ρ y (.row e sz rows cap u) o:=by
 obtain ⟨⟨h1,h2⟩,h3,h4⟩:=h;rcases h2 with ⟨e,_⟩|⟨g,c',cur,e,_,h5,h6,h7,h8,h9⟩
 ·cases e
 ·cases e
  subst hc;exact ⟨_,h5,rs,cur,hr,rfl,h6,h7,h8,h9,h3,h4,hu⟩
theorem RR.get {l m:List (List Value)} {k:Nat} {r:List Value} (h:RR ρ l m) (hk:l[k]?=some r):∃ s,m[k]?=some s/\LR ρ r s:=h.2 k r hk
theorem RR.set {l m:List (List Value)} {k:Nat} {r s:List Value} (h:RR ρ l m) (hr:LR ρ r s):RR ρ (l.set k r) (m.set k s):=by
 refine ⟨by simp [h.1],fun j q hq=>?_⟩;rw [xc9] at hq |-;by_cases e:k=j
 ·rw [xd6 e] at hq;rw [xd6 e]
  split at hq
  ·rename_i hlt
   cases hq
   rw [xd6 (by rw [h.1];exact hlt)];exact ⟨s,rfl,hr⟩
  ·cases hq
 ·rw [xd7 e] at hq;rw [xd7 e];exact h.2 j q hq
theorem RR.app {l m l' m':List (List Value)} (h:RR ρ l m) (h':RR ρ l' m'):RR ρ (l++l') (m++m'):=by
 refine ⟨by simp [h.1,h'.1],fun j q hq=>?_⟩;by_cases hj:j < l.length
 ·rw [xa4 hj] at hq;rw [xa4 (by rw [h.1];exact hj)];exact h.2 j q hq
 ·rw [xa3 (by omega)] at hq;rw [xa3 (by rw [h.1];omega),h.1];exact h'.2 _ q hq
theorem RR.take {l m:List (List Value)} (h:RR ρ l m) (k:Nat):RR ρ (l.take k) (m.take k):=by
 refine ⟨by simp [h.1],fun j q hq=>?_⟩;rw [xe0] at hq |-
 split at hq
 ·rename_i hlt;rw [xd6 hlt];exact h.2 j q hq
 ·cases hq
theorem RR.drop {l m:List (List Value)} (h:RR ρ l m) (k:Nat):RR ρ (l.drop k) (m.drop k):=by
 refine ⟨by simp [h.1],fun j q hq=>?_⟩;rw [xe1] at hq |-;exact h.2 _ q hq
theorem RR.rep {r:List Value} (h:LR ρ r r) (k:Nat):RR ρ (List.replicate k r) (List.replicate k r):=by
 refine ⟨rfl,fun j q hq=>?_⟩;have:=xk3 (xc0 hq);subst this;exact ⟨q,hq,h⟩
theorem RR.one1 {l m:List (List Value)} (h:RR ρ l m) (hl:∀ r ∈ l,r.all (·.oneCell')=true):∀ s ∈ m,s.all (·.oneCell')=true:=fun s hs=>by
 obtain ⟨j,hj⟩:=xc8.1 hs;have hlt:j < l.length:=by rw [<- h.1];exact a7 hj
 obtain ⟨s',h1,h2⟩:=h.2 j _ (xd0 hlt);rw [hj] at h1
 cases h1
 rw [h2.one];exact hl _ (List.getElem_mem hlt)
def Snd (P:Program) (op:Op) (E:Fr) (H:SH) (n:Nat) (r:Option Value×SH×Nat):Prop :=
 n<=r.2.2/\∀ {w0 w:World} {ρ:Ren} {N:Nat} {ds:List Deferred} {a:Act} {hi:Nat},HasR ρ N ds a E->Inv P w0 ρ H w->Fsh ρ n hi->r.2.2<=hi ->
  ∀ dst ty pos after (K:Act->World->Prop) (Q:Exit->Act->World->Prop),(∀ u w' σ,Stp ρ σ n r.2.2->OR σ r.1 u->Inv P w0 σ r.2.1 w'->K (a.put dst u) w')->Oper.wp P ⟨dst,op,ty,pos,after,none⟩ a w K Q
theorem Snd.of_runs {op:Op} {v:Option Value} (h:∀ {ρ:Ren} {N:Nat} {ds:List Deferred} {a:Act},HasR ρ N ds a E->∃ u,OR ρ v u/\∀ dst ty pos after,t8 P ⟨dst,op,ty,pos,after,none⟩ a u):Snd P op E H n (v,H,n) :=
 ⟨xc4 _,fun ha hI _ _ dst ty pos after K Q k=>by
  obtain ⟨u,hu,hr⟩:=h ha;unfold Oper.wp;rw [hr dst ty pos after _];exact k u _ _ (Stp.refl _ _ _) hu hI⟩
theorem Snd.of_yl {op:Op} {v:Value} (h:∀ {ρ:Ren} {N:Nat} {ds:List Deferred} {a:Act},HasR ρ N ds a E->Yl P ρ a op v):Snd P op E H n (some v,H,n):=Snd.of_runs h
theorem Snd.of_gets {op:Op} {v:Option Value} (h:∀ {w0 w:World} {ρ:Ren} {N:Nat} {ds:List Deferred} {a:Act},HasR ρ N ds a E->Inv P w0 ρ H w->∃ u,OR ρ v u/\∀ dst ty pos after,Gets P ⟨dst,op,ty,pos,after,none⟩ N ds (t9 a) w (fun v' w'=>v'=u/\w'=w)):Snd P op E H n (v,H,n) :=
 ⟨xc4 _,fun ha hI _ _ dst ty pos after K Q k=>by
  obtain ⟨u,hu,hr⟩:=h ha hI;exact hr dst ty pos after _ ha.full K Q (fun v' w' hv=>by obtain ⟨rfl,rfl⟩:=hv;exact k _ _ _ (Stp.refl _ _ _) hu hI)⟩
theorem Snd.of_new {op:Op} {v:Value} {s:SA} (h:∀ {w0 w:World} {ρ:Ren} {N:Nat} {ds:List Deferred} {a:Act},HasR ρ N ds a E->Inv P w0 ρ H w->∀ dst ty pos after,Gets P ⟨dst,op,ty,pos,after,none⟩ N ds (t9 a) w (fun u w'=>∃ x:Nat×Nat,(∀ τ:Ren,Rle ρ τ->τ n=some x->VR τ v u)/\w.grownBy w' none/\w.heap.size<=x.1/\∃ o,w'.heap[x.1]?=some o/\∀ τ:Ren,Rle ρ τ->τ n=some x->Fits P τ x.2 s o)):Snd P op E H n (some v,x9 H n s,n + 1) :=
 ⟨Nat.le_succ _,fun {w0 w ρ N ds a hi} ha hI hF hn dst ty pos after K Q k=>by
  have hfr:ρ n=none:=hF n (xc4 _) hn;refine h ha hI dst ty pos after _ ha.full K Q fun u w' ⟨x,hv,hg,hb,o,ho,hf⟩=>?_;exact k u w' (upR ρ n x) (a5j hfr) (hv _ (a0l hfr) a0g) (hI.new hfr hg ho hb (hf _ (a0l hfr) a0g))⟩
theorem Snd.of_upd {op:Op} {v:Option Value} {s s':SA} (hi:d4 H i=some s) (h:∀ {w0 w:World} {ρ:Ren} {N:Nat} {ds:List Deferred} {a:Act} {x:Nat×Nat} {o:Obj},HasR ρ N ds a E->Inv P w0 ρ H w->ρ i=some x->w.heap[x.1]?=some o->Fits P ρ x.2 s o->∀ dst ty pos after,Gets P ⟨dst,op,ty,pos,after,none⟩ N ds (t9 a) w (fun u w'=>OR ρ v u/\w.grownBy w' (some x.1)/\∃ o',w'.heap[x.1]?=some o'/\Fits P ρ x.2 s' o')):Snd P op E H n (v,y5 H i s',n) :=
 ⟨xc4 _,fun {w0 w ρ N ds a hi'} ha hI hF hn dst ty pos after K Q k=>by
  obtain ⟨x,o,h1,h2,h3,_⟩:=hI.held i s hi;refine h ha hI h1 h2 h3 dst ty pos after _ ha.full K Q fun u w' ⟨hv,hg,o',ho,hf⟩=>?_;exact k u w' ρ (Stp.refl _ _ _) hv (hI.upd hi h1 hg ho hf)⟩
theorem a1I {b o k m:Nat} {M:List Value} (h:w.rangeAt b o M):w.rangeAt b (o + k) ((M.drop k).take m):=fun j v hj=>by
 rw [xe0] at hj
 split at hj
 ·rw [xe1] at hj;have:=h (k + j) v hj
  rwa [<- xe2] at this
 ·cases hj
theorem a1R (hI:Inv P w0 ρ H w) {o m:Nat} {L:List Value} (h:d9 H i o m=some L):∃ x M,ρ i=some x/\LR ρ L M/\w.rangeAt x.1 o M/\L.length=m:=by
 unfold d9 at h
 split at h
 ·rename_i L0 hi;obtain ⟨h1,h2⟩:=a8 h
  cases h2
  have h1:=xe5 h1;obtain ⟨x,ob,g1,g2,g3,_⟩:=hI.held _ _ hi;obtain ⟨M,hM,hh⟩:=g3.blk g2;refine ⟨x,(M.drop o).take m,g1,(hM.drop o).take m,?_,by simp;omega⟩;have:=a1I (k:=o) (m:=m) ((St.self hh).blkR 0 rfl)
  rwa [xd8] at this
 ·rename_i e sz rows cap u hi;rw [n9] at h
  split at h
  ·rename_i r hr;obtain ⟨h1,h2⟩:=a8 h
   cases h2
   have h1:=xe5 h1;obtain ⟨x,ob,g1,g2,g3,_⟩:=hI.held _ _ hi;obtain ⟨rs,hR,hh,_⟩:=g3.row g2;obtain ⟨r',hr',hrr⟩:=hR.get hr;refine ⟨x,(r'.drop (o % sz)).take m,g1,(hrr.drop _).take m,?_,by simp;omega⟩;have:=a1I (k:=o % sz) (m:=m) ((St.self hh).rowR 0 rfl hr')
   rwa [xd8,xf5,xf6] at this
  ·cases h
 ·cases h
theorem a3k (hT:TOk P T) (hI:Inv P w0 ρ H w) {t:TypeId} {p v p':Value} (h:a2v T H t p=some v) (hp:VR ρ p p'):∃ b o u,p'=.pointer (some ⟨b,o,none⟩)/\VR ρ v u/\Ld P t ⟨b,o,none⟩ u w:=by
 obtain ⟨Tb,hTb,hget⟩:=hT.tabs [t];unfold a2v at h
 split at h
 ·rename_i i o;obtain ⟨x,hx,rfl⟩:=VR.ptr hp
  split at h
  ·rename_i ht
   split at h
   ·rename_i v' hc
    cases h
    obtain ⟨x',M,h1,h2,h3,_⟩:=a1R hI hc;rw [hx] at h1;cases h1;obtain ⟨u,r,rfl,hu,hr⟩:=LR.inv h2;have:=h3 0 u rfl;exact ⟨_,_,u,rfl,hu,Ld.sc hTb (hget t _ (by simp) ht) this⟩
   ·cases h
  ·rename_i ht
   split at h
   ·rename_i v' hc
    cases h
    obtain ⟨x',M,h1,h2,h3,_⟩:=a1R hI hc;rw [hx] at h1;cases h1;obtain ⟨u,r,rfl,hu,hr⟩:=LR.inv h2;have:=h3 0 u rfl;exact ⟨_,_,u,rfl,hu,Ld.sl hTb (hget t _ (by simp) ht) this⟩
   ·cases h
  ·rename_i ht;obtain ⟨L,hL,rfl⟩:=xk1.1 h;obtain ⟨x',M,h1,h2,h3,h4⟩:=a1R hI hL;rw [hx] at h1;cases h1;exact ⟨_,_,_,rfl,VR.mkAgg h2,Ld.st hTb (hget t _ (by simp) ht) h3 (by rw [h2.len,h4])⟩
  ·rename_i ht;obtain ⟨L,hL,rfl⟩:=xk1.1 h;obtain ⟨x',M,h1,h2,h3,h4⟩:=a1R hI hL;rw [hx] at h1;cases h1;exact ⟨_,_,_,rfl,VR.mkAgg h2,Ld.ar hTb (hget t _ (by simp) ht) h3 (by rw [h2.len,h4])⟩
  ·cases h
 ·cases h
theorem b0N (hT:TOk P T) {t:TypeId} {y:Operand} {p v:Value} (hy:sEv E y=some p) (h:a2v T H t p=some v):Snd P (.load t y) E H n (some v,H,n) :=
 Snd.of_gets fun ha hI=>by
  obtain ⟨p',hp,hev⟩:=ha.ev hy;obtain ⟨b,o,u,rfl,hu,hl⟩:=a3k hT hI h hp;exact ⟨u,hu,fun _ _ _ _=>a7I hev hl⟩
theorem a8d (hT:TOk P T) {t:TypeId} {y z:Operand} {p v:Value} {H':SH} (hy:sEv E y=some p) (hz:sEv E z=some v) (h:a4o T H t v p=some H'):Snd P (.store t y z) E H n (none,H',n):=by
 obtain ⟨Tb,hTb,hget⟩:=hT.tabs [t];unfold a4o at h
 split at h
 ·rename_i i o
  split at h
  ·rename_i ti c ht hc;unfold b0W at h;obtain ⟨h1,h⟩:=a8 h;rw [xb6] at h1;obtain ⟨hl,h1⟩:=h1;have hl:=xa8 hl
   split at h
   ·rename_i L hi;obtain ⟨h2,h3⟩:=a8 h
    cases h3
    have h2:=xe5 h2;refine Snd.of_upd hi fun {w0 w ρ N ds a x ob} ha hI hx hb hf dst ty pos after=>?_;obtain ⟨p',hp,hev⟩:=ha.ev hy;obtain ⟨x',hx',rfl⟩:=VR.ptr hp;rw [hx] at hx';cases hx';obtain ⟨v',hv,hev2⟩:=ha.ev hz;obtain ⟨c',hc',hcc⟩:=VR.celL hv hc;obtain ⟨M,hM,hh⟩:=hf.blk hb;have e:=a0h hc';intro b hB K Q kk;refine a1V (St.self hh) hTb (hget t _ (by simp) ht) hev hev2 (i:=0) rfl (by rw [e,hcc.len,hl]) (by rw [hM.len];exact h2) (by rw [e];exact fun u hu=>xb7.1 (by rw [hcc.one];exact h1) u hu) b hB K Q fun u w' hS=>kk u w' ⟨?_,hS.grown1 rfl,?_⟩
    ·trivial
    ·rw [e] at hS;exact Fits.of_blk (hS.at_ (i:=0) rfl) (hM.setLs hcc)
   ·rename_i e sz rows cap u hi;rw [n9] at h
    split at h
    ·rename_i r hr;obtain ⟨h2,h3⟩:=a8 h
     cases h3
     have h2:=xe5 h2;refine Snd.of_upd hi fun {w0 w ρ N ds a x ob} ha hI hx hb hf dst ty pos after=>?_;obtain ⟨p',hp,hev⟩:=ha.ev hy;obtain ⟨x',hx',rfl⟩:=VR.ptr hp;rw [hx] at hx';cases hx';obtain ⟨v',hv,hev2⟩:=ha.ev hz;obtain ⟨c',hc',hcc⟩:=VR.celL hv hc;obtain ⟨rs,hR,hh,hu⟩:=hf.row hb;obtain ⟨r',hr',hrr⟩:=hR.get hr;intro b hB K Q kk;refine a7C (St.self hh) hTb (hget t _ (by simp) ht) hev hev2 (i:=0) rfl (show o=0 + (o / sz) * sz + o % sz by rw [xd8,xf5,xf6]) hr' (a0h hc') (by rw [hcc.len,hl]) h2 (by rw [hcc.one];exact h1) b hB K Q fun u w' hS=>kk u w' ⟨?_,hS.grown1 rfl,?_⟩
     ·trivial
     ·exact Fits.of_row (hS.at_ (i:=0) rfl) (hR.set (hrr.setLs hcc)) rfl hu
    ·cases h
   ·cases h
  ·cases h
 ·cases h
theorem b1v {t:TypeId} {y:Operand} {v:Value} {L:List Value} (hy:sEv E y=some v) (hc:celL v=some L):Snd P (.box t y) E H n (some (.pointer (some ⟨n,0,none⟩)),x9 H n (.blk L),n + 1) :=
 Snd.of_new fun ha hI dst ty pos after=>by
  obtain ⟨u,hu,hev⟩:=ha.ev hy;obtain ⟨M,hM,hr⟩:=VR.celL hu hc;intro b hB K Q kk;refine a9D (St.start _) hev b hB K Q fun u' w' ⟨g,e,hS⟩=>kk u' w' ⟨(g,0),fun τ _ hτ=>by rw [e];exact VR.mkPtr hτ,hS.drop.grown0,?_,?_⟩
  ·rcases hS.own _ (xb4) g rfl with h|h
   ·exact h
   ·exact h.elim
  ·rw [a0h hM] at hS;obtain ⟨t',hh⟩:=hS.at_ (i:=0) rfl;exact ⟨_,hh,fun τ hτ _=>⟨M,t',hr.mono hτ,rfl⟩⟩
theorem TI.zc (ti:TI):ti.zeroCells=ti.zeros\/ti.zeroCells=[.slice none 0 0]:=by cases ti <;> simp [TI.zeroCells,TI.zeros]
theorem a8M (hT:TOk P T) (hZ:ZOk T) {t:TypeId} {ti:TI} (ht:T.get t=some ti):Snd P (.alloc t) E H n (some (.pointer (some ⟨n,0,none⟩)),x9 H n (.blk ti.zeroCells),n + 1) :=
 Snd.of_new fun ha hI dst ty pos after=>by
  obtain ⟨Tb,hTb,hget⟩:=hT.tabs [t];have hz:∀ τ:Ren,LR τ ti.zeroCells ti.zeroCells:=fun τ=>by
   rcases TI.zc ti with h|h
   ·rw [h];exact LR.cOks (hZ t ti ht)
   ·rw [h];exact LR.cOks rfl
  intro b hB K Q kk;refine a1f (St.start _) hTb (hget t _ (by simp) ht) rfl b hB K Q fun u' w' ⟨g,e,hS⟩=>kk u' w' ⟨(g,0),fun τ _ hτ=>by rw [e];exact VR.mkPtr hτ,hS.drop.grown0,?_,?_⟩
  ·rcases hS.own _ (xb4) g rfl with h|h
   ·exact h
   ·exact h.elim
  ·obtain ⟨t',hh⟩:=hS.at_ (i:=0) rfl;exact ⟨_,hh,fun τ hτ _=>⟨_,t',hz τ,rfl⟩⟩
theorem a9a {v:Value} {c:List Value} {k s:Nat} {r:List (Nat×Value)} {rs:List (List Value)} (hc:celL v=some c) (hl:c.length=s) (hr:a0N (k + 1) s r=some rs):a0N k s ((k,v)::r)=some (c::rs):=by
 unfold a0N;rw [hr]
 cases v
 all_goals first
  |(cases hc;subst hl;simp [xk2];done)
  |(cases hc;done)
theorem a6r {v:Value} {i k s:Nat} {r:List (Nat×Value)} {rows:List (List Value)} (h:a0N k s ((i,v)::r)=some rows):celL v=some v.cells.toList:=by
 unfold a0N at h
 cases v
 all_goals first
  |rfl
  |(cases h':a0N (k + 1) s r <;> rw [h'] at h <;> cases h;done)
theorem a37:∀ {ps qs:List (Nat×Value)} {k s:Nat} {rows:List (List Value)},PR ρ ps qs->a0N k s ps=some rows->∃ rs,a0N k s qs=some rs/\RR ρ rows rs
 |[],qs,k,s,rows,hp,h=>by
  rw [PR.nil_inv hp]
  cases h
  exact ⟨[],rfl,rfl,fun i r hr=>by simp at hr⟩
 |(i,v)::r,qs,k,s,rows,hp,h=>by
  obtain ⟨u,m',rfl,hx,hr⟩:=PR.cons_inv hp;have hcv:=a6r h;obtain ⟨rr,e1,e2,e3,e4⟩:=a2J h;obtain ⟨rs',h1,h2⟩:=a37 hr e2;obtain ⟨c,hc,hcc⟩:=VR.celL hx hcv;subst e3;refine ⟨c::rs',a9a hc (by rw [hcc.len,e4]) h1,?_⟩;rw [e1];refine ⟨by simp [h2.1],fun j q hq=>?_⟩
  cases j with
  |zero=>simp at hq;subst hq;exact ⟨_,rfl,hcc⟩
  |succ j=>simpa using h2.2 j q (by simpa using hq)
theorem a7n {g:Nat} {A:Asr} {Γ:List Asr} (hS:St nF w w' (A::Γ)) (hA:A.fp=some g):w.heap.size<=g:=by
 rcases hS.own _ (xb4) g hA with h|h
 ·exact h
 ·exact h.elim
theorem a4L {rows rs:List (List Value)} (h:RR ρ rows rs) (ho:a1t rows=true):a1t rs=true:=by
 unfold a1t;rw [xb7];exact h.one1 (a1B ho)
theorem b1S (hT:TOk P T) {t:TypeId} {len:Nat} {parts:Array (Nat×Operand)} {r:Option Value×SH×Nat} (h:sBS T E H n t len parts=some r):Snd P (.buildSlice t len parts) E H n r:=by
 obtain ⟨Tb,hTb,hget⟩:=hT.tabs [t];unfold sBS at h
 split at h
 ·rename_i e sz eb ag z ps ht hp
  split at h
  ·rename_i rows hr;obtain ⟨h1,h2⟩:=a8 h
   cases h2
   simp only [xb6] at h1;obtain ⟨h1,h2,h3⟩:=h1;refine Snd.of_new fun {w0 w ρ N ds a} ha hI dst ty pos after=>?_;obtain ⟨qs,hq,hev⟩:=ha.evP hp;obtain ⟨rs,hrs,hR⟩:=a37 hq hr;have hlen:rs.length=len:=by rw [hR.1];exact xa8 h1
   intro b hB K Q kk;refine a6w (St.start _) hTb (hget t _ (by simp) ht) hev hrs (by rw [hlen];exact xk2 _) h2 (a4L hR h3) b hB K Q fun u' w' ⟨g,e1,hS⟩=>kk u' w' ⟨(g,0),fun τ _ hτ=>by rw [e1];exact VR.mkSl hτ,hS.drop.grown0,a7n hS rfl,?_⟩;have hh:=hS.at_ (i:=0) rfl;have key:=fun (τ:Ren) (hτ:Rle ρ τ)=>Fits.of_row (P:=P) (y:=0) (u:=false) hh (hR.mono hτ) rfl (fun _=>rfl);obtain ⟨o,ho,_⟩:=key ρ (Rle.refl ρ);refine ⟨o,ho,fun τ hτ _=>?_⟩;obtain ⟨o',ho',hf⟩:=key τ hτ;rw [ho] at ho'
   cases ho'
   exact hf
  ·cases h
 ·cases h
theorem b1Z (hT:TOk P T) (hZ:ZOk T) {t:TypeId} {y z:Operand} {r:Option Value×SH×Nat} (h:sMk T E H n t y z=some r):Snd P (.makeSlice t y z) E H n r:=by
 obtain ⟨Tb,hTb,hget⟩:=hT.tabs [t];unfold sMk at h
 split at h
 ·rename_i e sz eb ag zz m m' ht hy hz;obtain ⟨h1,h2⟩:=a8 h
  cases h2
  simp only [xb6] at h1;obtain ⟨h1,h2,h3⟩:=h1;have h1:=xa8 h1;have h2:=xe5 h2;subst h1;have hz0:=hZ t _ ht;have hmul:m * (eb + 1)=m * eb + m:=Nat.mul_succ m eb;have hmul2:m * eb=eb * m:=xf5 _ _;refine Snd.of_new fun {w0 w ρ N ds a} ha hI dst ty pos after=>?_;obtain ⟨u1,hu1,gy⟩:=ha.ev hy;obtain ⟨u2,hu2,gz⟩:=ha.ev hz;rw [VR.int hu1] at gy;rw [VR.int hu2] at gz;intro b hB K Q kk;refine b0s (St.start _) hTb (hget t _ (by simp) ht) gy gz rfl rfl (by omega) (by have h9:((eb * m:Nat):Int)<=281474976710656:=(by omega);simpa using h9) h3 b hB K Q fun u' w' ⟨g,e1,hS⟩=>kk u' w' ⟨(g,0),fun τ _ hτ=>by rw [e1];exact VR.mkSl hτ,hS.drop.grown0,a7n hS rfl,?_⟩;have hh:=hS.at_ (i:=0) rfl;have key:=fun (τ:Ren)=>Fits.of_row (P:=P) (cap:=m) (y:=0) (u:=false) hh (RR.rep (ρ:=τ) (LR.cOks hz0) m) rfl (fun _=>rfl);obtain ⟨o,ho,_⟩:=key ρ;refine ⟨o,ho,fun τ hτ _=>?_⟩;obtain ⟨o',ho',hf⟩:=key τ;rw [ho] at ho'
  cases ho'
  exact hf
 ·cases h
theorem a2U:∀ {rows:List (List Value)} {l:List UInt8},a3g rows=some l->rows=bR l:=by
 intro rows
 induction rows with
 |nil=>intro l h;cases h;rfl
 |cons r q ih=>
  intro l h;unfold a3g at h
  split at h
  ·rename_i e;cases e
  ·rename_i m q' e
   cases e
   obtain ⟨h1,h2⟩:=a8 h;obtain ⟨l',hl',rfl⟩:=xk1.1 h2;have h1:m < 256:=by simpa [xb0] using h1
   have hb:(UInt8.ofNat m).toNat=m:=by simp [UInt8.toNat_ofNat'];omega
   rw [ih hl'];show _=[.int .u8 ((UInt8.ofNat m).toNat:Nat)]::bR l';rw [hb];rfl
  ·cases h
theorem RR.bR {l:List UInt8} {rs:List (List Value)} (h:RR ρ (bR l) rs):rs=Go.Proofs.YtejnpppejalhfadGreat.bR l:=by
 refine xf3 fun j=>?_;by_cases hj:j < (Go.Proofs.YtejnpppejalhfadGreat.bR l).length
 ·obtain ⟨s,h1,h2⟩:=h.2 j _ (xd0 hj);rw [h1,xd0 hj];have hr:(Go.Proofs.YtejnpppejalhfadGreat.bR l)[j]=[.int .u8 ((l[j]'(by rw [a02] at hj;exact hj)).toNat:Nat)]:=by simp [Go.Proofs.YtejnpppejalhfadGreat.bR]
  rw [hr] at h2 |-;obtain ⟨u,t,rfl,h3,h4⟩:=LR.inv h2;rw [LR.nil_inv h4,VR.int h3]
 ·rw [xf9 (by rw [h.1];omega),xf9 (by omega)]
theorem RR.ofbR (l:List UInt8):RR ρ (Go.Proofs.YtejnpppejalhfadGreat.bR l) (Go.Proofs.YtejnpppejalhfadGreat.bR l):=by
 refine ⟨rfl,fun j r hr=>⟨r,hr,?_⟩⟩;have hj:j < l.length:=by have:=a7 hr;rwa [a02] at this
 have e:(Go.Proofs.YtejnpppejalhfadGreat.bR l)[j]?=some [.int .u8 ((l[j]).toNat:Nat)]:=by simp [Go.Proofs.YtejnpppejalhfadGreat.bR,hj]
 rw [e] at hr
 cases hr
 exact LR.cOks rfl
theorem a9p (hT:TOk P T) (hI:Inv P w0 ρ H w) {t:TypeId} {v v':Value} {i e cap:Nat} {l:List UInt8} {ub:Bool} (h:a6U T H t v=some (i,e,cap,l,ub)) (hv:VR ρ v v'):∃ x o,ρ i=some x/\T.get t=some (.sl e 1 1 false [.int .u8 0])/\d4 H i=some (.row e 1 (Go.Proofs.YtejnpppejalhfadGreat.bR l) cap ub)/\w.heap[x.1]?=some o/\v'=.slice (some ⟨x.1,0,none⟩) (Go.Proofs.YtejnpppejalhfadGreat.bR l).length (cap + x.2)/\Asr.holds w (.row e 1 (.slice (some ⟨x.1,0,none⟩) (Go.Proofs.YtejnpppejalhfadGreat.bR l).length (cap + x.2)) (Go.Proofs.YtejnpppejalhfadGreat.bR l))/\(ub=false->x.2=0):=by
 unfold a6U at h
 split at h
 ·rename_i ht
  split at h
  ·rename_i hi;obtain ⟨h1,h2⟩:=a8 h;obtain ⟨l',hl,he⟩:=xk1.1 h2
   cases he
   obtain rfl:=a2U hl;simp only [xb6] at h1;obtain ⟨h1,h3,h4⟩:=h1;obtain rfl:=xa8 h1;obtain rfl:=xa8 h3;obtain rfl:=xa8 h4;obtain ⟨x,hx,rfl⟩:=VR.sl hv;obtain ⟨x',o,g1,g2,g3,_⟩:=hI.held _ _ hi;rw [hx] at g1;cases g1;obtain ⟨rs,hR,hh,hu⟩:=g3.row g2;obtain rfl:=hR.bR;exact ⟨x,o,hx,ht,hi,g2,rfl,hh,hu⟩
  ·cases h
 ·cases h
theorem b0c (hT:TOk P T) {t t':TypeId} {y z:Operand} {s u:Value} {r:Option Value×SH×Nat} (hy:sEv E y=some s) (hz:sEv E z=some u) (h:a6n T H n t s u=some r):Snd P (.call { callee:=.builtin .copy,args:=#[y,z],argTypes:=#[t,t'] }) E H n r:=by
 obtain ⟨Tb,hTb,hget⟩:=hT.tabs [t];unfold a6n at h
 split at h
 ·rename_i i e cap old ub l hb
  cases h
  have hi:d4 H i=some (.row e 1 (Go.Proofs.YtejnpppejalhfadGreat.bR old) cap ub):=by
   unfold a6U at hb
   split at hb
   ·split at hb
    ·rename_i hi;obtain ⟨h1,h2⟩:=a8 hb;obtain ⟨l',hl,he⟩:=xk1.1 h2
     cases he
     obtain rfl:=a2U hl;simp only [xb6] at h1;rw [xa8 h1.1];exact hi
    ·cases hb
   ·cases hb
  refine Snd.of_upd hi fun {w0 w ρ N ds a x ob} ha hI hx hob hf dst ty pos after=>?_;obtain ⟨v1,hv1,gy⟩:=ha.ev hy;obtain ⟨v2,hv2,gz⟩:=ha.ev hz;rw [VR.str hv2] at gz;obtain ⟨x',o,g1,ht,_,g2,rfl,hh,hu⟩:=a9p hT hI hb hv1;rw [hx] at g1;cases g1;rw [a02] at gy hh;intro b hB K Q kk;refine a81 (St.self hh) hTb (hget t _ (by simp) ht) gy (i:=0) rfl gz b hB K Q fun u' w' ⟨e1,hS⟩=>kk u' w' ⟨by rw [e1];exact VR.cOk rfl,hS.grown1 rfl,?_⟩;refine Fits.of_row (hS.at_ (i:=0) rfl) (RR.ofbR _) rfl hu
 ·cases h
theorem b0X (hT:TOk P T) {t t':TypeId} {y:Operand} {r:Option Value×SH×Nat} (h:b0b T E H n t t' y=some r):Snd P (.convert t t' y) E H n r:=by
 unfold b0b at h
 split at h
 ·rename_i v ht hy
  split at h
  ·rename_i i e cap l ub hb
   split at h
   ·rename_i he;obtain ⟨h1,h2⟩:=a8 h
    cases h2
    have h1:0 < l.length:=by simpa [xb0] using h1
    refine Snd.of_gets fun {w0 w ρ N ds a} ha hI=>?_;obtain ⟨Tb,hTb,hget⟩:=hT.tabs [t,t',e];obtain ⟨v1,hv1,gy⟩:=ha.ev hy;obtain ⟨x,o,g1,ht1,_,g2,rfl,hh,hu⟩:=a9p hT hI hb hv1;exact ⟨_,VR.cOk rfl,fun _ _ _ _=>a8u (St.self hh) hTb (hget t _ (by simp) ht1) (hget e _ (by simp) he) (hget t' _ (by simp) ht) gy (i:=0) rfl h1⟩
   ·cases h
  ·cases h
 ·cases h
theorem a8h (hT:TOk P T) {t:TypeId} {y:Operand} {l:List UInt8} (hy:sEv E y=some (.string ⟨⟨l⟩⟩)) (ht:∃ s z,T.get t=some (.sc .string s z)):Snd P (.range t y) E H n (some (.pointer (some ⟨n,0,none⟩)),x9 H n (.siter l 0),n + 1) :=
 Snd.of_new fun {w0 w ρ N ds a} ha hI dst ty pos after=>by
  obtain ⟨s,z,ht⟩:=ht;obtain ⟨Tb,hTb,hget⟩:=hT.tabs [t];obtain ⟨v,hv,gy⟩:=ha.ev hy;rw [VR.str hv] at gy;intro b hB K Q kk;refine a8k (St.start _) hTb (hget t _ (by simp) ht) gy b hB K Q fun u' w' ⟨g,e,hS⟩=>kk u' w' ⟨(g,0),fun τ _ hτ=>by rw [e];exact VR.mkPtr hτ,hS.drop.grown0,a7n hS rfl,_,(hS.at_ (i:=0) rfl).1,fun _ _ _=>rfl⟩
theorem a9V {y:Operand} {r:Option Value×SH×Nat} (h:a7G E H n y=some r):Snd P (.next y true) E H n r:=by
 unfold a7G at h
 split at h
 ·rename_i i hy
  split at h
  ·rename_i l k hi;rw [n9] at h
   split at h
   ·rename_i b hb;obtain ⟨h1,h2⟩:=a8 h
    cases h2
    have h1:b.toNat < 128:=by simpa [xb0] using h1
    have hd:=a4m hb h1;have hlt:=a7 hb;refine Snd.of_upd hi fun {w0 w ρ N ds a x ob} ha hI hx hob hf dst ty pos after=>?_;obtain ⟨v,hv,gy⟩:=ha.ev hy;obtain ⟨x',hx',rfl⟩:=VR.ptr hv;rw [hx] at hx';cases hx';have hh:Asr.holds w (.obj x.1 (.stringIter ⟨l.toArray⟩ k)):=⟨by rw [hob,show ob=_ from hf],rfl⟩;intro c hB K Q kk;refine a7l (St.self hh) gy (i:=0) rfl c hB K Q fun u' w' hP=>kk u' w' ?_;rcases hP with ⟨_,e1,hS⟩|⟨h3,_⟩
    ·rw [hd] at e1 hS;refine ⟨by rw [e1];exact VR.mkTup (LR.cOks rfl),hS.grown1 rfl,_,(hS.at_ (i:=0) rfl).1,rfl⟩
    ·omega
   ·rename_i hb
    cases h
    have hge:l.length<=k:=by simpa using hb
    refine Snd.of_gets fun {w0 w ρ N ds a} ha hI=>?_;obtain ⟨v,hv,gy⟩:=ha.ev hy;obtain ⟨x,hx,rfl⟩:=VR.ptr hv;obtain ⟨x',ob,g1,g2,g3,_⟩:=hI.held _ _ hi;rw [hx] at g1;cases g1;have hh:Asr.holds w (.obj x.1 (.stringIter ⟨l.toArray⟩ k)):=⟨by rw [g2,show ob=_ from g3],rfl⟩;refine ⟨_,VR.mkTup (LR.cOks rfl),fun dst ty pos after c hB K Q kk=>?_⟩;refine a7l (St.self hh) gy (i:=0) rfl c hB K Q fun u' w' hP=>kk u' w' ?_;rcases hP with ⟨h3,_⟩|⟨_,e1,e2⟩
    ·omega
    ·exact ⟨e1,e2⟩
  ·cases h
 ·cases h
end
section
variable {P:Program} {T:TT} {q:EqT} {w0 w w':World} {ρ σ:Ren} {N:Nat} {ds:List Deferred} {a:Act} {E:Fr} {H:SH} {n:Nat} {x:Nat×Nat} {i:Nat}
theorem a75 {Tb:Tab} (hTb:TabOk P Tb) {t e sz eb:Nat} {ag:Bool} {z:List Value} (ht:Tb.get t=some (.sl e sz eb ag z)) (p p2:Option Addr) (m c c2:Nat) (hm:m<=c) (ty:TypeId) (w:World):(Builtin.append_ #[t,t] ty #[.slice p m c,.slice p2 0 c2]).run P w=.ok (.slice p m c) w:=by
 obtain ⟨ji,zv,hu,hinfo,_,hs,_⟩:=hTb.sl ht
 cases p2 <;> cases p <;> simp [Builtin.append_,run_underlying hu,sizeOf,typeInfo,hinfo,Builtin.lenOf,Builtin.firstCells,hm,loadCells,loadCellsFrom,storeCells]
theorem RoAt.take {G:Nat->Prop} {b off sz:Nat} {rows:List (List Value)} (h:RoAt G w b off sz rows) (k:Nat):RoAt G w b off sz (rows.take k) :=
 ⟨h.lt,h.nf,fun r hr=>h.len r (xe3 hr),fun r hr=>h.one r (xe3 hr),fun j r hj=>by
  rw [xe0] at hj
  split at hj
  ·exact h.cells j r hj
  ·cases hj⟩
theorem a44 (hI:Inv P w0 ρ H w) {sz m c:Nat} {p:Option Addr} {news:List (List Value)} {u':Value} (h:a0R H sz (.slice p m c)=some news) (hu:VR ρ (.slice p m c) u') (hne:news≠[]):∃ b o c' ns,u'=.slice (some ⟨b,o,none⟩) ns.length c'/\RR ρ news ns/\RoAt nF w b o sz ns:=by
 rcases p with _|⟨i,o,sp⟩
 ·cases m with
  |zero=>cases h;exact (hne rfl).elim
  |succ m=>cases h
 rcases sp with _|sp
 ·cases m with
  |zero=>cases h;exact (hne rfl).elim
  |succ m=>
  rw [show a0R H sz (.slice (some ⟨i,o,none⟩) (m + 1) c)=(match d4 H i with
   |some (.row _ sz' rows _ _)=>ifB (Nat.beq sz sz' && (Nat.beq (o % sz) 0 && Nat.ble (o / sz + (m + 1)) rows.length)) (some ((rows.drop (o / sz)).take (m + 1))) none
   |_=>none) from rfl] at h
  generalize m + 1=m at h hu
  split at h
  ·rename_i e' sz' rows cap ub hi;obtain ⟨h1,h2⟩:=a8 h
   cases h2
   simp only [xb6] at h1;obtain ⟨h1,h2,h3⟩:=h1;obtain rfl:=xa8 h1;have h2:=xa8 h2;have h3:=xe5 h3;obtain ⟨x,hx,rfl⟩:=VR.sl hu;obtain ⟨x',ob,g1,g2,g3,_⟩:=hI.held _ _ hi;rw [hx] at g1;cases g1;obtain ⟨rs,hR,hh,_⟩:=g3.row g2;have hro:=(((St.self hh).rowRo 0 rfl).drop (o / sz)).take m;rw [xd8] at hro;have ho:o / sz * sz=o:=by
    have:=xf6 o sz;rw [h2,xe6,xf5] at this;exact this
   rw [ho] at hro;refine ⟨x.1,o,c + x.2,(rs.drop (o / sz)).take m,?_,(hR.drop _).take _,hro⟩;have:((rs.drop (o / sz)).take m).length=m:=by
    rw [xa1,xi5,hR.1];omega
   rw [this]
  ·cases h
 ·cases m with
  |zero=>cases h;exact (hne rfl).elim
  |succ m=>cases h
theorem a39 {e sz g cap m:Nat} {rows rs:List (List Value)} (hh:Asr.holds w (.row e sz (.slice (some ⟨g,0,none⟩) m cap) rs)) (hR:RR ρ rows rs) (hm:m=rows.length):m<=cap/\∃ o,w.heap[g]?=some o/\∀ τ:Ren,Rle ρ τ->Fits P τ (cap - m) (.row e sz rows m true) o:=by
 have hle:m<=cap:=by
  rcases hh.1.2 with ⟨e1,_⟩|⟨g',c',cur,e1,_,_,h,_⟩
  ·cases e1
  ·cases e1;exact h
 have key:=fun (τ:Ren) (hτ:Rle ρ τ)=>Fits.of_row (P:=P) (cap:=m) (y:=cap - m) (u:=true) hh (hR.mono hτ) (by omega) (fun h=>by cases h);obtain ⟨o,ho,_⟩:=key ρ (Rle.refl ρ);refine ⟨hle,o,ho,fun τ hτ=>?_⟩;obtain ⟨o',ho',hf⟩:=key τ hτ;rw [ho] at ho'
 cases ho'
 exact hf
theorem a8Z (hT:TOk P T) {t e sz eb:Nat} {ag:Bool} {zz:List Value} {y z:Operand} {u:Value} {news:List (List Value)} (ht:T.get t=some (.sl e sz eb ag zz)) (hy:sEv E y=some (.slice none 0 0)) (hz:sEv E z=some u) (hu:∃ p m c,u=.slice p m c) (hr:a0R H sz u=some news) (hne:news≠[]) (hbig:news.length * (eb + 1)<=1000000):Snd P (.call { callee:=.builtin .append,args:=#[y,z],argTypes:=#[t,t] }) E H n (some (.slice (some ⟨n,0,none⟩) news.length news.length),x9 H n (.row e sz news news.length true),n + 1) :=
 Snd.of_new fun {w0 w ρ N ds a} ha hI dst ty pos after=>by
  obtain ⟨Tb,hTb,hget⟩:=hT.tabs [t];obtain ⟨p,m,c,rfl⟩:=hu;obtain ⟨v1,hv1,gy⟩:=ha.ev hy;rw [VR.sl0 hv1] at gy;obtain ⟨v2,hv2,gz⟩:=ha.ev hz;obtain ⟨b,o,c',ns,rfl,hR,hro⟩:=a44 hI hr hv2 hne;have hl:ns.length=news.length:=hR.1;intro bb hB K Q kk;refine a4c ((St.start w).addNil e sz) hTb (hget t _ (by simp) ht) gy (i:=0) rfl gz hro rfl (by rw [xa2,xd8,hl];omega) bb hB K Q fun u' w' ⟨p',cap',e1,hS⟩=>kk u' w' ?_;simp only [List.set,xa2,xd8,List.nil_append] at hS e1;have hpos:0 < ns.length:=by rw [hl];exact List.length_pos_iff.2 hne
  obtain ⟨g,rfl⟩:=hS.rowSome 0 rfl hpos;obtain ⟨hle,ob,hob,hf⟩:=a39 (P:=P) (hS.at_ (i:=0) rfl) hR hl;refine ⟨(g,cap' - ns.length),fun τ _ hτ=>?_,hS.drop.grown0,a7n hS rfl,ob,hob,fun τ hτ _=>?_⟩
  ·rw [e1,hl];have:=VR.mkSl (o:=0) (n:=news.length) (c:=news.length) hτ;rw [show news.length + (g,cap' - ns.length).2=cap' from by simp;omega] at this;exact this
  ·rw [<- hl];exact hf τ hτ
theorem Snd.of_move {op:Op} {s:SA} {e sz:Nat} {rows:List (List Value)} (hi:d4 H i=some s) (h:∀ {w0 w:World} {ρ:Ren} {N:Nat} {ds:List Deferred} {a:Act} {x:Nat×Nat} {o:Obj},HasR ρ N ds a E->Inv P w0 ρ H w->ρ i=some x->w.heap[x.1]?=some o->Fits P ρ x.2 s o->∀ dst ty pos after,Gets P ⟨dst,op,ty,pos,after,none⟩ N ds (t9 a) w (fun u w'=>∃ y:Nat×Nat,(∀ τ:Ren,Rle ρ τ->τ n=some y->VR τ (.slice (some ⟨n,0,none⟩) rows.length rows.length) u)/\w.grownBy w' (some x.1)/\(y.1=x.1\/w.heap.size<=y.1)/\∃ o,w'.heap[y.1]?=some o/\∀ τ:Ren,Rle ρ τ->τ n=some y->Fits P τ y.2 (.row e sz rows rows.length true) o)):Snd P op E H n (some (.slice (some ⟨n,0,none⟩) rows.length rows.length),x9 (p8 H i) n (.row e sz rows rows.length true),n + 1) :=
 ⟨Nat.le_succ _,fun {w0 w ρ N ds a hi'} ha hI hF hn dst ty pos after K Q k=>by
  have hfr:ρ n=none:=hF n (xc4 _) hn;obtain ⟨x,o,h1,h2,h3,_⟩:=hI.held i s hi;refine h ha hI h1 h2 h3 dst ty pos after _ ha.full K Q fun u w' ⟨y,hv,hg,hb,o',ho,hf⟩=>?_;exact k u w' (upR ρ n y) (a5j hfr) (hv _ (a0l hfr) a0g) (hI.move hfr hi h1 hg ho hb (hf _ (a0l hfr) a0g))⟩
theorem a9m (hT:TOk P T) {t e sz eb cap:Nat} {ag ub:Bool} {zz:List Value} {y z:Operand} {u:Value} {rows news:List (List Value)} (ht:T.get t=some (.sl e sz eb ag zz)) (hi:d4 H i=some (.row e sz rows cap ub)) (hy:sEv E y=some (.slice (some ⟨i,0,none⟩) rows.length cap)) (hz:sEv E z=some u) (hu:∃ p m c,u=.slice p m c) (hr:a0R H sz u=some news) (hne:news≠[]) (hbig:(rows.length + news.length) * (eb + 1)<=1000000):Snd P (.call { callee:=.builtin .append,args:=#[y,z],argTypes:=#[t,t] }) E H n (some (.slice (some ⟨n,0,none⟩) (rows++news).length (rows++news).length),x9 (p8 H i) n (.row e sz (rows++news) (rows++news).length true),n + 1) :=
 Snd.of_move hi fun {w0 w ρ N ds a x o} ha hI hx hob hf dst ty pos after=>by
  obtain ⟨Tb,hTb,hget⟩:=hT.tabs [t];obtain ⟨p,m,c,rfl⟩:=hu;obtain ⟨v1,hv1,gy⟩:=ha.ev hy;obtain ⟨x',hx',rfl⟩:=VR.sl hv1;rw [hx] at hx';cases hx';obtain ⟨v2,hv2,gz⟩:=ha.ev hz;obtain ⟨b,o2,c',ns,rfl,hR,hro⟩:=a44 hI hr hv2 hne;obtain ⟨rs,hR0,hh,_⟩:=hf.row hob;have hl:ns.length=news.length:=hR.1;have hl0:rs.length=rows.length:=hR0.1;rw [<- hl0] at gy;intro bb hB K Q kk;refine a4c (St.self hh) hTb (hget t _ (by simp) ht) gy (i:=0) rfl gz hro rfl (by rw [hl,hl0];omega) bb hB K Q fun u' w' ⟨p',cap',e1,hS⟩=>kk u' w' ?_;simp only [List.set] at hS;have hpos:0 < ns.length:=by rw [hl];exact List.length_pos_iff.2 hne
  obtain ⟨g,rfl⟩:=hS.rowSome 0 rfl (by omega);have hlen:rs.length + ns.length=(rows++news).length:=by rw [xd4,hl,hl0]
  rw [hlen] at hS e1;obtain ⟨hle,ob,hob2,hf2⟩:=a39 (P:=P) (hS.at_ (i:=0) rfl) (hR0.app hR) rfl;refine ⟨(g,cap' - (rows++news).length),fun τ _ hτ=>?_,hS.grown1 rfl,?_,ob,hob2,fun τ hτ _=>hf2 τ hτ⟩
  ·rw [e1];have:=VR.mkSl (o:=0) (n:=(rows++news).length) (c:=(rows++news).length) hτ;rw [show (rows++news).length + (g,cap' - (rows++news).length).2=cap' from by simp only;omega] at this;exact this
  ·rcases hS.own _ (xb4) g rfl with h|⟨B,hB',e2⟩
   ·exact xc3 h
   ·rw [xh5.1 hB'] at e2
    cases e2
    exact xc6 rfl
theorem b0e (hT:TOk P T) {t e sz eb cap m c:Nat} {ag ub:Bool} {zz:List Value} {y z:Operand} {u:Value} {rows news:List (List Value)} (ht:T.get t=some (.sl e sz eb ag zz)) (hi:d4 H i=some (.row e sz rows cap ub)) (hy:sEv E y=some (.slice (some ⟨i,0,none⟩) m c)) (hz:sEv E z=some u) (hu:∃ p m c,u=.slice p m c) (hr:a0R H sz u=some news) (hne:news≠[]) (h1:m + news.length<=rows.length) (h2:m + news.length<=c):Snd P (.call { callee:=.builtin .append,args:=#[y,z],argTypes:=#[t,t] }) E H n (some (.slice (some ⟨i,0,none⟩) (m + news.length) c),y5 H i (.row e sz (a0B rows news m) cap ub),n) :=
 Snd.of_upd hi fun {w0 w ρ N ds a x o} ha hI hx hob hf dst ty pos after=>by
  obtain ⟨Tb,hTb,hget⟩:=hT.tabs [t];obtain ⟨p,m2,c2,rfl⟩:=hu;obtain ⟨v1,hv1,gy⟩:=ha.ev hy;obtain ⟨x',hx',rfl⟩:=VR.sl hv1;rw [hx] at hx';cases hx';obtain ⟨v2,hv2,gz⟩:=ha.ev hz;obtain ⟨b,o2,c',ns,rfl,hR,hro⟩:=a44 hI hr hv2 hne;obtain ⟨rs,hR0,hh,hub⟩:=hf.row hob;have hl:ns.length=news.length:=hR.1;have hl0:rs.length=rows.length:=hR0.1;obtain ⟨ji,zv,hu,hinfo,_,hs,_,_,_,_,hsz,hs0⟩:=hTb.sl (hget t _ (by simp) ht);have hcap:rs.length<=cap + x.2:=by
   rcases hh.1.2 with ⟨e1,_⟩|⟨g',c',cur,e1,_,_,h,_⟩
   ·cases e1
   ·cases e1;exact h
  obtain ⟨w',hst,hg,hh2⟩:=a4C (P:=P) (k:=m) hh (by omega) (by omega) hro.len hro.one;have hll:(loadCells ⟨b,o2,none⟩ (ns.length * sz)).run P w=.ok ns.flatten.toArray w:=by
   have:=run_loadCells_list (P:=P) w ⟨b,o2,none⟩ ns.flatten (fun j u hj=>by
    have hjl:j < ns.length * sz:=by rw [<- f8 hro.len];exact a7 hj
    have hdiv:j / sz < ns.length:=xf4 (by rw [xf5];exact hjl);have hmod:=Nat.mod_lt j (xf0 hs0);have h3:=a1j hro.len (i:=j / sz) (j:=j % sz) (xd0 hdiv) hmod;rw [show j / sz * sz + j % sz=j from by rw [xf5];exact xf6 j sz] at h3;rw [h3] at hj;have:=hro.cells (j / sz) _ (xd0 hdiv) (j % sz) u hj;rw [Addr.add_mid]
    rwa [xe2,show j / sz * sz + j % sz=j from by rw [xf5];exact xf6 j sz] at this)
   rwa [f8 hro.len] at this
  have hadd:(⟨x.1,0,none⟩:Addr).add (m * sz)=⟨x.1,m * sz,none⟩:=by rw [a3P,xd8]
  have hrun:(Builtin.append_ #[t,t] ty #[.slice (some ⟨x.1,0,none⟩) m (c + x.2),.slice (some ⟨b,o2,none⟩) ns.length c']).run P w=.ok (.slice (some ⟨x.1,0,none⟩) (m + ns.length) (c + x.2)) w':=by
   simp [Builtin.append_,run_underlying hu,Builtin.lenOf,Builtin.firstCells,sizeOf,typeInfo,hinfo,hs,show m + ns.length<=c + x.2 by omega,hll,hadd,hst]
  intro bb hB K Q kk;have hex:(execOp bb.eval ⟨dst,.call { callee:=.builtin .append,args:=#[y,z],argTypes:=#[t,t] },ty,pos,after,none⟩).run P w=.ok (.value (.slice (some ⟨x.1,0,none⟩) (m + ns.length) (c + x.2))) w':=by
   simp [execOp,resolve,invoke,builtin,hB.ev gy,hB.ev gz,hrun,Result.andThen]
  unfold Oper.wp;rw [hex];refine kk _ w' ⟨?_,hg,Fits.of_row hh2 ?_ rfl hub⟩
  ·rw [hl];exact VR.mkSl hx
  ·unfold a0B;rw [hl];exact (hR0.take m).app (hR.app (hR0.drop _))
end
end Go.Proofs.YtejnpppejalhfadGreat
namespace Go.Proofs.YtejnpppejalhfadGreat
set_option maxRecDepth 100000
set_option maxHeartbeats 8000000
open Go.RowKit Go.Sort Go.MapKept
def a8g (P:Program) (ez:List (Nat×Value)):Prop:=∀ t z,d4 ez t=some z->∀ Kt Et,P.underlying t=some (.map Kt Et)->(P.info? Et).bind (·.zero)=some z/\∀ ρ,VR ρ z z
section
variable {P:Program} {T:TT} {q:EqT} {w0 w w':World} {ρ σ:Ren} {N:Nat} {ds:List Deferred} {a:Act} {E:Fr} {H:SH} {n:Nat} {x:Nat×Nat} {i:Nat}
theorem b0r (hT:TOk P T) {t e sz eb:Nat} {ag:Bool} {zz:List Value} {y z:Operand} {p:Option Addr} {m c:Nat} {u:Value} (ht:T.get t=some (.sl e sz eb ag zz)) (hy:sEv E y=some (.slice p m c)) (hz:sEv E z=some u) (hr:a0R H sz u=some []) (hm:m<=c):Snd P (.call { callee:=.builtin .append,args:=#[y,z],argTypes:=#[t,t] }) E H n (some (.slice p m c),H,n) :=
 Snd.of_gets fun {w0 w ρ N ds a} ha hI=>by
  obtain ⟨Tb,hTb,hget⟩:=hT.tabs [t];obtain ⟨v1,hv1,gy⟩:=ha.ev hy;obtain ⟨v2,hv2,gz⟩:=ha.ev hz;have h2:∃ p2 c2,v2=.slice p2 0 c2:=by
   unfold a0R at hr
   split at hr
   ·obtain ⟨p',c',e,_⟩:=VR.slAny hv2;exact ⟨p',c',e⟩
   ·obtain ⟨p',c',e,_⟩:=VR.slAny hv2;exact ⟨p',c',e⟩
   ·rename_i i o m' c' hm'
    split at hr
    ·obtain ⟨h1,h2⟩:=a8 hr;simp only [xb6] at h1;have h3:=xe5 h1.2.2;have h4:=congrArg (Option.map List.length) h2;simp only [xf8,xa1,xi5,xa2,Option.some.injEq] at h4;obtain ⟨p',c'',e,_⟩:=VR.slAny hv2;exact ⟨p',c'',by rw [e,show m'=0 by omega]⟩
    ·cases hr
   ·cases hr
  obtain ⟨p2,c2,rfl⟩:=h2;have hv:∃ p' c',v1=.slice p' m c'/\m<=c':=by
   match p,hv1 with
   |none,hv1=>exact ⟨_,_,VR.sl0 hv1,hm⟩
   |some ⟨i,o,none⟩,hv1=>obtain ⟨x,_,e⟩:=VR.sl hv1;exact ⟨_,_,e,by omega⟩
   |some ⟨i,o,some s⟩,hv1=>unfold VR m8 at hv1;cases hv1
  obtain ⟨p',c',rfl,hm'⟩:=hv;refine ⟨_,hv1,fun dst ty pos after=>Gets.of_at fun b hB=>?_⟩;have hrun:=a75 hTb (hget t _ (by simp) ht) p' p2 m c' c2 hm' ty w;simp [execOp,resolve,invoke,builtin,hB.ev gy,hB.ev gz,hrun,Result.andThen]
theorem a2u {zv:Value} {ez:List Value} {sz:Nat} (hzl:zv.cells.toList=ez) (hsz:sz=ez.length) (hs0:sz≠0) (dl:Nat):(Builtin.zeroCells zv.cells dl).toList=(List.replicate dl ez).flatten:=by
 have hzs:zv.cells.size=sz:=by rw [<- xf2,hzl,hsz]
 have hfl:(List.replicate dl ez).flatten.length=dl * sz:=by rw [f8 (size:=sz) (fun r hr=>by rw [xk3 hr,hsz]),xg0]
 refine xf3 fun j=>?_;unfold Builtin.zeroCells;rw [hzs];by_cases hj:j < dl * sz
 ·have hdiv:j / sz < (List.replicate dl ez).length:=by rw [xg0];exact xf4 (by rw [xf5];exact hj)
  have hmod:=Nat.mod_lt j (xf0 hs0);have h3:=a1j (rows:=List.replicate dl ez) (size:=sz) (fun r hr=>by rw [xk3 hr,hsz]) (i:=j / sz) (j:=j % sz) (xd0 hdiv) hmod;rw [show j / sz * sz + j % sz=j from by rw [xf5];exact xf6 j sz] at h3;rw [h3,List.getElem_replicate];have hml:j % sz < zv.cells.size:=by rw [hzs];exact hmod
  simp [hj,hml,<- hzl]
 ·rw [xf9 (by simp;omega),xf9 (by rw [hfl];omega)]
theorem b04 (hT:TOk P T) (hZ:ZOk T) {t tn e sz eb s2 m:Nat} {ag:Bool} {zz:List Value} {z2:Value} {y z:Operand} (ht:T.get t=some (.sl e sz eb ag zz)) (htn:T.get tn=some (.sc (.int .i64) s2 z2)) (hy:sEv E y=some (.slice none 0 0)) (hz:sEv E z=some (.int .i64 (.ofNat m))) (hm:0 < m) (hbig:m * (eb + 1)<=1000000) (h1:zz.all (·.oneCell')=true):Snd P (.call { callee:=.builtin .append,args:=#[y,z],argTypes:=#[t,tn] }) E H n (some (.slice (some ⟨n,0,none⟩) (List.replicate m zz).length (List.replicate m zz).length),x9 H n (.row e sz (List.replicate m zz) (List.replicate m zz).length true),n + 1) :=
 Snd.of_new fun {w0 w ρ N ds a} ha hI dst ty pos after=>by
  obtain ⟨Tb,hTb,hget⟩:=hT.tabs [t,tn];obtain ⟨v1,hv1,gy⟩:=ha.ev hy;rw [VR.sl0 hv1] at gy;obtain ⟨v2,hv2,gz⟩:=ha.ev hz;rw [VR.int hv2] at gz;obtain ⟨ji,zv,hu,hinfo,_,hs,hby,hz0,hzl,_,hsz,hs0⟩:=hTb.sl (hget t _ (by simp) ht);obtain ⟨_,hun,_⟩:=hTb.sc (hget tn _ (by simp) htn);have hmul:m * (eb + 1)=m * eb + m:=Nat.mul_succ m eb;intro b hB K Q kk;have hold:(Builtin.firstCells ji.size 0 (.slice none 0 0)).run P w.drew=.ok ([]:List Value).toArray w.drew:=rfl;have hrun:=Go.Lib.run_append_grow_zeros (P:=P) w t tn ty e ji zv .i64 .i64 hu hun hinfo hz0 none 0 0 [] hold m hm (by rw [hs];exact xf0 hs0) (by omega) (by omega) (by rw [hby];omega) (by rw [hby,xd8];exact growslice_fits (by omega) (by omega));rw [xd8] at hrun;have hex:(execOp b.eval ⟨dst,.call { callee:=.builtin .append,args:=#[y,z],argTypes:=#[t,tn] },ty,pos,after,none⟩).run P w=.ok (.value (.slice (some ⟨w.heap.size,0,none⟩) m (grownCap w m 0 e))) (w.drew.alloc (.cells ((([]:List Value).toArray++Builtin.zeroCells zv.cells m++Builtin.zeroCells zv.cells (grownCap w m 0 e - m))) e)):=by
   simp only [Int.ofNat_eq_natCast] at gz;simp [execOp,resolve,invoke,builtin,hB.ev gy,hB.ev gz,hrun,Result.andThen]
  unfold Oper.wp;rw [hex];have hge:=grownCap_ge w m 0 e;have hcm:=grownCap_le_maxLen w m 0 e (by unfold maxLen;omega);have hz2:=LR.cOks (ρ:=ρ) (hZ t _ ht);have hlr:(List.replicate m zz).length=m:=xg0;refine kk _ _ ⟨(w.heap.size,grownCap w m 0 e - m),fun τ _ hτ=>?_,⟨rfl,rfl,rfl,by simp,fun k hk _=>heap_alloc_old w.drew _ hk⟩,xc4 _,_,heap_alloc_new w.drew _,fun τ hτ _=>?_⟩
  ·rw [hlr];have:=VR.mkSl (o:=0) (n:=m) (c:=m) hτ;rw [show m + (w.heap.size,grownCap w m 0 e - m).2=grownCap w m 0 e from by simp only;omega] at this;exact this
  ·have hfl:(List.replicate m zz).flatten.length=m * sz:=by rw [f8 (size:=sz) (fun r hr=>by rw [xk3 hr,hsz]),xg0]
   refine ⟨List.replicate m zz,_,RR.rep (LR.cOks (hZ t _ ht)) m,rfl,by rw [hlr];simp only;omega,by rw [hlr];simp only;omega,?_,?_,fun r hr=>by rw [xk3 hr,hsz],fun r hr=>by rw [xk3 hr];exact h1,fun h=>by cases h⟩
   ·rw [<- xf2,xk4,xk4,a2u hzl hsz hs0,a2u hzl hsz hs0,xe8,List.nil_append,xd4,hfl,hlr];rw [f8 (size:=sz) (fun r hr=>by rw [xk3 hr,hsz]),xg0,<- Nat.add_mul]
   ·rw [xk4,xk4,a2u hzl hsz hs0,xe8,List.nil_append,hlr,<- hfl,List.take_left'];rfl
theorem a1n {k x:Value} {b:Bool} (h:a83 k x=some b):(b=true ↔ x=k):=by
 unfold a83 at h
 split at h
 ·cases h;simp [eq_comm]
 ·cases h;simp [eq_comm]
 ·cases h
theorem a1s {k:Value}:∀ {es:List (Value×Value)} {v:Value},a09 k es=some (some v)->(k,v) ∈ es
 |[],_,h=>by cases h
 |(x,u)::r,v,h=>by
  unfold a09 at h
  split at h
  ·rename_i hk
   cases h
   rw [(a1n hk).1 rfl];exact xb4
  ·exact xb5 _ (a1s h)
  ·cases h
theorem a0Z {k:Value}:∀ {es:List (Value×Value)},a09 k es=some none->∀ p ∈ es,p.1≠k
 |[],_=>by simp
 |(x,u)::r,h=>by
  unfold a09 at h
  split at h
  ·cases h
  ·rename_i hk;intro p hp;rcases xb3.1 hp with rfl|hp
   ·exact fun e=>by have:=(a1n hk).2 e;cases this
   ·exact a0Z h p hp
  ·cases h
theorem a2V {k v:Value}:∀ {es:List (Value×Value)},(∀ p ∈ es,p.1≠k)->a5Y k v es=es++[(k,v)]
 |[],_=>rfl
 |(x,u)::r,h=>by
  unfold a5Y
  split
  ·rename_i hk;exact (h _ xb4 ((a1n hk).1 rfl)).elim
  ·rw [a2V fun p hp=>h p (xb5 _ hp)];rfl
theorem a3A {k v:Value}:∀ {es:List (Value×Value)} {j:Nat} {u:Value},(es.map (·.1)).Nodup->es[j]?=some (k,u)->(∃ w,a09 k es=some (some w))->a5Y k v es=es.set j (k,v)
 |[],_,_,_,h,_=>by simp at h
 |(x,w)::r,j,u,hn,h,hf=>by
  obtain ⟨w',hf⟩:=hf;unfold a09 at hf;unfold a5Y;rw [xa9,List.nodup_cons] at hn
  split at hf
  ·rename_i hk;rw [hk];have hx:=(a1n hk).1 rfl
   cases j with
   |zero=>rfl
   |succ j=>
    have:k ∈ r.map (·.1):=xi0.2 ⟨(k,u),xc0 (by simpa using h),rfl⟩;subst hx;exact (hn.1 this).elim
  ·rename_i hk;rw [hk]
   cases j with
   |zero=>
    simp at h;have:=(a1n hk).2 h.1
    cases this
   |succ j=>
    dsimp only;rw [a3A hn.2 (by simpa using h) ⟨w',hf⟩];rfl
  ·cases hf
theorem R2.at_ {es L:List (Value×Value)} (h:R2 ρ es L) {j:Nat} {k v:Value} (hj:es[j]?=some (k,v)):∃ u,L[j]?=some (k,u)/\VR ρ v u:=by
 obtain ⟨h1,h2⟩:=h;obtain ⟨u,hu,hv⟩:=h2.get (i:=j) (v:=v) (by rw [xf7,hj];rfl);rw [xf7] at hu;obtain ⟨p,hp,e⟩:=xk1.1 hu;have h3:(L.map (·.1))[j]?=some k:=by rw [h1,xf7,hj];rfl
 rw [xf7,hp] at h3;simp only [xf8,Option.some.injEq] at h3;exact ⟨u,by rw [hp];congr 1;exact Prod.ext h3 e,hv⟩
theorem R2.at' {es L:List (Value×Value)} (h:R2 ρ es L) {j:Nat} {k u:Value} (hj:L[j]?=some (k,u)):∃ v,es[j]?=some (k,v):=by
 obtain ⟨h1,h2⟩:=h;have h3:(es.map (·.1))[j]?=some k:=by rw [<- h1,xf7,hj];rfl
 rw [xf7] at h3;obtain ⟨p,hp,e⟩:=xk1.1 h3;exact ⟨p.2,by rw [hp,<- e]⟩
theorem R2.len {es L:List (Value×Value)} (h:R2 ρ es L):L.length=es.length:=by
 have:=congrArg List.length h.1
 simpa using this
theorem R2.set {es L:List (Value×Value)} (h:R2 ρ es L) {j:Nat} {k v u:Value} (hv:VR ρ v u):R2 ρ (es.set j (k,v)) (L.set j (k,u)):=by
 refine ⟨by rw [List.map_set,List.map_set,h.1],?_⟩;rw [List.map_set,List.map_set];exact h.2.set j hv
theorem R2.snoc {es L:List (Value×Value)} (h:R2 ρ es L) {k v u:Value} (hv:VR ρ v u):R2 ρ (es++[(k,v)]) (L++[(k,u)]):=by
 refine ⟨by rw [xi1,xi1,h.1];rfl,?_⟩;rw [xi1,xi1];exact h.2.app (LR.cons hv LR.nil)
theorem a6C (hT:TOk P T) (hI:Inv P w0 ρ H w) {t:TypeId} {k:Value} {es:List (Value×Value)} (h:a3V T H t i k=some es):d4 H i=some (.smap t es)/\∃ x arr c Kt Et D L,ρ i=some x/\w.heap[x.1]?=some (.map arr c)/\P.underlying t=some (.map Kt Et)/\P.underlying Kt=some D/\MapG D arr L/\R2 ρ es L/\IsKey D k/\(∀ p ∈ es,(∃ n,p.1=.int .i64 n)\/∃ s,p.1=.string s)/\((∃ n,k=.int .i64 n)\/∃ s,k=.string s):=by
 unfold a3V at h
 split at h
 ·rename_i t' es' hi;obtain ⟨h1,h2⟩:=a8 h
  cases h2
  rw [xb6] at h1;obtain ⟨h1,h2⟩:=h1;obtain rfl:=xa8 h1;refine ⟨hi,?_⟩;obtain ⟨x,ob,g1,g2,g3,_⟩:=hI.held _ _ hi;obtain ⟨arr,c,Kt,Et,D,L,e1,e2,rfl,e4,e5,e6⟩:=g3;refine ⟨x,arr,c,Kt,Et,D,L,g1,g2,e1,e2,e4,e5,?_,e6,?_⟩
  ·unfold sKO at h2
   split at h2
   ·rename_i K _ _ _ ht;obtain ⟨Tb,hTb,hget⟩:=hT.tabs [t,K];obtain ⟨_,hu,_⟩:=hTb.sc (hget t _ (by simp) ht);rw [e1] at hu
    cases hu
    split at h2
    ·rename_i hk;obtain ⟨_,hu,_⟩:=hTb.sc (hget _ _ (by simp) hk);rw [e2] at hu
     cases hu
     rfl
    ·rename_i hk;obtain ⟨_,hu,_⟩:=hTb.sc (hget _ _ (by simp) hk);rw [e2] at hu
     cases hu
     exact trivial
    ·cases h2
   ·cases h2
  ·unfold sKO at h2
   split at h2
   ·split at h2
    ·exact xc6 ⟨_,rfl⟩
    ·exact xc3 ⟨_,rfl⟩
    ·cases h2
   ·cases h2
 ·cases h
theorem VR.key {k u:Value} (hk:(∃ n,k=.int .i64 n)\/∃ s,k=.string s) (h:VR ρ k u):u=k:=by
 rcases hk with ⟨n,rfl⟩|⟨s,rfl⟩
 ·exact VR.int h
 ·exact VR.str h
theorem b0u (hT:TOk P T) {ez:List (Nat×Value)} (hE:a8g P ez) {t:TypeId} {ok:Bool} {y z:Operand} {m k:Value} {r:Option Value×SH×Nat} (hy:sEv E y=some m) (hz:sEv E z=some k) (h:a6R T ez H n t ok m k=some r):Snd P (.lookup t y z ok) E H n r:=by
 unfold a6R at h
 split at h
 ·rename_i i
  split at h
  ·rename_i es hm
   split at h
   ·rename_i v hf
    cases h
    refine Snd.of_gets fun {w0 w ρ N ds a} ha hI=>?_;obtain ⟨hi,x,arr,c,Kt,Et,D,L,g1,g2,e1,e2,e4,e5,e6,_,e7⟩:=a6C hT hI hm;obtain ⟨v1,hv1,gy⟩:=ha.ev hy;obtain ⟨x',hx,rfl⟩:=VR.mp hv1;rw [g1] at hx;cases hx;obtain ⟨v2,hv2,gz⟩:=ha.ev hz;rw [VR.key e7 hv2] at gz;obtain ⟨j,hj⟩:=xc8.1 (a1s hf);obtain ⟨u,hu,huv⟩:=e5.at_ hj;have hh:Asr.holds w (.obj x.1 (.map arr c)):=⟨g2,rfl⟩;refine ⟨_,?_,fun _ _ _ _=>b0J (St.self hh) e1 e2 gy gz (i:=0) rfl e4 e6 (xc0 hu) ok⟩
    cases ok
    ·exact huv
    ·exact VR.mkTup (LR.cons huv (LR.cOks rfl))
   ·rename_i hf;obtain ⟨z0,hz0,rfl⟩:=xk1.1 h;refine Snd.of_gets fun {w0 w ρ N ds a} ha hI=>?_;obtain ⟨hi,x,arr,c,Kt,Et,D,L,g1,g2,e1,e2,e4,e5,e6,_,e7⟩:=a6C hT hI hm;obtain ⟨v1,hv1,gy⟩:=ha.ev hy;obtain ⟨x',hx,rfl⟩:=VR.mp hv1;rw [g1] at hx;cases hx;obtain ⟨v2,hv2,gz⟩:=ha.ev hz;rw [VR.key e7 hv2] at gz;have hh:Asr.holds w (.obj x.1 (.map arr c)):=⟨g2,rfl⟩;obtain ⟨hz1,hz2⟩:=hE t z0 hz0 Kt Et e1;refine ⟨_,?_,fun _ _ _ _=>a9j (St.self hh) e1 e2 hz1 gy gz (i:=0) rfl e4 e6 (fun v hv=>?_) ok⟩
    ·cases ok
     ·exact hz2 ρ
     ·exact VR.mkTup (LR.cons (hz2 ρ) (LR.cOks rfl))
    ·obtain ⟨j,hj⟩:=xc8.1 hv;obtain ⟨v',hv'⟩:=e5.at' hj;exact a0Z hf _ (xc0 hv') rfl
   ·cases h
  ·cases h
 ·cases h
theorem a9E (hT:TOk P T) {t:TypeId} {y z u:Operand} {m k v:Value} {r:Option Value×SH×Nat} (hy:sEv E y=some m) (hz:sEv E z=some k) (hu:sEv E u=some v) (h:a7H T H n t m k v=some r):Snd P (.mapUpdate t y z u) E H n r:=by
 unfold a7H at h
 split at h
 ·rename_i i
  split at h
  ·rename_i es hm
   split at h
   ·rename_i fo hf
    cases h
    have hi:d4 H i=some (.smap t es):=by
     unfold a3V at hm
     split at hm
     ·rename_i hi;obtain ⟨h1,h2⟩:=a8 hm
      cases h2
      rw [xb6] at h1;rw [xa8 h1.1];exact hi
     ·cases hm
    refine Snd.of_upd hi fun {w0 w ρ N ds a x ob} ha hI hx hob hf' dst ty pos after=>?_;obtain ⟨_,x',arr,c,Kt,Et,D,L,g1,g2,e1,e2,e4,e5,e6,e8,e7⟩:=a6C hT hI hm;rw [hx] at g1;cases g1;obtain ⟨v1,hv1,gy⟩:=ha.ev hy;obtain ⟨x',hx',rfl⟩:=VR.mp hv1;rw [hx] at hx';cases hx';obtain ⟨v2,hv2,gz⟩:=ha.ev hz;rw [VR.key e7 hv2] at gz;obtain ⟨v3,hv3,gu⟩:=ha.ev hu;have hh:Asr.holds w (.obj x.1 (.map arr c)):=⟨g2,rfl⟩;intro b hB K Q kk
    cases fo with
    |none=>
     have hmiss:=a0Z hf;refine b0l (St.self hh) e1 e2 gy gz gu (i:=0) rfl e4 e6 (fun v hv=>?_) b hB K Q fun u' w' ⟨es',c',hG,hS⟩=>kk u' w' ⟨trivial,hS.grown1 rfl,_,(hS.at_ (i:=0) rfl).1,?_⟩
     ·obtain ⟨j,hj⟩:=xc8.1 hv;obtain ⟨v',hv'⟩:=e5.at' hj;exact hmiss _ (xc0 hv') rfl
     ·rw [a2V hmiss];refine ⟨es',c',Kt,Et,D,_,e1,e2,rfl,hG,e5.snoc hv3,fun p hp=>?_⟩;rcases xd1.1 hp with hp|hp
      ·exact e8 p hp
      ·rw [xh5.1 hp];exact e7
    |some w1=>
     obtain ⟨j,hj⟩:=xc8.1 (a1s hf);obtain ⟨u0,hu0,_⟩:=e5.at_ hj;refine b0a (St.self hh) e1 e2 gy gz gu (i:=0) rfl e4 e6 (xc0 hu0) b hB K Q fun u' w' ⟨es',c',j2,u2,hj2,hG,hS⟩=>kk u' w' ⟨trivial,hS.grown1 rfl,_,(hS.at_ (i:=0) rfl).1,?_⟩;obtain ⟨v',hv'⟩:=e5.at' hj2;have hnd:(es.map (·.1)).Nodup:=by rw [<- e5.1];exact e4.once
     rw [a3A hnd hv' ⟨w1,hf⟩];refine ⟨es',c',Kt,Et,D,_,e1,e2,rfl,hG,e5.set hv3,fun p hp=>?_⟩;rcases xg3 hp with hp|hp
     ·exact e8 p hp
     ·rw [hp];exact e7
   ·cases h
  ·cases h
 ·cases h
theorem a9T {t:TypeId} {y:Operand} {v:Value} {r:Option Value×SH×Nat} (hy:sEv E y=some v) (h:a7m H n t v=some r):Snd P (.call { callee:=.builtin .len,args:=#[y],argTypes:=#[t] }) E H n r:=by
 unfold a7m at h
 split at h
 ·rename_i i
  split at h
  ·rename_i t' es hi;obtain ⟨h1,h2⟩:=a8 h
   cases h2
   obtain rfl:=xa8 h1;refine Snd.of_gets fun {w0 w ρ N ds a} ha hI=>?_;obtain ⟨v1,hv1,gy⟩:=ha.ev hy;obtain ⟨x',hx,rfl⟩:=VR.mp hv1;obtain ⟨x,ob,g1,g2,g3,_⟩:=hI.held _ _ hi;rw [hx] at g1;cases g1;obtain ⟨arr,c,Kt,Et,D,L,e1,e2,rfl,e4,e5,e6⟩:=g3;have hh:Asr.holds w (.obj x'.1 (.map arr c)):=⟨g2,rfl⟩;refine ⟨_,VR.cOk rfl,fun dst ty pos after b hB K Q kk=>a6K (St.self hh) e1 gy (i:=0) rfl b hB K Q fun v' w' hv=>kk v' w' ⟨?_,hv.2⟩⟩;rw [hv.1,e4.size,e5.len]
  ·cases h
 ·cases h
theorem b1V (hT:TOk P T) {t K:TypeId} {Et:TypeId} {s:Nat} {z:Value} {tk:TI} (ht:T.get t=some (.sc (.map K Et) s z)) (hk:T.get K=some tk):Snd P (.makeMap t none) E H n (some (.map (some n)),x9 H n (.smap t []),n + 1) :=
 Snd.of_new fun {w0 w ρ N ds a} ha hI dst ty pos after=>by
  obtain ⟨Tb,hTb,hget⟩:=hT.tabs [t,K];obtain ⟨_,hu,_⟩:=hTb.sc (hget t _ (by simp) ht);obtain ⟨D,hD⟩:=hTb.und (hget K _ (by simp) hk);intro b hB K' Q kk;refine a5D (St.start _) b hB K' Q fun u' w' ⟨g,e,hS⟩=>kk u' w' ⟨(g,0),fun τ _ hτ=>by rw [e];exact VR.mkMap hτ,hS.drop.grown0,a7n hS rfl,_,(hS.at_ (i:=0) rfl).1,fun τ _ _=>⟨#[],0,K,Et,D,[],hu,hD,rfl,MapG.nil D,⟨rfl,LR.nil⟩,by simp⟩⟩
end
end Go.Proofs.YtejnpppejalhfadGreat
namespace Go.Proofs.YtejnpppejalhfadGreat
set_option maxRecDepth 100000
set_option maxHeartbeats 8000000
open Go.RowKit Go.Sort
section
variable {P:Program} {T:TT} {q:EqT} {w0 w w':World} {ρ σ:Ren} {N:Nat} {ds:List Deferred} {a:Act} {E:Fr} {H:SH} {n:Nat} {x:Nat×Nat} {i:Nat}
theorem b07 (hT:TOk P T) {t:TypeId} {y:Operand} {lo hi mx:Option Operand} {r:Option Value×SH×Nat} (h:a92 T E H n t y lo hi mx=some r):Snd P (.slice t y lo hi mx) E H n r:=by
 unfold a92 at h
 split at h
 ·rename_i ht hy hlo;obtain ⟨h1,h2⟩:=a8 h
  cases h2
  have h1:=xe5 h1;obtain ⟨Tb,hTb,hget⟩:=hT.tabs [t];refine Snd.of_runs fun {ρ N ds a} ha=>?_;obtain ⟨v1,hv1,gy⟩:=ha.ev hy;obtain ⟨x,hx,rfl⟩:=VR.sl hv1
  cases lo with
  |none=>cases hlo
  |some l=>
   obtain ⟨v,hv,e⟩:=xk1.1 (show (sEv E l).map some=_ from hlo)
   cases e
   obtain ⟨v2,hv2,gl⟩:=ha.ev hv;rw [VR.int hv2] at gl;exact ⟨_,trivial,fun _ _ _ _=>a4T hTb (hget t _ (by simp) ht) gy gl rfl h1 a ha.full _⟩
 ·cases h
theorem a7c {sz:Nat} {u:Value} {rows:List (List Value)} (h:a0R H sz u=some rows):∃ p m c,u=.slice p m c:=by
 unfold a0R at h
 split at h
 ·exact ⟨_,_,_,rfl⟩
 ·exact ⟨_,_,_,rfl⟩
 ·exact ⟨_,_,_,rfl⟩
 ·cases h
theorem b1o (hT:TOk P T) (hZ:ZOk T) {t t':TypeId} {y z:Operand} {s u:Value} {r:Option Value×SH×Nat} (hy:sEv E y=some s) (hz:sEv E z=some u) (h:a42 T H n t t' s u=some r):Snd P (.call { callee:=.builtin .append,args:=#[y,z],argTypes:=#[t,t'] }) E H n r:=by
 unfold a42 at h
 split at h
 ·rename_i e sz eb ag zz ht;rcases a1h h with ⟨h1,g⟩|⟨_,g⟩
  ·clear h;obtain rfl:=xa8 h1
   split at g
   ·rename_i news hr;have hu:=a7c hr;unfold a5a at g
    split at g
    ·rename_i p m c
     split at g
     ·obtain ⟨h2,g2⟩:=a8 g
      cases g2
      exact b0r hT ht hy hz hr (xe5 h2)
     ·rename_i n0 nr;obtain ⟨h2,g2⟩:=a8 g;clear g;have h2:=xe5 h2;have hne:n0::nr≠[]:=by simp
      generalize n0::nr=news at g2 h2 hr hne
      split at g2
      ·obtain ⟨h3,g3⟩:=a8 g2
       cases g3
       rw [xb6] at h3;obtain rfl:=xa8 h3.1;obtain rfl:=xa8 h3.2;exact a8Z hT ht hy hz hu hr hne (by simpa using h2)
      ·rename_i i;unfold a9q at g2
       split at g2
       ·rename_i e' sz' rows cap ub hi;obtain ⟨h3,g3⟩:=a8 g2;clear g2;rw [xb6] at h3;obtain rfl:=xa8 h3.1;obtain rfl:=xa8 h3.2;rcases a1h g3 with ⟨h4,g4⟩|⟨_,g4⟩
        ·clear g3
         cases g4
         rw [xb6] at h4;obtain rfl:=xa8 h4.1;obtain rfl:=xa8 h4.2;exact a9m hT ht hi hy hz hu hr hne h2
        ·clear g3;obtain ⟨h4,g5⟩:=a8 g4
         cases g5
         rw [xb6] at h4;exact b0e hT ht hi hy hz hu hr hne (xe5 h4.1) (xe5 h4.2)
       ·cases g2
      ·cases g2
    ·cases g
   ·cases g
  ·clear h
   split at g
   ·rename_i s2 z2 m ht';unfold a9J at g
    split at g
    ·obtain ⟨h2,g2⟩:=a8 g
     cases g2
     simp only [xb6] at h2;exact b04 hT hZ ht ht' hy hz (by simpa [xb0] using h2.1) (xe5 h2.2.1) h2.2.2
    ·cases g
   ·cases g
 ·cases h
theorem b1k (hT:TOk P T) (hZ:ZOk T) {b:Builtin} {args:Array Operand} {ats:Array TypeId} {r:Option Value×SH×Nat} (h:b0B T E H n b args.toList ats.toList=some r):Snd P (.call { callee:=.builtin b,args:=args,argTypes:=ats }) E H n r:=by
 unfold b0B at h
 split at h
 ·rename_i x y t t' h1 h2;obtain rfl:=a6Q h1;obtain rfl:=a6Q h2
  split at h
  ·rename_i s u hx hy;exact b1o hT hZ hx hy h
  ·cases h
 ·rename_i x y t t' h1 h2;obtain rfl:=a6Q h1;obtain rfl:=a6Q h2
  split at h
  ·rename_i s u hx hy;exact b0c hT hx hy h
  ·cases h
 ·rename_i x t h1 h2;obtain rfl:=a5F h1;obtain rfl:=a5F h2
  split at h
  ·rename_i v hx;exact a9T hx h
  ·cases h
 ·cases h
theorem b1n (hT:TOk P T) {t:TypeId} {y z u:Operand} {m k v:Value} {r:Option Value×SH×Nat} (hy:sEv E y=some m) (hz:sEv E z=some k) (hu:sEv E u=some v) (h:a7H T H n t m k v=some r):Snd P (.insert t y z u) E H n r:=by
 have h2:=a9E hT hy hz hu h;exact h2
theorem b1U (hT:TOk P T) (hZ:ZOk T) {ez:List (Nat×Value)} (hE:a8g P ez) {op:Op} {r:Option Value×SH×Nat} (h:sOp T ez E H n op=some r):Snd P op E H n r:=by
 unfold sOp at h
 split at h
 ·split at h
  ·rename_i p hx;obtain ⟨v,hv,rfl⟩:=xk1.1 h;exact b0N hT hx hv
  ·cases h
 ·split at h
  ·rename_i p v hx hy;obtain ⟨H',hv,rfl⟩:=xk1.1 h;exact a8d hT hx hy hv
  ·cases h
 ·split at h
  ·rename_i v hx
   split at h
   ·rename_i L hL
    cases h
    exact b1v hx hL
   ·cases h
  ·cases h
 ·split at h
  ·rename_i ti ht
   cases h
   exact a8M hT hZ ht
  ·cases h
 ·exact b1S hT h
 ·exact b1Z hT hZ h
 ·rename_i c;obtain ⟨cl,args,ats⟩:=c
  split at h
  ·rename_i b hb;dsimp only at hb h;subst hb;exact b1k hT hZ h
  ·cases h
 ·exact b0X hT h
 ·split at h
  ·rename_i ht
   split at h
   ·rename_i hk
    cases h
    exact b1V hT ht hk
   ·cases h
  ·cases h
 ·split at h
  ·rename_i m k hx hy;exact b0u hT hE hx hy h
  ·cases h
 ·split at h
  ·rename_i m k v hx hy hz;exact a9E hT hx hy hz h
  ·cases h
 ·split at h
  ·rename_i m k v hx hy hz;exact b1n hT hx hy hz h
  ·cases h
 ·exact b07 hT h
 ·split at h
  ·rename_i ht hx
   cases h
   exact a8h hT hx ⟨_,_,ht⟩
  ·cases h
 ·exact a9V h
 ·cases h
end
section
variable {P:Program} {ops:Array Oper} {Q:Exit->Act->World->Prop}
abbrev Ea:=List (Nat×(World->Prop))
def o7 (ops:Array Oper) (j:Nat) (L:Ea):Ea:=L.filter fun p=>!t2 ops j p.1
def wpT (P:Program) (ops:Array Oper) (Q:Exit->Act->World->Prop):Nat->Ea->Array Bool->Act->World->Prop
 |0,_,li,a,w=>Region.ready .any ops li=[]/\Q .normal a w
 |f + 1,L,li,a,w=>(Region.ready .any ops li=[]->Q .normal a w)/\∀ j ∈ Region.ready .any ops li,wpOp P ops Q j (fun a' w'=>(∀ p ∈ o7 ops j L,p.2 w')/\wpT P ops Q f (o7 ops j L) (li.setIfInBounds j true) a' w') a w
theorem a5w:∀ (f:Nat) (L:Ea) (li:Array Bool) (a:Act) (w:World),wpT P ops Q f L li a w->wpAny P .any ops Q f li a w
 |0,_,_,_,_,h=>h
 |f + 1,L,_,_,_,h=>⟨h.1,fun i hi=>wpOp_mono (fun a' w' h'=>a5w f _ _ a' w' h'.2) (h.2 i hi)⟩
theorem a1U:∀ (f:Nat) {L L':Ea} {li:Array Bool} {a:Act} {w:World},(∀ p ∈ L',p ∈ L)->wpT P ops Q f L li a w->wpT P ops Q f L' li a w
 |0,_,_,_,_,_,_,h=>h
 |f + 1,L,L',_,_,_,hs,h=>⟨h.1,fun i hi=>wpOp_mono (fun a' w' h'=>by
   have hk:∀ p ∈ o7 ops i L',p ∈ o7 ops i L:=fun p hp=>by
    have:=xk0.1 hp;exact xk0.2 ⟨hs p this.1,this.2⟩
   exact ⟨fun p hp=>h'.1 p (hk p hp),a1U f hk h'.2⟩) (h.2 i hi)⟩
theorem a2e {i:Nat} {oi:Oper} {v:Value} {S:World->Prop} (hi:ops[i]?=some oi) (hsel:∀ (j:Nat) (o:Oper) cs b,ops[j]?=some o->o.op≠.select cs b)
  (hQ:∀ c a w,Q (.panic c) (a.put oi.dst v) w->Q (.panic c) a w) :
  ∀ (fuel:Nat) (L:Ea) (li:Array Bool) (a:Act) (w:World),
   (∀ j oj,ops[j]?=some oj->j≠i->li.getD j true=false->(∀ e ∈ oj.after,Region.binds .any e=true->e.on≠i)->oi.apart ops oj=true) ->
   i ∈ Region.ready .any ops li->YieldsIf P ops S oi v a->S w->(∀ p ∈ L,p.2 w) ->
   wpT P ops Q fuel ((i,S)::L) (li.setIfInBounds i true) (a.put oi.dst v) w->wpT P ops Q (fuel + 1) L li a w:=by
 intro fuel;have step:∀ (li:Array Bool) (j:Nat),i ∈ Region.ready .any ops li->j ∈ Region.ready .any ops li->∀ oj,ops[j]?=some oj->∀ e ∈ oj.after,Region.binds .any e=true->e.on≠i:=by
  intro li j hr hj oj hoj e he hb heq;obtain ⟨_,o,ho,hall⟩:=mem_ready.1 hj;rw [hoj] at ho
  cases ho
  have h1:=hall e he hb;have h0:=(mem_ready.1 hr).1;rw [heq] at h1;rcases xh8 i li.size with h'|h'
  ·simp [h'] at h0 h1;rw [h0] at h1;cases h1
  ·simp [Array.getElem?_eq_none h'] at h1
 have nowait:∀ (li:Array Bool) (j:Nat),i ∈ Region.ready .any ops li->j ∈ Region.ready .any ops li->t2 ops j i=false:=fun li j hr hj=>by
  cases e:t2 ops j i with
  |false=>rfl
  |true=>
   obtain ⟨oq,hoq,e',he,hb,heq⟩:=a7x e;exact (step li j hr hj oq hoq e' he hb heq).elim
 induction fuel with
 |zero=>
  intro L li a w _ hr hy hS hL H;refine ⟨fun h=>(by rw [h] at hr;cases hr),fun j hj=>?_⟩;by_cases hji:j=i
  ·subst hji;exact hy.wpOp hi hS ⟨fun p hp=>hL p (xk0.1 hp).1,H⟩
  ·have:=ready_mono hj hji;rw [H.1] at this
   cases this
 |succ fuel ih=>
  intro L li a w hfree hr hy hS hL H;refine ⟨fun h=>(by rw [h] at hr;cases hr),fun j hj=>?_⟩;by_cases hji:j=i
  ·subst hji;exact hy.wpOp hi hS ⟨fun p hp=>hL p (xk0.1 hp).1,a1U _ (fun p hp=>xb5 _ (xk0.1 hp).1) H⟩
  ·have hnw:=nowait li j hr hj;have h1:=H.2 j (ready_mono hj hji);obtain ⟨hjun,oj,hoj,_⟩:=mem_ready.1 hj;have h2:=wpOp_putIf hoj (hfree j oj hoj hji hjun (step li j hr hj oj hoj)) (fun cs b=>hsel i oi cs b hi) (fun cs b=>hsel j oj cs b hoj) hQ hy h1;have hfree':∀ k ok,ops[k]?=some ok->k≠i->(li.setIfInBounds j true).getD k true=false ->
     (∀ e ∈ ok.after,Region.binds .any e=true->e.on≠i)->oi.apart ops ok=true:=fun k ok hk hki hun hno=>by
    refine hfree k ok hk hki ?_ hno;by_cases hjk:j=k
    ·subst hjk;exact hjun
    ·rw [getD_set_ne true hjk] at hun;exact hun
   have hkeep:o7 ops j ((i,S)::L)=(i,S)::o7 ops j L:=by
    unfold o7;rw [List.filter_cons,hnw];rfl
   refine wpOp_mono (fun a' w' h3=>?_) h2;obtain ⟨h4,h5,h6⟩:=h3;rw [hkeep] at h5 h6;refine ⟨fun p hp=>h5 p (xb5 _ hp),ih (o7 ops j L) (li.setIfInBounds j true) a' w' hfree' (ready_mono hr (Ne.symm hji)) h4 (h5 _ xb4) (fun p hp=>h5 p (xb5 _ hp)) ?_⟩;rw [Array.setIfInBounds_comm _ _ hji];exact h6
end
def PQ (Q:Exit->Act->World->Prop):Prop:=∀ c (a:Act) w d v,Q (.panic c) (a.put d v) w->Q (.panic c) a w
def v9 (P:Program) (call:a11):Prop:=∀ g vs H n v H' n',call g vs H n=.ok (v,H',n')->n<=n'/\∀ {w0 w:World} {ρ:Ren} {hi:Nat} {us:List Value},LR ρ vs us->Inv P w0 ρ H w->Fsh ρ n hi->n'<=hi->Fn P g us w (fun u w'=>∃ σ,Stp ρ σ n n'/\VR σ v u/\Inv P w0 σ H' w')
def IOk (P:Program) (I:List (Nat×List (String×Nat))):Prop:=∀ t ms,d4 I t=some ms->P.concrete t=true/\∀ name g,a8Q ms name=some g->a7r P t name g=true
structure COk (P:Program) (C:Cx):Prop where
 T:TOk P C.T
 Z:ZOk C.T
 q:QOk P C.q
 ez:a8g P C.ez
 I:IOk P C.I
section
variable {P:Program} {C:Cx} {call:a11} {w0 w w':World} {ρ σ:Ren} {N:Nat} {ds:List Deferred} {a:Act} {E E':Fr} {H H':SH} {n n':Nat} {Q:Exit->Act->World->Prop}
theorem a4h {o:Oper} {K:Act->World->Prop} (h:Oper.wp P ⟨o.dst,o.op,o.type,o.pos,o.after,none⟩ a w K Q):o.wp P a w K Q:=h
theorem a5u (hC:COk P C) {op:Op} {pos:String} {r:Option Value×SH×Nat} (h:a8i C op pos E H n=.ok r):Snd P op E H n r:=by
 unfold a8i at h
 split at h
 ·rename_i v hv
  cases h
  exact Snd.of_yl fun ha=>a6W hC.T hC.Z hC.q ha hv
 ·split at h
  ·rename_i r' hr
   cases h
   exact b1U hC.T hC.Z hC.ez hr
  ·cases h
theorem a73 (hc:v9 P call) {f:Operand} {args:Array Operand} {ats:Array TypeId} {pos:String} {r:Option Value×SH×Nat} (h:b0h call pos E H n f args.toList=.ok r):Snd P (.call { callee:=.value f,args:=args,argTypes:=ats }) E H n r:=by
 unfold b0h at h
 split at h
 ·rename_i g first caps vs hf hv
  split at h
  ·rename_i v r' hr
   cases h
   obtain ⟨H',n'⟩:=r';obtain ⟨hle,hs⟩:=hc g _ H n v H' n' hr;refine ⟨hle,fun {w0 w ρ N ds a hi} ha hI hF hn dst ty pos after K Q kk=>?_⟩;obtain ⟨u,hu,gf⟩:=ha.ev hf;obtain ⟨us,hus,gv⟩:=ha.evs hv;obtain ⟨first',caps',rfl,h1,h2⟩:=VR.fun_ (a:=first.toList) (b:=caps.toList) hu;refine a3n gf gv (hs ((h1.app hus).app h2) hI hF hn) a ha.full K Q fun v' w' ⟨σ,hσ,hv',hI'⟩=>kk v' w' σ hσ hv' hI'
  ·cases h
 ·cases h
theorem VR.iface_ {t:TypeId} {v u:Value} (h:VR ρ (.iface t v) u):∃ u',u=.iface t u'/\VR ρ v u':=by
 unfold VR m8 at h;obtain ⟨u',h1,h2⟩:=xk1.1 h;exact ⟨u',h2.symm,h1⟩
theorem a78 (hC:COk P C) (hc:v9 P call) {f:Operand} {name:String} {args:Array Operand} {ats:Array TypeId} {pos:String} {r:Option Value×SH×Nat} (h:a98 C call pos E H n f name args.toList=.ok r):Snd P (.call { callee:=.invoke f name,args:=args,argTypes:=ats }) E H n r:=by
 unfold a98 at h
 split at h
 ·rename_i t u vs hf hv
  split at h
  ·rename_i ms hms
   split at h
   ·rename_i g hg
    split at h
    ·rename_i v r' hr
     cases h
     obtain ⟨H',n'⟩:=r';obtain ⟨hle,hs⟩:=hc g _ H n v H' n' hr;refine ⟨hle,fun {w0 w ρ N ds a hi} ha hI hF hn dst ty pos after K Q kk=>?_⟩;obtain ⟨x,hx,gf⟩:=ha.ev hf;obtain ⟨us,hus,gv⟩:=ha.evs hv;obtain ⟨u',rfl,hu'⟩:=VR.iface_ hx;refine a6I gf gv ((hC.I t ms hms).2 name g hg) (hs (LR.cons hu' hus) hI hF hn) a ha.full K Q fun v' w' ⟨σ,hσ,hv',hI'⟩=>kk v' w' σ hσ hv' hI'
    ·cases h
   ·cases h
  ·cases h
 ·cases h
theorem a8H (hC:COk P C) {t:TypeId} {x:Operand} {pos:String} {r:Option Value×SH×Nat} (h:b0K C pos E H n t x=.ok r):Snd P (.makeInterface t x) E H n r:=by
 unfold b0K at h
 split at h
 ·rename_i ms v hms hx
  cases h
  refine Snd.of_yl fun ha=>?_;obtain ⟨u,hu,gx⟩:=ha.ev hx;refine ⟨.iface t u,by unfold VR m8;rw [show m8 _ v=some u from hu];rfl,fun dst ty pos after w=>?_⟩;simp only [execOp,ha.full.ev gx,Sem.run_bind,run_makeInterface w t u (hC.I t ms hms).1,Result.andThen_ok,Sem.run_pure]
 ·cases h
theorem a2h (hC:COk P C) (hc:v9 P call) {op:Op} {pos:String} {r:Option Value×SH×Nat} (h:a2N C call op pos E H n=.ok r):Snd P op E H n r:=by
 unfold a2N at h
 split at h
 ·rename_i c;obtain ⟨cl,args,ats⟩:=c
  split at h
  ·rename_i f hf;dsimp only at hf h;subst hf;exact a73 hc h
  ·rename_i f name hf;dsimp only at hf h;subst hf;exact a78 hC hc h
  ·exact a5u hC h
 ·exact a8H hC h
 ·exact a5u hC h
theorem x8 {ops:Array Oper} {o:Oper} {b:Bool} (ha:HasR ρ N ds a E) (h:a12 ops.toList E o=some b):Region.wanted o (yielded ops a.tmps)=b:=by
 unfold a12 at h
 split at h
 ·rename_i hg
  cases h
  simp [Region.wanted,hg]
 ·rename_i j wb hg;rw [n9] at h
  split at h
  ·rename_i oj hj;have hj:ops[j]?=some oj:=by simpa using hj
   split at h
   ·rename_i dj hdj
    split at h
    ·rename_i c hb
     cases h
     obtain ⟨u,hu,hat⟩:=ha.at_ dj _ hb;rw [VR.bool hu] at hat;have hy:yielded ops a.tmps j=some c:=by simp [yielded,hj,hdj,hat]
     simp only [Region.wanted,hg,hy]
     cases c <;> cases wb <;> rfl
    ·rename_i v hne hb
     cases h
     obtain ⟨u,hu,hat⟩:=ha.at_ dj _ hb;have hy:yielded ops a.tmps j=none:=by
      simp only [yielded,hj,hdj,hat,Option.bind_some]
      cases u with
      |bool c=>
       exfalso;unfold VR m8 at hu
       split at hu
       all_goals first
        |(cases hu;exact hne _ rfl)
        |(obtain ⟨_,_,hu⟩:=xk1.1 hu;cases hu;done)
        |(obtain ⟨_,_,hu⟩:=xi4.1 hu;obtain ⟨_,_,hu⟩:=xk1.1 hu;cases hu;done)
        |(cases hu;done)
      |_=>rfl
     simp only [Region.wanted,hg,hy];rfl
    ·cases h
   ·cases h
  ·cases h
def a3H (N:Nat) (o:Oper):Bool:=match o.dst with
 |some d=>Nat.blt d N
 |none=>true
theorem a1x {o:Oper} (h:a3H N o=true):∀ k,o.dst=some k->k < N:=fun k hk=>by
 unfold a3H at h;rw [hk] at h
 simpa [xb0] using h
theorem VR.undef:VR ρ Go.undef Go.undef:=VR.mkTup LR.nil
theorem a08 (hC:COk P C) (hc:v9 P call) {ops:Array Oper}:∀ {l:List Oper} {E:Fr} {H:SH} {n:Nat},l.all (a3H N)=true->a2W C call ops.toList l E H n=.ok (E',H',n')->n<=n'/\∀ {w0 w:World} {ρ:Ren} {ds:List Deferred} {a:Act} {hi:Nat},HasR ρ N ds a E->Inv P w0 ρ H w->Fsh ρ n hi->n'<=hi->(∀ a' w' σ,Stp ρ σ n n'->HasR σ N ds a' E'->Inv P w0 σ H' w'->Q .normal a' w')->wpList P ops Q l a w
 |[],E,H,n,_,h=>by
  cases h
  exact ⟨xc4 _,fun ha hI _ _ k=>k _ _ _ (Stp.refl _ _ _) ha hI⟩
 |o::r,E,H,n,hd,h=>by
  simp only [xg4,xb6] at hd;rw [show a2W C call ops.toList (o::r) E H n=(match a12 ops.toList E o with
   |some true=>match a2N C call o.op o.pos E H n with
    |.ok (v,H',n')=>a2W C call ops.toList r (z6 E o.dst v) H' n'
    |.no p=>.no p
   |some false=>a2W C call ops.toList r (z6 E o.dst (some undef)) H n
   | none => .no "guard") from rfl] at h
  split at h
  ·rename_i hw
   split at h
   ·rename_i v H1 n1 hr;obtain ⟨h1,h2⟩:=a2h hC hc hr;obtain ⟨h3,h4⟩:=a08 hC hc hd.2 h;refine ⟨xc5 h1 h3,fun {w0 w ρ ds a hi} ha hI hF hn k=>?_⟩;unfold wpList;rw [xd6 (x8 ha hw)];exact xc6 (a4h (h2 ha hI hF (xc5 h3 hn) _ _ _ _ _ _ fun u w1 σ hσ hu hI1=>h4 ((ha.mono hσ.le).putE o.dst (a1x hd.1) hu) hI1 (hF.step hσ h1) hn fun a' w' τ hτ ha' hI'=>k a' w' τ (hσ.trans hτ h1 h3) ha' hI'))
   ·cases h
  ·rename_i hw;obtain ⟨h3,h4⟩:=a08 hC hc hd.2 h;refine ⟨h3,fun {w0 w ρ ds a hi} ha hI hF hn k=>?_⟩;unfold wpList;rw [xd7 (by rw [x8 ha hw];simp)];exact h4 (ha.putE o.dst (a1x hd.1) VR.undef) hI hF hn k
  ·cases h
end
end Go.Proofs.YtejnpppejalhfadGreat
