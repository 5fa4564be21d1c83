/- Texts that the proof stands on, one behind the other: Cx2, Cx4, Cx5, Cx6, Cx7, Cx8, Cx9. -/
import Derived.Test.YtejnpppejalhfacGreatPKernelMaps13
set_option linter.unusedVariables false
set_option linter.unusedSimpArgs false
namespace Go.Proofs.YtejnpppejalhfacGreat
set_option maxRecDepth 100000
set_option maxHeartbeats 8000000
open Go.RowKit Go.Sort
inductive Pl where
 |nil
 |stop
 |take (i:Nat) (k:Pl)
 |one (i:Nat) (drop:List Nat) (k:Pl)
 |grp (w:Nat) (k:Pl)
 |alt (i:Nat) (drop:List Nat) (k more:Pl)
inductive SX where
 |normal
 |exit (i:Nat)
 |ret
structure Cx where
 T:TT
 q:EqT
 ez:List (Nat×Value)
 F:BT (Func×List (Nat×Pl))
 M:List (Nat×(List Value->Option Value))
abbrev a2T:=List (Nat×TypeId×Value×Value)
abbrev a5M:=Nat->List Value->SH->Nat->Rs (Value×SH×Nat)
abbrev a5Q:=Fr->SH->Nat->Rs (SX×Fr×SH×Nat)
noncomputable def a5F (ops:List Oper) (E:Fr) (o:Oper):Option Bool:=match o.guard with
 |none=>some true
 |some (j,b)=>match a3v ops j with
  |some oj=>match oj.dst with
   |some dj=>match o3 E dj with
    |some (.bool c)=>some (c == b)
    |some _=>some false
    |none=>none
   |none=>none
  |none=>none
noncomputable def a2s (E:Fr):Option Nat->Option Value->Fr
 |some d,some v=>(d,v)::E
 |some d,none=>a0R E d
 |none,_=>E
noncomputable def a6T (E:Fr):List Nat->Fr:=@List.rec (Nat×Value) (fun _=>List Nat->Fr) (fun _=>[]) (fun p _ ih s=>bif @List.rec Nat (fun _=>Bool) false (fun x _ h=>bif Nat.beq p.1 x then true else h) s then ih s else p::ih (p.1::s)) E
noncomputable def a5d (E:Fr):Fr:=bif Nat.blt 400 (@List.rec (Nat×Value) (fun _=>Nat) 0 (fun _ _ n=>n + 1) E) then a6T E [] else E
mutual
def vEq:Nat->Value->Value->Bool
 |0,_,_=>false
 |k + 1,a,b=>match a,b with
  |.bool a,.bool b=>a == b
  |.int j a,.int j' b=>kb j j' && decide (a=b)
  |.string ⟨⟨a⟩⟩,.string ⟨⟨b⟩⟩=>decide (a=b)
  |.pointer none,.pointer none=>true
  |.pointer (some ⟨i,o,none⟩),.pointer (some ⟨j,p,none⟩)=>Nat.beq i j && Nat.beq o p
  |.slice none m c,.slice none m' c'=>Nat.beq m m' && Nat.beq c c'
  |.slice (some ⟨i,o,none⟩) m c,.slice (some ⟨j,p,none⟩) m' c'=>Nat.beq i j && (Nat.beq o p && (Nat.beq m m' && Nat.beq c c'))
  |.map none,.map none=>true
  |.map (some i),.map (some j)=>Nat.beq i j
  |.nilFunc,.nilFunc=>true
  |.func (.func f) ⟨a⟩ ⟨b⟩,.func (.func g) ⟨c⟩ ⟨d⟩=>Nat.beq f g && (a7G k a c && a7G k b d)
  |.nilIface,.nilIface=>true
  |.agg ⟨a⟩,.agg ⟨b⟩=>a7G k a b
  |.tuple ⟨a⟩,.tuple ⟨b⟩=>a7G k a b
  |_,_=>false
def a7G:Nat->List Value->List Value->Bool
 |0,_,_=>false
 |_ + 1,[],[]=>true
 |k + 1,a::l,b::r=>vEq k a b && a7G k l r
 |_,_,_=>false
end
def b0y:List (List Value)->List (List Value)->Bool
 |[],[]=>true
 |a::l,b::r=>a7G 1000 a b && b0y l r
 |_,_=>false
def b41:List (Value×Value)->List (Value×Value)->Bool
 |[],[]=>true
 |(a,c)::l,(b,d)::r=>vEq 1000 a b && (vEq 1000 c d && b41 l r)
 |_,_=>false
def b5M:SA->SA->Bool
 |.blk a,.blk b=>a7G 1000 a b
 |.row e s r c u,.row e' s' r' c' u'=>Nat.beq e e' && (Nat.beq s s' && (Nat.beq c c' && ((u == u') && b0y r r')))
 |.smap t a,.smap t' b=>Nat.beq t t' && b41 a b
 |.siter a i,.siter b j=>Nat.beq i j && decide (a=b)
 |_,_=>false
def hEq:SH->SH->Bool
 |[],[]=>true
 |(i,a)::l,(j,b)::r=>Nat.beq i j && (b5M a b && hEq l r)
 |_,_=>false
noncomputable def a6E (E1 E2:Fr):Fr->Bool
 |[]=>true
 |(d,_)::r=>(match o3 E1 d,o3 E2 d with
  |some u,some v=>vEq 1000 u v
  |_,_=>false) && a6E E1 E2 r
noncomputable def a3c (T:TT) (H:SH):a2T->Bool
 |[]=>true
 |(_,t,p,v)::r=>(match a6d T H t p with
  |some u=>vEq 1000 u v
  |none=>false) && a3c T H r
def a2v (dr:List Nat) (L:a2T):a2T:=L.filter fun e=>!dr.any (Nat.beq e.1)
noncomputable def b0H (T:TT) (E:Fr) (H:SH):List ResultVar->Option (List Value)
 |[]=>some []
 |.tmp t::r=>match o3 E t,b0H T E H r with
  |some v,some vs=>some (v::vs)
  |_,_=>none
 |.cell p t::r=>match o3 E p with
  |some a=>match a6d T H t a,b0H T E H r with
   |some v,some vs=>some (v::vs)
   |_,_=>none
  |none=>none
mutual
def b3h:Nat->Nat->Value->Bool
 |0,_,_=>false
 |k + 1,m,v=>match v with
  |.pointer (some a)|.slice (some a) _ _=>Nat.blt a.block m
  |.map (some i)=>Nat.blt i m
  |.func _ ⟨a⟩ ⟨b⟩=>a6F k m a && a6F k m b
  |.agg ⟨a⟩|.tuple ⟨a⟩=>a6F k m a
  |_=>true
def a6F:Nat->Nat->List Value->Bool
 |0,_,_=>false
 |_ + 1,_,[]=>true
 |k + 1,m,a::l=>b3h k m a && a6F k m l
end
def b5A (m:Nat):SA->Bool
 |.blk L=>a6F 1000 m L
 |.row _ _ rows _ _=>rows.all (a6F 1000 m)
 |.smap _ es=>es.all fun p=>b3h 1000 m p.1 && b3h 1000 m p.2
 |.siter _ _=>true
noncomputable def b5H (m:Nat) (H:SH):Nat:=@List.rec (Nat×SA) (fun _=>Nat) 0 (fun p _ ih=>bif Nat.blt p.1 m then 0 else ih + 1) H
noncomputable def b1s (m:Nat) (H:SH):SH:=@List.rec (Nat×SA) (fun _=>SH) [] (fun p _ ih=>@Bool.rec (fun _=>SH) ih (p::ih) (Nat.blt p.1 m)) H
noncomputable def gc (m:Nat) (v:Value) (H:SH):SH:=bif Nat.blt 20 (b5H m H) && (b3h 1000 m v && (b1s m H).all fun p=>b5A m p.2) then b1s m H else H
section
variable (C:Cx) (call:a5M)
noncomputable def b58 (pos:String) (E:Fr) (H:SH) (n:Nat) (f:Operand) (args:List Operand):Rs (Option Value×SH×Nat):=match sEv E f,b1b E args with
 |some (.func (.func g) first caps),some vs=>match call g (first.toList++vs++caps.toList) H n with
  |.ok (v,r)=>.ok (some v,r)
  |.no p=>.no p
 |_,_=>.no pos
noncomputable def b4K (op:Op) (pos:String) (E:Fr) (H:SH) (n:Nat):Rs (Option Value×SH×Nat):=match a96 C.T C.q E op with
 |some v=>.ok (some v,H,n)
 |none=>match sOp C.T C.ez E H n op with
  |some r=>.ok r
  |none=>.no pos
noncomputable def a6B (op:Op) (pos:String) (E:Fr) (H:SH) (n:Nat):Rs (Option Value×SH×Nat):=match op with
 |.call c=>match c.callee with
  |.value f=>b58 call pos E H n f c.args.toList
  |_=>b4K C (.call c) pos E H n
 |op=>b4K C op pos E H n
noncomputable def a6O (ops l:List Oper):Fr->SH->Nat->Rs (Fr×SH×Nat):=@List.rec Oper (fun _=>Fr->SH->Nat->Rs (Fr×SH×Nat)) (fun E H n=>.ok (E,H,n)) (fun o _ ih E H n=>match a5F ops E o with
  |some true=>match a6B C call o.op o.pos E H n with
   |.ok (v,H',n')=>ih (a2s E o.dst v) H' n'
   |.no p=>.no p
  |some false=>ih (a2s E o.dst (some undef)) H n
  | none => .no "guard") l
abbrev XPl:=Nat->Nat->a2T->Fr->SH->Nat->Rs (Fr×SH×Nat)
noncomputable def b3F (ops:List Oper) (i:Nat) (ih:XPl):XPl:=fun b z L E H n=>match a3v ops i with
 |some o=>match a5F ops E o with
  |some false=>ih b z L (a2s E o.dst (some undef)) H n
  |some true=>match o.op with
   |.load t x=>match sEv E x with
    |some a=>match a6d C.T H t a with
     |some v=>ih b z ((i,t,a,v)::L) (a2s E o.dst (some v)) H n
     |none=>.no o.pos
    |none=>.no o.pos
   |op=>match a96 C.T C.q E op with
    |some v=>ih b z L (a2s E o.dst (some v)) H n
    |none=>.no o.pos
  | none => .no "guard"
 | none => .no "take"
noncomputable def b56 (ops:List Oper) (i:Nat) (dr:List Nat) (ih:XPl):XPl:=fun b z L E H n=>match a3v ops i with
 |some o=>match a5F ops E o with
  |some w=>match (bif w then a6B C call o.op o.pos E H n else .ok (some undef,H,n)) with
   | .ok (v, H', n') => bif a3c C.T H' (a2v dr L) then ih b z (a2v dr L) (a2s E o.dst v) H' n' else .no "early"
   |.no p=>.no p
  | none => .no "guard"
 | none => .no "one"
noncomputable def b6g (ops:List Oper) (i:Nat) (dr:List Nat) (ih:XPl) (last:Bool) (more:XPl):XPl:=fun b z L E H n=>match a3v ops i with
 |some o=>match a5F ops E o with
  |some w=>match (bif w then a6B C call o.op o.pos E H (b + z * i) else .ok (some undef,H,b + z * i)) with
   |.ok (v,H',n')=>bif Nat.ble n' (b + z * (i + 1)) && a3c C.T H' (a2v dr L) then
     (bif last then ih b z (a2v dr L) (a2s E o.dst v) H' n
      else match ih b z (a2v dr L) (a2s E o.dst v) H' n,more b z L E H n with
       | .ok (E1, H1, n1), .ok (E2, H2, n2) => bif a6E E1 E2 E1 && (hEq H1 H2 && Nat.beq n1 n2) then .ok (E1, H1, n1) else .no "ways"
       |.no p,_=>.no p
       |_,.no p=>.no p)
    else .no "early"
   |.no p=>.no p
  | none => .no "guard"
 | none => .no "alt"
def Pl.isStop:Pl->Bool
 |.stop=>true
 |_=>false
noncomputable def xPl (ops : List Oper) (p : Pl) : XPl := @Pl.rec (fun _ => XPl) (fun _ _ _ E H n => .ok (E, H, n)) (fun _ _ _ _ _ _ => .no "stop") (fun i _ ih => b3F C ops i ih) (fun i dr _ ih => b56 C call ops i dr ih) (fun w _ ih _ _ L E H n => ih n w L E H (n + w * ops.length)) (fun i dr _ more ih im => b6g C call ops i dr ih more.isStop im) p
noncomputable def b0i (f : a5Q) (k : Nat) : a5Q := @Nat.rec (fun _ => a5Q) (fun _ _ _ => .no "loop") (fun _ ih E H n => match f E H n with
 |.ok (.normal,E',H',n')=>ih (a5d E') H' n'
 |r=>r) k
def b2C:Nat:=100000
noncomputable def a4Z (pl:List (Nat×Pl)) (c:Code):a5Q:=@Code.rec (fun _=>a5Q)
 (fun E H n=>.ok (.normal,E,H,n))
 (fun id ops draw E H n=>bif draw then (match o3 pl id with
   |some p=>match xPl C call ops.toList p n 0 [] E H n with
    |.ok (E',H',n')=>.ok (.normal,E',H',n')
    |.no p=>.no p
   | none => .no "plan") else (match a6O C call ops.toList ops.toList E H n with
   |.ok (E',H',n')=>.ok (.normal,E',H',n')
   |.no p=>.no p))
 (fun _ _ x y E H n=>match x E H n with
   |.ok (.normal,E',H',n')=>y E' H' n'
   |r=>r)
 (fun o _ _ x y E H n=>match sEv E o with
   |some (.bool true)=>x E H n
   |some (.bool false)=>y E H n
   | _ => .no "cond")
 (fun i _ x E H n=>match x E H n with
   |.ok (.exit j,E',H',n')=>bif Nat.beq j i then .ok (.normal,E',H',n') else .ok (.exit j,E',H',n')
   |r=>r)
 (fun _ x=>b0i x b2C)
 (fun _ _ _ _ _ _ _ _ _ => .no "range")
 (fun i E H n=>.ok (.exit i,E,H,n))
 (fun _ _ _ _ _ => .no "scope")
 (fun _ _ _ _ => .no "label")
 (fun _ _ _ _ => .no "goto")
 (fun E H n=>.ok (.ret,E,H,n))
 (fun _ _ _ _ => .no "refuse") c
noncomputable def b28 (g:Nat) (vs:List Value) (H:SH) (n:Nat):Rs (Value×SH×Nat):=match o3 C.M g with
 |some f=>match f vs with
  |some v=>.ok (v,H,n)
  | none => .no "summary"
 |none=>match C.F.get g with
  |some (fn,pl)=>match fn.body with
   |some c=>bif Nat.ble vs.length fn.ntmps then (match a4Z C call pl c (a40 0 vs) H n with
     | .ok (.exit _, _) => .no "exit"
     |.ok (_,E',H',n')=>match b0H C.T E' H' fn.results.toList with
      |some rs=>.ok (a3B rs,gc n (a3B rs) H',n')
      |none=>.no fn.name
     | .no p => .no p) else .no "args"
   | none => .no "body"
  | none => .no "function"
end
noncomputable def b5z (C : Cx) (k : Nat) : a5M := @Nat.rec (fun _ => a5M) (fun _ _ _ _ => .no "depth") (fun _ ih => b28 C ih) k
abbrev Ren:=Nat->Option (Nat×Nat)
mutual
def a0z (ρ:Ren):Value->Option Value
 |.bool b=>some (.bool b)
 |.int k n=>some (.int k n)
 |.string s=>some (.string s)
 |.nilFunc=>some .nilFunc
 |.nilIface=>some .nilIface
 |.pointer none=>some (.pointer none)
 |.pointer (some ⟨i,o,none⟩)=>(ρ i).map fun x=>.pointer (some ⟨x.1,o,none⟩)
 |.slice none n c=>some (.slice none n c)
 |.slice (some ⟨i,o,none⟩) n c=>(ρ i).map fun x=>.slice (some ⟨x.1,o,none⟩) n (c + x.2)
 |.map none=>some (.map none)
 |.map (some i)=>(ρ i).map fun x=>.map (some x.1)
 |.func f ⟨a⟩ ⟨b⟩=>(a2U ρ a).bind fun a'=>(a2U ρ b).map fun b'=>.func f ⟨a'⟩ ⟨b'⟩
 |.agg ⟨l⟩=>(a2U ρ l).map fun l'=>.agg ⟨l'⟩
 |.tuple ⟨l⟩=>(a2U ρ l).map fun l'=>.tuple ⟨l'⟩
 |_=>none
def a2U (ρ:Ren):List Value->Option (List Value)
 |[]=>some []
 |v::l=>(a0z ρ v).bind fun u=>(a2U ρ l).map fun m=>u::m
end
def VR (ρ:Ren) (v u:Value):Prop:=a0z ρ v=some u
def LR (ρ:Ren) (l m:List Value):Prop:=a2U ρ l=some m
def Rle (ρ σ:Ren):Prop:=∀ i x,ρ i=some x->σ i=some x
section
variable {ρ σ:Ren} {v u:Value} {l m:List Value}
theorem LR.nil:LR ρ [] []:=by unfold LR a2U;rfl
theorem LR.cons (h:VR ρ v u) (h2:LR ρ l m):LR ρ (v::l) (u::m):=by
 unfold LR VR at *;unfold a2U;rw [h,h2];rfl
theorem LR.inv (h:LR ρ (v::l) m):∃ u r,m=u::r/\VR ρ v u/\LR ρ l r:=by
 unfold LR a2U at h;obtain ⟨u,hu,h⟩:=xn1.1 h;obtain ⟨r,hr,h⟩:=xn2.1 h;exact ⟨u,r,h.symm,hu,hr⟩
theorem LR.nil_inv (h:LR ρ [] m):m=[]:=by
 unfold LR a2U at h
 cases h
 rfl
mutual
theorem VR.mono (hl:Rle ρ σ):∀ {v u:Value},VR ρ v u->VR σ v u
 |.bool _,_,h|.int _ _,_,h|.string _,_,h|.nilFunc,_,h|.nilIface,_,h|.pointer none,_,h|.slice none _ _,_,h|.map none,_,h=>by
  unfold VR a0z at *;exact h
 |.pointer (some ⟨i,o,none⟩),u,h=>by
  unfold VR a0z at *;obtain ⟨x,hx,hu⟩:=xn2.1 h;rw [hl i x hx,<- hu];rfl
 |.slice (some ⟨i,o,none⟩) n c,u,h=>by
  unfold VR a0z at *;obtain ⟨x,hx,hu⟩:=xn2.1 h;rw [hl i x hx,<- hu];rfl
 |.map (some i),u,h=>by
  unfold VR a0z at *;obtain ⟨x,hx,hu⟩:=xn2.1 h;rw [hl i x hx,<- hu];rfl
 |.func f ⟨a⟩ ⟨b⟩,u,h=>by
  unfold VR a0z at *;obtain ⟨a',ha,h⟩:=xn1.1 h;obtain ⟨b',hb,h⟩:=xn2.1 h;rw [show a2U σ a=some a' from LR.mono hl ha,show a2U σ b=some b' from LR.mono hl hb,<- h];rfl
 |.agg ⟨l⟩,u,h=>by
  unfold VR a0z at *;obtain ⟨a',ha,h⟩:=xn2.1 h;rw [show a2U σ l=some a' from LR.mono hl ha,<- h];rfl
 |.tuple ⟨l⟩,u,h=>by
  unfold VR a0z at *;obtain ⟨a',ha,h⟩:=xn2.1 h;rw [show a2U σ l=some a' from LR.mono hl ha,<- h];rfl
 |.pointer (some ⟨_,_,some _⟩),_,h|.slice (some ⟨_,_,some _⟩) _ _,_,h|.float _ _,_,h|.complex _ _ _,_,h|.chan _,_,h|.iface _ _,_,h=>by
  unfold VR a0z at h;cases h
theorem LR.mono (hl:Rle ρ σ):∀ {l m:List Value},LR ρ l m->LR σ l m
 |[],_,h=>by rw [LR.nil_inv h];exact LR.nil
 |v::l,m,h=>by
  obtain ⟨u,r,rfl,h1,h2⟩:=LR.inv h;exact LR.cons (VR.mono hl h1) (LR.mono hl h2)
end
theorem LR.len:∀ {l m:List Value},LR ρ l m->m.length=l.length
 |[],_,h=>by rw [LR.nil_inv h]
 |v::l,m,h=>by
  obtain ⟨u,r,rfl,h1,h2⟩:=LR.inv h;simp [LR.len h2]
theorem LR.get:∀ {l m:List Value} {i:Nat} {v:Value},LR ρ l m->l[i]?=some v->∃ u,m[i]?=some u/\VR ρ v u
 |[],_,_,_,_,h=>by simp at h
 |x::l,m,i,v,hr,h=>by
  obtain ⟨u,r,rfl,h1,h2⟩:=LR.inv hr
  cases i with
  |zero=>simp at h;subst h;exact ⟨u,rfl,h1⟩
  |succ i=>simpa using LR.get h2 (by simpa using h)
theorem LR.app {l' m':List Value}:∀ {l m:List Value},LR ρ l m->LR ρ l' m'->LR ρ (l++l') (m++m')
 |[],_,h,h2=>by rw [LR.nil_inv h];exact h2
 |v::l,m,h,h2=>by
  obtain ⟨u,r,rfl,h1,h3⟩:=LR.inv h;exact LR.cons h1 (LR.app h3 h2)
theorem LR.drop:∀ {l m:List Value} (k:Nat),LR ρ l m->LR ρ (l.drop k) (m.drop k)
 |l,m,0,h=>by simpa using h
 |[],_,k + 1,h=>by rw [LR.nil_inv h];exact LR.nil
 |v::l,m,k + 1,h=>by
  obtain ⟨u,r,rfl,h1,h2⟩:=LR.inv h
  simpa using LR.drop k h2
theorem LR.take:∀ {l m:List Value} (k:Nat),LR ρ l m->LR ρ (l.take k) (m.take k)
 |l,m,0,h=>by simpa using LR.nil
 |[],_,k + 1,h=>by rw [LR.nil_inv h];exact LR.nil
 |v::l,m,k + 1,h=>by
  obtain ⟨u,r,rfl,h1,h2⟩:=LR.inv h
  simpa using LR.cons h1 (LR.take k h2)
theorem LR.set:∀ {l m:List Value} (k:Nat) {v u:Value},LR ρ l m->VR ρ v u->LR ρ (l.set k v) (m.set k u)
 |[],_,k,_,_,h,_=>by rw [LR.nil_inv h];exact LR.nil
 |x::l,m,0,_,_,h,hv=>by
  obtain ⟨u,r,rfl,h1,h2⟩:=LR.inv h;exact LR.cons hv h2
 |x::l,m,k + 1,_,_,h,hv=>by
  obtain ⟨u,r,rfl,h1,h2⟩:=LR.inv h;exact LR.cons h1 (LR.set k h2 hv)
theorem LR.setLs:∀ {c d l m:List Value} {k:Nat},LR ρ l m->LR ρ c d->LR ρ (p9 l k c) (p9 m k d)
 |[],_,l,m,k,h,h2=>by rw [LR.nil_inv h2];exact h
 |x::c,d,l,m,k,h,h2=>by
  obtain ⟨u,r,rfl,h3,h4⟩:=LR.inv h2;exact (LR.setLs (k:=k + 1) (LR.set k h h3) h4:LR ρ (p9 (l.set k x) (k + 1) c) (p9 (m.set k u) (k + 1) r))
theorem VR.one (h:VR ρ v u):u.oneCell'=v.oneCell':=by
 unfold VR at h;unfold a0z at h
 split at h
 all_goals first
  |(cases h;rfl;done)
  |(obtain ⟨_,_,rfl⟩:=xn2.1 h;rfl;done)
  |(obtain ⟨_,_,h⟩:=xn1.1 h;obtain ⟨_,_,rfl⟩:=xn2.1 h;rfl;done)
  |cases h
theorem LR.one:∀ {l m:List Value},LR ρ l m->m.all (·.oneCell')=l.all (·.oneCell')
 |[],_,h=>by rw [LR.nil_inv h]
 |v::l,m,h=>by
  obtain ⟨u,r,rfl,h1,h2⟩:=LR.inv h;simp [VR.one h1,LR.one h2]
theorem VR.celL {L:List Value} (h:VR ρ v u) (hc:celL v=some L):∃ M,Go.Proofs.YtejnpppejalhfacGreat.celL u=some M/\LR ρ L M:=by
 have h0:=h;unfold VR a0z at h
 split at h
 all_goals first
  |(cases h;cases hc;exact ⟨_,rfl,LR.cons h0 LR.nil⟩;done)
  |(obtain ⟨x,hx,rfl⟩:=xn2.1 h;cases hc;exact ⟨_,rfl,LR.cons h0 LR.nil⟩;done)
  |(obtain ⟨x,hx,rfl⟩:=xn2.1 h;cases hc;exact ⟨_,rfl,hx⟩;done)
  |(obtain ⟨_,_,h⟩:=xn1.1 h;obtain ⟨_,_,rfl⟩:=xn2.1 h;cases hc;exact ⟨_,rfl,LR.cons h0 LR.nil⟩;done)
  |(obtain ⟨x,hx,rfl⟩:=xn2.1 h;cases hc;done)
  |(cases h;done)
theorem VR.int {k:IntKind} {n:Int} (h:VR ρ (.int k n) u):u=.int k n:=by unfold VR a0z at h;cases h;rfl
theorem VR.bool {b:Bool} (h:VR ρ (.bool b) u):u=.bool b:=by unfold VR a0z at h;cases h;rfl
theorem VR.str {s:ByteArray} (h:VR ρ (.string s) u):u=.string s:=by unfold VR a0z at h;cases h;rfl
theorem VR.ptr {i o:Nat} (h:VR ρ (.pointer (some ⟨i,o,none⟩)) u):∃ x,ρ i=some x/\u=.pointer (some ⟨x.1,o,none⟩):=by
 unfold VR a0z at h;obtain ⟨x,hx,hu⟩:=xn2.1 h;exact ⟨x,hx,hu.symm⟩
theorem VR.ptr0 (h:VR ρ (.pointer none) u):u=.pointer none:=by unfold VR a0z at h;cases h;rfl
theorem VR.sl {i o n c:Nat} (h:VR ρ (.slice (some ⟨i,o,none⟩) n c) u):∃ x,ρ i=some x/\u=.slice (some ⟨x.1,o,none⟩) n (c + x.2):=by
 unfold VR a0z at h;obtain ⟨x,hx,hu⟩:=xn2.1 h;exact ⟨x,hx,hu.symm⟩
theorem VR.sl0 {n c:Nat} (h:VR ρ (.slice none n c) u):u=.slice none n c:=by unfold VR a0z at h;cases h;rfl
theorem VR.slAny {p:Option Addr} {n c:Nat} (h:VR ρ (.slice p n c) u):∃ p' c',u=.slice p' n c'/\p'.isNone=p.isNone:=by
 match p with
 |none=>exact ⟨_,_,VR.sl0 h,rfl⟩
 |some ⟨i,o,none⟩=>obtain ⟨x,_,hu⟩:=VR.sl h;exact ⟨_,_,hu,rfl⟩
 |some ⟨i,o,some s⟩=>unfold VR a0z at h;cases h
theorem VR.ptrAny {p:Option Addr} (h:VR ρ (.pointer p) u):∃ p',u=.pointer p'/\p'.isNone=p.isNone:=by
 match p with
 |none=>exact ⟨_,VR.ptr0 h,rfl⟩
 |some ⟨i,o,none⟩=>obtain ⟨x,_,hu⟩:=VR.ptr h;exact ⟨_,hu,rfl⟩
 |some ⟨i,o,some s⟩=>unfold VR a0z at h;cases h
theorem VR.mp {i:Nat} (h:VR ρ (.map (some i)) u):∃ x,ρ i=some x/\u=.map (some x.1):=by
 unfold VR a0z at h;obtain ⟨x,hx,hu⟩:=xn2.1 h;exact ⟨x,hx,hu.symm⟩
theorem VR.agg (h:VR ρ (.agg ⟨l⟩) u):∃ m,u=.agg ⟨m⟩/\LR ρ l m:=by
 unfold VR a0z at h;obtain ⟨x,hx,hu⟩:=xn2.1 h;exact ⟨x,hu.symm,hx⟩
theorem VR.tup (h:VR ρ (.tuple ⟨l⟩) u):∃ m,u=.tuple ⟨m⟩/\LR ρ l m:=by
 unfold VR a0z at h;obtain ⟨x,hx,hu⟩:=xn2.1 h;exact ⟨x,hu.symm,hx⟩
theorem VR.fun_ {f:Go.Fn} {a b:List Value} (h:VR ρ (.func f ⟨a⟩ ⟨b⟩) u):∃ a' b',u=.func f ⟨a'⟩ ⟨b'⟩/\LR ρ a a'/\LR ρ b b':=by
 unfold VR a0z at h;obtain ⟨a',ha,h⟩:=xn1.1 h;obtain ⟨b',hb,h⟩:=xn2.1 h;exact ⟨a',b',h.symm,ha,hb⟩
theorem VR.mkAgg (h:LR ρ l m):VR ρ (.agg ⟨l⟩) (.agg ⟨m⟩):=by unfold VR a0z;rw [show a2U ρ l=some m from h];rfl
theorem VR.mkTup (h:LR ρ l m):VR ρ (.tuple ⟨l⟩) (.tuple ⟨m⟩):=by unfold VR a0z;rw [show a2U ρ l=some m from h];rfl
theorem VR.mkPtr {i o:Nat} {x:Nat×Nat} (h:ρ i=some x):VR ρ (.pointer (some ⟨i,o,none⟩)) (.pointer (some ⟨x.1,o,none⟩)):=by unfold VR a0z;rw [h];rfl
theorem VR.mkSl {i o n c:Nat} {x:Nat×Nat} (h:ρ i=some x):VR ρ (.slice (some ⟨i,o,none⟩) n c) (.slice (some ⟨x.1,o,none⟩) n (c + x.2)):=by unfold VR a0z;rw [h];rfl
theorem VR.mkMap {i:Nat} {x:Nat×Nat} (h:ρ i=some x):VR ρ (.map (some i)) (.map (some x.1)):=by unfold VR a0z;rw [h];rfl
theorem VR.mkFun {f:Go.Fn} {a b a' b':List Value} (h1:LR ρ a a') (h2:LR ρ b b'):VR ρ (.func f ⟨a⟩ ⟨b⟩) (.func f ⟨a'⟩ ⟨b'⟩):=by unfold VR a0z;rw [show a2U ρ a=some a' from h1,show a2U ρ b=some b' from h2];rfl
theorem VR.cOk (h:cOk v=true):VR ρ v v:=by
 unfold Go.Proofs.YtejnpppejalhfacGreat.cOk at h
 split at h
 all_goals first
  |(unfold VR a0z;rfl)
  |cases h
theorem VR.fn {u':Value} (h:VR ρ v u) (h2:VR ρ v u'):u'=u:=by unfold VR at *;rw [h] at h2;cases h2;rfl
end
structure HasR (ρ:Ren) (N:Nat) (ds:List Deferred) (a:Act) (E:Fr):Prop where
 size:a.tmps.size=N
 defers:a.defers=ds
 at_:∀ t v,o3 E t=some v->∃ u,VR ρ v u/\a.tmps[t]?=some u
theorem p8 {α:Type} (k:Nat) (v:α) (r:List (Nat×α)) (i:Nat):o3 ((k,v)::r) i=if k=i then some v else o3 r i:=by
 show @Bool.rec (fun _=>Option α) (o3 r i) (some v) (Nat.beq k i)=_;by_cases h:k=i
 ·subst h;rw [xn3,xe6 rfl]
 ·rw [a6r h,xe7 h]
theorem a8E {α:Type} (i:Nat):o3 ([]:List (Nat×α)) i=none:=rfl
theorem a4f {α:Type} {l:List (Nat×α)} {i:Nat} {v:α} (h:o3 l i=some v):(i,v) ∈ l:=by
 induction l with
 |nil=>cases h
 |cons p r ih=>
  obtain ⟨k,u⟩:=p;rw [p8] at h;by_cases e:k=i
  ·rw [xe6 e] at h;cases h;subst e;exact xc4
  ·rw [xe7 e] at h;exact xc5 _ (ih h)
theorem a0v {α:Type}:∀ (l:List α) (i:Nat),a3v l i=l[i]?
 |[],i=>rfl
 |p::r,0=>rfl
 |p::r,i + 1=>by
  show a3v r i=_;rw [a0v r i];rfl
theorem b6f {α:Type} (b:Bool) (x y:α):ifB b x y=if b=true then x else y:=by cases b <;> rfl
theorem a4p {α:Type} {b:Bool} {x y:Option α} {z:α} (h:ifB b x y=some z):(b=true/\x=some z)\/(b=false/\y=some z):=by
 cases b
 ·exact xd1 ⟨rfl,h⟩
 ·exact xd4 ⟨rfl,h⟩
theorem l5 {α:Type} {b:Bool} {x:Option α} {z:α} (h:ifB b x none=some z):b=true/\x=some z:=by
 rcases a4p h with h|⟨_,h⟩
 ·exact h
 ·cases h
theorem a1U {α:Type} {b:Bool} {x:Option α} {z:α} (h:ifB b none x=some z):b=false/\x=some z:=by
 rcases a4p h with ⟨_,h⟩|h
 ·cases h
 ·exact h
section
variable {ρ σ:Ren} {N:Nat} {ds:List Deferred} {a:Act} {E:Fr}
def a1P (a:Act):Fr:=(List.range a.tmps.size).map fun t=>(t,a.tmps.getD t undef)
theorem a4F {t:Nat} {u:Value} (h:a.tmps[t]?=some u):Fr.get (a1P a) t=some u:=by
 have key:∀ (l:List Nat),t ∈ l->Fr.get (l.map fun t=>(t,a.tmps.getD t undef)) t=some (a.tmps.getD t undef):=by
  intro l
  induction l with
  |nil=>intro h;cases h
  |cons x r ih=>
   intro hm;rw [xb9];simp only [Fr.get];by_cases e:x=t
   ·subst e;rw [xn3];rfl
   ·rw [a6r e];rcases xc3.1 hm with h|h
    ·exact (e h.symm).elim
    ·exact ih h
 have hlt:t < a.tmps.size:=(xb7.1 h).1;unfold a1P;rw [key _ (xi1.2 hlt)];rw [xc1,h];rfl
theorem b3k {t:Nat} {u:Value} (h:Fr.get (a1P a) t=some u):a.tmps.getD t undef=u:=by
 have hm:=Fr.get_mem h;unfold a1P at hm;obtain ⟨k,_,e⟩:=xh6.1 hm
 cases e
 rfl
theorem HasR.full (h:HasR ρ N ds a E):Has N ds a (a1P a):=⟨h.size,h.defers,fun _ _=>b3k⟩
theorem HasR.mono (h:HasR ρ N ds a E) (hl:Rle ρ σ):HasR σ N ds a E:=⟨h.size,h.defers,fun t v ht=>by
 obtain ⟨u,h1,h2⟩:=h.at_ t v ht;exact ⟨u,h1.mono hl,h2⟩⟩
theorem HasR.ev (h:HasR ρ N ds a E) {x:Operand} {v:Value} (hx:sEv E x=some v):∃ u,VR ρ v u/\Fr.ev (a1P a) x=some u:=by
 cases x with
 |tmp t=>obtain ⟨u,h1,h2⟩:=h.at_ t v hx;exact ⟨u,h1,a4F h2⟩
 |const c=>
  obtain ⟨h1,h2⟩:=l5 (show ifB (cOk c) (some c) none=some v from hx)
  cases h2
  exact ⟨_,VR.cOk h1,rfl⟩
 |global g=>cases hx
 |func f=>cases hx;exact ⟨_,VR.mkFun LR.nil LR.nil,rfl⟩
theorem b0W (x:Operand) (r:List Operand):b1b E (x::r)=(match sEv E x,b1b E r with|some v,some vs=>some (v::vs)|_,_=>none):=rfl
theorem HasR.evs (h:HasR ρ N ds a E):∀ {xs:List Operand} {vs:List Value},b1b E xs=some vs->∃ us,LR ρ vs us/\Fr.evs (a1P a) xs=some us
 |[],vs,hx=>by cases hx;exact ⟨_,LR.nil,rfl⟩
 |x::r,vs,hx=>by
  rw [b0W] at hx
  split at hx
  ·rename_i v ws h1 h2
   cases hx
   obtain ⟨u,h3,h4⟩:=h.ev h1;obtain ⟨us,h5,h6⟩:=HasR.evs h h2;refine ⟨u::us,LR.cons h3 h5,?_⟩;simp only [Fr.evs,h4,h6]
  ·cases hx
def PR (ρ:Ren) (l m:List (Nat×Value)):Prop:=m.map (·.1)=l.map (·.1)/\LR ρ (l.map (·.2)) (m.map (·.2))
theorem HasR.evP (h:HasR ρ N ds a E):∀ {xs:List (Nat×Operand)} {vs:List (Nat×Value)},b3Z E xs=some vs->∃ us,PR ρ vs us/\Go.Proofs.YtejnpppejalhfacGreat.evP (a1P a) xs=some us
 |[],vs,hx=>by cases hx;exact ⟨[],⟨rfl,LR.nil⟩,rfl⟩
 |(i,x)::r,vs,hx=>by
  rw [show b3Z E ((i,x)::r)=(match sEv E x,b3Z E r with|some v,some vs=>some ((i,v)::vs)|_,_=>none) from rfl] at hx
  split at hx
  ·rename_i v ws h1 h2
   cases hx
   obtain ⟨u,h3,h4⟩:=h.ev h1;obtain ⟨us,⟨h5,h6⟩,h7⟩:=HasR.evP h h2;refine ⟨(i,u)::us,⟨by simp [h5],LR.cons h3 h6⟩,?_⟩;simp only [Go.Proofs.YtejnpppejalhfacGreat.evP,h4,h7]
  ·cases hx
theorem HasR.put (h:HasR ρ N ds a E) (d:Nat) {v u:Value} (hd:d < N) (hv:VR ρ v u):HasR ρ N ds (a.put (some d) u) ((d,v)::E):=by
 refine ⟨by simpa [Act.put] using h.size,by simpa [Act.put] using h.defers,fun t w ht=>?_⟩;rw [p8] at ht;have hs:=h.size;by_cases e:d=t
 ·subst e;rw [xe6 rfl] at ht
  cases ht
  exact ⟨u,hv,by simp [Act.put,hs,hd]⟩
 ·rw [xe7 e] at ht;obtain ⟨x,h1,h2⟩:=h.at_ t w ht;exact ⟨x,h1,by simp only [Act.put];rw [xc2 e];exact h2⟩
theorem a2D {α:Type} (E:List (Nat×α)) (d:Nat) (t:Nat):o3 (a0R E d) t=if d=t then none else o3 E t:=by
 induction E with
 |nil=>simp [a8E,show a0R ([]:List (Nat×α)) d=[] from rfl]
 |cons p r ih=>
  obtain ⟨k,v⟩:=p;have e:a0R ((k,v)::r) d=if k=d then a0R r d else (k,v)::a0R r d:=by
   show @Bool.rec (fun _=>List (Nat×α)) ((k,v)::a0R r d) (a0R r d) (Nat.beq k d)=_;by_cases h:k=d
   ·subst h;rw [xn3,xe6 rfl]
   ·rw [a6r h,xe7 h]
  rw [e,p8];by_cases h:k=d
  ·subst h;rw [xe6 rfl,ih];by_cases h2:k=t
   ·simp [h2]
   ·simp [h2]
  ·rw [xe7 h,p8,ih];by_cases h2:k=t
   ·subst h2;rw [xe6 rfl,xe6 rfl,xe7 (fun e=>h e.symm)]
   ·simp [h2]
theorem HasR.erase (h:HasR ρ N ds a E) (d:Nat) (u:Value):HasR ρ N ds (a.put (some d) u) (a0R E d):=by
 refine ⟨by simpa [Act.put] using h.size,by simpa [Act.put] using h.defers,fun t w ht=>?_⟩;rw [a2D] at ht;by_cases e:d=t
 ·rw [xe6 e] at ht;cases ht
 ·rw [xe7 e] at ht;obtain ⟨x,h1,h2⟩:=h.at_ t w ht;exact ⟨x,h1,by simp only [Act.put];rw [xc2 e];exact h2⟩
def OR (ρ:Ren):Option Value->Value->Prop
 |some v,u=>VR ρ v u
 |none,_=>True
theorem HasR.putE (h:HasR ρ N ds a E) (d:Option Nat) {v:Option Value} {u:Value} (hd:∀ k,d=some k->k < N) (hv:OR ρ v u):HasR ρ N ds (a.put d u) (a2s E d v):=by
 cases d with
 |none=>cases v <;> exact h
 |some k=>
  cases v with
  |none=>exact h.erase k u
  |some v=>exact h.put k (hd k rfl) hv
end
def TOk (P:Program) (T:TT):Prop:=∀ t ti,T.get t=some ti->a7m P t=some ti/\ti.okB=true
def QOk (P:Program) (q:EqT):Prop:=∀ t s,o3 q t=some s->∀ l l' b,sEqS s l l'=some b->a6l P t l l' b
section
variable {P:Program} {T:TT} {q:EqT} {ρ:Ren} {N:Nat} {ds:List Deferred} {a:Act} {E:Fr} {ty:TypeId} {pos:String} {after:Array Edge} {dst:Option Nat}
theorem TOk.tabs (hT:TOk P T):∀ (ts:List Nat),∃ Tb:Tab,TabOk P Tb/\∀ t ti,t ∈ ts->T.get t=some ti->Tb.get t=some ti
 |[]=>⟨[],TabOk.nil P,fun _ _ h=>by cases h⟩
 |t::r=>by
  obtain ⟨Tb,h1,h2⟩:=TOk.tabs hT r
  cases e:T.get t with
  |none=>
   refine ⟨Tb,h1,fun t' ti hm ht=>?_⟩;rcases xc3.1 hm with rfl|hm
   ·rw [e] at ht;cases ht
   ·exact h2 t' ti hm ht
  |some ti=>
   refine ⟨(t,ti)::Tb,TabOk.cons (hT t ti e).1 (hT t ti e).2 h1,fun t' ti' hm ht=>?_⟩;simp only [Tab.get];by_cases h:t=t'
   ·subst h;rw [e] at ht
    cases ht
    rw [xn3];rfl
   ·rw [a6r h];rcases xc3.1 hm with rfl|hm
    ·exact (h rfl).elim
    ·exact h2 t' ti' hm ht
theorem a8k (k:IntKind) (n:Int):a6H k n=k.wrap n:=by
 unfold a6H
 split
 ·rename_i m;rw [b6f]
  split
  ·rename_i h;have h:m < 9223372036854775808:=by simpa [xc0] using h
   exact (a5o (m:=Int.ofNat m) (by show (-9223372036854775808:Int)<=(m:Int);omega) (by show (m:Int)<=9223372036854775807;omega)).symm
  ·rfl
 ·rfl
theorem b2O {op:BinOp} {k k':IntKind} {m n:Int} {v:Value} {t:TypeId} (h:b1u op k k' m n=some v) (w:World):(binOp op t (.int k m) (.int k' n)).run P w=.ok v w:=by
 unfold b1u at h
 split at h
 ·obtain ⟨h1,h2⟩:=a1U h
  cases h2
  have h1:¬ n < 0:=by simpa using h1
  simp [binOp,Op.shift,h1]
 ·obtain ⟨h1,h2⟩:=a1U h
  cases h2
  have h1:¬ n < 0:=by simpa using h1
  simp [binOp,Op.shift,h1]
 ·obtain ⟨h1,h2⟩:=l5 h;clear h;obtain rfl:=b3O h1;unfold a9A at h2
  split at h2
  all_goals first
   |(cases h2;simp [binOp,Op.intArith,a8k];done)
   |(cases h2;simp [binOp,Op.intCmp,bne,a6h];done)
   |(cases h2;simp [binOp,Op.intBits,b0j];done)
   |(cases h2;done)
   |skip
  all_goals
   obtain ⟨h3,h4⟩:=a1U h2
   cases h4
   have h3:¬ n=0:=by simpa using h3
   simp [binOp,Op.intDiv,h3,a8k]
theorem a9b {op:BinOp} {k k':IntKind} {m n:Int} {v:Value} (h:b1u op k k' m n=some v):VR ρ v v:=by
 apply VR.cOk;unfold b1u at h
 split at h
 ·obtain ⟨_,h2⟩:=a1U h;cases h2;rfl
 ·obtain ⟨_,h2⟩:=a1U h;cases h2;rfl
 ·obtain ⟨_,h2⟩:=l5 h;clear h;unfold a9A at h2
  split at h2
  all_goals first
   |(cases h2;done)
   |(cases h2;rfl;done)
   |(obtain ⟨_,h3⟩:=a1U h2;cases h3;rfl;done)
theorem b5f {op:BinOp} {t:TypeId} {x y:Operand} {k k':IntKind} {m n:Int} (w:World):(eqGuard op t x y (.int k m) (.int k' n)).run P w=.ok () w:=by
 unfold eqGuard
 cases op <;> rfl
theorem b5O {op:BinOp} {t yt:TypeId} {x y:Operand} {k k':IntKind} {m n:Int} {v:Value} (ha:HasR ρ N ds a E) (hx:Fr.ev (a1P a) x=some (.int k m)) (hy:Fr.ev (a1P a) y=some (.int k' n)) (h:b1u op k k' m n=some v):a0S P ⟨dst,.binOp op t x y yt,ty,pos,after,none⟩ a v:=fun w=>by
 have h1:=b2O (P:=P) (t:=t) h w;have h2:=b5f (P:=P) (op:=op) (t:=t) (x:=x) (y:=y) (k:=k) (k':=k') (m:=m) (n:=n) w;simp [execOp,ha.full.ev hx,ha.full.ev hy,h1,h2,Result.andThen]
theorem a86:∀ {s:List Nat} {l l' m:List Value} {b:Bool},sEqS s l l'=some b->LR ρ l m->m=l:=by
 intro s l l'
 induction s,l,l' using sEqS.induct with
 |case1=>intro m b _ hr;rw [LR.nil_inv hr]
 |case2 s a l b r ih=>
  intro m c h hr;obtain ⟨u,q,rfl,h1,h2⟩:=LR.inv hr;unfold sEqS at h;obtain ⟨b',hb,_⟩:=xn2.1 h;rw [VR.int h1,ih hb h2]
 |case3 s a l b r ih=>
  intro m c h hr;obtain ⟨u,q,rfl,h1,h2⟩:=LR.inv hr;unfold sEqS at h;obtain ⟨b',hb,_⟩:=xn2.1 h;rw [VR.str h1,ih hb h2]
 |case4 s a l b r ih=>
  intro m c h hr;obtain ⟨u,q,rfl,h1,h2⟩:=LR.inv hr;unfold sEqS at h;obtain ⟨b',hb,_⟩:=xn2.1 h;rw [VR.bool h1,ih hb h2]
 |case5=>intro m b h hr;simp_all [sEqS]
theorem a6U:∀ {s:List Nat} {l l' m:List Value} {b:Bool},sEqS s l l'=some b->LR ρ l' m->m=l':=by
 intro s l l'
 induction s,l,l' using sEqS.induct with
 |case1=>intro m b _ hr;rw [LR.nil_inv hr]
 |case2 s a l b r ih=>
  intro m c h hr;obtain ⟨u,q,rfl,h1,h2⟩:=LR.inv hr;unfold sEqS at h;obtain ⟨b',hb,_⟩:=xn2.1 h;rw [VR.int h1,ih hb h2]
 |case3 s a l b r ih=>
  intro m c h hr;obtain ⟨u,q,rfl,h1,h2⟩:=LR.inv hr;unfold sEqS at h;obtain ⟨b',hb,_⟩:=xn2.1 h;rw [VR.str h1,ih hb h2]
 |case4 s a l b r ih=>
  intro m c h hr;obtain ⟨u,q,rfl,h1,h2⟩:=LR.inv hr;unfold sEqS at h;obtain ⟨b',hb,_⟩:=xn2.1 h;rw [VR.bool h1,ih hb h2]
 |case5=>intro m b h hr;simp_all [sEqS]
end
section
variable {P:Program} {T:TT} {q:EqT} {ρ:Ren} {N:Nat} {ds:List Deferred} {a:Act} {E:Fr} {v:Value}
def Yl (P:Program) (ρ:Ren) (a:Act) (op:Op) (v:Value):Prop:=∃ u,VR ρ v u/\∀ dst ty pos after,a0S P ⟨dst,op,ty,pos,after,none⟩ a u
theorem Yl.pure {op:Op} {u:Value} {Tb:Tab} (hTb:TabOk P Tb) (ha:HasR ρ N ds a E) (hv:VR ρ v u) (h:w7 Tb (a1P a) op=some u):Yl P ρ a op v :=
 ⟨u,hv,fun _ _ _ _=>m7 hTb ha.full h⟩
theorem b57 (ha:HasR ρ N ds a E) {c x y:Operand} (h:b2y E c x y=some v):Yl P ρ a (.pick c x y) v:=by
 unfold b2y at h
 split at h
 ·rename_i hc;obtain ⟨u,hu,hx⟩:=ha.ev h;obtain ⟨b,hb,hc⟩:=ha.ev hc;rw [VR.bool hb] at hc;exact ⟨u,hu,fun _ _ _ _ w=>by simp [execOp,ha.full.ev hc,asBool,ha.full.ev hx]⟩
 ·rename_i hc;obtain ⟨u,hu,hx⟩:=ha.ev h;obtain ⟨b,hb,hc⟩:=ha.ev hc;rw [VR.bool hb] at hc;exact ⟨u,hu,fun _ _ _ _ w=>by simp [execOp,ha.full.ev hc,asBool,ha.full.ev hx]⟩
 ·cases h
theorem b7C (ha:HasR ρ N ds a E) {x:Operand} (h:b6u E x=some v):Yl P ρ a (.nilCheck x) v:=by
 unfold b6u at h
 split at h
 ·rename_i p hx
  cases h
  obtain ⟨u,hu,hx⟩:=ha.ev hx;obtain ⟨p',rfl,hp⟩:=VR.ptrAny hu
  cases p' with
  |none=>cases hp
  |some p'=>exact Yl.pure (TabOk.nil P) ha hu (by simp only [w7,hx])
 ·cases h
theorem b7O (hT:TOk P T) (ha:HasR ρ N ds a E) {s:TypeId} {x:Operand} {f:Nat} (h:sFA T E s x f=some v):Yl P ρ a (.fieldAddr s x f) v:=by
 unfold sFA at h
 split at h
 ·rename_i sz fs z g k hs hx;obtain ⟨Tb,hTb,hget⟩:=hT.tabs [s];obtain ⟨u,hu,hx⟩:=ha.ev hx;obtain ⟨y,hy,rfl⟩:=VR.ptr hu;rw [a0v] at h
  split at h
  ·rename_i o n b hf
   cases h
   refine Yl.pure hTb ha (VR.mkPtr hy) ?_;simp only [w7,hget s _ (by simp) hs,hx,hf]
   cases e:Nat.beq o 0 with
   |true=>rw [xb8 e];rfl
   |false=>rfl
  ·cases h
 ·cases h
theorem b7b (ha:HasR ρ N ds a E) {x:Operand} {i:Nat} (h:b6G E x i=some v):Yl P ρ a (.extract x i) v:=by
 unfold b6G at h
 split at h
 ·rename_i vs hx;obtain ⟨u,hu,hx⟩:=ha.ev hx;obtain ⟨m,rfl,hm⟩:=VR.tup hu;rw [a0v] at h;obtain ⟨w,hw,hv⟩:=hm.get h;exact Yl.pure (TabOk.nil P) ha hv (by simp only [w7,hx];exact hw)
 ·cases h
theorem b7a (ha:HasR ρ N ds a E) {op:UnOp} {t:TypeId} {x:Operand} (h:b6d E op x=some v):Yl P ρ a (.unOp op t x) v:=by
 unfold b6d at h
 split at h
 ·rename_i b hx
  cases h
  obtain ⟨u,hu,hx⟩:=ha.ev hx;rw [VR.bool hu] at hx;exact Yl.pure (TabOk.nil P) ha (VR.cOk rfl) (by simp only [w7,hx])
 ·cases h
theorem b7J (ha:HasR ρ N ds a E) {fn:Go.Fn} {x y:Array Operand} (h:sMF E fn x y=some v):Yl P ρ a (.makeFunc fn x y) v:=by
 unfold sMF at h
 split at h
 ·rename_i us vs h1 h2
  cases h
  obtain ⟨us',h3,h4⟩:=ha.evs h1;obtain ⟨vs',h5,h6⟩:=ha.evs h2;exact Yl.pure (TabOk.nil P) ha (VR.mkFun h3 h5) (by simp only [w7,h4,h6])
 ·cases h
theorem b7Q (hT:TOk P T) (ha:HasR ρ N ds a E) {s t:TypeId} {x:Operand} (h:sCv T E s t x=some v):Yl P ρ a (.convert s t x) v:=by
 obtain ⟨Tb,hTb,hget⟩:=hT.tabs [s,t];unfold sCv at h
 split at h
 ·rename_i hs ht hx
  cases h
  obtain ⟨u,hu,hx⟩:=ha.ev hx;rw [VR.int hu] at hx;exact Yl.pure hTb ha (VR.cOk rfl) (by simp only [w7,hget s _ (by simp) hs,hget t _ (by simp) ht,hx])
 ·rename_i hs ht hx
  cases h
  obtain ⟨u,hu,hx⟩:=ha.ev hx;rw [VR.str hu] at hx;exact Yl.pure hTb ha (VR.cOk rfl) (by simp only [w7,hget s _ (by simp) hs,hget t _ (by simp) ht,hx])
 ·cases h
theorem b71 (hT:TOk P T) (hq:QOk P q) (ha:HasR ρ N ds a E) {op:BinOp} {t yt:TypeId} {x y:Operand} (h:sBO T q E op t x y=some v):Yl P ρ a (.binOp op t x y yt) v:=by
 obtain ⟨Tb,hTb,hget⟩:=hT.tabs [t];unfold sBO at h
 split at h
 ·rename_i v1 v2 hx hy;obtain ⟨u1,hu1,gx⟩:=ha.ev hx;obtain ⟨u2,hu2,gy⟩:=ha.ev hy;clear hx hy;unfold b7z at h
  split at h
  ·rw [VR.int hu1] at gx;rw [VR.int hu2] at gy;exact ⟨v,a9b h,fun _ _ _ _=>b5O ha gx gy h⟩
  ·rw [VR.str hu1] at gx;rw [VR.str hu2] at gy;unfold b5v at h
   split at h
   ·cases h
    exact Yl.pure hTb ha (VR.cOk rfl) (by simp only [w7,gx,gy,b09])
   ·cases h
    exact Yl.pure hTb ha (VR.cOk rfl) (by simp only [w7,gx,gy,b09])
   ·obtain ⟨h1,h2⟩:=l5 h
    cases h2
    have h1:=xf6 h1;exact ⟨_,VR.cOk rfl,fun _ _ _ _=>b7i gx gy (by omega) a ha.full _⟩
   ·cases h
  ·rw [VR.bool hu1] at gx;rw [VR.bool hu2] at gy;unfold b5L at h
   split at h
   ·rename_i ht
    cases h
    exact ⟨_,VR.cOk rfl,fun _ _ _ _=>b2N hTb (hget t _ (by simp) ht) gx gy a ha.full _⟩
   ·rename_i ht
    cases h
    exact ⟨_,VR.cOk rfl,fun _ _ _ _=>b3l hTb (hget t _ (by simp) ht) gx gy a ha.full _⟩
   ·cases h
  ·obtain ⟨p',c',rfl,hp⟩:=VR.slAny hu1;rw [VR.sl0 hu2] at gy;unfold b5G at h
   split at h
   ·rename_i ht
    cases h
    rw [<- hp];exact ⟨_,VR.cOk rfl,fun _ _ _ _=>a99 hTb (hget t _ (by simp) ht) gx gy a ha.full _⟩
   ·cases h
  ·obtain ⟨p',rfl,hp⟩:=VR.ptrAny hu1;rw [VR.ptr0 hu2] at gy;unfold b5t at h
   split at h
   ·rename_i ht
    cases h
    rw [<- hp];obtain ⟨i,hun,_⟩:=hTb.sc (hget t _ (by simp) ht);refine ⟨_,VR.cOk rfl,fun _ _ _ _=>b4i ?_ gx gy a ha.full _⟩;rw [hun];unfold Program.pointee;rw [hun]
   ·cases h
  ·obtain ⟨m1,rfl,hm1⟩:=VR.agg hu1;obtain ⟨m2,rfl,hm2⟩:=VR.agg hu2;unfold b5F at h
   split at h
   ·rename_i s hs
    split at h
    ·rename_i b hb
     cases h
     obtain rfl:=a86 hb hm1;obtain rfl:=a6U hb hm2;exact ⟨_,VR.cOk rfl,fun _ _ _ _=>b5E gx gy (hq t s hs _ _ _ hb) a ha.full _⟩
    ·rename_i b hb
     cases h
     obtain rfl:=a86 hb hm1;obtain rfl:=a6U hb hm2;exact ⟨_,VR.cOk rfl,fun _ _ _ _=>b3r gx gy (hq t s hs _ _ _ hb) a ha.full _⟩
    ·cases h
   ·cases h
  ·cases h
 ·cases h
theorem b1D {α:Type} {a:Array α} {x:α} (h:a.toList=[x]):a=#[x]:=by cases a;simp_all
theorem b32 {α:Type} {a:Array α} {x y:α} (h:a.toList=[x,y]):a=#[x,y]:=by cases a;simp_all
theorem b7G (hT:TOk P T) (ha:HasR ρ N ds a E) {c:Call} (h:sCP T E c=some v):Yl P ρ a (.call c) v:=by
 obtain ⟨cl,args,ats⟩:=c;unfold sCP at h
 split at h
 ·rename_i b hc;dsimp only at hc h;subst hc;unfold b7u at h
  split at h
  ·rename_i x t h1 h2;obtain rfl:=b1D h1;obtain rfl:=b1D h2
   split at h
   ·rename_i v1 hx;obtain ⟨u1,hu1,gx⟩:=ha.ev hx;clear hx;obtain ⟨Tb,hTb,hget⟩:=hT.tabs [t];unfold b7r at h
    split at h
    ·rename_i ht
     cases h
     obtain ⟨p',c',rfl,hp⟩:=VR.slAny hu1;exact Yl.pure hTb ha (VR.cOk rfl) (by simp only [w7,hget t _ (by simp) ht,gx])
    ·rename_i ht
     cases h
     rw [VR.str hu1] at gx;exact Yl.pure hTb ha (VR.cOk rfl) (by simp only [w7,hget t _ (by simp) ht,gx])
    ·cases h
   ·cases h
  ·rename_i x t h1 h2;obtain rfl:=b1D h1;obtain rfl:=b1D h2
   split at h
   ·rename_i v1 hx;obtain ⟨u1,hu1,gx⟩:=ha.ev hx;clear hx;obtain ⟨Tb,hTb,hget⟩:=hT.tabs [t];unfold b7g at h
    split at h
    ·rename_i ht
     cases h
     rw [VR.sl0 hu1] at gx;exact ⟨_,VR.cOk rfl,fun _ _ _ _=>b7B hTb (hget t _ (by simp) ht) gx a ha.full _⟩
    ·cases h
   ·cases h
  ·rename_i x y _ h1;obtain rfl:=b32 h1
   split at h
   ·rename_i m k hx hy
    cases h
    obtain ⟨u1,hu1,hx⟩:=ha.ev hx;obtain ⟨u2,hu2,hy⟩:=ha.ev hy;rw [VR.int hu1] at hx;rw [VR.int hu2] at hy;exact ⟨_,VR.cOk rfl,fun _ _ _ _=>b6Y hx hy a ha.full _⟩
   ·cases h
  ·cases h
 ·cases h
theorem b68 (hT:TOk P T) (ha:HasR ρ N ds a E) {s:TypeId} {x:Operand} {f:Nat} (h:b6h T E s x f=some v):Yl P ρ a (.field s x f) v:=by
 obtain ⟨Tb,hTb,hget⟩:=hT.tabs [s];unfold b6h at h
 split at h
 ·rename_i sz fs z c hs hx;obtain ⟨u,hu,hx⟩:=ha.ev hx;obtain ⟨m,rfl,hm⟩:=VR.agg hu;rw [a0v] at h
  split at h
  ·rename_i o n hf
   cases h
   exact Yl.pure hTb ha (VR.mkAgg (hm.drop o|>.take n)) (by simp only [w7,hget s _ (by simp) hs,hx,hf])
  ·rename_i o n hf;rw [a0v] at h;obtain ⟨w,hw,hv⟩:=hm.get h;exact Yl.pure hTb ha hv (by simp only [w7,hget s _ (by simp) hs,hx,hf];exact hw)
  ·cases h
 ·cases h
theorem VR.cells {u:Value} (h:VR ρ v u):LR ρ v.cells.toList u.cells.toList:=by
 have h0:=h;unfold VR a0z at h
 split at h
 all_goals first
  |(cases h;exact LR.cons h0 LR.nil;done)
  |(obtain ⟨x,hx,rfl⟩:=xn2.1 h;exact LR.cons h0 LR.nil;done)
  |(obtain ⟨x,hx,rfl⟩:=xn2.1 h;exact hx;done)
  |(obtain ⟨_,_,h⟩:=xn1.1 h;obtain ⟨_,_,rfl⟩:=xn2.1 h;exact LR.cons h0 LR.nil;done)
  |(cases h;done)
theorem PR.cons_inv {i:Nat} {x:Value} {r m:List (Nat×Value)} (h:PR ρ ((i,x)::r) m):∃ u m',m=(i,u)::m'/\VR ρ x u/\PR ρ r m':=by
 obtain ⟨h1,h2⟩:=h
 cases m with
 |nil=>cases h1
 |cons p m'=>
  obtain ⟨j,u⟩:=p;obtain ⟨u',r',e,h3,h4⟩:=LR.inv h2;simp only [xb9,List.cons.injEq] at h1 e;obtain ⟨rfl,h1⟩:=h1;obtain ⟨rfl,rfl⟩:=e;exact ⟨u,m',rfl,h3,h1,h4⟩
theorem PR.nil_inv {m:List (Nat×Value)} (h:PR ρ [] m):m=[]:=by
 obtain ⟨h1,_⟩:=h
 simpa using h1
theorem a61 {pl:Nat->Option (Nat×Nat)}:∀ {ps qs:List (Nat×Value)} {L M L':List Value},LR ρ L M->PR ρ ps qs->a1E pl L ps=some L'->∃ M',a1E pl M qs=some M'/\LR ρ L' M'
 |[],qs,L,M,L',hL,hp,h=>by
  rw [PR.nil_inv hp]
  cases h
  exact ⟨M,rfl,hL⟩
 |(i,x)::r,qs,L,M,L',hL,hp,h=>by
  obtain ⟨u,m',rfl,hx,hr⟩:=PR.cons_inv hp;simp only [a1E] at h |-
  split at h
  ·rename_i o s ho;have hc:=hx.cells
   cases e:(Nat.beq x.cells.toList.length s && Nat.ble (o + s) L.length) with
   |false=>rw [e] at h;cases h
   |true=>
    rw [e] at h;rw [hc.len,hL.len,e];exact a61 (hL.setLs hc) hr h
  ·cases h
def TI.zeros:TI->List Value
 |.sc _ _ z=>z.cells.toList
 |.st _ _ z=>z
 |.ar _ _ _ _ z=>z
 |.sl _ _ _ _ z=>z
def ZOk (T:TT):Prop:=∀ t ti,T.get t=some ti->ti.zeros.all cOk=true
theorem LR.cOks:∀ {l:List Value},l.all cOk=true->LR ρ l l
 |[],_=>LR.nil
 |x::l,h=>by
  simp only [xi9,xb1] at h;exact LR.cons (VR.cOk h.1) (LR.cOks h.2)
theorem b7D (hT:TOk P T) (hZ:ZOk T) (ha:HasR ρ N ds a E) {t:TypeId} {parts:Array (Nat×Operand)} (h:b6H T E t parts=some v):Yl P ρ a (.build t parts) v:=by
 obtain ⟨Tb,hTb,hget⟩:=hT.tabs [t];unfold b6H at h
 split at h
 ·rename_i sz fs z ps ht hp;obtain ⟨qs,hq,hp⟩:=ha.evP hp;obtain ⟨L,hL,rfl⟩:=xn2.1 h;have hfun:(fun i=>(a3v fs i).map fun f=>(f.1,f.2.1))=fun i=>(fs[i]?).map fun f=>(f.1,f.2.1):=by funext i;rw [a0v]
  rw [hfun] at hL;obtain ⟨M,hM,hr⟩:=a61 (LR.cOks (hZ t _ ht)) hq hL;exact ⟨_,VR.mkAgg hr,fun _ _ _ _=>a3q hTb (hget t _ (by simp) ht) hp hM a ha.full⟩
 ·cases h
theorem b7F (hT:TOk P T) (ha:HasR ρ N ds a E) {t:TypeId} {x y:Operand} (h:sIA T E t x y=some v):Yl P ρ a (.indexAddr t x y) v:=by
 obtain ⟨Tb,hTb,hget⟩:=hT.tabs [t];unfold sIA at h
 split at h
 ·rename_i ht hx hy;obtain ⟨h1,h2⟩:=l5 h
  cases h2
  obtain ⟨u,hu,hx⟩:=ha.ev hx;obtain ⟨z,hz,rfl⟩:=VR.sl hu;obtain ⟨u2,hu2,hy⟩:=ha.ev hy;rw [VR.int hu2] at hy;exact ⟨_,VR.mkPtr hz,fun _ _ _ _=>a7y hTb (hget t _ (by simp) ht) hx hy rfl (by simpa [xc0] using h1) a ha.full _⟩
 ·rename_i ht hx hy;obtain ⟨h1,h2⟩:=l5 h
  cases h2
  obtain ⟨u,hu,hx⟩:=ha.ev hx;obtain ⟨z,hz,rfl⟩:=VR.ptr hu;obtain ⟨u2,hu2,hy⟩:=ha.ev hy;rw [VR.int hu2] at hy;exact ⟨_,VR.mkPtr hz,fun _ _ _ _=>b61 hTb (hget t _ (by simp) ht) hx hy rfl (by simpa [xc0] using h1) a ha.full _⟩
 ·cases h
theorem b7I (hT:TOk P T) (ha:HasR ρ N ds a E) {t:TypeId} {x y:Operand} (h:sIx T E t x y=some v):Yl P ρ a (.index t x y) v:=by
 obtain ⟨Tb,hTb,hget⟩:=hT.tabs [t];unfold sIx at h
 split at h
 ·rename_i ht hx hy;rw [a0v] at h;obtain ⟨c,hc,rfl⟩:=xn2.1 h;obtain ⟨u,hu,hx⟩:=ha.ev hx;rw [VR.str hu] at hx;obtain ⟨u2,hu2,hy⟩:=ha.ev hy;rw [VR.int hu2] at hy;exact ⟨_,VR.cOk rfl,fun _ _ _ _=>b7p hTb (hget t _ (by simp) ht) hx hy rfl hc a ha.full _⟩
 ·cases h
theorem b0l (ha:HasR ρ N ds a E) {o:Option Operand} {o':Option Value} {z y i:Nat} (h:b4X E o=some o') (hb:sBd o' z y=some i):o.map a.eval=o':=by
 cases o with
 |none=>cases h;rfl
 |some x=>
  obtain ⟨v,hv,rfl⟩:=xn2.1 (show (sEv E x).map some=some o' from h);obtain ⟨u,hu,hx⟩:=ha.ev hv;unfold sBd at hb
  split at hb
  ·rename_i e;cases e
  ·rename_i e
   cases e
   rw [VR.int hu] at hx;simp [ha.full.ev hx]
  ·cases hb
theorem a5n {o:Value} {z y i y':Nat} {code:BoundsCode} (h:sBd (some o) z y=some i) (hy:y<=y') (w:World):(Instr.sliceBound o y' code).run P w=.ok i w:=by
 unfold sBd at h
 split at h
 ·rename_i e;cases e
 ·rename_i e
  cases e
  obtain ⟨h1,h2⟩:=l5 h
  cases h2
  have h1:=xf6 h1;simp [Instr.sliceBound,asIntOf,show i<=y' by omega]
 ·cases h
theorem a5B (ha:HasR ρ N ds a E) {lo hi:Option Operand} {len cap cap' l h:Nat} {b:Bool} (hb:b22 E lo hi len cap=some (l,h)) (hc:cap<=cap') (w:World):(Instr.sliceBounds b len cap' (lo.map a.eval) (hi.map a.eval) none).run P w=.ok (l,h,cap') w:=by
 unfold b22 at hb
 split at hb
 ·rename_i lo' hi' h1 h2
  split at hb
  ·rename_i h' hh
   split at hb
   ·rename_i a' hl
    cases hb
    rw [b0l ha h1 hl,b0l ha h2 hh]
    cases hi' with
    |none=>
     cases hh
     cases lo' with
     |none=>cases hl;simp [Instr.sliceBounds]
     |some o=>simp [Instr.sliceBounds,a5n hl (xd2 _)]
    |some o2=>
     cases lo' with
     |none=>cases hl;simp [Instr.sliceBounds,a5n hh hc]
     |some o=>simp [Instr.sliceBounds,a5n hl (xd2 _),a5n hh hc]
   ·cases hb
  ·cases hb
 ·cases hb
theorem b7R (hT:TOk P T) (ha:HasR ρ N ds a E) {t:TypeId} {x:Operand} {lo hi mx:Option Operand} (h:sSl T E t x lo hi mx=some v):Yl P ρ a (.slice t x lo hi mx) v:=by
 obtain ⟨Tb,hTb,hget⟩:=hT.tabs [t];unfold sSl at h
 split at h
 ·rename_i _ _ L ht hx
  split at h
  ·rename_i l h' hb
   cases h
   obtain ⟨u,hu,hx⟩:=ha.ev hx;rw [VR.str hu] at hx;obtain ⟨_,hu,_⟩:=hTb.sc (hget t _ (by simp) ht);refine ⟨_,VR.cOk rfl,fun _ _ _ _ w=>?_⟩;have hr:=a5B (P:=P) (b:=false) ha hb (xd2 _) w;simp only [execOp,ha.full.ev hx,xj6];have hs:(⟨⟨L⟩⟩:ByteArray).size=L.length:=rfl;simp only [Sem.run_bind,run_sliceAt_string w t _ _ _ _ hu];simp [Instr.slice,run_underlying hu,hs,hr,Result.andThen];exact a8j _ _ _
  ·cases h
 ·rename_i el sz eb ag z b off m c ht hx
  split at h
  ·rename_i l h' hb;obtain ⟨h1,h2⟩:=l5 h
   cases h2
   obtain ⟨u,hu,hx⟩:=ha.ev hx;obtain ⟨y,hy,rfl⟩:=VR.sl hu;obtain ⟨ji,zv,hun,hinfo,_,hs,_⟩:=hTb.sl (hget t _ (by simp) ht);have hr:=a5B (P:=P) (b:=true) ha hb (show c<=c + y.2 by omega);refine ⟨.slice (some ⟨y.1,off + l * sz,none⟩) (h' - l) (c + y.2 - l),?_,fun _ _ _ _ w=>?_⟩
   ·have e:c + y.2 - l=(c - l) + y.2:=by
     rw [Bool.or_eq_true] at h1;rcases h1 with h1|h1
     ·rw [xb8 h1];omega
     ·have h1:l < c:=by simpa [xc0] using h1
      omega
    rw [e];exact VR.mkSl hy
   ·simp only [execOp,ha.full.ev hx,xj6];simp [Instr.sliceAt,Instr.slice,run_underlying hun,hr w,sizeOf,typeInfo,hinfo,hs];rw [Bool.or_eq_true] at h1;rcases h1 with h1|h1
    ·rw [xb8 h1];simp [Addr.add]
    ·have h1:l < c:=by simpa [xc0] using h1
     rw [xe7 (by omega),a5P]
  ·cases h
 ·rename_i el sz eb ag z m c ht hx
  split at h
  ·rename_i l h' hb
   cases h
   obtain ⟨u,hu,hx⟩:=ha.ev hx;rw [VR.sl0 hu] at hx;obtain ⟨ji,zv,hun,hinfo,_,hs,_⟩:=hTb.sl (hget t _ (by simp) ht);have hr:=a5B (P:=P) (b:=true) ha hb (xd2 _);refine ⟨_,VR.cOk rfl,fun _ _ _ _ w=>?_⟩;simp only [execOp,ha.full.ev hx,xj6];simp [Instr.sliceAt,Instr.slice,run_underlying hun,hr w,sizeOf,typeInfo,hinfo,hs]
  ·cases h
 ·cases h
theorem b2f (hT:TOk P T) (hZ:ZOk T) (hq:QOk P q) (ha:HasR ρ N ds a E) {op:Op} (h:a96 T q E op=some v):Yl P ρ a op v:=by
 unfold a96 at h
 split at h
 ·obtain ⟨u,hu,hx⟩:=ha.ev h;exact Yl.pure (TabOk.nil P) ha hu (by simp only [w7,hx])
 ·obtain ⟨u,hu,hx⟩:=ha.ev h;exact Yl.pure (TabOk.nil P) ha hu (by simp only [w7,hx])
 ·exact b57 ha h
 ·exact b7C ha h
 ·exact b7O hT ha h
 ·exact b7b ha h
 ·exact b7a ha h
 ·exact b71 hT hq ha h
 ·exact b7J ha h
 ·exact b7Q hT ha h
 ·exact b7G hT ha h
 ·exact b68 hT ha h
 ·exact b7D hT hZ ha h
 ·exact b7F hT ha h
 ·exact b7I hT ha h
 ·exact b7R hT ha h
 ·cases h
end
def RR (ρ:Ren) (l m:List (List Value)):Prop:=m.length=l.length/\∀ (i:Nat) r,l[i]?=some r->∃ s,m[i]?=some s/\LR ρ r s
def R2 (ρ:Ren) (l m:List (Value×Value)):Prop:=m.map (·.1)=l.map (·.1)/\LR ρ (l.map (·.2)) (m.map (·.2))
def Fits (P:Program) (ρ:Ren) (x:Nat):SA->Obj->Prop
 |.blk L,o=>∃ M t,LR ρ L M/\o=.cells M.toArray t (0,0)
 |.row e sz rows cap u,o=>∃ rs cur,RR ρ rows rs/\o=.cells cur e (0,0)/\rs.length<=cap + x/\cap + x<=maxLen/\cur.size=(cap + x) * sz/\cur.toList.take (rs.length * sz)=rs.flatten/\(∀ r ∈ rs,r.length=sz)/\(∀ r ∈ rs,r.all (·.oneCell')=true)/\(u=false->x=0)
 |.smap t es,o=>∃ arr c Kt Et D L,P.underlying t=some (.map Kt Et)/\P.underlying Kt=some D/\o=.map arr c/\MapG D arr L/\R2 ρ es L/\∀ p ∈ es,(∃ n,p.1=.int .i64 n)\/∃ s,p.1=.string s
 |.siter l k,o=>o=.stringIter ⟨l.toArray⟩ k
structure Inv (P:Program) (w0:World) (ρ:Ren) (H:SH) (w:World):Prop where
 below:Below w0.heap.size w0 w
 held:∀ i s,o3 H i=some s->∃ x o,ρ i=some x/\w.heap[x.1]?=some o/\Fits P ρ x.2 s o/\w0.heap.size<=x.1
 inj:∀ i j s t x y,o3 H i=some s->o3 H j=some t->ρ i=some x->ρ j=some y->x.1=y.1->i=j
def Fsh (ρ:Ren) (n m:Nat):Prop:=∀ j,n<=j->j < m->ρ j=none
structure Stp (ρ σ:Ren) (n m:Nat):Prop where
 le:Rle ρ σ
 only:∀ j,j < n\/m<=j->σ j=ρ j
section
variable {P:Program} {w0 w w':World} {ρ σ τ:Ren} {H:SH} {n m k i:Nat} {s s':SA} {x:Nat×Nat} {o o':Obj}
theorem Rle.refl (ρ:Ren):Rle ρ ρ:=fun _ _ h=>h
theorem Rle.trans (h:Rle ρ σ) (h2:Rle σ τ):Rle ρ τ:=fun i x hx=>h2 i x (h i x hx)
theorem Stp.refl (ρ:Ren) (n m:Nat):Stp ρ ρ n m:=⟨Rle.refl ρ,fun _ _=>rfl⟩
theorem Stp.trans (h:Stp ρ σ n m) (h2:Stp σ τ m k) (hn:n<=m) (hm:m<=k):Stp ρ τ n k:=⟨h.le.trans h2.le,fun j hj=>(h2.only j (by omega)).trans (h.only j (by omega))⟩
theorem Fsh.step (h:Fsh ρ n k) (hs:Stp ρ σ n m) (hm:n<=m):Fsh σ m k:=fun j h1 h2=>(hs.only j (xd1 h1)).trans (h j (by omega) h2)
theorem RR.mono {l r:List (List Value)} (h:RR ρ l r) (hl:Rle ρ σ):RR σ l r:=⟨h.1,fun i q hq=>by
 obtain ⟨s,h1,h2⟩:=h.2 i q hq;exact ⟨s,h1,h2.mono hl⟩⟩
theorem R2.mono {l r:List (Value×Value)} (h:R2 ρ l r) (hl:Rle ρ σ):R2 σ l r:=⟨h.1,h.2.mono hl⟩
theorem Fits.mono {x:Nat} (h:Fits P ρ x s o) (hl:Rle ρ σ):Fits P σ x s o:=by
 cases s with
 |blk L=>obtain ⟨M,t,h1,h2⟩:=h;exact ⟨M,t,h1.mono hl,h2⟩
 |row e sz rows cap u=>obtain ⟨rs,cur,h1,h2⟩:=h;exact ⟨rs,cur,h1.mono hl,h2⟩
 |smap t es=>obtain ⟨arr,c,Kt,Et,D,L,h1,h2,h3,h4,h5,h6⟩:=h;exact ⟨arr,c,Kt,Et,D,L,h1,h2,h3,h4,h5.mono hl,h6⟩
 |siter l k=>exact h
theorem a58:∀ (H:SH) (i:Nat) (s:SA) (j:Nat),o3 (a2u H i s) j=if i=j then (o3 H i).map fun _=>s else o3 H j
 |[],i,s,j=>by simp [a8E,show a2u [] i s=[] from rfl]
 |(k,t)::r,i,s,j=>by
  have e:a2u ((k,t)::r) i s=if k=i then (k,s)::r else (k,t)::a2u r i s:=by
   show @Bool.rec (fun _=>SH) ((k,t)::a2u r i s) ((k,s)::r) (Nat.beq k i)=_;by_cases h:k=i
   ·subst h;rw [xn3,xe6 rfl]
   ·rw [a6r h,xe7 h]
  rw [e];by_cases h:k=i
  ·subst h;rw [xe6 rfl,p8,p8,p8,xe6 rfl];by_cases h2:k=j <;> simp [h2]
  ·rw [xe7 h,p8,p8,p8,xe7 h,a58 r i s j];by_cases h2:k=j
   ·subst h2;rw [xe6 rfl,xe7 (fun e=>h (Eq.symm e)),xe6 rfl]
   ·rw [xe7 h2,xe7 h2]
theorem a4h:∀ (H:SH) (i:Nat) (s:SA) (j:Nat),o3 H i=none->o3 (a15 H i s) j=if i=j then some s else o3 H j
 |[],i,s,j,_=>by
  show o3 [(i,s)] j=_;rw [p8]
 |(k,t)::r,i,s,j,hn=>by
  have e:a15 ((k,t)::r) i s=if k < i then (i,s)::(k,t)::r else (k,t)::a15 r i s:=by
   show @Bool.rec (fun _=>SH) ((k,t)::a15 r i s) ((i,s)::(k,t)::r) (Nat.blt k i)=_;by_cases h:k < i
   ·rw [show Nat.blt k i=true from by simpa [xc0] using h,xe6 h]
   ·rw [show Nat.blt k i=false from by cases e:Nat.blt k i;rfl;exact (h (by simpa [xc0] using e)).elim,xe7 h]
  rw [p8] at hn;rw [e];by_cases h:k < i
  ·rw [xe6 h,p8]
  ·rw [xe7 h,p8,p8];by_cases h2:k=i
   ·rw [xe6 h2] at hn;cases hn
   ·rw [xe7 h2] at hn;rw [a4h r i s j hn];by_cases h3:k=j
    ·subst h3;rw [xe6 rfl,xe7 (fun e=>h2 (Eq.symm e)),xe6 rfl]
    ·rw [xe7 h3,xe7 h3]
def upR (ρ:Ren) (n:Nat) (x:Nat×Nat):Ren:=fun i=>if i=n then some x else ρ i
theorem a2O (h:ρ n=none):Rle ρ (upR ρ n x):=fun i y hy=>by
 unfold upR;by_cases e:i=n
 ·subst e;rw [h] at hy;cases hy
 ·rw [xe7 e];exact hy
theorem a2H:upR ρ n x n=some x:=by unfold upR;rw [xe6 rfl]
theorem a9q (h:i≠n):upR ρ n x i=ρ i:=by unfold upR;rw [xe7 h]
theorem b0u (h:ρ n=none):Stp ρ (upR ρ n x) n (n + 1):=⟨a2O h,fun j hj=>a9q (by omega)⟩
theorem Inv.fresh (h:Inv P w0 ρ H w) (hn:ρ n=none):o3 H n=none:=by
 cases e:o3 H n with
 |none=>rfl
 |some s=>obtain ⟨x,_,hx,_⟩:=h.held n s e;rw [hn] at hx;cases hx
theorem Inv.grow (h:Inv P w0 ρ H w) (hg:w.grownBy w' none):Inv P w0 ρ H w':=by
 have hlt:∀ {b:Nat} {o:Obj},w.heap[b]?=some o->w'.heap[b]?=some o:=fun {b o} hb=>by
  rw [hg.block b (xb7.1 hb).1 (by simp)];exact hb
 refine ⟨⟨hg.os.trans h.below.os,hg.tape.trans h.below.tape,hg.output.trans h.below.output,xd3 h.below.size hg.size,fun k hk=>?_⟩,fun i s hi=>?_,h.inj⟩
 ·rw [hg.block k (xb6 hk h.below.size) (by simp)];exact h.below.block k hk
 ·obtain ⟨x,o,h1,h2,h3,h4⟩:=h.held i s hi;exact ⟨x,o,h1,hlt h2,h3,h4⟩
theorem Inv.sub {H':SH} (h:Inv P w0 ρ H w) (hs:∀ i s,o3 H' i=some s->o3 H i=some s):Inv P w0 ρ H' w :=
 ⟨h.below,fun i s hi=>h.held i s (hs i s hi),fun i j s t x y hi hj=>h.inj i j s t x y (hs i s hi) (hs j t hj)⟩
theorem Inv.upd (h:Inv P w0 ρ H w) (hi:o3 H i=some s) (hx:ρ i=some x) (hg:w.grownBy w' (some x.1)) (ho:w'.heap[x.1]?=some o') (hf:Fits P ρ x.2 s' o'):Inv P w0 ρ (a2u H i s') w':=by
 obtain ⟨x',o,h1,h2,h3,h4⟩:=h.held i s hi;rw [hx] at h1
 cases h1
 refine ⟨⟨hg.os.trans h.below.os,hg.tape.trans h.below.tape,hg.output.trans h.below.output,xd3 h.below.size hg.size,fun k hk=>?_⟩,fun j t hj=>?_,fun j k t t' y z hj hk hy hz e=>?_⟩
 ·rw [hg.block k (xb6 hk h.below.size) (fun e=>by cases e;omega)];exact h.below.block k hk
 ·rw [a58] at hj;by_cases e:i=j
  ·subst e;rw [xe6 rfl,hi] at hj
   cases hj
   exact ⟨x,o',hx,ho,hf,h4⟩
  ·rw [xe7 e] at hj;obtain ⟨y,p,g1,g2,g3,g4⟩:=h.held j t hj;refine ⟨y,p,g1,?_,g3,g4⟩;rw [hg.block y.1 (xb7.1 g2).1 (fun e2=>e (h.inj i j s t x y hi hj hx g1 (Option.some.inj e2).symm))];exact g2
 ·have old:∀ j t,o3 (a2u H i s') j=some t->∃ t',o3 H j=some t':=fun j t hj=>by
   rw [a58] at hj;by_cases e:i=j
   ·subst e;exact ⟨s,hi⟩
   ·rw [xe7 e] at hj;exact ⟨t,hj⟩
  obtain ⟨_,hj'⟩:=old j t hj;obtain ⟨_,hk'⟩:=old k t' hk;exact h.inj j k _ _ y z hj' hk' hy hz e
theorem Inv.new (h:Inv P w0 ρ H w) (hn:ρ n=none) (hg:w.grownBy w' none) (ho:w'.heap[x.1]?=some o) (hb:w.heap.size<=x.1) (hf:Fits P (upR ρ n x) x.2 s o):Inv P w0 (upR ρ n x) (a15 H n s) w':=by
 have hfr:=h.fresh hn;have hG:=h.grow hg;refine ⟨hG.below,fun j t hj=>?_,fun j k t t' y z hj hk hy hz e=>?_⟩
 ·rw [a4h _ _ _ _ hfr] at hj;by_cases e:n=j
  ·subst e;rw [xe6 rfl] at hj
   cases hj
   exact ⟨x,o,a2H,ho,hf,xd3 h.below.size hb⟩
  ·rw [xe7 e] at hj;obtain ⟨y,p,g1,g2,g3,g4⟩:=hG.held j t hj;exact ⟨y,p,a2O hn j y g1,g2,g3.mono (a2O hn),g4⟩
 ·have old:∀ j t y,o3 (a15 H n s) j=some t->upR ρ n x j=some y->(j=n/\y=x)\/(j≠n/\o3 H j=some t/\ρ j=some y):=fun j t y hj hy=>by
   rw [a4h _ _ _ _ hfr] at hj;by_cases e:n=j
   ·subst e;rw [a2H] at hy
    cases hy
    exact xd4 ⟨rfl,rfl⟩
   ·rw [xe7 e] at hj;rw [a9q (Ne.symm e)] at hy;exact xd1 ⟨Ne.symm e,hj,hy⟩
  have low:∀ j t y,o3 H j=some t->ρ j=some y->y.1 < w.heap.size:=fun j t y hj hy=>by
   obtain ⟨y',p,g1,g2,_⟩:=h.held j t hj;rw [hy] at g1
   cases g1
   exact (xb7.1 g2).1
  rcases old j t y hj hy with ⟨rfl,rfl⟩|⟨_,h1,h2⟩
  ·rcases old k t' z hk hz with ⟨rfl,_⟩|⟨_,h3,h4⟩
   ·rfl
   ·have:=low k t' z h3 h4;omega
  ·rcases old k t' z hk hz with ⟨rfl,rfl⟩|⟨_,h3,h4⟩
   ·have:=low j t y h1 h2;omega
   ·exact h.inj j k t t' y z h1 h3 h2 h4 e
theorem Inv.move {y:Nat×Nat} (h:Inv P w0 ρ H w) (hn:ρ n=none) (hi:o3 H i=some s) (hx:ρ i=some x) (hg:w.grownBy w' (some x.1)) (ho:w'.heap[y.1]?=some o) (hb:y.1=x.1\/w.heap.size<=y.1) (hf:Fits P (upR ρ n y) y.2 s' o):Inv P w0 (upR ρ n y) (a15 (a0R H i) n s') w':=by
 have hin:i≠n:=fun e=>by subst e;rw [hn] at hx;cases hx
 obtain ⟨x',o0,h1,h2,h3,h4⟩:=h.held i s hi;rw [hx] at h1
 cases h1
 have hfr:o3 (a0R H i) n=none:=by rw [a2D,xe7 hin];exact h.fresh hn
 have old:∀ j t,o3 (a15 (a0R H i) n s') j=some t->(j=n/\t=s')\/(j≠n/\j≠i/\o3 H j=some t):=fun j t hj=>by
  rw [a4h _ _ _ _ hfr] at hj;by_cases e:n=j
  ·subst e;rw [xe6 rfl] at hj
   cases hj
   exact xd4 ⟨rfl,rfl⟩
  ·rw [xe7 e] at hj;by_cases e2:i=j
   ·rw [a2D,xe6 e2] at hj;cases hj
   ·rw [a2D,xe7 e2] at hj;exact xd1 ⟨Ne.symm e,Ne.symm e2,hj⟩
 refine ⟨⟨hg.os.trans h.below.os,hg.tape.trans h.below.tape,hg.output.trans h.below.output,xd3 h.below.size hg.size,fun k hk=>?_⟩,fun j t hj=>?_,fun j k t t' u z hj hk hu hz e=>?_⟩
 ·rw [hg.block k (xb6 hk h.below.size) (fun e=>by cases e;omega)];exact h.below.block k hk
 ·rcases old j t hj with ⟨rfl,rfl⟩|⟨e1,e2,hj⟩
  ·refine ⟨y,o,a2H,ho,hf,?_⟩;rcases hb with hb|hb
   ·rw [hb];exact h4
   ·exact xd3 h.below.size hb
  ·obtain ⟨u,p,g1,g2,g3,g4⟩:=h.held j t hj;refine ⟨u,p,a2O hn j u g1,?_,g3.mono (a2O hn),g4⟩;rw [hg.block u.1 (xb7.1 g2).1 (fun e3=>e2 (h.inj j i t s u x hj hi g1 hx (Option.some.inj e3)))];exact g2
 ·have low:∀ j t u,j≠i->o3 H j=some t->ρ j=some u->u.1 < w.heap.size/\u.1≠x.1:=fun j t u hji hj hu=>by
   obtain ⟨y',p,g1,g2,_⟩:=h.held j t hj;rw [hu] at g1
   cases g1
   exact ⟨(xb7.1 g2).1,fun e=>hji (h.inj j i t s u x hj hi hu hx e)⟩
  have up:∀ j u,j≠n->upR ρ n y j=some u->ρ j=some u:=fun j u hjn hu=>by rw [a9q hjn] at hu;exact hu
  rcases old j t hj with ⟨rfl,rfl⟩|⟨e1,e2,hj'⟩
  ·rcases old k t' hk with ⟨rfl,_⟩|⟨e3,e4,hk⟩
   ·rfl
   ·rw [a2H] at hu
    cases hu
    have:=low k t' z e4 hk (up k z e3 hz);rcases hb with hb|hb <;> omega
  ·rcases old k t' hk with ⟨rfl,rfl⟩|⟨e3,e4,hk⟩
   ·rw [a2H] at hz
    cases hz
    have:=low j t u e2 hj' (up j u e1 hu);rcases hb with hb|hb <;> omega
   ·exact h.inj j k t t' u z hj' hk (up j u e1 hu) (up k z e3 hz) e
end
section
variable {F:Nat->Prop} {w0 w w':World} {Γ:List Asr} {A:Asr}
theorem St.self (h:A.holds w):St (fps [A]) w w [A] :=
 ⟨rfl,rfl,rfl,xd2 _,fun _ _ _=>rfl,by simpa using h,fun B hB k hk=>xd1 ⟨B,hB,hk⟩,by simp⟩
theorem St.grown1 {b:Nat} (h:St (fps [A]) w w' Γ) (hb:A.fp=some b):w.grownBy w' (some b) :=
 ⟨h.os,h.tape,h.output,h.size,fun k hk hne=>h.base k hk (fun ⟨B,hB,e⟩=>by
  rw [xn4.1 hB,hb] at e;exact hne (by rw [e]))⟩
theorem St.grown0 (h:St nF w w' Γ):w.grownBy w' none:=⟨h.os,h.tape,h.output,h.size,fun k hk _=>h.base k hk id⟩
end
section
variable {P:Program} {T:TT} {q:EqT} {w0 w w':World} {ρ σ:Ren} {N:Nat} {ds:List Deferred} {a:Act} {E:Fr} {H:SH} {n:Nat} {x:Nat×Nat} {i:Nat}
theorem Fits.blk {L:List Value} {b y:Nat} {o:Obj} (h:Fits P ρ y (.blk L) o) (hb:w.heap[b]?=some o):∃ M,LR ρ L M/\Asr.holds w (.blk b M):=by
 obtain ⟨M,t,h1,h2⟩:=h;exact ⟨M,h1,t,by rw [hb,h2]⟩
theorem Fits.of_blk {L M:List Value} {b y:Nat} (h:Asr.holds w (.blk b M)) (hr:LR ρ L M):∃ o,w.heap[b]?=some o/\Fits P ρ y (.blk L) o:=by
 obtain ⟨t,h⟩:=h;exact ⟨_,h,M,t,hr,rfl⟩
theorem Fits.row {e sz cap b y:Nat} {u:Bool} {rows:List (List Value)} {o:Obj} (h:Fits P ρ y (.row e sz rows cap u) o) (hb:w.heap[b]?=some o):∃ rs,RR ρ rows rs/\Asr.holds w (.row e sz (.slice (some ⟨b,0,none⟩) rs.length (cap + y)) rs)/\(u=false->y=0):=by
 obtain ⟨rs,cur,h1,h2,h3,h4,h5,h6,h7,h8,h9⟩:=h;exact ⟨rs,h1,⟨⟨o9 h7,.inr ⟨b,cap + y,cur,rfl,xf9 _,by rw [hb,h2],h3,h4,h5,h6⟩⟩,h7,h8⟩,h9⟩
theorem Fits.of_row {e sz cap b y m c:Nat} {u:Bool} {rows rs:List (List Value)} (h:Asr.holds w (.row e sz (.slice (some ⟨b,0,none⟩) m c) rs)) (hr:RR ρ rows rs) (hc:c=cap + y) (hu:u=false->y=0):∃ o,w.heap[b]?=some o/\Fits P ρ y (.row e sz rows cap u) o:=by
 obtain ⟨⟨h1,h2⟩,h3,h4⟩:=h;rcases h2 with ⟨e,_⟩|⟨g,c',cur,e,_,h5,h6,h7,h8,h9⟩
 ·cases e
 ·cases e
  subst hc;exact ⟨_,h5,rs,cur,hr,rfl,h6,h7,h8,h9,h3,h4,hu⟩
theorem RR.get {l m:List (List Value)} {k:Nat} {r:List Value} (h:RR ρ l m) (hk:l[k]?=some r):∃ s,m[k]?=some s/\LR ρ r s:=h.2 k r hk
theorem RR.set {l m:List (List Value)} {k:Nat} {r s:List Value} (h:RR ρ l m) (hr:LR ρ r s):RR ρ (l.set k r) (m.set k s):=by
 refine ⟨by simp [h.1],fun j q hq=>?_⟩;rw [xd7] at hq |-;by_cases e:k=j
 ·rw [xe6 e] at hq;rw [xe6 e]
  split at hq
  ·rename_i hlt
   cases hq
   rw [xe6 (by rw [h.1];exact hlt)];exact ⟨s,rfl,hr⟩
  ·cases hq
 ·rw [xe7 e] at hq;rw [xe7 e];exact h.2 j q hq
theorem RR.app {l m l' m':List (List Value)} (h:RR ρ l m) (h':RR ρ l' m'):RR ρ (l++l') (m++m'):=by
 refine ⟨by simp [h.1,h'.1],fun j q hq=>?_⟩;by_cases hj:j < l.length
 ·rw [xa5 hj] at hq;rw [xa5 (by rw [h.1];exact hj)];exact h.2 j q hq
 ·rw [xa4 (by omega)] at hq;rw [xa4 (by rw [h.1];omega),h.1];exact h'.2 _ q hq
theorem RR.take {l m:List (List Value)} (h:RR ρ l m) (k:Nat):RR ρ (l.take k) (m.take k):=by
 refine ⟨by simp [h.1],fun j q hq=>?_⟩;rw [xe9] at hq |-
 split at hq
 ·rename_i hlt;rw [xe6 hlt];exact h.2 j q hq
 ·cases hq
theorem RR.drop {l m:List (List Value)} (h:RR ρ l m) (k:Nat):RR ρ (l.drop k) (m.drop k):=by
 refine ⟨by simp [h.1],fun j q hq=>?_⟩;rw [xb5] at hq |-;exact h.2 _ q hq
theorem RR.rep {r:List Value} (h:LR ρ r r) (k:Nat):RR ρ (List.replicate k r) (List.replicate k r):=by
 refine ⟨rfl,fun j q hq=>?_⟩;have:=xk2 (xc8 hq);subst this;exact ⟨q,hq,h⟩
theorem RR.one1 {l m:List (List Value)} (h:RR ρ l m) (hl:∀ r ∈ l,r.all (·.oneCell')=true):∀ s ∈ m,s.all (·.oneCell')=true:=fun s hs=>by
 obtain ⟨j,hj⟩:=xd6.1 hs;have hlt:j < l.length:=by rw [<- h.1];exact f7 hj
 obtain ⟨s',h1,h2⟩:=h.2 j _ (xd8 hlt);rw [hj] at h1
 cases h1
 rw [h2.one];exact hl _ (List.getElem_mem hlt)
def Snd (P:Program) (op:Op) (E:Fr) (H:SH) (n:Nat) (r:Option Value×SH×Nat):Prop :=
 n<=r.2.2/\∀ {w0 w:World} {ρ:Ren} {N:Nat} {ds:List Deferred} {a:Act} {hi:Nat},HasR ρ N ds a E->Inv P w0 ρ H w->Fsh ρ n hi->r.2.2<=hi ->
  ∀ dst ty pos after (K:Act->World->Prop) (Q:Exit->Act->World->Prop),(∀ u w' σ,Stp ρ σ n r.2.2->OR σ r.1 u->Inv P w0 σ r.2.1 w'->K (a.put dst u) w')->Oper.wp P ⟨dst,op,ty,pos,after,none⟩ a w K Q
theorem Snd.of_runs {op:Op} {v:Option Value} (h:∀ {ρ:Ren} {N:Nat} {ds:List Deferred} {a:Act},HasR ρ N ds a E->∃ u,OR ρ v u/\∀ dst ty pos after,a0S P ⟨dst,op,ty,pos,after,none⟩ a u):Snd P op E H n (v,H,n) :=
 ⟨xd2 _,fun ha hI _ _ dst ty pos after K Q k=>by
  obtain ⟨u,hu,hr⟩:=h ha;unfold Oper.wp;rw [hr dst ty pos after _];exact k u _ _ (Stp.refl _ _ _) hu hI⟩
theorem Snd.of_yl {op:Op} {v:Value} (h:∀ {ρ:Ren} {N:Nat} {ds:List Deferred} {a:Act},HasR ρ N ds a E->Yl P ρ a op v):Snd P op E H n (some v,H,n):=Snd.of_runs h
theorem Snd.of_gets {op:Op} {v:Option Value} (h:∀ {w0 w:World} {ρ:Ren} {N:Nat} {ds:List Deferred} {a:Act},HasR ρ N ds a E->Inv P w0 ρ H w->∃ u,OR ρ v u/\∀ dst ty pos after,Gets P ⟨dst,op,ty,pos,after,none⟩ N ds (a1P a) w (fun v' w'=>v'=u/\w'=w)):Snd P op E H n (v,H,n) :=
 ⟨xd2 _,fun ha hI _ _ dst ty pos after K Q k=>by
  obtain ⟨u,hu,hr⟩:=h ha hI;exact hr dst ty pos after _ ha.full K Q (fun v' w' hv=>by obtain ⟨rfl,rfl⟩:=hv;exact k _ _ _ (Stp.refl _ _ _) hu hI)⟩
theorem Snd.of_new {op:Op} {v:Value} {s:SA} (h:∀ {w0 w:World} {ρ:Ren} {N:Nat} {ds:List Deferred} {a:Act},HasR ρ N ds a E->Inv P w0 ρ H w->∀ dst ty pos after,Gets P ⟨dst,op,ty,pos,after,none⟩ N ds (a1P a) w (fun u w'=>∃ x:Nat×Nat,(∀ τ:Ren,Rle ρ τ->τ n=some x->VR τ v u)/\w.grownBy w' none/\w.heap.size<=x.1/\∃ o,w'.heap[x.1]?=some o/\∀ τ:Ren,Rle ρ τ->τ n=some x->Fits P τ x.2 s o)):Snd P op E H n (some v,a15 H n s,n + 1) :=
 ⟨Nat.le_succ _,fun {w0 w ρ N ds a hi} ha hI hF hn dst ty pos after K Q k=>by
  have hfr:ρ n=none:=hF n (xd2 _) hn;refine h ha hI dst ty pos after _ ha.full K Q fun u w' ⟨x,hv,hg,hb,o,ho,hf⟩=>?_;exact k u w' (upR ρ n x) (b0u hfr) (hv _ (a2O hfr) a2H) (hI.new hfr hg ho hb (hf _ (a2O hfr) a2H))⟩
theorem Snd.of_upd {op:Op} {v:Option Value} {s s':SA} (hi:o3 H i=some s) (h:∀ {w0 w:World} {ρ:Ren} {N:Nat} {ds:List Deferred} {a:Act} {x:Nat×Nat} {o:Obj},HasR ρ N ds a E->Inv P w0 ρ H w->ρ i=some x->w.heap[x.1]?=some o->Fits P ρ x.2 s o->∀ dst ty pos after,Gets P ⟨dst,op,ty,pos,after,none⟩ N ds (a1P a) w (fun u w'=>OR ρ v u/\w.grownBy w' (some x.1)/\∃ o',w'.heap[x.1]?=some o'/\Fits P ρ x.2 s' o')):Snd P op E H n (v,a2u H i s',n) :=
 ⟨xd2 _,fun {w0 w ρ N ds a hi'} ha hI hF hn dst ty pos after K Q k=>by
  obtain ⟨x,o,h1,h2,h3,_⟩:=hI.held i s hi;refine h ha hI h1 h2 h3 dst ty pos after _ ha.full K Q fun u w' ⟨hv,hg,o',ho,hf⟩=>?_;exact k u w' ρ (Stp.refl _ _ _) hv (hI.upd hi h1 hg ho hf)⟩
theorem a4T {b o k m:Nat} {M:List Value} (h:w.rangeAt b o M):w.rangeAt b (o + k) ((M.drop k).take m):=fun j v hj=>by
 rw [xe9] at hj
 split at hj
 ·rw [xb5] at hj;have:=h (k + j) v hj
  rwa [<- xf1] at this
 ·cases hj
theorem a5e (hI:Inv P w0 ρ H w) {o m:Nat} {L:List Value} (h:o4 H i o m=some L):∃ x M,ρ i=some x/\LR ρ L M/\w.rangeAt x.1 o M/\L.length=m:=by
 unfold o4 at h
 split at h
 ·rename_i L0 hi;obtain ⟨h1,h2⟩:=l5 h
  cases h2
  have h1:=xf6 h1;obtain ⟨x,ob,g1,g2,g3,_⟩:=hI.held _ _ hi;obtain ⟨M,hM,hh⟩:=g3.blk g2;refine ⟨x,(M.drop o).take m,g1,(hM.drop o).take m,?_,by simp;omega⟩;have:=a4T (k:=o) (m:=m) ((St.self hh).blkR 0 rfl)
  rwa [xa8] at this
 ·rename_i e sz rows cap u hi;rw [a0v] at h
  split at h
  ·rename_i r hr;obtain ⟨h1,h2⟩:=l5 h
   cases h2
   have h1:=xf6 h1;obtain ⟨x,ob,g1,g2,g3,_⟩:=hI.held _ _ hi;obtain ⟨rs,hR,hh,_⟩:=g3.row g2;obtain ⟨r',hr',hrr⟩:=hR.get hr;refine ⟨x,(r'.drop (o % sz)).take m,g1,(hrr.drop _).take m,?_,by simp;omega⟩;have:=a4T (k:=o % sz) (m:=m) ((St.self hh).rowR 0 rfl hr')
   rwa [xa8,xg8,xg9] at this
  ·cases h
 ·cases h
theorem a7z (hT:TOk P T) (hI:Inv P w0 ρ H w) {t:TypeId} {p v p':Value} (h:a6d T H t p=some v) (hp:VR ρ p p'):∃ b o u,p'=.pointer (some ⟨b,o,none⟩)/\VR ρ v u/\Ld P t ⟨b,o,none⟩ u w:=by
 obtain ⟨Tb,hTb,hget⟩:=hT.tabs [t];unfold a6d at h
 split at h
 ·rename_i i o;obtain ⟨x,hx,rfl⟩:=VR.ptr hp
  split at h
  ·rename_i ht
   split at h
   ·rename_i v' hc
    cases h
    obtain ⟨x',M,h1,h2,h3,_⟩:=a5e hI hc;rw [hx] at h1;cases h1;obtain ⟨u,r,rfl,hu,hr⟩:=LR.inv h2;have:=h3 0 u rfl;exact ⟨_,_,u,rfl,hu,Ld.sc hTb (hget t _ (by simp) ht) this⟩
   ·cases h
  ·rename_i ht
   split at h
   ·rename_i v' hc
    cases h
    obtain ⟨x',M,h1,h2,h3,_⟩:=a5e hI hc;rw [hx] at h1;cases h1;obtain ⟨u,r,rfl,hu,hr⟩:=LR.inv h2;have:=h3 0 u rfl;exact ⟨_,_,u,rfl,hu,Ld.sl hTb (hget t _ (by simp) ht) this⟩
   ·cases h
  ·rename_i ht;obtain ⟨L,hL,rfl⟩:=xn2.1 h;obtain ⟨x',M,h1,h2,h3,h4⟩:=a5e hI hL;rw [hx] at h1;cases h1;exact ⟨_,_,_,rfl,VR.mkAgg h2,Ld.st hTb (hget t _ (by simp) ht) h3 (by rw [h2.len,h4])⟩
  ·rename_i ht;obtain ⟨L,hL,rfl⟩:=xn2.1 h;obtain ⟨x',M,h1,h2,h3,h4⟩:=a5e hI hL;rw [hx] at h1;cases h1;exact ⟨_,_,_,rfl,VR.mkAgg h2,Ld.ar hTb (hget t _ (by simp) ht) h3 (by rw [h2.len,h4])⟩
  ·cases h
 ·cases h
theorem b5P (hT:TOk P T) {t:TypeId} {y:Operand} {p v:Value} (hy:sEv E y=some p) (h:a6d T H t p=some v):Snd P (.load t y) E H n (some v,H,n) :=
 Snd.of_gets fun ha hI=>by
  obtain ⟨p',hp,hev⟩:=ha.ev hy;obtain ⟨b,o,u,rfl,hu,hl⟩:=a7z hT hI h hp;exact ⟨u,hu,fun _ _ _ _=>a9d hev hl⟩
theorem b4f (hT:TOk P T) {t:TypeId} {y z:Operand} {p v:Value} {H':SH} (hy:sEv E y=some p) (hz:sEv E z=some v) (h:a9s T H t v p=some H'):Snd P (.store t y z) E H n (none,H',n):=by
 obtain ⟨Tb,hTb,hget⟩:=hT.tabs [t];unfold a9s at h
 split at h
 ·rename_i i o
  split at h
  ·rename_i ti c ht hc;unfold b7o at h;obtain ⟨h1,h⟩:=l5 h;rw [xb1] at h1;obtain ⟨hl,h1⟩:=h1;have hl:=xb8 hl
   split at h
   ·rename_i L hi;obtain ⟨h2,h3⟩:=l5 h
    cases h3
    have h2:=xf6 h2;refine Snd.of_upd hi fun {w0 w ρ N ds a x ob} ha hI hx hb hf dst ty pos after=>?_;obtain ⟨p',hp,hev⟩:=ha.ev hy;obtain ⟨x',hx',rfl⟩:=VR.ptr hp;rw [hx] at hx';cases hx';obtain ⟨v',hv,hev2⟩:=ha.ev hz;obtain ⟨c',hc',hcc⟩:=VR.celL hv hc;obtain ⟨M,hM,hh⟩:=hf.blk hb;have e:=a08 hc';intro b hB K Q kk;refine s9 (St.self hh) hTb (hget t _ (by simp) ht) hev hev2 (i:=0) rfl (by rw [e,hcc.len,hl]) (by rw [hM.len];exact h2) (by rw [e];exact fun u hu=>xc6.1 (by rw [hcc.one];exact h1) u hu) b hB K Q fun u w' hS=>kk u w' ⟨?_,hS.grown1 rfl,?_⟩
    ·trivial
    ·rw [e] at hS;exact Fits.of_blk (hS.at_ (i:=0) rfl) (hM.setLs hcc)
   ·rename_i e sz rows cap u hi;rw [a0v] at h
    split at h
    ·rename_i r hr;obtain ⟨h2,h3⟩:=l5 h
     cases h3
     have h2:=xf6 h2;refine Snd.of_upd hi fun {w0 w ρ N ds a x ob} ha hI hx hb hf dst ty pos after=>?_;obtain ⟨p',hp,hev⟩:=ha.ev hy;obtain ⟨x',hx',rfl⟩:=VR.ptr hp;rw [hx] at hx';cases hx';obtain ⟨v',hv,hev2⟩:=ha.ev hz;obtain ⟨c',hc',hcc⟩:=VR.celL hv hc;obtain ⟨rs,hR,hh,hu⟩:=hf.row hb;obtain ⟨r',hr',hrr⟩:=hR.get hr;intro b hB K Q kk;refine a3a (St.self hh) hTb (hget t _ (by simp) ht) hev hev2 (i:=0) rfl (show o=0 + (o / sz) * sz + o % sz by rw [xa8,xg8,xg9]) hr' (a08 hc') (by rw [hcc.len,hl]) h2 (by rw [hcc.one];exact h1) b hB K Q fun u w' hS=>kk u w' ⟨?_,hS.grown1 rfl,?_⟩
     ·trivial
     ·exact Fits.of_row (hS.at_ (i:=0) rfl) (hR.set (hrr.setLs hcc)) rfl hu
    ·cases h
   ·cases h
  ·cases h
 ·cases h
theorem b69 {t:TypeId} {y:Operand} {v:Value} {L:List Value} (hy:sEv E y=some v) (hc:celL v=some L):Snd P (.box t y) E H n (some (.pointer (some ⟨n,0,none⟩)),a15 H n (.blk L),n + 1) :=
 Snd.of_new fun ha hI dst ty pos after=>by
  obtain ⟨u,hu,hev⟩:=ha.ev hy;obtain ⟨M,hM,hr⟩:=VR.celL hu hc;intro b hB K Q kk;refine a3C (St.start _) hev b hB K Q fun u' w' ⟨g,e,hS⟩=>kk u' w' ⟨(g,0),fun τ _ hτ=>by rw [e];exact VR.mkPtr hτ,hS.drop.grown0,?_,?_⟩
  ·rcases hS.own _ (xc4) g rfl with h|h
   ·exact h
   ·exact h.elim
  ·rw [a08 hM] at hS;obtain ⟨t',hh⟩:=hS.at_ (i:=0) rfl;exact ⟨_,hh,fun τ hτ _=>⟨M,t',hr.mono hτ,rfl⟩⟩
theorem TI.zc (ti:TI):ti.zeroCells=ti.zeros\/ti.zeroCells=[.slice none 0 0]:=by cases ti <;> simp [TI.zeroCells,TI.zeros]
theorem b4E (hT:TOk P T) (hZ:ZOk T) {t:TypeId} {ti:TI} (ht:T.get t=some ti):Snd P (.alloc t) E H n (some (.pointer (some ⟨n,0,none⟩)),a15 H n (.blk ti.zeroCells),n + 1) :=
 Snd.of_new fun ha hI dst ty pos after=>by
  obtain ⟨Tb,hTb,hget⟩:=hT.tabs [t];have hz:∀ τ:Ren,LR τ ti.zeroCells ti.zeroCells:=fun τ=>by
   rcases TI.zc ti with h|h
   ·rw [h];exact LR.cOks (hZ t ti ht)
   ·rw [h];exact LR.cOks rfl
  intro b hB K Q kk;refine t8 (St.start _) hTb (hget t _ (by simp) ht) rfl b hB K Q fun u' w' ⟨g,e,hS⟩=>kk u' w' ⟨(g,0),fun τ _ hτ=>by rw [e];exact VR.mkPtr hτ,hS.drop.grown0,?_,?_⟩
  ·rcases hS.own _ (xc4) g rfl with h|h
   ·exact h
   ·exact h.elim
  ·obtain ⟨t',hh⟩:=hS.at_ (i:=0) rfl;exact ⟨_,hh,fun τ hτ _=>⟨_,t',hz τ,rfl⟩⟩
theorem b4p {v:Value} {c:List Value} {k s:Nat} {r:List (Nat×Value)} {rs:List (List Value)} (hc:celL v=some c) (hl:c.length=s) (hr:a2V (k + 1) s r=some rs):a2V k s ((k,v)::r)=some (c::rs):=by
 unfold a2V;rw [hr]
 cases v
 all_goals first
  |(cases hc;subst hl;simp [xn3];done)
  |(cases hc;done)
theorem b1U {v:Value} {i k s:Nat} {r:List (Nat×Value)} {rows:List (List Value)} (h:a2V k s ((i,v)::r)=some rows):celL v=some v.cells.toList:=by
 unfold a2V at h
 cases v
 all_goals first
  |rfl
  |(cases h':a2V (k + 1) s r <;> rw [h'] at h <;> cases h;done)
theorem a8G:∀ {ps qs:List (Nat×Value)} {k s:Nat} {rows:List (List Value)},PR ρ ps qs->a2V k s ps=some rows->∃ rs,a2V k s qs=some rs/\RR ρ rows rs
 |[],qs,k,s,rows,hp,h=>by
  rw [PR.nil_inv hp]
  cases h
  exact ⟨[],rfl,rfl,fun i r hr=>by simp at hr⟩
 |(i,v)::r,qs,k,s,rows,hp,h=>by
  obtain ⟨u,m',rfl,hx,hr⟩:=PR.cons_inv hp;have hcv:=b1U h;obtain ⟨rr,e1,e2,e3,e4⟩:=a7f h;obtain ⟨rs',h1,h2⟩:=a8G hr e2;obtain ⟨c,hc,hcc⟩:=VR.celL hx hcv;subst e3;refine ⟨c::rs',b4p hc (by rw [hcc.len,e4]) h1,?_⟩;rw [e1];refine ⟨by simp [h2.1],fun j q hq=>?_⟩
  cases j with
  |zero=>simp at hq;subst hq;exact ⟨_,rfl,hcc⟩
  |succ j=>simpa using h2.2 j q (by simpa using hq)
theorem b24 {g:Nat} {A:Asr} {Γ:List Asr} (hS:St nF w w' (A::Γ)) (hA:A.fp=some g):w.heap.size<=g:=by
 rcases hS.own _ (xc4) g hA with h|h
 ·exact h
 ·exact h.elim
theorem a9t {rows rs:List (List Value)} (h:RR ρ rows rs) (ho:a3J rows=true):a3J rs=true:=by
 unfold a3J;rw [xc6];exact h.one1 (a4Y ho)
theorem b7L (hT:TOk P T) {t:TypeId} {len:Nat} {parts:Array (Nat×Operand)} {r:Option Value×SH×Nat} (h:sBS T E H n t len parts=some r):Snd P (.buildSlice t len parts) E H n r:=by
 obtain ⟨Tb,hTb,hget⟩:=hT.tabs [t];unfold sBS at h
 split at h
 ·rename_i e sz eb ag z ps ht hp
  split at h
  ·rename_i rows hr;obtain ⟨h1,h2⟩:=l5 h
   cases h2
   simp only [xb1] at h1;obtain ⟨h1,h2,h3⟩:=h1;refine Snd.of_new fun {w0 w ρ N ds a} ha hI dst ty pos after=>?_;obtain ⟨qs,hq,hev⟩:=ha.evP hp;obtain ⟨rs,hrs,hR⟩:=a8G hq hr;have hlen:rs.length=len:=by rw [hR.1];exact xb8 h1
   intro b hB K Q kk;refine a0b (St.start _) hTb (hget t _ (by simp) ht) hev hrs (by rw [hlen];exact xn3 _) h2 (a9t hR h3) b hB K Q fun u' w' ⟨g,e1,hS⟩=>kk u' w' ⟨(g,0),fun τ _ hτ=>by rw [e1];exact VR.mkSl hτ,hS.drop.grown0,b24 hS rfl,?_⟩;have hh:=hS.at_ (i:=0) rfl;have key:=fun (τ:Ren) (hτ:Rle ρ τ)=>Fits.of_row (P:=P) (y:=0) (u:=false) hh (hR.mono hτ) rfl (fun _=>rfl);obtain ⟨o,ho,_⟩:=key ρ (Rle.refl ρ);refine ⟨o,ho,fun τ hτ _=>?_⟩;obtain ⟨o',ho',hf⟩:=key τ hτ;rw [ho] at ho'
   cases ho'
   exact hf
  ·cases h
 ·cases h
theorem b7W (hT:TOk P T) (hZ:ZOk T) {t:TypeId} {y z:Operand} {r:Option Value×SH×Nat} (h:sMk T E H n t y z=some r):Snd P (.makeSlice t y z) E H n r:=by
 obtain ⟨Tb,hTb,hget⟩:=hT.tabs [t];unfold sMk at h
 split at h
 ·rename_i e sz eb ag zz m m' ht hy hz;obtain ⟨h1,h2⟩:=l5 h
  cases h2
  simp only [xb1] at h1;obtain ⟨h1,h2,h3⟩:=h1;have h1:=xb8 h1;have h2:=xf6 h2;subst h1;have hz0:=hZ t _ ht;have hmul:m * (eb + 1)=m * eb + m:=Nat.mul_succ m eb;have hmul2:m * eb=eb * m:=xg8 _ _;refine Snd.of_new fun {w0 w ρ N ds a} ha hI dst ty pos after=>?_;obtain ⟨u1,hu1,gy⟩:=ha.ev hy;obtain ⟨u2,hu2,gz⟩:=ha.ev hz;rw [VR.int hu1] at gy;rw [VR.int hu2] at gz;intro b hB K Q kk;refine a1K (St.start _) hTb (hget t _ (by simp) ht) gy gz rfl rfl (by omega) (by have h9:((eb * m:Nat):Int)<=281474976710656:=(by omega);simpa using h9) h3 b hB K Q fun u' w' ⟨g,e1,hS⟩=>kk u' w' ⟨(g,0),fun τ _ hτ=>by rw [e1];exact VR.mkSl hτ,hS.drop.grown0,b24 hS rfl,?_⟩;have hh:=hS.at_ (i:=0) rfl;have key:=fun (τ:Ren)=>Fits.of_row (P:=P) (cap:=m) (y:=0) (u:=false) hh (RR.rep (ρ:=τ) (LR.cOks hz0) m) rfl (fun _=>rfl);obtain ⟨o,ho,_⟩:=key ρ;refine ⟨o,ho,fun τ hτ _=>?_⟩;obtain ⟨o',ho',hf⟩:=key τ;rw [ho] at ho'
  cases ho'
  exact hf
 ·cases h
theorem a7d:∀ {rows:List (List Value)} {l:List UInt8},a7K rows=some l->rows=bR l:=by
 intro rows
 induction rows with
 |nil=>intro l h;cases h;rfl
 |cons r q ih=>
  intro l h;unfold a7K at h
  split at h
  ·rename_i e;cases e
  ·rename_i m q' e
   cases e
   obtain ⟨h1,h2⟩:=l5 h;obtain ⟨l',hl',rfl⟩:=xn2.1 h2;have h1:m < 256:=by simpa [xc0] using h1
   have hb:(UInt8.ofNat m).toNat=m:=by simp [UInt8.toNat_ofNat'];omega
   rw [ih hl'];show _=[.int .u8 ((UInt8.ofNat m).toNat:Nat)]::bR l';rw [hb];rfl
  ·cases h
theorem RR.bR {l:List UInt8} {rs:List (List Value)} (h:RR ρ (bR l) rs):rs=Go.Proofs.YtejnpppejalhfacGreat.bR l:=by
 refine xg6 fun j=>?_;by_cases hj:j < (Go.Proofs.YtejnpppejalhfacGreat.bR l).length
 ·obtain ⟨s,h1,h2⟩:=h.2 j _ (xd8 hj);rw [h1,xd8 hj];have hr:(Go.Proofs.YtejnpppejalhfacGreat.bR l)[j]=[.int .u8 ((l[j]'(by rw [a3M] at hj;exact hj)).toNat:Nat)]:=by simp [Go.Proofs.YtejnpppejalhfacGreat.bR]
  rw [hr] at h2 |-;obtain ⟨u,t,rfl,h3,h4⟩:=LR.inv h2;rw [LR.nil_inv h4,VR.int h3]
 ·rw [xh2 (by rw [h.1];omega),xh2 (by omega)]
theorem RR.ofbR (l:List UInt8):RR ρ (Go.Proofs.YtejnpppejalhfacGreat.bR l) (Go.Proofs.YtejnpppejalhfacGreat.bR l):=by
 refine ⟨rfl,fun j r hr=>⟨r,hr,?_⟩⟩;have hj:j < l.length:=by have:=f7 hr;rwa [a3M] at this
 have e:(Go.Proofs.YtejnpppejalhfacGreat.bR l)[j]?=some [.int .u8 ((l[j]).toNat:Nat)]:=by simp [Go.Proofs.YtejnpppejalhfacGreat.bR,hj]
 rw [e] at hr
 cases hr
 exact LR.cOks rfl
theorem b5r (hT:TOk P T) (hI:Inv P w0 ρ H w) {t:TypeId} {v v':Value} {i e cap:Nat} {l:List UInt8} {ub:Bool} (h:b3Q T H t v=some (i,e,cap,l,ub)) (hv:VR ρ v v'):∃ x o,ρ i=some x/\T.get t=some (.sl e 1 1 false [.int .u8 0])/\o3 H i=some (.row e 1 (Go.Proofs.YtejnpppejalhfacGreat.bR l) cap ub)/\w.heap[x.1]?=some o/\v'=.slice (some ⟨x.1,0,none⟩) (Go.Proofs.YtejnpppejalhfacGreat.bR l).length (cap + x.2)/\Asr.holds w (.row e 1 (.slice (some ⟨x.1,0,none⟩) (Go.Proofs.YtejnpppejalhfacGreat.bR l).length (cap + x.2)) (Go.Proofs.YtejnpppejalhfacGreat.bR l))/\(ub=false->x.2=0):=by
 unfold b3Q at h
 split at h
 ·rename_i ht
  split at h
  ·rename_i hi;obtain ⟨h1,h2⟩:=l5 h;obtain ⟨l',hl,he⟩:=xn2.1 h2
   cases he
   obtain rfl:=a7d hl;simp only [xb1] at h1;obtain ⟨h1,h3,h4⟩:=h1;obtain rfl:=xb8 h1;obtain rfl:=xb8 h3;obtain rfl:=xb8 h4;obtain ⟨x,hx,rfl⟩:=VR.sl hv;obtain ⟨x',o,g1,g2,g3,_⟩:=hI.held _ _ hi;rw [hx] at g1;cases g1;obtain ⟨rs,hR,hh,hu⟩:=g3.row g2;obtain rfl:=hR.bR;exact ⟨x,o,hx,ht,hi,g2,rfl,hh,hu⟩
  ·cases h
 ·cases h
theorem b6C (hT:TOk P T) {t t':TypeId} {y z:Operand} {s u:Value} {r:Option Value×SH×Nat} (hy:sEv E y=some s) (hz:sEv E z=some u) (h:b2Z T H n t s u=some r):Snd P (.call { callee:=.builtin .copy,args:=#[y,z],argTypes:=#[t,t'] }) E H n r:=by
 obtain ⟨Tb,hTb,hget⟩:=hT.tabs [t];unfold b2Z at h
 split at h
 ·rename_i i e cap old ub l hb
  cases h
  have hi:o3 H i=some (.row e 1 (Go.Proofs.YtejnpppejalhfacGreat.bR old) cap ub):=by
   unfold b3Q at hb
   split at hb
   ·split at hb
    ·rename_i hi;obtain ⟨h1,h2⟩:=l5 hb;obtain ⟨l',hl,he⟩:=xn2.1 h2
     cases he
     obtain rfl:=a7d hl;simp only [xb1] at h1;rw [xb8 h1.1];exact hi
    ·cases hb
   ·cases hb
  refine Snd.of_upd hi fun {w0 w ρ N ds a x ob} ha hI hx hob hf dst ty pos after=>?_;obtain ⟨v1,hv1,gy⟩:=ha.ev hy;obtain ⟨v2,hv2,gz⟩:=ha.ev hz;rw [VR.str hv2] at gz;obtain ⟨x',o,g1,ht,_,g2,rfl,hh,hu⟩:=b5r hT hI hb hv1;rw [hx] at g1;cases g1;rw [a3M] at gy hh;intro b hB K Q kk;refine b4W (St.self hh) hTb (hget t _ (by simp) ht) gy (i:=0) rfl gz b hB K Q fun u' w' ⟨e1,hS⟩=>kk u' w' ⟨by rw [e1];exact VR.cOk rfl,hS.grown1 rfl,?_⟩;refine Fits.of_row (hS.at_ (i:=0) rfl) (RR.ofbR _) rfl hu
 ·cases h
theorem b7t (hT:TOk P T) {t t':TypeId} {y:Operand} {r:Option Value×SH×Nat} (h:b6e T E H n t t' y=some r):Snd P (.convert t t' y) E H n r:=by
 unfold b6e at h
 split at h
 ·rename_i v ht hy
  split at h
  ·rename_i i e cap l ub hb
   split at h
   ·rename_i he;obtain ⟨h1,h2⟩:=l5 h
    cases h2
    have h1:0 < l.length:=by simpa [xc0] using h1
    refine Snd.of_gets fun {w0 w ρ N ds a} ha hI=>?_;obtain ⟨Tb,hTb,hget⟩:=hT.tabs [t,t',e];obtain ⟨v1,hv1,gy⟩:=ha.ev hy;obtain ⟨x,o,g1,ht1,_,g2,rfl,hh,hu⟩:=b5r hT hI hb hv1;exact ⟨_,VR.cOk rfl,fun _ _ _ _=>b4T (St.self hh) hTb (hget t _ (by simp) ht1) (hget e _ (by simp) he) (hget t' _ (by simp) ht) gy (i:=0) rfl h1⟩
   ·cases h
  ·cases h
 ·cases h
theorem b4o (hT:TOk P T) {t:TypeId} {y:Operand} {l:List UInt8} (hy:sEv E y=some (.string ⟨⟨l⟩⟩)) (ht:∃ s z,T.get t=some (.sc .string s z)):Snd P (.range t y) E H n (some (.pointer (some ⟨n,0,none⟩)),a15 H n (.siter l 0),n + 1) :=
 Snd.of_new fun {w0 w ρ N ds a} ha hI dst ty pos after=>by
  obtain ⟨s,z,ht⟩:=ht;obtain ⟨Tb,hTb,hget⟩:=hT.tabs [t];obtain ⟨v,hv,gy⟩:=ha.ev hy;rw [VR.str hv] at gy;intro b hB K Q kk;refine b5p (St.start _) hTb (hget t _ (by simp) ht) gy b hB K Q fun u' w' ⟨g,e,hS⟩=>kk u' w' ⟨(g,0),fun τ _ hτ=>by rw [e];exact VR.mkPtr hτ,hS.drop.grown0,b24 hS rfl,_,(hS.at_ (i:=0) rfl).1,fun _ _ _=>rfl⟩
theorem b59 {y:Operand} {r:Option Value×SH×Nat} (h:b2g E H n y=some r):Snd P (.next y true) E H n r:=by
 unfold b2g at h
 split at h
 ·rename_i i hy
  split at h
  ·rename_i l k hi;rw [a0v] at h
   split at h
   ·rename_i b hb;obtain ⟨h1,h2⟩:=l5 h
    cases h2
    have h1:b.toNat < 128:=by simpa [xc0] using h1
    have hd:=a94 hb h1;have hlt:=f7 hb;refine Snd.of_upd hi fun {w0 w ρ N ds a x ob} ha hI hx hob hf dst ty pos after=>?_;obtain ⟨v,hv,gy⟩:=ha.ev hy;obtain ⟨x',hx',rfl⟩:=VR.ptr hv;rw [hx] at hx';cases hx';have hh:Asr.holds w (.obj x.1 (.stringIter ⟨l.toArray⟩ k)):=⟨by rw [hob,show ob=_ from hf],rfl⟩;intro c hB K Q kk;refine b3g (St.self hh) gy (i:=0) rfl c hB K Q fun u' w' hP=>kk u' w' ?_;rcases hP with ⟨_,e1,hS⟩|⟨h3,_⟩
    ·rw [hd] at e1 hS;refine ⟨by rw [e1];exact VR.mkTup (LR.cOks rfl),hS.grown1 rfl,_,(hS.at_ (i:=0) rfl).1,rfl⟩
    ·omega
   ·rename_i hb
    cases h
    have hge:l.length<=k:=by simpa using hb
    refine Snd.of_gets fun {w0 w ρ N ds a} ha hI=>?_;obtain ⟨v,hv,gy⟩:=ha.ev hy;obtain ⟨x,hx,rfl⟩:=VR.ptr hv;obtain ⟨x',ob,g1,g2,g3,_⟩:=hI.held _ _ hi;rw [hx] at g1;cases g1;have hh:Asr.holds w (.obj x.1 (.stringIter ⟨l.toArray⟩ k)):=⟨by rw [g2,show ob=_ from g3],rfl⟩;refine ⟨_,VR.mkTup (LR.cOks rfl),fun dst ty pos after c hB K Q kk=>?_⟩;refine b3g (St.self hh) gy (i:=0) rfl c hB K Q fun u' w' hP=>kk u' w' ?_;rcases hP with ⟨h3,_⟩|⟨_,e1,e2⟩
    ·omega
    ·exact ⟨e1,e2⟩
  ·cases h
 ·cases h
end
section
variable {P:Program} {T:TT} {q:EqT} {w0 w w':World} {ρ σ:Ren} {N:Nat} {ds:List Deferred} {a:Act} {E:Fr} {H:SH} {n:Nat} {x:Nat×Nat} {i:Nat}
theorem b3V {Tb:Tab} (hTb:TabOk P Tb) {t e sz eb:Nat} {ag:Bool} {z:List Value} (ht:Tb.get t=some (.sl e sz eb ag z)) (p p2:Option Addr) (m c c2:Nat) (hm:m<=c) (ty:TypeId) (w:World):(Builtin.append_ #[t,t] ty #[.slice p m c,.slice p2 0 c2]).run P w=.ok (.slice p m c) w:=by
 obtain ⟨ji,zv,hu,hinfo,_,hs,_⟩:=hTb.sl ht
 cases p2 <;> cases p <;> simp [Builtin.append_,run_underlying hu,sizeOf,typeInfo,hinfo,Builtin.lenOf,Builtin.firstCells,hm,loadCells,loadCellsFrom,storeCells]
theorem RoAt.take {G:Nat->Prop} {b off sz:Nat} {rows:List (List Value)} (h:RoAt G w b off sz rows) (k:Nat):RoAt G w b off sz (rows.take k) :=
 ⟨h.lt,h.nf,fun r hr=>h.len r (xf2 hr),fun r hr=>h.one r (xf2 hr),fun j r hj=>by
  rw [xe9] at hj
  split at hj
  ·exact h.cells j r hj
  ·cases hj⟩
theorem a9T (hI:Inv P w0 ρ H w) {sz m c:Nat} {p:Option Addr} {news:List (List Value)} {u':Value} (h:a3y H sz (.slice p m c)=some news) (hu:VR ρ (.slice p m c) u') (hne:news≠[]):∃ b o c' ns,u'=.slice (some ⟨b,o,none⟩) ns.length c'/\RR ρ news ns/\RoAt nF w b o sz ns:=by
 rcases p with _|⟨i,o,sp⟩
 ·cases m with
  |zero=>cases h;exact (hne rfl).elim
  |succ m=>cases h
 rcases sp with _|sp
 ·cases m with
  |zero=>cases h;exact (hne rfl).elim
  |succ m=>
  rw [show a3y H sz (.slice (some ⟨i,o,none⟩) (m + 1) c)=(match o3 H i with
   |some (.row _ sz' rows _ _)=>ifB (Nat.beq sz sz' && (Nat.beq (o % sz) 0 && Nat.ble (o / sz + (m + 1)) rows.length)) (some ((rows.drop (o / sz)).take (m + 1))) none
   |_=>none) from rfl] at h
  generalize m + 1=m at h hu
  split at h
  ·rename_i e' sz' rows cap ub hi;obtain ⟨h1,h2⟩:=l5 h
   cases h2
   simp only [xb1] at h1;obtain ⟨h1,h2,h3⟩:=h1;obtain rfl:=xb8 h1;have h2:=xb8 h2;have h3:=xf6 h3;obtain ⟨x,hx,rfl⟩:=VR.sl hu;obtain ⟨x',ob,g1,g2,g3,_⟩:=hI.held _ _ hi;rw [hx] at g1;cases g1;obtain ⟨rs,hR,hh,_⟩:=g3.row g2;have hro:=(((St.self hh).rowRo 0 rfl).drop (o / sz)).take m;rw [xa8] at hro;have ho:o / sz * sz=o:=by
    have:=xg9 o sz;rw [h2,xf7,xg8] at this;exact this
   rw [ho] at hro;refine ⟨x.1,o,c + x.2,(rs.drop (o / sz)).take m,?_,(hR.drop _).take _,hro⟩;have:((rs.drop (o / sz)).take m).length=m:=by
    rw [xa1,xb4,hR.1];omega
   rw [this]
  ·cases h
 ·cases m with
  |zero=>cases h;exact (hne rfl).elim
  |succ m=>cases h
theorem a8U {e sz g cap m:Nat} {rows rs:List (List Value)} (hh:Asr.holds w (.row e sz (.slice (some ⟨g,0,none⟩) m cap) rs)) (hR:RR ρ rows rs) (hm:m=rows.length):m<=cap/\∃ o,w.heap[g]?=some o/\∀ τ:Ren,Rle ρ τ->Fits P τ (cap - m) (.row e sz rows m true) o:=by
 have hle:m<=cap:=by
  rcases hh.1.2 with ⟨e1,_⟩|⟨g',c',cur,e1,_,_,h,_⟩
  ·cases e1
  ·cases e1;exact h
 have key:=fun (τ:Ren) (hτ:Rle ρ τ)=>Fits.of_row (P:=P) (cap:=m) (y:=cap - m) (u:=true) hh (hR.mono hτ) (by omega) (fun h=>by cases h);obtain ⟨o,ho,_⟩:=key ρ (Rle.refl ρ);refine ⟨hle,o,ho,fun τ hτ=>?_⟩;obtain ⟨o',ho',hf⟩:=key τ hτ;rw [ho] at ho'
 cases ho'
 exact hf
theorem b4C (hT:TOk P T) {t e sz eb:Nat} {ag:Bool} {zz:List Value} {y z:Operand} {u:Value} {news:List (List Value)} (ht:T.get t=some (.sl e sz eb ag zz)) (hy:sEv E y=some (.slice none 0 0)) (hz:sEv E z=some u) (hu:∃ p m c,u=.slice p m c) (hr:a3y H sz u=some news) (hne:news≠[]) (hbig:news.length * (eb + 1)<=1000000):Snd P (.call { callee:=.builtin .append,args:=#[y,z],argTypes:=#[t,t] }) E H n (some (.slice (some ⟨n,0,none⟩) news.length news.length),a15 H n (.row e sz news news.length true),n + 1) :=
 Snd.of_new fun {w0 w ρ N ds a} ha hI dst ty pos after=>by
  obtain ⟨Tb,hTb,hget⟩:=hT.tabs [t];obtain ⟨p,m,c,rfl⟩:=hu;obtain ⟨v1,hv1,gy⟩:=ha.ev hy;rw [VR.sl0 hv1] at gy;obtain ⟨v2,hv2,gz⟩:=ha.ev hz;obtain ⟨b,o,c',ns,rfl,hR,hro⟩:=a9T hI hr hv2 hne;have hl:ns.length=news.length:=hR.1;intro bb hB K Q kk;refine a0D ((St.start w).addNil e sz) hTb (hget t _ (by simp) ht) gy (i:=0) rfl gz hro rfl (by rw [xa2,xa8,hl];omega) bb hB K Q fun u' w' ⟨p',cap',e1,hS⟩=>kk u' w' ?_;simp only [List.set,xa2,xa8,List.nil_append] at hS e1;have hpos:0 < ns.length:=by rw [hl];exact xa3.2 hne
  obtain ⟨g,rfl⟩:=hS.rowSome 0 rfl hpos;obtain ⟨hle,ob,hob,hf⟩:=a8U (P:=P) (hS.at_ (i:=0) rfl) hR hl;refine ⟨(g,cap' - ns.length),fun τ _ hτ=>?_,hS.drop.grown0,b24 hS rfl,ob,hob,fun τ hτ _=>?_⟩
  ·rw [e1,hl];have:=VR.mkSl (o:=0) (n:=news.length) (c:=news.length) hτ;rw [show news.length + (g,cap' - ns.length).2=cap' from by simp;omega] at this;exact this
  ·rw [<- hl];exact hf τ hτ
theorem Snd.of_move {op:Op} {s:SA} {e sz:Nat} {rows:List (List Value)} (hi:o3 H i=some s) (h:∀ {w0 w:World} {ρ:Ren} {N:Nat} {ds:List Deferred} {a:Act} {x:Nat×Nat} {o:Obj},HasR ρ N ds a E->Inv P w0 ρ H w->ρ i=some x->w.heap[x.1]?=some o->Fits P ρ x.2 s o->∀ dst ty pos after,Gets P ⟨dst,op,ty,pos,after,none⟩ N ds (a1P a) w (fun u w'=>∃ y:Nat×Nat,(∀ τ:Ren,Rle ρ τ->τ n=some y->VR τ (.slice (some ⟨n,0,none⟩) rows.length rows.length) u)/\w.grownBy w' (some x.1)/\(y.1=x.1\/w.heap.size<=y.1)/\∃ o,w'.heap[y.1]?=some o/\∀ τ:Ren,Rle ρ τ->τ n=some y->Fits P τ y.2 (.row e sz rows rows.length true) o)):Snd P op E H n (some (.slice (some ⟨n,0,none⟩) rows.length rows.length),a15 (a0R H i) n (.row e sz rows rows.length true),n + 1) :=
 ⟨Nat.le_succ _,fun {w0 w ρ N ds a hi'} ha hI hF hn dst ty pos after K Q k=>by
  have hfr:ρ n=none:=hF n (xd2 _) hn;obtain ⟨x,o,h1,h2,h3,_⟩:=hI.held i s hi;refine h ha hI h1 h2 h3 dst ty pos after _ ha.full K Q fun u w' ⟨y,hv,hg,hb,o',ho,hf⟩=>?_;exact k u w' (upR ρ n y) (b0u hfr) (hv _ (a2O hfr) a2H) (hI.move hfr hi h1 hg ho hb (hf _ (a2O hfr) a2H))⟩
theorem b4N (hT:TOk P T) {t e sz eb cap:Nat} {ag ub:Bool} {zz:List Value} {y z:Operand} {u:Value} {rows news:List (List Value)} (ht:T.get t=some (.sl e sz eb ag zz)) (hi:o3 H i=some (.row e sz rows cap ub)) (hy:sEv E y=some (.slice (some ⟨i,0,none⟩) rows.length cap)) (hz:sEv E z=some u) (hu:∃ p m c,u=.slice p m c) (hr:a3y H sz u=some news) (hne:news≠[]) (hbig:(rows.length + news.length) * (eb + 1)<=1000000):Snd P (.call { callee:=.builtin .append,args:=#[y,z],argTypes:=#[t,t] }) E H n (some (.slice (some ⟨n,0,none⟩) (rows++news).length (rows++news).length),a15 (a0R H i) n (.row e sz (rows++news) (rows++news).length true),n + 1) :=
 Snd.of_move hi fun {w0 w ρ N ds a x o} ha hI hx hob hf dst ty pos after=>by
  obtain ⟨Tb,hTb,hget⟩:=hT.tabs [t];obtain ⟨p,m,c,rfl⟩:=hu;obtain ⟨v1,hv1,gy⟩:=ha.ev hy;obtain ⟨x',hx',rfl⟩:=VR.sl hv1;rw [hx] at hx';cases hx';obtain ⟨v2,hv2,gz⟩:=ha.ev hz;obtain ⟨b,o2,c',ns,rfl,hR,hro⟩:=a9T hI hr hv2 hne;obtain ⟨rs,hR0,hh,_⟩:=hf.row hob;have hl:ns.length=news.length:=hR.1;have hl0:rs.length=rows.length:=hR0.1;rw [<- hl0] at gy;intro bb hB K Q kk;refine a0D (St.self hh) hTb (hget t _ (by simp) ht) gy (i:=0) rfl gz hro rfl (by rw [hl,hl0];omega) bb hB K Q fun u' w' ⟨p',cap',e1,hS⟩=>kk u' w' ?_;simp only [List.set] at hS;have hpos:0 < ns.length:=by rw [hl];exact xa3.2 hne
  obtain ⟨g,rfl⟩:=hS.rowSome 0 rfl (by omega);have hlen:rs.length + ns.length=(rows++news).length:=by rw [xe5,hl,hl0]
  rw [hlen] at hS e1;obtain ⟨hle,ob,hob2,hf2⟩:=a8U (P:=P) (hS.at_ (i:=0) rfl) (hR0.app hR) rfl;refine ⟨(g,cap' - (rows++news).length),fun τ _ hτ=>?_,hS.grown1 rfl,?_,ob,hob2,fun τ hτ _=>hf2 τ hτ⟩
  ·rw [e1];have:=VR.mkSl (o:=0) (n:=(rows++news).length) (c:=(rows++news).length) hτ;rw [show (rows++news).length + (g,cap' - (rows++news).length).2=cap' from by simp only;omega] at this;exact this
  ·rcases hS.own _ (xc4) g rfl with h|⟨B,hB',e2⟩
   ·exact xd1 h
   ·rw [xn4.1 hB'] at e2
    cases e2
    exact xd4 rfl
theorem b5N (hT:TOk P T) {t e sz eb cap m c:Nat} {ag ub:Bool} {zz:List Value} {y z:Operand} {u:Value} {rows news:List (List Value)} (ht:T.get t=some (.sl e sz eb ag zz)) (hi:o3 H i=some (.row e sz rows cap ub)) (hy:sEv E y=some (.slice (some ⟨i,0,none⟩) m c)) (hz:sEv E z=some u) (hu:∃ p m c,u=.slice p m c) (hr:a3y H sz u=some news) (hne:news≠[]) (h1:m + news.length<=rows.length) (h2:m + news.length<=c):Snd P (.call { callee:=.builtin .append,args:=#[y,z],argTypes:=#[t,t] }) E H n (some (.slice (some ⟨i,0,none⟩) (m + news.length) c),a2u H i (.row e sz (a1O rows news m) cap ub),n) :=
 Snd.of_upd hi fun {w0 w ρ N ds a x o} ha hI hx hob hf dst ty pos after=>by
  obtain ⟨Tb,hTb,hget⟩:=hT.tabs [t];obtain ⟨p,m2,c2,rfl⟩:=hu;obtain ⟨v1,hv1,gy⟩:=ha.ev hy;obtain ⟨x',hx',rfl⟩:=VR.sl hv1;rw [hx] at hx';cases hx';obtain ⟨v2,hv2,gz⟩:=ha.ev hz;obtain ⟨b,o2,c',ns,rfl,hR,hro⟩:=a9T hI hr hv2 hne;obtain ⟨rs,hR0,hh,hub⟩:=hf.row hob;have hl:ns.length=news.length:=hR.1;have hl0:rs.length=rows.length:=hR0.1;obtain ⟨ji,zv,hu,hinfo,_,hs,_,_,_,_,hsz,hs0⟩:=hTb.sl (hget t _ (by simp) ht);have hcap:rs.length<=cap + x.2:=by
   rcases hh.1.2 with ⟨e1,_⟩|⟨g',c',cur,e1,_,_,h,_⟩
   ·cases e1
   ·cases e1;exact h
  obtain ⟨w',hst,hg,hh2⟩:=a5y (P:=P) (k:=m) hh (by omega) (by omega) hro.len hro.one;have hll:(loadCells ⟨b,o2,none⟩ (ns.length * sz)).run P w=.ok ns.flatten.toArray w:=by
   have:=run_loadCells_list (P:=P) w ⟨b,o2,none⟩ ns.flatten (fun j u hj=>by
    have hjl:j < ns.length * sz:=by rw [<- o9 hro.len];exact f7 hj
    have hdiv:j / sz < ns.length:=xg7 (by rw [xg8];exact hjl);have hmod:=Nat.mod_lt j (xg2 hs0);have h3:=a3p hro.len (i:=j / sz) (j:=j % sz) (xd8 hdiv) hmod;rw [show j / sz * sz + j % sz=j from by rw [xg8];exact xg9 j sz] at h3;rw [h3] at hj;have:=hro.cells (j / sz) _ (xd8 hdiv) (j % sz) u hj;rw [Addr.add_mid]
    rwa [xf1,show j / sz * sz + j % sz=j from by rw [xg8];exact xg9 j sz] at this)
   rwa [o9 hro.len] at this
  have hadd:(⟨x.1,0,none⟩:Addr).add (m * sz)=⟨x.1,m * sz,none⟩:=by rw [a5P,xa8]
  have hrun:(Builtin.append_ #[t,t] ty #[.slice (some ⟨x.1,0,none⟩) m (c + x.2),.slice (some ⟨b,o2,none⟩) ns.length c']).run P w=.ok (.slice (some ⟨x.1,0,none⟩) (m + ns.length) (c + x.2)) w':=by
   simp [Builtin.append_,run_underlying hu,Builtin.lenOf,Builtin.firstCells,sizeOf,typeInfo,hinfo,hs,show m + ns.length<=c + x.2 by omega,hll,hadd,hst]
  intro bb hB K Q kk;have hex:(execOp bb.eval ⟨dst,.call { callee:=.builtin .append,args:=#[y,z],argTypes:=#[t,t] },ty,pos,after,none⟩).run P w=.ok (.value (.slice (some ⟨x.1,0,none⟩) (m + ns.length) (c + x.2))) w':=by
   simp [execOp,resolve,invoke,builtin,hB.ev gy,hB.ev gz,hrun,Result.andThen]
  unfold Oper.wp;rw [hex];refine kk _ w' ⟨?_,hg,Fits.of_row hh2 ?_ rfl hub⟩
  ·rw [hl];exact VR.mkSl hx
  ·unfold a1O;rw [hl];exact (hR0.take m).app (hR.app (hR0.drop _))
end
end Go.Proofs.YtejnpppejalhfacGreat
