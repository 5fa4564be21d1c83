/- Texts that the proof stands on, one behind the other: PlRun7, PlRun8, PlRun9, Ke38, Sc25, Sc26, Ke13, Ke14. -/
import Derived.Laws.CopyRow
import Derived.Laws.Slices
import Derived.Lib.AppendZerosOnto
import Derived.Lib.Overlaps
import Derived.Laws.Externs
import Derived.Test.YtejnpppejalhfabGreatPRestKernels9
set_option linter.unusedVariables false
set_option linter.unusedSimpArgs false
namespace Go.Proofs.YtejnpppejalhfabGreat
set_option maxRecDepth 100000
set_option maxHeartbeats 8000000
open Go.RowKit Go.Sort
structure At (K:Ker) (sp:Nat) (page:Int):Prop where
 live:(a0E K sp).live=true
 ar:(q8 (n8 K sp) page).isSome=true
theorem At.sc {K:Ker} {sp:Nat} {page:Int} (h:At K sp page):∃ s,K.spaces[sp]?=some s/\s.live=true/\(q8 s.areas page).isSome=true:=by
 have h1:=h.live;have h2:=h.ar;unfold n8 at h2
 cases hs:K.spaces[sp]? with
 |none=>rw [a5q hs] at h1;cases h1
 |some s=>rw [a1o hs] at h1 h2;exact ⟨s,rfl,h1,h2⟩
theorem At.same {K K':Ker} {sp:Nat} {page:Int} (h:At K sp page) (h1:∀ i,n8 K' i=n8 K i) (h2:∀ i,(a0E K' i).live=(a0E K i).live):At K' sp page:=⟨(h2 sp).trans h.live,by rw [h1];exact h.ar⟩
theorem b41 {l:List Sh} (h:a0C 0 l=true) {p:Int} {s:Sh} (hs:a7t l p=some s):(a5A s).length=16:=by
 exact b2l ((a2l h).1 s (xi1 hs)).1
theorem a6u {K:Ker} (h:Right K) {sp:Nat} {page:Int} (ha:At K sp page):∃ d,a0I K.sheets (zAt K sp page) page=some d/\d.length=16/\a1v K sp page=d:=by
 obtain ⟨s,hs,hl,hf⟩:=ha.sc;have hsc:=a1b.1 (h.spaces s (xd0 hs));obtain ⟨a,haa⟩:=xi2.1 hf;have hz:zAt K sp page=a.z:=by unfold zAt n8;rw [a1o hs,haa];rfl
 have hm:=xi1 haa;have hh:=xi3 haa;unfold a0g Ar.fin at hh;rw [xb3] at hh;have hp:=hsc.pages;unfold a1L at hp;have h3:=xc7.1 (xc7.1 hp a hm) (page - a.pg).toNat (by rw [xi4];omega);rw [show a.pg + (((page - a.pg).toNat:Nat):Int)=page by omega] at h3;obtain ⟨d,hd⟩:=xi2.1 h3;refine ⟨d,by rw [hz];exact hd,?_,by unfold a1v;rw [hz,hd];rfl⟩;unfold a0I at hd
 cases hza:a.z with
 |true=>rw [hza,xf0 rfl] at hd;cases hd;simp
 |false=>
  rw [hza,xf1 (by simp)] at hd;obtain ⟨x,hx,rfl⟩:=xi5.1 hd;exact b41 h.rise hx
theorem a4K {K:Ker} (h:Right K) {sp:Nat} {p:Int} {e:En} (he:l9 (j9 K sp) p=some e) :
  e.page=p/\((e.kind=1/\∃ i:Nat,e.at_=(i:Nat)/\i < K.frames.length/\(m6 K.frames i).refs≠0/\(m6 K.frames i).data.length=16)\/(e.kind=2/\∃ i:Nat,e.at_=(i:Nat)/\i < K.slots.length/\(a0J K.slots i).refs≠0/\(a0J K.slots i).data.length=16))/\∃ s,K.spaces[sp]?=some s/\e ∈ s.entries:=by
 obtain ⟨h1,h2⟩:=a0a he
 cases hs:K.spaces[sp]? with
 |none=>unfold j9 at h1;rw [a5q hs] at h1;cases h1
 |some s=>
  have h3:e ∈ s.entries:=by unfold j9 at h1;rwa [a1o hs] at h1
  have hn:=a3d hs h3;refine ⟨h2,?_,s,rfl,h3⟩;rcases (h.ent hs h3).2 with ⟨a,i,b,c⟩|⟨a,i,b,c⟩
  ·have ho:=h.fr i _ (xe1 c);rw [a,b] at hn;refine xd6 ⟨a,i,b,c,?_,?_⟩
   ·rw [p9 (xe1 c),ho.refs];intro e0;have:j6 K.spaces 1 (i:Nat)=[]:=xf3 (by omega);rw [this] at hn
    cases hn
   ·rw [p9 (xe1 c)];exact ho.len (fun e0=>by rw [e0] at hn;cases hn)
  ·have ho:=h.sl i _ (xe1 c);rw [a,b] at hn;refine xd3 ⟨a,i,b,c,?_,?_⟩
   ·rw [a1J (xe1 c),ho.refs];intro e0;have:j6 K.spaces 2 (i:Nat)=[]:=xf3 (by omega);rw [this] at hn
    cases hn
   ·rw [a1J (xe1 c)];exact ho.len (fun e0=>by rw [e0] at hn;cases hn)
theorem a67 {K:Ker} (h:Right K) {sp sp':Nat} {p q:Int} {i:Nat} (h1:l9 (j9 K sp) p=some ⟨p,1,(i:Nat)⟩) (h2:l9 (j9 K sp') q=some ⟨q,1,(i:Nat)⟩):p=q:=by
 obtain ⟨-,h3,s,hs,hm⟩:=a4K h h1;obtain ⟨-,-,s',hs',hm'⟩:=a4K h h2;have n1:=a3d hs hm;have n2:=a3d hs' hm';dsimp only at n1 n2;rcases h3 with ⟨-,j,hj,hjl,-⟩|⟨hk,-⟩
 ·obtain rfl:i=j:=by have:((i:Nat):Int)=(j:Nat):=hj;omega
  have ho:=h.fr i _ (xe1 hjl);exact (ho.same _ n2 _ n1).1
 ·cases hk
structure b3j (K:Ker) (sp:Nat) (page:Int) (held:List Nat) (r:Ker×Nat):Prop where
 right:Right r.1
 same:SameP K r.1
 lt:r.2 < K.frames.length
 ent:l9 (j9 r.1 sp) page=some ⟨page,1,(r.2:Nat)⟩
 kept:∀ i ∈ held,∀ p,p≠page->l9 (j9 K sp) p=some ⟨p,1,(i:Nat)⟩->l9 (j9 r.1 sp) p=some ⟨p,1,(i:Nat)⟩/\m6 r.1.frames i=m6 K.frames i
theorem InOk.same {K K' K2:Ker} {sp:Nat} {page:Int} {f:Nat} {data:List UInt8} {dirty:Bool} (h:InOk K' K2 sp page f data dirty) (h0:SameP K K') (hp:data=a2o K sp page):SameP K K2:=by
 refine ⟨h.sheets.trans h0.sheets,h.nfr.trans h0.nfr,h.nsl.trans h0.nsl,h.nsp.trans h0.nsp,fun i=>(h.ar i).trans (h0.ar i),fun i=>(h.live i).trans (h0.live i),fun i p=>?_⟩;by_cases e:i=sp/\p=page
 ·obtain ⟨rfl,rfl⟩:=e;rw [h.here,hp]
 ·rw [h.peek i p e,h0.peek]
theorem b0b {K:Ker} (h:Right K) {sp:Nat} {page:Int} (ha:At K sp page) {held more:List Nat} (hl:(held++more).length<=2) {data:List UInt8} {dirty:Bool} (hd:data.length=16) (hfill:dirty=true\/some data=a0I K.sheets (zAt K sp page) page) (hp:data=a2o K sp page)
  (hne:∀ i ∈ held,l9 (j9 K sp) page≠some ⟨page,1,(i:Nat)⟩) (hwas:∀ e,l9 (j9 K sp) page=some e->e.kind=1->∃ i ∈ more,e.at_=((i:Nat):Int)) :
  b3j K sp page held (inK (a0d K (held++more)).1 sp page (a0d K (held++more)).2 data dirty,(a0d K (held++more)).2)/\m6 (inK (a0d K (held++more)).1 sp page (a0d K (held++more)).2 data dirty).frames (a0d K (held++more)).2=⟨data,1,dirty,false⟩:=by
 have g:=a3Y h hl;generalize a0d K (held++more)=G at g |-;have ha':=ha.same g.same.ar g.same.live;obtain ⟨s',hs',hl',hf'⟩:=ha'.sc;have hz:zAt G.1 sp page=zAt K sp page:=by unfold zAt;rw [g.same.ar]
 have hent:l9 (j9 G.1 sp) page=l9 (j9 K sp) page:=by
  cases he:l9 (j9 K sp) page with
  |none=>exact g.none_ sp page he
  |some e=>
   refine g.some_ sp page e he ?_;by_cases hk:e.kind=1
   ·obtain ⟨i,hi,hia⟩:=hwas e he hk;obtain ⟨-,hn,-⟩:=a4K h he;rcases hn with ⟨-,j,hj,-,hr,-⟩|⟨hk2,-⟩
    ·obtain rfl:i=j:=by omega
     exact xd3 ⟨i,xe6 _ hi,hia,hr⟩
    ·omega
   ·exact xd6 hk
 have hin:=b62 (data:=data) (dirty:=dirty) g.right hs' hl' hf' (by rw [g.same.nfr];exact g.lt) g.nobody hd (by rw [g.same.sheets,hz];exact hfill);refine ⟨⟨hin.right,hin.same g.same hp,g.lt,?_,fun i hi p hpp he=>?_⟩,hin.fm⟩
 ·rw [hin.ent,xf0 ⟨rfl,rfl⟩]
 ·obtain ⟨-,hn,-⟩:=a4K h he;have hr:(m6 K.frames i).refs≠0:=by
   rcases hn with ⟨-,j,hj,-,hr,-⟩|⟨hk2,-⟩
   ·obtain rfl:i=j:=by have:((i:Nat):Int)=(j:Nat):=hj;omega
    exact hr
   ·cases hk2
  have hk:=g.kept i (xe5 _ hi) hr;constructor
  ·rw [hin.ent,xf1 (fun hh=>hpp hh.2)];exact g.some_ sp p _ he (xd3 ⟨i,xe5 _ hi,rfl,hr⟩)
  ·rw [hin.other i (Ne.symm hk.1) (fun w0 hw ⟨k1,k2⟩=>?_)]
   ·exact hk.2
   ·rw [hent] at hw;have hpg:=(a0a hw).2;refine hne i hi ?_;rw [hw]
    cases w0
    dsimp only at k1 k2 hpg;subst k1 k2 hpg;rfl
theorem a5r {K:Ker} (h:Right K) {sp:Nat} {page:Int} (ha:At K sp page) {held:List Nat} (hl:held.length<=1) (hh:∀ i ∈ held,∃ p,p≠page/\l9 (j9 K sp) p=some ⟨p,1,(i:Nat)⟩):b3j K sp page held (a1Q K sp page held):=by
 have hne:∀ i ∈ held,l9 (j9 K sp) page≠some ⟨page,1,(i:Nat)⟩:=fun i hi he=>by
  obtain ⟨p,hp,hp2⟩:=hh i hi;exact hp (a67 h hp2 he)
 have hap:=List.append_nil held;unfold a1Q
 cases he:l9 (j9 K sp) page with
 |none=>
  obtain ⟨d,d1,d2,d3⟩:=a6u h ha;have:=(b0b h ha (held:=held) (more:=[]) (by rw [hap];omega) (data:=d) (dirty:=false) d2 (xd3 d1.symm) (by unfold a2o;rw [he];exact d3.symm) hne (fun e hee=>by rw [he] at hee;cases hee)).1;rw [hap] at this;show b3j _ _ _ _ (inK (a0d K held).1 sp page (a0d K held).2 (a1v K sp page) false,(a0d K held).2);rw [d3];exact this
 |some e=>
  obtain ⟨hpg,hn,-⟩:=a4K h he;dsimp only;by_cases hk:e.kind=2
  ·rw [xf0 hk];rcases hn with ⟨hk1,-⟩|⟨-,i,hi,hil,hir,hid⟩
   ·omega
   have:=(b0b h ha (held:=held) (more:=[]) (by rw [hap];omega) (data:=(a0J K.slots e.at_.toNat).data) (dirty:=true) (by rw [hi];exact hid) (xd6 rfl) (by unfold a2o;rw [he];show _=a0y K e;unfold a0y;rw [xf1 (by omega)]) hne (fun x hx hk1=>by rw [he] at hx;cases hx;omega)).1;rw [hap] at this;exact this
  ·rw [xf1 hk];rcases hn with ⟨hk1,i,hi,hil,hir,hid⟩|⟨hk2,-⟩
   ·refine ⟨h,SameP.refl K,by show e.at_.toNat < _;omega,?_,fun i hi p hp hpp=>⟨hpp,rfl⟩⟩;show l9 (j9 K sp) page=_;rw [he]
    cases e
    dsimp only at hk1 hi hpg |-;subst hk1 hi hpg;rfl
   ·omega
theorem a4k {K:Ker} (h:Right K) {sp:Nat} {page:Int} (ha:At K sp page) (write:Bool) {held:List Nat} (hl:held.length<=1) (hh:∀ i ∈ held,∃ p,p≠page/\l9 (j9 K sp) p=some ⟨p,1,(i:Nat)⟩) :
  b3j K sp page held (a1p K sp page write held)/\(write=true->(m6 (a1p K sp page write held).1.frames (a1p K sp page write held).2).refs<=1):=by
 have hA:=a5r h ha hl hh;unfold a1p;generalize a1Q K sp page held=A at hA |-;unfold a3E;by_cases hw:write=true/\1 < (m6 A.1.frames A.2).refs;rotate_left
 ·rw [xf1 hw];exact ⟨hA,fun h1=>by
   have:¬ 1 < (m6 A.1.frames A.2).refs:=fun h2=>hw ⟨h1,h2⟩;show (m6 A.1.frames A.2).refs<=1;omega⟩
 rw [xf0 hw];have haA:=ha.same hA.same.ar hA.same.live;obtain ⟨-,hn,-⟩:=a4K hA.right hA.ent;have hlen:(m6 A.1.frames A.2).data.length=16:=by
  rcases hn with ⟨-,j,hj,-,-,hd⟩|⟨hk2,-⟩
  ·obtain rfl:A.2=j:=by have:((A.2:Nat):Int)=(j:Nat):=hj;omega
   exact hd
  ·cases hk2
 have hL:=b0b hA.right haA (held:=held) (more:=[A.2]) (by rw [xe9,xi6];omega) (data:=(m6 A.1.frames A.2).data) (dirty:=true) hlen (xd6 rfl) (by unfold a2o;rw [hA.ent];show _=a0y A.1 ⟨page,1,(A.2:Nat)⟩;unfold a0y;rw [xf0 rfl];rfl)
  (fun i hi he=>by
   obtain ⟨p,hp,hp2⟩:=hh i hi;exact hp (a67 hA.right (hA.kept i hi p hp hp2).1 he)) (fun e hee hk=>by rw [hA.ent] at hee;cases hee;exact ⟨A.2,by simp,rfl⟩)
 obtain ⟨b,hfm⟩:=hL;refine ⟨⟨b.right,hA.same.trans b.same,by have:=b.lt;rw [hA.same.nfr] at this;exact this,b.ent,fun i hi p hp he=>?_⟩,fun _=>?_⟩
 ·have h1:=hA.kept i hi p hp he;have h2:=b.kept i hi p hp h1.1;exact ⟨h2.1,h2.2.trans h1.2⟩
 ·show (m6 (inK _ sp page _ _ true).frames _).refs<=1;rw [hfm];exact xi7 _
theorem b3S {K:Ker} (h:Right K) {f:Nat} (hf:f < K.frames.length) (hr:(m6 K.frames f).refs≠0) (write:Bool):Right (a1O K f write)/\SameP K (a1O K f write)/\(∀ i,i≠f->m6 (a1O K f write).frames i=m6 K.frames i)/\m6 (a1O K f write).frames f=⟨(m6 K.frames f).data,(m6 K.frames f).refs,(m6 K.frames f).dirty||write,true⟩:=by
 have a02:∀ j,m6 (a1O K f write).frames j=if j=f then ⟨(m6 K.frames f).data,(m6 K.frames f).refs,(m6 K.frames f).dirty||write,true⟩ else m6 K.frames j:=fun j=>by
  unfold a1O a0j;dsimp only;rw [a2S];by_cases e:f=j
  ·subst e;rw [xf0 ⟨rfl,hf⟩,xf0 rfl]
  ·rw [xf1 (fun hh=>e hh.1),xf1 (fun hh=>e hh.symm)]
 have hlen:(a1O K f write).frames.length=K.frames.length:=by unfold a1O a0j;simp
 have hsame:∀ i,(m6 (a1O K f write).frames i).data=(m6 K.frames i).data:=fun i=>by
  rw [a02];by_cases e:i=f
  ·subst e;rw [xf0 rfl]
  ·rw [xf1 e]
 have hc:=h.cnt;have hh:=h.hand;have hsp:=h.spaces;refine ⟨⟨by rw [hlen];exact hc,h.rise,by rw [hlen];exact hh,fun s hs=>by rw [hlen];exact hsp s hs,h.room,fun i g hg=>?_,h.sl⟩,⟨rfl,hlen,rfl,rfl,fun _=>rfl,fun _=>rfl,fun sp p=>?_⟩,fun i hi=>by rw [a02,xf1 hi],by rw [a02,xf0 rfl]⟩
 ·have hil:i < K.frames.length:=by have:=d6 hg;omega
  have hgi:=xe1 hil;have hge:=a02 i;rw [p9 hg] at hge;have ho:=h.fr i _ hgi;by_cases e:i=f
  ·subst e;rw [xf0 rfl] at hge;rw [p9 hgi] at hge hr;rw [hge];refine ⟨ho.refs,fun e0=>absurd (by rw [ho.refs];show ((j6 K.spaces 1 (i:Nat)).length:Int)=0;rw [show j6 K.spaces 1 (i:Nat)=[] from e0];rfl) hr,ho.len,ho.same,fun n hn=>?_⟩;rcases ho.data n hn with hd|hd
   ·left;show (_||write)=true;rw [hd];rfl
   ·exact xd3 hd
  ·rw [xf1 e,p9 hgi] at hge;rw [hge];exact ho
 ·unfold a2o;show (match l9 (j9 K sp) p with
   |some e=>a0y (a1O K f write) e
   |none=>a1v K sp p)=_
  cases l9 (j9 K sp) p with
  |none=>rfl
  |some e=>
   show a0y _ e=a0y K e;unfold a0y;rw [hsame];rfl
theorem a3F {K:Ker} (h:Right K) {sp:Nat} {p:Int} {i:Nat} (he:l9 (j9 K sp) p=some ⟨p,1,(i:Nat)⟩):i < K.frames.length/\(m6 K.frames i).refs≠0/\(m6 K.frames i).data.length=16:=by
 obtain ⟨-,hn,-⟩:=a4K h he;rcases hn with ⟨-,j,hj,h1,h2,h3⟩|⟨hk2,-⟩
 ·obtain rfl:i=j:=by have:((i:Nat):Int)=(j:Nat):=hj;omega
  exact ⟨h1,h2,h3⟩
 ·cases hk2
theorem a33 {K:Ker} (h:Right K) {sp:Nat} {page:Int} (ha:At K sp page) (write:Bool) {held:List Nat} (hl:held.length<=1) (hh:∀ i ∈ held,∃ p,p≠page/\l9 (j9 K sp) p=some ⟨p,1,(i:Nat)⟩) :
  b3j K sp page held (a0z K sp page write held)/\(write=true->(m6 (a0z K sp page write held).1.frames (a0z K sp page write held).2).refs=1/\(m6 (a0z K sp page write held).1.frames (a0z K sp page write held).2).dirty=true):=by
 obtain ⟨b,hw⟩:=a4k h ha write hl hh;unfold a0z;generalize a1p K sp page write held=B at b hw |-;obtain ⟨n1,n2,n3⟩:=a3F b.right b.ent;obtain ⟨s1,s2,s3,s4⟩:=b3S b.right n1 n2 write;refine ⟨⟨s1,b.same.trans s2,b.lt,b.ent,fun i hi p hp he=>?_⟩,fun hwr=>?_⟩
 ·have hk:=b.kept i hi p hp he;refine ⟨hk.1,?_⟩;show m6 (a1O B.1 B.2 write).frames i=_;rw [s3 i ?_]
  ·exact hk.2
  ·rintro rfl;exact hp (a67 b.right hk.1 b.ent)
 ·show (m6 (a1O B.1 B.2 write).frames B.2).refs=1/\(m6 (a1O B.1 B.2 write).frames B.2).dirty=true;rw [s4];refine ⟨?_,by show (_||write)=true;rw [hwr,Bool.or_true]⟩;have h1:=hw hwr;have ho:=b.right.fr B.2 _ (xe1 n1);have h2:=ho.refs;rw [p9 (xe1 n1)] at h1 n2 |-;show (B.1.frames[B.2]'n1).refs=1;omega
def b8b (K:Ker) (sp:Nat) (write:Bool) (p:Int):Prop:=∃ f:Nat,l9 (j9 K sp) p=some ⟨p,1,(f:Nat)⟩/\(write=true->(m6 K.frames f).refs=1/\(m6 K.frames f).dirty=true)
theorem b2o {K:Ker} (h:Right K) {sp:Nat} {addr size:Int} (h0:0<=addr) (h1:1<=size) (h2:size<=8) (ha:∀ i,0<=i->i < size->At K sp ((addr + i) / 16)) (write:Bool) :
  Right (a1I K sp addr size write)/\SameP K (a1I K sp addr size write)/\∀ i,0<=i->i < size->b8b (a1I K sp addr size write) sp write ((addr + i) / 16):=by
 have ha1:=ha 0 (by omega) (by omega);rw [Int.add_zero] at ha1;have ha2:=ha (size - 1) (by omega) (by omega);rw [show addr + (size - 1)=addr + size - 1 by omega] at ha2;obtain ⟨b,hb⟩:=a33 h ha1 write (held:=[]) (by simp) (by simp);unfold a1I;generalize a0z K sp (addr / 16) write []=B at b hb |-;by_cases hp:(addr + size - 1) / 16=addr / 16
 ·rw [xf0 hp];refine ⟨b.right,b.same,fun i hi1 hi2=>⟨B.2,?_,hb⟩⟩;rw [show (addr + i) / 16=addr / 16 by omega];exact b.ent
 ·rw [xf1 hp];obtain ⟨c,hc⟩:=a33 b.right (ha2.same b.same.ar b.same.live) write (held:=[B.2]) (by simp) (fun i hi=>by
   rw [xi8] at hi;subst hi;exact ⟨addr / 16,by omega,b.ent⟩)
  generalize a0z B.1 sp ((addr + size - 1) / 16) write [B.2]=C at c hc |-;have hk:=c.kept B.2 (by simp) (addr / 16) (by omega) b.ent;refine ⟨c.right,b.same.trans c.same,fun i hi1 hi2=>?_⟩;by_cases e:(addr + i) / 16=addr / 16
  ·rw [e];exact ⟨B.2,hk.1,fun hw=>by rw [hk.2];exact hb hw⟩
  ·rw [show (addr + i) / 16=(addr + size - 1) / 16 by omega];exact ⟨C.2,c.ent,hc⟩
def a1d (K:Ker) (space:Int):Int:=if a0N K=0 then (if 0<=space/\space < (K.spaces.length:Int)/\(a0E K space.toNat).live=true then 0 else 6) else a0N K
def a0T (K:Ker) (space size way:Int):Int:=if a1d K space=0 then (if size < 1\/8 < size then 3 else if way < 0\/2 < way then 10 else 0) else a1d K space
def a0h (A:List Ar) (way at_:Int):Option (Int×Int):=match q8 A (at_.tdiv 16) with
 |none=>some (1,at_)
 |some a=>if at_ < 0 then some (1,at_) else if (way=1/\¬(a.prot=1\/a.prot=3))\/(way=2/\a.prot < 2) then some (2,at_) else none
def a0l (A:List Ar) (addr size way:Int):Int×Int:=if way=2/\addr.tmod 8≠0 then (3,addr) else ((List.range size.toNat).findSome? fun i=>a0h A way (addr + (i:Nat))).getD (0,0)
theorem a2E {A:List Ar} (hc:l5 A=0) {way at_:Int} (h:a0h A way at_=none):16<=at_/\at_<=4095/\at_.tdiv 16=at_ / 16/\∃ a,q8 A (at_ / 16)=some a:=by
 unfold a0h at h
 cases hf:q8 A (at_.tdiv 16) with
 |none=>rw [hf] at h;cases h
 |some a=>
  rw [hf] at h;dsimp only at h;by_cases h0:at_ < 0
  ·rw [xf0 h0] at h;cases h
  ·have e:at_.tdiv 16=at_ / 16:=xf2 (by omega);rw [e] at hf;have h1:=(a1i hc hf).1;have h2:=(a1i hc hf).2;have h3:=xi3 hf;unfold a0g Ar.fin at h3;rw [xb3] at h3;unfold Ar.ok at h1;exact ⟨by omega,by omega,e,a,hf⟩
theorem a9r {A:List Ar} (hc:l5 A=0) {addr size way:Int} (h:(a0l A addr size way).1=0) (h1:1<=size):a0l A addr size way=(0,0)/\∀ i:Int,0<=i->i < size->a0h A way (addr + i)=none:=by
 unfold a0l at h |-;by_cases hw:way=2/\addr.tmod 8≠0
 ·rw [xf0 hw] at h;cases h
 ·rw [xf1 hw] at h |-
  cases hf:(List.range size.toNat).findSome? fun i=>a0h A way (addr + (i:Nat)) with
  |some p=>
   rw [hf] at h;dsimp only [Option.getD] at h;exfalso;obtain ⟨i,-,hi⟩:=List.exists_of_findSome?_eq_some hf;unfold a0h at hi
   split at hi
   ·cases hi;cases h
   ·split at hi
    ·cases hi;cases h
    ·split at hi
     ·cases hi;cases h
     ·cases hi
  |none=>
   refine ⟨rfl,fun i h1 h2=>?_⟩;rw [List.findSome?_eq_none_iff] at hf;have:=hf i.toNat (xi4.2 (by omega))
   rwa [show ((i.toNat:Nat):Int)=i by omega] at this
theorem b34 {w:World} {k:KV} (hK:KerV w k) (space:Int):Fn Tryz.prog 77 [.agg (kvC k).toArray,.int .i64 space] w (RBf (.int .i64 (a1d k.K space)) w):=by
 have hchk:=fun w1 (h:KerV w1 k)=>a5M h;have hsc:∀ (i:Nat) x,k.sp[i]?=some x->a0E k.K i=x.s:=fun i x hx=>by unfold a0E KV.K;dsimp only;rw [xh6,hx];rfl
 have hKl:k.K.spaces.length=k.sp.length:=xi9 _;have b4:=hK.sp.bound;unfold a1d;rw [hKl];obtain ⟨c,hc⟩:∃ c,c=a0N k.K:=⟨_,rfl⟩;rw [<- hc] at hchk |-;clear hKl hc;generalize k.K=K at hsc |-;obtain ⟨sh,fr,sl,sps,hand,vsh,vfr,vsl,vsp⟩:=k;have hK0:=hK;obtain ⟨k1,k2,k3,k4,k5⟩:=hK;dsimp only at k1 k2 k3 k4 k5;obtain ⟨p1,c1,rfl⟩:=k1.sl.len;obtain ⟨p2,c2,rfl⟩:=k2.len;obtain ⟨p3,c3,rfl⟩:=k3.len;obtain ⟨p4,c4,rfl⟩:=k4.len;dsimp only at hsc b4 |-;unfold kvC at hchk |-;dsimp only at hchk |-;by_cases hc0:c=0;rotate_left
 ·rw [xf1 hc0];have hd:decide (c=0)=false:=xj0 hc0;refine yEn Tryz.func77 Tryz.ntmps77 (by kernel_rfl) (by kernel_rfl) rfl rfl ?_;have hS:=St.start w
  repeat' (first|(with_reducible apply a8 a7);rfl;rfl;rfl|(with_reducible apply a9);rfl;(apply Ld.st a7;rfl;exact hS.blkR 0 rfl;rfl);rfl|refine yDn (by with_reducible constructor) ?_|(with_reducible apply x8);(iterate 4 rfl);assumption;rfl|(with_reducible apply a1r);(iterate 5 rfl)|(with_reducible apply f5);rfl;assumption;rfl;rfl|(with_reducible apply f8);rfl;rfl|(with_reducible apply l8 hS);rfl;rfl;rfl;clear hS;intro g w' hS|(with_reducible apply d7 hS);rfl;rfl;rfl;refine ⟨_,hchk _ (hK0.now hS),?_⟩;clear hS;intro w' hS)
  (refine k7 rfl ?_)
  exact ⟨rfl,hS.sub (xj1 _)⟩
 rw [xf0 hc0];have hd:decide (c=0)=true:=xj2 hc0;by_cases hin:0<=space/\space<=(sps.length:Int) - 1;rotate_left
 ·rw [xf1 (fun h=>hin ⟨h.1,by omega⟩)];have hd2:(!decide (0<=space/\space<=(sps.length:Int) - 1))=true:=by rw [xj0 hin];rfl
  refine yEn Tryz.func77 Tryz.ntmps77 (by kernel_rfl) (by kernel_rfl) rfl rfl ?_;have hS:=St.start w
  repeat' (first|(with_reducible apply a8 a7);rfl;rfl;rfl|(with_reducible apply a9);rfl;(first|apply Ld.sl a7;rfl;exact hS.blkC 0 rfl rfl|apply Ld.st a7;rfl;exact hS.blkR 0 rfl;rfl);rfl|(with_reducible apply a0m);rfl;rfl;omega;omega;rfl|refine yDn (by with_reducible constructor) ?_|(with_reducible apply k8);(iterate 4 rfl);assumption|(with_reducible apply x8);(iterate 4 rfl);assumption;rfl|(with_reducible apply j3);rfl;assumption;rfl;rfl|(with_reducible apply f6);rfl;rfl|(with_reducible apply l8 hS);rfl;rfl;rfl;clear hS;intro g w' hS|(with_reducible apply d7 hS);rfl;rfl;rfl;refine ⟨_,hchk _ (hK0.now hS),?_⟩;clear hS;intro w' hS|(with_reducible apply d7 hS);rfl;rfl;rfl;refine ⟨_,p7 _ _ _ _,?_⟩;clear hS;intro w' hS)
  (refine k7 rfl ?_)
  exact ⟨rfl,hS.sub (xj1 _)⟩
 have hd2:(!decide (0<=space/\space<=(sps.length:Int) - 1))=false:=by rw [xj2 hin];rfl
 obtain ⟨i,rfl⟩:∃ i:Nat,space=(i:Nat):=⟨space.toNat,by omega⟩;obtain ⟨x,hx⟩:=j0 (l:=sps) (i:=i) (by omega);have hxs:=hsc i x hx;have hrow:=c9 (f:=spC) hx;obtain ⟨b,off,rfl,hro⟩:=k4.at_ (i:=i) (by omega);unfold spC at hrow;rw [show (((i:Nat):Int)).toNat=i from rfl,hxs]
 cases hlv:x.s.live with
 |false=>
  rw [xf1 (fun h=>by cases h.2.2)];rw [hlv] at hrow;refine yEn Tryz.func77 Tryz.ntmps77 (by kernel_rfl) (by kernel_rfl) rfl rfl ?_;have hS:=St.start w
  repeat' (first|(with_reducible apply a8 a7);rfl;rfl;rfl|(with_reducible apply a9);rfl;(first|apply Ld.sc a7;rfl;exact hS.roC0 (by assumption) (by assumption) rfl|apply Ld.sl a7;rfl;exact hS.blkC 0 rfl rfl|apply Ld.st a7;rfl;exact hS.blkR 0 rfl;rfl);rfl|(with_reducible apply l7 a7);rfl;rfl;rfl;rfl;omega;rfl|(with_reducible apply a0m);rfl;rfl;omega;omega;rfl|refine yDn (by with_reducible constructor) ?_|(with_reducible apply k8);(iterate 4 rfl);assumption|(with_reducible apply j3);rfl;assumption;rfl;rfl|(with_reducible apply f5);rfl;assumption;rfl;rfl|(with_reducible apply f6);rfl;rfl|(with_reducible apply l8 hS);rfl;rfl;rfl;clear hS;intro g w' hS|(with_reducible apply d7 hS);rfl;rfl;rfl;refine ⟨_,hchk _ (hK0.now hS),?_⟩;clear hS;intro w' hS|(with_reducible apply d7 hS);rfl;rfl;rfl;refine ⟨_,p7 _ _ _ _,?_⟩;clear hS;intro w' hS)
  (refine k7 rfl ?_)
  exact ⟨rfl,hS.sub (xj1 _)⟩
 |true=>
  rw [xf0 ⟨hin.1,by omega,rfl⟩];rw [hlv] at hrow;refine yEn Tryz.func77 Tryz.ntmps77 (by kernel_rfl) (by kernel_rfl) rfl rfl ?_;have hS:=St.start w
  repeat' (first|(with_reducible apply a8 a7);rfl;rfl;rfl|(with_reducible apply a9);rfl;(first|apply Ld.sc a7;rfl;exact hS.roC0 (by assumption) (by assumption) rfl|apply Ld.sl a7;rfl;exact hS.blkC 0 rfl rfl|apply Ld.st a7;rfl;exact hS.blkR 0 rfl;rfl);rfl|(with_reducible apply l7 a7);rfl;rfl;rfl;rfl;omega;rfl|(with_reducible apply a0m);rfl;rfl;omega;omega;rfl|refine yDn (by with_reducible constructor) ?_|(with_reducible apply k8);(iterate 4 rfl);assumption|(with_reducible apply j3);rfl;assumption;rfl;rfl|(with_reducible apply f5);rfl;assumption;rfl;rfl|(with_reducible apply f8);rfl;rfl|(with_reducible apply l8 hS);rfl;rfl;rfl;clear hS;intro g w' hS|(with_reducible apply d7 hS);rfl;rfl;rfl;refine ⟨_,hchk _ (hK0.now hS),?_⟩;clear hS;intro w' hS|(with_reducible apply d7 hS);rfl;rfl;rfl;refine ⟨_,p7 _ _ _ _,?_⟩;clear hS;intro w' hS)
  (refine k7 rfl ?_)
  exact ⟨by rw [hc0],hS.sub (xj1 _)⟩
theorem b0j {w:World} {k:KV} (hK:KerV w k) (space size way:Int):Fn Tryz.prog 26 [.agg (kvC k).toArray,.int .i64 space,.int .i64 size,.int .i64 way] w (RBf (.int .i64 (a0T k.K space size way)) w):=by
 have hlv:=fun w1 (h:KerV w1 k)=>b34 h space;unfold a0T;generalize a1d k.K space=e at hlv |-;obtain ⟨sh,fr,sl,sps,hand,vsh,vfr,vsl,vsp⟩:=k;have hK0:=hK;obtain ⟨k1,k2,k3,k4,k5⟩:=hK;dsimp only at k1 k2 k3 k4 k5;obtain ⟨p1,c1,rfl⟩:=k1.sl.len;obtain ⟨p2,c2,rfl⟩:=k2.len;obtain ⟨p3,c3,rfl⟩:=k3.len;obtain ⟨p4,c4,rfl⟩:=k4.len;unfold kvC at hlv |-;dsimp only at hlv |-;by_cases he:e=0;rotate_left
 ·rw [xf1 he];have hd:(!decide (e=0))=true:=by rw [xj0 he];rfl
  refine yEn Tryz.func26 Tryz.ntmps26 (by kernel_rfl) (by kernel_rfl) rfl rfl ?_;have hS:=St.start w
  repeat' (first|(with_reducible apply a8 a7);rfl;rfl;rfl|(with_reducible apply a9);rfl;(apply Ld.st a7;rfl;exact hS.blkR 0 rfl;rfl);rfl|refine yDn (by with_reducible constructor) ?_|(with_reducible apply f6);rfl;assumption|(with_reducible apply l8 hS);rfl;rfl;rfl;clear hS;intro g w' hS|(with_reducible apply d7 hS);rfl;rfl;rfl;refine ⟨_,hlv _ (hK0.now hS),?_⟩;clear hS;intro w' hS)
  (refine k7 rfl ?_)
  exact ⟨rfl,hS.sub (xj1 _)⟩
 rw [xf0 he];have hd:(!decide (e=0))=false:=by rw [xj2 he];rfl
 by_cases hs:1<=size/\size<=8;rotate_left
 ·rw [xf0 (by omega)];have hd2:(!decide (1<=size/\size<=8))=true:=by rw [xj0 hs];rfl
  refine yEn Tryz.func26 Tryz.ntmps26 (by kernel_rfl) (by kernel_rfl) rfl rfl ?_;have hS:=St.start w
  repeat' (first|(with_reducible apply a8 a7);rfl;rfl;rfl|(with_reducible apply a9);rfl;(apply Ld.st a7;rfl;exact hS.blkR 0 rfl;rfl);rfl|refine yDn (by with_reducible constructor) ?_|(with_reducible apply f6);rfl;assumption|(with_reducible apply f8);rfl;assumption|(with_reducible apply l8 hS);rfl;rfl;rfl;clear hS;intro g w' hS|(with_reducible apply d7 hS);rfl;rfl;rfl;refine ⟨_,hlv _ (hK0.now hS),?_⟩;clear hS;intro w' hS|(with_reducible apply d7 hS);rfl;rfl;rfl;refine ⟨_,p7 _ _ _ _,?_⟩;clear hS;intro w' hS)
  (refine k7 rfl ?_)
  exact ⟨rfl,hS.sub (xj1 _)⟩
 rw [xf1 (by omega)];have hd2:(!decide (1<=size/\size<=8))=false:=by rw [xj2 hs];rfl
 by_cases hw:0<=way/\way<=2
 ·rw [xf1 (by omega)];have hd3:(!decide (0<=way/\way<=2))=false:=by rw [xj2 hw];rfl
  refine yEn Tryz.func26 Tryz.ntmps26 (by kernel_rfl) (by kernel_rfl) rfl rfl ?_;have hS:=St.start w
  repeat' (first|(with_reducible apply a8 a7);rfl;rfl;rfl|(with_reducible apply a9);rfl;(apply Ld.st a7;rfl;exact hS.blkR 0 rfl;rfl);rfl|refine yDn (by with_reducible constructor) ?_|(with_reducible apply f8);rfl;assumption|(with_reducible apply l8 hS);rfl;rfl;rfl;clear hS;intro g w' hS|(with_reducible apply d7 hS);rfl;rfl;rfl;refine ⟨_,hlv _ (hK0.now hS),?_⟩;clear hS;intro w' hS|(with_reducible apply d7 hS);rfl;rfl;rfl;refine ⟨_,p7 _ _ _ _,?_⟩;clear hS;intro w' hS)
  (refine k7 rfl ?_)
  exact ⟨rfl,hS.sub (xj1 _)⟩
 ·rw [xf0 (by omega)];have hd3:(!decide (0<=way/\way<=2))=true:=by rw [xj0 hw];rfl
  refine yEn Tryz.func26 Tryz.ntmps26 (by kernel_rfl) (by kernel_rfl) rfl rfl ?_;have hS:=St.start w
  repeat' (first|(with_reducible apply a8 a7);rfl;rfl;rfl|(with_reducible apply a9);rfl;(apply Ld.st a7;rfl;exact hS.blkR 0 rfl;rfl);rfl|refine yDn (by with_reducible constructor) ?_|(with_reducible apply f6);rfl;assumption|(with_reducible apply f8);rfl;assumption|(with_reducible apply l8 hS);rfl;rfl;rfl;clear hS;intro g w' hS|(with_reducible apply d7 hS);rfl;rfl;rfl;refine ⟨_,hlv _ (hK0.now hS),?_⟩;clear hS;intro w' hS|(with_reducible apply d7 hS);rfl;rfl;rfl;refine ⟨_,p7 _ _ _ _,?_⟩;clear hS;intro w' hS)
  (refine k7 rfl ?_)
  exact ⟨rfl,hS.sub (xj1 _)⟩
section
variable {P:Program} {n:Nat} {ds:List Deferred} {E:Fr} {w w':World} {Q:Exit->Act->World->Prop} {ops:Array Oper} {rest:List Oper} {d:Nat} {dst:Option Nat} {ty:TypeId} {pos:String} {after:Array Edge} {F:Nat->Prop} {w0:World} {Γ:List Asr} {T:Tab}
theorem a60 (g o k:Nat):(⟨g,o,none⟩:Addr).add k=⟨g,o + k,none⟩:=by unfold Addr.add;split <;> simp_all
theorem a9Z (hT:TabOk P T) {t el sz eb b off m c j:Nat} {ag:Bool} {z:List Value} {x y:Operand} {i:Int} (ht:T.get t=some (.sl el sz eb ag z)) (hx:E.ev x=some (.slice (some ⟨b,off,none⟩) m c)) (hy:E.ev y=some (.int .i64 i)) (hj:(j:Int)=i) (hm:j<=m) (hc:j < c):∀ a,Has n ds a E->∀ dst,a05 P ⟨dst,.slice t x (some y) none none,ty,pos,after,none⟩ a (.slice (some ⟨b,off + j * sz,none⟩) (m - j) (c - j)):=fun a ha _ w=>by
 obtain ⟨ji,zv,hu,hinfo,_,hs,_⟩:=hT.sl ht;subst hj;have hb:(Instr.sliceBounds true m c (some (.int .i64 (j:Int))) none none).run P w=.ok (j,m,c) w:=by
  simp [Instr.sliceBounds,run_sliceBound,hm]
 simp only [execOp,ha.ev hx,ha.ev hy,xh7,xj3];simp [Instr.sliceAt,Instr.slice,run_underlying hu,hb,sizeOf,typeInfo,hinfo,hs,show ¬ c=j by omega,a60]
theorem b3N (hT:TabOk P T) {t el sz eb m c j:Nat} {p:Option Addr} {ag:Bool} {z:List Value} {x y:Operand} {i:Int} (ht:T.get t=some (.sl el sz eb ag z)) (hx:E.ev x=some (.slice p m c)) (hy:E.ev y=some (.int .i64 i)) (hj:(j:Int)=i) (hm:j<=c):∀ a,Has n ds a E->∀ dst,a05 P ⟨dst,.slice t x none (some y) none,ty,pos,after,none⟩ a (.slice p j c):=fun a ha _ w=>by
 obtain ⟨ji,zv,hu,hinfo,_,hs,_⟩:=hT.sl ht;subst hj;have hb:(Instr.sliceBounds true m c none (some (.int .i64 (j:Int))) none).run P w=.ok (0,j,c) w:=by
  simp [Instr.sliceBounds,run_sliceBound,hm]
 simp only [execOp,ha.ev hx,ha.ev hy,xh7,xj3];simp [Instr.sliceAt,Instr.slice,run_underlying hu,hb,sizeOf,typeInfo,hinfo,hs];intro _
 cases p with
 |none=>rfl
 |some a=>simp [Addr.add]
theorem a40 (hT:TabOk P T) {t el sz eb b off m c j:Nat} {ag:Bool} {z:List Value} {x y:Operand} {i:Int} (ht:T.get t=some (.sl el sz eb ag z)) (hx:E.ev x=some (.slice (some ⟨b,off,none⟩) m c)) (hy:E.ev y=some (.int .i64 i)) (hj:(j:Int)=i) (hm:j<=m) (hc:j < c) (hd:Nat.blt d n=true) (k':WL P ops Q rest n ds ((d,.slice (some ⟨b,off + j * sz,none⟩) (m - j) (c - j))::E) w):WL P ops Q (⟨some d,.slice t x (some y) none none,ty,pos,after,none⟩::rest) n ds E w:=a0v (fun a ha=>a9Z hT ht hx hy hj hm hc a ha _) hd k'
theorem a7c (hT:TabOk P T) {t el sz eb m c j:Nat} {p:Option Addr} {ag:Bool} {z:List Value} {x y:Operand} {i:Int} (ht:T.get t=some (.sl el sz eb ag z)) (hx:E.ev x=some (.slice p m c)) (hy:E.ev y=some (.int .i64 i)) (hj:(j:Int)=i) (hm:j<=c) (hd:Nat.blt d n=true) (k':WL P ops Q rest n ds ((d,.slice p j c)::E) w):WL P ops Q (⟨some d,.slice t x none (some y) none,ty,pos,after,none⟩::rest) n ds E w:=a0v (fun a ha=>b3N hT ht hx hy hj hm a ha _) hd k'
theorem a46 {C:World->Prop} {K:Act->Prop} (hT:TabOk P T) {t el sz eb b off m c j:Nat} {ag:Bool} {z:List Value} {x y:Operand} {i:Int} (ht:T.get t=some (.sl el sz eb ag z)) (hx:E.ev x=some (.slice (some ⟨b,off,none⟩) m c)) (hy:E.ev y=some (.int .i64 i)) (hj:(j:Int)=i) (hm:j<=m) (hc:j < c) (hd:Nat.blt d n=true) (k':WD P ops C K rest n ds ((d,.slice (some ⟨b,off + j * sz,none⟩) (m - j) (c - j))::E)):WD P ops C K (⟨some d,.slice t x (some y) none none,ty,pos,after,none⟩::rest) n ds E:=a2J (fun a ha=>a9Z hT ht hx hy hj hm hc a ha _) hd k'
theorem b52 (hT:TabOk P T) {t el sz eb m c:Nat} {p:Option Addr} {ag:Bool} {z:List Value} {x:Operand} (ht:T.get t=some (.sl el sz eb ag z)) (hx:E.ev x=some (.slice p m c)):∀ a,Has n ds a E->∀ dst,a05 P ⟨dst,.call { callee:=.builtin .cap,args:=#[x],argTypes:=#[t] },ty,pos,after,none⟩ a (.int .i64 (c:Nat)):=fun a ha _ w=>by
 obtain ⟨ji,zv,hu,_⟩:=hT.sl ht;have hr:(Builtin.cap_ #[t] ty #[.slice p m c]).run P w=.ok (.int .i64 (c:Nat)) w:=by
  simp [Builtin.cap_,run_underlying hu,goInt]
 simp [execOp,resolve,invoke,builtin,ha.ev hx,hr,Result.andThen]
theorem b54 (hT:TabOk P T) {t el sz eb m c:Nat} {p:Option Addr} {ag:Bool} {z:List Value} {x:Operand} (ht:T.get t=some (.sl el sz eb ag z)) (hx:E.ev x=some (.slice p m c)) (hd:Nat.blt d n=true) (k':WL P ops Q rest n ds ((d,.int .i64 (c:Nat))::E) w):WL P ops Q (⟨some d,.call { callee:=.builtin .cap,args:=#[x],argTypes:=#[t] },ty,pos,after,none⟩::rest) n ds E w:=a0v (fun a ha=>b52 hT ht hx a ha _) hd k'
def a0D (rows news:List (List Value)) (k:Nat):List (List Value):=rows.take k++(news++rows.drop (k + news.length))
theorem a2n {rows news:List (List Value)} {k:Nat} (hk:k<=rows.length):(a0D rows news k).length=max rows.length (k + news.length):=by
 unfold a0D;rw [xe9,xe9,xa1,xb5];omega
theorem a5n {rows:List (List Value)} {sz:Nat} (hs:∀ r ∈ rows,r.length=sz) (k:Nat):rows.flatten.take (k * sz)=(rows.take k).flatten:=by
 have h1:rows.flatten=(rows.take k).flatten++(rows.drop k).flatten:=by rw [<- xf9,xj4]
 by_cases hk:k<=rows.length
 ·have hl:(rows.take k).flatten.length=k * sz:=by
   rw [o4 (fun r hr=>hs r (xf8 hr)),xa1]
   congr 1;omega
  rw [h1,xj5 hl]
 ·rw [xa0 (by rw [o4 hs];exact xj6 _ (by omega)),xa0 (l:=rows) (by omega)]
theorem b2W {rows:List (List Value)} {sz:Nat} (hs:∀ r ∈ rows,r.length=sz) (k:Nat):rows.flatten.drop (k * sz)=(rows.drop k).flatten:=by
 have h1:rows.flatten=(rows.take k).flatten++(rows.drop k).flatten:=by rw [<- xf9,xj4]
 by_cases hk:k<=rows.length
 ·have hl:(rows.take k).flatten.length=k * sz:=by
   rw [o4 (fun r hr=>hs r (xf8 hr)),xa1]
   congr 1;omega
  rw [h1,List.drop_left' hl]
 ·rw [xj7 (by rw [o4 hs];exact xj6 _ (by omega)),xj7 (l:=rows) (by omega)];rfl
theorem a4r {e sz g m cap k:Nat} {rows news:List (List Value)} (h:Asr.holds w (.row e sz (.slice (some ⟨g,0,none⟩) m cap) rows)) (hk:k<=rows.length) (hn:k + news.length<=cap) (hs:∀ r ∈ news,r.length=sz) (h1:∀ r ∈ news,r.all (·.oneCell')=true) :
  ∃ w',(storeCells ⟨g,k * sz,none⟩ news.flatten).run P w=.ok () w'/\w.grownBy w' (some g)/\Asr.holds w' (.row e sz (.slice (some ⟨g,0,none⟩) (a0D rows news k).length cap) (a0D rows news k)):=by
 obtain ⟨ho,hlen,hone⟩:=h;rcases ho.2 with ⟨he,_⟩|⟨g',cap',cur,hv,_,hg,hnc,hcm,hcs,htake⟩
 ·cases he
 cases hv
 have hsl:news.flatten.length=news.length * sz:=o4 hs;have hfit:k * sz + news.flatten.length<=cur.size:=by
  rw [hsl,hcs,<- Nat.add_mul];exact xj6 _ hn
 have hst:=run_storeCells_at P g (k * sz) e news.flatten 0 cur w hg (by simpa using hfit) (fun v hv=>by
  obtain ⟨r,hr,hur⟩:=List.mem_flatten.1 hv;exact xc7.1 (h1 r hr) v hur)
 refine ⟨_,hst,⟨rfl,rfl,rfl,by simp [World.setRow,World.heap],fun j hj hne=>?_⟩,⟨⟨o4 (fun r hr=>?_),.inr ⟨g,cap,_,rfl,xg4 _,setRow_heap w g cur _ e (0,0) hg,?_,hcm,?_,?_⟩⟩,fun r hr=>?_,fun r hr=>?_⟩⟩
 ·have:g≠j:=fun e=>hne (by rw [e]);simp [World.setRow,Array.getElem?_modify,this]
 ·unfold a0D at hr;rcases xe3.1 hr with hr|hr
  ·exact hlen r (xf8 hr)
  ·rcases xe3.1 hr with hr|hr
   ·exact hs r hr
   ·exact hlen r (xj8 hr)
 ·rw [a2n hk];omega
 ·rw [hsl] at hfit |-;simp only [xb4,xe9,xa1,xb5,xh0,xg2,hsl];omega
 ·have hcl:cur.toList.length=cap * sz:=by simpa using hcs
  have hct:cur.toList.take (k * sz)=(rows.take k).flatten:=by
   rw [<- a5n hlen,<- htake,List.take_take]
   congr 1
   exact (xj9 (xj6 _ hk)).symm
  have hrl:(rows.take k).flatten.length=k * sz:=by
   rw [o4 (fun r hr=>hlen r (xf8 hr)),xa1]
   congr 1;omega
  simp only [xg2,xg5];rw [hct,a2n hk,xg0];unfold a0D;rw [xf9,xf9];rw [xk0,xa0 (l:=(rows.take k).flatten) (by rw [hrl];exact xj6 _ (by omega)),hrl]
  congr 1
  rw [xk0,xa0 (l:=news.flatten) (by rw [hsl,<- xk1];exact xj6 _ (by omega)),hsl]
  congr 1
  by_cases hc:k + news.length<=rows.length
  ·rw [show max rows.length (k + news.length)=rows.length by omega,<- xk1,<- xk1,<- b2W hlen,<- htake];rw [show k * sz + news.length * sz=(k + news.length) * sz by rw [Nat.add_mul],List.drop_take,<- xk1]
   congr 2
   omega
  ·rw [show max rows.length (k + news.length)=k + news.length by omega,xj7 (l:=rows) (by omega)];rw [<- xk1,<- xk1,show k + news.length - k - news.length=0 by omega];simp
 ·unfold a0D at hr;rcases xe3.1 hr with hr|hr
  ·exact hlen r (xf8 hr)
  ·rcases xe3.1 hr with hr|hr
   ·exact hs r hr
   ·exact hlen r (xj8 hr)
 ·unfold a0D at hr;rcases xe3.1 hr with hr|hr
  ·exact hone r (xf8 hr)
  ·rcases xe3.1 hr with hr|hr
   ·exact h1 r hr
   ·exact hone r (xj8 hr)
theorem a8G (hS:St F w0 w Γ) (hT:TabOk P T) {t e sz eb g m cap k dl dc b off sl sc i:Nat} {ag:Bool} {ez:List Value} {x y:Operand} {rows news:List (List Value)} (ht:T.get t=some (.sl e sz eb ag ez)) (hx:E.ev x=some (.slice (some ⟨g,0 + k * sz,none⟩) dl dc)) (hi:Γ[i]?=some (.row e sz (.slice (some ⟨g,0,none⟩) m cap) rows)) (hy:E.ev y=some (.slice (some ⟨b,off,none⟩) sl sc)) (hn:RoAt nF w b off sz news) (hnl:news.length=min sl dl) (hk:k<=rows.length) (hc:k + news.length<=cap) :
  Gets P ⟨dst,.call { callee:=.builtin .copy,args:=#[x,y],argTypes:=#[t,t] },ty,pos,after,none⟩ n ds E w (fun v' w'=>v'=.int .i64 (news.length:Nat)/\St F w0 w' (Γ.set i (.row e sz (.slice (some ⟨g,0,none⟩) (a0D rows news k).length cap) (a0D rows news k)))):=by
 intro a ha K Q kk;obtain ⟨ji,zv,hu,hinfo,_,hs,_,_,_,_,hsz,hs0⟩:=hT.sl ht;obtain ⟨w',hst,hg,hh⟩:=a4r (P:=P) (hS.at_ hi) hk hc hn.len hn.one;have hl:(loadCells ⟨b,off,none⟩ (news.length * sz)).run P w=.ok news.flatten.toArray w:=by
  have:=run_loadCells_list (P:=P) w ⟨b,off,none⟩ news.flatten (fun j u hj=>by
   have hjl:j < news.length * sz:=by rw [<- o4 hn.len];exact d6 hj
   have hdiv:j / sz < news.length:=xh2 (by rw [xh3];exact hjl);have hmod:=xh4 j (xg7 hs0);have h3:=a2F hn.len (i:=j / sz) (j:=j % sz) (xe1 hdiv) hmod;rw [show j / sz * sz + j % sz=j from by rw [xh3];exact xh5 j sz] at h3;rw [h3] at hj;have:=hn.cells (j / sz) _ (xe1 hdiv) (j % sz) u hj;rw [Addr.add_mid]
   rwa [xf6,show j / sz * sz + j % sz=j from by rw [xh3];exact xh5 j sz] at this)
  rwa [o4 hn.len] at this
 rw [xa9] at hx;have hrun:(Builtin.copy_ #[t,t] ty #[.slice (some ⟨g,k * sz,none⟩) dl dc,.slice (some ⟨b,off,none⟩) sl sc]).run P w=.ok (.int .i64 (news.length:Nat)) w':=by
  have hmin:Nat.min sl dl=news.length:=hnl.symm;simp [Builtin.copy_,run_underlying hu,Builtin.lenOf,Builtin.firstCells,sizeOf,typeInfo,hinfo,hs,hmin,hl,hst,goInt]
 have hex:(execOp a.eval ⟨dst,.call { callee:=.builtin .copy,args:=#[x,y],argTypes:=#[t,t] },ty,pos,after,none⟩).run P w=.ok (.value (.int .i64 (news.length:Nat))) w':=by
  simp [execOp,resolve,invoke,builtin,ha.ev hx,ha.ev hy,hrun,Result.andThen]
 unfold Oper.wp;rw [hex];exact kk _ _ ⟨rfl,hS.upd hi hg hh (fun q hq=>xd6 hq)⟩
theorem b4Z (hS:St F w0 w Γ) (hT:TabOk P T) {t e sz eb g m cap k dl dc i:Nat} {ag:Bool} {ez:List Value} {x:Operand} {rows:List (List Value)} (ht:T.get t=some (.sl e sz eb ag ez)) (hx:E.ev x=some (.slice (some ⟨g,0 + k * sz,none⟩) dl dc)) (hi:Γ[i]?=some (.row e sz (.slice (some ⟨g,0,none⟩) m cap) rows)) (hdl:0 < dl) (hk:k<=rows.length) (hc:k + dl<=cap) (h1:ez.all (·.oneCell')=true) :
  Gets P ⟨dst,.call { callee:=.builtin .clear,args:=#[x],argTypes:=#[t] },ty,pos,after,none⟩ n ds E w (fun v' w'=>St F w0 w' (Γ.set i (.row e sz (.slice (some ⟨g,0,none⟩) (a0D rows (List.replicate dl ez) k).length cap) (a0D rows (List.replicate dl ez) k)))):=by
 intro a ha K Q kk;obtain ⟨ji,zv,hu,hinfo,_,hs,_,hz,hzl,_,hsz,hs0⟩:=hT.sl ht;obtain ⟨w',hst,hg,hh⟩:=a4r (P:=P) (news:=List.replicate dl ez) (hS.at_ hi) hk (by rw [xi0];exact hc) (fun r hr=>by rw [xk2 hr,hsz]) (fun r hr=>by rw [xk2 hr];exact h1);have hzc:(Builtin.zeroCells zv.cells dl).toList=(List.replicate dl ez).flatten:=by
  have hzs:zv.cells.size=sz:=by rw [<- xh0,hzl,hsz]
  have hfl:(List.replicate dl ez).flatten.length=dl * sz:=by rw [o4 (size:=sz) (fun r hr=>by rw [xk2 hr,hsz]),xi0]
  refine xh1 fun j=>?_;unfold Builtin.zeroCells;rw [hzs];by_cases hj:j < dl * sz
  ·have hdiv:j / sz < (List.replicate dl ez).length:=by rw [xi0];exact xh2 (by rw [xh3];exact hj)
   have hmod:=xh4 j (xg7 hs0);have h3:=a2F (rows:=List.replicate dl ez) (size:=sz) (fun r hr=>by rw [xk2 hr,hsz]) (i:=j / sz) (j:=j % sz) (xe1 hdiv) hmod;rw [show j / sz * sz + j % sz=j from by rw [xh3];exact xh5 j sz] at h3;rw [h3,xk3];have hml:j % sz < zv.cells.size:=by rw [hzs];exact hmod
   simp [hj,hml,<- hzl]
  ·rw [xh8 (by simp;omega),xh8 (by rw [hfl];omega)]
 rw [xa9] at hx;have hrun:(Builtin.clear_ #[t] ty #[.slice (some ⟨g,k * sz,none⟩) dl dc]).run P w=.ok (.tuple #[]) w':=by
  obtain ⟨q,rfl⟩:∃ q,dl=q + 1:=⟨dl - 1,by omega⟩;simp [Builtin.clear_,run_underlying hu,zeroValue,typeInfo,hinfo,hz,hzc,hst]
 have hex:(execOp a.eval ⟨dst,.call { callee:=.builtin .clear,args:=#[x],argTypes:=#[t] },ty,pos,after,none⟩).run P w=.ok (.value (.tuple #[])) w':=by
  simp [execOp,resolve,invoke,builtin,ha.ev hx,hrun,Result.andThen]
 unfold Oper.wp;rw [hex];exact kk _ _ (hS.upd hi hg hh (fun q hq=>xd6 hq))
theorem RoAt.drop {G:Nat->Prop} {b off sz:Nat} {rows:List (List Value)} (h:RoAt G w b off sz rows) (k:Nat):RoAt G w b (off + k * sz) sz (rows.drop k) :=
 ⟨h.lt,h.nf,fun r hr=>h.len r (xj8 hr),fun r hr=>h.one r (xj8 hr),fun i r hr j u hj=>by
  rw [xb6] at hr;have:=h.cells (k + i) r hr j u hj
  rwa [show off + k * sz + i * sz + j=off + (k + i) * sz + j by rw [Nat.add_mul];omega]⟩
theorem St.shrink (hS:St F w0 w Γ) (i:Nat) {e sz g m cap:Nat} {rows:List (List Value)} (k:Nat) (hi:Γ[i]?=some (.row e sz (.slice (some ⟨g,0,none⟩) m cap) rows)) (hk:k<=rows.length):St F w0 w (Γ.set i (.row e sz (.slice (some ⟨g,0,none⟩) k cap) (rows.take k))):=by
 refine hS.upd hi ⟨rfl,rfl,rfl,xd4 _,fun _ _ _=>rfl⟩ ?_ (fun q hq=>xd6 hq);obtain ⟨ho,hlen,hone⟩:=hS.at_ hi;rcases ho.2 with ⟨he,_⟩|⟨g',cap',cur,hv,_,hg,hnc,hcm,hcs,htake⟩
 ·cases he
 cases hv
 refine ⟨⟨o4 (fun r hr=>hlen r (xf8 hr)),.inr ⟨g,cap,cur,by rw [xa1,xj9 hk],xg4 _,hg,by rw [xa1];omega,hcm,hcs,?_⟩⟩,fun r hr=>hlen r (xf8 hr),fun r hr=>hone r (xf8 hr)⟩;rw [xa1,xj9 hk,<- a5n hlen,<- htake,List.take_take,xj9 (xj6 _ hk)]
theorem b2w (hS:St F w0 w Γ) (hT:TabOk P T) {t tn e sz eb g m cap k q sz2 i:Nat} {z2:Value} {ag:Bool} {ez:List Value} {x y:Operand} {rows:List (List Value)} {jj:Int} (ht:T.get t=some (.sl e sz eb ag ez)) (htn:T.get tn=some (.sc (.int .i64) sz2 z2)) (hx:E.ev x=some (.slice (some ⟨g,0,none⟩) k cap)) (hy:E.ev y=some (.int .i64 jj)) (hjj:(q:Int)=jj) (hi:Γ[i]?=some (.row e sz (.slice (some ⟨g,0,none⟩) m cap) rows)) (hk:k<=rows.length) (hq:0 < q) (hc:cap < k + q) (hbig:(k + q) * (eb + 1)<=140737488355328) (h1:ez.all (·.oneCell')=true) :
  Gets P ⟨dst,.call { callee:=.builtin .append,args:=#[x,y],argTypes:=#[t,tn] },ty,pos,after,none⟩ n ds E w (fun v' w'=>∃ g2 cap2,v'=.slice (some ⟨g2,0,none⟩) (k + q) cap2/\k + q<=cap2/\St F w0 w' (.row e sz (.slice (some ⟨g2,0,none⟩) (k + q) cap2) (rows.take k++List.replicate q ez)::Γ)):=by
 intro a ha K Q kk;subst hjj;obtain ⟨ji,zv,hu,hinfo,_,hs,hby,hz,hzl,_,hsz,hs0⟩:=hT.sl ht;obtain ⟨_,hun,_⟩:=hT.sc htn;have hro:=hS.rowRo i hi;obtain ⟨ho,hlen,hone⟩:=hS.at_ hi;have hb1:(k + q) * eb + (k + q)<=140737488355328:=by rw [Nat.mul_succ] at hbig;exact hbig
 have hold:(Builtin.firstCells ji.size k (.slice (some ⟨g,0,none⟩) k cap)).run P w.drew=.ok (rows.take k).flatten.toArray w.drew:=by
  rw [hs];refine run_firstCells_some w.drew sz k ⟨g,0,none⟩ k cap (rows.take k).flatten ?_ (fun j u hj=>?_)
  ·rw [o4 (fun r hr=>hlen r (xf8 hr)),xa1,xj9 hk]
  ·rw [<- a5n hlen,xf4] at hj
   split at hj
   ·have:=ho.cells (g:=g) rfl j u hj;exact this
   ·cases hj
 have hqe:q * eb<=281474976710656:=by
  have:=xj6 eb (show q<=k + q by omega);omega
 have hzs:zv.cells.size=sz:=by rw [<- xh0,hzl,hsz]
 have hrun:=Go.Lib.run_append_grow_zeros (P:=P) w t tn ty e ji zv .i64 .i64 hu hun hinfo hz (some ⟨g,0,none⟩) k cap (rows.take k).flatten hold q hq (by rw [hs];exact xg7 hs0) hc (by omega) (by rw [hby];exact hqe) (by rw [hby];exact growslice_fits (by omega) (by omega));have hex:(execOp a.eval ⟨dst,.call { callee:=.builtin .append,args:=#[x,y],argTypes:=#[t,tn] },ty,pos,after,none⟩).run P w=.ok (.value (.slice (some ⟨w.heap.size,0,none⟩) (k + q) (grownCap w (k + q) cap e))) (w.drew.alloc (.cells ((rows.take k).flatten.toArray++Builtin.zeroCells zv.cells q++Builtin.zeroCells zv.cells (grownCap w (k + q) cap e - (k + q))) e)):=by
  simp [execOp,resolve,invoke,builtin,ha.ev hx,ha.ev hy,hrun,Result.andThen]
 unfold Oper.wp;rw [hex];have hzc:∀ dl,(Builtin.zeroCells zv.cells dl).toList=(List.replicate dl ez).flatten:=fun dl=>by
  have hfl:(List.replicate dl ez).flatten.length=dl * sz:=by rw [o4 (size:=sz) (fun r hr=>by rw [xk2 hr,hsz]),xi0]
  refine xh1 fun j=>?_;unfold Builtin.zeroCells;rw [hzs];by_cases hj:j < dl * sz
  ·have hdiv:j / sz < (List.replicate dl ez).length:=by rw [xi0];exact xh2 (by rw [xh3];exact hj)
   have hmod:=xh4 j (xg7 hs0);have h3:=a2F (rows:=List.replicate dl ez) (size:=sz) (fun r hr=>by rw [xk2 hr,hsz]) (i:=j / sz) (j:=j % sz) (xe1 hdiv) hmod;rw [show j / sz * sz + j % sz=j from by rw [xh3];exact xh5 j sz] at h3;rw [h3,xk3];have hml:j % sz < zv.cells.size:=by rw [hzs];exact hmod
   simp [hj,hml,<- hzl]
  ·rw [xh8 (by simp;omega),xh8 (by rw [hfl];omega)]
 have hge:=grownCap_ge w (k + q) cap e;have hcm:=grownCap_le_maxLen w (k + q) cap e (by unfold maxLen;omega);refine kk _ _ ⟨w.heap.size,_,rfl,hge,hS.new ⟨rfl,rfl,rfl,by simp,fun k hk _=>heap_alloc_old w.drew _ hk⟩ ?_ (by simp [Asr.fp,Value.ownBlock])⟩;have hrl:∀ r ∈ rows.take k++List.replicate q ez,r.length=sz:=fun r hr=>by
  rcases xe3.1 hr with hr|hr
  ·exact hlen r (xf8 hr)
  ·rw [xk2 hr,hsz]
 have hll:(rows.take k++List.replicate q ez).length=k + q:=by rw [xe9,xa1,xi0];omega
 have hfl:(rows.take k++List.replicate q ez).flatten.length=(k + q) * sz:=by rw [o4 hrl,hll]
 refine ⟨⟨o4 hrl,.inr ⟨w.heap.size,_,_,by rw [hll],xg4 _,heap_alloc_new w.drew _,by rw [hll];exact hge,hcm,?_,?_⟩⟩,hrl,fun r hr=>?_⟩
 ·have e1:((rows.take k).flatten.toArray++Builtin.zeroCells zv.cells q++Builtin.zeroCells zv.cells (grownCap w (k + q) cap e - (k + q))).toList.length=grownCap w (k + q) cap e * sz:=by
   rw [xk4,xk4,hzc,hzc,xg5,<- xf9,xe9,hfl];rw [o4 (size:=sz) (fun r hr=>by rw [xk2 hr,hsz]),xi0,<- Nat.add_mul]
   congr 1
   omega
  simpa using e1
 ·rw [xk4,xk4,hzc,hzc,xg5,<- xf9,hll,<- hfl,xj5];rfl
 ·rcases xe3.1 hr with hr|hr
  ·exact hone r (xf8 hr)
  ·rw [xk2 hr];exact h1
end
section
variable {P:Program} {n:Nat} {ds:List Deferred} {E:Fr} {w w':World} {Q:Exit->Act->World->Prop} {ops:Array Oper} {rest:List Oper} {d:Nat} {dst:Option Nat} {ty:TypeId} {pos:String} {after:Array Edge} {F:Nat->Prop} {w0:World} {Γ:List Asr} {T:Tab}
theorem b3l {f : FuncId} {fn : Func} {e : Array Value -> Sem Value} {x : Operand} {args : Array Operand} {ats : Array TypeId} {vs : List Value} {v : Value} (hf : P.funcs[f]? = some fn) (hname : (fn.name == "runtime.NumGoroutine") = false) (hb : fn.body.isNone = true) (hn : Extern.findNext fn = none) (he : Extern.find fn = some e) (hx : E.ev x = some (.func (.func f) #[] #[])) (hv : E.evs args.toList = some vs) (h : (e vs.toArray).run P w = .ok v w) :
  Gets P ⟨dst,.call { callee:=.value x,args:=args,argTypes:=ats },ty,pos,after,none⟩ n ds E w (fun v' w'=>v'=v/\w'=w):=Gets.of_at fun a ha=>by
 have e1:args.map a.eval=vs.toArray:=by rw [<- ha.evs hv,<- xd1,xd2]
 have hr:=run_callFunc_extern (P:=P) hf hname hb hn he vs.toArray w;rw [h] at hr;simp only [execOp,resolve,ha.ev hx,Deferred.ofValue,Sem.run_bind,Sem.run_pure,Result.andThen_ok,invoke,e1]
 simpa using hr
theorem b3v {f : FuncId} {fn : Func} {e : Array Value -> Sem Value} {x : Operand} {args : Array Operand} {ats : Array TypeId} {vs : List Value} {v : Value} (hf : P.funcs[f]? = some fn) (hname : (fn.name == "runtime.NumGoroutine") = false) (hb : fn.body.isNone = true) (hn : Extern.findNext fn = none) (he : Extern.find fn = some e) (hx : E.ev x = some (.func (.func f) #[] #[])) (hv : E.evs args.toList = some vs) (h : (e vs.toArray).run P w = .ok v w) (hd : Nat.blt d n = true) (k : WL P ops Q rest n ds ((d, v) :: E) w) :
  WL P ops Q (⟨some d,.call { callee:=.value x,args:=args,argTypes:=ats },ty,pos,after,none⟩::rest) n ds E w:=a09 hd (b3l hf hname hb hn he hx hv h) (by rintro _ _ ⟨rfl,rfl⟩;exact k)
theorem b2S (hS:St F w0 w Γ) (hT:TabOk P T) {t tR e sz eb i j b o lb cb m cap n' cap' g:Nat} {ag:Bool} {ez:List Value} {rows rows':List (List Value)} (ht:T.get t=some (.sl e sz eb ag ez)) (hi:Γ[i]?=some (.row e sz (.slice (some ⟨g,0,none⟩) m cap) rows)) (hj:Γ[j]?=some (.row e sz (.slice (some ⟨b,0,none⟩) n' cap') rows')) (hne:i≠j) (hcap:0 < cap') :
  (Extern.SlicesOverlaps.overlaps #[t,t] #[tR] #[.slice (some ⟨g,0,none⟩) m cap,.slice (some ⟨b,o,none⟩) lb cb]).run P w=.ok (.bool false) w:=by
 obtain ⟨ji,zv,hu,hinfo,_,hs,_,_,_,_,hsz,hs0⟩:=hT.sl ht;obtain ⟨ho,_⟩:=hS.at_ hi;obtain ⟨ho',_⟩:=hS.at_ hj;have hap:=a3t hS.apart hi hj hne;have hgb:g≠b:=by
  rcases hap with h|h
  ·cases h
  ·intro e0;exact h (by rw [e0];rfl)
 rcases ho.2 with ⟨he,_⟩|⟨g1,cap1,cur1,hv1,_,hg1,_,_,hcs1,_⟩
 ·cases he
 cases hv1
 rcases ho'.2 with ⟨he,_⟩|⟨g2,cap2,cur2,hv2,_,hg2,_,_,hcs2,_⟩
 ·cases he
 cases hv2
 exact Go.Lib.run_overlaps_apart w t tR e hu sz (fun w=>by simp [sizeOf,typeInfo,hinfo,hs]) ⟨g,0,none⟩ ⟨b,o,none⟩ _ _ _ _ hgb e e cur1.size cur2.size (by simp [World.shape?,hg1]) (by simp [World.shape?,hg2]) (by rw [hcs2];exact Nat.ne_of_gt (Nat.mul_pos hcap (xg7 hs0))) (by simp [World.frozen?,hg1]) (by simp [World.frozen?,hg1])
def b0w (p:Option Addr) (m c j sz:Nat):Value:=.slice (if c=j then p else p.map fun q=>q.add (j * sz)) (m - j) (c - j)
theorem a6m (hT:TabOk P T) {t el sz eb m c j:Nat} {p:Option Addr} {ag:Bool} {z:List Value} {x y:Operand} {i:Int} (ht:T.get t=some (.sl el sz eb ag z)) (hx:E.ev x=some (.slice p m c)) (hy:E.ev y=some (.int .i64 i)) (hj:(j:Int)=i) (hm:j<=m):∀ a,Has n ds a E->∀ dst,a05 P ⟨dst,.slice t x (some y) none none,ty,pos,after,none⟩ a (b0w p m c j sz):=fun a ha _ w=>by
 obtain ⟨ji,zv,hu,hinfo,_,hs,_⟩:=hT.sl ht;subst hj;have hb:(Instr.sliceBounds true m c (some (.int .i64 (j:Int))) none none).run P w=.ok (j,m,c) w:=by
  simp [Instr.sliceBounds,run_sliceBound,hm]
 simp only [execOp,ha.ev hx,ha.ev hy,xh7,xj3];simp [Instr.sliceAt,Instr.slice,run_underlying hu,hb,sizeOf,typeInfo,hinfo,hs,b0w]
theorem a4p (hT:TabOk P T) {t el sz eb m c j:Nat} {p:Option Addr} {ag:Bool} {z:List Value} {x y:Operand} {i:Int} (ht:T.get t=some (.sl el sz eb ag z)) (hx:E.ev x=some (.slice p m c)) (hy:E.ev y=some (.int .i64 i)) (hj:(j:Int)=i) (hm:j<=m) (hd:Nat.blt d n=true) (k':WL P ops Q rest n ds ((d,b0w p m c j sz)::E) w):WL P ops Q (⟨some d,.slice t x (some y) none none,ty,pos,after,none⟩::rest) n ds E w:=a0v (fun a ha=>a6m hT ht hx hy hj hm a ha _) hd k'
end
def enA (v:Value) (l:List En):Asr:=.row 91 3 v (l.map enC)
theorem a3W (a y:En):o6 (enC a) 0 (enC y)=enC y:=a3v (enC a) (enC y) rfl
theorem a7D {α:Type} {p:α->Bool} {l:List α} {j:Nat} {x:α} (h:l[j]?=some x):(l.take (j + 1)).filter p=(l.take j).filter p++(if p x then [x] else []):=by
 rw [r8 h,xk5]
 cases hp:p x with
 |true=>rw [xk6 hp,xf0 rfl,xk7]
 |false=>rw [xk8 (by simp [hp]),xf1 (by simp),xk7]
theorem b2I {α:Type} {p:α->Bool} {l:List α}:(a1F p l=-1/\l.any p=false)\/∃ i x,a1F p l=((i:Nat):Int)/\l[i]?=some x/\p x=true/\(l.take i).filter (fun y=>!p y)=l.take i:=by
 unfold a1F
 cases h:l.findIdx? p with
 |none=>
  left;rw [xk9] at h;refine ⟨rfl,?_⟩;rw [List.any_eq_false];intro x hx;rw [h x hx];simp
 |some i=>
  right;rw [xl0] at h;obtain ⟨h1,h2,h3⟩:=h;refine ⟨i,l[i],rfl,xe1 h1,h2,List.filter_eq_self.2 fun y hy=>?_⟩;obtain ⟨j,hj⟩:=xd9.1 hy;rw [xf4] at hj
  split at hj
  ·rename_i hji;obtain ⟨hjl,rfl⟩:=xa7.1 hj;have:=h3 j hji
   simpa using this
  ·cases hj
theorem a5V {α:Type} {p:α->Bool} {l:List α} (h:l.any p=false):l.filter (fun y=>!p y)=l:=List.filter_eq_self.2 fun y hy=>by
 rw [List.any_eq_false] at h;have:=h y hy
 simpa using this
theorem b3h {F:Nat->Prop} {w0 w:World} {Γ:List Asr} {v:Value} {l:List En} {p:En->Bool} {k:FuncId} {caps:List Value} (hS0:St F w0 w (enA v l::Γ)) (hf:∀ x ∈ l,∀ w' Γ',St (fps [enA v l]) w w' Γ'->Fn Tryz.prog k ([.agg (enC x).toArray]++caps) w' (RBf (.bool (p x)) w')) :
  Fn Tryz.prog 179 [v,.func (.func k) #[] caps.toArray] w (fun v' w'=>∃ q c,v'=.slice q (l.filter fun y=>!p y).length c/\St (fps [enA v l]) w w' [enA v' (l.filter fun y=>!p y)]):=by
 have hS:=St.startM (Δ:=[enA v l]) hS0;have bnd:=(hS.rowSl 0 rfl).bound;obtain ⟨pp,c,hpp⟩:=hS.rowSlice 0 rfl;rw [xi9] at hpp;have hidx:=fun w1 Γ1 (h:St (fps [enA v l]) w w1 Γ1) (h0:Sl nF w1 3 v (l.map enC))=>b2Y (p:=p) (k:=k) (caps:=caps) h0 (fun x hx w' h2=>by
  obtain ⟨Γ2,h2⟩:=h2;exact hf x hx w' _ (h.trans h2))
 generalize fps [enA v l]=G at hS hf hidx |-;subst hpp;refine yEn Tryz.func179 Tryz.ntmps179 (by kernel_rfl) (by kernel_rfl) rfl rfl ?_;unfold enA at hS |-;rcases b2I (p:=p) (l:=l) with ⟨hi,hany⟩|⟨i,x,hi,hx,hpx,hpre⟩
 ·rw [hi] at hidx;rw [a5V hany]
  repeat' (first|(with_reducible apply a8 a7);rfl;rfl;rfl|refine yDn (by with_reducible constructor) ?_|(with_reducible apply f6);rfl;rfl|(with_reducible apply d7 hS);rfl;rfl;rfl;refine ⟨_,hidx _ _ hS (hS.rowSl 0 rfl),?_⟩;clear hS;intro w' hS)
  (refine k7 rfl ?_)
  exact ⟨_,_,rfl,hS⟩
 rw [hi] at hidx;have hil:=d6 hx;obtain ⟨g,rfl⟩:=hS.rowSome 0 rfl (by omega);have hcc:l.length<=c:=by
  rcases hS.rowForm 0 rfl with ⟨h1,-⟩|⟨g',c',h1,h2,-⟩
  ·cases h1
  ·injection h1 with _ _ h3;subst h3;rw [xi9] at h2;exact h2
 repeat' (first|(with_reducible apply a8 a7);rfl;rfl;rfl|(with_reducible apply j4);rfl;rfl;omega;omega;rfl|refine yDn (by with_reducible constructor) ?_|(with_reducible apply f8);rfl;rfl|(with_reducible apply d7 hS);rfl;rfl;rfl;refine ⟨_,hidx _ _ hS (hS.rowSl 0 rfl),?_⟩;clear hS;intro w' hS)
 have hst0:(l.take (i + 1)).filter (fun y=>!p y)=l.take i:=by
  rw [a7D hx,hpre,hpx];simp
 refine k9 (X:=Nat×Nat×List En) (fun x=>[(5,.int .i64 (x.1:Nat)),(6,.int .i64 (x.2.1:Nat))]) [0,1] rfl (fun x=>[.row 91 3 (.slice (some ⟨g,0,none⟩) l.length c) (x.2.2.map enC)]) (fun x=>x.1 < x.2.1/\x.2.1<=l.length/\x.2.2.length=l.length/\x.2.2.take x.1=(l.take x.2.1).filter (fun y=>!p y)/\x.2.2.drop x.2.1=l.drop x.2.1) (fun x=>l.length - x.2.1) (i,i + 1,l) (by exact Fr.sub_of rfl) ⟨Nat.lt_succ_self i,hil,rfl,hst0.symm,rfl⟩ hS ?_;clear hS hidx hst0 hi hx hpx hpre hil;rintro ⟨i,j,L⟩ w1 ⟨hij,hjl,hL,htk,hdr⟩ hS;dsimp only [List.cons_append,List.nil_append] at hij hjl hL htk hdr hS |-;by_cases hlt:j < l.length
 ·obtain ⟨y,hy⟩:=j0 (l:=l) (i:=j) (by omega);have hyL:L[j]?=some y:=by
   have h1:(L.drop j)[0]?=(l.drop j)[0]?:=by rw [hdr]
   rw [xb6,xb6] at h1;rw [xg2] at h1;rw [h1,hy]
  have hrow:=c9 (f:=enC) hyL;have hcall:=fun w' Γ' h=>hf y (xd0 hy) w' Γ' h;have hstep:=a7D (p:=fun y=>!p y) hy
  cases hpy:p y with
  |true=>
   rw [hpy] at hcall hstep;unfold enC at hcall;unfold enC at hrow
   repeat' (first|(with_reducible apply a8 a7);rfl;rfl;rfl|(with_reducible apply a9);rfl;(apply Ld.st a7;rfl;(first|exact hS.blkR 0 rfl|exact hS.rowR 0 rfl (by assumption));rfl);rfl|(with_reducible apply l7 a7);rfl;rfl;rfl;rfl;omega;rfl|(with_reducible apply j4);rfl;rfl;omega;omega;rfl|refine yDn (by with_reducible constructor) ?_|(with_reducible apply f8);rfl;rfl|(with_reducible apply d8 hS a7);rfl;rfl;rfl;clear hS;intro g w' hS|(with_reducible apply b8 hS a7 (i:=0));(iterate 8 rfl);exact (rfl:_=[_,_,_]);clear hS;intro w' hS;simp only [List.set] at hS|(with_reducible apply b9);rfl;all_goals (intro hb hp;try (exfalso;omega))|(with_reducible apply d7 hS);rfl;rfl;rfl;refine ⟨_,hcall _ _ hS,?_⟩;clear hS;intro w' hS)
   refine e9 (i,j + 1,L) (by exact Fr.sub_of rfl) ⟨by show i < j + 1;omega,by show j + 1<=l.length;omega,hL,?_,?_⟩ hS.drop (by show l.length - (j + 1) < l.length - j;omega)
   ·show L.take i=_;rw [hstep,htk];simp
   ·show L.drop (j + 1)=l.drop (j + 1);rw [<- List.drop_drop,<- List.drop_drop,hdr]
  |false=>
   rw [hpy] at hcall hstep;unfold enC at hcall;have hrow2:(L.map enC)[i]?=some (enC ((L[i]?).getD y)):=by
    obtain ⟨z,hz⟩:=j0 (l:=L) (i:=i) (by omega);rw [hz];exact c9 (f:=enC) hz
   unfold enC at hrow
   repeat' (first|(with_reducible apply a8 a7);rfl;rfl;rfl|(with_reducible apply a9);rfl;(apply Ld.st a7;rfl;(first|exact hS.blkR 0 rfl|exact hS.rowR 0 rfl (by assumption));rfl);rfl|(with_reducible apply l7 a7);rfl;rfl;rfl;rfl;omega;rfl|(with_reducible apply j4);rfl;rfl;omega;omega;rfl|refine yDn (by with_reducible constructor) ?_|(with_reducible apply f6);rfl;rfl|(with_reducible apply d8 hS a7);rfl;rfl;rfl;clear hS;intro g w' hS|(with_reducible apply b8 hS a7 (i:=0));(iterate 8 rfl);exact (rfl:_=[_,_,_]);clear hS;intro w' hS;simp only [List.set] at hS|(with_reducible apply b9);rfl;all_goals (intro hb hp;try (exfalso;omega))|(with_reducible apply d7 hS);rfl;rfl;rfl;refine ⟨_,hcall _ _ hS,?_⟩;clear hS;intro w' hS|(with_reducible apply o5 hS a7 (i:=1));(iterate 4 rfl);assumption;(iterate 5 rfl);intro w' hS';simp only [List.set] at hS';clear hS;have hS:=hS';clear hS')
   have hrw:(L.map enC).set i (o6 (enC ((L[i]?).getD y)) 0 [.int .i64 y.page,.int .i64 y.kind,.int .i64 y.at_])=(L.set i y).map enC:=by
    rw [xl1];exact congrArg (List.set _ _) (a3W _ _)
   rw [hrw] at hS;refine e9 (i + 1,j + 1,L.set i y) (by exact Fr.sub_of rfl) ⟨by show i + 1 < j + 1;omega,by show j + 1<=l.length;omega,by show (L.set i y).length=_;rw [xa8];exact hL,?_,?_⟩ hS.drop (by show l.length - (j + 1) < l.length - j;omega)
   ·show (L.set i y).take (i + 1)=_;rw [hstep,<- htk,r8 (x:=y) (by rw [xe0];simp;omega),List.take_set_of_le (xd4 _)];rfl
   ·show (L.set i y).drop (j + 1)=l.drop (j + 1);rw [List.drop_set_of_lt (by omega),<- List.drop_drop,<- List.drop_drop,hdr]
 ·obtain rfl:j=l.length:=by omega
  repeat' (first|(with_reducible apply a8 a7);rfl;rfl;rfl|refine yDn (by with_reducible constructor) ?_|(with_reducible apply b9);rfl;all_goals (intro hb hp;try (exfalso;omega))|(with_reducible apply a40 a7 (j:=i));rfl;rfl;rfl;rfl;omega;omega;rfl)
  refine a8j (b4Z hS a7 (i:=0) (k:=i) rfl rfl rfl (by omega) (by rw [xi9];omega) (by omega) rfl) ?_;intro _ w2 hS';simp only [List.set] at hS';clear hS;have hS:=hS';clear hS';rw [show (a0D (L.map enC) (List.replicate (l.length - i) [Value.int .i64 0,Value.int .i64 0,Value.int .i64 0]) i).length=l.length by rw [a2n (by rw [xi9];omega),xi9,xi0];omega] at hS
  repeat' (first|(with_reducible apply a8 a7);rfl;rfl;rfl|refine yDn (by with_reducible constructor) ?_|(with_reducible apply a7c a7 (j:=i));rfl;rfl;rfl;rfl;omega;rfl)
  (refine k7 rfl ?_)
  have hsh:=hS.shrink 0 i rfl (by rw [a2n (by rw [xi9];omega),xi9];omega);rw [xg6] at htk;have hfl:(l.filter fun y=>!p y).length=i:=by rw [<- htk,xa1];omega
  refine ⟨some ⟨g,0,none⟩,c,by rw [hfl],?_⟩;simp only [List.set] at hsh;have hov:(a0D (L.map enC) (List.replicate (l.length - i) [Value.int .i64 0,Value.int .i64 0,Value.int .i64 0]) i).take i=(l.filter fun y=>!p y).map enC:=by
   unfold a0D;rw [xj5 (by rw [xa1,xi9];omega),<- xa4,htk]
  rw [hov] at hsh;exact hsh
theorem ovA {rows Z:List (List Value)} {x:List Value} {i:Nat} (hi:i<=rows.length) (hZ:Z.length=rows.length + 1 - i):a0D (a0D (rows.take i++Z) [x] i) (rows.drop i) (i + 1)=rows.take i++x::rows.drop i:=by
 have hl:(rows.take i).length=i:=by rw [xa1];omega
 have e1:a0D (rows.take i++Z) [x] i=rows.take i++x::Z.drop 1:=by
  unfold a0D;rw [xj5 hl,List.drop_append,hl,xj7 (l:=rows.take i) (by rw [hl,xi6];omega),xi6,show i + 1 - i=1 by omega];rfl
 rw [e1];unfold a0D;rw [xk0,hl,xa0 (l:=rows.take i) (by rw [hl];omega),xj7 (l:=rows.take i++x::Z.drop 1) (by rw [xe9,hl,xb1,xb5,xb5];omega),show i + 1 - i=1 by omega];rw [xl2,xl3,List.append_nil,xg0];rfl
theorem ovB {rows:List (List Value)} {x:List Value} {i:Nat} (hi:i < rows.length):a0D (a0D rows (rows.drop i) (i + 1)) [x] i=rows.take i++x::rows.drop i:=by
 have e1:a0D rows (rows.drop i) (i + 1)=rows.take (i + 1)++rows.drop i:=by
  unfold a0D;rw [xj7 (l:=rows) (i:=i + 1 + (rows.drop i).length) (by rw [xb5];omega),List.append_nil]
 rw [e1];unfold a0D;have hl:(rows.take (i + 1)).length=i + 1:=by rw [xa1];omega
 rw [xk0,List.take_take,xj9 (by omega),hl,show i - (i + 1)=0 by omega,xl3,List.append_nil,xi6,List.drop_left' hl];rfl
theorem b3J {F:Nat->Prop} {w0 w:World} {Γ:List Asr} {v u:Value} {l:List En} {e:En} {i:Nat} (hS0:St F w0 w (enA v l::enA u [e]::Γ)) (hi:i<=l.length) (hl:l.length<=100000) :
  Fn Tryz.prog 167 [v,.int .i64 (i:Nat),u] w (fun v' w'=>∃ q c,v'=.slice q (l.length + 1) c/\St (fps [enA v l,enA u [e]]) w w' [enA v' (l.take i++e::l.drop i)]):=by
 have hS:=St.startM (Δ:=[enA v l,enA u [e]]) hS0;obtain ⟨pp,c,hpp⟩:=hS.rowSlice 0 rfl;obtain ⟨pu,cu,hpu⟩:=hS.rowSlice 1 rfl;rw [show (List.map enC [e]).length=1 from rfl] at hpu;rw [xi9] at hpp;generalize fps [enA v l,enA u [e]]=G at hS |-;subst hpp hpu;unfold enA at hS |-;obtain ⟨gu,rfl⟩:=hS.rowSome 1 rfl (by show 0 < 1;omega);have hro:RoAt nF w gu 0 3 [enC e]:=hS.rowRo 1 rfl;refine yEn Tryz.func167 Tryz.ntmps167 (by kernel_rfl) (by kernel_rfl) rfl rfl ?_;by_cases hin:i=l.length
 ·subst hin
  repeat' (first|(with_reducible apply a8 a7);rfl;rfl;rfl|refine yDn (by with_reducible constructor) ?_|(with_reducible apply f8);rfl;rfl|(with_reducible apply b9);rfl;all_goals (intro hb hp;try (exfalso;omega))|(with_reducible apply a4p a7 (j:=l.length));(iterate 4 rfl);omega;rfl|(with_reducible apply a2s hS a7 0);(iterate 4 rfl);exact hS.rowRo 1 rfl;rfl;(simp only [xi9,xb1,xa2,xe9];omega);rfl;intro p' cap' w' hS';simp only [List.set] at hS';clear hS;have hS:=hS';clear hS')
  (refine k7 rfl ?_)
  refine ⟨p',cap',by rw [xi9],?_⟩;rw [xg6,xl4,xl5];exact hS.sub (by repeat (first|exact xj1 _|apply List.Sublist.cons_cons))
 ·obtain ⟨g,rfl⟩:=hS.rowSome 0 rfl (by omega);have hcc:l.length<=c:=by
   rcases hS.rowForm 0 rfl with ⟨h1,-⟩|⟨g',c',h1,h2,-⟩
   ·cases h1
   ·injection h1 with _ _ h3;subst h3;rw [xi9] at h2;exact h2
  have hml:(l.map enC).length=l.length:=xi9 _;have hdl:((l.map enC).drop i).length=l.length - i:=by rw [xb5,hml]
  by_cases hc:c < l.length + 1
  ·repeat' (first|(with_reducible apply a8 a7);rfl;rfl;rfl|(with_reducible apply j4);rfl;rfl;omega;omega;rfl|(with_reducible apply a0m);rfl;rfl;omega;omega;rfl|refine yDn (by with_reducible constructor) ?_|(with_reducible apply f8);rfl;rfl|(with_reducible apply b9);rfl;all_goals (intro hb hp;try (exfalso;omega))|(with_reducible apply a4p a7 (j:=i));(iterate 4 rfl);omega;rfl|(with_reducible apply a7c a7 (j:=i));rfl;rfl;rfl;rfl;omega;rfl|(with_reducible apply b54 a7);rfl;rfl;rfl)
   refine a09 rfl (b2w hS a7 (i:=0) (k:=i) (q:=l.length + 1 - i) rfl rfl rfl rfl (by omega) rfl (by omega) (by omega) (by omega) (by omega) rfl) ?_;rintro _ w2 ⟨g2,c2,rfl,hc2,hS'⟩;clear hS;have hS:=hS';clear hS';have hq:i + (l.length + 1 - i)=l.length + 1:=by omega
   rw [hq] at hS hc2 |-
   repeat' (first|(with_reducible apply a8 a7);rfl;rfl;rfl|refine yDn (by with_reducible constructor) ?_|(with_reducible apply a40 a7 (j:=i));rfl;rfl;rfl;rfl;omega;omega;rfl)
   have hz1:(List.take i (List.map enC l)++List.replicate (l.length + 1 - i) [Value.int .i64 0,Value.int .i64 0,Value.int .i64 0]).length=l.length + 1:=by rw [xe9,xa1,xi0,hml];omega
   refine a09 rfl (a8G hS a7 (i:=0) (k:=i) (news:=[enC e]) rfl rfl rfl rfl (hS.rowRo 2 rfl) (by rw [xi6];omega) (by rw [hz1];omega) (by rw [xi6];omega)) ?_;rintro _ w3 ⟨rfl,hS'⟩;simp only [List.set] at hS';clear hS;have hS:=hS';clear hS';have hz2:=a2n (rows:=List.take i (List.map enC l)++List.replicate (l.length + 1 - i) [Value.int .i64 0,Value.int .i64 0,Value.int .i64 0]) (news:=[enC e]) (k:=i) (by rw [hz1];omega);rw [hz1,xi6,Nat.max_eq_left (by omega)] at hz2;rw [hz2] at hS
   repeat' ((refine yDn (by with_reducible constructor) ?_))
   (focus ((with_reducible apply a0p _ _ _ 8 (by kernel_rfl) (by kernel_rfl) hS);(simp only [xl2,xl3,xl6,xl7]);(repeat' (first|(first|(with_reducible apply b39);rfl;rfl;omega;omega;rfl|(with_reducible apply i7 a7);rfl;rfl)|(with_reducible apply a46 a7 (j:=i + 1));rfl;rfl;rfl;rfl;omega;omega;rfl|(with_reducible apply a46 a7 (j:=i));rfl;rfl;rfl;rfl;omega;omega;rfl));all_goals ((with_reducible apply j7);intro w' hS';clear hS;have hS:=hS';clear hS')))
   refine a09 rfl (a8G hS a7 (i:=0) (k:=i + 1) (news:=(l.map enC).drop i) rfl rfl rfl rfl ((hS.rowRo 1 rfl).drop i) (by rw [hdl];omega) (by rw [hz2];omega) (by rw [hdl];omega)) ?_;rintro _ w4 ⟨rfl,hS'⟩;simp only [List.set] at hS';clear hS;have hS:=hS';clear hS';rw [ovA (by rw [hml];exact hi) (by rw [xi0,hml])] at hS;have hz3:(List.take i (List.map enC l)++enC e::(List.map enC l).drop i).length=l.length + 1:=by rw [xe9,xa1,xb1,xb5,hml];omega
   rw [hz3] at hS
   repeat' (first|(with_reducible apply a8 a7);rfl;rfl;rfl|refine yDn (by with_reducible constructor) ?_)
   (refine k7 rfl ?_)
   refine ⟨_,_,rfl,?_⟩;rw [xl5,xc0,xa4,List.map_drop];exact hS.sub (by repeat (first|exact xj1 _|apply List.Sublist.cons_cons))
  ·have hap:=fun w1 (h:St G w w1 [.row 91 3 (.slice (some ⟨g,0,none⟩) l.length c) (l.map enC),.row 91 3 (.slice (some ⟨gu,0,none⟩) 1 cu) (List.map enC [e])])=>b2S h a7 (t:=73) (tR:=4) (i:=1) (j:=0) (o:=0 + (i + 1) * 3) (lb:=l.length + 1 - (i + 1)) (cb:=c - (i + 1)) rfl rfl rfl (by omega) (by omega)
   repeat' (first|(with_reducible apply a8 a7);rfl;rfl;rfl|(with_reducible apply j4);rfl;rfl;omega;omega;rfl|refine yDn (by with_reducible constructor) ?_|(with_reducible apply f6);rfl;rfl|(with_reducible apply f8);rfl;rfl|(with_reducible apply b9);rfl;all_goals (intro hb hp;try (exfalso;omega))|(with_reducible apply a4p a7 (j:=i));(iterate 4 rfl);omega;rfl|(with_reducible apply a7c a7 (j:=l.length + 1));rfl;rfl;rfl;rfl;omega;rfl|(with_reducible apply a40 a7 (j:=i + 1));rfl;rfl;rfl;rfl;omega;omega;rfl|(with_reducible apply b54 a7);rfl;rfl;rfl|(with_reducible apply b3v Tryz.func174 (by kernel_rfl) (by kernel_rfl) (by kernel_rfl) (by kernel_rfl));rfl;rfl;exact hap _ hS;rfl)
   (focus ((with_reducible apply a0p _ _ _ 8 (by kernel_rfl) (by kernel_rfl) hS);(simp only [xl2,xl3,xl6,xl7]);(repeat' (first|(first|(with_reducible apply b39);rfl;rfl;omega;omega;rfl|(with_reducible apply i7 a7);rfl;rfl)|(with_reducible apply a46 a7 (j:=i + 1));rfl;rfl;rfl;rfl;omega;omega;rfl|(with_reducible apply a46 a7 (j:=i));rfl;rfl;rfl;rfl;omega;omega;rfl));all_goals ((with_reducible apply j7);intro w' hS';clear hS;have hS:=hS';clear hS')))
   refine a09 rfl (a8G hS a7 (i:=0) (k:=i + 1) (news:=(l.map enC).drop i) rfl rfl rfl rfl ((hS.rowRo 0 rfl).drop i) (by rw [hdl];omega) (by rw [hml];omega) (by rw [hdl];omega)) ?_;rintro _ w4 ⟨rfl,hS'⟩;simp only [List.set] at hS';clear hS;have hS:=hS';clear hS';have hz2:=a2n (rows:=l.map enC) (news:=(l.map enC).drop i) (k:=i + 1) (by rw [hml];omega);rw [hml,hdl,show max l.length (i + 1 + (l.length - i))=l.length + 1 by omega] at hz2;rw [hz2] at hS
   repeat' (first|(with_reducible apply a8 a7);rfl;rfl;rfl|refine yDn (by with_reducible constructor) ?_|(with_reducible apply a40 a7 (j:=i));rfl;rfl;rfl;rfl;omega;omega;rfl)
   refine a09 rfl (a8G hS a7 (i:=0) (k:=i) (news:=[enC e]) rfl rfl rfl rfl (hS.rowRo 1 rfl) (by rw [xi6];omega) (by rw [hz2];omega) (by rw [xi6];omega)) ?_;rintro _ w3 ⟨rfl,hS'⟩;simp only [List.set] at hS';clear hS;have hS:=hS';clear hS';rw [ovB (by rw [hml];omega)] at hS;have hz3:(List.take i (List.map enC l)++enC e::(List.map enC l).drop i).length=l.length + 1:=by rw [xe9,xa1,xb1,xb5,hml];omega
   rw [hz3] at hS
   repeat' (first|(with_reducible apply a8 a7);rfl;rfl;rfl|refine yDn (by with_reducible constructor) ?_)
   (refine k7 rfl ?_)
   refine ⟨_,_,rfl,?_⟩;rw [xl5,xc0,xa4,List.map_drop];exact hS.sub (by repeat (first|exact xj1 _|apply List.Sublist.cons_cons))
theorem a6D {α:Type} {f:α->List Value} {l:List α} {w:World} {v:Value} (hL:Sl nF w 4 v (l.map f)) (hl:l.length<=100000):Fn Tryz.prog 110 [v] w (fun v' w'=>∃ q c,v'=.slice q l.length c/\St nF w w' [.row 89 4 v' (l.map f)]):=by
 obtain ⟨pp,c,rfl⟩:=hL.len;refine yEn Tryz.func110 Tryz.ntmps110 (by kernel_rfl) (by kernel_rfl) rfl rfl ?_;have hS:=St.start w
 cases pp with
 |none=>
  have h0:l.map f=[]:=by
   rcases hL with ⟨p,c',h1,h2⟩|⟨b,off,cap,h1,-⟩
   ·exact h2
   ·cases h1
  have h1:l.length=0:=by simpa using h0
  repeat' (first|(with_reducible apply a8 a7);rfl;rfl;rfl|refine yDn (by with_reducible constructor) ?_|(with_reducible apply f6);rfl;rfl|(with_reducible apply a12 a7);(iterate 4 rfl))
  (refine k7 rfl ?_)
  refine ⟨none,0,by rw [h1],?_⟩;rw [h0];exact (hS.sub (xj1 _)).addNil _ _
 |some p=>
  repeat' (first|(with_reducible apply a8 a7);rfl;rfl;rfl|refine yDn (by with_reducible constructor) ?_|(with_reducible apply f8);rfl;rfl|(with_reducible apply a0R hS a7);(iterate 7 rfl);clear hS;intro g w' hS|(with_reducible apply a12 a7);(iterate 4 rfl)|(with_reducible apply a06 hS a7 0);(iterate 4 rfl);exact (hL.now hS);(simp only [xi9,xb1,xa2,xe9];omega);rfl;intro p' cap' w' hS';simp only [List.set] at hS';clear hS;have hS:=hS';clear hS')
  (refine k7 rfl ?_)
  refine ⟨p',cap',by rw [xa2,xa9,xi9],?_⟩;rw [List.nil_append] at hS;exact hS.sub (by repeat ((exact xl8 _)))
theorem a4A {α:Type} {f:α->List Value} {l:List α} {w:World} {v:Value} (hL:Sl nF w 2 v (l.map f)) (hl:l.length<=100000):Fn Tryz.prog 111 [v] w (fun v' w'=>∃ q c,v'=.slice q l.length c/\St nF w w' [.row 143 2 v' (l.map f)]):=by
 obtain ⟨pp,c,rfl⟩:=hL.len;refine yEn Tryz.func111 Tryz.ntmps111 (by kernel_rfl) (by kernel_rfl) rfl rfl ?_;have hS:=St.start w
 cases pp with
 |none=>
  have h0:l.map f=[]:=by
   rcases hL with ⟨p,c',h1,h2⟩|⟨b,off,cap,h1,-⟩
   ·exact h2
   ·cases h1
  have h1:l.length=0:=by simpa using h0
  repeat' (first|(with_reducible apply a8 a7);rfl;rfl;rfl|refine yDn (by with_reducible constructor) ?_|(with_reducible apply f6);rfl;rfl|(with_reducible apply a12 a7);(iterate 4 rfl))
  (refine k7 rfl ?_)
  refine ⟨none,0,by rw [h1],?_⟩;rw [h0];exact (hS.sub (xj1 _)).addNil _ _
 |some p=>
  repeat' (first|(with_reducible apply a8 a7);rfl;rfl;rfl|refine yDn (by with_reducible constructor) ?_|(with_reducible apply f8);rfl;rfl|(with_reducible apply a0R hS a7);(iterate 7 rfl);clear hS;intro g w' hS|(with_reducible apply a12 a7);(iterate 4 rfl)|(with_reducible apply a06 hS a7 0);(iterate 4 rfl);exact (hL.now hS);(simp only [xi9,xb1,xa2,xe9];omega);rfl;intro p' cap' w' hS';simp only [List.set] at hS';clear hS;have hS:=hS';clear hS')
  (refine k7 rfl ?_)
  refine ⟨p',cap',by rw [xa2,xa9,xi9],?_⟩;rw [List.nil_append] at hS;exact hS.sub (by repeat ((exact xl8 _)))
theorem b0H {α:Type} {f:α->List Value} {l:List α} {w:World} {v:Value} (hL:Sl nF w 2 v (l.map f)) (hl:l.length<=100000):Fn Tryz.prog 112 [v] w (fun v' w'=>∃ q c,v'=.slice q l.length c/\St nF w w' [.row 96 2 v' (l.map f)]):=by
 obtain ⟨pp,c,rfl⟩:=hL.len;refine yEn Tryz.func112 Tryz.ntmps112 (by kernel_rfl) (by kernel_rfl) rfl rfl ?_;have hS:=St.start w
 cases pp with
 |none=>
  have h0:l.map f=[]:=by
   rcases hL with ⟨p,c',h1,h2⟩|⟨b,off,cap,h1,-⟩
   ·exact h2
   ·cases h1
  have h1:l.length=0:=by simpa using h0
  repeat' (first|(with_reducible apply a8 a7);rfl;rfl;rfl|refine yDn (by with_reducible constructor) ?_|(with_reducible apply f6);rfl;rfl|(with_reducible apply a12 a7);(iterate 4 rfl))
  (refine k7 rfl ?_)
  refine ⟨none,0,by rw [h1],?_⟩;rw [h0];exact (hS.sub (xj1 _)).addNil _ _
 |some p=>
  repeat' (first|(with_reducible apply a8 a7);rfl;rfl;rfl|refine yDn (by with_reducible constructor) ?_|(with_reducible apply f8);rfl;rfl|(with_reducible apply a0R hS a7);(iterate 7 rfl);clear hS;intro g w' hS|(with_reducible apply a12 a7);(iterate 4 rfl)|(with_reducible apply a06 hS a7 0);(iterate 4 rfl);exact (hL.now hS);(simp only [xi9,xb1,xa2,xe9];omega);rfl;intro p' cap' w' hS';simp only [List.set] at hS';clear hS;have hS:=hS';clear hS')
  (refine k7 rfl ?_)
  refine ⟨p',cap',by rw [xa2,xa9,xi9],?_⟩;rw [List.nil_append] at hS;exact hS.sub (by repeat ((exact xl8 _)))
theorem b0s {α:Type} {f:α->List Value} {l:List α} {w:World} {v:Value} (hL:Sl nF w 4 v (l.map f)) (hl:l.length<=100000):Fn Tryz.prog 45 [v] w (fun v' w'=>∃ q c,v'=.slice q l.length c/\St nF w w' [.row 81 4 v' (l.map f)]):=by
 obtain ⟨pp,c,rfl⟩:=hL.len;refine yEn Tryz.func45 Tryz.ntmps45 (by kernel_rfl) (by kernel_rfl) rfl rfl ?_;have hS:=St.start w
 cases pp with
 |none=>
  have h0:l.map f=[]:=by
   rcases hL with ⟨p,c',h1,h2⟩|⟨b,off,cap,h1,-⟩
   ·exact h2
   ·cases h1
  have h1:l.length=0:=by simpa using h0
  repeat' (first|(with_reducible apply a8 a7);rfl;rfl;rfl|refine yDn (by with_reducible constructor) ?_|(with_reducible apply f6);rfl;rfl|(with_reducible apply a12 a7);(iterate 4 rfl))
  (refine k7 rfl ?_)
  refine ⟨none,0,by rw [h1],?_⟩;rw [h0];exact (hS.sub (xj1 _)).addNil _ _
 |some p=>
  repeat' (first|(with_reducible apply a8 a7);rfl;rfl;rfl|refine yDn (by with_reducible constructor) ?_|(with_reducible apply f8);rfl;rfl|(with_reducible apply a0R hS a7);(iterate 7 rfl);clear hS;intro g w' hS|(with_reducible apply a12 a7);(iterate 4 rfl)|(with_reducible apply a06 hS a7 0);(iterate 4 rfl);exact (hL.now hS);(simp only [xi9,xb1,xa2,xe9];omega);rfl;intro p' cap' w' hS';simp only [List.set] at hS';clear hS;have hS:=hS';clear hS')
  (refine k7 rfl ?_)
  refine ⟨p',cap',by rw [xa2,xa9,xi9],?_⟩;rw [List.nil_append] at hS;exact hS.sub (by repeat ((exact xl8 _)))
theorem b0Y {α:Type} {f:α->List Value} {l:List α} {w:World} {v:Value} (hL:Sl nF w 3 v (l.map f)) (hl:l.length<=100000):Fn Tryz.prog 113 [v] w (fun v' w'=>∃ q c,v'=.slice q l.length c/\St nF w w' [.row 91 3 v' (l.map f)]):=by
 obtain ⟨pp,c,rfl⟩:=hL.len;refine yEn Tryz.func113 Tryz.ntmps113 (by kernel_rfl) (by kernel_rfl) rfl rfl ?_;have hS:=St.start w
 cases pp with
 |none=>
  have h0:l.map f=[]:=by
   rcases hL with ⟨p,c',h1,h2⟩|⟨b,off,cap,h1,-⟩
   ·exact h2
   ·cases h1
  have h1:l.length=0:=by simpa using h0
  repeat' (first|(with_reducible apply a8 a7);rfl;rfl;rfl|refine yDn (by with_reducible constructor) ?_|(with_reducible apply f6);rfl;rfl|(with_reducible apply a12 a7);(iterate 4 rfl))
  (refine k7 rfl ?_)
  refine ⟨none,0,by rw [h1],?_⟩;rw [h0];exact (hS.sub (xj1 _)).addNil _ _
 |some p=>
  repeat' (first|(with_reducible apply a8 a7);rfl;rfl;rfl|refine yDn (by with_reducible constructor) ?_|(with_reducible apply f8);rfl;rfl|(with_reducible apply a0R hS a7);(iterate 7 rfl);clear hS;intro g w' hS|(with_reducible apply a12 a7);(iterate 4 rfl)|(with_reducible apply a06 hS a7 0);(iterate 4 rfl);exact (hL.now hS);(simp only [xi9,xb1,xa2,xe9];omega);rfl;intro p' cap' w' hS';simp only [List.set] at hS';clear hS;have hS:=hS';clear hS')
  (refine k7 rfl ?_)
  refine ⟨p',cap',by rw [xa2,xa9,xi9],?_⟩;rw [List.nil_append] at hS;exact hS.sub (by repeat ((exact xl8 _)))
end Go.Proofs.YtejnpppejalhfabGreat
