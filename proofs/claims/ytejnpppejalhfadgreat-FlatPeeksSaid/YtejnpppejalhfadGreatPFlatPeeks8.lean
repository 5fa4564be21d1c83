/- Texts that the proof stands on, one behind the other: Ar11, Ar12, Ar13, Ar14, Ar15, Ar16, As3, As4, Ar6, As5, PlArea3, PlFl, Choose, Im1, Fl1, PlLnk2, PlKer, Lk1, Lk2, Lk3, Ke1, PlLnk3, Lk4, Lk5, PlLnk4, Lk6, PlLnk5, PlFix, PlLay, PlLink, Lk8, Lk7, Lk9, Lk10, Lk11, Im2, Im3, Im4, Sc13, Im5, Im6, Im7, Im8, Lk12, Lk14, Lk15, Im9, Im10, Lk16, PlOf, PlRd, Im21, Lk17, Lk18, Ke2, Lk19, Ke3, Ke4, Ke5, PlKer2, Ke6. -/
import Derived.Lib.QuietBelow
import Derived.Test.YtejnpppejalhfadGreatPFlatPeeks7
set_option linter.unusedVariables false
set_option linter.unusedSimpArgs false
namespace Go.Proofs.YtejnpppejalhfadGreat
set_option maxRecDepth 100000
set_option maxHeartbeats 8000000
open Go.RowKit Go.Sort
theorem a3o {va vb:Value} {A B:List Ar} {w:World} (ha:SlAr w va A) (hb:SlAr w vb B):Calls Tryz.prog 31 #[va,vb] w (RB (.bool (decide (A=B))) w):=by
 rcases ha with ⟨p,c,rfl,rfl⟩|⟨b1,off1,cap1,rfl,h2,h3,h4,h5⟩
 ·rcases hb with ⟨p2,c2,rfl,rfl⟩|⟨b2,off2,cap2,rfl,k2,k3,k4,k5⟩
  ·go_enter Tryz.func31,Tryz.ntmps31
   go_wp2
   go_loopw [5] (fun vi wr=>vi=.int .i64 0/\wr=w) (fun _ _=>0)
   case atStart=>exact ⟨rfl,rfl⟩
   case round=>
    obtain ⟨rfl,rfl⟩:=hrel
    go_wp2
    go_ret
    exact ⟨g9 (by simp),Below.refl _ _⟩
  ·cases B with
   |nil=>
    simp only [xa2]
    go_enter Tryz.func31,Tryz.ntmps31
    go_wp2
    go_loopw [5] (fun vi wr=>vi=.int .i64 0/\wr=w) (fun _ _=>0)
    case atStart=>exact ⟨rfl,rfl⟩
    case round=>
     obtain ⟨rfl,rfl⟩:=hrel
     go_wp2
     go_ret
     exact ⟨g9 (by simp),Below.refl _ _⟩
   |cons c B=>
    have hn:((0:Int) != ((c::B).length:Nat))=true:=by rw [xk3];simp;omega
    generalize hD:(c::B).length=n at *
    go_enter Tryz.func31,Tryz.ntmps31
    go_wp2
    go_ret
    exact ⟨g9 (by simp),Below.refl _ _⟩
 ·rcases hb with ⟨p2,c2,rfl,rfl⟩|⟨b2,off2,cap2,rfl,k2,k3,k4,k5⟩
  ·cases A with
   |nil=>
    simp only [xa2]
    go_enter Tryz.func31,Tryz.ntmps31
    go_wp2
    go_loopw [5] (fun vi wr=>vi=.int .i64 0/\wr=w) (fun _ _=>0)
    case atStart=>exact ⟨rfl,rfl⟩
    case round=>
     obtain ⟨rfl,rfl⟩:=hrel
     go_wp2
     go_ret
     exact ⟨g9 (by simp),Below.refl _ _⟩
   |cons c A=>
    have hn:(((c::A).length:Int) != 0)=true:=by rw [xk3];simp;omega
    generalize hD:(c::A).length=n at *
    go_enter Tryz.func31,Tryz.ntmps31
    go_wp2
    go_ret
    exact ⟨g9 (by simp),Below.refl _ _⟩
  ·by_cases hl:A.length=B.length
   ·exact a5B b1 off1 cap1 b2 off2 cap2 h2 k2 h5 k5 hl (a5g h3 h4)
   ·have HX:=hid (a8Y hl);have hn:((A.length:Int) != B.length)=true:=by rw [xk3];omega
    clear hl h4 k4 h5 k5 h3 k3
    go_enter Tryz.func31,Tryz.ntmps31
    go_wp2
    go_ret
    exact ⟨g9 (xg8 HX.out).symm,Below.refl _ _⟩
theorem a0V (n lo hi:Int) (w:World):Calls Tryz.prog 38 #[.int .i64 n,.int .i64 lo,.int .i64 hi] w fun e w'=>e=.returned (.bool (decide (lo<=n/\n<=hi)))/\w=w':=by
 by_cases h1:lo<=n
 ·by_cases h2:n<=hi
  ·go_enter Tryz.func38,Tryz.ntmps38
   go_wp2
   go_ret
   exact ⟨g9 (by simp [h1,h2]),rfl⟩
  ·go_enter Tryz.func38,Tryz.ntmps38
   go_wp2
   go_ret
   exact ⟨g9 (by simp [h1,h2]),rfl⟩
 ·go_enter Tryz.func38,Tryz.ntmps38
  go_wp2
  go_ret
  exact ⟨g9 (by simp;omega),rfl⟩
theorem s5 {P:Program} {w:World} {ops:Array Oper} {rest:List Oper} {o:Oper} {a:Act} {Q:Exit->Act->World->Prop} (hw:Region.wanted o (yielded ops a.tmps)=true) (ty:TypeId) (x:Operand) (ho:o.op=.load ty x) (g:Nat) (L:List Value) (hx:a.eval x=.pointer (some ⟨g,0,none⟩)) (h:HoldL w g L) (d:TypeDesc)
  (hu:P.underlying ty=some d) (hd:(match d with|.struct _|.array _ _=>true|_=>false)=true) (hi:(P.info? ty).map (·.size)=some L.length)
  (next:wpList P ops Q rest (a.put o.dst (.agg L.toArray)) w):wpList P ops Q (o::rest) a w:=by
 obtain ⟨t,ht⟩:=h;unfold wpList;rw [xd6 hw];exact xc6 (wp_load_row ty x ho g hx t _ _ d ht hu hd (by simpa using hi) next)
theorem a4j {v:Value} {L:List Ar} {w:World} (h:SlAr w v L) (hok:∀ (i:Nat) (a:Ar),L[i]?=some a->a.ok) (hlen:L.length<=255):Calls Tryz.prog 99 #[v] w (s9 L w):=by
 rcases h with ⟨p,c,rfl,rfl⟩|⟨b,off,cap,rfl,h2,h3,h4,h5⟩
 ·exact a5V p c w
 ·exact a58 b off cap h2 h5 hok hlen
theorem a3O {L:List Ar} (hl:¬ 255 < L.length) (hr:¬ i9 1 L):b4 L=1:=by
 unfold b4;rw [xd7 hl,xd7 (fun g=>hr g.1)]
theorem a3J {L:List Ar} (hl:¬ 255 < L.length) (hr:i9 1 L):b4 L=if l0 (d6 L) 255=L then 0 else 1:=by
 unfold b4;rw [xd7 hl];by_cases h:a0p L
 ·rw [xd6 ⟨hr,h⟩,xd6 ((a1D hr).2 h)]
 ·rw [xd7 (fun g=>h g.2),xd7 (fun e=>h ((a1D hr).1 e))]
theorem a2t (p:Option Addr) (c:Nat) (w:World):Calls Tryz.prog 56 #[.slice p 0 c] w (RB (.int .i64 0) w):=by
 have hszb:(Tryz.prog.info? 203).map (·.size)=some 256:=by kernel_rfl
 have Hszb:=hid hszb;clear hszb;have hbw:=Below.refl w.heap.size w;obtain ⟨L,hL⟩:∃ L:List Ar,L=[]:=⟨_,rfl⟩;have HR:Hid (i9 1 L):=by rw [hL];exact trivial
 have HSL:Hid (SlAr w (.slice p 0 c) L):=xc6 ⟨_,_,rfl,hL⟩;have HBD:Hid (∀ w',Below w.heap.size w w'->Calls Tryz.prog 99 #[.slice p 0 c] w' (s9 L w')):=fun w' hb=>a4j (HSL.out.grown hb) (by rw [hL];intro i a h;simp at h) (by rw [hL];simp);unfold s9 at HBD;rw [xg6 HR.out] at HBD;have HAO:=hid (fun w'=>a1H (d6 L) (fun p=>a01 p HR.out) (m6 HR.out (by omega)) w');have HEQ:Hid (l0 (d6 L) 255=L):=hid (by rw [hL];exact a0y ⟨trivial,trivial⟩);clear hL
 go_enter Tryz.func56,Tryz.ntmps56
 go_wp2
 go_loopw [3] (fun vi wr=>vi=.int .i64 0/\w=wr) (fun _ _=>0)
 case atStart=>exact ⟨rfl,rfl⟩
 case round=>
  obtain ⟨rfl,rfl⟩:=hrel
  go_wp2_with (first|go_at_call 99;(with_reducible refine (HBD.out _ hbw).mono ?_);rintro e wc ⟨bd,rfl,hbc,hbd⟩;rw [hbd HR.out];clear hbd;have hbn:=bt hbw hbc;clear hbw hbc;have hbw:=hbn;clear hbn|(with_reducible refine l2 5 ?_);refine b8 rfl (some 5) rfl (bdC (fun _=>0)) 203 (by kernel_rfl) w.heap.size w hbw hbw.size ?_;intro g5 wn5 hL5 hB5 hbn hkn hnn;skip;clear hbw hkn hnn;have hbw:=hbn;clear hbn|(with_reducible refine j4 5 ?_);refine a6 rfl 203 (.tmp 5) (.tmp 48) rfl rfl g5 (bdC (d6 L)) (bdC (fun _=>0)) rfl rfl hL5 (by rw [Hszb.out,g8]) (by simp [g8]) (a0k _) w.heap.size w hbw hB5 ?_;intro wp5 hLn hbn hon;clear hL5 hbw hon;have hL5:=hLn;have hbw:=hbn;clear hLn hbn|(with_reducible refine l2 53 ?_);refine s5 rfl 203 (.tmp 5) rfl g5 (bdC (d6 L)) rfl hL5 _ Tryz.underlying203 rfl (by rw [Hszb.out,g8]) ?_|go_at_call 100;(with_reducible refine (HAO.out _).mono ?_);rintro e wa ⟨va,rfl,hsa,hba⟩;have hbn:=bt hbw hba;clear hbw hba;have hbw:=hbn;clear hbn)
  have HC:=a3o (a4n hsa) (HSL.out.grown hbw);rw [xg6 HEQ.out] at HC;have HC:=hid HC
  go_wp2_with (first|go_at_call 31;(with_reducible refine (HC.out).mono ?_);rintro e wz ⟨rfl,hbz⟩)
  go_ret
  exact ⟨j7 rfl,bt hbw hbz⟩
theorem a1L {L:List Ar} {w:World} (b off cap:Nat) (hbl:b < w.heap.size) (hcap:L.length<=cap) (hmax:cap<=maxLen) (d9:∀ i a,L[i]?=some a->CellsAr w b (off + i * 4) a) :
  Calls Tryz.prog 56 #[.slice (some ⟨b,off,none⟩) L.length cap] w (RB (.int .i64 (b4 L)) w):=by
 by_cases hm:255 < L.length
 ·have HC:=hid (a1y hm);clear hmax;generalize b4 L=r at *
  go_enter Tryz.func56,Tryz.ntmps56
  go_wp2
  go_ret
  exact ⟨j7 HC.out.symm,Below.refl _ _⟩
 have hszb:(Tryz.prog.info? 203).map (·.size)=some 256:=by kernel_rfl
 have Hszb:=hid hszb;clear hszb;have HSL:Hid (SlAr w (.slice (some ⟨b,off,none⟩) L.length cap) L):=xc3 ⟨b,off,cap,rfl,hbl,hcap,hmax,d9⟩;have HL:=hid d9;have hlen:L.length<=255:=by omega
 clear d9 hmax hcap;obtain ⟨r,hr⟩:∃ r,r=b4 L:=⟨_,rfl⟩;rw [<- hr];have HQ:=hid hr;clear hr
 go_enter Tryz.func56,Tryz.ntmps56
 go_wp2
 go_loopw [3] (fun vi wr=>∃ i:Nat,i<=L.length/\vi=.int .i64 i/\Below w.heap.size w wr/\Hid (∀ (j:Nat) (a:Ar),j < i->L[j]?=some a->a.ok)) (fun vi _=>L.length - (intOf vi).toNat)
 case atStart=>exact ⟨0,by omega,rfl,Below.refl _ _,fun j a hj=>by omega⟩
 case round=>
  obtain ⟨i,hi,rfl,hbw,HO⟩:=hrel;by_cases hlt:i < L.length
  ·obtain ⟨a,ha⟩:∃ a,L[i]?=some a:=⟨L[i],by simp [hlt]⟩;obtain ⟨c0,c1,c2,c3⟩:=(HL.out i a ha).grown hbw hbl;have hbr:=z7 (xa6 hbl hbw.size);have hsz:=hbw.size;have HW1:=hid (fun w=>a0V a.pg 1 255 w);have HW2:=hid (fun w=>a0V a.n 1 255 w);have HW4:=hid (fun w=>a0V a.prot 0 3 w);by_cases h1:1<=a.pg/\a.pg<=255
   ·rw [xg6 h1] at HW1;by_cases h2:1<=a.n/\a.n<=255
    ·rw [xg6 h2] at HW2;have hw1:wrap64 (a.pg + a.n)=a.pg + a.n:=j0 _ (by omega) (by omega);have hw2:wrap64 (a.pg + a.n - 1)=a.pg + a.n - 1:=j0 _ (by omega) (by omega);by_cases h3:255 < a.pg + a.n - 1
     ·have HX:=hid (a0v ha (fun h=>by unfold Ar.ok at h;omega));clear h1 h2
      go_wp2_with (first|go_at_call 38;(with_reducible refine (HW1.out _).mono ?_);rintro e w1 ⟨rfl,rfl⟩|go_at_call 38;(with_reducible refine (HW2.out _).mono ?_);rintro e w1 ⟨rfl,rfl⟩|go_at_call 38;(with_reducible refine (HW4.out _).mono ?_);rintro e w1 ⟨rfl,rfl⟩)
      go_ret
      exact ⟨j7 (by rw [HQ.out,p9 hm hlt HX.out]),(by repeat (first|with_reducible exact Below.refl _ _|with_reducible assumption|with_reducible refine Below.alloc ?_ (by first|omega|(simp;done)|(simp;omega)) _|with_reducible refine Below.setCell ?_ (by first|omega|(simp;done)|(simp;omega)) _|with_reducible refine Below.drew ?_|with_reducible refine bt ?_ (below_regrown _ _ _)|refine bt ?_ (by with_reducible assumption)))⟩
     ·by_cases h4:0<=a.prot/\a.prot<=3
      ·rw [xg6 h4] at HW4;have HX:Hid (a.ok):=hid (by unfold Ar.ok;omega);have HMS:=hid (ms5 hlt);have hws:wrap64 ((i:Int) + 1)=(i:Int) + 1:=j0 _ (by omega) (by omega);have h3':a.pg + a.n - 1<=255:=by omega
       clear h1 h2 h3 h4
       go_wp2_with (first|go_at_call 38;(with_reducible refine (HW1.out _).mono ?_);rintro e w1 ⟨rfl,rfl⟩|go_at_call 38;(with_reducible refine (HW2.out _).mono ?_);rintro e w1 ⟨rfl,rfl⟩|go_at_call 38;(with_reducible refine (HW4.out _).mono ?_);rintro e w1 ⟨rfl,rfl⟩)
       go_roundw
       case rel=>
        refine ⟨i + 1,hlt,by first|rfl|(rw [hws];rfl),(by repeat (first|with_reducible exact Below.refl _ _|with_reducible assumption|with_reducible refine Below.alloc ?_ (by first|omega|(simp;done)|(simp;omega)) _|with_reducible refine Below.setCell ?_ (by first|omega|(simp;done)|(simp;omega)) _|with_reducible refine Below.drew ?_|with_reducible refine bt ?_ (below_regrown _ _ _)|refine bt ?_ (by with_reducible assumption))),fun j x hj hx=>?_⟩;rcases xk5.1 hj with h|h
        ·exact HO.out j x h hx
        ·subst h;rw [ha] at hx;cases hx;exact HX.out
       case measure=>first|exact HMS.out|(rw [hws];exact HMS.out)
      ·rw [xg8 h4] at HW4;have HX:=hid (a0v ha (fun h=>by unfold Ar.ok at h;omega));have h3':a.pg + a.n - 1<=255:=by omega
       clear h1 h2 h3 h4
       go_wp2_with (first|go_at_call 38;(with_reducible refine (HW1.out _).mono ?_);rintro e w1 ⟨rfl,rfl⟩|go_at_call 38;(with_reducible refine (HW2.out _).mono ?_);rintro e w1 ⟨rfl,rfl⟩|go_at_call 38;(with_reducible refine (HW4.out _).mono ?_);rintro e w1 ⟨rfl,rfl⟩)
       go_ret
       exact ⟨j7 (by rw [HQ.out,p9 hm hlt HX.out]),(by repeat (first|with_reducible exact Below.refl _ _|with_reducible assumption|with_reducible refine Below.alloc ?_ (by first|omega|(simp;done)|(simp;omega)) _|with_reducible refine Below.setCell ?_ (by first|omega|(simp;done)|(simp;omega)) _|with_reducible refine Below.drew ?_|with_reducible refine bt ?_ (below_regrown _ _ _)|refine bt ?_ (by with_reducible assumption)))⟩
    ·rw [xg8 h2] at HW2;have HX:=hid (a0v ha (fun h=>by unfold Ar.ok at h;omega));clear h1 h2
     go_wp2_with (first|go_at_call 38;(with_reducible refine (HW1.out _).mono ?_);rintro e w1 ⟨rfl,rfl⟩|go_at_call 38;(with_reducible refine (HW2.out _).mono ?_);rintro e w1 ⟨rfl,rfl⟩|go_at_call 38;(with_reducible refine (HW4.out _).mono ?_);rintro e w1 ⟨rfl,rfl⟩)
     go_ret
     exact ⟨j7 (by rw [HQ.out,p9 hm hlt HX.out]),(by repeat (first|with_reducible exact Below.refl _ _|with_reducible assumption|with_reducible refine Below.alloc ?_ (by first|omega|(simp;done)|(simp;omega)) _|with_reducible refine Below.setCell ?_ (by first|omega|(simp;done)|(simp;omega)) _|with_reducible refine Below.drew ?_|with_reducible refine bt ?_ (below_regrown _ _ _)|refine bt ?_ (by with_reducible assumption)))⟩
   ·rw [xg8 h1] at HW1;have HX:=hid (a0v ha (fun h=>by unfold Ar.ok at h;omega));clear h1
    go_wp2_with (first|go_at_call 38;(with_reducible refine (HW1.out _).mono ?_);rintro e w1 ⟨rfl,rfl⟩|go_at_call 38;(with_reducible refine (HW2.out _).mono ?_);rintro e w1 ⟨rfl,rfl⟩|go_at_call 38;(with_reducible refine (HW4.out _).mono ?_);rintro e w1 ⟨rfl,rfl⟩)
    go_ret
    exact ⟨j7 (by rw [HQ.out,p9 hm hlt HX.out]),(by repeat (first|with_reducible exact Below.refl _ _|with_reducible assumption|with_reducible refine Below.alloc ?_ (by first|omega|(simp;done)|(simp;omega)) _|with_reducible refine Below.setCell ?_ (by first|omega|(simp;done)|(simp;omega)) _|with_reducible refine Below.drew ?_|with_reducible refine bt ?_ (below_regrown _ _ _)|refine bt ?_ (by with_reducible assumption)))⟩
  ·obtain rfl:i=L.length:=by omega
   have hok:∀ (j:Nat) (a:Ar),L[j]?=some a->a.ok:=fun j a hj=>HO.out j a (xa5.1 hj).1 hj;have HBD:Hid (∀ w',Below w.heap.size w w'->Calls Tryz.prog 99 #[.slice (some ⟨b,off,none⟩) L.length cap] w' (s9 L w')):=fun w' hb=>a4j (HSL.out.grown hb) hok hlen;unfold s9 at HBD;clear hok;by_cases hr:i9 1 L
   ·rw [xg6 hr] at HBD;have HR:=hid hr;have HAO:=hid (fun w'=>a1H (d6 L) (fun p=>a01 p hr) (m6 hr (by omega)) w');have hcs:=a3J hm hr;clear hr;by_cases he:l0 (d6 L) 255=L
    ·rw [xd6 he] at hcs;have HEQ:=hid he;have HCS:=hid hcs;clear he hcs
     go_wp2_with (first|go_at_call 99;(with_reducible refine (HBD.out _ hbw).mono ?_);rintro e wc ⟨bd,rfl,hbc,hbd⟩;rw [hbd HR.out];clear hbd;have hbn:=bt hbw hbc;clear hbw hbc;have hbw:=hbn;clear hbn|(with_reducible refine l2 5 ?_);refine b8 rfl (some 5) rfl (bdC (fun _=>0)) 203 (by kernel_rfl) w.heap.size w hbw hbw.size ?_;intro g5 wn5 hL5 hB5 hbn hkn hnn;skip;clear hbw hkn hnn;have hbw:=hbn;clear hbn|(with_reducible refine j4 5 ?_);refine a6 rfl 203 (.tmp 5) (.tmp 48) rfl rfl g5 (bdC (d6 L)) (bdC (fun _=>0)) rfl rfl hL5 (by rw [Hszb.out,g8]) (by simp [g8]) (a0k _) w.heap.size w hbw hB5 ?_;intro wp5 hLn hbn hon;clear hL5 hbw hon;have hL5:=hLn;have hbw:=hbn;clear hLn hbn|(with_reducible refine l2 53 ?_);refine s5 rfl 203 (.tmp 5) rfl g5 (bdC (d6 L)) rfl hL5 _ Tryz.underlying203 rfl (by rw [Hszb.out,g8]) ?_|go_at_call 100;(with_reducible refine (HAO.out _).mono ?_);rintro e wa ⟨va,rfl,hsa,hba⟩;have hbn:=bt hbw hba;clear hbw hba;have hbw:=hbn;clear hbn)
     have HC:=a3o (a4n hsa) (HSL.out.grown hbw);rw [xg6 HEQ.out] at HC;have HC:=hid HC
     go_wp2_with (first|go_at_call 31;(with_reducible refine (HC.out).mono ?_);rintro e wz ⟨rfl,hbz⟩)
     go_ret
     exact ⟨j7 (by rw [HQ.out,HCS.out]),bt hbw hbz⟩
    ·rw [xd7 he] at hcs;have HEQ:=hid he;have HCS:=hid hcs;clear he hcs
     go_wp2_with (first|go_at_call 99;(with_reducible refine (HBD.out _ hbw).mono ?_);rintro e wc ⟨bd,rfl,hbc,hbd⟩;rw [hbd HR.out];clear hbd;have hbn:=bt hbw hbc;clear hbw hbc;have hbw:=hbn;clear hbn|(with_reducible refine l2 5 ?_);refine b8 rfl (some 5) rfl (bdC (fun _=>0)) 203 (by kernel_rfl) w.heap.size w hbw hbw.size ?_;intro g5 wn5 hL5 hB5 hbn hkn hnn;skip;clear hbw hkn hnn;have hbw:=hbn;clear hbn|(with_reducible refine j4 5 ?_);refine a6 rfl 203 (.tmp 5) (.tmp 48) rfl rfl g5 (bdC (d6 L)) (bdC (fun _=>0)) rfl rfl hL5 (by rw [Hszb.out,g8]) (by simp [g8]) (a0k _) w.heap.size w hbw hB5 ?_;intro wp5 hLn hbn hon;clear hL5 hbw hon;have hL5:=hLn;have hbw:=hbn;clear hLn hbn|(with_reducible refine l2 53 ?_);refine s5 rfl 203 (.tmp 5) rfl g5 (bdC (d6 L)) rfl hL5 _ Tryz.underlying203 rfl (by rw [Hszb.out,g8]) ?_|go_at_call 100;(with_reducible refine (HAO.out _).mono ?_);rintro e wa ⟨va,rfl,hsa,hba⟩;have hbn:=bt hbw hba;clear hbw hba;have hbw:=hbn;clear hbn)
     have HC:=a3o (a4n hsa) (HSL.out.grown hbw);rw [xg8 HEQ.out] at HC;have HC:=hid HC
     go_wp2_with (first|go_at_call 31;(with_reducible refine (HC.out).mono ?_);rintro e wz ⟨rfl,hbz⟩)
     go_ret
     exact ⟨j7 (by rw [HQ.out,HCS.out]),bt hbw hbz⟩
   ·rw [xg8 hr] at HBD;have HX:Hid (r=1):=hid (by rw [HQ.out,a3O hm hr]);clear hr
    go_wp2_with (first|go_at_call 99;(with_reducible refine (HBD.out _ hbw).mono ?_);rintro e wc ⟨bd,rfl,hbc,hbd⟩;clear hbd;have hbn:=bt hbw hbc;clear hbw hbc;have hbw:=hbn;clear hbn|(with_reducible refine l2 5 ?_);refine b8 rfl (some 5) rfl (bdC (fun _=>0)) 203 (by kernel_rfl) w.heap.size w hbw hbw.size ?_;intro g5 wn5 hL5 hB5 hbn hkn hnn;skip;clear hbw hkn hnn;have hbw:=hbn;clear hbn|(with_reducible refine j4 5 ?_);refine a6 rfl 203 (.tmp 5) (.tmp 48) rfl rfl g5 (bdC bd) (bdC (fun _=>0)) rfl rfl hL5 (by rw [Hszb.out,g8]) (by simp [g8]) (a0k _) w.heap.size w hbw hB5 ?_;intro wp5 hLn hbn hon;clear hL5 hbw hon;have hL5:=hLn;have hbw:=hbn;clear hLn hbn)
    go_ret
    exact ⟨j7 HX.out.symm,hbw⟩
theorem a2y {v:Value} {L:List Ar} {w:World} (h:SlAr w v L):Calls Tryz.prog 56 #[v] w (RB (.int .i64 (b4 L)) w):=by
 rcases h with ⟨p,c,rfl,rfl⟩|⟨b,off,cap,rfl,h2,h3,h4,h5⟩
 ·exact a2t p c w
 ·exact a1L b off cap h2 h3 h4 h5
theorem x5 {w:World} {v:Value} {L:List Ar} (h:Sl nF w 4 v (L.map arC)):SlAr w v L:=by
 rcases h with ⟨p,c,rfl,h⟩|⟨b,off,cap,rfl,h3,h4,hr⟩
 ·exact xc6 ⟨_,_,rfl,by simpa using h⟩
 ·rw [xg5] at h3 |-;refine xc3 ⟨b,off,cap,rfl,hr.lt,h3,h4,fun i a ha=>?_⟩;have hk:(L.map arC)[i]?=some (arC a):=by simp [ha]
  exact ⟨hr.cells i _ hk 0 _ rfl,hr.cells i _ hk 1 _ rfl,hr.cells i _ hk 2 _ rfl,hr.cells i _ hk 3 _ rfl⟩
theorem a6U {v:Value} {L:List Ar} {w:World} (h:Sl nF w 4 v (L.map arC)):Fn Tryz.prog 112 [v] w (RBf (.int .i64 (b4 L)) w) :=
 Fn.of_rb ⟨Tryz.func112,by kernel_rfl,by kernel_rfl⟩ (a1h (x5 h))
theorem a5i {M:List Ar} (hok:∀ (i:Nat) (a:Ar),M[i]?=some a->a.ok) (i:Nat):0<=o4 (M.take i)/\o4 (M.take i)<=255 * (i:Int):=by
 induction i with
 |zero=>simp [o4]
 |succ i ih=>
  cases ha:M[i]? with
  |none=>
   have:M.length<=i:=by simpa using ha
   rw [xa0 (by omega)] at ih |-;omega
  |some a=>
   rw [a0K ha];have:=hok i a ha;unfold Ar.ok at this;omega
theorem b0I (p:Option Addr) (c:Nat) (page:Int) (w:World):Calls Tryz.prog 146 #[.slice p 0 c,.int .i64 page,.func (.func 147) #[] #[]] w (a4X [] page w):=by
 go_enter Tryz.func146,Tryz.ntmps146
 go_wp2
 go_loopw [9,10] (fun vi vj wr=>vi=.int .i64 0/\vj=.int .i64 0/\wr=w) (fun _ _ _=>0)
 case atStart=>exact ⟨rfl,rfl,rfl⟩
 case round=>
  obtain ⟨rfl,rfl,rfl⟩:=hrel
  go_wp2
  go_ret2
  exact ⟨0,by simp,rfl,(by repeat ((with_reducible exact Below.refl _ _))),a3M [] page⟩
theorem b1f {v:Value} {L:List Ar} {w:World} (page:Int) (h:SlAr w v L):Calls Tryz.prog 146 #[v,.int .i64 page,.func (.func 147) #[] #[]] w (a4X L page w):=by
 rcases h with ⟨p,c,rfl,rfl⟩|⟨b,off,cap,rfl,h2,h3,h4,h5⟩
 ·exact b0I p c page w
 ·exact b0L b off cap page h2 h3 h4 h5
theorem z6 {page:Int} {a:Ar} (h:a.fin<=page\/page < a.pg):s7 page a=false:=by unfold s7;simp;omega
theorem a6Y {L:List Ar} {page:Int} (hg:a07 L) (hI:a0P L page L.length L.length):l3 L page=none :=
 a00 fun j b hj hb=>z6 (xc6 ((hI hg).1 j b hj hb))
theorem a6P {L:List Ar} {page:Int} {i:Nat} {a:Ar} (hg:a07 L) (hI:a0P L page i i) (ha:L[i]?=some a) (h:page < a.pg):l3 L page=none :=
 a00 fun j b hj hb=>by
  rcases xg7 j i with h1|h1
  ·exact z6 (xc6 ((hI hg).1 j b h1 hb))
  ·rcases Nat.lt_or_eq_of_le h1 with h2|h2
   ·have:=a2o hg h2 ha hb;have hk:=t3 hg i a ha;unfold Ar.ok at hk;exact z6 (xc3 (by unfold Ar.fin at this;omega))
   ·subst h2;rw [ha] at hb;cases hb;exact z6 (xc3 h)
theorem a74 {L:List Ar} {page:Int} {i:Nat} {a:Ar} (hg:a07 L) (hI:a0P L page i i) (ha:L[i]?=some a) (h:a.pg<=page):l3 L page=some a :=
 a14 (fun j b hj hb=>z6 (xc6 ((hI hg).1 j b hj hb))) ha (by unfold s7;simp;exact ⟨h,(hI hg).2 i a (xc4 _) ha⟩)
def a2i (L:List Ar) (page:Int):Option Ar:=if b4 L=0 then l3 L page else none
theorem a6s {v:Value} {L:List Ar} {w:World} (page:Int) (h:SlAr w v L):Calls Tryz.prog 114 #[v,.int .i64 page] w (RB (a1W (a2i L page)) w):=by
 have HC:=hid (fun w' (hb:Below w.heap.size w w')=>a1h (h.grown hb));have HS:=hid (fun w' (hb:Below w.heap.size w w')=>b1f page (h.grown hb));have hsz:(Tryz.prog.info? 119).map (·.size)=some 4:=by kernel_rfl
 have Hsz:=hid hsz;clear hsz;have hbw:=Below.refl w.heap.size w
 go_enter Tryz.func114,Tryz.ntmps114
 go_wp2_with (first|(with_reducible refine l2 4 ?_);refine b8 rfl (some 4) rfl (zl4) 119 (by kernel_rfl) w.heap.size w hbw hbw.size ?_;intro g4 wn4 hL4 hB4 hbn hkn hnn;skip;clear hbw hkn hnn;have hbw:=hbn;clear hbn|go_at_call 146;(with_reducible refine (HS.out _ hbw).mono ?_);rintro e wc ⟨i,hi,rfl,hbc,hI⟩;have hL4:=hL4.grown hbc hL4.lt;have hbn:=bt hbw hbc;clear hbw hbc;have hbw:=hbn;clear hbn)
 by_cases hc:b4 L=0
 ·obtain ⟨_,hg⟩:=m9.1 hc;have HQ:Hid (a2i L page=l3 L page):=by refine hid ?_;unfold a2i;rw [xd6 hc]
  rw [hc] at HC;clear hc;by_cases hlt:i < L.length
  ·obtain ⟨a,ha⟩:∃ a,L[i]?=some a:=⟨L[i],by simp [hlt]⟩;rcases h with ⟨p,c,rfl,rfl⟩|⟨b,off,cap,rfl,hbl,hcap,hmax,d9⟩
   ·simp at hlt
   have HL:=hid d9;have hne:((i:Int) == L.length)=false:=by rw [xk2];omega
   have hli:(i:Int) < L.length:=Int.ofNat_lt.2 hlt;clear d9 hmax;by_cases hp:page < a.pg
   ·have HX:=hid (a6P hg hI ha hp);clear hI
    go_wp2_with (first|(go_at_call 112;(with_reducible refine (HC.out _ hbw).mono ?_);rintro e wk ⟨rfl,hbc⟩);have hL4:=hL4.grown hbc hL4.lt;have hbn:=bt hbw hbc;clear hbw hbc;have hbw:=hbn;clear hbn;obtain ⟨c0,c1,c2,c3⟩:=(HL.out i a ha).grown hbw hbl|(with_reducible refine j4 4 ?_);refine a6 rfl 119 (.tmp 4) (.tmp 32) rfl rfl g4 (zl4) (zl4) rfl rfl hL4 Hsz.out rfl rfl w.heap.size w hbw hB4 ?_;intro wp4 hLn hbn hon;skip;clear hL4 hbw hon;have hL4:=hLn;have hbw:=hbn;clear hLn hbn)
    refine bodyPost_ret (v:=.tuple #[.agg (zl4).toArray,.bool false]) (i4 rfl _ g4 (zl4) (.bool false) _ rfl rfl hL4 Tryz.underlying119 rfl Hsz.out) rfl ⟨by rw [HQ.out,HX.out];rfl,hbw⟩
   ·have HX:=hid (a74 hg hI ha (by omega));clear hI;have hp':decide (page < a.pg)=false:=by simpa using hp
    go_wp2_with (first|(go_at_call 112;(with_reducible refine (HC.out _ hbw).mono ?_);rintro e wk ⟨rfl,hbc⟩);have hL4:=hL4.grown hbc hL4.lt;have hbn:=bt hbw hbc;clear hbw hbc;have hbw:=hbn;clear hbn;obtain ⟨c0,c1,c2,c3⟩:=(HL.out i a ha).grown hbw hbl|(with_reducible refine j4 4 ?_);refine a6 rfl 119 (.tmp 4) (.tmp 36) rfl rfl g4 ([.int .i64 a.pg,.int .i64 a.n,.int .i64 a.prot,.bool a.z]) (zl4) rfl rfl hL4 Hsz.out rfl rfl w.heap.size w hbw hB4 ?_;intro wp4 hLn hbn hon;skip;clear hL4 hbw hon;have hL4:=hLn;have hbw:=hbn;clear hLn hbn)
    refine bodyPost_ret (v:=.tuple #[.agg ([.int .i64 a.pg,.int .i64 a.n,.int .i64 a.prot,.bool a.z]).toArray,.bool true]) (i4 rfl _ g4 ([.int .i64 a.pg,.int .i64 a.n,.int .i64 a.prot,.bool a.z]) (.bool true) _ rfl rfl hL4 Tryz.underlying119 rfl Hsz.out) rfl ⟨by rw [HQ.out,HX.out];rfl,hbw⟩
  ·obtain rfl:i=L.length:=by omega
   have HX:=hid (a6Y hg hI);have hlen:∃ n:Nat,n=L.length:=⟨_,rfl⟩;clear hI;rcases h with ⟨p,c,rfl,rfl⟩|⟨b,off,cap,rfl,hbl,hcap,hmax,d9⟩
   ·go_wp2_with (first|(go_at_call 112;(with_reducible refine (HC.out _ hbw).mono ?_);rintro e wk ⟨rfl,hbc⟩);have hL4:=hL4.grown hbc hL4.lt;have hbn:=bt hbw hbc;clear hbw hbc;have hbw:=hbn;clear hbn;skip|(with_reducible refine j4 4 ?_);refine a6 rfl 119 (.tmp 4) (.tmp 32) rfl rfl g4 (zl4) (zl4) rfl rfl hL4 Hsz.out rfl rfl w.heap.size w hbw hB4 ?_;intro wp4 hLn hbn hon;skip;clear hL4 hbw hon;have hL4:=hLn;have hbw:=hbn;clear hLn hbn)
    refine bodyPost_ret (v:=.tuple #[.agg (zl4).toArray,.bool false]) (i4 rfl _ g4 (zl4) (.bool false) _ rfl rfl hL4 Tryz.underlying119 rfl Hsz.out) rfl ⟨by rw [HQ.out,HX.out];rfl,hbw⟩
   ·clear d9 hmax
    go_wp2_with (first|(go_at_call 112;(with_reducible refine (HC.out _ hbw).mono ?_);rintro e wk ⟨rfl,hbc⟩);have hL4:=hL4.grown hbc hL4.lt;have hbn:=bt hbw hbc;clear hbw hbc;have hbw:=hbn;clear hbn;skip|(with_reducible refine j4 4 ?_);refine a6 rfl 119 (.tmp 4) (.tmp 32) rfl rfl g4 (zl4) (zl4) rfl rfl hL4 Hsz.out rfl rfl w.heap.size w hbw hB4 ?_;intro wp4 hLn hbn hon;skip;clear hL4 hbw hon;have hL4:=hLn;have hbw:=hbn;clear hLn hbn)
    refine bodyPost_ret (v:=.tuple #[.agg (zl4).toArray,.bool false]) (i4 rfl _ g4 (zl4) (.bool false) _ rfl rfl hL4 Tryz.underlying119 rfl Hsz.out) rfl ⟨by rw [HQ.out,HX.out];rfl,hbw⟩
 ·have HQ:Hid (a2i L page=none):=by refine hid ?_;unfold a2i;rw [xd7 hc]
  have hn:(b4 L != 0)=true:=by rw [xk3];exact hc
  clear hc;generalize b4 L=ck at *
  go_wp2_with (first|(go_at_call 112;(with_reducible refine (HC.out _ hbw).mono ?_);rintro e wk ⟨rfl,hbc⟩);have hL4:=hL4.grown hbc hL4.lt;have hbn:=bt hbw hbc;clear hbw hbc;have hbw:=hbn;clear hbn;skip|(with_reducible refine j4 4 ?_);refine a6 rfl 119 (.tmp 4) (.tmp 32) rfl rfl g4 (zl4) (zl4) rfl rfl hL4 Hsz.out rfl rfl w.heap.size w hbw hB4 ?_;intro wp4 hLn hbn hon;skip;clear hL4 hbw hon;have hL4:=hLn;have hbw:=hbn;clear hLn hbn)
  refine bodyPost_ret (v:=.tuple #[.agg (zl4).toArray,.bool false]) (i4 rfl _ g4 (zl4) (.bool false) _ rfl rfl hL4 Tryz.underlying119 rfl Hsz.out) rfl ⟨by rw [HQ.out];rfl,hbw⟩
theorem a2x {v:Value} {L:List Ar} {w:World} (h:Sl nF w 4 v (L.map arC)):Fn Tryz.prog 56 [v] w (RBf (.int .i64 (b4 L)) w) :=
 Fn.of_rb ⟨Tryz.func56,by kernel_rfl,by kernel_rfl⟩ (a2y (x5 h))
theorem a6q {v:Value} {L:List Ar} {w:World} (h:Sl nF w 4 v (L.map arC)) (hc:b4 L=0):Fn Tryz.prog 57 [v] w (RBf (.int .i64 (o4 L)) w) :=
 Fn.of_rb ⟨Tryz.func57,by kernel_rfl,by kernel_rfl⟩ (a4y (x5 h) hc)
theorem a5F {v:Value} {L:List Ar} {w:World} (page:Int) (h:Sl nF w 4 v (L.map arC)) (hok:∀ (i:Nat) (a:Ar),L[i]?=some a->a.ok):Fn Tryz.prog 58 [v,.int .i64 page] w (RBf (a1W (l3 L page)) w) :=
 Fn.of_rb ⟨Tryz.func58,by kernel_rfl,by kernel_rfl⟩ (a4K page (x5 h) hok)
theorem a8k {v:Value} {L:List Ar} {w:World} (page:Int) (h:Sl nF w 4 v (L.map arC)):Fn Tryz.prog 114 [v,.int .i64 page] w (RBf (a1W (a2i L page)) w) :=
 Fn.of_rb ⟨Tryz.func114,by kernel_rfl,by kernel_rfl⟩ (a6s page (x5 h))
theorem a6v {v:Value} {L:List Ar} {w:World} (h:Sl nF w 4 v (L.map arC)):Fn Tryz.prog 113 [v] w (RBf (.int .i64 (if b4 L=0 then o4 L else 0)) w):=by
 by_cases hc:b4 L=0
 ·rw [xd6 hc];exact Fn.of_rb ⟨Tryz.func113,by kernel_rfl,by kernel_rfl⟩ (a4m (x5 h) hc)
 ·rw [xd7 hc];exact Fn.of_rb ⟨Tryz.func113,by kernel_rfl,by kernel_rfl⟩ (a5E (x5 h) hc)
theorem Sl.nil (w:World) (sz:Nat):Sl nF w sz (.slice none 0 0) []:=xc6 ⟨_,_,rfl,rfl⟩
theorem a5a {L:List Ar} {p:Int} {a:Ar} (h:i9 1 L) (hf:l3 L p=some a):a.ok:=by
 unfold l3 at hf;obtain ⟨i,hi⟩:=xc8.1 (xg3 hf);exact a9j h i a hi
theorem a4A {L:List Ar} {p:Int} (h:b4 L=0):a2i L p=l3 L p:=xd6 h
structure Pc where
 r0:Int
 r1:Int
 r2:Int
 r3:Int
 r4:Int
 r5:Int
 r6:Int
 r7:Int
 pc:Int
 state:Int
 code:Int
 fk:Int
 fa:Int
deriving DecidableEq
structure Wd where
 proc:Int
 value:Int
deriving DecidableEq
structure Fp where
 page:Int
 data:List UInt8
deriving DecidableEq
structure Fs where
 live:Bool
 areas:List Ar
 pages:List Fp
def prC (p:Pc):List Value:=[.int .i64 p.r0,.int .i64 p.r1,.int .i64 p.r2,.int .i64 p.r3,.int .i64 p.r4,.int .i64 p.r5,.int .i64 p.r6,.int .i64 p.r7,.int .i64 p.pc,.int .i64 p.state,.int .i64 p.code,.int .i64 p.fk,.int .i64 p.fa]
def wdC (x:Wd):List Value:=[.int .i64 x.proc,.int .i64 x.value]
def fpC (x:Fp):List Value:=[.int .i64 x.page,.string ⟨x.data.toArray⟩]
def m7 (p:Pc) (live:Bool):Bool :=
 if p.state=1 then live && (decide (p.code=0) && decide ((p.fk,p.fa)=((0,0):Int×Int)))
 else if p.state=2 then !live && decide ((p.fk,p.fa)=((0,0):Int×Int))
 else if p.state=3 then !live && (decide (p.code=0) && (decide (1<=p.fk) && decide (p.fk<=4)))
 else false
def a0n (l:List Wd) (n:Int):Bool:=l.all fun x=>decide (0<=x.proc) && decide (x.proc < n)
def l6 (A:List Ar) (l:List Fp) (i:Nat):Bool:=match l[i]? with
 |some p=>(l3 A p.page).isSome && (decide (p.data.length=16) && (match i with
  |0=>true
  |j + 1=>match l[j]? with
   |some q=>decide (q.page < p.page)
   |none=>true))
 |none=>true
def q9 (A:List Ar) (l:List Fp) (n:Nat):Bool:=(List.range n).all (l6 A l)
def fsB (s:Fs):Bool :=
 if s.live then decide (b4 s.areas=0) && (decide ((s.pages.length:Int)=o4 s.areas) && q9 s.areas s.pages s.pages.length)
 else decide (s.areas=[]) && decide (s.pages=[])
structure FlV where
 slots:Int
 sp:List (Fs×Value×Value)
 pr:List Pc
 out:List Wd
 vsp:Value
 vpr:Value
 vout:Value
def fsC (x:Fs×Value×Value):List Value:=[.bool x.1.live,x.2.1,x.2.2]
def flC (f:FlV):List Value:=[.int .i64 f.slots,f.vsp,f.vpr,f.vout]
def t6 (f:FlV):Prop:=f.sp.length < 1\/4 < f.sp.length\/f.pr.length≠f.sp.length\/f.slots < 0\/512 < f.slots\/2000 < f.out.length
instance (f:FlV):Decidable (t6 f):=by unfold t6;infer_instance
def a5A (f:FlV) (i:Nat):Bool:=match f.sp[i]?,f.pr[i]? with
 |some x,some p=>fsB x.1 && m7 p x.1.live
 |_,_=>false
def z8 (l:List (Fs×Value×Value)):Nat:=(l.map fun x=>x.1.pages.length).sum
def j6 (f:FlV):Int :=
 if t6 f then 2 else if (List.range f.sp.length).all (a5A f) && (decide ((z8 f.sp:Int)<=f.slots) && a0n f.out (f.pr.length:Nat)) then 0 else 1
theorem i3 (x a b:Int) (w:World):Fn Tryz.prog 38 [.int .i64 x,.int .i64 a,.int .i64 b] w (RBf (.bool (decide (a<=x/\x<=b))) w):=by
 refine yEn Tryz.func38 Tryz.ntmps38 (by kernel_rfl) (by kernel_rfl) rfl rfl ?_;have hS:=St.start w
 repeat' (first|(with_reducible apply a4 a0);rfl;rfl;rfl|refine yDn (by with_reducible constructor) ?_|(with_reducible apply i6);(iterate 4 rfl);assumption|(with_reducible apply q7);(iterate 4 rfl);assumption;rfl|(with_reducible apply d7);rfl;assumption;rfl;rfl|(with_reducible apply a9);rfl;assumption;rfl;rfl|(with_reducible apply a0d);rfl;rfl;rfl;all_goals (intro hb hp;try (exfalso;omega)))
 ·(refine i2 rfl ?_)
  exact ⟨by simp [hp],hS⟩
 ·(refine i2 rfl ?_)
  exact ⟨by simp;omega,hS⟩
theorem n8 {α:Type} {l:List α} {i:Nat} (h:(i:Int) < l.length):∃ x,l[i]?=some x:=⟨l[i]'(by omega),by simp⟩
def ftC (p:Int×Int):List Value:=[.int .i64 p.1,.int .i64 p.2]
theorem a62 (a b:Int×Int):a6Z Tryz.prog 76 (ftC a) (ftC b) (decide (a=b)):=by
 refine ⟨fun w=>?_,by kernel_rfl⟩;obtain ⟨a1,a2⟩:=a;obtain ⟨b1,b2⟩:=b;unfold ftC;simp [go_sem]
 repeat' split
 all_goals simp_all
theorem a78 (p:Pc) (live:Bool) (w:World):Fn Tryz.prog 107 [.agg (prC p).toArray,.bool live] w (RBf (.bool (m7 p live)) w):=by
 obtain ⟨r0,r1,r2,r3,r4,r5,r6,r7,pc,state,code,fk,fa⟩:=p;unfold prC;dsimp only;by_cases hs:state=1
 ·have hd1:decide (state=1)=true:=xg6 hs
  cases live with
  |false=>
   refine yEn Tryz.func107 Tryz.ntmps107 (by kernel_rfl) (by kernel_rfl) rfl rfl ?_;have hS:=St.start w
   repeat' (first|(with_reducible apply a4 a0);rfl;rfl;rfl|(with_reducible apply a5);rfl;(apply Ld.sc a0;rfl;exact hS.blkC 0 rfl rfl);rfl|refine yDn (by with_reducible constructor) ?_|(with_reducible apply q7);(iterate 4 rfl);rfl;rfl|(with_reducible apply a9);rfl;rfl;rfl;rfl|(with_reducible apply b7);rfl;assumption|(with_reducible apply f8 hS);rfl;rfl;rfl;clear hS;intro g w' hS)
   (refine i2 rfl ?_)
   exact ⟨by unfold m7;simp [hs,hd1],hS.sub (xg4 _)⟩
  |true=>
   by_cases hc:code=0
   ·have hdc:decide (code=0)=true:=xg6 hc;refine yEn Tryz.func107 Tryz.ntmps107 (by kernel_rfl) (by kernel_rfl) rfl rfl ?_;have hS:=St.start w
    repeat' (first|(with_reducible apply a4 a0);rfl;rfl;rfl|(with_reducible apply a5);rfl;(apply Ld.sc a0;rfl;exact hS.blkC 0 rfl rfl);rfl|(with_reducible apply a0l a0);rfl;rfl;exact (rfl:_=some [_,_]);rfl|refine yDn (by with_reducible constructor) ?_|((with_reducible apply i6);(iterate 4 rfl);first|rfl|assumption)|(with_reducible apply d7);rfl;(first|rfl|assumption);rfl;rfl|(with_reducible apply b7);rfl;assumption|(with_reducible apply f8 hS);rfl;rfl;rfl;clear hS;intro g w' hS|(with_reducible apply a0E a0);rfl;rfl;rfl;refine ⟨_,hS.blkRk 0 11 2 rfl,rfl,?_⟩|(with_reducible apply a3X);rfl;rfl;exact a62 (fk,fa) (0,0);rfl)
    (refine i2 rfl ?_)
    exact ⟨by unfold m7;simp [hs,hc],hS.sub (xg4 _)⟩
   ·have hdc:decide (code=0)=false:=xg8 hc;refine yEn Tryz.func107 Tryz.ntmps107 (by kernel_rfl) (by kernel_rfl) rfl rfl ?_;have hS:=St.start w
    repeat' (first|(with_reducible apply a4 a0);rfl;rfl;rfl|(with_reducible apply a5);rfl;(apply Ld.sc a0;rfl;exact hS.blkC 0 rfl rfl);rfl|refine yDn (by with_reducible constructor) ?_|(with_reducible apply i6);(iterate 4 rfl);rfl|(with_reducible apply q7);(iterate 4 rfl);assumption;rfl|(with_reducible apply d7);rfl;rfl;rfl;rfl|(with_reducible apply a9);rfl;assumption;rfl;rfl|(with_reducible apply b7);rfl;assumption|(with_reducible apply f8 hS);rfl;rfl;rfl;clear hS;intro g w' hS)
    (refine i2 rfl ?_)
    exact ⟨by unfold m7;simp [hs,hc],hS.sub (xg4 _)⟩
 have hd1:decide (state=1)=false:=xg8 hs;by_cases hs2:state=2
 ·have hd2:decide (state=2)=true:=xg6 hs2
  cases live with
  |false=>
   refine yEn Tryz.func107 Tryz.ntmps107 (by kernel_rfl) (by kernel_rfl) rfl rfl ?_;have hS:=St.start w
   repeat' (first|(with_reducible apply a4 a0);rfl;rfl;rfl|(with_reducible apply a5);rfl;(apply Ld.sc a0;rfl;exact hS.blkC 0 rfl rfl);rfl|(with_reducible apply a0l a0);rfl;rfl;exact (rfl:_=some [_,_]);rfl|refine yDn (by with_reducible constructor) ?_|(with_reducible apply i6);(iterate 4 rfl);rfl|(with_reducible apply d7);rfl;rfl;rfl;rfl|(with_reducible apply b7);rfl;assumption|(with_reducible apply j5);rfl;assumption|(with_reducible apply f8 hS);rfl;rfl;rfl;clear hS;intro g w' hS|(with_reducible apply a0E a0);rfl;rfl;rfl;refine ⟨_,hS.blkRk 0 11 2 rfl,rfl,?_⟩|(with_reducible apply a3X);rfl;rfl;exact a62 (fk,fa) (0,0);rfl)
   (refine i2 rfl ?_)
   exact ⟨by unfold m7;simp [hs,hs2],hS.sub (xg4 _)⟩
  |true=>
   refine yEn Tryz.func107 Tryz.ntmps107 (by kernel_rfl) (by kernel_rfl) rfl rfl ?_;have hS:=St.start w
   repeat' (first|(with_reducible apply a4 a0);rfl;rfl;rfl|(with_reducible apply a5);rfl;(apply Ld.sc a0;rfl;exact hS.blkC 0 rfl rfl);rfl|refine yDn (by with_reducible constructor) ?_|(with_reducible apply q7);(iterate 4 rfl);rfl;rfl|(with_reducible apply a9);rfl;rfl;rfl;rfl|(with_reducible apply b7);rfl;assumption|(with_reducible apply j5);rfl;assumption|(with_reducible apply f8 hS);rfl;rfl;rfl;clear hS;intro g w' hS)
   (refine i2 rfl ?_)
   exact ⟨by unfold m7;simp [hs,hs2],hS.sub (xg4 _)⟩
 have hd2:decide (state=2)=false:=xg8 hs2;by_cases hs3:state=3;rotate_left
 ·have hd3:decide (state=3)=false:=xg8 hs3;refine yEn Tryz.func107 Tryz.ntmps107 (by kernel_rfl) (by kernel_rfl) rfl rfl ?_;have hS:=St.start w
  repeat' (first|(with_reducible apply a4 a0);rfl;rfl;rfl|(with_reducible apply a5);rfl;(apply Ld.sc a0;rfl;exact hS.blkC 0 rfl rfl);rfl|refine yDn (by with_reducible constructor) ?_|(with_reducible apply j5);rfl;assumption|(with_reducible apply f8 hS);rfl;rfl;rfl;clear hS;intro g w' hS)
  (refine i2 rfl ?_)
  exact ⟨by unfold m7;simp [hs,hs2,hs3],hS.sub (xg4 _)⟩
 have hd3:decide (state=3)=true:=xg6 hs3
 cases live with
 |true=>
  refine yEn Tryz.func107 Tryz.ntmps107 (by kernel_rfl) (by kernel_rfl) rfl rfl ?_;have hS:=St.start w
  repeat' (first|(with_reducible apply a4 a0);rfl;rfl;rfl|(with_reducible apply a5);rfl;(apply Ld.sc a0;rfl;exact hS.blkC 0 rfl rfl);rfl|refine yDn (by with_reducible constructor) ?_|(with_reducible apply q7);(iterate 4 rfl);rfl;rfl|(with_reducible apply a9);rfl;rfl;rfl;rfl|(with_reducible apply b7);rfl;assumption|(with_reducible apply j5);rfl;assumption|(with_reducible apply f8 hS);rfl;rfl;rfl;clear hS;intro g w' hS)
  (refine i2 rfl ?_)
  exact ⟨by unfold m7;simp [hs,hs3],hS.sub (xg4 _)⟩
 |false=>
  by_cases hc:code=0;rotate_left
  ·have hdc:decide (code=0)=false:=xg8 hc;refine yEn Tryz.func107 Tryz.ntmps107 (by kernel_rfl) (by kernel_rfl) rfl rfl ?_;have hS:=St.start w
   repeat' (first|(with_reducible apply a4 a0);rfl;rfl;rfl|(with_reducible apply a5);rfl;(apply Ld.sc a0;rfl;exact hS.blkC 0 rfl rfl);rfl|refine yDn (by with_reducible constructor) ?_|(with_reducible apply i6);(iterate 4 rfl);rfl|(with_reducible apply q7);(iterate 4 rfl);(first|rfl|assumption);rfl|(with_reducible apply d7);rfl;rfl;rfl;rfl|(with_reducible apply a9);rfl;(first|rfl|assumption);rfl;rfl|(with_reducible apply b7);rfl;assumption|(with_reducible apply j5);rfl;assumption|(with_reducible apply f8 hS);rfl;rfl;rfl;clear hS;intro g w' hS)
   (refine i2 rfl ?_)
   exact ⟨by unfold m7;simp [hs,hs3,hc],hS.sub (xg4 _)⟩
  have hdc:decide (code=0)=true:=xg6 hc;by_cases hk:1<=fk
  ·have hdk:decide (1<=fk)=true:=xg6 hk;refine yEn Tryz.func107 Tryz.ntmps107 (by kernel_rfl) (by kernel_rfl) rfl rfl ?_;have hS:=St.start w
   repeat' (first|(with_reducible apply a4 a0);rfl;rfl;rfl|(with_reducible apply a5);rfl;(apply Ld.sc a0;rfl;exact hS.blkC 0 rfl rfl);rfl|refine yDn (by with_reducible constructor) ?_|((with_reducible apply i6);(iterate 4 rfl);first|rfl|assumption)|(with_reducible apply d7);rfl;(first|rfl|assumption);rfl;rfl|(with_reducible apply b7);rfl;assumption|(with_reducible apply j5);rfl;assumption|(with_reducible apply f8 hS);rfl;rfl;rfl;clear hS;intro g w' hS)
   (refine i2 rfl ?_)
   exact ⟨by unfold m7;simp [hs,hs3,hc,hk],hS.sub (xg4 _)⟩
  ·have hdk:decide (1<=fk)=false:=xg8 hk;refine yEn Tryz.func107 Tryz.ntmps107 (by kernel_rfl) (by kernel_rfl) rfl rfl ?_;have hS:=St.start w
   repeat' (first|(with_reducible apply a4 a0);rfl;rfl;rfl|(with_reducible apply a5);rfl;(apply Ld.sc a0;rfl;exact hS.blkC 0 rfl rfl);rfl|refine yDn (by with_reducible constructor) ?_|((with_reducible apply i6);(iterate 4 rfl);first|rfl|assumption)|(with_reducible apply q7);(iterate 4 rfl);assumption;rfl|(with_reducible apply d7);rfl;(first|rfl|assumption);rfl;rfl|(with_reducible apply a9);rfl;assumption;rfl;rfl|(with_reducible apply b7);rfl;assumption|(with_reducible apply j5);rfl;assumption|(with_reducible apply f8 hS);rfl;rfl;rfl;clear hS;intro g w' hS)
   (refine i2 rfl ?_)
   exact ⟨by unfold m7;simp [hs,hs3,hc,hk],hS.sub (xg4 _)⟩
theorem a4e (p:Pc) (live:Bool) (w:World):Fn Tryz.prog 37 [.agg (prC p).toArray,.bool live] w (RBf (.bool (m7 p live)) w):=by
 obtain ⟨r0,r1,r2,r3,r4,r5,r6,r7,pc,state,code,fk,fa⟩:=p;unfold prC;dsimp only;have hin:1<=state/\state<=3 ↔ state=1\/state=2\/state=3:=by omega
 by_cases hw:1<=state/\state<=3;rotate_left
 ·have hdw:decide (1<=state/\state<=3)=false:=xg8 hw;have hs:¬state=1:=by omega
  have hs2:¬state=2:=by omega
  have hs3:¬state=3:=by omega
  refine yEn Tryz.func37 Tryz.ntmps37 (by kernel_rfl) (by kernel_rfl) rfl rfl ?_;have hS:=St.start w
  repeat' (first|(with_reducible apply a4 a0);rfl;rfl;rfl|(with_reducible apply a5);rfl;(apply Ld.sc a0;rfl;exact hS.blkC 0 rfl rfl);rfl|refine yDn (by with_reducible constructor) ?_|(with_reducible apply q7);(iterate 4 rfl);(first|rfl|assumption);rfl|(with_reducible apply a8T);(iterate 5 rfl)|(with_reducible apply d7);rfl;(first|rfl|assumption);rfl;rfl|(with_reducible apply b7);rfl;rfl|(with_reducible apply f8 hS);rfl;rfl;rfl;clear hS;intro g w' hS|(with_reducible apply s4);rfl;rfl;rfl;all_goals (intro hb hp;try (exfalso;omega))|(with_reducible apply d5 hS);rfl;rfl;rfl;refine ⟨_,i3 _ _ _ _,?_⟩;clear hS;intro w' hS)
  (refine i2 rfl ?_)
  exact ⟨by unfold m7;simp [hs,hs2,hs3],hS.sub (xg4 _)⟩
 have hdw:decide (1<=state/\state<=3)=true:=xg6 hw;by_cases hs:state=1
 ·have hd1:decide (state=1)=true:=xg6 hs;have hd2:decide (state=2)=false:=xg8 (by omega);have hd3:decide (state=3)=false:=xg8 (by omega);have hbt:(!decide (true=decide (state=1)))=false:=by rw [hd1];rfl
  have hbf:(!decide (false=decide (state=1)))=true:=by rw [hd1];rfl
  by_cases hc:code=0
  ·have hdc:decide (code=0)=true:=xg6 hc
   cases live with
   |false=>
    refine yEn Tryz.func37 Tryz.ntmps37 (by kernel_rfl) (by kernel_rfl) rfl rfl ?_;have hS:=St.start w
    repeat' (first|(with_reducible apply a4 a0);rfl;rfl;rfl|(with_reducible apply a5);rfl;(apply Ld.sc a0;rfl;exact hS.blkC 0 rfl rfl);rfl|(with_reducible apply a1E a0);(iterate 4 rfl)|refine yDn (by with_reducible constructor) ?_|((with_reducible apply i6);(iterate 4 rfl);first|rfl|assumption)|(with_reducible apply q7);(iterate 4 rfl);assumption;rfl|(with_reducible apply a9);rfl;(first|rfl|assumption);rfl;rfl|(with_reducible apply b7);rfl;assumption|(with_reducible apply f8 hS);rfl;rfl;rfl;clear hS;intro g w' hS|(with_reducible apply s4);rfl;rfl;rfl;all_goals (intro hb hp;try (exfalso;omega))|(with_reducible apply d5 hS);rfl;rfl;rfl;refine ⟨_,i3 _ _ _ _,?_⟩;clear hS;intro w' hS)
    (refine i2 rfl ?_)
    exact ⟨by unfold m7;simp [hs,hc],hS.sub (xg4 _)⟩
   |true=>
    refine yEn Tryz.func37 Tryz.ntmps37 (by kernel_rfl) (by kernel_rfl) rfl rfl ?_;have hS:=St.start w
    repeat' (first|(with_reducible apply a4 a0);rfl;rfl;rfl|(with_reducible apply a5);rfl;(apply Ld.sc a0;rfl;exact hS.blkC 0 rfl rfl);rfl|(with_reducible apply a1E a0);(iterate 4 rfl)|(with_reducible apply a0l a0);rfl;rfl;exact (rfl:_=some [_,_]);rfl|refine yDn (by with_reducible constructor) ?_|((with_reducible apply i6);(iterate 4 rfl);first|rfl|assumption)|(with_reducible apply q7);(iterate 4 rfl);assumption;rfl|(with_reducible apply a9);rfl;(first|rfl|assumption);rfl;rfl|(with_reducible apply j5);rfl;assumption|(with_reducible apply f8 hS);rfl;rfl;rfl;clear hS;intro g w' hS|(with_reducible apply s4);rfl;rfl;rfl;all_goals (intro hb hp;try (exfalso;omega))|(with_reducible apply d5 hS);rfl;rfl;rfl;refine ⟨_,i3 _ _ _ _,?_⟩;clear hS;intro w' hS|(with_reducible apply a0E a0);rfl;rfl;rfl;refine ⟨_,hS.blkRk 0 11 2 rfl,rfl,?_⟩|(with_reducible apply a3X);rfl;rfl;exact a62 (fk,fa) (0,0);rfl)
    (refine i2 rfl ?_)
    exact ⟨by unfold m7;simp [hs,hc],hS.sub (xg4 _)⟩
  ·have hdc:decide (code=0)=false:=xg8 hc;refine yEn Tryz.func37 Tryz.ntmps37 (by kernel_rfl) (by kernel_rfl) rfl rfl ?_;have hS:=St.start w
   repeat' (first|(with_reducible apply a4 a0);rfl;rfl;rfl|(with_reducible apply a5);rfl;(apply Ld.sc a0;rfl;exact hS.blkC 0 rfl rfl);rfl|refine yDn (by with_reducible constructor) ?_|(with_reducible apply i6);(iterate 4 rfl);assumption|(with_reducible apply q7);(iterate 4 rfl);assumption;rfl|(with_reducible apply d7);rfl;assumption;rfl;rfl|(with_reducible apply a9);rfl;assumption;rfl;rfl|(with_reducible apply b7);rfl;rfl|(with_reducible apply f8 hS);rfl;rfl;rfl;clear hS;intro g w' hS|(with_reducible apply s4);rfl;rfl;rfl;all_goals (intro hb hp;try (exfalso;omega))|(with_reducible apply d5 hS);rfl;rfl;rfl;refine ⟨_,i3 _ _ _ _,?_⟩;clear hS;intro w' hS)
   (refine i2 rfl ?_)
   exact ⟨by unfold m7;simp [hs,hc],hS.sub (xg4 _)⟩
 have hd1:decide (state=1)=false:=xg8 hs;have hbt:(!decide (true=decide (state=1)))=true:=by rw [hd1];rfl
 have hbf:(!decide (false=decide (state=1)))=false:=by rw [hd1];rfl
 by_cases hs2:state=2
 ·have hd2:decide (state=2)=true:=xg6 hs2;have hd3:decide (state=3)=false:=xg8 (by omega);by_cases hc:code=0
  ·have hdc:decide (code=0)=true:=xg6 hc
   cases live with
   |false=>
    refine yEn Tryz.func37 Tryz.ntmps37 (by kernel_rfl) (by kernel_rfl) rfl rfl ?_;have hS:=St.start w
    repeat' (first|(with_reducible apply a4 a0);rfl;rfl;rfl|(with_reducible apply a5);rfl;(apply Ld.sc a0;rfl;exact hS.blkC 0 rfl rfl);rfl|(with_reducible apply a1E a0);(iterate 4 rfl)|(with_reducible apply a0l a0);rfl;rfl;exact (rfl:_=some [_,_]);rfl|refine yDn (by with_reducible constructor) ?_|((with_reducible apply i6);(iterate 4 rfl);first|rfl|assumption)|(with_reducible apply q7);(iterate 4 rfl);assumption;rfl|(with_reducible apply a9);rfl;(first|rfl|assumption);rfl;rfl|(with_reducible apply j5);rfl;assumption|(with_reducible apply f8 hS);rfl;rfl;rfl;clear hS;intro g w' hS|(with_reducible apply s4);rfl;rfl;rfl;all_goals (intro hb hp;try (exfalso;omega))|(with_reducible apply d5 hS);rfl;rfl;rfl;refine ⟨_,i3 _ _ _ _,?_⟩;clear hS;intro w' hS|(with_reducible apply a0E a0);rfl;rfl;rfl;refine ⟨_,hS.blkRk 0 11 2 rfl,rfl,?_⟩|(with_reducible apply a3X);rfl;rfl;exact a62 (fk,fa) (0,0);rfl)
    (refine i2 rfl ?_)
    exact ⟨by unfold m7;simp [hs,hs2],hS.sub (xg4 _)⟩
   |true=>
    refine yEn Tryz.func37 Tryz.ntmps37 (by kernel_rfl) (by kernel_rfl) rfl rfl ?_;have hS:=St.start w
    repeat' (first|(with_reducible apply a4 a0);rfl;rfl;rfl|(with_reducible apply a5);rfl;(apply Ld.sc a0;rfl;exact hS.blkC 0 rfl rfl);rfl|(with_reducible apply a1E a0);(iterate 4 rfl)|refine yDn (by with_reducible constructor) ?_|((with_reducible apply i6);(iterate 4 rfl);first|rfl|assumption)|(with_reducible apply q7);(iterate 4 rfl);assumption;rfl|(with_reducible apply a9);rfl;(first|rfl|assumption);rfl;rfl|(with_reducible apply b7);rfl;assumption|(with_reducible apply f8 hS);rfl;rfl;rfl;clear hS;intro g w' hS|(with_reducible apply s4);rfl;rfl;rfl;all_goals (intro hb hp;try (exfalso;omega))|(with_reducible apply d5 hS);rfl;rfl;rfl;refine ⟨_,i3 _ _ _ _,?_⟩;clear hS;intro w' hS)
    (refine i2 rfl ?_)
    exact ⟨by unfold m7;simp [hs,hs2],hS.sub (xg4 _)⟩
  ·have hdc:decide (code=0)=false:=xg8 hc
   cases live with
   |false=>
    refine yEn Tryz.func37 Tryz.ntmps37 (by kernel_rfl) (by kernel_rfl) rfl rfl ?_;have hS:=St.start w
    repeat' (first|(with_reducible apply a4 a0);rfl;rfl;rfl|(with_reducible apply a5);rfl;(apply Ld.sc a0;rfl;exact hS.blkC 0 rfl rfl);rfl|(with_reducible apply a1E a0);(iterate 4 rfl)|(with_reducible apply a0l a0);rfl;rfl;exact (rfl:_=some [_,_]);rfl|refine yDn (by with_reducible constructor) ?_|(with_reducible apply i6);(iterate 4 rfl);assumption|(with_reducible apply d7);rfl;assumption;rfl;rfl|(with_reducible apply a9);rfl;assumption;rfl;rfl|(with_reducible apply j5);rfl;assumption|(with_reducible apply f8 hS);rfl;rfl;rfl;clear hS;intro g w' hS|(with_reducible apply s4);rfl;rfl;rfl;all_goals (intro hb hp;try (exfalso;omega))|(with_reducible apply d5 hS);rfl;rfl;rfl;refine ⟨_,i3 _ _ _ _,?_⟩;clear hS;intro w' hS|(with_reducible apply a0E a0);rfl;rfl;rfl;refine ⟨_,hS.blkRk 0 11 2 rfl,rfl,?_⟩|(with_reducible apply a3X);rfl;rfl;exact a62 (fk,fa) (0,0);rfl)
    (refine i2 rfl ?_)
    exact ⟨by unfold m7;simp [hs,hs2],hS.sub (xg4 _)⟩
   |true=>
    refine yEn Tryz.func37 Tryz.ntmps37 (by kernel_rfl) (by kernel_rfl) rfl rfl ?_;have hS:=St.start w
    repeat' (first|(with_reducible apply a4 a0);rfl;rfl;rfl|(with_reducible apply a5);rfl;(apply Ld.sc a0;rfl;exact hS.blkC 0 rfl rfl);rfl|(with_reducible apply a1E a0);(iterate 4 rfl)|refine yDn (by with_reducible constructor) ?_|(with_reducible apply i6);(iterate 4 rfl);assumption|(with_reducible apply d7);rfl;assumption;rfl;rfl|(with_reducible apply a9);rfl;assumption;rfl;rfl|(with_reducible apply b7);rfl;assumption|(with_reducible apply f8 hS);rfl;rfl;rfl;clear hS;intro g w' hS|(with_reducible apply s4);rfl;rfl;rfl;all_goals (intro hb hp;try (exfalso;omega))|(with_reducible apply d5 hS);rfl;rfl;rfl;refine ⟨_,i3 _ _ _ _,?_⟩;clear hS;intro w' hS)
    (refine i2 rfl ?_)
    exact ⟨by unfold m7;simp [hs,hs2],hS.sub (xg4 _)⟩
 have hd2:decide (state=2)=false:=xg8 hs2;have hs3:state=3:=by omega
 have hd3:decide (state=3)=true:=xg6 hs3;by_cases hc:code=0
 ·have hdc:decide (code=0)=true:=xg6 hc
  cases live with
  |false=>
   refine yEn Tryz.func37 Tryz.ntmps37 (by kernel_rfl) (by kernel_rfl) rfl rfl ?_;have hS:=St.start w
   repeat' (first|(with_reducible apply a4 a0);rfl;rfl;rfl|(with_reducible apply a5);rfl;(apply Ld.sc a0;rfl;exact hS.blkC 0 rfl rfl);rfl|(with_reducible apply a1E a0);(iterate 4 rfl)|refine yDn (by with_reducible constructor) ?_|((with_reducible apply i6);(iterate 4 rfl);first|rfl|assumption)|(with_reducible apply q7);(iterate 4 rfl);assumption;rfl|(with_reducible apply a9);rfl;(first|rfl|assumption);rfl;rfl|(with_reducible apply b7);rfl;assumption|(with_reducible apply j5);rfl;assumption|(with_reducible apply f8 hS);rfl;rfl;rfl;clear hS;intro g w' hS|(with_reducible apply s4);rfl;rfl;rfl;all_goals (intro hb hp;try (exfalso;omega))|(with_reducible apply d5 hS);rfl;rfl;rfl;refine ⟨_,i3 _ _ _ _,?_⟩;clear hS;intro w' hS)
   (refine i2 rfl ?_)
   exact ⟨by unfold m7;simp [hs,hs3,hc],hS.sub (xg4 _)⟩
  |true=>
   refine yEn Tryz.func37 Tryz.ntmps37 (by kernel_rfl) (by kernel_rfl) rfl rfl ?_;have hS:=St.start w
   repeat' (first|(with_reducible apply a4 a0);rfl;rfl;rfl|(with_reducible apply a5);rfl;(apply Ld.sc a0;rfl;exact hS.blkC 0 rfl rfl);rfl|(with_reducible apply a1E a0);(iterate 4 rfl)|refine yDn (by with_reducible constructor) ?_|((with_reducible apply i6);(iterate 4 rfl);first|rfl|assumption)|(with_reducible apply q7);(iterate 4 rfl);assumption;rfl|(with_reducible apply a9);rfl;(first|rfl|assumption);rfl;rfl|(with_reducible apply b7);rfl;assumption|(with_reducible apply f8 hS);rfl;rfl;rfl;clear hS;intro g w' hS|(with_reducible apply s4);rfl;rfl;rfl;all_goals (intro hb hp;try (exfalso;omega))|(with_reducible apply d5 hS);rfl;rfl;rfl;refine ⟨_,i3 _ _ _ _,?_⟩;clear hS;intro w' hS)
   (refine i2 rfl ?_)
   exact ⟨by unfold m7;simp [hs,hs3,hc],hS.sub (xg4 _)⟩
 ·have hdc:decide (code=0)=false:=xg8 hc;refine yEn Tryz.func37 Tryz.ntmps37 (by kernel_rfl) (by kernel_rfl) rfl rfl ?_;have hS:=St.start w
  repeat' (first|(with_reducible apply a4 a0);rfl;rfl;rfl|(with_reducible apply a5);rfl;(apply Ld.sc a0;rfl;exact hS.blkC 0 rfl rfl);rfl|refine yDn (by with_reducible constructor) ?_|(with_reducible apply i6);(iterate 4 rfl);assumption|(with_reducible apply q7);(iterate 4 rfl);assumption;rfl|(with_reducible apply d7);rfl;assumption;rfl;rfl|(with_reducible apply a9);rfl;assumption;rfl;rfl|(with_reducible apply b7);rfl;rfl|(with_reducible apply f8 hS);rfl;rfl;rfl;clear hS;intro g w' hS|(with_reducible apply s4);rfl;rfl;rfl;all_goals (intro hb hp;try (exfalso;omega))|(with_reducible apply d5 hS);rfl;rfl;rfl;refine ⟨_,i3 _ _ _ _,?_⟩;clear hS;intro w' hS)
  (refine i2 rfl ?_)
  exact ⟨by unfold m7;simp [hs,hs3,hc],hS.sub (xg4 _)⟩
def a9u:Int->List Sh->Bool
 |_,[]=>true
 |last,s::r=>a98 s && (decide (last < s.page) && a9u s.page r)
structure ShsV (w:World) (Lp:List (Sh×Value)) (vs:Value):Prop where
 sl:Sl nF w 3 vs (Lp.map fun p=>shC p.1 p.2)
 fx:∀ p ∈ Lp,ShV w p.1 p.2
theorem ShsV.now {w w':World} {Γ:List Asr} {Lp:List (Sh×Value)} {vs:Value} (h:ShsV w Lp vs) (hS:St nF w w' Γ):ShsV w' Lp vs:=⟨h.sl.now hS,fun p hp=>(h.fx p hp).now hS⟩
def shs (Lp:List (Sh×Value)):List Sh:=Lp.map (·.1)
theorem a6J {A:List Ar} (hc:b4 A=0) {p:Int} {a:Ar} (h:l3 A p=some a):a.ok/\1<=p:=by
 have hg:=(m9.1 hc).2;have hok:=a5a hg.1 h;have:=xg2 h;unfold s7 at this;rw [xh1] at this;unfold Ar.ok at hok;exact ⟨hok,by omega⟩
structure Fm where
 data:List UInt8
 refs:Int
 dirty:Bool
 seen:Bool
 deriving DecidableEq
structure Sw where
 data:List UInt8
 refs:Int
 deriving DecidableEq
structure En where
 page:Int
 kind:Int
 at_:Int
 deriving DecidableEq
structure Sc where
 live:Bool
 areas:List Ar
 entries:List En
 deriving DecidableEq
structure Ker where
 sheets:List Sh
 frames:List Fm
 slots:List Sw
 spaces:List Sc
 hand:Int
def fm0:Fm:=⟨[],0,false,false⟩
def sw0:Sw:=⟨[],0⟩
def fmC (f:Fm):List Value:=[.string ⟨f.data.toArray⟩,.int .i64 f.refs,.bool f.dirty,.bool f.seen]
def swC (s:Sw):List Value:=[.string ⟨s.data.toArray⟩,.int .i64 s.refs]
def enC (e:En):List Value:=[.int .i64 e.page,.int .i64 e.kind,.int .i64 e.at_]
structure Sp where
 s:Sc
 va:Value
 ve:Value
def spC (p:Sp):List Value:=[.bool p.s.live,p.va,p.ve]
structure KV where
 sh:List (Sh×Value)
 fr:List Fm
 sl:List Sw
 sp:List Sp
 hand:Int
 vsh:Value
 vfr:Value
 vsl:Value
 vsp:Value
def KV.K (k:KV):Ker:=⟨shs k.sh,k.fr,k.sl,k.sp.map (·.s),k.hand⟩
structure SpV (w:World) (p:Sp):Prop where
 ar:Sl nF w 4 p.va (p.s.areas.map arC)
 en:Sl nF w 3 p.ve (p.s.entries.map enC)
structure KerV (w:World) (k:KV):Prop where
 sh:ShsV w k.sh k.vsh
 fr:Sl nF w 4 k.vfr (k.fr.map fmC)
 sl:Sl nF w 2 k.vsl (k.sl.map swC)
 sp:Sl nF w 3 k.vsp (k.sp.map spC)
 spv:∀ p ∈ k.sp,SpV w p
theorem SpV.now {w w':World} {Γ:List Asr} {p:Sp} (h:SpV w p) (hS:St nF w w' Γ):SpV w' p:=⟨h.ar.now hS,h.en.now hS⟩
theorem KerV.now {w w':World} {Γ:List Asr} {k:KV} (h:KerV w k) (hS:St nF w w' Γ):KerV w' k:=⟨h.sh.now hS,h.fr.now hS,h.sl.now hS,h.sp.now hS,fun p hp=>(h.spv p hp).now hS⟩
def b1H (l:List Sh) (p:Int):Option Sh:=l.find? fun s=>decide (s.page=p)
def a7I (l:List Sh) (z:Bool) (p:Int):Option (List UInt8):=if z then some (List.replicate 16 0) else (b1H l p).map b0W
abbrev Nm:=En×Ar
def b0D (s:Sc) (e:En):Nm:=(e,(l3 s.areas e.page).getD a3d)
def a1w (l:List Sc) (kind at_:Int):List Nm:=l.flatMap fun s=>(s.entries.filter fun e=>decide (e.kind=kind/\e.at_=at_)).map (b0D s)
def a7R (A:List Ar) (nf ns:Int) (last:Int) (e:En):Bool:=(l3 A e.page).isSome && decide (last < e.page/\((e.kind=1/\0<=e.at_/\e.at_ < nf)\/(e.kind=2/\0<=e.at_/\e.at_ < ns)))
def a33 (A:List Ar) (nf ns:Int):Int->List En->Bool
 |_,[]=>true
 |last,e::r=>a7R A nf ns last e && a33 A nf ns e.page r
def a6n (l:List Sh) (A:List Ar):Bool:=A.all fun a=>(List.range a.n.toNat).all fun i=>(a7I l a.z (a.pg + (i:Nat))).isSome
def a4o (l:List Sh) (nf ns:Int) (s:Sc):Bool:=if s.live then decide (b4 s.areas=0) && (a6n l s.areas && a33 s.areas nf ns 0 s.entries) else decide (s.areas=[]/\s.entries=[])
def b1r (l:List Sc):Int:=(l.map fun s=>o4 s.areas).sum
def lbd (l:List Int) (t:Int):Nat:=(l.takeWhile fun p=>decide (p < t)).length
theorem a7w {l:List Int} {t:Int} {i:Nat} (hi:i<=l.length) (h1:∀ (j:Nat) (p:Int),j < i->l[j]?=some p->p < t) (h2:∀ (p:Int),l[i]?=some p->t<=p):lbd l t=i:=by
 unfold lbd
 induction l generalizing i with
 |nil=>simp at hi;subst hi;rfl
 |cons a l ih=>
  cases i with
  |zero=>
   have:=h2 a rfl;rw [List.takeWhile_cons,xd7 (by simpa using this)];rfl
  |succ i=>
   have:=h1 0 a (by omega) rfl;rw [List.takeWhile_cons,xd6 (by simpa using this),xd5,ih (by simpa using hi) (fun j p hj hp=>h1 (j + 1) p (by omega) (by simpa using hp)) (fun p hp=>h2 p (by simpa using hp))]
def Rises (l:List Int):Prop:=l.Pairwise (·< ·)
theorem Rises.at_ {l:List Int} (h:Rises l) {i j:Nat} {a b:Int} (hij:i < j) (ha:l[i]?=some a) (hb:l[j]?=some b):a < b:=by
 obtain ⟨h1,rfl⟩:=xa5.1 ha;obtain ⟨h2,rfl⟩:=xa5.1 hb;exact xc7.1 h i j h1 h2 hij
theorem a8s {l:List Int} (h:Rises l) {i:Nat} {t:Int} (hi:l[i]?=some t):lbd l t=i :=
 a7w (Nat.le_of_lt (a7 hi)) (fun _ _ hj hp=>h.at_ hj hp hi) (fun p hp=>by rw [hi] at hp;cases hp;exact Int.le_refl _)
theorem a12 {l:List Int} (h:Rises l) (t:Int):(l[lbd l t]?=some t) ↔ t ∈ l:=by
 constructor
 ·intro hh;exact xc0 hh
 ·intro hm;obtain ⟨i,hi⟩:=xc8.1 hm;rw [a8s h hi];exact hi
def BsV (l:List Int) (t:Int):Value:=.tuple #[.int .i64 (lbd l t:Nat),.bool (decide (t ∈ l))]
structure Ob where
 im:Im
 vn:Value
 vs:Value
 vy:Value
 vr:Value
 at_:Int
def imC (I:Im) (vn vs vy vr:Value):List Value:=[.string ⟨I.name.toArray⟩,vn,vs,vy,vr,.int .i64 I.entry]
abbrev ObV (w:World) (o:Ob):Prop:=ImV w o.im o.vn o.vs o.vy o.vr
def stK (l:List UInt8):Value:=.string ⟨l.toArray⟩
def PlI (es:Array MapEntry) (os:List Ob):Prop:=∃ L,MapG .string es L/\L.map (·.1)=os.map fun o=>stK o.im.name
theorem PlI.mem {es:Array MapEntry} {os:List Ob} {L:List (Value×Value)} (h:L.map (·.1)=os.map fun o=>stK o.im.name) (nm:List UInt8):(∃ v,(stK nm,v) ∈ L) ↔ ∃ o ∈ os,o.im.name=nm:=by
 constructor
 ·rintro ⟨v,hv⟩;have:stK nm ∈ L.map (·.1):=xg1.2 ⟨_,hv,rfl⟩;rw [h] at this;obtain ⟨o,ho,e⟩:=xg1.1 this;unfold stK at e;exact ⟨o,ho,by simpa using e⟩
 ·rintro ⟨o,ho,rfl⟩;have:stK o.im.name ∈ L.map (·.1):=by rw [h];exact xg1.2 ⟨o,ho,rfl⟩
  obtain ⟨p,hp,e⟩:=xg1.1 this;exact ⟨p.2,by rw [<- e];exact hp⟩
def a3F (os:List Ob) (nm:List UInt8):Bool:=os.any fun o=>decide (o.im.name=nm)
theorem a3L {os:List Ob} {nm:List UInt8}:a3F os nm=true ↔ ∃ o ∈ os,o.im.name=nm:=by unfold a3F;simp
def y6 (I:Im):Int:=match I.segs.getLast? with
 |some s=>s.pg + s.n
 |none=>0
def a6k (os:List Ob) (next:Int) (I:Im) (vn vs vy vr:Value):List Ob:=if a3F os I.name=true then os else os++[⟨I,vn,vs,vy,vr,next * 16⟩]
def a16 (os:List Ob) (next:Int) (I:Im):Int:=if a3F os I.name=true then next else next + y6 I
structure ImF (F:Nat->Prop) (w:World) (o:Ob):Prop where
 needs:Sl F w 1 o.vn (o.im.needs.map stC)
 segs:Sl F w 5 o.vs (o.im.segs.map sgC)
 syms:Sl F w 2 o.vy (o.im.syms.map syC)
 rels:Sl F w 3 o.vr (o.im.rels.map rlC)
theorem ImF.now {F:Nat->Prop} {w w':World} {Γ:List Asr} {o:Ob} (h:ImF F w o) (hS:St F w w' Γ):ObV w' o:=⟨h.needs.now hS,h.segs.now hS,h.syms.now hS,h.rels.now hS⟩
def b08 (o:Ob):Value:=.agg (imC o.im o.vn o.vs o.vy o.vr).toArray
def OfB (B:List Ob) (o:Ob):Prop:=∃ a:Int,{ o with at_:=a } ∈ B
structure b06 (I:Im):Prop where
 s1:1<=I.segs.length
 s2:I.segs.all a9X=true
 s3:I.segs.length<=6
def a0e (s:List Ob×Int) (o:Ob):List Ob×Int:=(a6k s.1 s.2 o.im o.vn o.vs o.vy o.vr,a16 s.1 s.2 o.im)
structure AllI (B:List Ob) (s:List Ob×Int):Prop where
 sub:∀ o ∈ s.1,OfB B o
 nd:(s.1.map fun o=>o.im.name).Nodup
 lo:1<=s.2
 hi:s.2<=1 + 255 * s.1.length
theorem a20 {α:Type} [DecidableEq α]:∀ {l m:List α},l.Nodup->(∀ x ∈ l,x ∈ m)->l.length<=m.length
 |[],_,_,_=>by simp
 |a::l,m,h,hs=>by
  rw [List.nodup_cons] at h;have ha:=hs a (by simp);have:=a20 (l:=l) (m:=m.erase a) h.2 fun x hx=>by
   refine (List.mem_erase_of_ne ?_).2 (hs x (xb5 _ hx));rintro rfl;exact h.1 hx
  rw [List.length_erase_of_mem ha] at this;have hm:0 < m.length:=List.length_pos_of_mem ha;rw [xd5];omega
theorem AllI.len {B:List Ob} {s:List Ob×Int} (h:AllI B s):s.1.length<=B.length:=by
 have:=a20 (m:=B.map fun o=>o.im.name) h.nd fun x hx=>by
  obtain ⟨o,ho,rfl⟩:=xg1.1 hx;obtain ⟨a,ha⟩:=h.sub o ho;exact xg1.2 ⟨_,ha,rfl⟩
 simpa using this
theorem a4Z {I:Im} (h:b06 I):0<=y6 I/\y6 I<=255:=by
 unfold y6
 split
 ·rename_i s hs;have:=xb7.1 h.s2 s (List.mem_of_getLast? hs);unfold a9X at this;have:=xi8 this;omega
 ·omega
theorem AllI.step {B:List Ob} {s:List Ob×Int} {o:Ob} (h:AllI B s) (ho:o ∈ B) (hI:b06 o.im):AllI B (a0e s o):=by
 unfold a0e a6k a16;by_cases hp:a3F s.1 o.im.name=true
 ·rw [xd6 hp,xd6 hp];exact h
 ·rw [xd7 hp,xd7 hp];have hl:=a4Z hI;refine ⟨fun x hx=>?_,?_,?_,?_⟩
  ·rcases xd1.1 hx with h1|h1
   ·exact h.sub x h1
   ·have:x=⟨o.im,o.vn,o.vs,o.vy,o.vr,s.2 * 16⟩:=by simpa using h1
    exact ⟨o.at_,by rw [this];exact ho⟩
  ·rw [xj0,xj1];refine ⟨h.nd,by simp,fun a ha b hb=>?_⟩;have:b=o.im.name:=by simpa using hb
   subst this;rintro rfl;obtain ⟨x,hx,e⟩:=xg1.1 ha;exact hp (a3L.2 ⟨x,hx,e⟩)
  ·have:=h.lo;show 1<=s.2 + y6 o.im;omega
  ·have:=h.hi;show s.2 + y6 o.im<=1 + 255 * ((s.1++[_]).length:Int);rw [xd4];simp only [xd5,xa2];omega
section
variable {F:Nat->Prop} {w0 w w':World} {Γ Δ:List Asr}
end
structure Bx where
 g:Nat
 pg:Int
 data:List UInt8
 p:Option Addr
 c:Nat
 fx:List Fx
def Bx.v (b:Bx):Value:=.slice b.p b.fx.length b.c
def AOk (A:List Ar):Prop:=∀ a ∈ A,a.z=false/\0<=a.pg/\0<=a.n/\a.pg + a.n<=200000/\0<=a.prot/\a.prot<=3
theorem AOk.step {A:List Ar} {a:Ar} (h:AOk A) (ha:a.z=false/\0<=a.pg/\0<=a.n/\a.pg + a.n<=200000/\0<=a.prot/\a.prot<=3):AOk (a3Y A a):=by
 unfold a3Y
 split
 ·rename_i b hb;have hbm:=h b (List.mem_of_getLast? hb)
  split
  ·rename_i hal;unfold Ar.alike at hal;intro x hx;rcases xd1.1 hx with h1|h1
   ·exact h x ((List.dropLast_sublist A).subset h1)
   ·obtain rfl:x={ b with n:=b.n + a.n }:=by simpa using h1
    have e1:b.fin=a.pg:=hal.1;unfold Ar.fin at e1;obtain ⟨q1,q2,q3,q4,q5,q6⟩:=hbm;obtain ⟨p1,p2,p3,p4,p5,p6⟩:=ha;refine ⟨q1,q2,?_,?_,q5,q6⟩
    ·show 0<=b.n + a.n;omega
    ·show b.pg + (b.n + a.n)<=200000;omega
  ·intro x hx;rcases xd1.1 hx with h1|h1
   ·exact h x h1
   ·obtain rfl:x=a:=by simpa using h1
    exact ha
 ·intro x hx;rcases xd1.1 hx with h1|h1
  ·exact h x h1
  ·obtain rfl:x=a:=by simpa using h1
   exact ha
def a0S:List Ob->Int
 |[]=>0
 |o::l=>y6 o.im + a0S l
theorem a5M (l m:List Ob):a0S (l++m)=a0S l + a0S m:=by
 induction l with
 |nil=>simp [a0S]
 |cons o l ih=>simp only [List.cons_append,a0S,ih];omega
structure PkI (s:List Ob×Int):Prop where
 nx:s.2=1 + a0S s.1
 at_:∀ (i:Nat) (o:Ob),s.1[i]?=some o->o.at_=(1 + a0S (s.1.take i)) * 16
theorem PkI.start:PkI ([],1):=⟨rfl,fun i o h=>by simp at h⟩
theorem PkI.step {s:List Ob×Int} (o:Ob) (h:PkI s):PkI (a0e s o):=by
 unfold a0e a6k a16;by_cases hp:a3F s.1 o.im.name=true
 ·rw [xd6 hp,xd6 hp];exact h
 ·rw [xd7 hp,xd7 hp];refine ⟨?_,fun i x hx=>?_⟩
  ·show s.2 + y6 o.im=1 + a0S (s.1++[_]);rw [a5M,h.nx];simp only [a0S];omega
  ·dsimp only at hx |-;rcases xg7 i s.1.length with hi|hi
   ·rw [xa4 hi] at hx;rw [List.take_append_of_le_length (by omega)];exact h.at_ i x hx
   ·rw [xa3 hi] at hx;obtain ⟨h1,h2⟩:=xa5.1 hx;simp only [List.length_singleton] at h1;obtain rfl:i=s.1.length:=by omega
    simp only [Nat.sub_self,xh8] at h2;subst h2;rw [List.take_left];show s.2 * 16=_;rw [h.nx]
end Go.Proofs.YtejnpppejalhfadGreat
namespace Go.Proofs.YtejnpppejalhfadGreat
set_option maxRecDepth 100000
set_option maxHeartbeats 8000000
open Go.RowKit Go.Sort Go.MapKept
structure MapN (es:Array MapEntry) (L:List (List UInt8×Int)):Prop where
 held:es.toList.map (fun e=>(e.key,e.val))=L.map fun p=>(Value.string ⟨p.1.toArray⟩,Value.int .i64 p.2)
 once:(L.map (·.1)).Nodup
theorem MapN.nil:MapN #[] []:=⟨rfl,by simp⟩
theorem a8h {a b:List UInt8} (h:Value.string ⟨a.toArray⟩=Value.string ⟨b.toArray⟩):a=b:=by
 simpa using h
theorem MapN.at_ {w:World} {r c:Nat} {es:Array MapEntry} {L:List (List UInt8×Int)} (h:MapN es L) (hr:w.heap[r]?=some (.map es c)):MapAt .string w r (L.map fun p=>(Value.string ⟨p.1.toArray⟩,Value.int .i64 p.2)):=by
 refine ⟨⟨es,c,hr,h.held⟩,fun p hp=>?_,?_⟩
 ·obtain ⟨q,_,rfl⟩:=xg1.1 hp;trivial
 ·rw [List.map_map];have:(Prod.fst ∘ fun p:List UInt8×Int=>(Value.string ⟨p.1.toArray⟩,Value.int .i64 p.2))=(fun x:List UInt8=>Value.string ⟨x.toArray⟩) ∘ (·.1):=rfl;rw [this,<- List.map_map];exact List.Pairwise.map _ (fun a b hab e=>hab (a8h e)) h.once
section
variable {P:Program} {n:Nat} {ds:List Deferred} {E:Fr} {w:World} {Q:Exit->Act->World->Prop} {ops:Array Oper} {rest:List Oper} {d:Nat} {ty:TypeId} {pos:String} {after:Array Edge} {F:Nat->Prop} {w0:World} {Γ:List Asr} {T:Tab}
end
end Go.Proofs.YtejnpppejalhfadGreat
namespace Go.Proofs.YtejnpppejalhfadGreat
set_option maxRecDepth 100000
set_option maxHeartbeats 8000000
open Go.RowKit Go.Sort
structure PlR (I:Im) (i:Nat):Prop where
 rels:∀ (k:Nat) (r:Rl),k < i->I.rels[k]?=some r->(0<=r.at_/\r.at_<=4080)/\∀ b:Int,0<=b->b < 8->(own I.segs (r.at_ + b)).isSome=true
 step:∀ (k:Nat) (q r:Rl),k + 1 < i->I.rels[k]?=some q->I.rels[k + 1]?=some r->q.at_ + 8<=r.at_
theorem PlR.zero (I:Im):PlR I 0:=⟨by intros;omega,by intros;omega⟩
theorem PlR.succ {I:Im} {i:Nat} {x:Rl} (h:PlR I i) (hx:I.rels[i]?=some x) (h1:0<=x.at_/\x.at_<=4080) (h2:∀ b:Int,0<=b->b < 8->(own I.segs (x.at_ + b)).isSome=true) (h3:∀ q,0 < i->I.rels[i - 1]?=some q->q.at_ + 8<=x.at_):PlR I (i + 1) where
 rels k r hk hr:=by
  by_cases e:k=i
  ·subst e;rw [hx] at hr;cases hr;exact ⟨h1,h2⟩
  ·exact h.rels k r (by omega) hr
 step k q r hk hq hr:=by
  by_cases e:k + 1=i
  ·subst e;rw [hx] at hr;cases hr;exact h3 q (by omega) (by simpa using hq)
  ·exact h.step k q r (by omega) hq hr
def kvI (o:Ob):Value×Value:=(stK o.im.name,b08 o)
def MapB (B:List Ob) (i:Nat) (L:List (Value×Value)):Prop:=(((B.take i).map fun o=>o.im.name).Nodup->L=(B.take i).map kvI)/\(¬ ((B.take i).map fun o=>o.im.name).Nodup->L.length < i)/\L.length<=i
theorem MapB.start (B:List Ob):MapB B 0 []:=⟨fun _=>rfl,fun h=>absurd (by simp) h,xc4 _⟩
theorem MapB.mem {B:List Ob} {i:Nat} {L:List (Value×Value)} (h:L=(B.take i).map kvI) (nm:List UInt8):(∃ v,(stK nm,v) ∈ L) ↔ nm ∈ (B.take i).map fun o=>o.im.name:=by
 rw [h];constructor
 ·rintro ⟨v,hv⟩;obtain ⟨o,ho,e⟩:=xg1.1 hv;have e1:=congrArg Prod.fst e;unfold kvI stK at e1;exact xg1.2 ⟨o,ho,by simpa using e1⟩
 ·intro hn;obtain ⟨o,ho,rfl⟩:=xg1.1 hn;exact ⟨b08 o,xg1.2 ⟨o,ho,rfl⟩⟩
theorem a5y {α:Type} {l:List α} {x:α}:(l++[x]).Nodup ↔ l.Nodup/\x ∉ l:=by
 rw [xj1];constructor
 ·rintro ⟨h1,-,h3⟩;exact ⟨h1,fun h=>h3 x h x (by simp) rfl⟩
 ·rintro ⟨h1,h2⟩;refine ⟨h1,by simp,fun a ha b hb=>?_⟩;have:b=x:=by simpa using hb
  subst this;rintro rfl;exact h2 ha
theorem MapB.new {B:List Ob} {i:Nat} {L:List (Value×Value)} {o:Ob} (h:MapB B i L) (ho:B[i]?=some o) (hn:∀ v,(stK o.im.name,v) ∉ L):MapB B (i + 1) (L++[kvI o]):=by
 unfold MapB;rw [List.take_add_one,ho];simp only [Option.toList_some,xj0,xa9,List.map_nil,xd4,xd5,xa2];rw [a5y];refine ⟨fun ⟨h1,h2⟩=>by rw [h.1 h1],fun hno=>?_,by have:=h.2.2;omega⟩;by_cases h1:((B.take i).map fun o=>o.im.name).Nodup
 ·exfalso;have hin:o.im.name ∈ (B.take i).map fun o=>o.im.name:=Classical.byContradiction fun hc=>hno ⟨h1,hc⟩;obtain ⟨v,hv⟩:=(MapB.mem (h.1 h1) o.im.name).2 hin;exact hn v hv
 ·have:=h.2.1 h1;omega
theorem MapB.old {B:List Ob} {i j:Nat} {L:List (Value×Value)} {o:Ob} {u:Value} {x:Value×Value} (h:MapB B i L) (ho:B[i]?=some o) (hu:(stK o.im.name,u) ∈ L):MapB B (i + 1) (L.set j x):=by
 unfold MapB;rw [List.take_add_one,ho];simp only [Option.toList_some,xj0,xa9,List.map_nil,List.length_set];rw [a5y];refine ⟨fun ⟨h1,h2⟩=>absurd ((MapB.mem (h.1 h1) o.im.name).1 ⟨u,hu⟩) h2,fun hno=>?_,by have:=h.2.2;omega⟩;have:=h.2.2;omega
structure OrdI (B:List Ob) (ord:List Nat) (s:List Ob×Int):Prop where
 len:s.1.length=ord.length
 at_:∀ (i k:Nat),ord[i]?=some k->∃ (o:Ob) (a:Int),B[k]?=some o/\s.1[i]?=some { o with at_:=a }
theorem a6M {B:List Ob} (h:(B.map fun o=>o.im.name).Nodup) {i j:Nat} {a b:Ob} (ha:B[i]?=some a) (hb:B[j]?=some b) (he:a.im.name=b.im.name):i=j:=by
 obtain ⟨h1,rfl⟩:=xa5.1 ha;obtain ⟨h2,rfl⟩:=xa5.1 hb;unfold List.Nodup at h;rw [xc7] at h;rcases Nat.lt_trichotomy i j with hlt|heq|hlt
 ·exact absurd (by rw [xk6,xk6];exact he) (h i j (by simpa using h1) (by simpa using h2) hlt)
 ·exact heq
 ·exact absurd (by rw [xk6,xk6];exact he.symm) (h j i (by simpa using h2) (by simpa using h1) hlt)
theorem OrdI.mem {B:List Ob} {ord:List Nat} {s:List Ob×Int} {k:Nat} {o:Ob} (h:OrdI B ord s) (hn:(B.map fun o=>o.im.name).Nodup) (hk:B[k]?=some o):k ∈ ord ↔ a3F s.1 o.im.name=true:=by
 rw [a3L];constructor
 ·intro hm;obtain ⟨i,hi⟩:=xc8.1 hm;obtain ⟨o',a,h1,h2⟩:=h.at_ i k hi;rw [hk] at h1
  cases h1
  exact ⟨_,xc0 h2,rfl⟩
 ·rintro ⟨x,hx,hxn⟩;obtain ⟨i,hi⟩:=xc8.1 hx;have hil:i < ord.length:=by have:=a7 hi;have:=h.len;omega
  obtain ⟨k',hk'⟩:=n8 (l:=ord) (i:=i) (by omega);obtain ⟨o',a,h1,h2⟩:=h.at_ i k' hk';rw [hi] at h2
  cases h2
  have:=a6M hn hk h1 hxn.symm;subst this;exact xc0 hk'
theorem OrdI.old {B:List Ob} {ord:List Nat} {s:List Ob×Int} {k:Nat} {o:Ob} (h:OrdI B ord s) (hn:(B.map fun o=>o.im.name).Nodup) (hk:B[k]?=some o) (hm:k ∈ ord):OrdI B ord (a0e s o):=by
 have:=(h.mem hn hk).1 hm;unfold a0e a6k a16;rw [xd6 this,xd6 this];exact h
theorem OrdI.new {B:List Ob} {ord:List Nat} {s:List Ob×Int} {k:Nat} {o:Ob} (h:OrdI B ord s) (hn:(B.map fun o=>o.im.name).Nodup) (hk:B[k]?=some o) (hm:k ∉ ord):OrdI B (ord++[k]) (a0e s o):=by
 have hp:¬ a3F s.1 o.im.name=true:=fun hc=>hm ((h.mem hn hk).2 hc);unfold a0e a6k a16;rw [xd7 hp,xd7 hp];refine ⟨by simp [h.len],fun i j hj=>?_⟩;rcases xg7 i ord.length with hi|hi
 ·rw [xa4 hi] at hj;obtain ⟨o',a,h1,h2⟩:=h.at_ i j hj;exact ⟨o',a,h1,by rw [xa4 (by rw [h.len];exact hi)];exact h2⟩
 ·rw [xa3 hi] at hj;obtain ⟨h1,h2⟩:=xa5.1 hj;simp only [List.length_singleton] at h1;obtain rfl:i=ord.length:=by omega
  simp only [Nat.sub_self,xh8] at h2;subst h2;exact ⟨o,s.2 * 16,hk,by rw [<- h.len,xa3 (by omega)];simp⟩
theorem OrdI.start {B:List Ob} {M:Ob} (h:B[0]?=some M):OrdI B [0] (a0e ([],1) M):=by
 refine ⟨rfl,fun i k hk=>?_⟩
 cases i with
 |zero=>
  obtain rfl:0=k:=by simpa using hk
  exact ⟨M,16,h,rfl⟩
 |succ i=>simp at hk
theorem eb (b:Bool) {c:Bool} (h:b=c):Value.bool b=.bool c:=by rw [h]
structure ObsI (w:World) (os:List Ob):Prop where
 v:∀ o ∈ os,ObV w o
 b:∀ o ∈ os,∃ b:Int,o.at_=b * 16/\1<=b/\b<=1800
 y:∀ o ∈ os,∀ s ∈ o.im.syms,-9223372036854775808<=o.at_ + s.at_/\o.at_ + s.at_<=9223372036854775807
 n:os.length<=7
 k:∀ o ∈ os,a8v o.im=0
theorem ObsI.now {w w':World} {os:List Ob} {Γ:List Asr} (h:ObsI w os) (hS:St nF w w' Γ):ObsI w' os:=⟨fun o ho=>(h.v o ho).now hS,h.b,h.y,h.n,h.k⟩
abbrev Bs8:=List UInt8
section
variable {α:Type} {one:Bs8->Option (α×Bs8)}
end
theorem wrap64_in {m:Int} (h1:-9223372036854775808<=m) (h2:m<=9223372036854775807):wrap64 m=m:=by unfold wrap64;omega
section
variable {P:Program} {n:Nat} {ds:List Deferred} {E:Fr} {w:World} {dst:Option Nat} {ty:TypeId} {pos:String} {after:Array Edge} {F:Nat->Prop} {w0:World} {Γ:List Asr} {T:Tab}
end
section
variable {P:Program} {n:Nat} {ds:List Deferred} {E:Fr} {w:World} {Q:Exit->Act->World->Prop} {ops:Array Oper} {S:World->Prop} {q fuel:Nat} {li:Array Bool} {d:Nat} {op:Op} {ty:TypeId} {pos:String} {after:Array Edge} {T:Tab}
end
section
variable {P:Program} {n:Nat} {ds:List Deferred} {E E':Fr} {w:World} {F:Nat->Prop} {w0:World} {Γ:List Asr}
end
theorem ShsV.one {w:World} {l:List (Sh×Value)} {v:Value} (h:ShsV w l v):∀ p ∈ l,p.2.oneCell'=true:=fun p hp=>by
 obtain ⟨a,c,hpc⟩:=(h.fx p hp).len;rw [hpc];rfl
abbrev NL:=List (Value×List Nm)
def Grown (A B:NL) (kind:Int) (ns:List Nm):Prop:=B.length=A.length/\∀ (i:Nat) x,A[i]?=some x->∃ v,B[i]?=some (v,x.2++ns.filter fun (n:Nm)=>decide (n.1.kind=kind/\n.1.at_=((i:Nat):Int)))
theorem Grown.refl (A:NL) (kind:Int):Grown A A kind []:=⟨rfl,fun i x h=>⟨x.1,by simpa using h⟩⟩
theorem Grown.skip {A B:NL} {kind:Int} {ns:List Nm} {n:Nm} (h:Grown A B kind ns) (hn:n.1.kind≠kind):Grown A B kind (ns++[n]):=⟨h.1,fun i x hx=>by
 obtain ⟨v,hv⟩:=h.2 i x hx;refine ⟨v,?_⟩;rw [hv,xk7,List.filter_cons_of_neg (by simp [hn]),List.filter_nil,List.append_nil]⟩
theorem Grown.put {A B:NL} {kind:Int} {ns:List Nm} {n:Nm} {j:Nat} {y:Value×List Nm} {v:Value} (h:Grown A B kind ns) (hn:n.1.kind=kind) (hj:n.1.at_=(j:Nat)) (hy:B[j]?=some y):Grown A (B.set j (v,y.2++[n])) kind (ns++[n]):=⟨by rw [List.length_set];exact h.1,fun i x hx=>by
 obtain ⟨u,hu⟩:=h.2 i x hx;by_cases e:j=i
 ·subst e;rw [hy] at hu
  cases hu
  refine ⟨v,?_⟩;rw [xc9];simp [(xa5.1 hy).1,xk7,hn,hj]
 ·refine ⟨u,?_⟩;rw [List.getElem?_set_ne e,hu,xk7,List.filter_cons_of_neg (by rw [hn,hj];simp;omega),List.filter_nil,List.append_nil]⟩
theorem Grown.trans {A B C:NL} {kind:Int} {ns ms:List Nm} (h:Grown A B kind ns) (h2:Grown B C kind ms):Grown A C kind (ns++ms):=⟨h2.1.trans h.1,fun i x hx=>by
 obtain ⟨v,hv⟩:=h.2 i x hx;obtain ⟨u,hu⟩:=h2.2 i _ hv;exact ⟨u,by rw [hu,xk7,List.append_assoc]⟩⟩
structure ShsF (F:Nat->Prop) (w:World) (Lp:List (Sh×Value)) (vs:Value):Prop where
 sl:Sl F w 3 vs (Lp.map fun p=>shC p.1 p.2)
 fx:∀ p ∈ Lp,Sl F w 2 p.2 (p.1.fixes.map fxC)
theorem ShsF.now {F:Nat->Prop} {w w':World} {Γ:List Asr} {l:List (Sh×Value)} {v:Value} (h:ShsF F w l v) (hS:St F w w' Γ):ShsV w' l v:=⟨h.sl.now hS,fun p hp=>(h.fx p hp).now hS⟩
theorem ShsF.of {w:World} {l:List (Sh×Value)} {v:Value} (h:ShsV w l v):ShsF nF w l v:=⟨h.sl,fun p hp=>h.fx p hp⟩
theorem a6r {α β:Type} (A:List α) (B:List β) (hA:(A.length:Int)<=9223372036854775807) (hB:(B.length:Int)<=9223372036854775807):decide (IntKind.i64.wrap ((A.length:Int) + (B.length:Int))=0)=decide (A=[]/\B=[]):=by
 refine decide_eq_decide.2 ⟨fun h=>?_,fun ⟨h1,h2⟩=>by rw [h1,h2];rfl⟩;have h2:A.length=0/\B.length=0:=by
  simp only [IntKind.wrap,IntKind.signed,IntKind.bits] at h;omega
 exact ⟨xd9 h2.1,xd9 h2.2⟩
theorem a0Y {α:Type} {l:List α} {i:Nat} {x:α} (h:l[i]?=some x):l.take (i + 1)=l.take i++[x]:=by
 obtain ⟨h1,rfl⟩:=xa5.1 h;rw [List.take_add_one,xd0 h1];rfl
end Go.Proofs.YtejnpppejalhfadGreat
