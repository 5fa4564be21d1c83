/- Texts that the proof stands on, one behind the other: Ar12, Ar13, Ar14, Ar15, Ar16, As3, As4, Ar6, As5, PlArea3, PlLnk2, PlKer, Sc18, Sc19, Map, Sc20, Sc21, Sc22, Sc23, Bits, BitsF, Choose, Im1, Lk1. -/
import Derived.MapKept
import Derived.Laws.IdiomCopy
import Derived.Test.YtejnpppejalhfabGreatProg
import Derived.Handy
import Derived.BigQuiet
import Derived.Deep.QuietTactic
import Derived.WalkSpells
import Derived.Lib.QuietBelow
import Derived.Test.YtejnpppejalhfabGreatPRestKernels3
set_option linter.unusedVariables false
set_option linter.unusedSimpArgs false
namespace Go.Proofs.YtejnpppejalhfabGreat
set_option maxRecDepth 100000
set_option maxHeartbeats 8000000
open Go.RowKit Go.Sort
theorem a1H {P:Program} {w:World} {ops:Array Oper} {rest:List Oper} {o:Oper} {a:Act} {Q:Exit->Act->World->Prop} (hw:Region.wanted o (yielded ops a.tmps)=true) (ty:TypeId) (x:Operand) (ho:o.op=.load ty x) (g:Nat) (L:List Value) (hx:a.eval x=.pointer (some ⟨g,0,none⟩)) (h:HoldL w g L) (d:TypeDesc)
  (hu:P.underlying ty=some d) (hd:(match d with|.struct _|.array _ _=>true|_=>false)=true) (hi:(P.info? ty).map (·.size)=some L.length)
  (next:wpList P ops Q rest (a.put o.dst (.agg L.toArray)) w):wpList P ops Q (o::rest) a w:=by
 obtain ⟨t,ht⟩:=h;unfold wpList;rw [xf0 hw];exact xd6 (wp_load_row ty x ho g hx t _ _ d ht hu hd (by simpa using hi) next)
theorem a9d {v:Value} {L:List Ar} {w:World} (h:SlAr w v L) (hok:∀ (i:Nat) (a:Ar),L[i]?=some a->a.ok) (hlen:L.length<=255):Calls Tryz.prog 150 #[v] w (a1P L w):=by
 rcases h with ⟨p,c,rfl,rfl⟩|⟨b,off,cap,rfl,h2,h3,h4,h5⟩
 ·exact b1O p c w
 ·exact b2q b off cap h2 h5 hok hlen
theorem a9m {L:List Ar} (hl:¬ 255 < L.length) (hr:¬ x6 1 L):l5 L=1:=by
 unfold l5;rw [xf1 hl,xf1 (fun g=>hr g.1)]
theorem a9q {L:List Ar} (hl:¬ 255 < L.length) (hr:x6 1 L):l5 L=if a0q (s7 L) 255=L then 0 else 1:=by
 unfold l5;rw [xf1 hl];by_cases h:a3i L
 ·rw [xf0 ⟨hr,h⟩,xf0 ((a5x hr).2 h)]
 ·rw [xf1 (fun g=>h g.2),xf1 (fun e=>h ((a5x hr).1 e))]
theorem a6w (p:Option Addr) (c:Nat) (w:World):Calls Tryz.prog 114 #[.slice p 0 c] w (RB (.int .i64 0) w):=by
 have hszb:(Tryz.prog.info? 278).map (·.size)=some 256:=by kernel_rfl
 have Hszb:=hid hszb;clear hszb;have hbw:=Below.refl w.heap.size w;obtain ⟨L,hL⟩:∃ L:List Ar,L=[]:=⟨_,rfl⟩;have HR:Hid (x6 1 L):=by rw [hL];exact trivial
 have HSL:Hid (SlAr w (.slice p 0 c) L):=xd6 ⟨_,_,rfl,hL⟩;have HBD:Hid (∀ w',Below w.heap.size w w'->Calls Tryz.prog 150 #[.slice p 0 c] w' (a1P L w')):=fun w' hb=>a9d (HSL.out.grown hb) (by rw [hL];intro i a h;simp at h) (by rw [hL];simp);unfold a1P at HBD;rw [xj2 HR.out] at HBD;have HAO:=hid (fun w'=>a5H (s7 L) (fun p=>a4g p HR.out) (a0r HR.out (by omega)) w');have HEQ:Hid (a0q (s7 L) 255=L):=hid (by rw [hL];exact a3M ⟨trivial,trivial⟩);clear hL
 go_enter Tryz.func114,Tryz.ntmps114
 go_wp2
 go_loopw [3] (fun vi wr=>vi=.int .i64 0/\w=wr) (fun _ _=>0)
 case atStart=>exact ⟨rfl,rfl⟩
 case round=>
  obtain ⟨rfl,rfl⟩:=hrel
  go_wp2_with (first|go_at_call 150;(with_reducible refine (HBD.out _ hbw).mono ?_);rintro e wc ⟨bd,rfl,hbc,hbd⟩;rw [hbd HR.out];clear hbd;have hbn:=bt hbw hbc;clear hbw hbc;have hbw:=hbn;clear hbn|(with_reducible refine a01 5 ?_);refine o9 rfl (some 5) rfl (bdC (fun _=>0)) 278 (by kernel_rfl) w.heap.size w hbw hbw.size ?_;intro g5 wn5 hL5 hB5 hbn hkn hnn;skip;clear hbw hkn hnn;have hbw:=hbn;clear hbn|(with_reducible refine a0b 5 ?_);refine n6 rfl 278 (.tmp 5) (.tmp 48) rfl rfl g5 (bdC (s7 L)) (bdC (fun _=>0)) rfl rfl hL5 (by rw [Hszb.out,v7]) (by simp [v7]) (a3e _) w.heap.size w hbw hB5 ?_;intro wp5 hLn hbn hon;clear hL5 hbw hon;have hL5:=hLn;have hbw:=hbn;clear hLn hbn|(with_reducible refine a01 53 ?_);refine a1H rfl 278 (.tmp 5) rfl g5 (bdC (s7 L)) rfl hL5 _ Tryz.underlying278 rfl (by rw [Hszb.out,v7]) ?_|go_at_call 151;(with_reducible refine (HAO.out _).mono ?_);rintro e wa ⟨va,rfl,hsa,hba⟩;have hbn:=bt hbw hba;clear hbw hba;have hbw:=hbn;clear hbn)
  have HC:=a54 (b0f hsa) (HSL.out.grown hbw);rw [xj2 HEQ.out] at HC;have HC:=hid HC
  go_wp2_with (first|go_at_call 61;(with_reducible refine (HC.out).mono ?_);rintro e wz ⟨rfl,hbz⟩)
  go_ret
  exact ⟨a0k rfl,bt hbw hbz⟩
theorem a5U {L:List Ar} {w:World} (b off cap:Nat) (hbl:b < w.heap.size) (hcap:L.length<=cap) (hmax:cap<=maxLen) (t3:∀ i a,L[i]?=some a->CellsAr w b (off + i * 4) a) :
  Calls Tryz.prog 114 #[.slice (some ⟨b,off,none⟩) L.length cap] w (RB (.int .i64 (l5 L)) w):=by
 by_cases hm:255 < L.length
 ·have HC:=hid (a5K hm);clear hmax;generalize l5 L=r at *
  go_enter Tryz.func114,Tryz.ntmps114
  go_wp2
  go_ret
  exact ⟨a0k HC.out.symm,Below.refl _ _⟩
 have hszb:(Tryz.prog.info? 278).map (·.size)=some 256:=by kernel_rfl
 have Hszb:=hid hszb;clear hszb;have HSL:Hid (SlAr w (.slice (some ⟨b,off,none⟩) L.length cap) L):=xd3 ⟨b,off,cap,rfl,hbl,hcap,hmax,t3⟩;have HL:=hid t3;have hlen:L.length<=255:=by omega
 clear t3 hmax hcap;obtain ⟨r,hr⟩:∃ r,r=l5 L:=⟨_,rfl⟩;rw [<- hr];have HQ:=hid hr;clear hr
 go_enter Tryz.func114,Tryz.ntmps114
 go_wp2
 go_loopw [3] (fun vi wr=>∃ i:Nat,i<=L.length/\vi=.int .i64 i/\Below w.heap.size w wr/\Hid (∀ (j:Nat) (a:Ar),j < i->L[j]?=some a->a.ok)) (fun vi _=>L.length - (intOf vi).toNat)
 case atStart=>exact ⟨0,by omega,rfl,Below.refl _ _,fun j a hj=>by omega⟩
 case round=>
  obtain ⟨i,hi,rfl,hbw,HO⟩:=hrel;by_cases hlt:i < L.length
  ·obtain ⟨a,ha⟩:∃ a,L[i]?=some a:=⟨L[i],by simp [hlt]⟩;obtain ⟨c0,c1,c2,c3⟩:=(HL.out i a ha).grown hbw hbl;have hbr:=a20 (xb7 hbl hbw.size);have hsz:=hbw.size;have HW1:=hid (fun w=>a4m a.pg 1 255 w);have HW2:=hid (fun w=>a4m a.n 1 255 w);have HW4:=hid (fun w=>a4m a.prot 0 3 w);by_cases h1:1<=a.pg/\a.pg<=255
   ·rw [xj2 h1] at HW1;by_cases h2:1<=a.n/\a.n<=255
    ·rw [xj2 h2] at HW2;have hw1:wrap64 (a.pg + a.n)=a.pg + a.n:=z9 _ (by omega) (by omega);have hw2:wrap64 (a.pg + a.n - 1)=a.pg + a.n - 1:=z9 _ (by omega) (by omega);by_cases h3:255 < a.pg + a.n - 1
     ·have HX:=hid (a3K ha (fun h=>by unfold Ar.ok at h;omega));clear h1 h2
      go_wp2_with (first|go_at_call 56;(with_reducible refine (HW1.out _).mono ?_);rintro e w1 ⟨rfl,rfl⟩|go_at_call 56;(with_reducible refine (HW2.out _).mono ?_);rintro e w1 ⟨rfl,rfl⟩|go_at_call 56;(with_reducible refine (HW4.out _).mono ?_);rintro e w1 ⟨rfl,rfl⟩)
      go_ret
      exact ⟨a0k (by rw [HQ.out,a1s hm hlt HX.out]),(by repeat (first|with_reducible exact Below.refl _ _|with_reducible assumption|with_reducible refine Below.alloc ?_ (by first|omega|(simp;done)|(simp;omega)) _|with_reducible refine Below.setCell ?_ (by first|omega|(simp;done)|(simp;omega)) _|with_reducible refine Below.drew ?_|with_reducible refine bt ?_ (below_regrown _ _ _)|refine bt ?_ (by with_reducible assumption)))⟩
     ·by_cases h4:0<=a.prot/\a.prot<=3
      ·rw [xj2 h4] at HW4;have HX:Hid (a.ok):=hid (by unfold Ar.ok;omega);have HMS:=hid (ms5 hlt);have hws:wrap64 ((i:Int) + 1)=(i:Int) + 1:=z9 _ (by omega) (by omega);have h3':a.pg + a.n - 1<=255:=by omega
       clear h1 h2 h3 h4
       go_wp2_with (first|go_at_call 56;(with_reducible refine (HW1.out _).mono ?_);rintro e w1 ⟨rfl,rfl⟩|go_at_call 56;(with_reducible refine (HW2.out _).mono ?_);rintro e w1 ⟨rfl,rfl⟩|go_at_call 56;(with_reducible refine (HW4.out _).mono ?_);rintro e w1 ⟨rfl,rfl⟩)
       go_roundw
       case rel=>
        refine ⟨i + 1,hlt,by first|rfl|(rw [hws];rfl),(by repeat (first|with_reducible exact Below.refl _ _|with_reducible assumption|with_reducible refine Below.alloc ?_ (by first|omega|(simp;done)|(simp;omega)) _|with_reducible refine Below.setCell ?_ (by first|omega|(simp;done)|(simp;omega)) _|with_reducible refine Below.drew ?_|with_reducible refine bt ?_ (below_regrown _ _ _)|refine bt ?_ (by with_reducible assumption))),fun j x hj hx=>?_⟩;rcases xp8.1 hj with h|h
        ·exact HO.out j x h hx
        ·subst h;rw [ha] at hx;cases hx;exact HX.out
       case measure=>first|exact HMS.out|(rw [hws];exact HMS.out)
      ·rw [xj0 h4] at HW4;have HX:=hid (a3K ha (fun h=>by unfold Ar.ok at h;omega));have h3':a.pg + a.n - 1<=255:=by omega
       clear h1 h2 h3 h4
       go_wp2_with (first|go_at_call 56;(with_reducible refine (HW1.out _).mono ?_);rintro e w1 ⟨rfl,rfl⟩|go_at_call 56;(with_reducible refine (HW2.out _).mono ?_);rintro e w1 ⟨rfl,rfl⟩|go_at_call 56;(with_reducible refine (HW4.out _).mono ?_);rintro e w1 ⟨rfl,rfl⟩)
       go_ret
       exact ⟨a0k (by rw [HQ.out,a1s hm hlt HX.out]),(by repeat (first|with_reducible exact Below.refl _ _|with_reducible assumption|with_reducible refine Below.alloc ?_ (by first|omega|(simp;done)|(simp;omega)) _|with_reducible refine Below.setCell ?_ (by first|omega|(simp;done)|(simp;omega)) _|with_reducible refine Below.drew ?_|with_reducible refine bt ?_ (below_regrown _ _ _)|refine bt ?_ (by with_reducible assumption)))⟩
    ·rw [xj0 h2] at HW2;have HX:=hid (a3K ha (fun h=>by unfold Ar.ok at h;omega));clear h1 h2
     go_wp2_with (first|go_at_call 56;(with_reducible refine (HW1.out _).mono ?_);rintro e w1 ⟨rfl,rfl⟩|go_at_call 56;(with_reducible refine (HW2.out _).mono ?_);rintro e w1 ⟨rfl,rfl⟩|go_at_call 56;(with_reducible refine (HW4.out _).mono ?_);rintro e w1 ⟨rfl,rfl⟩)
     go_ret
     exact ⟨a0k (by rw [HQ.out,a1s hm hlt HX.out]),(by repeat (first|with_reducible exact Below.refl _ _|with_reducible assumption|with_reducible refine Below.alloc ?_ (by first|omega|(simp;done)|(simp;omega)) _|with_reducible refine Below.setCell ?_ (by first|omega|(simp;done)|(simp;omega)) _|with_reducible refine Below.drew ?_|with_reducible refine bt ?_ (below_regrown _ _ _)|refine bt ?_ (by with_reducible assumption)))⟩
   ·rw [xj0 h1] at HW1;have HX:=hid (a3K ha (fun h=>by unfold Ar.ok at h;omega));clear h1
    go_wp2_with (first|go_at_call 56;(with_reducible refine (HW1.out _).mono ?_);rintro e w1 ⟨rfl,rfl⟩|go_at_call 56;(with_reducible refine (HW2.out _).mono ?_);rintro e w1 ⟨rfl,rfl⟩|go_at_call 56;(with_reducible refine (HW4.out _).mono ?_);rintro e w1 ⟨rfl,rfl⟩)
    go_ret
    exact ⟨a0k (by rw [HQ.out,a1s hm hlt HX.out]),(by repeat (first|with_reducible exact Below.refl _ _|with_reducible assumption|with_reducible refine Below.alloc ?_ (by first|omega|(simp;done)|(simp;omega)) _|with_reducible refine Below.setCell ?_ (by first|omega|(simp;done)|(simp;omega)) _|with_reducible refine Below.drew ?_|with_reducible refine bt ?_ (below_regrown _ _ _)|refine bt ?_ (by with_reducible assumption)))⟩
  ·obtain rfl:i=L.length:=by omega
   have hok:∀ (j:Nat) (a:Ar),L[j]?=some a->a.ok:=fun j a hj=>HO.out j a (xa7.1 hj).1 hj;have HBD:Hid (∀ w',Below w.heap.size w w'->Calls Tryz.prog 150 #[.slice (some ⟨b,off,none⟩) L.length cap] w' (a1P L w')):=fun w' hb=>a9d (HSL.out.grown hb) hok hlen;unfold a1P at HBD;clear hok;by_cases hr:x6 1 L
   ·rw [xj2 hr] at HBD;have HR:=hid hr;have HAO:=hid (fun w'=>a5H (s7 L) (fun p=>a4g p hr) (a0r hr (by omega)) w');have hcs:=a9q hm hr;clear hr;by_cases he:a0q (s7 L) 255=L
    ·rw [xf0 he] at hcs;have HEQ:=hid he;have HCS:=hid hcs;clear he hcs
     go_wp2_with (first|go_at_call 150;(with_reducible refine (HBD.out _ hbw).mono ?_);rintro e wc ⟨bd,rfl,hbc,hbd⟩;rw [hbd HR.out];clear hbd;have hbn:=bt hbw hbc;clear hbw hbc;have hbw:=hbn;clear hbn|(with_reducible refine a01 5 ?_);refine o9 rfl (some 5) rfl (bdC (fun _=>0)) 278 (by kernel_rfl) w.heap.size w hbw hbw.size ?_;intro g5 wn5 hL5 hB5 hbn hkn hnn;skip;clear hbw hkn hnn;have hbw:=hbn;clear hbn|(with_reducible refine a0b 5 ?_);refine n6 rfl 278 (.tmp 5) (.tmp 48) rfl rfl g5 (bdC (s7 L)) (bdC (fun _=>0)) rfl rfl hL5 (by rw [Hszb.out,v7]) (by simp [v7]) (a3e _) w.heap.size w hbw hB5 ?_;intro wp5 hLn hbn hon;clear hL5 hbw hon;have hL5:=hLn;have hbw:=hbn;clear hLn hbn|(with_reducible refine a01 53 ?_);refine a1H rfl 278 (.tmp 5) rfl g5 (bdC (s7 L)) rfl hL5 _ Tryz.underlying278 rfl (by rw [Hszb.out,v7]) ?_|go_at_call 151;(with_reducible refine (HAO.out _).mono ?_);rintro e wa ⟨va,rfl,hsa,hba⟩;have hbn:=bt hbw hba;clear hbw hba;have hbw:=hbn;clear hbn)
     have HC:=a54 (b0f hsa) (HSL.out.grown hbw);rw [xj2 HEQ.out] at HC;have HC:=hid HC
     go_wp2_with (first|go_at_call 61;(with_reducible refine (HC.out).mono ?_);rintro e wz ⟨rfl,hbz⟩)
     go_ret
     exact ⟨a0k (by rw [HQ.out,HCS.out]),bt hbw hbz⟩
    ·rw [xf1 he] at hcs;have HEQ:=hid he;have HCS:=hid hcs;clear he hcs
     go_wp2_with (first|go_at_call 150;(with_reducible refine (HBD.out _ hbw).mono ?_);rintro e wc ⟨bd,rfl,hbc,hbd⟩;rw [hbd HR.out];clear hbd;have hbn:=bt hbw hbc;clear hbw hbc;have hbw:=hbn;clear hbn|(with_reducible refine a01 5 ?_);refine o9 rfl (some 5) rfl (bdC (fun _=>0)) 278 (by kernel_rfl) w.heap.size w hbw hbw.size ?_;intro g5 wn5 hL5 hB5 hbn hkn hnn;skip;clear hbw hkn hnn;have hbw:=hbn;clear hbn|(with_reducible refine a0b 5 ?_);refine n6 rfl 278 (.tmp 5) (.tmp 48) rfl rfl g5 (bdC (s7 L)) (bdC (fun _=>0)) rfl rfl hL5 (by rw [Hszb.out,v7]) (by simp [v7]) (a3e _) w.heap.size w hbw hB5 ?_;intro wp5 hLn hbn hon;clear hL5 hbw hon;have hL5:=hLn;have hbw:=hbn;clear hLn hbn|(with_reducible refine a01 53 ?_);refine a1H rfl 278 (.tmp 5) rfl g5 (bdC (s7 L)) rfl hL5 _ Tryz.underlying278 rfl (by rw [Hszb.out,v7]) ?_|go_at_call 151;(with_reducible refine (HAO.out _).mono ?_);rintro e wa ⟨va,rfl,hsa,hba⟩;have hbn:=bt hbw hba;clear hbw hba;have hbw:=hbn;clear hbn)
     have HC:=a54 (b0f hsa) (HSL.out.grown hbw);rw [xj0 HEQ.out] at HC;have HC:=hid HC
     go_wp2_with (first|go_at_call 61;(with_reducible refine (HC.out).mono ?_);rintro e wz ⟨rfl,hbz⟩)
     go_ret
     exact ⟨a0k (by rw [HQ.out,HCS.out]),bt hbw hbz⟩
   ·rw [xj0 hr] at HBD;have HX:Hid (r=1):=hid (by rw [HQ.out,a9m hm hr]);clear hr
    go_wp2_with (first|go_at_call 150;(with_reducible refine (HBD.out _ hbw).mono ?_);rintro e wc ⟨bd,rfl,hbc,hbd⟩;clear hbd;have hbn:=bt hbw hbc;clear hbw hbc;have hbw:=hbn;clear hbn|(with_reducible refine a01 5 ?_);refine o9 rfl (some 5) rfl (bdC (fun _=>0)) 278 (by kernel_rfl) w.heap.size w hbw hbw.size ?_;intro g5 wn5 hL5 hB5 hbn hkn hnn;skip;clear hbw hkn hnn;have hbw:=hbn;clear hbn|(with_reducible refine a0b 5 ?_);refine n6 rfl 278 (.tmp 5) (.tmp 48) rfl rfl g5 (bdC bd) (bdC (fun _=>0)) rfl rfl hL5 (by rw [Hszb.out,v7]) (by simp [v7]) (a3e _) w.heap.size w hbw hB5 ?_;intro wp5 hLn hbn hon;clear hL5 hbw hon;have hL5:=hLn;have hbw:=hbn;clear hLn hbn)
    go_ret
    exact ⟨a0k HX.out.symm,hbw⟩
theorem a7j {v:Value} {L:List Ar} {w:World} (h:SlAr w v L):Calls Tryz.prog 114 #[v] w (RB (.int .i64 (l5 L)) w):=by
 rcases h with ⟨p,c,rfl,rfl⟩|⟨b,off,cap,rfl,h2,h3,h4,h5⟩
 ·exact a6w p c w
 ·exact a5U b off cap h2 h3 h4 h5
theorem a1G {w:World} {v:Value} {L:List Ar} (h:Sl nF w 4 v (L.map arC)):SlAr w v L:=by
 rcases h with ⟨p,c,rfl,h⟩|⟨b,off,cap,rfl,h3,h4,hr⟩
 ·exact xd6 ⟨_,_,rfl,by simpa using h⟩
 ·rw [xi9] at h3 |-;refine xd3 ⟨b,off,cap,rfl,hr.lt,h3,h4,fun i a ha=>?_⟩;have hk:(L.map arC)[i]?=some (arC a):=by simp [ha]
  exact ⟨hr.cells i _ hk 0 _ rfl,hr.cells i _ hk 1 _ rfl,hr.cells i _ hk 2 _ rfl,hr.cells i _ hk 3 _ rfl⟩
theorem a6G {v:Value} {L:List Ar} {w:World} (h:Sl nF w 4 v (L.map arC)):Fn Tryz.prog 100 [v] w (RBf (.int .i64 (l5 L)) w) :=
 Fn.of_rb ⟨Tryz.func100,by kernel_rfl,by kernel_rfl⟩ (a4T (a1G h))
theorem a8z {M:List Ar} (hok:∀ (i:Nat) (a:Ar),M[i]?=some a->a.ok) (i:Nat):0<=y9 (M.take i)/\y9 (M.take i)<=255 * (i:Int):=by
 induction i with
 |zero=>simp [y9]
 |succ i ih=>
  cases ha:M[i]? with
  |none=>
   have:M.length<=i:=by simpa using ha
   rw [xa0 (by omega)] at ih |-;omega
  |some a=>
   rw [a30 ha];have:=hok i a ha;unfold Ar.ok at this;omega
theorem b7d (p:Option Addr) (c:Nat) (page:Int) (w:World):Calls Tryz.prog 125 #[.slice p 0 c,.int .i64 page,.func (.func 126) #[] #[]] w (b02 [] page w):=by
 go_enter Tryz.func125,Tryz.ntmps125
 go_wp2
 go_loopw [9,10] (fun vi vj wr=>vi=.int .i64 0/\vj=.int .i64 0/\wr=w) (fun _ _ _=>0)
 case atStart=>exact ⟨rfl,rfl,rfl⟩
 case round=>
  obtain ⟨rfl,rfl,rfl⟩:=hrel
  go_wp2
  go_ret2
  exact ⟨0,by simp,rfl,(by repeat ((with_reducible exact Below.refl _ _))),a93 [] page⟩
theorem b7q {v:Value} {L:List Ar} {w:World} (page:Int) (h:SlAr w v L):Calls Tryz.prog 125 #[v,.int .i64 page,.func (.func 126) #[] #[]] w (b02 L page w):=by
 rcases h with ⟨p,c,rfl,rfl⟩|⟨b,off,cap,rfl,h2,h3,h4,h5⟩
 ·exact b7d p c page w
 ·exact b6B b off cap page h2 h3 h4 h5
theorem a2X {page:Int} {a:Ar} (h:a.fin<=page\/page < a.pg):a0g page a=false:=by unfold a0g;simp;omega
theorem b3E {L:List Ar} {page:Int} (hg:a4q L) (hI:a4b L page L.length L.length):q8 L page=none :=
 a4C fun j b hj hb=>a2X (xd6 ((hI hg).1 j b hj hb))
theorem b4k {L:List Ar} {page:Int} {i:Nat} {a:Ar} (hg:a4q L) (hI:a4b L page i i) (ha:L[i]?=some a) (h:page < a.pg):q8 L page=none :=
 a4C fun j b hj hb=>by
  rcases xo8 j i with h1|h1
  ·exact a2X (xd6 ((hI hg).1 j b h1 hb))
  ·rcases Nat.lt_or_eq_of_le h1 with h2|h2
   ·have:=a6W hg h2 ha hb;have hk:=a0X hg i a ha;unfold Ar.ok at hk;exact a2X (xd3 (by unfold Ar.fin at this;omega))
   ·subst h2;rw [ha] at hb;cases hb;exact a2X (xd3 h)
theorem b4G {L:List Ar} {page:Int} {i:Nat} {a:Ar} (hg:a4q L) (hI:a4b L page i i) (ha:L[i]?=some a) (h:a.pg<=page):q8 L page=some a :=
 a6A (fun j b hj hb=>a2X (xd6 ((hI hg).1 j b hj hb))) ha (by unfold a0g;simp;exact ⟨h,(hI hg).2 i a (xd4 _) ha⟩)
def a5L (L:List Ar) (page:Int):Option Ar:=if l5 L=0 then q8 L page else none
theorem b3y {v:Value} {L:List Ar} {w:World} (page:Int) (h:SlAr w v L):Calls Tryz.prog 81 #[v,.int .i64 page] w (RB (a3j (a5L L page)) w):=by
 have HC:=hid (fun w' (hb:Below w.heap.size w w')=>a4T (h.grown hb));have HS:=hid (fun w' (hb:Below w.heap.size w w')=>b7q page (h.grown hb));have hsz:(Tryz.prog.info? 81).map (·.size)=some 4:=by kernel_rfl
 have Hsz:=hid hsz;clear hsz;have hbw:=Below.refl w.heap.size w
 go_enter Tryz.func81,Tryz.ntmps81
 go_wp2_with (first|(with_reducible refine a01 4 ?_);refine o9 rfl (some 4) rfl (zl4) 81 (by kernel_rfl) w.heap.size w hbw hbw.size ?_;intro g4 wn4 hL4 hB4 hbn hkn hnn;skip;clear hbw hkn hnn;have hbw:=hbn;clear hbn|go_at_call 125;(with_reducible refine (HS.out _ hbw).mono ?_);rintro e wc ⟨i,hi,rfl,hbc,hI⟩;have hL4:=hL4.grown hbc hL4.lt;have hbn:=bt hbw hbc;clear hbw hbc;have hbw:=hbn;clear hbn)
 by_cases hc:l5 L=0
 ·obtain ⟨_,hg⟩:=x7.1 hc;have HQ:Hid (a5L L page=q8 L page):=by refine hid ?_;unfold a5L;rw [xf0 hc]
  rw [hc] at HC;clear hc;by_cases hlt:i < L.length
  ·obtain ⟨a,ha⟩:∃ a,L[i]?=some a:=⟨L[i],by simp [hlt]⟩;rcases h with ⟨p,c,rfl,rfl⟩|⟨b,off,cap,rfl,hbl,hcap,hmax,t3⟩
   ·simp at hlt
   have HL:=hid t3;have hne:((i:Int) == L.length)=false:=by rw [beq_eq_false_iff_ne];omega
   have hli:(i:Int) < L.length:=Int.ofNat_lt.2 hlt;clear t3 hmax;by_cases hp:page < a.pg
   ·have HX:=hid (b4k hg hI ha hp);clear hI
    go_wp2_with (first|(go_at_call 100;(with_reducible refine (HC.out _ hbw).mono ?_);rintro e wk ⟨rfl,hbc⟩);have hL4:=hL4.grown hbc hL4.lt;have hbn:=bt hbw hbc;clear hbw hbc;have hbw:=hbn;clear hbn;obtain ⟨c0,c1,c2,c3⟩:=(HL.out i a ha).grown hbw hbl|(with_reducible refine a0b 4 ?_);refine n6 rfl 81 (.tmp 4) (.tmp 32) rfl rfl g4 (zl4) (zl4) rfl rfl hL4 Hsz.out rfl rfl w.heap.size w hbw hB4 ?_;intro wp4 hLn hbn hon;skip;clear hL4 hbw hon;have hL4:=hLn;have hbw:=hbn;clear hLn hbn)
    refine bodyPost_ret (v:=.tuple #[.agg (zl4).toArray,.bool false]) (x9 rfl _ g4 (zl4) (.bool false) _ rfl rfl hL4 Tryz.underlying81 rfl Hsz.out) rfl ⟨by rw [HQ.out,HX.out];rfl,hbw⟩
   ·have HX:=hid (b4G hg hI ha (by omega));clear hI;have hp':decide (page < a.pg)=false:=by simpa using hp
    go_wp2_with (first|(go_at_call 100;(with_reducible refine (HC.out _ hbw).mono ?_);rintro e wk ⟨rfl,hbc⟩);have hL4:=hL4.grown hbc hL4.lt;have hbn:=bt hbw hbc;clear hbw hbc;have hbw:=hbn;clear hbn;obtain ⟨c0,c1,c2,c3⟩:=(HL.out i a ha).grown hbw hbl|(with_reducible refine a0b 4 ?_);refine n6 rfl 81 (.tmp 4) (.tmp 36) rfl rfl g4 ([.int .i64 a.pg,.int .i64 a.n,.int .i64 a.prot,.bool a.z]) (zl4) rfl rfl hL4 Hsz.out rfl rfl w.heap.size w hbw hB4 ?_;intro wp4 hLn hbn hon;skip;clear hL4 hbw hon;have hL4:=hLn;have hbw:=hbn;clear hLn hbn)
    refine bodyPost_ret (v:=.tuple #[.agg ([.int .i64 a.pg,.int .i64 a.n,.int .i64 a.prot,.bool a.z]).toArray,.bool true]) (x9 rfl _ g4 ([.int .i64 a.pg,.int .i64 a.n,.int .i64 a.prot,.bool a.z]) (.bool true) _ rfl rfl hL4 Tryz.underlying81 rfl Hsz.out) rfl ⟨by rw [HQ.out,HX.out];rfl,hbw⟩
  ·obtain rfl:i=L.length:=by omega
   have HX:=hid (b3E hg hI);have hlen:∃ n:Nat,n=L.length:=⟨_,rfl⟩;clear hI;rcases h with ⟨p,c,rfl,rfl⟩|⟨b,off,cap,rfl,hbl,hcap,hmax,t3⟩
   ·go_wp2_with (first|(go_at_call 100;(with_reducible refine (HC.out _ hbw).mono ?_);rintro e wk ⟨rfl,hbc⟩);have hL4:=hL4.grown hbc hL4.lt;have hbn:=bt hbw hbc;clear hbw hbc;have hbw:=hbn;clear hbn;skip|(with_reducible refine a0b 4 ?_);refine n6 rfl 81 (.tmp 4) (.tmp 32) rfl rfl g4 (zl4) (zl4) rfl rfl hL4 Hsz.out rfl rfl w.heap.size w hbw hB4 ?_;intro wp4 hLn hbn hon;skip;clear hL4 hbw hon;have hL4:=hLn;have hbw:=hbn;clear hLn hbn)
    refine bodyPost_ret (v:=.tuple #[.agg (zl4).toArray,.bool false]) (x9 rfl _ g4 (zl4) (.bool false) _ rfl rfl hL4 Tryz.underlying81 rfl Hsz.out) rfl ⟨by rw [HQ.out,HX.out];rfl,hbw⟩
   ·clear t3 hmax
    go_wp2_with (first|(go_at_call 100;(with_reducible refine (HC.out _ hbw).mono ?_);rintro e wk ⟨rfl,hbc⟩);have hL4:=hL4.grown hbc hL4.lt;have hbn:=bt hbw hbc;clear hbw hbc;have hbw:=hbn;clear hbn;skip|(with_reducible refine a0b 4 ?_);refine n6 rfl 81 (.tmp 4) (.tmp 32) rfl rfl g4 (zl4) (zl4) rfl rfl hL4 Hsz.out rfl rfl w.heap.size w hbw hB4 ?_;intro wp4 hLn hbn hon;skip;clear hL4 hbw hon;have hL4:=hLn;have hbw:=hbn;clear hLn hbn)
    refine bodyPost_ret (v:=.tuple #[.agg (zl4).toArray,.bool false]) (x9 rfl _ g4 (zl4) (.bool false) _ rfl rfl hL4 Tryz.underlying81 rfl Hsz.out) rfl ⟨by rw [HQ.out,HX.out];rfl,hbw⟩
 ·have HQ:Hid (a5L L page=none):=by refine hid ?_;unfold a5L;rw [xf1 hc]
  have hn:(l5 L != 0)=true:=by rw [bne_iff_ne];exact hc
  clear hc;generalize l5 L=ck at *
  go_wp2_with (first|(go_at_call 100;(with_reducible refine (HC.out _ hbw).mono ?_);rintro e wk ⟨rfl,hbc⟩);have hL4:=hL4.grown hbc hL4.lt;have hbn:=bt hbw hbc;clear hbw hbc;have hbw:=hbn;clear hbn;skip|(with_reducible refine a0b 4 ?_);refine n6 rfl 81 (.tmp 4) (.tmp 32) rfl rfl g4 (zl4) (zl4) rfl rfl hL4 Hsz.out rfl rfl w.heap.size w hbw hB4 ?_;intro wp4 hLn hbn hon;skip;clear hL4 hbw hon;have hL4:=hLn;have hbw:=hbn;clear hLn hbn)
  refine bodyPost_ret (v:=.tuple #[.agg (zl4).toArray,.bool false]) (x9 rfl _ g4 (zl4) (.bool false) _ rfl rfl hL4 Tryz.underlying81 rfl Hsz.out) rfl ⟨by rw [HQ.out];rfl,hbw⟩
theorem b4Y {va vb:Value} {A B:List Ar} {w:World} (ha:Sl nF w 4 va (A.map arC)) (hb:Sl nF w 4 vb (B.map arC)):Fn Tryz.prog 61 [va,vb] w (RBf (.bool (decide (A=B))) w) :=
 Fn.of_rb ⟨Tryz.func61,by kernel_rfl,by kernel_rfl⟩ (a54 (a1G ha) (a1G hb))
theorem a7o {v:Value} {L:List Ar} {w:World} (h:Sl nF w 4 v (L.map arC)):Fn Tryz.prog 114 [v] w (RBf (.int .i64 (l5 L)) w) :=
 Fn.of_rb ⟨Tryz.func114,by kernel_rfl,by kernel_rfl⟩ (a7j (a1G h))
theorem b3i {v:Value} {L:List Ar} {w:World} (h:Sl nF w 4 v (L.map arC)) (hc:l5 L=0):Fn Tryz.prog 57 [v] w (RBf (.int .i64 (y9 L)) w) :=
 Fn.of_rb ⟨Tryz.func57,by kernel_rfl,by kernel_rfl⟩ (b0i (a1G h) hc)
theorem a3X {v:Value} {L:List Ar} {w:World} (page:Int) (h:Sl nF w 4 v (L.map arC)) (hok:∀ (i:Nat) (a:Ar),L[i]?=some a->a.ok):Fn Tryz.prog 30 [v,.int .i64 page] w (RBf (a3j (q8 L page)) w) :=
 Fn.of_rb ⟨Tryz.func30,by kernel_rfl,by kernel_rfl⟩ (b0T page (a1G h) hok)
theorem a6f {v:Value} {L:List Ar} {w:World} (page:Int) (h:Sl nF w 4 v (L.map arC)):Fn Tryz.prog 81 [v,.int .i64 page] w (RBf (a3j (a5L L page)) w) :=
 Fn.of_rb ⟨Tryz.func81,by kernel_rfl,by kernel_rfl⟩ (b3y page (a1G h))
theorem a6U {v:Value} {L:List Ar} {w:World} (h:Sl nF w 4 v (L.map arC)):Fn Tryz.prog 53 [v] w (RBf (.int .i64 (if l5 L=0 then y9 L else 0)) w):=by
 by_cases hc:l5 L=0
 ·rw [xf0 hc];exact Fn.of_rb ⟨Tryz.func53,by kernel_rfl,by kernel_rfl⟩ (b0r (a1G h) hc)
 ·rw [xf1 hc];exact Fn.of_rb ⟨Tryz.func53,by kernel_rfl,by kernel_rfl⟩ (b2L (a1G h) hc)
theorem Sl.nil (w:World) (sz:Nat):Sl nF w sz (.slice none 0 0) []:=xd6 ⟨_,_,rfl,rfl⟩
theorem b5a {L:List Ar} {p:Int} {a:Ar} (h:x6 1 L) (hf:q8 L p=some a):a.ok:=by
 unfold q8 at hf;obtain ⟨i,hi⟩:=xd9.1 (xi1 hf);exact b4T h i a hi
theorem a4x {L:List Ar} {p:Int} (h:l5 L=0):a5L L p=q8 L p:=xf0 h
def a7s (A:List Ar) (p:Int):Bool:=match q8 A p with
 |some a=>!a.z
 |none=>false
def a7v (A:List Ar):Int->List Sh->Bool
 |_,[]=>true
 |last,s::r=>a7s A s.page && (t8 s && (decide (last < s.page) && a7v A s.page r))
def a0C:Int->List Sh->Bool
 |_,[]=>true
 |last,s::r=>t8 s && (decide (last < s.page) && a0C s.page r)
def arB (A:List Ar) (l:List Sh):Bool:=l.all fun s=>a7s A s.page
theorem b5l (A:List Ar):∀ (l:List Sh) (last:Int),a7v A last l=(a0C last l && arB A l):=by
 intro l
 induction l with
 |nil=>intro last;rfl
 |cons s r ih=>
  intro last;simp only [a7v,a0C,arB,xo6,ih]
  cases a7s A s.page <;> cases t8 s <;> cases decide (last < s.page) <;> cases a0C s.page r <;> rfl
def a6J (A:List Ar) (en:Int):Bool:=decide (0<=en/\en.tmod 8=0) && (match q8 A (en.tdiv 16) with
 |some a=>decide (2<=a.prot)
 |none=>false)
def lkB (A:List Ar) (L:List Sh) (en:Int):Bool:=decide ((L.length:Int)=y9 A) && (a7v A 0 L && a6J A en)
def a1n (A:List Ar) (L:List Sh) (en:Int):Int:=if l5 A=0 then (if lkB A L en=true then 0 else 1) else l5 A
structure ShsV (w:World) (Lp:List (Sh×Value)) (vs:Value):Prop where
 sl:Sl nF w 3 vs (Lp.map fun p=>shC p.1 p.2)
 fx:∀ p ∈ Lp,ShV w p.1 p.2
theorem ShsV.now {w w':World} {Γ:List Asr} {Lp:List (Sh×Value)} {vs:Value} (h:ShsV w Lp vs) (hS:St nF w w' Γ):ShsV w' Lp vs:=⟨h.sl.now hS,fun p hp=>(h.fx p hp).now hS⟩
def shs (Lp:List (Sh×Value)):List Sh:=Lp.map (·.1)
theorem a0Z (Lp:List (Sh×Value)):(shs Lp).length=Lp.length:=by unfold shs;simp
theorem a24 {Lp:List (Sh×Value)} {i:Nat} {p:Sh×Value} (h:Lp[i]?=some p):(shs Lp)[i]?=some p.1:=by unfold shs;rw [xh6,h];rfl
theorem b2K {A:List Ar} {l:List Sh} {i:Nat} {s:Sh} {last:Int} (h:l[i]?=some s):a7v A last (l.drop i)=(a7s A s.page && (t8 s && (decide (last < s.page) && a7v A s.page (l.drop (i + 1))))):=by
 rw [a3a h];rfl
theorem a1i {A:List Ar} (hc:l5 A=0) {p:Int} {a:Ar} (h:q8 A p=some a):a.ok/\1<=p:=by
 have hg:=(x7.1 hc).2;have hok:=b5a hg.1 h;have:=xi3 h;unfold a0g at this;rw [xb3] at this;unfold Ar.ok at hok;exact ⟨hok,by omega⟩
def lkA (va vs:Value) (en:Int):Value:=.agg [va,vs,.int .i64 en].toArray
structure Fm where
 data:List UInt8
 refs:Int
 dirty:Bool
 seen:Bool
 deriving DecidableEq
structure Sw where
 data:List UInt8
 refs:Int
 deriving DecidableEq
structure En where
 page:Int
 kind:Int
 at_:Int
 deriving DecidableEq
structure Sc where
 live:Bool
 areas:List Ar
 entries:List En
 deriving DecidableEq
structure Ker where
 sheets:List Sh
 frames:List Fm
 slots:List Sw
 spaces:List Sc
 hand:Int
def fm0:Fm:=⟨[],0,false,false⟩
def sw0:Sw:=⟨[],0⟩
def fmC (f:Fm):List Value:=[.string ⟨f.data.toArray⟩,.int .i64 f.refs,.bool f.dirty,.bool f.seen]
def swC (s:Sw):List Value:=[.string ⟨s.data.toArray⟩,.int .i64 s.refs]
def enC (e:En):List Value:=[.int .i64 e.page,.int .i64 e.kind,.int .i64 e.at_]
structure Sp where
 s:Sc
 va:Value
 ve:Value
def spC (p:Sp):List Value:=[.bool p.s.live,p.va,p.ve]
structure KV where
 sh:List (Sh×Value)
 fr:List Fm
 sl:List Sw
 sp:List Sp
 hand:Int
 vsh:Value
 vfr:Value
 vsl:Value
 vsp:Value
def KV.K (k:KV):Ker:=⟨shs k.sh,k.fr,k.sl,k.sp.map (·.s),k.hand⟩
def kvC (k:KV):List Value:=[k.vsh,k.vfr,k.vsl,k.vsp,.int .i64 k.hand]
structure SpV (w:World) (p:Sp):Prop where
 ar:Sl nF w 4 p.va (p.s.areas.map arC)
 en:Sl nF w 3 p.ve (p.s.entries.map enC)
structure KerV (w:World) (k:KV):Prop where
 sh:ShsV w k.sh k.vsh
 fr:Sl nF w 4 k.vfr (k.fr.map fmC)
 sl:Sl nF w 2 k.vsl (k.sl.map swC)
 sp:Sl nF w 3 k.vsp (k.sp.map spC)
 spv:∀ p ∈ k.sp,SpV w p
theorem SpV.now {w w':World} {Γ:List Asr} {p:Sp} (h:SpV w p) (hS:St nF w w' Γ):SpV w' p:=⟨h.ar.now hS,h.en.now hS⟩
theorem KerV.now {w w':World} {Γ:List Asr} {k:KV} (h:KerV w k) (hS:St nF w w' Γ):KerV w' k:=⟨h.sh.now hS,h.fr.now hS,h.sl.now hS,h.sp.now hS,fun p hp=>(h.spv p hp).now hS⟩
def a7t (l:List Sh) (p:Int):Option Sh:=l.find? fun s=>decide (s.page=p)
def a0I (l:List Sh) (z:Bool) (p:Int):Option (List UInt8):=if z then some (List.replicate 16 0) else (a7t l p).map a5A
abbrev Nm:=En×Ar
def nmC (n:Nm):List Value:=[.int .i64 n.1.page,.int .i64 n.1.kind,.int .i64 n.1.at_,.int .i64 n.2.pg,.int .i64 n.2.n,.int .i64 n.2.prot,.bool n.2.z]
def a1F {α:Type} (p:α->Bool) (l:List α):Int:=match l.findIdx? p with
 |some i=>(i:Nat)
 |none=>-1
def a0Q (s:Sc) (e:En):Nm:=(e,(q8 s.areas e.page).getD a2L)
def j6 (l:List Sc) (kind at_:Int):List Nm:=l.flatMap fun s=>(s.entries.filter fun e=>decide (e.kind=kind/\e.at_=at_)).map (a0Q s)
def a0P (l:List Nm):Bool:=match l with
 |[]=>true
 |n::r=>r.all fun m=>decide (m.1.page=n.1.page/\m.2.z=n.2.z)
def a17 (A:List Ar) (nf ns:Int) (last:Int) (e:En):Bool:=(q8 A e.page).isSome && decide (last < e.page/\((e.kind=1/\0<=e.at_/\e.at_ < nf)\/(e.kind=2/\0<=e.at_/\e.at_ < ns)))
def a1y (A:List Ar) (nf ns:Int):Int->List En->Bool
 |_,[]=>true
 |last,e::r=>a17 A nf ns last e && a1y A nf ns e.page r
def a1L (l:List Sh) (A:List Ar):Bool:=A.all fun a=>(List.range a.n.toNat).all fun i=>(a0I l a.z (a.pg + (i:Nat))).isSome
def t9 (l:List Sh) (nf ns:Int) (s:Sc):Bool:=if s.live then decide (l5 s.areas=0) && (a1L l s.areas && a1y s.areas nf ns 0 s.entries) else decide (s.areas=[]/\s.entries=[])
def a0n (l:List Sc):Int:=(l.map fun s=>y9 s.areas).sum
def a1t (l:List Sh) (f:Fm) (by_:List Nm):Bool:=match by_ with
 |[]=>decide (f=fm0)
 |n::r=>decide (f.refs=((n::r).length:Int)/\f.data.length=16) && (a0P (n::r) && (f.dirty||decide (some f.data=a0I l n.2.z n.1.page)))
def a16 (s:Sw) (by_:List Nm):Bool:=match by_ with
 |[]=>decide (s=sw0)
 |n::r=>decide (s.refs=((n::r).length:Int)/\s.data.length=16) && a0P (n::r)
def a0Y (K:Ker):Bool:=(List.range K.frames.length).all fun i=>match K.frames[i]? with
 |some f=>a1t K.sheets f (j6 K.spaces 1 (i:Nat))
 |none=>true
def a1S (K:Ker):Bool:=(List.range K.slots.length).all fun i=>match K.slots[i]? with
 |some s=>a16 s (j6 K.spaces 2 (i:Nat))
 |none=>true
def a11 (K:Ker):Bool:=decide (3<=K.frames.length/\K.frames.length<=64/\K.slots.length<=512/\1<=K.spaces.length/\K.spaces.length<=4/\K.sheets.length<=255)
def b5v (K:Ker):Bool:=K.spaces.all (t9 K.sheets K.frames.length K.slots.length)
def a5E (K:Ker):Bool:=(a0C 0 K.sheets && decide (0<=K.hand/\K.hand < K.frames.length)) && (b5v K && (decide (a0n K.spaces<=K.slots.length) && (a0Y K && a1S K)))
def a0N (K:Ker):Int:=if a11 K=true then (if a5E K=true then 0 else 1) else 2
def lbd (l:List Int) (t:Int):Nat:=(l.takeWhile fun p=>decide (p < t)).length
theorem b6c (l:List Int) (t:Int):lbd l t<=l.length:=by
 unfold lbd;exact List.Sublist.length_le (List.takeWhile_sublist _)
theorem a8R {l:List Int} {t:Int} {i:Nat} (hi:i<=l.length) (h1:∀ (j:Nat) (p:Int),j < i->l[j]?=some p->p < t) (h2:∀ (p:Int),l[i]?=some p->t<=p):lbd l t=i:=by
 unfold lbd
 induction l generalizing i with
 |nil=>simp at hi;subst hi;rfl
 |cons a l ih=>
  cases i with
  |zero=>
   have:=h2 a rfl;rw [List.takeWhile_cons,xf1 (by simpa using this)];rfl
  |succ i=>
   have:=h1 0 a (by omega) rfl;rw [List.takeWhile_cons,xf0 (by simpa using this),xb1,ih (by simpa using hi) (fun j p hj hp=>h1 (j + 1) p (by omega) (by simpa using hp)) (fun p hp=>h2 p (by simpa using hp))]
def Rises (l:List Int):Prop:=l.Pairwise (·< ·)
theorem Rises.at_ {l:List Int} (h:Rises l) {i j:Nat} {a b:Int} (hij:i < j) (ha:l[i]?=some a) (hb:l[j]?=some b):a < b:=by
 obtain ⟨h1,rfl⟩:=xa7.1 ha;obtain ⟨h2,rfl⟩:=xa7.1 hb;exact xd8.1 h i j h1 h2 hij
theorem b1w {l:List Int} (h:Rises l) {i:Nat} {t:Int} (hi:l[i]?=some t):lbd l t=i :=
 a8R (Nat.le_of_lt (d6 hi)) (fun _ _ hj hp=>h.at_ hj hp hi) (fun p hp=>by rw [hi] at hp;cases hp;exact xi7 _)
theorem a1l {l:List Int} (h:Rises l) (t:Int):(l[lbd l t]?=some t) ↔ t ∈ l:=by
 constructor
 ·intro hh;exact xd0 hh
 ·intro hm;obtain ⟨i,hi⟩:=xd9.1 hm;rw [b1w h hi];exact hi
theorem a2Y {α:Type} {p:α->Bool} {l:List α} {k:Nat} {x:α} (h:(l.take k).all (fun y=>!p y)=true) (hx:l[k]?=some x) (hp:p x=true):a1F p l=(k:Nat):=by
 unfold a1F;have:l.findIdx? p=some k:=by
  rw [xl0];obtain ⟨h1,rfl⟩:=xa7.1 hx;refine ⟨h1,hp,fun j hj=>?_⟩;have:=xc7.1 h l[j] (xd9.2 ⟨j,by rw [xf4];simp [hj]⟩)
  simpa using this
 rw [this]
theorem a2k {α:Type} {p:α->Bool} {l:List α} {k:Nat} (h:(l.take k).all (fun y=>!p y)=true) (hk:l.length<=k):a1F p l=-1:=by
 unfold a1F;rw [xa0 hk] at h;have:l.findIdx? p=none:=by
  rw [xk9];intro x hx;have:=xc7.1 h x hx
  simpa using this
 rw [this]
theorem a9e {α:Type} {p:α->Bool} {l:List α}:decide (0<=a1F p l)=l.any p:=by
 unfold a1F
 cases h:l.findIdx? p with
 |none=>
  rw [xk9] at h
  symm
  rw [show decide (0<=(-1:Int))=false from rfl,List.any_eq_false];intro x hx;simp [h x hx]
 |some i=>
  rw [xl0] at h;obtain ⟨h1,h2,-⟩:=h;rw [xj2 (by omega:(0:Int)<=((i:Nat):Int))]
  symm
  rw [xn2];exact ⟨l[i],by simp,h2⟩
section
variable {P:Program} {n:Nat} {ds:List Deferred} {E:Fr} {w:World} {Q:Exit->Act->World->Prop} {ops:Array Oper} {rest:List Oper} {d:Nat} {dst:Option Nat} {op:Op} {ty:TypeId} {pos:String} {after:Array Edge} {T:Tab}
end
section
variable {P:Program} {n:Nat} {ds:List Deferred} {E:Fr} {w:World} {Q:Exit->Act->World->Prop} {ops:Array Oper} {S:World->Prop} {q fuel:Nat} {li:Array Bool} {d:Nat} {op:Op} {ty:TypeId} {pos:String} {after:Array Edge} {T:Tab}
theorem Gets.pure {dst:Option Nat} {op:Op} {v:Value} (hT:TabOk P T) (hv:a0i T E op=some v):Gets P ⟨dst,op,ty,pos,after,none⟩ n ds E w (fun v' w'=>v'=v/\w'=w):=Gets.of_runs fun _ ha=>l6 hT ha hv
theorem Gets.build {dst:Option Nat} (hT:TabOk P T) {t s:Nat} {fs:List (Nat×Nat×Bool)} {z L:List Value} {parts:Array (Nat×Operand)} {ps:List (Nat×Value)} (ht:T.get t=some (.st s fs z)) (hp:evP E parts.toList=some ps) (hL:a2b (fun i=>(fs[i]?).map fun f=>(f.1,f.2.1)) z ps=some L):Gets P ⟨dst,.build t parts,ty,pos,after,none⟩ n ds E w (fun v' w'=>v'=.agg L.toArray/\w'=w):=Gets.of_runs fun _ ha=>a3O hT ht hp hL _ ha
end
theorem Sl.nil0 (w:World) (sz:Nat):Sl nF w sz (.slice none 0 0) []:=xd6 ⟨_,_,rfl,rfl⟩
section
variable {F:Nat->Prop} {w0 w w':World} {Γ Δ:List Asr}
def a9M {α:Type} (l:List α):List Nat->Option (List α)
 |[]=>some []
 |i::r=>match l[i]?,a9M l r with
  |some x,some xs=>some (x::xs)
  |_,_=>none
theorem a4V {α:Type} {l:List α}:∀ {is:List Nat} {xs:List α},a9M l is=some xs->∀ (k:Nat) (x:α),xs[k]?=some x->∃ i,is[k]?=some i/\l[i]?=some x:=by
 intro is
 induction is with
 |nil=>intro xs h k x hx;cases h;simp at hx
 |cons i r ih=>
  intro xs h k x hx;unfold a9M at h
  split at h
  ·rename_i y ys h1 h2
   cases h
   cases k with
   |zero=>simp at hx;subst hx;exact ⟨i,rfl,h1⟩
   |succ k=>simpa using ih h2 k x (by simpa using hx)
  ·cases h
theorem St.reorder (is:List Nat) (h:St F w0 w Γ) (hn:is.Nodup) (hp:a9M Γ is=some Δ):St F w0 w Δ:=by
 have hmem:∀ A ∈ Δ,A ∈ Γ:=fun A hA=>by
  obtain ⟨k,hk⟩:=xd9.1 hA;obtain ⟨i,_,hi⟩:=a4V hp k A hk;exact xd0 hi
 refine ⟨h.os,h.tape,h.output,h.size,h.base,fun A hA=>h.holds A (hmem A hA),fun A hA=>h.own A (hmem A hA),?_⟩;rw [xd8];intro j k hj hk hlt;obtain ⟨a,ha,ha2⟩:=a4V hp j _ (xe1 hj);obtain ⟨b,hb,hb2⟩:=a4V hp k _ (xe1 hk);refine a3t h.apart ha2 hb2 (fun e=>?_);subst e;obtain ⟨h1,h2⟩:=xa7.1 ha;obtain ⟨h3,h4⟩:=xa7.1 hb;have:=xd8.1 hn j k h1 h3 hlt;exact this (h2.trans h4.symm)
end
section
variable {P:Program} {n:Nat} {ds:List Deferred} {E:Fr} {w:World} {Q:Exit->Act->World->Prop} {ops:Array Oper} {rest:List Oper} {d:Nat} {ty:TypeId} {pos:String} {after:Array Edge}
theorem a8A {F:Nat->Prop} {w0:World} {Γ:List Asr} {id:Nat} {l:List Oper} (m:Nat) (hl:l.length=m) (hS:St F w0 w Γ) (hm:P.follows .mixedOrders=true) (h:∀ w1,St F w0 w1 Γ->WA P l.toArray Q (fun w'=>St F w0 w' Γ) m (Array.replicate m false) n ds E w1):WC P (.region id l.toArray true) Q n ds E w:=a4h _ m hl hS hm h
theorem a1D {i:Nat} (_C:Nn i) {S:World->Prop} {fuel:Nat} {li:Array Bool} {op:Op} {v:Value} (hi:ops[i]?=some ⟨some d,op,ty,pos,after,none⟩) (hs:Region.noSelect ops=true) (hf:Region.free .any ops li i=true) (hr:(Region.ready .any ops li).contains i=true)
  (hQ:∀ c (a:Act) w,Q (.panic c) (a.put (some d) v) w->Q (.panic c) a w) (hS:S w) (h:∀ a,Has n ds a E->a05 P ⟨some d,op,ty,pos,after,none⟩ a v) (hd:Nat.blt d n=true) (k:WA P ops Q S fuel (li.setIfInBounds i true) n ds ((d,v)::E) w):WA P ops Q S (fuel + 1) li n ds E w:=fun a ha=>
 wpAnyH_take hi hs hf hr hQ (xd6 ⟨rfl,fun w _=>h a ha w⟩) hS (k _ (ha.put d v hd))
theorem b6s {i:Nat} (_C:Nn i) {T:Tab} {S:World->Prop} {fuel:Nat} {li:Array Bool} (hT:TabOk P T) {t:TypeId} {x y:Operand} {el sz eb b off m c j:Nat} {ag:Bool} {z:List Value} {ii:Int} (hi:ops[i]?=some ⟨some d,.indexAddr t x y,ty,pos,after,none⟩) (hs:Region.noSelect ops=true) (hf:Region.free .any ops li i=true) (hr:(Region.ready .any ops li).contains i=true)
  (hQ:∀ c (a:Act) w v,Q (.panic c) (a.put (some d) v) w->Q (.panic c) a w) (hS:S w) (ht:T.get t=some (.sl el sz eb ag z)) (hx:E.ev x=some (.slice (some ⟨b,off,none⟩) m c)) (hy:E.ev y=some (.int .i64 ii)) (hj:(j:Int)=ii) (hm:j < m) (hd:Nat.blt d n=true) (k:WA P ops Q S fuel (li.setIfInBounds i true) n ds ((d,.pointer (some ⟨b,off + j * sz,none⟩))::E) w):WA P ops Q S (fuel + 1) li n ds E w :=
 a1D _C hi hs hf hr (fun c a w h=>hQ c a w _ h) hS (fun a ha=>a5i hT ht hx hy hj hm a ha _) hd k
theorem b7j {t yt:TypeId} {x y:Operand} {m k:Int} (hx:E.ev x=some (.int .i64 m)) (hy:E.ev y=some (.int .i64 k)):∀ a,Has n ds a E->∀ dst,a05 P ⟨dst,.binOp .and t x y yt,ty,pos,after,none⟩ a (.int .i64 (bits .and .i64 m k)):=fun a ha _ w=>by
 simp only [execOp,ha.ev hx,ha.ev hy];simp [eqGuard,binOp,go_sem]
theorem a77 {t yt:TypeId} {x y:Operand} {m k r:Int} (hx:E.ev x=some (.int .i64 m)) (hy:E.ev y=some (.int .i64 k)) (hr:bits .and .i64 m k=r) (hd:Nat.blt d n=true) (k':WL P ops Q rest n ds ((d,.int .i64 r)::E) w):WL P ops Q (⟨some d,.binOp .and t x y yt,ty,pos,after,none⟩::rest) n ds E w:=a0v (fun a ha=>hr ▸ b7j hx hy a ha _) hd k'
theorem b5c {m k:Int} (h0:-9223372036854775808<=m) (h1:m<=9223372036854775807) (hk:0 < k):-9223372036854775808<=m.tdiv k/\m.tdiv k<=9223372036854775807:=by
 by_cases h:0<=m
 ·rw [xf2 h];have a1:=Int.ediv_nonneg h (by omega:0<=k);have a2:=Int.ediv_le_self k h;omega
 ·have e:m.tdiv k=-((-m).tdiv k):=by rw [Int.neg_tdiv,Int.neg_neg]
  rw [e,xf2 (by omega)];have a1:=Int.ediv_nonneg (show 0<=-m by omega) (by omega:0<=k);have a2:=Int.ediv_le_self k (show 0<=-m by omega);omega
theorem b6t {t yt:TypeId} {x y:Operand} {m k:Int} (hx:E.ev x=some (.int .i64 m)) (hy:E.ev y=some (.int .i64 k)) (h0:-9223372036854775808<=m) (h1:m<=9223372036854775807) (h3:0 < k):∀ a,Has n ds a E->∀ dst,a05 P ⟨dst,.binOp .quo t x y yt,ty,pos,after,none⟩ a (.int .i64 (m.tdiv k)):=fun a ha _ w=>by
 have hk:¬ k=0:=by omega
 have:=b5c h0 h1 h3;simp [execOp,ha.ev hx,ha.ev hy,eqGuard,binOp,Op.intDiv,hk,a32 this.1 this.2]
theorem a2d {t yt:TypeId} {x y:Operand} {m k:Int} (hx:E.ev x=some (.int .i64 m)) (hy:E.ev y=some (.int .i64 k)) (h0:-9223372036854775808<=m) (h1:m<=9223372036854775807) (h3:0 < k) (hd:Nat.blt d n=true) (k':WL P ops Q rest n ds ((d,.int .i64 (m.tdiv k))::E) w):WL P ops Q (⟨some d,.binOp .quo t x y yt,ty,pos,after,none⟩::rest) n ds E w:=a0v (fun a ha=>b6t hx hy h0 h1 h3 a ha _) hd k'
theorem b7I {p:Int} (h0:0<=p) (h1:p<=3):bits .and .i64 p 2=if 2<=p then 2 else 0:=by
 have h:p=0\/p=1\/p=2\/p=3:=by omega
 rcases h with rfl|rfl|rfl|rfl <;> decide
theorem b8a {p:Int} (h0:0<=p) (h1:p<=3):bits .and .i64 p 1=if p=1\/p=3 then 1 else 0:=by
 have h:p=0\/p=1\/p=2\/p=3:=by omega
 rcases h with rfl|rfl|rfl|rfl <;> decide
end
end Go.Proofs.YtejnpppejalhfabGreat
namespace Go.Proofs.YtejnpppejalhfabGreat
set_option maxRecDepth 100000
set_option maxHeartbeats 8000000
open Go.RowKit Go.MapKept
structure MapAt (d:TypeDesc) (w:World) (r:Nat) (L:List (Value×Value)):Prop where
 held:∃ es c,w.heap[r]?=some (.map es c)/\es.toList.map (fun e=>(e.key,e.val))=L
 keys:∀ p ∈ L,IsKey d p.1
 once:(L.map (·.1)).Nodup
section
variable {P:Program} {d:TypeDesc} {w w':World} {r:Nat} {L:List (Value×Value)} {T K E:TypeId} {k v:Value}
theorem MapAt.lt (h:MapAt d w r L):r < w.heap.size:=by
 obtain ⟨es,c,hb,_⟩:=h.held;exact (xb8.1 hb).1
theorem MapAt.keep (h:MapAt d w r L) (hk:w'.heap[r]?=w.heap[r]?):MapAt d w' r L:=by
 obtain ⟨es,c,hb,hl⟩:=h.held;exact ⟨⟨es,c,hk.trans hb,hl⟩,h.keys,h.once⟩
theorem MapAt.below {B:Nat} (h:MapAt d w r L) (hb:Below B w w') (hr:r < B):MapAt d w' r L:=h.keep (hb.block r hr)
theorem MapAt.grown (h:MapAt d w r L) (hb:Below w.heap.size w w'):MapAt d w' r L:=h.below hb h.lt
theorem a5F (hk:IsKey d k):∀ (l:List MapEntry) (i:Nat),(∀ e ∈ l,IsKey d e.key)->((l.map (·.key)).Nodup)->(∃ e ∈ l,e.key=k/\e.val=v)->∃ j,j < l.length/\Instr.findNow d k l i=some (some (i + j,v))/\((l[j]?).map (·.key))=some k:=by
 intro l i hl hn ⟨e,he,hek,hev⟩;rcases findNow_spec hk l i hl with ⟨_,h2⟩|⟨j,e',h1,h2,h3⟩
 ·exact (h2 e he hek).elim
 ·have hj:j < l.length:=(xa7.1 h2).1;have e':e'=e:=by
   obtain ⟨j2,hj2,hje⟩:=List.getElem_of_mem he;have a1:l[j]=e':=(xa7.1 h2).2;have:j=j2:=by
    have hnd:=xd8.1 hn;rcases Nat.lt_trichotomy j j2 with hlt|heq|hgt
    ·exact (hnd j j2 (by simpa using hj) (by simpa using hj2) hlt (by simp [a1,hje,h3,hek])).elim
    ·exact heq
    ·exact (hnd j2 j (by simpa using hj2) (by simpa using hj) hgt (by simp [a1,hje,h3,hek])).elim
   subst this;rw [<- a1,hje]
  subst e';exact ⟨j,hj,by rw [h1,hev],by rw [h2];simp [h3]⟩
theorem a4Y (hk:IsKey d k) (l:List MapEntry) (i:Nat) (hl:∀ e ∈ l,IsKey d e.key) (hno:∀ e ∈ l,e.key≠k):Instr.findNow d k l i=some none:=by
 rcases findNow_spec hk l i hl with ⟨h1,_⟩|⟨j,e,_,h2,h3⟩
 ·exact h1
 ·exact (hno e (xd0 h2) h3).elim
theorem a6x (ht:P.underlying T=some (.map K E)) (hd:P.underlying K=some d) (h:MapAt d w r L) (hk:IsKey d k) (hm:(k,v) ∈ L) (ok:Bool) :
  (Instr.lookup T (.map (some r)) k ok).run P w=.ok (if ok then .tuple #[v,.bool true] else v) w:=by
 obtain ⟨es,c,hb,rfl⟩:=h.held;obtain ⟨e,he,hee⟩:=xm5.1 hm;simp only [Prod.mk.injEq] at hee;have hkeys:∀ e ∈ es.toList,IsKey d e.key:=fun e he=>h.keys (e.key,e.val) (xm5.2 ⟨e,he,rfl⟩);have hnd:(es.toList.map (·.key)).Nodup:=by have:=h.once;simpa [xn6,Function.comp_def] using this
 obtain ⟨j,_,hf,_⟩:=a5F (v:=v) hk es.toList 0 hkeys hnd ⟨e,he,hee.1,hee.2⟩;have h1:=run_checkKey (P:=P) (w:=w) hd hk es.isEmpty 9999;have h2:=run_findKey (P:=P) (w:=w) hd hf
 cases ok <;> simp [Instr.lookup,run_underlying ht,Go.MapKept.run_getObj_map hb,h1,h2,Result.andThen]
theorem a5Y (ht:P.underlying T=some (.map K E)) (hd:P.underlying K=some d) (h:MapAt d w r L) (hk:IsKey d k) (hm:∀ v,(k,v) ∉ L) {z:Value} (hz:(zeroValue E).run P w=.ok z w) (ok:Bool) :
  (Instr.lookup T (.map (some r)) k ok).run P w=.ok (if ok then .tuple #[z,.bool false] else z) w:=by
 obtain ⟨es,c,hb,rfl⟩:=h.held;have hkeys:∀ e ∈ es.toList,IsKey d e.key:=fun e he=>h.keys (e.key,e.val) (xm5.2 ⟨e,he,rfl⟩);have hf:=a4Y hk es.toList 0 hkeys (fun e he hek=>hm e.val (xm5.2 ⟨e,he,by rw [<- hek]⟩));have h1:=run_checkKey (P:=P) (w:=w) hd hk es.isEmpty 9999;have h2:=run_findKey (P:=P) (w:=w) hd hf
 cases ok <;> simp [Instr.lookup,run_underlying ht,Go.MapKept.run_getObj_map hb,h1,h2,hz,Result.andThen]
end
end Go.Proofs.YtejnpppejalhfabGreat
namespace Go.Proofs.YtejnpppejalhfabGreat
set_option maxRecDepth 100000
set_option maxHeartbeats 8000000
open Go.RowKit Go.Sort Go.MapKept
structure MapG (D:TypeDesc) (es:Array MapEntry) (L:List (Value×Value)):Prop where
 held:es.toList.map (fun e=>(e.key,e.val))=L
 keys:∀ p ∈ L,IsKey D p.1
 once:(L.map (·.1)).Nodup
theorem MapG.nil (D:TypeDesc):MapG D #[] []:=⟨rfl,by simp,by simp⟩
theorem MapG.at_ {D:TypeDesc} {w:World} {r c:Nat} {es:Array MapEntry} {L:List (Value×Value)} (h:MapG D es L) (hr:w.heap[r]?=some (.map es c)):MapAt D w r L:=⟨⟨es,c,hr,h.held⟩,h.keys,h.once⟩
theorem MapG.size {D:TypeDesc} {es:Array MapEntry} {L:List (Value×Value)} (h:MapG D es L):es.size=L.length:=by
 have:=congrArg List.length h.held
 simpa using this
section
variable {P:Program} {n:Nat} {ds:List Deferred} {E:Fr} {w:World} {Q:Exit->Act->World->Prop} {ops:Array Oper} {rest:List Oper} {d:Nat} {dst:Option Nat} {ty:TypeId} {pos:String} {after:Array Edge} {F:Nat->Prop} {w0:World} {Γ:List Asr} {T:Tab} {D:TypeDesc}
theorem b6n (hS:St F w0 w Γ) {t Kt Et:TypeId} {m x:Operand} {r c i:Nat} {es:Array MapEntry} {L:List (Value×Value)} {k v:Value} (ht:P.underlying t=some (.map Kt Et)) (hK:P.underlying Kt=some D) (hm:E.ev m=some (.map (some r))) (hx:E.ev x=some k) (hi:Γ[i]?=some (.obj r (.map es c))) (hL:MapG D es L) (hk:IsKey D k) (hv:(k,v) ∈ L) (ok:Bool) :
  Gets P ⟨dst,.lookup t m x ok,ty,pos,after,none⟩ n ds E w (fun v' w'=>v'=(if ok then .tuple #[v,.bool true] else v)/\w'=w):=Gets.of_at fun a ha=>by
 have hat:=hL.at_ (hS.at_ hi).1;have hrun:=a6x ht hK hat hk hv ok;simp only [execOp,ha.ev hm,ha.ev hx,Sem.run_bind,hrun,Result.andThen_ok,Sem.run_pure]
theorem b5H (hS:St F w0 w Γ) {t Kt Et:TypeId} {m x:Operand} {r c i:Nat} {es:Array MapEntry} {L:List (Value×Value)} {k z:Value} (ht:P.underlying t=some (.map Kt Et)) (hK:P.underlying Kt=some D) (hz:(P.info? Et).bind (·.zero)=some z) (hm:E.ev m=some (.map (some r))) (hx:E.ev x=some k) (hi:Γ[i]?=some (.obj r (.map es c))) (hL:MapG D es L) (hk:IsKey D k) (hv:∀ v,(k,v) ∉ L) (ok:Bool) :
  Gets P ⟨dst,.lookup t m x ok,ty,pos,after,none⟩ n ds E w (fun v' w'=>v'=(if ok then .tuple #[z,.bool false] else z)/\w'=w):=Gets.of_at fun a ha=>by
 have hat:=hL.at_ (hS.at_ hi).1;obtain ⟨zi,hzi,hz2⟩:=xo4.1 hz;have hz':(zeroValue Et).run P w=.ok z w:=by simp [zeroValue,typeInfo,hzi,hz2]
 have hrun:=a5Y ht hK hat hk hv hz' ok;simp only [execOp,ha.ev hm,ha.ev hx,Sem.run_bind,hrun,Result.andThen_ok,Sem.run_pure]
theorem b4a {t Kt Et:TypeId} {r c:Nat} {es:Array MapEntry} {L:List (Value×Value)} {k u v:Value} (ht:P.underlying t=some (.map Kt Et)) (hK:P.underlying Kt=some D) (hr:w.heap[r]?=some (.map es c)) (hL:MapG D es L) (hk:IsKey D k) (hm:(k,u) ∈ L) :
  ∃ es' j,(Instr.mapUpdate t (.map (some r)) k v).run P w=.ok () { w with heap:=w.heap.setIfInBounds r (.map es' c) }/\(∃ u',L[j]?=some (k,u'))/\MapG D es' (L.set j (k,v)):=by
 have hat:=hL.at_ hr;have hkeys:∀ e ∈ es.toList,IsKey D e.key:=fun e he=>hat.keys (e.key,e.val) (by rw [<- hL.held];exact xm5.2 ⟨e,he,rfl⟩);have hnd:(es.toList.map (·.key)).Nodup:=by
  have:=hat.once;rw [<- hL.held,xn6] at this;exact this
 have hmem:∃ e ∈ es.toList,e.key=k/\e.val=u:=by
  have:((k,u):Value×Value) ∈ es.toList.map (fun e=>(e.key,e.val)):=by rw [hL.held];exact hm
  obtain ⟨e,he,h2⟩:=xm5.1 this;simp only [Prod.mk.injEq] at h2;exact ⟨e,he,h2⟩
 obtain ⟨j,hj,hf,hkj⟩:=a5F (v:=u) hk es.toList 0 hkeys hnd hmem;rw [xa9] at hf;have h1:=run_checkKey (P:=P) (w:=w) hK hk false 9999;have h2:=run_findKey (P:=P) (w:=w) hK hf;have hjs:j < es.size:=by simpa using hj
 have hkj':(es[j]?.map (·.key)).getD k=k:=by
  rw [show es[j]?=es.toList[j]? by simp,hkj];rfl
 have h3:=run_keyThatStays (P:=P) (w:=w) hk;have hLj:∃ u',L[j]?=some (k,u'):=by
  have h4:=congrArg (fun l=>l[j]?) hL.held;simp only [xh6] at h4;have h5:es.toList[j]?=some es[j]:=by simp [hjs]
  rw [h5] at h4 hkj;simp only [xh7,Option.some.injEq] at h4 hkj;exact ⟨es[j].val,by rw [<- h4,hkj]⟩
 refine ⟨es.modify j fun e=>{ e with key:=k,val:=v },j,?_,hLj,⟨?_,?_,?_⟩⟩
 ·simp only [Instr.mapUpdate,run_underlying ht,Go.MapKept.run_getObj_map hr,h1,h2,Result.andThen_ok,Sem.run_bind,hkj',h3,run_setObj_map _ hr]
 ·refine xh1 fun m=>?_;rw [<- hL.held,Array.toList_modify,xh6,List.getElem?_modify,xe0,xh6,xi9];by_cases e:j=m
  ·subst e;have:es.toList[j]?=some es[j]:=by simp [hjs]
   rw [this,xf0 rfl,xf0 hj];simp
  ·simp [e]
 ·intro p hp;rcases xm8 hp with h|h
  ·exact hL.keys p h
  ·rw [h];exact hk
 ·obtain ⟨u',hq⟩:=hLj;rw [xl1];have:(L.map (·.1)).set j k=L.map (·.1):=by
   refine xh1 fun m=>?_;rw [xe0]
   split
   ·rename_i e;subst e;simp only [xi9,xh6,hq,xh7];rw [xf0 (d6 hq)]
   ·rfl
  rw [show (k,v).1=k from rfl,this];exact hL.once
theorem b24 {t Kt Et:TypeId} {r c:Nat} {es:Array MapEntry} {L:List (Value×Value)} {k v:Value} (ht:P.underlying t=some (.map Kt Et)) (hK:P.underlying Kt=some D) (hr:w.heap[r]?=some (.map es c)) (hL:MapG D es L) (hk:IsKey D k) (hm:∀ v,(k,v) ∉ L) :
  ∃ es' c',(Instr.mapUpdate t (.map (some r)) k v).run P w=.ok () { w with heap:=w.heap.setIfInBounds r (.map es' c') }/\MapG D es' (L++[(k,v)]):=by
 have hat:=hL.at_ hr;have hkeys:∀ e ∈ es.toList,IsKey D e.key:=fun e he=>hat.keys (e.key,e.val) (by rw [<- hL.held];exact xm5.2 ⟨e,he,rfl⟩);have hno:∀ e ∈ es.toList,e.key≠k:=fun e he hek=>by
  have:(e.key,e.val) ∈ L:=by rw [<- hL.held];exact xm5.2 ⟨e,he,rfl⟩
  exact hm e.val (by rw [<- hek];exact this)
 have hf:=a4Y hk es.toList 0 hkeys hno;have h1:=run_checkKey (P:=P) (w:=w) hK hk false 9999;have h2:=run_findKey (P:=P) (w:=w) hK hf;refine ⟨es.push { key:=k,val:=v,born:=c },c + 1,?_,⟨by simp [hL.held],fun p hp=>?_,?_⟩⟩
 ·simp only [Instr.mapUpdate,run_underlying ht,Go.MapKept.run_getObj_map hr,h1,h2,Result.andThen_ok,Sem.run_bind,run_setObj_map _ hr]
 ·rcases xe3.1 hp with h|h
  ·exact hL.keys p h
  ·have:p=(k,v):=by simpa using h
   rw [this];exact hk
 ·rw [xl5,List.nodup_append];refine ⟨hL.once,by simp,fun a ha b hb'=>?_⟩;have:b=k:=by simpa using hb'
  subst this;rintro rfl;obtain ⟨p,hp,hpk⟩:=xm5.1 ha;exact hm p.2 (by rw [<- hpk];exact hp)
theorem St.updMap (hS:St F w0 w Γ) {r c i:Nat} {es:Array MapEntry} (hi:Γ[i]?=some (.obj r (.map es c))) (es':Array MapEntry) (c':Nat):St F w0 { w with heap:=w.heap.setIfInBounds r (.map es' c') } (Γ.set i (.obj r (.map es' c'))):=by
 have hr:=(hS.at_ hi).1;have a02:=heap_set (o':=Obj.map es' c') hr;exact hS.upd hi ⟨rfl,rfl,rfl,by simp,fun g _ hg=>a02.2 g (fun e=>hg (by simp [Asr.fp,e]))⟩ ⟨a02.1,rfl⟩ (fun q hq=>xd6 hq)
theorem b6g (hS:St F w0 w Γ) {t Kt Et:TypeId} {m x y:Operand} {r c i:Nat} {es:Array MapEntry} {L:List (Value×Value)} {k v:Value} (ht:P.underlying t=some (.map Kt Et)) (hK:P.underlying Kt=some D) (hm:E.ev m=some (.map (some r))) (hx:E.ev x=some k) (hy:E.ev y=some v) (hi:Γ[i]?=some (.obj r (.map es c))) (hL:MapG D es L) (hk:IsKey D k) (hn:∀ v,(k,v) ∉ L) :
  Gets P ⟨dst,.mapUpdate t m x y,ty,pos,after,none⟩ n ds E w (fun _ w'=>∃ es' c',MapG D es' (L++[(k,v)])/\St F w0 w' (Γ.set i (.obj r (.map es' c')))):=fun a ha K Q kk=>by
 obtain ⟨es',c',hrun,h1⟩:=b24 (v:=v) ht hK (hS.at_ hi).1 hL hk hn;have hex:(execOp a.eval ⟨dst,.mapUpdate t m x y,ty,pos,after,none⟩).run P w=.ok .skip { w with heap:=w.heap.setIfInBounds r (.map es' c') }:=by
  simp only [execOp,ha.ev hm,ha.ev hx,ha.ev hy,Sem.run_bind,hrun,Result.andThen_ok,Sem.run_pure]
 unfold Oper.wp;rw [hex];exact kk undef _ ⟨es',c',h1,hS.updMap hi es' c'⟩
theorem b6z (hS:St F w0 w Γ) {t Kt Et:TypeId} {m x y:Operand} {r c i:Nat} {es:Array MapEntry} {L:List (Value×Value)} {k u v:Value} (ht:P.underlying t=some (.map Kt Et)) (hK:P.underlying Kt=some D) (hm:E.ev m=some (.map (some r))) (hx:E.ev x=some k) (hy:E.ev y=some v) (hi:Γ[i]?=some (.obj r (.map es c))) (hL:MapG D es L) (hk:IsKey D k) (hu:(k,u) ∈ L) :
  Gets P ⟨dst,.mapUpdate t m x y,ty,pos,after,none⟩ n ds E w (fun _ w'=>∃ es' c' j u',L[j]?=some (k,u')/\MapG D es' (L.set j (k,v))/\St F w0 w' (Γ.set i (.obj r (.map es' c')))):=fun a ha K Q kk=>by
 obtain ⟨es',j,hrun,⟨u',h1⟩,h2⟩:=b4a (v:=v) ht hK (hS.at_ hi).1 hL hk hu;have hex:(execOp a.eval ⟨dst,.mapUpdate t m x y,ty,pos,after,none⟩).run P w=.ok .skip { w with heap:=w.heap.setIfInBounds r (.map es' c) }:=by
  simp only [execOp,ha.ev hm,ha.ev hx,ha.ev hy,Sem.run_bind,hrun,Result.andThen_ok,Sem.run_pure]
 unfold Oper.wp;rw [hex];exact kk undef _ ⟨es',c,j,u',h1,h2,hS.updMap hi es' c⟩
theorem b1Q (hS:St F w0 w Γ) {t:TypeId}:Gets P ⟨dst,.makeMap t none,ty,pos,after,none⟩ n ds E w (fun v w'=>∃ r,v=.map (some r)/\St F w0 w' (.obj r (.map #[] 0)::Γ)):=fun a ha K Q k=>by
 have hex:(execOp a.eval ⟨dst,.makeMap t none,ty,pos,after,none⟩).run P w=.ok (.value (.map (some w.heap.size))) (w.alloc (.map #[] 0)):=by
  simp only [execOp];rfl
 unfold Oper.wp;rw [hex];exact k _ _ ⟨_,rfl,hS.new (World.grownBy_alloc w _ none) ⟨(heap_alloc w _).1,rfl⟩ (by simp [Asr.fp])⟩
end
end Go.Proofs.YtejnpppejalhfabGreat
namespace Go.Proofs.YtejnpppejalhfabGreat
set_option maxRecDepth 100000
set_option maxHeartbeats 8000000
open Go.RowKit Go.Sort
section
variable {P:Program} {n:Nat} {ds:List Deferred} {E:Fr} {w:World} {Q:Exit->Act->World->Prop} {ops:Array Oper} {rest:List Oper} {d:Nat} {dst:Option Nat} {ty:TypeId} {pos:String} {after:Array Edge} {F:Nat->Prop} {w0:World} {Γ:List Asr} {T:Tab}
theorem b7p {x y:Operand} {ats:Array TypeId} {m k:Int} (hx:E.ev x=some (.int .i64 m)) (hy:E.ev y=some (.int .i64 k)):∀ a,Has n ds a E->∀ dst,a05 P ⟨dst,.call { callee:=.builtin .min,args:=#[x,y],argTypes:=ats },ty,pos,after,none⟩ a (.int .i64 (min m k)):=fun a ha dst w=>by
 have e:(if k < m then k else m)=min m k:=by omega
 simp [execOp,resolve,invoke,builtin,ha.ev hx,ha.ev hy,Builtin.min_,Builtin.min2,Result.andThen,e]
theorem b4B (old c:List Value) (h:c.length<=old.length):o6 old 0 c=c++old.drop c.length:=by
 conv=>lhs;rw [<- xj4 c.length old]
 rw [a4y _ _ _ _ (by simp;omega),a3v _ _ (by simp;omega)]
theorem b5B (hS:St F w0 w Γ) (hT:TabOk P T) {t u e m cap g i:Nat} {ty2:TypeId} {x y:Operand} {old l:List UInt8} (ht:T.get t=some (.sl e 1 1 false [.int .u8 0])) (hx:E.ev x=some (.slice (some ⟨g,0,none⟩) m cap)) (hi:Γ[i]?=some (.row e 1 (.slice (some ⟨g,0,none⟩) m cap) (bR old))) (hy:E.ev y=some (.string ⟨l.toArray⟩)) :
  Gets P ⟨dst,.call { callee:=.builtin .copy,args:=#[x,y],argTypes:=#[t,u] },ty2,pos,after,none⟩ n ds E w (fun v' w'=>v'=.int .i64 ((l.take m).length:Nat)/\St F w0 w' (Γ.set i (.row e 1 (.slice (some ⟨g,0,none⟩) m cap) (bR (l.take m++old.drop (l.take m).length))))):=by
 intro a ha K Q k;obtain ⟨hown,hlen,hone⟩:=hS.at_ hi;rcases hown.2 with ⟨hv,_⟩|⟨g',cap',cur,hv,_,hg,hmc,hcm,hcs,htake⟩
 ·cases hv
 have hol:(bR old).length=old.length:=a4l old
 cases hv
 rw [hol] at hmc htake hx hi;simp only [hol] at k;obtain ⟨c,hc⟩:∃ c,c=l.take old.length:=⟨_,rfl⟩;have hcl:c.length=min l.length old.length:=by rw [hc,xa1];omega
 have hHL:HoldL w g cur.toList:=⟨e,hg⟩;have hcu:old.length<=cur.size:=by rw [hcs];omega
 obtain ⟨ji,zv,hu,hinfo,_,hs,hby,hz,hzl,_,hsz,hs0⟩:=hT.sl ht;have hst:=run_storeCells_cells (P:=P) g 0 (c.map fun b=>Value.int .u8 (b.toNat:Int)) 0 w (fun j hj=>by
  rw [xi9] at hj;rw [hHL.cell];simp only [xi2];exact ⟨_,xe1 (by simp;omega)⟩) (fun j _=>hHL.frozen _) (by simp [Value.oneCell'])
 have hcs2:((ByteArray.extract ⟨l.toArray⟩ 0 (Nat.min l.length old.length)).data.map fun b=>Value.int .u8 (b.toNat:Int)).toList=c.map fun b=>Value.int .u8 (b.toNat:Int):=by
  rw [a4z,hc,show l.take old.length=l.take (Nat.min l.length old.length) by rw [List.take_eq_take_iff];show min old.length l.length=min (min l.length old.length) l.length;omega];simp
 have hrun:(Builtin.copy_ #[t,u] ty2 #[.slice (some ⟨g,0,none⟩) old.length cap,.string ⟨l.toArray⟩]).run P w=.ok (goInt c.length) (w.setCells g 0 (c.map fun b=>Value.int .u8 (b.toNat:Int))):=by
  simp [Builtin.copy_,run_underlying hu,Builtin.lenOf,Builtin.firstCells,sizeOf,typeInfo,hinfo,hs,ByteArray.size];have e:List.take (Nat.min l.length old.length) (l.map fun b=>Value.int .u8 (b.toNat:Int))=c.map fun b=>Value.int .u8 (b.toNat:Int):=by rw [<- xa4,hc,show l.take old.length=l.take (Nat.min l.length old.length) by rw [List.take_eq_take_iff];show min old.length l.length=min (min l.length old.length) l.length;omega]
  rw [e,hst,hcl];rfl
 have hex:(execOp a.eval ⟨dst,.call { callee:=.builtin .copy,args:=#[x,y],argTypes:=#[t,u] },ty2,pos,after,none⟩).run P w=.ok (.value (.int .i64 (c.length:Nat))) (w.setCells g 0 (c.map fun b=>Value.int .u8 (b.toNat:Int))):=by
  simp [execOp,resolve,invoke,builtin,ha.ev hx,ha.ev hy,hrun,Result.andThen,goInt]
 unfold Oper.wp;rw [hex];simp only [<- hc] at k;have hcel:(bR (c++old.drop c.length)).length=old.length:=by rw [a4l,xe9,xb5];omega
 refine k _ _ ⟨rfl,hS.upd hi (a1R w g 0 _) ⟨⟨?_,.inr ⟨g,cap,_,by rw [hcel],xg4 _,a38 hg 0 _,by rw [hcel];exact hmc,hcm,by simp [a68,hcs],?_⟩⟩,?_,?_⟩ (fun q hq=>xd6 hq)⟩
 ·rw [a8O,xi9,hcel,xe9,xb5];omega
 ·rw [hcel,Nat.mul_one,xg5,b4B _ _ (by simp;omega),a8O,xl5,xi9,xk0];rw [Nat.mul_one,a8O] at htake;have h1:(c.map fun b=>Value.int .u8 (b.toNat:Int)).take old.length=c.map fun b=>Value.int .u8 (b.toNat:Int):=xa0 (by rw [xi9];omega);rw [h1,xi9,List.map_drop,<- htake,List.drop_take]
 ·intro r hr;unfold bR at hr;obtain ⟨b,_,rfl⟩:=xm5.1 hr;rfl
 ·intro r hr;unfold bR at hr;obtain ⟨b,_,rfl⟩:=xm5.1 hr;rfl
end
end Go.Proofs.YtejnpppejalhfabGreat
namespace Go.Proofs.YtejnpppejalhfabGreat
set_option maxRecDepth 100000
set_option maxHeartbeats 8000000
open Go.RowKit Go.Sort Go.MapKept
section
variable {P:Program} {n:Nat} {ds:List Deferred} {E:Fr} {w:World} {Q:Exit->Act->World->Prop} {ops:Array Oper} {rest:List Oper} {d:Nat} {dst:Option Nat} {ty:TypeId} {pos:String} {after:Array Edge} {F:Nat->Prop} {w0:World} {Γ:List Asr} {T:Tab}
theorem b3t (hS:St F w0 w Γ) {t Kt Et:TypeId} {x:Operand} {r c i:Nat} {es:Array MapEntry} (ht:P.underlying t=some (.map Kt Et)) (hx:E.ev x=some (.map (some r))) (hi:Γ[i]?=some (.obj r (.map es c))) :
  Gets P ⟨dst,.call { callee:=.builtin .len,args:=#[x],argTypes:=#[t] },ty,pos,after,none⟩ n ds E w (fun v' w'=>v'=.int .i64 (es.size:Nat)/\w'=w):=Gets.of_at fun a ha=>by
 have hr:(Builtin.len_ #[t] ty #[.map (some r)]).run P w=.ok (.int .i64 es.size) w:=by
  simp [Builtin.len_,run_underlying ht,Go.MapKept.run_getObj_map (hS.at_ hi).1,goInt]
 simp [execOp,resolve,invoke,builtin,ha.ev hx,hr,Result.andThen]
theorem St.ownBs {Θ:List Asr} (hS:St F w0 w (Θ++Γ)) (i:Nat) {g k:Nat} {L:List Value} {v:Value} (hi:Γ[i]?=some (.blk g L)) (hk:L[k]?=some v):Bs (fps Θ) w ⟨g,k,none⟩ v:=by
 have hS2:=hS.sub (xp1 Θ Γ);refine ⟨hS2.blkC i hi hk,fun ⟨A,hA,e⟩=>?_⟩;rcases (xe4.1 hS.apart).2.2 A hA _ (xd0 hi) with h1|h1
 ·rw [h1] at e;cases e
 ·exact h1 e
theorem St.ownSl {Θ:List Asr} (hS:St F w0 w (Θ++Γ)) (i:Nat) {e sz:Nat} {v:Value} {rows:List (List Value)} (hi:Γ[i]?=some (.row e sz v rows)):Sl (fps Θ) w sz v rows:=by
 have hS2:=hS.sub (xp1 Θ Γ);rcases hS2.rowForm i hi with ⟨rfl,rfl⟩|⟨g,cap,rfl,h1,h2⟩
 ·exact xd6 ⟨_,_,rfl,rfl⟩
 ·have hr:=hS2.rowRo i hi;refine xd3 ⟨g,0,cap,rfl,h1,h2,⟨hr.lt,fun ⟨A,hA,e⟩=>?_,hr.len,hr.one,hr.cells⟩⟩;rcases (xe4.1 hS.apart).2.2 A hA _ (xd0 hi) with h1|h1
  ·rw [h1] at e;cases e
  ·exact h1 e
end
end Go.Proofs.YtejnpppejalhfabGreat
namespace Go.Proofs.YtejnpppejalhfabGreat
set_option maxRecDepth 100000
set_option maxHeartbeats 8000000
open Go.RowKit Go.Sort
section
variable {P:Program} {n:Nat} {ds:List Deferred} {E:Fr} {w:World} {Q:Exit->Act->World->Prop} {ops:Array Oper} {rest:List Oper} {d:Nat} {dst:Option Nat} {ty:TypeId} {pos:String} {after:Array Edge} {F:Nat->Prop} {w0:World} {Γ:List Asr} {T:Tab}
theorem b6Y {t yt:TypeId} {x y:Operand} {m:Int} (hx:E.ev x=some (.int .u64 m)) (hy:E.ev y=some (.int .u64 1)) (h0:0<=m) (h1:m<=18446744073709551615):∀ a,Has n ds a E->∀ dst,a05 P ⟨dst,.binOp .shr t x y yt,ty,pos,after,none⟩ a (.int .u64 (m / 2)):=fun a ha _ w=>by
 simp only [execOp,ha.ev hx,ha.ev hy];simp [eqGuard,binOp,go_sem]
theorem b6V {t yt:TypeId} {x y:Operand} {m:Int} (hx:E.ev x=some (.int .u64 m)) (hy:E.ev y=some (.int .u64 1)) (h0:0<=m) (h1:m<=18446744073709551615) (hd:Nat.blt d n=true) (k':WL P ops Q rest n ds ((d,.int .u64 (m / 2))::E) w):WL P ops Q (⟨some d,.binOp .shr t x y yt,ty,pos,after,none⟩::rest) n ds E w:=a0v (fun a ha=>b6Y hx hy h0 h1 a ha _) hd k'
theorem b4J {m:Int} (h0:0<=m) (h1:m<=18446744073709551615):IntKind.u64.wrap (IntKind.i64.wrap m)=m:=by
 rw [IntKind.wrap_u64,IntKind.wrap_i64];omega
theorem b2Z {t yt:TypeId} {x y:Operand} {m:Int} (hx:E.ev x=some (.int .u64 (IntKind.u64.wrap m))) (hy:E.ev y=some (.int .u64 1)) (hd:Nat.blt d n=true) (k':WL P ops Q rest n ds ((d,.int .u64 (IntKind.u64.wrap m / 2))::E) w):WL P ops Q (⟨some d,.binOp .shr t x y yt,ty,pos,after,none⟩::rest) n ds E w :=
 b6V hx hy (by rw [IntKind.wrap_u64];omega) (by rw [IntKind.wrap_u64];omega) hd k'
theorem a7W {m:Int} {h:Nat} (h0:0<=m) (h1:m<=18446744073709551615) (h2:m / 2=(h:Nat)) (h3:h<=9223372036854775807):IntKind.i64.wrap (IntKind.u64.wrap (IntKind.i64.wrap m) / 2)=(h:Nat):=by
 rw [b4J h0 h1,h2,a32 (by omega) (by omega)]
theorem b1I (hT:TabOk P T) {t e sz eb:Nat} {ag:Bool} {ez:List Value} {yt:TypeId} {x y:Operand} {p:Option Addr} {m c:Nat} (ht:T.get t=some (.sl e sz eb ag ez)) (hx:E.ev x=some (.slice p m c)) (hy:E.ev y=some (.slice none 0 0)):∀ a,Has n ds a E->∀ dst,a05 P ⟨dst,.binOp .eql t x y yt,ty,pos,after,none⟩ a (.bool p.isNone):=fun a ha _ w=>by
 obtain ⟨ji,zv,hu,_⟩:=hT.sl ht;have e:=Go.Lib.run_eql_slice_nil (P:=P) w t _ p m c 0 0 hu;simp only [execOp,ha.ev hx,ha.ev hy,eqGuard];simp [e,Result.andThen]
theorem a12 (hT:TabOk P T) {t e sz eb:Nat} {ag:Bool} {ez:List Value} {yt:TypeId} {x y:Operand} {p:Option Addr} {m c:Nat} (ht:T.get t=some (.sl e sz eb ag ez)) (hx:E.ev x=some (.slice p m c)) (hy:E.ev y=some (.slice none 0 0)) (hd:Nat.blt d n=true) (k':WL P ops Q rest n ds ((d,.bool p.isNone)::E) w):WL P ops Q (⟨some d,.binOp .eql t x y yt,ty,pos,after,none⟩::rest) n ds E w:=a0v (fun a ha=>b1I hT ht hx hy a ha _) hd k'
theorem St.roC2 {b off sz:Nat} {rows:List (List Value)} (h:St F w0 w Γ) (hr:RoAt F w0 b off sz rows) {k j1 j2:Nat} {r:List Value} {u:Value} (hk:rows[k]?=some r) (hj:r[j1 + j2]?=some u):w.cell? ⟨b,off + k * sz + j1 + j2,none⟩=some u:=by
 rw [xf6 (off + k * sz)];exact h.roC hr hk hj
theorem St.roRs {b off sz:Nat} {rows:List (List Value)} (h:St F w0 w Γ) (hr:RoAt F w0 b off sz rows) {k:Nat} (j m:Nat) {r:List Value} (hk:rows[k]?=some r):w.rangeAt b (off + k * sz + j) ((r.drop j).take m):=fun i v hi=>by
 rw [xf4] at hi
 split at hi
 ·rw [xb6] at hi;have:=h.roC hr hk hi
  rwa [<- xf6] at this
 ·cases hi
end
end Go.Proofs.YtejnpppejalhfabGreat
namespace Go.Proofs.YtejnpppejalhfabGreat
set_option maxRecDepth 100000
set_option maxHeartbeats 8000000
open Go.RowKit
theorem b4c (off n all:Int):inB off n all=(decide (0<=off) && (decide (0<=n) && (decide (off<=all) && decide (n<=all - off)))):=by
 unfold inB;simp
theorem b3A (off n all:Int) (w:World) (h:0<=all) (h2:all<=9223372036854775807) :
  Calls Tryz.prog 124 #[.int .i64 off,.int .i64 n,.int .i64 all] w fun e w'=>e=.returned (.bool (inB off n all))/\w=w':=by
 have hs:=hid (b4c off n all)
 go_enter Tryz.func124,Tryz.ntmps124
 go_wp2
 all_goals
  go_ret
  refine ⟨a0f ?_,rfl⟩;rw [hs.out]
  first
   |(rw [IntWalk.wrap64_in (all - off) ⟨by omega,by omega⟩];simp [*];done)
   |(rw [xc9];simp;omega)
theorem b4K (s t:List UInt8) (off:Nat) (w:World) (hs:s.length<=maxLen) (h:off + t.length<=s.length) :
  Calls Tryz.prog 79 #[.string ⟨s.toArray⟩,.int .i64 off,.string ⟨t.toArray⟩] w fun e w'=>e=.returned (.string ⟨(splice s off t).toArray⟩)/\∃ n,w'=w.drewN n:=by
 unfold maxLen at hs
 go_enter Tryz.func79,Tryz.ntmps79
 go_wp2
 go_quiet (fail)
 go_wp2
 go_ret
 refine ⟨?_,b2G⟩;exact b5y (by simp [splice,xa0])
theorem b4U (off n all:Nat) (h:off + n<=all):inB off n all=true:=by
 unfold inB;simp;omega
theorem b4W (s t:List UInt8) (off:Nat) (w:World) (hs:s.length<=maxLen) (h:off + t.length<=s.length) :
  Calls Tryz.prog 76 #[.string ⟨s.toArray⟩,.int .i64 off,.string ⟨t.toArray⟩] w fun e w'=>e=.returned (.tuple #[.string ⟨(splice s off t).toArray⟩,.int .i64 0])/\Below w.heap.size w w':=by
 unfold maxLen at hs;have hin:=b4U off t.length s.length h;have hin2:=hid hin;clear hin
 go_enter Tryz.func76,Tryz.ntmps76
 have hsz5:(Tryz.prog.info? 5).map (·.size)=some 1:=by kernel_rfl
 have Hsz5:=hid hsz5;clear hsz5
 go_wp2_with (first|go_at_call 124;(with_reducible refine (b3A _ _ _ _ (by omega) (by omega)).mono ?_);rintro e w' ⟨rfl,rfl⟩;rw [hin2.out]|(with_reducible refine a01 17 ?_);refine a4Z rfl (.tmp 16) 9 183 5 rfl Tryz.underlying9 Tryz.underlying183 Tryz.underlying5 s rfl w.heap.size w (Below.refl _ _) (xd4 _) ?_;intro cap w1 hcap hb1 hby1 hsz1;have HB:=hid hby1;clear hby1|(with_reducible refine a01 22 ?_);refine a52 rfl (.tmp 20) (.tmp 21) 183 9 rfl 5 Tryz.underlying183 Hsz5.out _ (s.length - off) _ rfl t rfl w.heap.size off s HB.out ?c1 ?c2 w.heap.size w hb1 (xd4 _) ?_;(case c1=>go_must (rw [xa1];omega));(case c2=>go_must (rw [xa1];intro h0;rw [xf1 (by omega)]));intro w2 hb2 hsz2 hby2;have HB2:=hid hby2;clear hby2|(with_reducible refine a01 24 ?_);refine a5X rfl (.tmp 23) 183 9 5 rfl Tryz.underlying183 Tryz.underlying5 Tryz.underlying9 _ w.heap.size s.length _ rfl ?c3 HB2.out ?_;(case c3=>go_must (exact length_splice _ _ _ (by rw [xa1];omega)));clear HB2)
 all_goals
  go_ret2
  refine ⟨?_,hb2⟩;show Ending.returned (.tuple #[.string ⟨(splice s off (t.take (s.length - off))).toArray⟩,.int .i64 0])=_;rw [xa0 (show t.length<=s.length - off from by omega)]
theorem b60 (s t:List UInt8) (off:Int) (w:World) (hs:s.length<=maxLen) (h:inB off t.length s.length=false) :
  Calls Tryz.prog 76 #[.string ⟨s.toArray⟩,.int .i64 off,.string ⟨t.toArray⟩] w fun e w'=>e=.returned (.tuple #[.string ⟨#[]⟩,.int .i64 3])/\w=w':=by
 unfold maxLen at hs
 go_enter Tryz.func76,Tryz.ntmps76
 go_wp2_with (go_at_call 124;(with_reducible refine (b3A _ _ _ _ (by omega) (by omega)).mono ?_);rintro e w' ⟨rfl,rfl⟩;rw [h])
 go_ret2
 exact ⟨rfl,rfl⟩
end Go.Proofs.YtejnpppejalhfabGreat
namespace Go.Proofs.YtejnpppejalhfabGreat
set_option maxRecDepth 100000
set_option maxHeartbeats 8000000
open Go.RowKit Go.Sort
theorem b4n (s t:List UInt8) (off:Int) (w:World) (hs:s.length<=maxLen):Fn Tryz.prog 76 [.string ⟨s.toArray⟩,.int .i64 off,.string ⟨t.toArray⟩] w (RBf (.tuple #[.string ⟨(if inB off t.length s.length=true then splice s off.toNat t else []).toArray⟩,.int .i64 (if inB off t.length s.length=true then 0 else 3)]) w):=by
 by_cases h:inB off t.length s.length=true
 ·rw [xf0 h,xf0 h];unfold inB at h;simp only [xb3] at h;have h1:=b4W s t off.toNat w hs (by omega);rw [xn8 (by omega)] at h1;exact Fn.of_rb ⟨Tryz.func76,by kernel_rfl,by kernel_rfl⟩ (b31 h1)
 ·rw [xf1 h,xf1 h];exact (Fn.of_same ⟨Tryz.func76,by kernel_rfl,by kernel_rfl⟩ (b60 s t off w hs (by simpa using h))).mono (by rintro v w' ⟨rfl,rfl⟩;exact ⟨rfl,St.start _⟩)
theorem b44 (s t:List UInt8) (off:Nat) (w:World) (hs:s.length<=maxLen) (h:off + t.length<=s.length):Fn Tryz.prog 79 [.string ⟨s.toArray⟩,.int .i64 off,.string ⟨t.toArray⟩] w (RBf (.string ⟨(splice s off t).toArray⟩) w) :=
 ⟨⟨_,Tryz.func79,by kernel_rfl,by kernel_rfl⟩,(b4K s t off w hs h).mono fun _ _ ⟨he,n,hw⟩=>⟨_,he,rfl,by subst hw;exact (St.start w).grow ⟨rfl,rfl,rfl,xd4 _,fun _ _ _=>rfl⟩⟩⟩
theorem p7 (x a b:Int) (w:World):Fn Tryz.prog 56 [.int .i64 x,.int .i64 a,.int .i64 b] w (RBf (.bool (decide (a<=x/\x<=b))) w):=by
 refine yEn Tryz.func56 Tryz.ntmps56 (by kernel_rfl) (by kernel_rfl) rfl rfl ?_;have hS:=St.start w
 repeat' (first|(with_reducible apply a8 a7);rfl;rfl;rfl|refine yDn (by with_reducible constructor) ?_|(with_reducible apply k8);(iterate 4 rfl);assumption|(with_reducible apply x8);(iterate 4 rfl);assumption;rfl|(with_reducible apply j3);rfl;assumption;rfl;rfl|(with_reducible apply f5);rfl;assumption;rfl;rfl|(with_reducible apply q7);rfl;rfl;rfl;all_goals (intro hb hp;try (exfalso;omega)))
 ·(refine k7 rfl ?_)
  exact ⟨by simp [hp],hS⟩
 ·(refine k7 rfl ?_)
  exact ⟨by simp;omega,hS⟩
theorem j0 {α:Type} {l:List α} {i:Nat} (h:(i:Int) < l.length):∃ x,l[i]?=some x:=⟨l[i]'(by omega),by simp⟩
abbrev shA (s:Sh) (u:Value):Value:=.agg (shC s u).toArray
theorem a9D {S:Sh} {w:World} {u:Value} (hu:ShV w S u):Fn Tryz.prog 101 [shA S u] w (RBf (.bool (t8 S)) w):=by
 have bnd:=hu.bound;obtain ⟨p,c,rfl⟩:=hu.len;refine yEn Tryz.func101 Tryz.ntmps101 (by kernel_rfl) (by kernel_rfl) rfl rfl ?_;have hS:=St.start w;unfold shA shC;by_cases h0:(1<=S.page/\S.page<=255)/\S.data.length=16;rotate_left
 ·have hf:t8 S=false:=by unfold t8;rw [xj0 h0];rfl
  rw [hf]
  repeat' (first|(with_reducible apply a8 a7);rfl;rfl;rfl|(with_reducible apply a9);rfl;(apply Ld.sc a7;rfl;exact hS.blkC 0 rfl rfl);rfl|refine yDn (by with_reducible constructor) ?_|(with_reducible apply k8);(iterate 4 rfl);assumption|(with_reducible apply x8);(iterate 4 rfl);(first|rfl|assumption);rfl|(with_reducible apply j3);rfl;(first|rfl|assumption);rfl;rfl|(with_reducible apply f5);rfl;assumption;rfl;rfl|(with_reducible apply f6);rfl;rfl|(with_reducible apply l8 hS);rfl;rfl;rfl;clear hS;intro g w' hS|(with_reducible apply q7);rfl;rfl;rfl;all_goals (intro hb hp;try (exfalso;omega))|(with_reducible apply a08);rfl;all_goals (intro hb hp;try (exfalso;omega)))
  all_goals (refine k7 rfl ?_;exact ⟨rfl,hS.sub (xj1 _)⟩)
 have hr:t8 S=a3p 0 S.fixes:=by unfold t8;rw [xj2 h0];rfl
 rw [hr]
 repeat' (first|(with_reducible apply a8 a7);rfl;rfl;rfl|(with_reducible apply a9);rfl;(first|apply Ld.sc a7;rfl;exact hS.blkC 0 rfl rfl|apply Ld.sl a7;rfl;exact hS.blkC 0 rfl rfl);rfl|refine yDn (by with_reducible constructor) ?_|(with_reducible apply k8);(iterate 4 rfl);assumption|(with_reducible apply f5);rfl;assumption;rfl;rfl|(with_reducible apply l8 hS);rfl;rfl;rfl;clear hS;intro g w' hS|(with_reducible apply q7);rfl;rfl;rfl;all_goals (intro hb hp;try (exfalso;omega))|(with_reducible apply a08);rfl;all_goals (intro hb hp;try (exfalso;omega)))
 refine k9 (X:=Nat×Int) (fun x=>[(23,.int .i64 (x.1:Nat)),(3,.int .i64 x.2)]) [1,21,22] rfl (fun _=>[]) (fun x=>(x.1<=S.fixes.length/\0<=x.2/\x.2<=16)/\a3p 0 S.fixes=a3p x.2 (S.fixes.drop x.1)) (fun x=>S.fixes.length - x.1) (0,0) (by exact Fr.sub_of rfl) (by simp) hS ?_;clear hS;rintro ⟨i,free⟩ w1 ⟨⟨hi,hf0,hf1⟩,hok⟩ hS;dsimp only [List.cons_append,List.nil_append] at hi hf0 hf1 hok hS |-;by_cases hlt:i < S.fixes.length
 ·obtain ⟨x,hx⟩:=j0 (l:=S.fixes) (i:=i) (by omega);have hrow:=c9 (f:=fxC) hx;obtain ⟨b,off,rfl,hro⟩:=hu.at_ (i:=i) hlt;have hst:=a78 (free:=free) hx;by_cases h1:free<=x.off/\x.off<=16/\x.bytes≠[]/\(x.bytes.length:Int)<=16 - x.off
  ·have ho:a39 free x=true:=xj2 h1;have hb0:decide (x.bytes=[])=false:=xj0 h1.2.2.1;rw [ho,xq0] at hst
   repeat' (first|(with_reducible apply a8 a7);rfl;rfl;rfl|(with_reducible apply a9);rfl;(first|apply Ld.sc a7;rfl;exact hS.blkC 0 rfl rfl|apply Ld.st a7;rfl;exact hS.roR (by assumption) (by assumption);rfl);rfl|(with_reducible apply l7 a7);rfl;rfl;rfl;rfl;omega;rfl|(with_reducible apply j4);rfl;rfl;omega;omega;rfl|(with_reducible apply a0m);rfl;rfl;omega;omega;rfl|refine yDn (by with_reducible constructor) ?_|(with_reducible apply k8);(iterate 4 rfl);assumption|(with_reducible apply f5);rfl;assumption;rfl;rfl|(with_reducible apply d8 hS a7);rfl;rfl;rfl;clear hS;intro g w' hS|(with_reducible apply b8 hS a7 (i:=0));(iterate 8 rfl);exact (rfl:_=[_,_]);clear hS;intro w' hS;simp only [List.set] at hS|(with_reducible apply q7);rfl;rfl;rfl;all_goals (intro hb hp;try (exfalso;omega))|(with_reducible apply b9);rfl;all_goals (intro hb hp;try (exfalso;omega)))
   refine e9 (i + 1,a18 x) (by exact Fr.sub_of rfl) ⟨⟨by show i + 1<=S.fixes.length;omega,by show 0<=a18 x;unfold a18;omega,by show a18 x<=16;unfold a18;omega⟩,by rw [hok,hst]⟩ hS.drop (by show S.fixes.length - (i + 1) < S.fixes.length - i;omega)
  ·have ho:a39 free x=false:=xj0 h1;rw [ho,xq1] at hst;by_cases hb1:x.bytes=[]
   ·have hb0:decide (x.bytes=[])=true:=xj2 hb1
    repeat' (first|(with_reducible apply a8 a7);rfl;rfl;rfl|(with_reducible apply a9);rfl;(first|apply Ld.sc a7;rfl;exact hS.blkC 0 rfl rfl|apply Ld.st a7;rfl;exact hS.roR (by assumption) (by assumption);rfl);rfl|(with_reducible apply l7 a7);rfl;rfl;rfl;rfl;omega;rfl|refine yDn (by with_reducible constructor) ?_|(with_reducible apply k8);(iterate 4 rfl);assumption|(with_reducible apply x8);(iterate 4 rfl);(first|rfl|assumption);rfl|(with_reducible apply j3);rfl;(first|rfl|assumption);rfl;rfl|(with_reducible apply f5);rfl;assumption;rfl;rfl|(with_reducible apply f6);rfl;rfl|(with_reducible apply d8 hS a7);rfl;rfl;rfl;clear hS;intro g w' hS|(with_reducible apply b8 hS a7 (i:=0));(iterate 8 rfl);exact (rfl:_=[_,_]);clear hS;intro w' hS;simp only [List.set] at hS|(with_reducible apply q7);rfl;rfl;rfl;all_goals (intro hb hp;try (exfalso;omega))|(with_reducible apply b9);rfl;all_goals (intro hb hp;try (exfalso;omega)))
    all_goals (refine k7 rfl ?_;exact ⟨by rw [hok,hst],hS.sub (xj1 _)⟩)
   ·have hb0:decide (x.bytes=[])=false:=xj0 hb1
    repeat' (first|(with_reducible apply a8 a7);rfl;rfl;rfl|(with_reducible apply a9);rfl;(first|apply Ld.sc a7;rfl;exact hS.blkC 0 rfl rfl|apply Ld.st a7;rfl;exact hS.roR (by assumption) (by assumption);rfl);rfl|(with_reducible apply l7 a7);rfl;rfl;rfl;rfl;omega;rfl|(with_reducible apply j4);rfl;rfl;omega;omega;rfl|(with_reducible apply a0m);rfl;rfl;omega;omega;rfl|refine yDn (by with_reducible constructor) ?_|(with_reducible apply k8);(iterate 4 rfl);assumption|(with_reducible apply x8);(iterate 4 rfl);(first|rfl|assumption);rfl|(with_reducible apply j3);rfl;(first|rfl|assumption);rfl;rfl|(with_reducible apply f5);rfl;assumption;rfl;rfl|(with_reducible apply f6);rfl;rfl|(with_reducible apply d8 hS a7);rfl;rfl;rfl;clear hS;intro g w' hS|(with_reducible apply b8 hS a7 (i:=0));(iterate 8 rfl);exact (rfl:_=[_,_]);clear hS;intro w' hS;simp only [List.set] at hS|(with_reducible apply q7);rfl;rfl;rfl;all_goals (intro hb hp;try (exfalso;omega))|(with_reducible apply b9);rfl;all_goals (intro hb hp;try (exfalso;omega)))
    all_goals first|(refine k7 rfl ?_;exact ⟨by rw [hok,hst],hS.sub (xj1 _)⟩)|(exfalso;exact h1 ⟨by omega,by omega,hb1,by omega⟩)
 ·repeat' (first|(with_reducible apply a8 a7);rfl;rfl;rfl|refine yDn (by with_reducible constructor) ?_|(with_reducible apply b9);rfl;all_goals (intro hb hp;try (exfalso;omega)))
  (refine k7 rfl ?_)
  exact ⟨by rw [hok,xj7 (by omega)];rfl,hS.sub (xj1 _)⟩
theorem a8w {S:Sh} {w:World} {u:Value} (hu:ShV w S u):Fn Tryz.prog 119 [shA S u] w (RBf (.bool (t8 S)) w):=by
 have bnd:=hu.bound;obtain ⟨p,c,rfl⟩:=hu.len;refine yEn Tryz.func119 Tryz.ntmps119 (by kernel_rfl) (by kernel_rfl) rfl rfl ?_;have hS:=St.start w;unfold shA shC;by_cases h0:(1<=S.page/\S.page<=255)/\S.data.length=16;rotate_left
 ·have hf:t8 S=false:=by unfold t8;rw [xj0 h0];rfl
  rw [hf];by_cases hp0:1<=S.page/\S.page<=255
  ·have hp1:(!decide (1<=S.page/\S.page<=255))=false:=by simpa using hp0
   repeat' (first|(with_reducible apply a8 a7);rfl;rfl;rfl|(with_reducible apply a9);rfl;(apply Ld.sc a7;rfl;exact hS.blkC 0 rfl rfl);rfl|refine yDn (by with_reducible constructor) ?_|(with_reducible apply k8);(iterate 4 rfl);assumption|(with_reducible apply x8);(iterate 4 rfl);assumption;rfl|(with_reducible apply j3);rfl;assumption;rfl;rfl|(with_reducible apply f5);rfl;assumption;rfl;rfl|(with_reducible apply f6);rfl;rfl|(with_reducible apply l8 hS);rfl;rfl;rfl;clear hS;intro g w' hS|(with_reducible apply a13);rfl;rfl;rfl;all_goals (intro hb hp;try (exfalso;omega))|(with_reducible apply d7 hS);rfl;rfl;rfl;refine ⟨_,p7 _ _ _ _,?_⟩;clear hS;intro w' hS)
   all_goals (refine k7 rfl ?_;exact ⟨rfl,hS.sub (xj1 _)⟩)
  ·have hp1:(!decide (1<=S.page/\S.page<=255))=true:=by rw [xj0 hp0];rfl
   repeat' (first|(with_reducible apply a8 a7);rfl;rfl;rfl|(with_reducible apply a9);rfl;(apply Ld.sc a7;rfl;exact hS.blkC 0 rfl rfl);rfl|refine yDn (by with_reducible constructor) ?_|(with_reducible apply x8);(iterate 4 rfl);(first|rfl|assumption);rfl|(with_reducible apply j3);rfl;(first|rfl|assumption);rfl;rfl|(with_reducible apply f6);rfl;rfl|(with_reducible apply l8 hS);rfl;rfl;rfl;clear hS;intro g w' hS|(with_reducible apply d7 hS);rfl;rfl;rfl;refine ⟨_,p7 _ _ _ _,?_⟩;clear hS;intro w' hS)
   (refine k7 rfl ?_)
   exact ⟨rfl,hS.sub (xj1 _)⟩
 have hp1:(!decide (1<=S.page/\S.page<=255))=false:=by simpa using h0.1
 by_cases h16:S.fixes.length<=16;rotate_left
 ·have hf:t8 S=false:=by
   cases hr:t8 S with
   |false=>rfl
   |true=>have:=a4n hr;omega
  rw [hf]
  repeat' (first|(with_reducible apply a8 a7);rfl;rfl;rfl|(with_reducible apply a9);rfl;(first|apply Ld.sc a7;rfl;exact hS.blkC 0 rfl rfl|apply Ld.sl a7;rfl;exact hS.blkC 0 rfl rfl);rfl|refine yDn (by with_reducible constructor) ?_|(with_reducible apply k8);(iterate 4 rfl);assumption|(with_reducible apply f5);rfl;assumption;rfl;rfl|(with_reducible apply l8 hS);rfl;rfl;rfl;clear hS;intro g w' hS|(with_reducible apply a13);rfl;rfl;rfl;all_goals (intro hb hp;try (exfalso;omega))|(with_reducible apply b9);rfl;all_goals (intro hb hp;try (exfalso;omega))|(with_reducible apply d7 hS);rfl;rfl;rfl;refine ⟨_,p7 _ _ _ _,?_⟩;clear hS;intro w' hS)
  all_goals (refine k7 rfl ?_;exact ⟨rfl,hS.sub (xj1 _)⟩)
 have hr:t8 S=a3p 0 S.fixes:=by unfold t8;rw [xj2 h0];rfl
 rw [hr]
 repeat' (first|(with_reducible apply a8 a7);rfl;rfl;rfl|(with_reducible apply a9);rfl;(first|apply Ld.sc a7;rfl;exact hS.blkC 0 rfl rfl|apply Ld.sl a7;rfl;exact hS.blkC 0 rfl rfl);rfl|refine yDn (by with_reducible constructor) ?_|(with_reducible apply k8);(iterate 4 rfl);assumption|(with_reducible apply f5);rfl;assumption;rfl;rfl|(with_reducible apply l8 hS);rfl;rfl;rfl;clear hS;intro g w' hS|(with_reducible apply a13);rfl;rfl;rfl;all_goals (intro hb hp;try (exfalso;omega))|(with_reducible apply b9);rfl;all_goals (intro hb hp;try (exfalso;omega))|(with_reducible apply d7 hS);rfl;rfl;rfl;refine ⟨_,p7 _ _ _ _,?_⟩;clear hS;intro w' hS)
 refine k9 (X:=Nat×Int) (fun x=>[(4,.int .i64 (x.1:Nat)),(3,.int .i64 x.2)]) [1] rfl (fun _=>[]) (fun x=>(x.1<=S.fixes.length/\0<=x.2/\x.2<=16)/\a3p 0 S.fixes=a3p x.2 (S.fixes.drop x.1)) (fun x=>S.fixes.length - x.1) (0,0) (by exact Fr.sub_of rfl) (by simp) hS ?_;clear hS;rintro ⟨i,free⟩ w1 ⟨⟨hi,hf0,hf1⟩,hok⟩ hS;dsimp only [List.cons_append,List.nil_append] at hi hf0 hf1 hok hS |-;by_cases hlt:i < S.fixes.length
 ·obtain ⟨x,hx⟩:=j0 (l:=S.fixes) (i:=i) (by omega);have hrow:=c9 (f:=fxC) hx;obtain ⟨b,off,rfl,hro⟩:=hu.at_ (i:=i) hlt;have hst:=a78 (free:=free) hx;by_cases h1:free<=x.off/\x.off<=16
  ·have k1:(!decide (free<=x.off/\x.off<=16))=false:=by simpa using h1
   by_cases h2:1<=(x.bytes.length:Int)/\(x.bytes.length:Int)<=16 - x.off
   ·have k2:(!decide (1<=(x.bytes.length:Int)/\(x.bytes.length:Int)<=16 - x.off))=false:=by simpa using h2
    have ho:a39 free x=true:=xj2 ⟨h1.1,h1.2,xa3.1 (by omega),h2.2⟩;rw [ho,xq0] at hst
    repeat' (first|(with_reducible apply a8 a7);rfl;rfl;rfl|(with_reducible apply a9);rfl;(first|apply Ld.sc a7;rfl;exact hS.blkC 0 rfl rfl|apply Ld.sl a7;rfl;exact hS.blkC 0 rfl rfl|apply Ld.st a7;rfl;exact hS.roR (by assumption) (by assumption);rfl);rfl|(with_reducible apply l7 a7);rfl;rfl;rfl;rfl;omega;rfl|(with_reducible apply j4);rfl;rfl;omega;omega;rfl|(with_reducible apply a0m);rfl;rfl;omega;omega;rfl|refine yDn (by with_reducible constructor) ?_|(with_reducible apply k8);(iterate 4 rfl);assumption|(with_reducible apply f5);rfl;assumption;rfl;rfl|(with_reducible apply f8);rfl;assumption|(with_reducible apply d8 hS a7);rfl;rfl;rfl;clear hS;intro g w' hS|(with_reducible apply b8 hS a7 (i:=0));(iterate 8 rfl);exact (rfl:_=[_,_]);clear hS;intro w' hS;simp only [List.set] at hS|(with_reducible apply b9);rfl;all_goals (intro hb hp;try (exfalso;omega))|(with_reducible apply d7 hS);rfl;rfl;rfl;refine ⟨_,p7 _ _ _ _,?_⟩;clear hS;intro w' hS)
    refine e9 (i + 1,a18 x) (by exact Fr.sub_of rfl) ⟨⟨by show i + 1<=S.fixes.length;omega,by show 0<=a18 x;unfold a18;omega,by show a18 x<=16;unfold a18;omega⟩,by rw [hok,hst]⟩ hS.drop (by show S.fixes.length - (i + 1) < S.fixes.length - i;omega)
   ·have k2:(!decide (1<=(x.bytes.length:Int)/\(x.bytes.length:Int)<=16 - x.off))=true:=by rw [xj0 h2];rfl
    have ho:a39 free x=false:=xj0 (fun h=>h2 ⟨by have:=xa3.2 h.2.2.1;omega,h.2.2.2⟩);rw [ho,xq1] at hst
    repeat' (first|(with_reducible apply a8 a7);rfl;rfl;rfl|(with_reducible apply a9);rfl;(first|apply Ld.sc a7;rfl;exact hS.blkC 0 rfl rfl|apply Ld.sl a7;rfl;exact hS.blkC 0 rfl rfl|apply Ld.st a7;rfl;exact hS.roR (by assumption) (by assumption);rfl);rfl|(with_reducible apply l7 a7);rfl;rfl;rfl;rfl;omega;rfl|(with_reducible apply a0m);rfl;rfl;omega;omega;rfl|refine yDn (by with_reducible constructor) ?_|(with_reducible apply k8);(iterate 4 rfl);assumption|(with_reducible apply f5);rfl;assumption;rfl;rfl|(with_reducible apply f6);rfl;assumption|(with_reducible apply d8 hS a7);rfl;rfl;rfl;clear hS;intro g w' hS|(with_reducible apply b8 hS a7 (i:=0));(iterate 8 rfl);exact (rfl:_=[_,_]);clear hS;intro w' hS;simp only [List.set] at hS|(with_reducible apply b9);rfl;all_goals (intro hb hp;try (exfalso;omega))|(with_reducible apply d7 hS);rfl;rfl;rfl;refine ⟨_,p7 _ _ _ _,?_⟩;clear hS;intro w' hS)
    (refine k7 rfl ?_)
    exact ⟨by rw [hok,hst],hS.sub (xj1 _)⟩
  ·have k1:(!decide (free<=x.off/\x.off<=16))=true:=by rw [xj0 h1];rfl
   have ho:a39 free x=false:=xj0 (fun h=>h1 ⟨h.1,h.2.1⟩);rw [ho,xq1] at hst
   repeat' (first|(with_reducible apply a8 a7);rfl;rfl;rfl|(with_reducible apply a9);rfl;(first|apply Ld.sc a7;rfl;exact hS.blkC 0 rfl rfl|apply Ld.sl a7;rfl;exact hS.blkC 0 rfl rfl|apply Ld.st a7;rfl;exact hS.roR (by assumption) (by assumption);rfl);rfl|(with_reducible apply l7 a7);rfl;rfl;rfl;rfl;omega;rfl|refine yDn (by with_reducible constructor) ?_|(with_reducible apply x8);(iterate 4 rfl);assumption;rfl|(with_reducible apply j3);rfl;assumption;rfl;rfl|(with_reducible apply f6);rfl;rfl|(with_reducible apply d8 hS a7);rfl;rfl;rfl;clear hS;intro g w' hS|(with_reducible apply b8 hS a7 (i:=0));(iterate 8 rfl);exact (rfl:_=[_,_]);clear hS;intro w' hS;simp only [List.set] at hS|(with_reducible apply b9);rfl;all_goals (intro hb hp;try (exfalso;omega))|(with_reducible apply d7 hS);rfl;rfl;rfl;refine ⟨_,p7 _ _ _ _,?_⟩;clear hS;intro w' hS)
   (refine k7 rfl ?_)
   exact ⟨by rw [hok,hst],hS.sub (xj1 _)⟩
 ·repeat' (first|(with_reducible apply a8 a7);rfl;rfl;rfl|(with_reducible apply a9);rfl;(apply Ld.sl a7;rfl;exact hS.blkC 0 rfl rfl);rfl|refine yDn (by with_reducible constructor) ?_|(with_reducible apply b9);rfl;all_goals (intro hb hp;try (exfalso;omega)))
  (refine k7 rfl ?_)
  exact ⟨by rw [hok,xj7 (by omega)];rfl,hS.sub (xj1 _)⟩
theorem a5k {l:List Fx} {i:Nat} {f:Fx} {d:List UInt8} (h:l[i]?=some f):a3k d (l.take (i + 1))=splice (a3k d (l.take i)) f.off.toNat f.bytes:=by
 unfold a3k;rw [xp6,h];simp [List.foldl_append]
theorem a8F {l:List Fx}:∀ {free:Int},a3p free l=true->0<=free->∀ {i:Nat} {f:Fx},l[i]?=some f->(0<=f.off/\f.off<=16)/\(f.bytes.length:Int)<=16 - f.off:=by
 induction l with
 |nil=>intro free _ _ i f h;simp at h
 |cons g r ih=>
  intro free h h0 i f hf;simp only [a3p,a39,xb2,xb3] at h;obtain ⟨⟨h1,h2,h3,h4⟩,h5⟩:=h
  cases i with
  |zero=>simp at hf;subst hf;exact ⟨⟨by omega,h2⟩,h4⟩
  |succ i=>exact ih h5 (by unfold a18;omega) (by simpa using hf)
theorem a7y {l:List Fx} {d:List UInt8} {free:Int} (h:a3p free l=true) (h0:0<=free) (hd:d.length=16):∀ i,i<=l.length->(a3k d (l.take i)).length=16:=by
 intro i
 induction i with
 |zero=>intro _;simpa [a3k] using hd
 |succ i ih=>
  intro hi;have hx:l[i]?=some l[i]:=xe1 (by omega);have:=ih (by omega);obtain ⟨⟨h1,h2⟩,h3⟩:=a8F h h0 hx;rw [a5k hx,a6v (by omega)];exact this
theorem a5Q {S:Sh} (h:t8 S=true):S.data.length=16/\a3p 0 S.fixes=true:=by
 unfold t8 at h;simp only [xb2,xb3] at h;exact ⟨h.1.2,h.2⟩
theorem a9v {S:Sh} {i:Nat} (hi:S.fixes.length<=i):a3k S.data (S.fixes.take i)=a5A S:=by rw [xa0 hi];rfl
theorem b1G {S:Sh} {w:World} {u:Value} (hu:ShV w S u):Fn Tryz.prog 46 [shA S u] w (RBf (.tuple #[.string ⟨(if t8 S=true then a5A S else []).toArray⟩,.int .i64 (if t8 S=true then 0 else 1)]) w):=by
 have hr:=fun w (h:ShV w S u)=>a9D h;by_cases hR:t8 S=true;rotate_left
 ·rw [xf1 hR,xf1 hR];rw [show t8 S=false by simpa using hR] at hr;refine yEn Tryz.func46 Tryz.ntmps46 (by kernel_rfl) (by kernel_rfl) rfl rfl ?_;have hS:=St.start w;unfold shA shC
  repeat' (first|(with_reducible apply a8 a7);rfl;rfl;rfl|(with_reducible apply a9);rfl;(apply Ld.st a7;rfl;exact hS.blkR 0 rfl;rfl);rfl|refine yDn (by with_reducible constructor) ?_|(with_reducible apply f6);rfl;rfl|(with_reducible apply l8 hS);rfl;rfl;rfl;clear hS;intro g w' hS|(with_reducible apply d7 hS);rfl;rfl;rfl;refine ⟨_,hr _ (hu.now hS),?_⟩;clear hS;intro w' hS)
  (refine a4H rfl ?_)
  exact ⟨rfl,hS.sub (xj1 _)⟩
 rw [xf0 hR,xf0 hR];rw [hR] at hr;obtain ⟨hd,hok⟩:=a5Q hR;have bnd:=hu.bound;obtain ⟨p,c,rfl⟩:=hu.len;refine yEn Tryz.func46 Tryz.ntmps46 (by kernel_rfl) (by kernel_rfl) rfl rfl ?_;have hS:=St.start w;unfold shA shC
 repeat' (first|(with_reducible apply a8 a7);rfl;rfl;rfl|(with_reducible apply a9);rfl;(first|apply Ld.sc a7;rfl;exact hS.blkC 0 rfl rfl|apply Ld.sl a7;rfl;exact hS.blkC 0 rfl rfl|apply Ld.st a7;rfl;exact hS.blkR 0 rfl;rfl);rfl|refine yDn (by with_reducible constructor) ?_|(with_reducible apply f8);rfl;rfl|(with_reducible apply l8 hS);rfl;rfl;rfl;clear hS;intro g w' hS|(with_reducible apply d7 hS);rfl;rfl;rfl;refine ⟨_,hr _ (hu.now hS),?_⟩;clear hS;intro w' hS)
 refine k9 (X:=Nat) (fun x=>[(15,.int .i64 (x:Nat)),(4,.string ⟨(a3k S.data (S.fixes.take x)).toArray⟩)]) [1,13,14] rfl (fun _=>[]) (fun x=>x<=S.fixes.length) (fun x=>S.fixes.length - x) 0 (by exact Fr.sub_of rfl) (by simp) hS ?_;clear hS;intro i w1 hi hS;dsimp only [List.cons_append,List.nil_append] at hi hS |-;have hlen:=a7y hok (by omega) hd i hi;by_cases hlt:i < S.fixes.length
 ·obtain ⟨x,hx⟩:=j0 (l:=S.fixes) (i:=i) (by omega);have hrow:=c9 (f:=fxC) hx;obtain ⟨b,off,rfl,hro⟩:=hu.at_ (i:=i) hlt;obtain ⟨⟨h1,h2⟩,h3⟩:=a8F hok (by omega) hx;have hst:=a5k (d:=S.data) hx;generalize a3k S.data (S.fixes.take i)=d at hlen hst |-;have hlay:=fun w=>b4n d x.bytes x.off w (by unfold maxLen;omega);have hin:inB x.off x.bytes.length d.length=true:=by unfold inB;rw [xb3];omega
  simp only [hin,if_true] at hlay
  repeat' (first|(with_reducible apply a8 a7);rfl;rfl;rfl|(with_reducible apply a9);rfl;(first|apply Ld.sc a7;rfl;exact hS.blkC 0 rfl rfl|apply Ld.st a7;rfl;exact hS.roR (by assumption) (by assumption);rfl);rfl|(with_reducible apply l7 a7);rfl;rfl;rfl;rfl;omega;rfl|(with_reducible apply j4);rfl;rfl;omega;omega;rfl|refine yDn (by with_reducible constructor) ?_|(with_reducible apply d8 hS a7);rfl;rfl;rfl;clear hS;intro g w' hS|(with_reducible apply b8 hS a7 (i:=0));(iterate 8 rfl);exact (rfl:_=[_,_]);clear hS;intro w' hS;simp only [List.set] at hS|(with_reducible apply b9);rfl;all_goals (intro hb hp;try (exfalso;omega))|(with_reducible apply d7 hS);rfl;rfl;rfl;refine ⟨_,hlay _,?_⟩;clear hS;intro w' hS)
  exact e9 (i + 1) (by rw [hst];exact Fr.sub_of rfl) (by show i + 1<=S.fixes.length;omega) hS.drop (by show S.fixes.length - (i + 1) < S.fixes.length - i;omega)
 ·repeat' (first|(with_reducible apply a8 a7);rfl;rfl;rfl|refine yDn (by with_reducible constructor) ?_|(with_reducible apply b9);rfl;all_goals (intro hb hp;try (exfalso;omega)))
  (refine a4H rfl ?_)
  exact ⟨by rw [a9v (by omega)],hS.sub (xj1 _)⟩
theorem b15 {S:Sh} {w:World} {u:Value} (hu:ShV w S u) (hR:t8 S=true):Fn Tryz.prog 121 [shA S u] w (RBf (.string ⟨(a5A S).toArray⟩) w):=by
 obtain ⟨hd,hok⟩:=a5Q hR;have bnd:=hu.bound;obtain ⟨p,c,rfl⟩:=hu.len;refine yEn Tryz.func121 Tryz.ntmps121 (by kernel_rfl) (by kernel_rfl) rfl rfl ?_;have hS:=St.start w;unfold shA shC
 repeat' (first|(with_reducible apply a8 a7);rfl;rfl;rfl|(with_reducible apply a9);rfl;(apply Ld.sc a7;rfl;exact hS.blkC 0 rfl rfl);rfl|refine yDn (by with_reducible constructor) ?_|(with_reducible apply l8 hS);rfl;rfl;rfl;clear hS;intro g w' hS)
 refine k9 (X:=Nat) (fun x=>[(4,.int .i64 (x:Nat)),(3,.string ⟨(a3k S.data (S.fixes.take x)).toArray⟩)]) [1] rfl (fun _=>[]) (fun x=>x<=S.fixes.length) (fun x=>S.fixes.length - x) 0 (by exact Fr.sub_of rfl) (by simp) hS ?_;clear hS;intro i w1 hi hS;dsimp only [List.cons_append,List.nil_append] at hi hS |-;have hlen:=a7y hok (by omega) hd i hi;by_cases hlt:i < S.fixes.length
 ·obtain ⟨x,hx⟩:=j0 (l:=S.fixes) (i:=i) (by omega);have hrow:=c9 (f:=fxC) hx;obtain ⟨b,off,rfl,hro⟩:=hu.at_ (i:=i) hlt;obtain ⟨⟨h1,h2⟩,h3⟩:=a8F hok (by omega) hx;have hst:=a5k (d:=S.data) hx;generalize a3k S.data (S.fixes.take i)=d at hlen hst |-;have hover:∀ w,Fn Tryz.prog 79 [.string ⟨d.toArray⟩,.int .i64 x.off,.string ⟨x.bytes.toArray⟩] w (RBf (.string ⟨(splice d x.off.toNat x.bytes).toArray⟩) w):=fun w=>by
   have:=b44 d x.bytes x.off.toNat w (by unfold maxLen;omega) (by omega)
   rwa [xn8 h1] at this
  repeat' (first|(with_reducible apply a8 a7);rfl;rfl;rfl|(with_reducible apply a9);rfl;(apply Ld.sl a7;rfl;exact hS.blkC 0 rfl rfl);rfl|refine yDn (by with_reducible constructor) ?_|(with_reducible apply b9);rfl;all_goals (intro hb hp;try (exfalso;omega)))
  (focus ((with_reducible apply d9 _ _ _ (by kernel_rfl) (by kernel_rfl) hS);(repeat' (first|(first|(with_reducible apply i7 a7);rfl;rfl|(with_reducible apply i9);rfl;(intro wd hd;replace hd:St _ _ wd _:=hd;(first|apply Ld.sc a7;rfl;(first|exact hd.roC0 (by assumption) (by assumption) rfl|exact hd.roC (by assumption) (by assumption) rfl)|apply Ld.sl a7;rfl;exact hd.blkC 0 rfl rfl));rfl|(with_reducible apply y8 a7);rfl;rfl;rfl;rfl;omega;rfl)|(with_reducible apply y7);rfl;rfl;rfl;refine ⟨_,fun wd hd=>hover _,?_⟩));all_goals ((with_reducible apply j7);intro w' hS';clear hS;have hS:=hS';clear hS')))
  repeat' (first|(with_reducible apply a8 a7);rfl;rfl;rfl|(with_reducible apply j4);rfl;rfl;omega;omega;rfl|refine yDn (by with_reducible constructor) ?_)
  exact e9 (i + 1) (by rw [hst];exact Fr.sub_of rfl) (by show i + 1<=S.fixes.length;omega) hS (by show S.fixes.length - (i + 1) < S.fixes.length - i;omega)
 ·repeat' (first|(with_reducible apply a8 a7);rfl;rfl;rfl|(with_reducible apply a9);rfl;(apply Ld.sl a7;rfl;exact hS.blkC 0 rfl rfl);rfl|refine yDn (by with_reducible constructor) ?_|(with_reducible apply b9);rfl;all_goals (intro hb hp;try (exfalso;omega)))
  (refine k7 rfl ?_)
  exact ⟨by rw [a9v (by omega)],hS.sub (xj1 _)⟩
end Go.Proofs.YtejnpppejalhfabGreat
