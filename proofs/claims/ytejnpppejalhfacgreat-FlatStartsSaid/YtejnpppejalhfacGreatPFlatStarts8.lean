/- Texts that the proof stands on, one behind the other: Ar5, Ar11, Ar12, Ar13, Ar14, Ar15, Ar16, As3, As4, Ar6, As5, PlArea3, PlFl, Choose, Im1, Fl1, PlLnk2, PlKer, Lk1. -/
import Derived.Deep.RegionWith
import Derived.Deep.DeepCutAuto
import Derived.Lib.QuietBelow
import Derived.Test.YtejnpppejalhfacGreatPFlatStarts7
set_option linter.unusedVariables false
set_option linter.unusedSimpArgs false
namespace Go.Proofs.YtejnpppejalhfacGreat
set_option maxRecDepth 100000
set_option maxHeartbeats 8000000
open Go.RowKit Go.Sort
def a2z (a:Ar) (page:Int):Int:=if wrap64 a.fin<=page then -1 else 1
theorem a6J (a:Ar) (page:Int) (w:World):Calls Tryz.prog 164 #[.agg (arC a).toArray,.int .i64 page] w (RB (.int .i64 (a2z a page)) w):=by
 have HE:=hid (fun w=>a38 a w);have HC:Hid (a2z a page=if wrap64 a.fin<=page then -1 else 1):=hid rfl;generalize wrap64 a.fin=f at *;unfold arC at *;by_cases h:f<=page
 ·go_enter Tryz.func164,Tryz.ntmps164
  go_wp2_with (first|go_at_call 153;(with_reducible refine (HE.out _).mono ?_);rintro e w1 ⟨rfl,hb1⟩)
  go_ret
  exact ⟨m7 (by rw [HC.out,xd8 h]),(by repeat (first|with_reducible exact Below.refl _ _|with_reducible refine Below.alloc ?_ (by (omega)) _|refine bt ?_ (by with_reducible assumption)))⟩
 ·go_enter Tryz.func164,Tryz.ntmps164
  go_wp2_with (first|go_at_call 153;(with_reducible refine (HE.out _).mono ?_);rintro e w1 ⟨rfl,hb1⟩)
  go_ret
  exact ⟨m7 (by rw [HC.out,xd9 (by omega)]),(by repeat (first|with_reducible exact Below.refl _ _|with_reducible refine Below.alloc ?_ (by (omega)) _|refine bt ?_ (by with_reducible assumption)))⟩
theorem b1k (a:Ar) (page:Int):(a2z a page == 0)=false:=by unfold a2z;split <;> decide
theorem a8h {a:Ar} {page:Int}:a2z a page < 0 ↔ wrap64 a.fin<=page:=by unfold a2z;split <;> omega
theorem a22 {L:List Ar} (h:a1M L):∀ {j k:Nat} {a b:Ar},j < k->L[j]?=some a->L[k]?=some b->a.fin<=b.pg:=by
 have ok:=(a01 L).1 h;intro j k
 induction k with
 |zero=>intro a b hj;omega
 |succ k ih=>
  intro a b hj ha hb;obtain ⟨hk,_⟩:=xa6.1 hb;obtain ⟨c,hc⟩:∃ c,L[k]?=some c:=⟨L[k],by simp⟩;have h1:=((a3x hb hc).1 (ok (k + 1) hk)).2.1;rcases xl8.1 hj with h2|h2
  ·have h3:=ih h2 ha hc;have h4:=w5 h k c hc;unfold Ar.ok at h4;unfold Ar.fin at *;omega
  ·subst h2;rw [ha] at hc;cases hc;exact h1
def a1q (L:List Ar) (page:Int) (i j:Nat):Prop:=a1M L->(∀ (t:Nat) (a:Ar),t < i->L[t]?=some a->a.fin<=page)/\(∀ (t:Nat) (a:Ar),j<=t->L[t]?=some a->page < a.fin)
theorem a5f (L:List Ar) (page:Int):a1q L page 0 L.length:=fun _=>⟨fun t a h=>by omega,fun t a h ha=>by obtain ⟨h2,_⟩:=xa6.1 ha;omega⟩
theorem b0M {L:List Ar} {page:Int} {i j h:Nat} {a:Ar} (hI:a1q L page i j) (ha:L[h]?=some a) (hc:a2z a page < 0):a1q L page (h + 1) j:=fun hg=>by
 have hok:=w5 hg h a ha;rw [a8h,a0Z hok] at hc;refine ⟨fun t b ht hb=>?_,(hI hg).2⟩;rcases xl8.1 ht with h1|h1
 ·have:=a22 hg h1 hb ha;have hb':=w5 hg t b hb;unfold Ar.ok at hok;unfold Ar.fin at *;omega
 ·subst h1;rw [ha] at hb;cases hb;exact hc
theorem a77 {L:List Ar} {page:Int} {i j h:Nat} {a:Ar} (hI:a1q L page i j) (ha:L[h]?=some a) (hc:¬ a2z a page < 0):a1q L page i h:=fun hg=>by
 have hok:=w5 hg h a ha;rw [a8h,a0Z hok] at hc;refine ⟨(hI hg).1,fun t b ht hb=>?_⟩;rcases Nat.lt_or_eq_of_le ht with h1|h1
 ·have:=a22 hg h1 ha hb;have hb':=w5 hg t b hb;unfold Ar.ok at hb';unfold Ar.fin at *;omega
 ·subst h1;rw [ha] at hb;cases hb;omega
def a5v (L:List Ar) (page:Int) (w:World) (e:Ending) (w':World):Prop:=∃ i:Nat,i<=L.length/\e=.returned (.tuple #[.int .i64 i,.bool false])/\Below w.heap.size w w'/\a1q L page i i
theorem a9u (i j n:Nat) (hi:i<=n) (hj:j<=n) (h:n<=9223372036854775807):IntKind.u64.wrap (wrap64 ((i:Int) + j))=(i:Int) + j:=by
 rw [IntKind.wrap_u64];unfold wrap64;omega
theorem a7k (i j n:Nat) (hi:i<=n) (hj:j<=n) (h:n<=9223372036854775807):IntKind.u64.wrap ((i:Int) + j)=(i:Int) + j:=by
 rw [IntKind.wrap_u64];omega
theorem a7I (h n:Nat) (h1:h < n) (h2:n<=9223372036854775807):wrap64 ((h:Int) + 1)=(h:Int) + 1:=by unfold wrap64;omega
theorem a6N {n cap:Nat} (h:n<=cap) (hm:cap<=maxLen):n<=9223372036854775807:=xc6 h hm
theorem ms1 {i j h:Nat} (h1:i<=h) (h2:h < j):(j:Int).toNat - ((h:Int) + 1).toNat < (j:Int).toNat - (i:Int).toNat:=by omega
theorem ms2 {i j h:Nat} (h1:i<=h) (h2:h < j):(h:Int).toNat - (i:Int).toNat < (j:Int).toNat - (i:Int).toNat:=by omega
theorem a7w (i j n:Nat) (hi:i<=n) (hj:j<=n) (h:n<=9223372036854775807):wrap64 (((i:Int) + j) / 2)=((i + j) / 2:Nat):=by
 unfold wrap64;omega
theorem b2m {L:List Ar} {w:World} (b off cap:Nat) (page:Int) (hbl:b < w.heap.size) (hcap:L.length<=cap) (hmax:cap<=maxLen) (j0:∀ i a,L[i]?=some a->CellsAr w b (off + i * 4) a) :
  Calls Tryz.prog 163 #[.slice (some ⟨b,off,none⟩) L.length cap,.int .i64 page,.func (.func 164) #[] #[]] w (a5v L page w):=by
 have hlen:=a6N hcap hmax;clear hmax hcap;have HLEN:=hid hlen;clear hlen;have HL:=hid j0;have HI:=hid (a5f L page);clear j0
 go_enter Tryz.func163,Tryz.ntmps163
 go_wp2
 go_loopw [9,10] (fun vi vj wr=>∃ i j:Nat,i<=j/\j<=L.length/\vi=.int .i64 i/\vj=.int .i64 j/\Below w.heap.size w wr/\Hid (a1q L page i j)) (fun vi vj _=>(intOf vj).toNat - (intOf vi).toNat)
 case atStart=>exact ⟨0,L.length,by omega,by omega,rfl,rfl,Below.refl _ _,HI.out⟩
 case round=>
  clear HI;obtain ⟨i,j,hij,hj,rfl,rfl,hb,HI⟩:=hrel;by_cases hlt:i < j
  ·obtain ⟨h,hh⟩:∃ h,h=(i + j) / 2:=⟨_,rfl⟩;have hhj:h < j:=by omega
   have hih:i<=h:=by omega
   obtain ⟨a,ha⟩:∃ a,L[h]?=some a:=⟨L[h]'(by omega),by simp⟩;obtain ⟨c0,c1,c2,c3⟩:=(HL.out h a ha).grown hb hbl;have hbr:=a0A (xa7 hbl hb.size);have hsz:=hb.size;have hq0:=a7k i j L.length (xc6 hij hj) hj HLEN.out;have hq1:=a9u i j L.length (xc6 hij hj) hj HLEN.out;have hq2:=a7w i j L.length (xc6 hij hj) hj HLEN.out;rw [<- hh] at hq2;have HC:=hid (fun w=>a6J a page w);unfold arC at HC;have hw1:wrap64 ((h:Int) + 1)=(h:Int) + 1:=a7I h L.length (xa7 hhj hj) HLEN.out;have hlh:(h:Int) < L.length:=Int.ofNat_lt.2 (xa7 hhj hj);clear hh
   go_upto_region 5 with fail
   rw [hq2];clear hq0 hq1 hq2;by_cases hc:a2z a page < 0
   ·have HX:=hid (b0M HI.out ha hc);generalize a2z a page=cv at *
    go_wp2_with (first|go_at_call 164;(with_reducible refine (HC.out _).mono ?_);rintro e w1 ⟨rfl,hb1⟩)
    go_roundw
    case rel=>exact ⟨h + 1,j,Nat.succ_le_of_lt hhj,hj,by rw [hw1];rfl,rfl,(by repeat (first|with_reducible assumption|refine bt ?_ (by with_reducible assumption))),HX.out⟩
    case measure=>(rw [hw1];exact ms1 hih hhj)
   ·have HX:=hid (a77 HI.out ha hc);generalize a2z a page=cv at *
    go_wp2_with (first|go_at_call 164;(with_reducible refine (HC.out _).mono ?_);rintro e w1 ⟨rfl,hb1⟩)
    go_roundw
    case rel=>exact ⟨i,h,hih,Nat.le_of_lt (xa7 hhj hj),rfl,rfl,(by repeat (first|with_reducible assumption|refine bt ?_ (by with_reducible assumption))),HX.out⟩
    case measure=>exact ms2 hih hhj
  ·obtain rfl:i=j:=by omega
   by_cases hn:i < L.length
   ·obtain ⟨a,ha⟩:∃ a,L[i]?=some a:=⟨L[i],by simp [hn]⟩;obtain ⟨c0,c1,c2,c3⟩:=(HL.out i a ha).grown hb hbl;have hbr:=a0A (xa7 hbl hb.size);have hsz:=hb.size;have HC:=hid (fun w=>a6J a page w);have hz:=b1k a page;unfold arC at HC;generalize a2z a page=cv at *
    go_wp2_with (first|go_at_call 164;(with_reducible refine (HC.out _).mono ?_);rintro e w1 ⟨rfl,hb1⟩)
    go_ret2
    exact ⟨i,hj,rfl,(by repeat (first|with_reducible assumption|refine bt ?_ (by with_reducible assumption))),HI.out⟩
   ·go_wp2
    go_ret2
    exact ⟨i,hj,rfl,(by repeat ((with_reducible assumption))),HI.out⟩
theorem a2F {va vb:Value} {A B:List Ar} {w:World} (ha:SlAr w va A) (hb:SlAr w vb B):Calls Tryz.prog 59 #[va,vb] w (RB (.bool (decide (A=B))) w):=by
 rcases ha with ⟨p,c,rfl,rfl⟩|⟨b1,off1,cap1,rfl,h2,h3,h4,h5⟩
 ·rcases hb with ⟨p2,c2,rfl,rfl⟩|⟨b2,off2,cap2,rfl,k2,k3,k4,k5⟩
  ·go_enter Tryz.func59,Tryz.ntmps59
   go_wp2
   go_loopw [5] (fun vi wr=>vi=.int .i64 0/\wr=w) (fun _ _=>0)
   case atStart=>exact ⟨rfl,rfl⟩
   case round=>
    obtain ⟨rfl,rfl⟩:=hrel
    go_wp2
    go_ret
    exact ⟨j6 (by simp),Below.refl _ _⟩
  ·cases B with
   |nil=>
    simp only [xa2]
    go_enter Tryz.func59,Tryz.ntmps59
    go_wp2
    go_loopw [5] (fun vi wr=>vi=.int .i64 0/\wr=w) (fun _ _=>0)
    case atStart=>exact ⟨rfl,rfl⟩
    case round=>
     obtain ⟨rfl,rfl⟩:=hrel
     go_wp2
     go_ret
     exact ⟨j6 (by simp),Below.refl _ _⟩
   |cons c B=>
    have hn:((0:Int) != ((c::B).length:Nat))=true:=by rw [xl4];simp;omega
    generalize hD:(c::B).length=n at *
    go_enter Tryz.func59,Tryz.ntmps59
    go_wp2
    go_ret
    exact ⟨j6 (by simp),Below.refl _ _⟩
 ·rcases hb with ⟨p2,c2,rfl,rfl⟩|⟨b2,off2,cap2,rfl,k2,k3,k4,k5⟩
  ·cases A with
   |nil=>
    simp only [xa2]
    go_enter Tryz.func59,Tryz.ntmps59
    go_wp2
    go_loopw [5] (fun vi wr=>vi=.int .i64 0/\wr=w) (fun _ _=>0)
    case atStart=>exact ⟨rfl,rfl⟩
    case round=>
     obtain ⟨rfl,rfl⟩:=hrel
     go_wp2
     go_ret
     exact ⟨j6 (by simp),Below.refl _ _⟩
   |cons c A=>
    have hn:(((c::A).length:Int) != 0)=true:=by rw [xl4];simp;omega
    generalize hD:(c::A).length=n at *
    go_enter Tryz.func59,Tryz.ntmps59
    go_wp2
    go_ret
    exact ⟨j6 (by simp),Below.refl _ _⟩
  ·by_cases hl:A.length=B.length
   ·exact a68 b1 off1 cap1 b2 off2 cap2 h2 k2 h5 k5 hl (a6N h3 h4)
   ·have HX:=hid (a91 hl);have hn:((A.length:Int) != B.length)=true:=by rw [xl4];omega
    clear hl h4 k4 h5 k5 h3 k3
    go_enter Tryz.func59,Tryz.ntmps59
    go_wp2
    go_ret
    exact ⟨j6 (xg8 HX.out).symm,Below.refl _ _⟩
theorem a1z (n lo hi:Int) (w:World):Calls Tryz.prog 70 #[.int .i64 n,.int .i64 lo,.int .i64 hi] w fun e w'=>e=.returned (.bool (decide (lo<=n/\n<=hi)))/\w=w':=by
 by_cases h1:lo<=n
 ·by_cases h2:n<=hi
  ·go_enter Tryz.func70,Tryz.ntmps70
   go_wp2
   go_ret
   exact ⟨j6 (by simp [h1,h2]),rfl⟩
  ·go_enter Tryz.func70,Tryz.ntmps70
   go_wp2
   go_ret
   exact ⟨j6 (by simp [h1,h2]),rfl⟩
 ·go_enter Tryz.func70,Tryz.ntmps70
  go_wp2
  go_ret
  exact ⟨j6 (by simp;omega),rfl⟩
theorem v9 {P:Program} {w:World} {ops:Array Oper} {rest:List Oper} {o:Oper} {a:Act} {Q:Exit->Act->World->Prop} (hw:Region.wanted o (yielded ops a.tmps)=true) (ty:TypeId) (x:Operand) (ho:o.op=.load ty x) (g:Nat) (L:List Value) (hx:a.eval x=.pointer (some ⟨g,0,none⟩)) (h:HoldL w g L) (d:TypeDesc)
  (hu:P.underlying ty=some d) (hd:(match d with|.struct _|.array _ _=>true|_=>false)=true) (hi:(P.info? ty).map (·.size)=some L.length)
  (next:wpList P ops Q rest (a.put o.dst (.agg L.toArray)) w):wpList P ops Q (o::rest) a w:=by
 obtain ⟨t,ht⟩:=h;unfold wpList;rw [xd8 hw];exact xc7 (wp_load_row ty x ho g hx t _ _ d ht hu hd (by simpa using hi) next)
theorem a4X {v:Value} {L:List Ar} {w:World} (h:SlAr w v L) (hok:∀ (i:Nat) (a:Ar),L[i]?=some a->a.ok) (hlen:L.length<=255):Calls Tryz.prog 120 #[v] w (x9 L w):=by
 rcases h with ⟨p,c,rfl,rfl⟩|⟨b,off,cap,rfl,h2,h3,h4,h5⟩
 ·exact a7M p c w
 ·exact a7J b off cap h2 h5 hok hlen
theorem a5p {L:List Ar} (hl:¬ 255 < L.length) (hr:¬ l0 1 L):b5 L=1:=by
 unfold b5;rw [xd9 hl,xd9 (fun g=>hr g.1)]
theorem a5i {L:List Ar} (hl:¬ 255 < L.length) (hr:l0 1 L):b5 L=if n6 (i5 L) 255=L then 0 else 1:=by
 unfold b5;rw [xd9 hl];by_cases h:a0Q L
 ·rw [xd8 ⟨hr,h⟩,xd8 ((a2j hr).2 h)]
 ·rw [xd9 (fun g=>h g.2),xd9 (fun e=>h ((a2j hr).1 e))]
theorem a3e (p:Option Addr) (c:Nat) (w:World):Calls Tryz.prog 96 #[.slice p 0 c] w (RB (.int .i64 0) w):=by
 have hszb:(Tryz.prog.info? 188).map (·.size)=some 256:=by kernel_rfl
 have Hszb:=hid hszb;clear hszb;have hbw:=Below.refl w.heap.size w;obtain ⟨L,hL⟩:∃ L:List Ar,L=[]:=⟨_,rfl⟩;have HR:Hid (l0 1 L):=by rw [hL];exact trivial
 have HSL:Hid (SlAr w (.slice p 0 c) L):=xc7 ⟨_,_,rfl,hL⟩;have HBD:Hid (∀ w',Below w.heap.size w w'->Calls Tryz.prog 120 #[.slice p 0 c] w' (x9 L w')):=fun w' hb=>a4X (HSL.out.grown hb) (by rw [hL];intro i a h;simp at h) (by rw [hL];simp);unfold x9 at HBD;rw [xh0 HR.out] at HBD;have HAO:=hid (fun w'=>a2i (i5 L) (fun p=>a1D p HR.out) (n5 HR.out (by omega)) w');have HEQ:Hid (n6 (i5 L) 255=L):=hid (by rw [hL];exact a0Y ⟨trivial,trivial⟩);clear hL
 go_enter Tryz.func96,Tryz.ntmps96
 go_wp2
 go_loopw [3] (fun vi wr=>vi=.int .i64 0/\w=wr) (fun _ _=>0)
 case atStart=>exact ⟨rfl,rfl⟩
 case round=>
  obtain ⟨rfl,rfl⟩:=hrel
  go_wp2_with (first|go_at_call 120;(with_reducible refine (HBD.out _ hbw).mono ?_);rintro e wc ⟨bd,rfl,hbc,hbd⟩;rw [hbd HR.out];clear hbd;have hbn:=bt hbw hbc;clear hbw hbc;have hbw:=hbn;clear hbn|(with_reducible refine n7 5 ?_);refine f7 rfl (some 5) rfl (bdC (fun _=>0)) 188 (by kernel_rfl) w.heap.size w hbw hbw.size ?_;intro g5 wn5 hL5 hB5 hbn hkn hnn;skip;clear hbw hkn hnn;have hbw:=hbn;clear hbn|(with_reducible refine l5 5 ?_);refine d5 rfl 188 (.tmp 5) (.tmp 48) rfl rfl g5 (bdC (i5 L)) (bdC (fun _=>0)) rfl rfl hL5 (by rw [Hszb.out,j5]) (by simp [j5]) (a0K _) w.heap.size w hbw hB5 ?_;intro wp5 hLn hbn hon;clear hL5 hbw hon;have hL5:=hLn;have hbw:=hbn;clear hLn hbn|(with_reducible refine n7 53 ?_);refine v9 rfl 188 (.tmp 5) rfl g5 (bdC (i5 L)) rfl hL5 _ Tryz.underlying188 rfl (by rw [Hszb.out,j5]) ?_|go_at_call 122;(with_reducible refine (HAO.out _).mono ?_);rintro e wa ⟨va,rfl,hsa,hba⟩;have hbn:=bt hbw hba;clear hbw hba;have hbw:=hbn;clear hbn)
  have HC:=a2F (a6i hsa) (HSL.out.grown hbw);rw [xh0 HEQ.out] at HC;have HC:=hid HC
  go_wp2_with (first|go_at_call 59;(with_reducible refine (HC.out).mono ?_);rintro e wz ⟨rfl,hbz⟩)
  go_ret
  exact ⟨m7 rfl,bt hbw hbz⟩
theorem a2w {L:List Ar} {w:World} (b off cap:Nat) (hbl:b < w.heap.size) (hcap:L.length<=cap) (hmax:cap<=maxLen) (j0:∀ i a,L[i]?=some a->CellsAr w b (off + i * 4) a) :
  Calls Tryz.prog 96 #[.slice (some ⟨b,off,none⟩) L.length cap] w (RB (.int .i64 (b5 L)) w):=by
 by_cases hm:255 < L.length
 ·have HC:=hid (a2p hm);clear hmax;generalize b5 L=r at *
  go_enter Tryz.func96,Tryz.ntmps96
  go_wp2
  go_ret
  exact ⟨m7 HC.out.symm,Below.refl _ _⟩
 have hszb:(Tryz.prog.info? 188).map (·.size)=some 256:=by kernel_rfl
 have Hszb:=hid hszb;clear hszb;have HSL:Hid (SlAr w (.slice (some ⟨b,off,none⟩) L.length cap) L):=xc4 ⟨b,off,cap,rfl,hbl,hcap,hmax,j0⟩;have HL:=hid j0;have hlen:L.length<=255:=by omega
 clear j0 hmax hcap;obtain ⟨r,hr⟩:∃ r,r=b5 L:=⟨_,rfl⟩;rw [<- hr];have HQ:=hid hr;clear hr
 go_enter Tryz.func96,Tryz.ntmps96
 go_wp2
 go_loopw [3] (fun vi wr=>∃ i:Nat,i<=L.length/\vi=.int .i64 i/\Below w.heap.size w wr/\Hid (∀ (j:Nat) (a:Ar),j < i->L[j]?=some a->a.ok)) (fun vi _=>L.length - (intOf vi).toNat)
 case atStart=>exact ⟨0,by omega,rfl,Below.refl _ _,fun j a hj=>by omega⟩
 case round=>
  obtain ⟨i,hi,rfl,hbw,HO⟩:=hrel;by_cases hlt:i < L.length
  ·obtain ⟨a,ha⟩:∃ a,L[i]?=some a:=⟨L[i],by simp [hlt]⟩;obtain ⟨c0,c1,c2,c3⟩:=(HL.out i a ha).grown hbw hbl;have hbr:=a0A (xa7 hbl hbw.size);have hsz:=hbw.size;have HW1:=hid (fun w=>a1z a.pg 1 255 w);have HW2:=hid (fun w=>a1z a.n 1 255 w);have HW4:=hid (fun w=>a1z a.prot 0 3 w);by_cases h1:1<=a.pg/\a.pg<=255
   ·rw [xh0 h1] at HW1;by_cases h2:1<=a.n/\a.n<=255
    ·rw [xh0 h2] at HW2;have hw1:wrap64 (a.pg + a.n)=a.pg + a.n:=l4 _ (by omega) (by omega);have hw2:wrap64 (a.pg + a.n - 1)=a.pg + a.n - 1:=l4 _ (by omega) (by omega);by_cases h3:255 < a.pg + a.n - 1
     ·have HX:=hid (a03 ha (fun h=>by unfold Ar.ok at h;omega));clear h1 h2
      go_wp2_with (first|go_at_call 70;(with_reducible refine (HW1.out _).mono ?_);rintro e w1 ⟨rfl,rfl⟩|go_at_call 70;(with_reducible refine (HW2.out _).mono ?_);rintro e w1 ⟨rfl,rfl⟩|go_at_call 70;(with_reducible refine (HW4.out _).mono ?_);rintro e w1 ⟨rfl,rfl⟩)
      go_ret
      exact ⟨m7 (by rw [HQ.out,t7 hm hlt HX.out]),(by repeat (first|with_reducible exact Below.refl _ _|with_reducible assumption|with_reducible refine Below.alloc ?_ (by first|omega|(simp;done)|(simp;omega)) _|with_reducible refine Below.setCell ?_ (by first|omega|(simp;done)|(simp;omega)) _|with_reducible refine Below.drew ?_|with_reducible refine bt ?_ (below_regrown _ _ _)|refine bt ?_ (by with_reducible assumption)))⟩
     ·by_cases h4:0<=a.prot/\a.prot<=3
      ·rw [xh0 h4] at HW4;have HX:Hid (a.ok):=hid (by unfold Ar.ok;omega);have HMS:=hid (ms5 hlt);have hws:wrap64 ((i:Int) + 1)=(i:Int) + 1:=l4 _ (by omega) (by omega);have h3':a.pg + a.n - 1<=255:=by omega
       clear h1 h2 h3 h4
       go_wp2_with (first|go_at_call 70;(with_reducible refine (HW1.out _).mono ?_);rintro e w1 ⟨rfl,rfl⟩|go_at_call 70;(with_reducible refine (HW2.out _).mono ?_);rintro e w1 ⟨rfl,rfl⟩|go_at_call 70;(with_reducible refine (HW4.out _).mono ?_);rintro e w1 ⟨rfl,rfl⟩)
       go_roundw
       case rel=>
        refine ⟨i + 1,hlt,by first|rfl|(rw [hws];rfl),(by repeat (first|with_reducible exact Below.refl _ _|with_reducible assumption|with_reducible refine Below.alloc ?_ (by first|omega|(simp;done)|(simp;omega)) _|with_reducible refine Below.setCell ?_ (by first|omega|(simp;done)|(simp;omega)) _|with_reducible refine Below.drew ?_|with_reducible refine bt ?_ (below_regrown _ _ _)|refine bt ?_ (by with_reducible assumption))),fun j x hj hx=>?_⟩;rcases xl8.1 hj with h|h
        ·exact HO.out j x h hx
        ·subst h;rw [ha] at hx;cases hx;exact HX.out
       case measure=>first|exact HMS.out|(rw [hws];exact HMS.out)
      ·rw [xg8 h4] at HW4;have HX:=hid (a03 ha (fun h=>by unfold Ar.ok at h;omega));have h3':a.pg + a.n - 1<=255:=by omega
       clear h1 h2 h3 h4
       go_wp2_with (first|go_at_call 70;(with_reducible refine (HW1.out _).mono ?_);rintro e w1 ⟨rfl,rfl⟩|go_at_call 70;(with_reducible refine (HW2.out _).mono ?_);rintro e w1 ⟨rfl,rfl⟩|go_at_call 70;(with_reducible refine (HW4.out _).mono ?_);rintro e w1 ⟨rfl,rfl⟩)
       go_ret
       exact ⟨m7 (by rw [HQ.out,t7 hm hlt HX.out]),(by repeat (first|with_reducible exact Below.refl _ _|with_reducible assumption|with_reducible refine Below.alloc ?_ (by first|omega|(simp;done)|(simp;omega)) _|with_reducible refine Below.setCell ?_ (by first|omega|(simp;done)|(simp;omega)) _|with_reducible refine Below.drew ?_|with_reducible refine bt ?_ (below_regrown _ _ _)|refine bt ?_ (by with_reducible assumption)))⟩
    ·rw [xg8 h2] at HW2;have HX:=hid (a03 ha (fun h=>by unfold Ar.ok at h;omega));clear h1 h2
     go_wp2_with (first|go_at_call 70;(with_reducible refine (HW1.out _).mono ?_);rintro e w1 ⟨rfl,rfl⟩|go_at_call 70;(with_reducible refine (HW2.out _).mono ?_);rintro e w1 ⟨rfl,rfl⟩|go_at_call 70;(with_reducible refine (HW4.out _).mono ?_);rintro e w1 ⟨rfl,rfl⟩)
     go_ret
     exact ⟨m7 (by rw [HQ.out,t7 hm hlt HX.out]),(by repeat (first|with_reducible exact Below.refl _ _|with_reducible assumption|with_reducible refine Below.alloc ?_ (by first|omega|(simp;done)|(simp;omega)) _|with_reducible refine Below.setCell ?_ (by first|omega|(simp;done)|(simp;omega)) _|with_reducible refine Below.drew ?_|with_reducible refine bt ?_ (below_regrown _ _ _)|refine bt ?_ (by with_reducible assumption)))⟩
   ·rw [xg8 h1] at HW1;have HX:=hid (a03 ha (fun h=>by unfold Ar.ok at h;omega));clear h1
    go_wp2_with (first|go_at_call 70;(with_reducible refine (HW1.out _).mono ?_);rintro e w1 ⟨rfl,rfl⟩|go_at_call 70;(with_reducible refine (HW2.out _).mono ?_);rintro e w1 ⟨rfl,rfl⟩|go_at_call 70;(with_reducible refine (HW4.out _).mono ?_);rintro e w1 ⟨rfl,rfl⟩)
    go_ret
    exact ⟨m7 (by rw [HQ.out,t7 hm hlt HX.out]),(by repeat (first|with_reducible exact Below.refl _ _|with_reducible assumption|with_reducible refine Below.alloc ?_ (by first|omega|(simp;done)|(simp;omega)) _|with_reducible refine Below.setCell ?_ (by first|omega|(simp;done)|(simp;omega)) _|with_reducible refine Below.drew ?_|with_reducible refine bt ?_ (below_regrown _ _ _)|refine bt ?_ (by with_reducible assumption)))⟩
  ·obtain rfl:i=L.length:=by omega
   have hok:∀ (j:Nat) (a:Ar),L[j]?=some a->a.ok:=fun j a hj=>HO.out j a (xa6.1 hj).1 hj;have HBD:Hid (∀ w',Below w.heap.size w w'->Calls Tryz.prog 120 #[.slice (some ⟨b,off,none⟩) L.length cap] w' (x9 L w')):=fun w' hb=>a4X (HSL.out.grown hb) hok hlen;unfold x9 at HBD;clear hok;by_cases hr:l0 1 L
   ·rw [xh0 hr] at HBD;have HR:=hid hr;have HAO:=hid (fun w'=>a2i (i5 L) (fun p=>a1D p hr) (n5 hr (by omega)) w');have hcs:=a5i hm hr;clear hr;by_cases he:n6 (i5 L) 255=L
    ·rw [xd8 he] at hcs;have HEQ:=hid he;have HCS:=hid hcs;clear he hcs
     go_wp2_with (first|go_at_call 120;(with_reducible refine (HBD.out _ hbw).mono ?_);rintro e wc ⟨bd,rfl,hbc,hbd⟩;rw [hbd HR.out];clear hbd;have hbn:=bt hbw hbc;clear hbw hbc;have hbw:=hbn;clear hbn|(with_reducible refine n7 5 ?_);refine f7 rfl (some 5) rfl (bdC (fun _=>0)) 188 (by kernel_rfl) w.heap.size w hbw hbw.size ?_;intro g5 wn5 hL5 hB5 hbn hkn hnn;skip;clear hbw hkn hnn;have hbw:=hbn;clear hbn|(with_reducible refine l5 5 ?_);refine d5 rfl 188 (.tmp 5) (.tmp 48) rfl rfl g5 (bdC (i5 L)) (bdC (fun _=>0)) rfl rfl hL5 (by rw [Hszb.out,j5]) (by simp [j5]) (a0K _) w.heap.size w hbw hB5 ?_;intro wp5 hLn hbn hon;clear hL5 hbw hon;have hL5:=hLn;have hbw:=hbn;clear hLn hbn|(with_reducible refine n7 53 ?_);refine v9 rfl 188 (.tmp 5) rfl g5 (bdC (i5 L)) rfl hL5 _ Tryz.underlying188 rfl (by rw [Hszb.out,j5]) ?_|go_at_call 122;(with_reducible refine (HAO.out _).mono ?_);rintro e wa ⟨va,rfl,hsa,hba⟩;have hbn:=bt hbw hba;clear hbw hba;have hbw:=hbn;clear hbn)
     have HC:=a2F (a6i hsa) (HSL.out.grown hbw);rw [xh0 HEQ.out] at HC;have HC:=hid HC
     go_wp2_with (first|go_at_call 59;(with_reducible refine (HC.out).mono ?_);rintro e wz ⟨rfl,hbz⟩)
     go_ret
     exact ⟨m7 (by rw [HQ.out,HCS.out]),bt hbw hbz⟩
    ·rw [xd9 he] at hcs;have HEQ:=hid he;have HCS:=hid hcs;clear he hcs
     go_wp2_with (first|go_at_call 120;(with_reducible refine (HBD.out _ hbw).mono ?_);rintro e wc ⟨bd,rfl,hbc,hbd⟩;rw [hbd HR.out];clear hbd;have hbn:=bt hbw hbc;clear hbw hbc;have hbw:=hbn;clear hbn|(with_reducible refine n7 5 ?_);refine f7 rfl (some 5) rfl (bdC (fun _=>0)) 188 (by kernel_rfl) w.heap.size w hbw hbw.size ?_;intro g5 wn5 hL5 hB5 hbn hkn hnn;skip;clear hbw hkn hnn;have hbw:=hbn;clear hbn|(with_reducible refine l5 5 ?_);refine d5 rfl 188 (.tmp 5) (.tmp 48) rfl rfl g5 (bdC (i5 L)) (bdC (fun _=>0)) rfl rfl hL5 (by rw [Hszb.out,j5]) (by simp [j5]) (a0K _) w.heap.size w hbw hB5 ?_;intro wp5 hLn hbn hon;clear hL5 hbw hon;have hL5:=hLn;have hbw:=hbn;clear hLn hbn|(with_reducible refine n7 53 ?_);refine v9 rfl 188 (.tmp 5) rfl g5 (bdC (i5 L)) rfl hL5 _ Tryz.underlying188 rfl (by rw [Hszb.out,j5]) ?_|go_at_call 122;(with_reducible refine (HAO.out _).mono ?_);rintro e wa ⟨va,rfl,hsa,hba⟩;have hbn:=bt hbw hba;clear hbw hba;have hbw:=hbn;clear hbn)
     have HC:=a2F (a6i hsa) (HSL.out.grown hbw);rw [xg8 HEQ.out] at HC;have HC:=hid HC
     go_wp2_with (first|go_at_call 59;(with_reducible refine (HC.out).mono ?_);rintro e wz ⟨rfl,hbz⟩)
     go_ret
     exact ⟨m7 (by rw [HQ.out,HCS.out]),bt hbw hbz⟩
   ·rw [xg8 hr] at HBD;have HX:Hid (r=1):=hid (by rw [HQ.out,a5p hm hr]);clear hr
    go_wp2_with (first|go_at_call 120;(with_reducible refine (HBD.out _ hbw).mono ?_);rintro e wc ⟨bd,rfl,hbc,hbd⟩;clear hbd;have hbn:=bt hbw hbc;clear hbw hbc;have hbw:=hbn;clear hbn|(with_reducible refine n7 5 ?_);refine f7 rfl (some 5) rfl (bdC (fun _=>0)) 188 (by kernel_rfl) w.heap.size w hbw hbw.size ?_;intro g5 wn5 hL5 hB5 hbn hkn hnn;skip;clear hbw hkn hnn;have hbw:=hbn;clear hbn|(with_reducible refine l5 5 ?_);refine d5 rfl 188 (.tmp 5) (.tmp 48) rfl rfl g5 (bdC bd) (bdC (fun _=>0)) rfl rfl hL5 (by rw [Hszb.out,j5]) (by simp [j5]) (a0K _) w.heap.size w hbw hB5 ?_;intro wp5 hLn hbn hon;clear hL5 hbw hon;have hL5:=hLn;have hbw:=hbn;clear hLn hbn)
    go_ret
    exact ⟨m7 HX.out.symm,hbw⟩
theorem a3m {v:Value} {L:List Ar} {w:World} (h:SlAr w v L):Calls Tryz.prog 96 #[v] w (RB (.int .i64 (b5 L)) w):=by
 rcases h with ⟨p,c,rfl,rfl⟩|⟨b,off,cap,rfl,h2,h3,h4,h5⟩
 ·exact a3e p c w
 ·exact a2w b off cap h2 h3 h4 h5
theorem x5 {w:World} {v:Value} {L:List Ar} (h:Sl nF w 4 v (L.map arC)):SlAr w v L:=by
 rcases h with ⟨p,c,rfl,h⟩|⟨b,off,cap,rfl,h3,h4,hr⟩
 ·exact xc7 ⟨_,_,rfl,by simpa using h⟩
 ·rw [xh7] at h3 |-;refine xc4 ⟨b,off,cap,rfl,hr.lt,h3,h4,fun i a ha=>?_⟩;have hk:(L.map arC)[i]?=some (arC a):=by simp [ha]
  exact ⟨hr.cells i _ hk 0 _ rfl,hr.cells i _ hk 1 _ rfl,hr.cells i _ hk 2 _ rfl,hr.cells i _ hk 3 _ rfl⟩
theorem a24 {v:Value} {L:List Ar} {w:World} (h:Sl nF w 4 v (L.map arC)):Fn Tryz.prog 98 [v] w (RBf (.int .i64 (b5 L)) w) :=
 Fn.of_rb ⟨Tryz.func98,by kernel_rfl,by kernel_rfl⟩ (a1K (x5 h))
theorem a6S {M:List Ar} (hok:∀ (i:Nat) (a:Ar),M[i]?=some a->a.ok) (i:Nat):0<=l6 (M.take i)/\l6 (M.take i)<=255 * (i:Int):=by
 induction i with
 |zero=>simp [l6]
 |succ i ih=>
  cases ha:M[i]? with
  |none=>
   have:M.length<=i:=by simpa using ha
   rw [xa0 (by omega)] at ih |-;omega
  |some a=>
   rw [a1g ha];have:=hok i a ha;unfold Ar.ok at this;omega
theorem b1r (p:Option Addr) (c:Nat) (page:Int) (w:World):Calls Tryz.prog 163 #[.slice p 0 c,.int .i64 page,.func (.func 164) #[] #[]] w (a5v [] page w):=by
 go_enter Tryz.func163,Tryz.ntmps163
 go_wp2
 go_loopw [9,10] (fun vi vj wr=>vi=.int .i64 0/\vj=.int .i64 0/\wr=w) (fun _ _ _=>0)
 case atStart=>exact ⟨rfl,rfl,rfl⟩
 case round=>
  obtain ⟨rfl,rfl,rfl⟩:=hrel
  go_wp2
  go_ret2
  exact ⟨0,by simp,rfl,(by repeat ((with_reducible exact Below.refl _ _))),a5f [] page⟩
theorem b2P {v:Value} {L:List Ar} {w:World} (page:Int) (h:SlAr w v L):Calls Tryz.prog 163 #[v,.int .i64 page,.func (.func 164) #[] #[]] w (a5v L page w):=by
 rcases h with ⟨p,c,rfl,rfl⟩|⟨b,off,cap,rfl,h2,h3,h4,h5⟩
 ·exact b1r p c page w
 ·exact b2m b off cap page h2 h3 h4 h5
theorem a0x {page:Int} {a:Ar} (h:a.fin<=page\/page < a.pg):z9 page a=false:=by unfold z9;simp;omega
theorem a8d {L:List Ar} {page:Int} (hg:a1M L) (hI:a1q L page L.length L.length):k7 L page=none :=
 a1y fun j b hj hb=>a0x (xc7 ((hI hg).1 j b hj hb))
theorem a9a {L:List Ar} {page:Int} {i:Nat} {a:Ar} (hg:a1M L) (hI:a1q L page i i) (ha:L[i]?=some a) (h:page < a.pg):k7 L page=none :=
 a1y fun j b hj hb=>by
  rcases xj5 j i with h1|h1
  ·exact a0x (xc7 ((hI hg).1 j b h1 hb))
  ·rcases Nat.lt_or_eq_of_le h1 with h2|h2
   ·have:=a22 hg h2 ha hb;have hk:=w5 hg i a ha;unfold Ar.ok at hk;exact a0x (xc4 (by unfold Ar.fin at this;omega))
   ·subst h2;rw [ha] at hb;cases hb;exact a0x (xc4 h)
theorem a7V {L:List Ar} {page:Int} {i:Nat} {a:Ar} (hg:a1M L) (hI:a1q L page i i) (ha:L[i]?=some a) (h:a.pg<=page):k7 L page=some a :=
 a3d (fun j b hj hb=>a0x (xc7 ((hI hg).1 j b hj hb))) ha (by unfold z9;simp;exact ⟨h,(hI hg).2 i a (xc5 _) ha⟩)
def a2q (L:List Ar) (page:Int):Option Ar:=if b5 L=0 then k7 L page else none
theorem a71 {v:Value} {L:List Ar} {w:World} (page:Int) (h:SlAr w v L):Calls Tryz.prog 112 #[v,.int .i64 page] w (RB (a2M (a2q L page)) w):=by
 have HC:=hid (fun w' (hb:Below w.heap.size w w')=>a1K (h.grown hb));have HS:=hid (fun w' (hb:Below w.heap.size w w')=>b2P page (h.grown hb));have hsz:(Tryz.prog.info? 136).map (·.size)=some 4:=by kernel_rfl
 have Hsz:=hid hsz;clear hsz;have hbw:=Below.refl w.heap.size w
 go_enter Tryz.func112,Tryz.ntmps112
 go_wp2_with (first|(with_reducible refine n7 4 ?_);refine f7 rfl (some 4) rfl (zl4) 136 (by kernel_rfl) w.heap.size w hbw hbw.size ?_;intro g4 wn4 hL4 hB4 hbn hkn hnn;skip;clear hbw hkn hnn;have hbw:=hbn;clear hbn|go_at_call 163;(with_reducible refine (HS.out _ hbw).mono ?_);rintro e wc ⟨i,hi,rfl,hbc,hI⟩;have hL4:=hL4.grown hbc hL4.lt;have hbn:=bt hbw hbc;clear hbw hbc;have hbw:=hbn;clear hbn)
 by_cases hc:b5 L=0
 ·obtain ⟨_,hg⟩:=o3.1 hc;have HQ:Hid (a2q L page=k7 L page):=by refine hid ?_;unfold a2q;rw [xd8 hc]
  rw [hc] at HC;clear hc;by_cases hlt:i < L.length
  ·obtain ⟨a,ha⟩:∃ a,L[i]?=some a:=⟨L[i],by simp [hlt]⟩;rcases h with ⟨p,c,rfl,rfl⟩|⟨b,off,cap,rfl,hbl,hcap,hmax,j0⟩
   ·simp at hlt
   have HL:=hid j0;have hne:((i:Int) == L.length)=false:=by rw [xl3];omega
   have hli:(i:Int) < L.length:=Int.ofNat_lt.2 hlt;clear j0 hmax;by_cases hp:page < a.pg
   ·have HX:=hid (a9a hg hI ha hp);clear hI
    go_wp2_with (first|(go_at_call 98;(with_reducible refine (HC.out _ hbw).mono ?_);rintro e wk ⟨rfl,hbc⟩);have hL4:=hL4.grown hbc hL4.lt;have hbn:=bt hbw hbc;clear hbw hbc;have hbw:=hbn;clear hbn;obtain ⟨c0,c1,c2,c3⟩:=(HL.out i a ha).grown hbw hbl|(with_reducible refine l5 4 ?_);refine d5 rfl 136 (.tmp 4) (.tmp 32) rfl rfl g4 (zl4) (zl4) rfl rfl hL4 Hsz.out rfl rfl w.heap.size w hbw hB4 ?_;intro wp4 hLn hbn hon;skip;clear hL4 hbw hon;have hL4:=hLn;have hbw:=hbn;clear hLn hbn)
    refine bodyPost_ret (v:=.tuple #[.agg (zl4).toArray,.bool false]) (k6 rfl _ g4 (zl4) (.bool false) _ rfl rfl hL4 Tryz.underlying136 rfl Hsz.out) rfl ⟨by rw [HQ.out,HX.out];rfl,hbw⟩
   ·have HX:=hid (a7V hg hI ha (by omega));clear hI;have hp':decide (page < a.pg)=false:=by simpa using hp
    go_wp2_with (first|(go_at_call 98;(with_reducible refine (HC.out _ hbw).mono ?_);rintro e wk ⟨rfl,hbc⟩);have hL4:=hL4.grown hbc hL4.lt;have hbn:=bt hbw hbc;clear hbw hbc;have hbw:=hbn;clear hbn;obtain ⟨c0,c1,c2,c3⟩:=(HL.out i a ha).grown hbw hbl|(with_reducible refine l5 4 ?_);refine d5 rfl 136 (.tmp 4) (.tmp 36) rfl rfl g4 ([.int .i64 a.pg,.int .i64 a.n,.int .i64 a.prot,.bool a.z]) (zl4) rfl rfl hL4 Hsz.out rfl rfl w.heap.size w hbw hB4 ?_;intro wp4 hLn hbn hon;skip;clear hL4 hbw hon;have hL4:=hLn;have hbw:=hbn;clear hLn hbn)
    refine bodyPost_ret (v:=.tuple #[.agg ([.int .i64 a.pg,.int .i64 a.n,.int .i64 a.prot,.bool a.z]).toArray,.bool true]) (k6 rfl _ g4 ([.int .i64 a.pg,.int .i64 a.n,.int .i64 a.prot,.bool a.z]) (.bool true) _ rfl rfl hL4 Tryz.underlying136 rfl Hsz.out) rfl ⟨by rw [HQ.out,HX.out];rfl,hbw⟩
  ·obtain rfl:i=L.length:=by omega
   have HX:=hid (a8d hg hI);have hlen:∃ n:Nat,n=L.length:=⟨_,rfl⟩;clear hI;rcases h with ⟨p,c,rfl,rfl⟩|⟨b,off,cap,rfl,hbl,hcap,hmax,j0⟩
   ·go_wp2_with (first|(go_at_call 98;(with_reducible refine (HC.out _ hbw).mono ?_);rintro e wk ⟨rfl,hbc⟩);have hL4:=hL4.grown hbc hL4.lt;have hbn:=bt hbw hbc;clear hbw hbc;have hbw:=hbn;clear hbn;skip|(with_reducible refine l5 4 ?_);refine d5 rfl 136 (.tmp 4) (.tmp 32) rfl rfl g4 (zl4) (zl4) rfl rfl hL4 Hsz.out rfl rfl w.heap.size w hbw hB4 ?_;intro wp4 hLn hbn hon;skip;clear hL4 hbw hon;have hL4:=hLn;have hbw:=hbn;clear hLn hbn)
    refine bodyPost_ret (v:=.tuple #[.agg (zl4).toArray,.bool false]) (k6 rfl _ g4 (zl4) (.bool false) _ rfl rfl hL4 Tryz.underlying136 rfl Hsz.out) rfl ⟨by rw [HQ.out,HX.out];rfl,hbw⟩
   ·clear j0 hmax
    go_wp2_with (first|(go_at_call 98;(with_reducible refine (HC.out _ hbw).mono ?_);rintro e wk ⟨rfl,hbc⟩);have hL4:=hL4.grown hbc hL4.lt;have hbn:=bt hbw hbc;clear hbw hbc;have hbw:=hbn;clear hbn;skip|(with_reducible refine l5 4 ?_);refine d5 rfl 136 (.tmp 4) (.tmp 32) rfl rfl g4 (zl4) (zl4) rfl rfl hL4 Hsz.out rfl rfl w.heap.size w hbw hB4 ?_;intro wp4 hLn hbn hon;skip;clear hL4 hbw hon;have hL4:=hLn;have hbw:=hbn;clear hLn hbn)
    refine bodyPost_ret (v:=.tuple #[.agg (zl4).toArray,.bool false]) (k6 rfl _ g4 (zl4) (.bool false) _ rfl rfl hL4 Tryz.underlying136 rfl Hsz.out) rfl ⟨by rw [HQ.out,HX.out];rfl,hbw⟩
 ·have HQ:Hid (a2q L page=none):=by refine hid ?_;unfold a2q;rw [xd9 hc]
  have hn:(b5 L != 0)=true:=by rw [xl4];exact hc
  clear hc;generalize b5 L=ck at *
  go_wp2_with (first|(go_at_call 98;(with_reducible refine (HC.out _ hbw).mono ?_);rintro e wk ⟨rfl,hbc⟩);have hL4:=hL4.grown hbc hL4.lt;have hbn:=bt hbw hbc;clear hbw hbc;have hbw:=hbn;clear hbn;skip|(with_reducible refine l5 4 ?_);refine d5 rfl 136 (.tmp 4) (.tmp 32) rfl rfl g4 (zl4) (zl4) rfl rfl hL4 Hsz.out rfl rfl w.heap.size w hbw hB4 ?_;intro wp4 hLn hbn hon;skip;clear hL4 hbw hon;have hL4:=hLn;have hbw:=hbn;clear hLn hbn)
  refine bodyPost_ret (v:=.tuple #[.agg (zl4).toArray,.bool false]) (k6 rfl _ g4 (zl4) (.bool false) _ rfl rfl hL4 Tryz.underlying136 rfl Hsz.out) rfl ⟨by rw [HQ.out];rfl,hbw⟩
theorem a9I {va vb:Value} {A B:List Ar} {w:World} (ha:Sl nF w 4 va (A.map arC)) (hb:Sl nF w 4 vb (B.map arC)):Fn Tryz.prog 59 [va,vb] w (RBf (.bool (decide (A=B))) w) :=
 Fn.of_rb ⟨Tryz.func59,by kernel_rfl,by kernel_rfl⟩ (a2F (x5 ha) (x5 hb))
theorem a1t {v:Value} {L:List Ar} {w:World} (h:Sl nF w 4 v (L.map arC)):Fn Tryz.prog 96 [v] w (RBf (.int .i64 (b5 L)) w) :=
 Fn.of_rb ⟨Tryz.func96,by kernel_rfl,by kernel_rfl⟩ (a3m (x5 h))
theorem a27 {v:Value} {L:List Ar} {w:World} (h:Sl nF w 4 v (L.map arC)) (hc:b5 L=0):Fn Tryz.prog 50 [v] w (RBf (.int .i64 (l6 L)) w) :=
 Fn.of_rb ⟨Tryz.func50,by kernel_rfl,by kernel_rfl⟩ (a6r (x5 h) hc)
theorem a3V {v:Value} {L:List Ar} {w:World} (page:Int) (h:Sl nF w 4 v (L.map arC)) (hok:∀ (i:Nat) (a:Ar),L[i]?=some a->a.ok):Fn Tryz.prog 97 [v,.int .i64 page] w (RBf (a2M (k7 L page)) w) :=
 Fn.of_rb ⟨Tryz.func97,by kernel_rfl,by kernel_rfl⟩ (a5z page (x5 h) hok)
theorem a6E {v:Value} {L:List Ar} {w:World} (page:Int) (h:Sl nF w 4 v (L.map arC)):Fn Tryz.prog 112 [v,.int .i64 page] w (RBf (a2M (a2q L page)) w) :=
 Fn.of_rb ⟨Tryz.func112,by kernel_rfl,by kernel_rfl⟩ (a71 page (x5 h))
theorem a4L {v:Value} {L:List Ar} {w:World} (h:Sl nF w 4 v (L.map arC)):Fn Tryz.prog 43 [v] w (RBf (.int .i64 (if b5 L=0 then l6 L else 0)) w):=by
 by_cases hc:b5 L=0
 ·rw [xd8 hc];exact Fn.of_rb ⟨Tryz.func43,by kernel_rfl,by kernel_rfl⟩ (a52 (x5 h) hc)
 ·rw [xd9 hc];exact Fn.of_rb ⟨Tryz.func43,by kernel_rfl,by kernel_rfl⟩ (a7z (x5 h) hc)
theorem Sl.nil (w:World) (sz:Nat):Sl nF w sz (.slice none 0 0) []:=xc7 ⟨_,_,rfl,rfl⟩
theorem a9Z {L:List Ar} {p:Int} {a:Ar} (h:l0 1 L) (hf:k7 L p=some a):a.ok:=by
 unfold k7 at hf;obtain ⟨i,hi⟩:=xc9.1 (List.mem_of_find?_eq_some hf);exact b0N h i a hi
theorem a6q {L:List Ar} {p:Int} (h:b5 L=0):a2q L p=k7 L p:=xd8 h
structure Pc where
 r0:Int
 r1:Int
 r2:Int
 r3:Int
 r4:Int
 r5:Int
 r6:Int
 r7:Int
 pc:Int
 state:Int
 code:Int
 fk:Int
 fa:Int
deriving DecidableEq
structure Wd where
 proc:Int
 value:Int
deriving DecidableEq
structure Fp where
 page:Int
 data:List UInt8
deriving DecidableEq
structure Fs where
 live:Bool
 areas:List Ar
 pages:List Fp
def prC (p:Pc):List Value:=[.int .i64 p.r0,.int .i64 p.r1,.int .i64 p.r2,.int .i64 p.r3,.int .i64 p.r4,.int .i64 p.r5,.int .i64 p.r6,.int .i64 p.r7,.int .i64 p.pc,.int .i64 p.state,.int .i64 p.code,.int .i64 p.fk,.int .i64 p.fa]
def wdC (x:Wd):List Value:=[.int .i64 x.proc,.int .i64 x.value]
def fpC (x:Fp):List Value:=[.int .i64 x.page,.string ⟨x.data.toArray⟩]
def o5 (p:Pc) (live:Bool):Bool :=
 if p.state=1 then live && (decide (p.code=0) && decide ((p.fk,p.fa)=((0,0):Int×Int)))
 else if p.state=2 then !live && decide ((p.fk,p.fa)=((0,0):Int×Int))
 else if p.state=3 then !live && (decide (p.code=0) && (decide (1<=p.fk) && decide (p.fk<=4)))
 else false
def a0O (l:List Wd) (n:Int):Bool:=l.all fun x=>decide (0<=x.proc) && decide (x.proc < n)
def r8 (A:List Ar) (l:List Fp) (i:Nat):Bool:=match l[i]? with
 |some p=>(k7 A p.page).isSome && (decide (p.data.length=16) && (match i with
  |0=>true
  |j + 1=>match l[j]? with
   |some q=>decide (q.page < p.page)
   |none=>true))
 |none=>true
def y7 (A:List Ar) (l:List Fp) (n:Nat):Bool:=(List.range n).all (r8 A l)
def fsB (s:Fs):Bool :=
 if s.live then decide (b5 s.areas=0) && (decide ((s.pages.length:Int)=l6 s.areas) && y7 s.areas s.pages s.pages.length)
 else decide (s.areas=[]) && decide (s.pages=[])
structure FlV where
 slots:Int
 sp:List (Fs×Value×Value)
 pr:List Pc
 out:List Wd
 vsp:Value
 vpr:Value
 vout:Value
def fsC (x:Fs×Value×Value):List Value:=[.bool x.1.live,x.2.1,x.2.2]
def flC (f:FlV):List Value:=[.int .i64 f.slots,f.vsp,f.vpr,f.vout]
def y9 (f:FlV):Prop:=f.sp.length < 1\/4 < f.sp.length\/f.pr.length≠f.sp.length\/f.slots < 0\/512 < f.slots\/2000 < f.out.length
instance (f:FlV):Decidable (y9 f):=by unfold y9;infer_instance
def a7Z (f:FlV) (i:Nat):Bool:=match f.sp[i]?,f.pr[i]? with
 |some x,some p=>fsB x.1 && o5 p x.1.live
 |_,_=>false
def a0w (l:List (Fs×Value×Value)):Nat:=(l.map fun x=>x.1.pages.length).sum
def p8 (f:FlV):Int :=
 if y9 f then 2 else if (List.range f.sp.length).all (a7Z f) && (decide ((a0w f.sp:Int)<=f.slots) && a0O f.out (f.pr.length:Nat)) then 0 else 1
theorem d7 (x a b:Int) (w:World):Fn Tryz.prog 70 [.int .i64 x,.int .i64 a,.int .i64 b] w (RBf (.bool (decide (a<=x/\x<=b))) w):=by
 refine yEn Tryz.func70 Tryz.ntmps70 (by kernel_rfl) (by kernel_rfl) rfl rfl ?_;have hS:=St.start w
 repeat' (first|(with_reducible apply a5 a4);rfl;rfl;rfl|refine yDn (by with_reducible constructor) ?_|(with_reducible apply e9);(iterate 4 rfl);assumption|(with_reducible apply o4);(iterate 4 rfl);assumption;rfl|(with_reducible apply d9);rfl;assumption;rfl;rfl|(with_reducible apply a7);rfl;assumption;rfl;rfl|(with_reducible apply v8);rfl;rfl;rfl;all_goals (intro hb hp;try (exfalso;omega)))
 ·(refine d4 rfl ?_)
  exact ⟨by simp [hp],hS⟩
 ·(refine d4 rfl ?_)
  exact ⟨by simp;omega,hS⟩
theorem l9 {α:Type} {l:List α} {i:Nat} (h:(i:Int) < l.length):∃ x,l[i]?=some x:=⟨l[i]'(by omega),by simp⟩
def ftC (p:Int×Int):List Value:=[.int .i64 p.1,.int .i64 p.2]
theorem a8l (a b:Int×Int):a3o Tryz.prog 99 (ftC a) (ftC b) (decide (a=b)):=by
 refine ⟨fun w=>?_,by kernel_rfl⟩;obtain ⟨a1,a2⟩:=a;obtain ⟨b1,b2⟩:=b;unfold ftC;simp [go_sem]
 repeat' split
 all_goals simp_all
theorem b0n (p:Pc) (live:Bool) (w:World):Fn Tryz.prog 80 [.agg (prC p).toArray,.bool live] w (RBf (.bool (o5 p live)) w):=by
 obtain ⟨r0,r1,r2,r3,r4,r5,r6,r7,pc,state,code,fk,fa⟩:=p;unfold prC;dsimp only;by_cases hs:state=1
 ·have hd1:decide (state=1)=true:=xh0 hs
  cases live with
  |false=>
   refine yEn Tryz.func80 Tryz.ntmps80 (by kernel_rfl) (by kernel_rfl) rfl rfl ?_;have hS:=St.start w
   repeat' (first|(with_reducible apply a5 a4);rfl;rfl;rfl|(with_reducible apply a6);rfl;(apply Ld.sc a4;rfl;exact hS.blkC 0 rfl rfl);rfl|refine yDn (by with_reducible constructor) ?_|(with_reducible apply o4);(iterate 4 rfl);rfl;rfl|(with_reducible apply a7);rfl;rfl;rfl;rfl|(with_reducible apply a9);rfl;assumption|(with_reducible apply d8 hS);rfl;rfl;rfl;clear hS;intro g w' hS)
   (refine d4 rfl ?_)
   exact ⟨by unfold o5;simp [hs,hd1],hS.sub (xg7 _)⟩
  |true=>
   by_cases hc:code=0
   ·have hdc:decide (code=0)=true:=xh0 hc;refine yEn Tryz.func80 Tryz.ntmps80 (by kernel_rfl) (by kernel_rfl) rfl rfl ?_;have hS:=St.start w
    repeat' (first|(with_reducible apply a5 a4);rfl;rfl;rfl|(with_reducible apply a6);rfl;(apply Ld.sc a4;rfl;exact hS.blkC 0 rfl rfl);rfl|(with_reducible apply s6 a4);rfl;rfl;exact (rfl:_=some [_,_]);rfl|refine yDn (by with_reducible constructor) ?_|((with_reducible apply e9);(iterate 4 rfl);first|rfl|assumption)|(with_reducible apply d9);rfl;(first|rfl|assumption);rfl;rfl|(with_reducible apply a9);rfl;assumption|(with_reducible apply d8 hS);rfl;rfl;rfl;clear hS;intro g w' hS|(with_reducible apply a1d a4);rfl;rfl;rfl;refine ⟨_,hS.blkRk 0 11 2 rfl,rfl,?_⟩|(with_reducible apply a5k);rfl;rfl;exact a8l (fk,fa) (0,0);rfl)
    (refine d4 rfl ?_)
    exact ⟨by unfold o5;simp [hs,hc],hS.sub (xg7 _)⟩
   ·have hdc:decide (code=0)=false:=xg8 hc;refine yEn Tryz.func80 Tryz.ntmps80 (by kernel_rfl) (by kernel_rfl) rfl rfl ?_;have hS:=St.start w
    repeat' (first|(with_reducible apply a5 a4);rfl;rfl;rfl|(with_reducible apply a6);rfl;(apply Ld.sc a4;rfl;exact hS.blkC 0 rfl rfl);rfl|refine yDn (by with_reducible constructor) ?_|(with_reducible apply e9);(iterate 4 rfl);rfl|(with_reducible apply o4);(iterate 4 rfl);assumption;rfl|(with_reducible apply d9);rfl;rfl;rfl;rfl|(with_reducible apply a7);rfl;assumption;rfl;rfl|(with_reducible apply a9);rfl;assumption|(with_reducible apply d8 hS);rfl;rfl;rfl;clear hS;intro g w' hS)
    (refine d4 rfl ?_)
    exact ⟨by unfold o5;simp [hs,hc],hS.sub (xg7 _)⟩
 have hd1:decide (state=1)=false:=xg8 hs;by_cases hs2:state=2
 ·have hd2:decide (state=2)=true:=xh0 hs2
  cases live with
  |false=>
   refine yEn Tryz.func80 Tryz.ntmps80 (by kernel_rfl) (by kernel_rfl) rfl rfl ?_;have hS:=St.start w
   repeat' (first|(with_reducible apply a5 a4);rfl;rfl;rfl|(with_reducible apply a6);rfl;(apply Ld.sc a4;rfl;exact hS.blkC 0 rfl rfl);rfl|(with_reducible apply s6 a4);rfl;rfl;exact (rfl:_=some [_,_]);rfl|refine yDn (by with_reducible constructor) ?_|(with_reducible apply e9);(iterate 4 rfl);rfl|(with_reducible apply d9);rfl;rfl;rfl;rfl|(with_reducible apply a9);rfl;assumption|(with_reducible apply f8);rfl;assumption|(with_reducible apply d8 hS);rfl;rfl;rfl;clear hS;intro g w' hS|(with_reducible apply a1d a4);rfl;rfl;rfl;refine ⟨_,hS.blkRk 0 11 2 rfl,rfl,?_⟩|(with_reducible apply a5k);rfl;rfl;exact a8l (fk,fa) (0,0);rfl)
   (refine d4 rfl ?_)
   exact ⟨by unfold o5;simp [hs,hs2],hS.sub (xg7 _)⟩
  |true=>
   refine yEn Tryz.func80 Tryz.ntmps80 (by kernel_rfl) (by kernel_rfl) rfl rfl ?_;have hS:=St.start w
   repeat' (first|(with_reducible apply a5 a4);rfl;rfl;rfl|(with_reducible apply a6);rfl;(apply Ld.sc a4;rfl;exact hS.blkC 0 rfl rfl);rfl|refine yDn (by with_reducible constructor) ?_|(with_reducible apply o4);(iterate 4 rfl);rfl;rfl|(with_reducible apply a7);rfl;rfl;rfl;rfl|(with_reducible apply a9);rfl;assumption|(with_reducible apply f8);rfl;assumption|(with_reducible apply d8 hS);rfl;rfl;rfl;clear hS;intro g w' hS)
   (refine d4 rfl ?_)
   exact ⟨by unfold o5;simp [hs,hs2],hS.sub (xg7 _)⟩
 have hd2:decide (state=2)=false:=xg8 hs2;by_cases hs3:state=3;rotate_left
 ·have hd3:decide (state=3)=false:=xg8 hs3;refine yEn Tryz.func80 Tryz.ntmps80 (by kernel_rfl) (by kernel_rfl) rfl rfl ?_;have hS:=St.start w
  repeat' (first|(with_reducible apply a5 a4);rfl;rfl;rfl|(with_reducible apply a6);rfl;(apply Ld.sc a4;rfl;exact hS.blkC 0 rfl rfl);rfl|refine yDn (by with_reducible constructor) ?_|(with_reducible apply f8);rfl;assumption|(with_reducible apply d8 hS);rfl;rfl;rfl;clear hS;intro g w' hS)
  (refine d4 rfl ?_)
  exact ⟨by unfold o5;simp [hs,hs2,hs3],hS.sub (xg7 _)⟩
 have hd3:decide (state=3)=true:=xh0 hs3
 cases live with
 |true=>
  refine yEn Tryz.func80 Tryz.ntmps80 (by kernel_rfl) (by kernel_rfl) rfl rfl ?_;have hS:=St.start w
  repeat' (first|(with_reducible apply a5 a4);rfl;rfl;rfl|(with_reducible apply a6);rfl;(apply Ld.sc a4;rfl;exact hS.blkC 0 rfl rfl);rfl|refine yDn (by with_reducible constructor) ?_|(with_reducible apply o4);(iterate 4 rfl);rfl;rfl|(with_reducible apply a7);rfl;rfl;rfl;rfl|(with_reducible apply a9);rfl;assumption|(with_reducible apply f8);rfl;assumption|(with_reducible apply d8 hS);rfl;rfl;rfl;clear hS;intro g w' hS)
  (refine d4 rfl ?_)
  exact ⟨by unfold o5;simp [hs,hs3],hS.sub (xg7 _)⟩
 |false=>
  by_cases hc:code=0;rotate_left
  ·have hdc:decide (code=0)=false:=xg8 hc;refine yEn Tryz.func80 Tryz.ntmps80 (by kernel_rfl) (by kernel_rfl) rfl rfl ?_;have hS:=St.start w
   repeat' (first|(with_reducible apply a5 a4);rfl;rfl;rfl|(with_reducible apply a6);rfl;(apply Ld.sc a4;rfl;exact hS.blkC 0 rfl rfl);rfl|refine yDn (by with_reducible constructor) ?_|(with_reducible apply e9);(iterate 4 rfl);rfl|(with_reducible apply o4);(iterate 4 rfl);(first|rfl|assumption);rfl|(with_reducible apply d9);rfl;rfl;rfl;rfl|(with_reducible apply a7);rfl;(first|rfl|assumption);rfl;rfl|(with_reducible apply a9);rfl;assumption|(with_reducible apply f8);rfl;assumption|(with_reducible apply d8 hS);rfl;rfl;rfl;clear hS;intro g w' hS)
   (refine d4 rfl ?_)
   exact ⟨by unfold o5;simp [hs,hs3,hc],hS.sub (xg7 _)⟩
  have hdc:decide (code=0)=true:=xh0 hc;by_cases hk:1<=fk
  ·have hdk:decide (1<=fk)=true:=xh0 hk;refine yEn Tryz.func80 Tryz.ntmps80 (by kernel_rfl) (by kernel_rfl) rfl rfl ?_;have hS:=St.start w
   repeat' (first|(with_reducible apply a5 a4);rfl;rfl;rfl|(with_reducible apply a6);rfl;(apply Ld.sc a4;rfl;exact hS.blkC 0 rfl rfl);rfl|refine yDn (by with_reducible constructor) ?_|((with_reducible apply e9);(iterate 4 rfl);first|rfl|assumption)|(with_reducible apply d9);rfl;(first|rfl|assumption);rfl;rfl|(with_reducible apply a9);rfl;assumption|(with_reducible apply f8);rfl;assumption|(with_reducible apply d8 hS);rfl;rfl;rfl;clear hS;intro g w' hS)
   (refine d4 rfl ?_)
   exact ⟨by unfold o5;simp [hs,hs3,hc,hk],hS.sub (xg7 _)⟩
  ·have hdk:decide (1<=fk)=false:=xg8 hk;refine yEn Tryz.func80 Tryz.ntmps80 (by kernel_rfl) (by kernel_rfl) rfl rfl ?_;have hS:=St.start w
   repeat' (first|(with_reducible apply a5 a4);rfl;rfl;rfl|(with_reducible apply a6);rfl;(apply Ld.sc a4;rfl;exact hS.blkC 0 rfl rfl);rfl|refine yDn (by with_reducible constructor) ?_|((with_reducible apply e9);(iterate 4 rfl);first|rfl|assumption)|(with_reducible apply o4);(iterate 4 rfl);assumption;rfl|(with_reducible apply d9);rfl;(first|rfl|assumption);rfl;rfl|(with_reducible apply a7);rfl;assumption;rfl;rfl|(with_reducible apply a9);rfl;assumption|(with_reducible apply f8);rfl;assumption|(with_reducible apply d8 hS);rfl;rfl;rfl;clear hS;intro g w' hS)
   (refine d4 rfl ?_)
   exact ⟨by unfold o5;simp [hs,hs3,hc,hk],hS.sub (xg7 _)⟩
theorem a5b (p:Pc) (live:Bool) (w:World):Fn Tryz.prog 83 [.agg (prC p).toArray,.bool live] w (RBf (.bool (o5 p live)) w):=by
 obtain ⟨r0,r1,r2,r3,r4,r5,r6,r7,pc,state,code,fk,fa⟩:=p;unfold prC;dsimp only;have hin:1<=state/\state<=3 ↔ state=1\/state=2\/state=3:=by omega
 by_cases hw:1<=state/\state<=3;rotate_left
 ·have hdw:decide (1<=state/\state<=3)=false:=xg8 hw;have hs:¬state=1:=by omega
  have hs2:¬state=2:=by omega
  have hs3:¬state=3:=by omega
  refine yEn Tryz.func83 Tryz.ntmps83 (by kernel_rfl) (by kernel_rfl) rfl rfl ?_;have hS:=St.start w
  repeat' (first|(with_reducible apply a5 a4);rfl;rfl;rfl|(with_reducible apply a6);rfl;(apply Ld.sc a4;rfl;exact hS.blkC 0 rfl rfl);rfl|refine yDn (by with_reducible constructor) ?_|(with_reducible apply o4);(iterate 4 rfl);(first|rfl|assumption);rfl|(with_reducible apply b0a);(iterate 5 rfl)|(with_reducible apply d9);rfl;(first|rfl|assumption);rfl;rfl|(with_reducible apply a9);rfl;rfl|(with_reducible apply d8 hS);rfl;rfl;rfl;clear hS;intro g w' hS|(with_reducible apply r9);rfl;rfl;rfl;all_goals (intro hb hp;try (exfalso;omega))|(with_reducible apply b4 hS);rfl;rfl;rfl;refine ⟨_,d7 _ _ _ _,?_⟩;clear hS;intro w' hS)
  (refine d4 rfl ?_)
  exact ⟨by unfold o5;simp [hs,hs2,hs3],hS.sub (xg7 _)⟩
 have hdw:decide (1<=state/\state<=3)=true:=xh0 hw;by_cases hs:state=1
 ·have hd1:decide (state=1)=true:=xh0 hs;have hd2:decide (state=2)=false:=xg8 (by omega);have hd3:decide (state=3)=false:=xg8 (by omega);have hbt:(!decide (true=decide (state=1)))=false:=by rw [hd1];rfl
  have hbf:(!decide (false=decide (state=1)))=true:=by rw [hd1];rfl
  by_cases hc:code=0
  ·have hdc:decide (code=0)=true:=xh0 hc
   cases live with
   |false=>
    refine yEn Tryz.func83 Tryz.ntmps83 (by kernel_rfl) (by kernel_rfl) rfl rfl ?_;have hS:=St.start w
    repeat' (first|(with_reducible apply a5 a4);rfl;rfl;rfl|(with_reducible apply a6);rfl;(apply Ld.sc a4;rfl;exact hS.blkC 0 rfl rfl);rfl|(with_reducible apply a1v a4);(iterate 4 rfl)|refine yDn (by with_reducible constructor) ?_|((with_reducible apply e9);(iterate 4 rfl);first|rfl|assumption)|(with_reducible apply o4);(iterate 4 rfl);assumption;rfl|(with_reducible apply a7);rfl;(first|rfl|assumption);rfl;rfl|(with_reducible apply a9);rfl;assumption|(with_reducible apply d8 hS);rfl;rfl;rfl;clear hS;intro g w' hS|(with_reducible apply r9);rfl;rfl;rfl;all_goals (intro hb hp;try (exfalso;omega))|(with_reducible apply b4 hS);rfl;rfl;rfl;refine ⟨_,d7 _ _ _ _,?_⟩;clear hS;intro w' hS)
    (refine d4 rfl ?_)
    exact ⟨by unfold o5;simp [hs,hc],hS.sub (xg7 _)⟩
   |true=>
    refine yEn Tryz.func83 Tryz.ntmps83 (by kernel_rfl) (by kernel_rfl) rfl rfl ?_;have hS:=St.start w
    repeat' (first|(with_reducible apply a5 a4);rfl;rfl;rfl|(with_reducible apply a6);rfl;(apply Ld.sc a4;rfl;exact hS.blkC 0 rfl rfl);rfl|(with_reducible apply a1v a4);(iterate 4 rfl)|(with_reducible apply s6 a4);rfl;rfl;exact (rfl:_=some [_,_]);rfl|refine yDn (by with_reducible constructor) ?_|((with_reducible apply e9);(iterate 4 rfl);first|rfl|assumption)|(with_reducible apply o4);(iterate 4 rfl);assumption;rfl|(with_reducible apply a7);rfl;(first|rfl|assumption);rfl;rfl|(with_reducible apply f8);rfl;assumption|(with_reducible apply d8 hS);rfl;rfl;rfl;clear hS;intro g w' hS|(with_reducible apply r9);rfl;rfl;rfl;all_goals (intro hb hp;try (exfalso;omega))|(with_reducible apply b4 hS);rfl;rfl;rfl;refine ⟨_,d7 _ _ _ _,?_⟩;clear hS;intro w' hS|(with_reducible apply a1d a4);rfl;rfl;rfl;refine ⟨_,hS.blkRk 0 11 2 rfl,rfl,?_⟩|(with_reducible apply a5k);rfl;rfl;exact a8l (fk,fa) (0,0);rfl)
    (refine d4 rfl ?_)
    exact ⟨by unfold o5;simp [hs,hc],hS.sub (xg7 _)⟩
  ·have hdc:decide (code=0)=false:=xg8 hc;refine yEn Tryz.func83 Tryz.ntmps83 (by kernel_rfl) (by kernel_rfl) rfl rfl ?_;have hS:=St.start w
   repeat' (first|(with_reducible apply a5 a4);rfl;rfl;rfl|(with_reducible apply a6);rfl;(apply Ld.sc a4;rfl;exact hS.blkC 0 rfl rfl);rfl|refine yDn (by with_reducible constructor) ?_|(with_reducible apply e9);(iterate 4 rfl);assumption|(with_reducible apply o4);(iterate 4 rfl);assumption;rfl|(with_reducible apply d9);rfl;assumption;rfl;rfl|(with_reducible apply a7);rfl;assumption;rfl;rfl|(with_reducible apply a9);rfl;rfl|(with_reducible apply d8 hS);rfl;rfl;rfl;clear hS;intro g w' hS|(with_reducible apply r9);rfl;rfl;rfl;all_goals (intro hb hp;try (exfalso;omega))|(with_reducible apply b4 hS);rfl;rfl;rfl;refine ⟨_,d7 _ _ _ _,?_⟩;clear hS;intro w' hS)
   (refine d4 rfl ?_)
   exact ⟨by unfold o5;simp [hs,hc],hS.sub (xg7 _)⟩
 have hd1:decide (state=1)=false:=xg8 hs;have hbt:(!decide (true=decide (state=1)))=true:=by rw [hd1];rfl
 have hbf:(!decide (false=decide (state=1)))=false:=by rw [hd1];rfl
 by_cases hs2:state=2
 ·have hd2:decide (state=2)=true:=xh0 hs2;have hd3:decide (state=3)=false:=xg8 (by omega);by_cases hc:code=0
  ·have hdc:decide (code=0)=true:=xh0 hc
   cases live with
   |false=>
    refine yEn Tryz.func83 Tryz.ntmps83 (by kernel_rfl) (by kernel_rfl) rfl rfl ?_;have hS:=St.start w
    repeat' (first|(with_reducible apply a5 a4);rfl;rfl;rfl|(with_reducible apply a6);rfl;(apply Ld.sc a4;rfl;exact hS.blkC 0 rfl rfl);rfl|(with_reducible apply a1v a4);(iterate 4 rfl)|(with_reducible apply s6 a4);rfl;rfl;exact (rfl:_=some [_,_]);rfl|refine yDn (by with_reducible constructor) ?_|((with_reducible apply e9);(iterate 4 rfl);first|rfl|assumption)|(with_reducible apply o4);(iterate 4 rfl);assumption;rfl|(with_reducible apply a7);rfl;(first|rfl|assumption);rfl;rfl|(with_reducible apply f8);rfl;assumption|(with_reducible apply d8 hS);rfl;rfl;rfl;clear hS;intro g w' hS|(with_reducible apply r9);rfl;rfl;rfl;all_goals (intro hb hp;try (exfalso;omega))|(with_reducible apply b4 hS);rfl;rfl;rfl;refine ⟨_,d7 _ _ _ _,?_⟩;clear hS;intro w' hS|(with_reducible apply a1d a4);rfl;rfl;rfl;refine ⟨_,hS.blkRk 0 11 2 rfl,rfl,?_⟩|(with_reducible apply a5k);rfl;rfl;exact a8l (fk,fa) (0,0);rfl)
    (refine d4 rfl ?_)
    exact ⟨by unfold o5;simp [hs,hs2],hS.sub (xg7 _)⟩
   |true=>
    refine yEn Tryz.func83 Tryz.ntmps83 (by kernel_rfl) (by kernel_rfl) rfl rfl ?_;have hS:=St.start w
    repeat' (first|(with_reducible apply a5 a4);rfl;rfl;rfl|(with_reducible apply a6);rfl;(apply Ld.sc a4;rfl;exact hS.blkC 0 rfl rfl);rfl|(with_reducible apply a1v a4);(iterate 4 rfl)|refine yDn (by with_reducible constructor) ?_|((with_reducible apply e9);(iterate 4 rfl);first|rfl|assumption)|(with_reducible apply o4);(iterate 4 rfl);assumption;rfl|(with_reducible apply a7);rfl;(first|rfl|assumption);rfl;rfl|(with_reducible apply a9);rfl;assumption|(with_reducible apply d8 hS);rfl;rfl;rfl;clear hS;intro g w' hS|(with_reducible apply r9);rfl;rfl;rfl;all_goals (intro hb hp;try (exfalso;omega))|(with_reducible apply b4 hS);rfl;rfl;rfl;refine ⟨_,d7 _ _ _ _,?_⟩;clear hS;intro w' hS)
    (refine d4 rfl ?_)
    exact ⟨by unfold o5;simp [hs,hs2],hS.sub (xg7 _)⟩
  ·have hdc:decide (code=0)=false:=xg8 hc
   cases live with
   |false=>
    refine yEn Tryz.func83 Tryz.ntmps83 (by kernel_rfl) (by kernel_rfl) rfl rfl ?_;have hS:=St.start w
    repeat' (first|(with_reducible apply a5 a4);rfl;rfl;rfl|(with_reducible apply a6);rfl;(apply Ld.sc a4;rfl;exact hS.blkC 0 rfl rfl);rfl|(with_reducible apply a1v a4);(iterate 4 rfl)|(with_reducible apply s6 a4);rfl;rfl;exact (rfl:_=some [_,_]);rfl|refine yDn (by with_reducible constructor) ?_|(with_reducible apply e9);(iterate 4 rfl);assumption|(with_reducible apply d9);rfl;assumption;rfl;rfl|(with_reducible apply a7);rfl;assumption;rfl;rfl|(with_reducible apply f8);rfl;assumption|(with_reducible apply d8 hS);rfl;rfl;rfl;clear hS;intro g w' hS|(with_reducible apply r9);rfl;rfl;rfl;all_goals (intro hb hp;try (exfalso;omega))|(with_reducible apply b4 hS);rfl;rfl;rfl;refine ⟨_,d7 _ _ _ _,?_⟩;clear hS;intro w' hS|(with_reducible apply a1d a4);rfl;rfl;rfl;refine ⟨_,hS.blkRk 0 11 2 rfl,rfl,?_⟩|(with_reducible apply a5k);rfl;rfl;exact a8l (fk,fa) (0,0);rfl)
    (refine d4 rfl ?_)
    exact ⟨by unfold o5;simp [hs,hs2],hS.sub (xg7 _)⟩
   |true=>
    refine yEn Tryz.func83 Tryz.ntmps83 (by kernel_rfl) (by kernel_rfl) rfl rfl ?_;have hS:=St.start w
    repeat' (first|(with_reducible apply a5 a4);rfl;rfl;rfl|(with_reducible apply a6);rfl;(apply Ld.sc a4;rfl;exact hS.blkC 0 rfl rfl);rfl|(with_reducible apply a1v a4);(iterate 4 rfl)|refine yDn (by with_reducible constructor) ?_|(with_reducible apply e9);(iterate 4 rfl);assumption|(with_reducible apply d9);rfl;assumption;rfl;rfl|(with_reducible apply a7);rfl;assumption;rfl;rfl|(with_reducible apply a9);rfl;assumption|(with_reducible apply d8 hS);rfl;rfl;rfl;clear hS;intro g w' hS|(with_reducible apply r9);rfl;rfl;rfl;all_goals (intro hb hp;try (exfalso;omega))|(with_reducible apply b4 hS);rfl;rfl;rfl;refine ⟨_,d7 _ _ _ _,?_⟩;clear hS;intro w' hS)
    (refine d4 rfl ?_)
    exact ⟨by unfold o5;simp [hs,hs2],hS.sub (xg7 _)⟩
 have hd2:decide (state=2)=false:=xg8 hs2;have hs3:state=3:=by omega
 have hd3:decide (state=3)=true:=xh0 hs3;by_cases hc:code=0
 ·have hdc:decide (code=0)=true:=xh0 hc
  cases live with
  |false=>
   refine yEn Tryz.func83 Tryz.ntmps83 (by kernel_rfl) (by kernel_rfl) rfl rfl ?_;have hS:=St.start w
   repeat' (first|(with_reducible apply a5 a4);rfl;rfl;rfl|(with_reducible apply a6);rfl;(apply Ld.sc a4;rfl;exact hS.blkC 0 rfl rfl);rfl|(with_reducible apply a1v a4);(iterate 4 rfl)|refine yDn (by with_reducible constructor) ?_|((with_reducible apply e9);(iterate 4 rfl);first|rfl|assumption)|(with_reducible apply o4);(iterate 4 rfl);assumption;rfl|(with_reducible apply a7);rfl;(first|rfl|assumption);rfl;rfl|(with_reducible apply a9);rfl;assumption|(with_reducible apply f8);rfl;assumption|(with_reducible apply d8 hS);rfl;rfl;rfl;clear hS;intro g w' hS|(with_reducible apply r9);rfl;rfl;rfl;all_goals (intro hb hp;try (exfalso;omega))|(with_reducible apply b4 hS);rfl;rfl;rfl;refine ⟨_,d7 _ _ _ _,?_⟩;clear hS;intro w' hS)
   (refine d4 rfl ?_)
   exact ⟨by unfold o5;simp [hs,hs3,hc],hS.sub (xg7 _)⟩
  |true=>
   refine yEn Tryz.func83 Tryz.ntmps83 (by kernel_rfl) (by kernel_rfl) rfl rfl ?_;have hS:=St.start w
   repeat' (first|(with_reducible apply a5 a4);rfl;rfl;rfl|(with_reducible apply a6);rfl;(apply Ld.sc a4;rfl;exact hS.blkC 0 rfl rfl);rfl|(with_reducible apply a1v a4);(iterate 4 rfl)|refine yDn (by with_reducible constructor) ?_|((with_reducible apply e9);(iterate 4 rfl);first|rfl|assumption)|(with_reducible apply o4);(iterate 4 rfl);assumption;rfl|(with_reducible apply a7);rfl;(first|rfl|assumption);rfl;rfl|(with_reducible apply a9);rfl;assumption|(with_reducible apply d8 hS);rfl;rfl;rfl;clear hS;intro g w' hS|(with_reducible apply r9);rfl;rfl;rfl;all_goals (intro hb hp;try (exfalso;omega))|(with_reducible apply b4 hS);rfl;rfl;rfl;refine ⟨_,d7 _ _ _ _,?_⟩;clear hS;intro w' hS)
   (refine d4 rfl ?_)
   exact ⟨by unfold o5;simp [hs,hs3,hc],hS.sub (xg7 _)⟩
 ·have hdc:decide (code=0)=false:=xg8 hc;refine yEn Tryz.func83 Tryz.ntmps83 (by kernel_rfl) (by kernel_rfl) rfl rfl ?_;have hS:=St.start w
  repeat' (first|(with_reducible apply a5 a4);rfl;rfl;rfl|(with_reducible apply a6);rfl;(apply Ld.sc a4;rfl;exact hS.blkC 0 rfl rfl);rfl|refine yDn (by with_reducible constructor) ?_|(with_reducible apply e9);(iterate 4 rfl);assumption|(with_reducible apply o4);(iterate 4 rfl);assumption;rfl|(with_reducible apply d9);rfl;assumption;rfl;rfl|(with_reducible apply a7);rfl;assumption;rfl;rfl|(with_reducible apply a9);rfl;rfl|(with_reducible apply d8 hS);rfl;rfl;rfl;clear hS;intro g w' hS|(with_reducible apply r9);rfl;rfl;rfl;all_goals (intro hb hp;try (exfalso;omega))|(with_reducible apply b4 hS);rfl;rfl;rfl;refine ⟨_,d7 _ _ _ _,?_⟩;clear hS;intro w' hS)
  (refine d4 rfl ?_)
  exact ⟨by unfold o5;simp [hs,hs3,hc],hS.sub (xg7 _)⟩
def a02 (A:List Ar) (p:Int):Bool:=match k7 A p with
 |some a=>!a.z
 |none=>false
def a3p (A:List Ar):Int->List Sh->Bool
 |_,[]=>true
 |last,s::r=>a02 A s.page && (j8 s && (decide (last < s.page) && a3p A s.page r))
def a0i:Int->List Sh->Bool
 |_,[]=>true
 |last,s::r=>j8 s && (decide (last < s.page) && a0i s.page r)
def arB (A:List Ar) (l:List Sh):Bool:=l.all fun s=>a02 A s.page
theorem a4B (A:List Ar):∀ (l:List Sh) (last:Int),a3p A last l=(a0i last l && arB A l):=by
 intro l
 induction l with
 |nil=>intro last;rfl
 |cons s r ih=>
  intro last;simp only [a3p,a0i,arB,xg4,ih]
  cases a02 A s.page <;> cases j8 s <;> cases decide (last < s.page) <;> cases a0i s.page r <;> rfl
def a0z (A:List Ar) (en:Int):Bool:=decide (0<=en/\en.tmod 8=0) && (match k7 A (en.tdiv 16) with
 |some a=>decide (2<=a.prot)
 |none=>false)
def lkB (A:List Ar) (L:List Sh) (en:Int):Bool:=decide ((L.length:Int)=l6 A) && (a3p A 0 L && a0z A en)
def l7 (A:List Ar) (L:List Sh) (en:Int):Int:=if b5 A=0 then (if lkB A L en=true then 0 else 1) else b5 A
structure ShsV (w:World) (Lp:List (Sh×Value)) (vs:Value):Prop where
 sl:Sl nF w 3 vs (Lp.map fun p=>shC p.1 p.2)
 fx:∀ p ∈ Lp,ShV w p.1 p.2
theorem ShsV.now {w w':World} {Γ:List Asr} {Lp:List (Sh×Value)} {vs:Value} (h:ShsV w Lp vs) (hS:St nF w w' Γ):ShsV w' Lp vs:=⟨h.sl.now hS,fun p hp=>(h.fx p hp).now hS⟩
def shs (Lp:List (Sh×Value)):List Sh:=Lp.map (·.1)
theorem a0f (Lp:List (Sh×Value)):(shs Lp).length=Lp.length:=by unfold shs;simp
theorem a1I {Lp:List (Sh×Value)} {i:Nat} {p:Sh×Value} (h:Lp[i]?=some p):(shs Lp)[i]?=some p.1:=by unfold shs;rw [xg0,h];rfl
theorem a7H {A:List Ar} {l:List Sh} {i:Nat} {s:Sh} {last:Int} (h:l[i]?=some s):a3p A last (l.drop i)=(a02 A s.page && (j8 s && (decide (last < s.page) && a3p A s.page (l.drop (i + 1))))):=by
 rw [a4z h];rfl
theorem a3g {A:List Ar} (hc:b5 A=0) {p:Int} {a:Ar} (h:k7 A p=some a):a.ok/\1<=p:=by
 have hg:=(o3.1 hc).2;have hok:=a9Z hg.1 h;have:=List.find?_some h;unfold z9 at this;rw [xh4] at this;unfold Ar.ok at hok;exact ⟨hok,by omega⟩
def lkA (va vs:Value) (en:Int):Value:=.agg [va,vs,.int .i64 en].toArray
structure Fm where
 data:List UInt8
 refs:Int
 dirty:Bool
 seen:Bool
 deriving DecidableEq
structure Sw where
 data:List UInt8
 refs:Int
 deriving DecidableEq
structure En where
 page:Int
 kind:Int
 at_:Int
 deriving DecidableEq
structure Sc where
 live:Bool
 areas:List Ar
 entries:List En
 deriving DecidableEq
structure Ker where
 sheets:List Sh
 frames:List Fm
 slots:List Sw
 spaces:List Sc
 hand:Int
def fm0:Fm:=⟨[],0,false,false⟩
def sw0:Sw:=⟨[],0⟩
def fmC (f:Fm):List Value:=[.string ⟨f.data.toArray⟩,.int .i64 f.refs,.bool f.dirty,.bool f.seen]
def swC (s:Sw):List Value:=[.string ⟨s.data.toArray⟩,.int .i64 s.refs]
def enC (e:En):List Value:=[.int .i64 e.page,.int .i64 e.kind,.int .i64 e.at_]
structure Sp where
 s:Sc
 va:Value
 ve:Value
def spC (p:Sp):List Value:=[.bool p.s.live,p.va,p.ve]
structure KV where
 sh:List (Sh×Value)
 fr:List Fm
 sl:List Sw
 sp:List Sp
 hand:Int
 vsh:Value
 vfr:Value
 vsl:Value
 vsp:Value
def KV.K (k:KV):Ker:=⟨shs k.sh,k.fr,k.sl,k.sp.map (·.s),k.hand⟩
structure SpV (w:World) (p:Sp):Prop where
 ar:Sl nF w 4 p.va (p.s.areas.map arC)
 en:Sl nF w 3 p.ve (p.s.entries.map enC)
structure KerV (w:World) (k:KV):Prop where
 sh:ShsV w k.sh k.vsh
 fr:Sl nF w 4 k.vfr (k.fr.map fmC)
 sl:Sl nF w 2 k.vsl (k.sl.map swC)
 sp:Sl nF w 3 k.vsp (k.sp.map spC)
 spv:∀ p ∈ k.sp,SpV w p
theorem SpV.now {w w':World} {Γ:List Asr} {p:Sp} (h:SpV w p) (hS:St nF w w' Γ):SpV w' p:=⟨h.ar.now hS,h.en.now hS⟩
theorem KerV.now {w w':World} {Γ:List Asr} {k:KV} (h:KerV w k) (hS:St nF w w' Γ):KerV w' k:=⟨h.sh.now hS,h.fr.now hS,h.sl.now hS,h.sp.now hS,fun p hp=>(h.spv p hp).now hS⟩
def b3G (l:List Sh) (p:Int):Option Sh:=l.find? fun s=>decide (s.page=p)
def a6K (l:List Sh) (z:Bool) (p:Int):Option (List UInt8):=if z then some (List.replicate 16 0) else (b3G l p).map a5s
abbrev Nm:=En×Ar
def b1P (s:Sc) (e:En):Nm:=(e,(k7 s.areas e.page).getD a18)
def a0V (l:List Sc) (kind at_:Int):List Nm:=l.flatMap fun s=>(s.entries.filter fun e=>decide (e.kind=kind/\e.at_=at_)).map (b1P s)
def a7O (l:List Nm):Bool:=match l with
 |[]=>true
 |n::r=>r.all fun m=>decide (m.1.page=n.1.page/\m.2.z=n.2.z)
def a7Y (A:List Ar) (nf ns:Int) (last:Int) (e:En):Bool:=(k7 A e.page).isSome && decide (last < e.page/\((e.kind=1/\0<=e.at_/\e.at_ < nf)\/(e.kind=2/\0<=e.at_/\e.at_ < ns)))
def a4O (A:List Ar) (nf ns:Int):Int->List En->Bool
 |_,[]=>true
 |last,e::r=>a7Y A nf ns last e && a4O A nf ns e.page r
def a7X (l:List Sh) (A:List Ar):Bool:=A.all fun a=>(List.range a.n.toNat).all fun i=>(a6K l a.z (a.pg + (i:Nat))).isSome
def a4c (l:List Sh) (nf ns:Int) (s:Sc):Bool:=if s.live then decide (b5 s.areas=0) && (a7X l s.areas && a4O s.areas nf ns 0 s.entries) else decide (s.areas=[]/\s.entries=[])
def b1c (l:List Sc):Int:=(l.map fun s=>l6 s.areas).sum
def b12 (l:List Sh) (f:Fm) (by_:List Nm):Bool:=match by_ with
 |[]=>decide (f=fm0)
 |n::r=>decide (f.refs=((n::r).length:Int)/\f.data.length=16) && (a7O (n::r) && (f.dirty||decide (some f.data=a6K l n.2.z n.1.page)))
def b2W (s:Sw) (by_:List Nm):Bool:=match by_ with
 |[]=>decide (s=sw0)
 |n::r=>decide (s.refs=((n::r).length:Int)/\s.data.length=16) && a7O (n::r)
def a9V (K:Ker):Bool:=(List.range K.frames.length).all fun i=>match K.frames[i]? with
 |some f=>b12 K.sheets f (a0V K.spaces 1 (i:Nat))
 |none=>true
def b2j (K:Ker):Bool:=(List.range K.slots.length).all fun i=>match K.slots[i]? with
 |some s=>b2W s (a0V K.spaces 2 (i:Nat))
 |none=>true
def a90 (K:Ker):Bool:=decide (3<=K.frames.length/\K.frames.length<=64/\K.slots.length<=512/\1<=K.spaces.length/\K.spaces.length<=4/\K.sheets.length<=255)
def a9R (K:Ker):Bool:=K.spaces.all (a4c K.sheets K.frames.length K.slots.length)
def b2F (K:Ker):Bool:=(a0i 0 K.sheets && decide (0<=K.hand/\K.hand < K.frames.length)) && (a9R K && (decide (b1c K.spaces<=K.slots.length) && (a9V K && b2j K)))
def a8K (K:Ker):Int:=if a90 K=true then (if b2F K=true then 0 else 1) else 2
def lbd (l:List Int) (t:Int):Nat:=(l.takeWhile fun p=>decide (p < t)).length
def Rises (l:List Int):Prop:=l.Pairwise (·< ·)
theorem Rises.at_ {l:List Int} (h:Rises l) {i j:Nat} {a b:Int} (hij:i < j) (ha:l[i]?=some a) (hb:l[j]?=some b):a < b:=by
 obtain ⟨h1,rfl⟩:=xa6.1 ha;obtain ⟨h2,rfl⟩:=xa6.1 hb;exact xc8.1 h i j h1 h2 hij
abbrev shA (s:Sh) (u:Value):Value:=.agg (shC s u).toArray
theorem a4R {S:Sh} {w:World} {u:Value} (hu:ShV w S u):Fn Tryz.prog 148 [shA S u] w (RBf (.bool (j8 S)) w):=by
 have bnd:=hu.bound;obtain ⟨p,c,rfl⟩:=hu.len;refine yEn Tryz.func148 Tryz.ntmps148 (by kernel_rfl) (by kernel_rfl) rfl rfl ?_;have hS:=St.start w;unfold shA shC;by_cases h0:(1<=S.page/\S.page<=255)/\S.data.length=16;rotate_left
 ·have hf:j8 S=false:=by unfold j8;rw [xg8 h0];rfl
  rw [hf]
  repeat' (first|(with_reducible apply a5 a4);rfl;rfl;rfl|(with_reducible apply a6);rfl;(apply Ld.sc a4;rfl;exact hS.blkC 0 rfl rfl);rfl|refine yDn (by with_reducible constructor) ?_|(with_reducible apply e9);(iterate 4 rfl);assumption|(with_reducible apply o4);(iterate 4 rfl);(first|rfl|assumption);rfl|(with_reducible apply d9);rfl;(first|rfl|assumption);rfl;rfl|(with_reducible apply a7);rfl;assumption;rfl;rfl|(with_reducible apply a9);rfl;rfl|(with_reducible apply d8 hS);rfl;rfl;rfl;clear hS;intro g w' hS|(with_reducible apply v8);rfl;rfl;rfl;all_goals (intro hb hp;try (exfalso;omega))|(with_reducible apply a2r);rfl;all_goals (intro hb hp;try (exfalso;omega)))
  all_goals (refine d4 rfl ?_;exact ⟨rfl,hS.sub (xg7 _)⟩)
 have hr:j8 S=a1n 0 S.fixes:=by unfold j8;rw [xh0 h0];rfl
 rw [hr]
 repeat' (first|(with_reducible apply a5 a4);rfl;rfl;rfl|(with_reducible apply a6);rfl;(first|apply Ld.sc a4;rfl;exact hS.blkC 0 rfl rfl|apply Ld.sl a4;rfl;exact hS.blkC 0 rfl rfl);rfl|refine yDn (by with_reducible constructor) ?_|(with_reducible apply e9);(iterate 4 rfl);assumption|(with_reducible apply a7);rfl;assumption;rfl;rfl|(with_reducible apply d8 hS);rfl;rfl;rfl;clear hS;intro g w' hS|(with_reducible apply v8);rfl;rfl;rfl;all_goals (intro hb hp;try (exfalso;omega))|(with_reducible apply a2r);rfl;all_goals (intro hb hp;try (exfalso;omega)))
 refine o6 (X:=Nat×Int) (fun x=>[(23,.int .i64 (x.1:Nat)),(3,.int .i64 x.2)]) [1,21,22] rfl (fun _=>[]) (fun x=>(x.1<=S.fixes.length/\0<=x.2/\x.2<=16)/\a1n 0 S.fixes=a1n x.2 (S.fixes.drop x.1)) (fun x=>S.fixes.length - x.1) (0,0) (by exact Fr.sub_of rfl) (by simp) hS ?_;clear hS;rintro ⟨i,free⟩ w1 ⟨⟨hi,hf0,hf1⟩,hok⟩ hS;dsimp only [List.cons_append,List.nil_append] at hi hf0 hf1 hok hS |-;by_cases hlt:i < S.fixes.length
 ·obtain ⟨x,hx⟩:=l9 (l:=S.fixes) (i:=i) (by omega);have hrow:=i7 (f:=fxC) hx;obtain ⟨b,off,rfl,hro⟩:=hu.at_ (i:=i) hlt;have hst:=a35 (free:=free) hx;by_cases h1:free<=x.off/\x.off<=16/\x.bytes≠[]/\(x.bytes.length:Int)<=16 - x.off
  ·have ho:a1Q free x=true:=xh0 h1;have hb0:decide (x.bytes=[])=false:=xg8 h1.2.2.1;rw [ho,xh1] at hst
   repeat' (first|(with_reducible apply a5 a4);rfl;rfl;rfl|(with_reducible apply a6);rfl;(first|apply Ld.sc a4;rfl;exact hS.blkC 0 rfl rfl|apply Ld.st a4;rfl;exact hS.roR (by assumption) (by assumption);rfl);rfl|(with_reducible apply s9 a4);rfl;rfl;rfl;rfl;omega;rfl|(with_reducible apply o9);rfl;rfl;omega;omega;rfl|(with_reducible apply a3U);rfl;rfl;omega;omega;rfl|refine yDn (by with_reducible constructor) ?_|(with_reducible apply e9);(iterate 4 rfl);assumption|(with_reducible apply a7);rfl;assumption;rfl;rfl|(with_reducible apply b8 hS a4);rfl;rfl;rfl;clear hS;intro g w' hS|(with_reducible apply b7 hS a4 (i:=0));(iterate 8 rfl);exact (rfl:_=[_,_]);clear hS;intro w' hS;simp only [List.set] at hS|(with_reducible apply v8);rfl;rfl;rfl;all_goals (intro hb hp;try (exfalso;omega))|(with_reducible apply b6);rfl;all_goals (intro hb hp;try (exfalso;omega)))
   refine m8 (i + 1,a0d x) (by exact Fr.sub_of rfl) ⟨⟨by show i + 1<=S.fixes.length;omega,by show 0<=a0d x;unfold a0d;omega,by show a0d x<=16;unfold a0d;omega⟩,by rw [hok,hst]⟩ hS.drop (by show S.fixes.length - (i + 1) < S.fixes.length - i;omega)
  ·have ho:a1Q free x=false:=xg8 h1;rw [ho,xg9] at hst;by_cases hb1:x.bytes=[]
   ·have hb0:decide (x.bytes=[])=true:=xh0 hb1
    repeat' (first|(with_reducible apply a5 a4);rfl;rfl;rfl|(with_reducible apply a6);rfl;(first|apply Ld.sc a4;rfl;exact hS.blkC 0 rfl rfl|apply Ld.st a4;rfl;exact hS.roR (by assumption) (by assumption);rfl);rfl|(with_reducible apply s9 a4);rfl;rfl;rfl;rfl;omega;rfl|refine yDn (by with_reducible constructor) ?_|(with_reducible apply e9);(iterate 4 rfl);assumption|(with_reducible apply o4);(iterate 4 rfl);(first|rfl|assumption);rfl|(with_reducible apply d9);rfl;(first|rfl|assumption);rfl;rfl|(with_reducible apply a7);rfl;assumption;rfl;rfl|(with_reducible apply a9);rfl;rfl|(with_reducible apply b8 hS a4);rfl;rfl;rfl;clear hS;intro g w' hS|(with_reducible apply b7 hS a4 (i:=0));(iterate 8 rfl);exact (rfl:_=[_,_]);clear hS;intro w' hS;simp only [List.set] at hS|(with_reducible apply v8);rfl;rfl;rfl;all_goals (intro hb hp;try (exfalso;omega))|(with_reducible apply b6);rfl;all_goals (intro hb hp;try (exfalso;omega)))
    all_goals (refine d4 rfl ?_;exact ⟨by rw [hok,hst],hS.sub (xg7 _)⟩)
   ·have hb0:decide (x.bytes=[])=false:=xg8 hb1
    repeat' (first|(with_reducible apply a5 a4);rfl;rfl;rfl|(with_reducible apply a6);rfl;(first|apply Ld.sc a4;rfl;exact hS.blkC 0 rfl rfl|apply Ld.st a4;rfl;exact hS.roR (by assumption) (by assumption);rfl);rfl|(with_reducible apply s9 a4);rfl;rfl;rfl;rfl;omega;rfl|(with_reducible apply o9);rfl;rfl;omega;omega;rfl|(with_reducible apply a3U);rfl;rfl;omega;omega;rfl|refine yDn (by with_reducible constructor) ?_|(with_reducible apply e9);(iterate 4 rfl);assumption|(with_reducible apply o4);(iterate 4 rfl);(first|rfl|assumption);rfl|(with_reducible apply d9);rfl;(first|rfl|assumption);rfl;rfl|(with_reducible apply a7);rfl;assumption;rfl;rfl|(with_reducible apply a9);rfl;rfl|(with_reducible apply b8 hS a4);rfl;rfl;rfl;clear hS;intro g w' hS|(with_reducible apply b7 hS a4 (i:=0));(iterate 8 rfl);exact (rfl:_=[_,_]);clear hS;intro w' hS;simp only [List.set] at hS|(with_reducible apply v8);rfl;rfl;rfl;all_goals (intro hb hp;try (exfalso;omega))|(with_reducible apply b6);rfl;all_goals (intro hb hp;try (exfalso;omega)))
    all_goals first|(refine d4 rfl ?_;exact ⟨by rw [hok,hst],hS.sub (xg7 _)⟩)|(exfalso;exact h1 ⟨by omega,by omega,hb1,by omega⟩)
 ·repeat' (first|(with_reducible apply a5 a4);rfl;rfl;rfl|refine yDn (by with_reducible constructor) ?_|(with_reducible apply b6);rfl;all_goals (intro hb hp;try (exfalso;omega)))
  (refine d4 rfl ?_)
  exact ⟨by rw [hok,xk6 (by omega)];rfl,hS.sub (xg7 _)⟩
theorem a4b {S:Sh} {w:World} {u:Value} (hu:ShV w S u):Fn Tryz.prog 172 [shA S u] w (RBf (.bool (j8 S)) w):=by
 have bnd:=hu.bound;obtain ⟨p,c,rfl⟩:=hu.len;refine yEn Tryz.func172 Tryz.ntmps172 (by kernel_rfl) (by kernel_rfl) rfl rfl ?_;have hS:=St.start w;unfold shA shC;by_cases h0:(1<=S.page/\S.page<=255)/\S.data.length=16;rotate_left
 ·have hf:j8 S=false:=by unfold j8;rw [xg8 h0];rfl
  rw [hf];by_cases hp0:1<=S.page/\S.page<=255
  ·have hp1:(!decide (1<=S.page/\S.page<=255))=false:=by simpa using hp0
   repeat' (first|(with_reducible apply a5 a4);rfl;rfl;rfl|(with_reducible apply a6);rfl;(apply Ld.sc a4;rfl;exact hS.blkC 0 rfl rfl);rfl|refine yDn (by with_reducible constructor) ?_|(with_reducible apply e9);(iterate 4 rfl);assumption|(with_reducible apply o4);(iterate 4 rfl);assumption;rfl|(with_reducible apply d9);rfl;assumption;rfl;rfl|(with_reducible apply a7);rfl;assumption;rfl;rfl|(with_reducible apply a9);rfl;rfl|(with_reducible apply d8 hS);rfl;rfl;rfl;clear hS;intro g w' hS|(with_reducible apply r9);rfl;rfl;rfl;all_goals (intro hb hp;try (exfalso;omega))|(with_reducible apply b4 hS);rfl;rfl;rfl;refine ⟨_,d7 _ _ _ _,?_⟩;clear hS;intro w' hS)
   all_goals (refine d4 rfl ?_;exact ⟨rfl,hS.sub (xg7 _)⟩)
  ·have hp1:(!decide (1<=S.page/\S.page<=255))=true:=by rw [xg8 hp0];rfl
   repeat' (first|(with_reducible apply a5 a4);rfl;rfl;rfl|(with_reducible apply a6);rfl;(apply Ld.sc a4;rfl;exact hS.blkC 0 rfl rfl);rfl|refine yDn (by with_reducible constructor) ?_|(with_reducible apply o4);(iterate 4 rfl);(first|rfl|assumption);rfl|(with_reducible apply d9);rfl;(first|rfl|assumption);rfl;rfl|(with_reducible apply a9);rfl;rfl|(with_reducible apply d8 hS);rfl;rfl;rfl;clear hS;intro g w' hS|(with_reducible apply b4 hS);rfl;rfl;rfl;refine ⟨_,d7 _ _ _ _,?_⟩;clear hS;intro w' hS)
   (refine d4 rfl ?_)
   exact ⟨rfl,hS.sub (xg7 _)⟩
 have hp1:(!decide (1<=S.page/\S.page<=255))=false:=by simpa using h0.1
 by_cases h16:S.fixes.length<=16;rotate_left
 ·have hf:j8 S=false:=by
   cases hr:j8 S with
   |false=>rfl
   |true=>have:=a2N hr;omega
  rw [hf]
  repeat' (first|(with_reducible apply a5 a4);rfl;rfl;rfl|(with_reducible apply a6);rfl;(first|apply Ld.sc a4;rfl;exact hS.blkC 0 rfl rfl|apply Ld.sl a4;rfl;exact hS.blkC 0 rfl rfl);rfl|refine yDn (by with_reducible constructor) ?_|(with_reducible apply e9);(iterate 4 rfl);assumption|(with_reducible apply a7);rfl;assumption;rfl;rfl|(with_reducible apply d8 hS);rfl;rfl;rfl;clear hS;intro g w' hS|(with_reducible apply r9);rfl;rfl;rfl;all_goals (intro hb hp;try (exfalso;omega))|(with_reducible apply b6);rfl;all_goals (intro hb hp;try (exfalso;omega))|(with_reducible apply b4 hS);rfl;rfl;rfl;refine ⟨_,d7 _ _ _ _,?_⟩;clear hS;intro w' hS)
  all_goals (refine d4 rfl ?_;exact ⟨rfl,hS.sub (xg7 _)⟩)
 have hr:j8 S=a1n 0 S.fixes:=by unfold j8;rw [xh0 h0];rfl
 rw [hr]
 repeat' (first|(with_reducible apply a5 a4);rfl;rfl;rfl|(with_reducible apply a6);rfl;(first|apply Ld.sc a4;rfl;exact hS.blkC 0 rfl rfl|apply Ld.sl a4;rfl;exact hS.blkC 0 rfl rfl);rfl|refine yDn (by with_reducible constructor) ?_|(with_reducible apply e9);(iterate 4 rfl);assumption|(with_reducible apply a7);rfl;assumption;rfl;rfl|(with_reducible apply d8 hS);rfl;rfl;rfl;clear hS;intro g w' hS|(with_reducible apply r9);rfl;rfl;rfl;all_goals (intro hb hp;try (exfalso;omega))|(with_reducible apply b6);rfl;all_goals (intro hb hp;try (exfalso;omega))|(with_reducible apply b4 hS);rfl;rfl;rfl;refine ⟨_,d7 _ _ _ _,?_⟩;clear hS;intro w' hS)
 refine o6 (X:=Nat×Int) (fun x=>[(4,.int .i64 (x.1:Nat)),(3,.int .i64 x.2)]) [1] rfl (fun _=>[]) (fun x=>(x.1<=S.fixes.length/\0<=x.2/\x.2<=16)/\a1n 0 S.fixes=a1n x.2 (S.fixes.drop x.1)) (fun x=>S.fixes.length - x.1) (0,0) (by exact Fr.sub_of rfl) (by simp) hS ?_;clear hS;rintro ⟨i,free⟩ w1 ⟨⟨hi,hf0,hf1⟩,hok⟩ hS;dsimp only [List.cons_append,List.nil_append] at hi hf0 hf1 hok hS |-;by_cases hlt:i < S.fixes.length
 ·obtain ⟨x,hx⟩:=l9 (l:=S.fixes) (i:=i) (by omega);have hrow:=i7 (f:=fxC) hx;obtain ⟨b,off,rfl,hro⟩:=hu.at_ (i:=i) hlt;have hst:=a35 (free:=free) hx;by_cases h1:free<=x.off/\x.off<=16
  ·have k1:(!decide (free<=x.off/\x.off<=16))=false:=by simpa using h1
   by_cases h2:1<=(x.bytes.length:Int)/\(x.bytes.length:Int)<=16 - x.off
   ·have k2:(!decide (1<=(x.bytes.length:Int)/\(x.bytes.length:Int)<=16 - x.off))=false:=by simpa using h2
    have ho:a1Q free x=true:=xh0 ⟨h1.1,h1.2,xa3.1 (by omega),h2.2⟩;rw [ho,xh1] at hst
    repeat' (first|(with_reducible apply a5 a4);rfl;rfl;rfl|(with_reducible apply a6);rfl;(first|apply Ld.sc a4;rfl;exact hS.blkC 0 rfl rfl|apply Ld.sl a4;rfl;exact hS.blkC 0 rfl rfl|apply Ld.st a4;rfl;exact hS.roR (by assumption) (by assumption);rfl);rfl|(with_reducible apply s9 a4);rfl;rfl;rfl;rfl;omega;rfl|(with_reducible apply o9);rfl;rfl;omega;omega;rfl|(with_reducible apply a3U);rfl;rfl;omega;omega;rfl|refine yDn (by with_reducible constructor) ?_|(with_reducible apply e9);(iterate 4 rfl);assumption|(with_reducible apply a7);rfl;assumption;rfl;rfl|(with_reducible apply f8);rfl;assumption|(with_reducible apply b8 hS a4);rfl;rfl;rfl;clear hS;intro g w' hS|(with_reducible apply b7 hS a4 (i:=0));(iterate 8 rfl);exact (rfl:_=[_,_]);clear hS;intro w' hS;simp only [List.set] at hS|(with_reducible apply b6);rfl;all_goals (intro hb hp;try (exfalso;omega))|(with_reducible apply b4 hS);rfl;rfl;rfl;refine ⟨_,d7 _ _ _ _,?_⟩;clear hS;intro w' hS)
    refine m8 (i + 1,a0d x) (by exact Fr.sub_of rfl) ⟨⟨by show i + 1<=S.fixes.length;omega,by show 0<=a0d x;unfold a0d;omega,by show a0d x<=16;unfold a0d;omega⟩,by rw [hok,hst]⟩ hS.drop (by show S.fixes.length - (i + 1) < S.fixes.length - i;omega)
   ·have k2:(!decide (1<=(x.bytes.length:Int)/\(x.bytes.length:Int)<=16 - x.off))=true:=by rw [xg8 h2];rfl
    have ho:a1Q free x=false:=xg8 (fun h=>h2 ⟨by have:=xa3.2 h.2.2.1;omega,h.2.2.2⟩);rw [ho,xg9] at hst
    repeat' (first|(with_reducible apply a5 a4);rfl;rfl;rfl|(with_reducible apply a6);rfl;(first|apply Ld.sc a4;rfl;exact hS.blkC 0 rfl rfl|apply Ld.sl a4;rfl;exact hS.blkC 0 rfl rfl|apply Ld.st a4;rfl;exact hS.roR (by assumption) (by assumption);rfl);rfl|(with_reducible apply s9 a4);rfl;rfl;rfl;rfl;omega;rfl|(with_reducible apply a3U);rfl;rfl;omega;omega;rfl|refine yDn (by with_reducible constructor) ?_|(with_reducible apply e9);(iterate 4 rfl);assumption|(with_reducible apply a7);rfl;assumption;rfl;rfl|(with_reducible apply a9);rfl;assumption|(with_reducible apply b8 hS a4);rfl;rfl;rfl;clear hS;intro g w' hS|(with_reducible apply b7 hS a4 (i:=0));(iterate 8 rfl);exact (rfl:_=[_,_]);clear hS;intro w' hS;simp only [List.set] at hS|(with_reducible apply b6);rfl;all_goals (intro hb hp;try (exfalso;omega))|(with_reducible apply b4 hS);rfl;rfl;rfl;refine ⟨_,d7 _ _ _ _,?_⟩;clear hS;intro w' hS)
    (refine d4 rfl ?_)
    exact ⟨by rw [hok,hst],hS.sub (xg7 _)⟩
  ·have k1:(!decide (free<=x.off/\x.off<=16))=true:=by rw [xg8 h1];rfl
   have ho:a1Q free x=false:=xg8 (fun h=>h1 ⟨h.1,h.2.1⟩);rw [ho,xg9] at hst
   repeat' (first|(with_reducible apply a5 a4);rfl;rfl;rfl|(with_reducible apply a6);rfl;(first|apply Ld.sc a4;rfl;exact hS.blkC 0 rfl rfl|apply Ld.sl a4;rfl;exact hS.blkC 0 rfl rfl|apply Ld.st a4;rfl;exact hS.roR (by assumption) (by assumption);rfl);rfl|(with_reducible apply s9 a4);rfl;rfl;rfl;rfl;omega;rfl|refine yDn (by with_reducible constructor) ?_|(with_reducible apply o4);(iterate 4 rfl);assumption;rfl|(with_reducible apply d9);rfl;assumption;rfl;rfl|(with_reducible apply a9);rfl;rfl|(with_reducible apply b8 hS a4);rfl;rfl;rfl;clear hS;intro g w' hS|(with_reducible apply b7 hS a4 (i:=0));(iterate 8 rfl);exact (rfl:_=[_,_]);clear hS;intro w' hS;simp only [List.set] at hS|(with_reducible apply b6);rfl;all_goals (intro hb hp;try (exfalso;omega))|(with_reducible apply b4 hS);rfl;rfl;rfl;refine ⟨_,d7 _ _ _ _,?_⟩;clear hS;intro w' hS)
   (refine d4 rfl ?_)
   exact ⟨by rw [hok,hst],hS.sub (xg7 _)⟩
 ·repeat' (first|(with_reducible apply a5 a4);rfl;rfl;rfl|(with_reducible apply a6);rfl;(apply Ld.sl a4;rfl;exact hS.blkC 0 rfl rfl);rfl|refine yDn (by with_reducible constructor) ?_|(with_reducible apply b6);rfl;all_goals (intro hb hp;try (exfalso;omega)))
  (refine d4 rfl ?_)
  exact ⟨by rw [hok,xk6 (by omega)];rfl,hS.sub (xg7 _)⟩
theorem a2e {l:List Fx} {i:Nat} {f:Fx} {d:List UInt8} (h:l[i]?=some f):a06 d (l.take (i + 1))=splice (a06 d (l.take i)) f.off.toNat f.bytes:=by
 unfold a06;rw [xl7,h];simp [List.foldl_append]
theorem a4p {l:List Fx}:∀ {free:Int},a1n free l=true->0<=free->∀ {i:Nat} {f:Fx},l[i]?=some f->(0<=f.off/\f.off<=16)/\(f.bytes.length:Int)<=16 - f.off:=by
 induction l with
 |nil=>intro free _ _ i f h;simp at h
 |cons g r ih=>
  intro free h h0 i f hf;simp only [a1n,a1Q,xb7,xh4] at h;obtain ⟨⟨h1,h2,h3,h4⟩,h5⟩:=h
  cases i with
  |zero=>simp at hf;subst hf;exact ⟨⟨by omega,h2⟩,h4⟩
  |succ i=>exact ih h5 (by unfold a0d;omega) (by simpa using hf)
theorem a3G {l:List Fx} {d:List UInt8} {free:Int} (h:a1n free l=true) (h0:0<=free) (hd:d.length=16):∀ i,i<=l.length->(a06 d (l.take i)).length=16:=by
 intro i
 induction i with
 |zero=>intro _;simpa [a06] using hd
 |succ i ih=>
  intro hi;have hx:l[i]?=some l[i]:=xd1 (by omega);have:=ih (by omega);obtain ⟨⟨h1,h2⟩,h3⟩:=a4p h h0 hx;rw [a2e hx,a6f (by omega)];exact this
theorem a2t {S:Sh} (h:j8 S=true):S.data.length=16/\a1n 0 S.fixes=true:=by
 unfold j8 at h;simp only [xb7,xh4] at h;exact ⟨h.1.2,h.2⟩
theorem a4Q {S:Sh} {i:Nat} (hi:S.fixes.length<=i):a06 S.data (S.fixes.take i)=a5s S:=by rw [xa0 hi];rfl
theorem a92 {S:Sh} {w:World} {u:Value} (hu:ShV w S u):Fn Tryz.prog 92 [shA S u] w (RBf (.tuple #[.string ⟨(if j8 S=true then a5s S else []).toArray⟩,.int .i64 (if j8 S=true then 0 else 1)]) w):=by
 have hr:=fun w (h:ShV w S u)=>a4R h;by_cases hR:j8 S=true;rotate_left
 ·rw [xd9 hR,xd9 hR];rw [show j8 S=false by simpa using hR] at hr;refine yEn Tryz.func92 Tryz.ntmps92 (by kernel_rfl) (by kernel_rfl) rfl rfl ?_;have hS:=St.start w;unfold shA shC
  repeat' (first|(with_reducible apply a5 a4);rfl;rfl;rfl|(with_reducible apply a6);rfl;(apply Ld.st a4;rfl;exact hS.blkR 0 rfl;rfl);rfl|refine yDn (by with_reducible constructor) ?_|(with_reducible apply a9);rfl;rfl|(with_reducible apply d8 hS);rfl;rfl;rfl;clear hS;intro g w' hS|(with_reducible apply b4 hS);rfl;rfl;rfl;refine ⟨_,hr _ (hu.now hS),?_⟩;clear hS;intro w' hS)
  (refine b2z rfl ?_)
  exact ⟨rfl,hS.sub (xg7 _)⟩
 rw [xd8 hR,xd8 hR];rw [hR] at hr;obtain ⟨hd,hok⟩:=a2t hR;have bnd:=hu.bound;obtain ⟨p,c,rfl⟩:=hu.len;refine yEn Tryz.func92 Tryz.ntmps92 (by kernel_rfl) (by kernel_rfl) rfl rfl ?_;have hS:=St.start w;unfold shA shC
 repeat' (first|(with_reducible apply a5 a4);rfl;rfl;rfl|(with_reducible apply a6);rfl;(first|apply Ld.sc a4;rfl;exact hS.blkC 0 rfl rfl|apply Ld.sl a4;rfl;exact hS.blkC 0 rfl rfl|apply Ld.st a4;rfl;exact hS.blkR 0 rfl;rfl);rfl|refine yDn (by with_reducible constructor) ?_|(with_reducible apply f8);rfl;rfl|(with_reducible apply d8 hS);rfl;rfl;rfl;clear hS;intro g w' hS|(with_reducible apply b4 hS);rfl;rfl;rfl;refine ⟨_,hr _ (hu.now hS),?_⟩;clear hS;intro w' hS)
 refine o6 (X:=Nat) (fun x=>[(15,.int .i64 (x:Nat)),(4,.string ⟨(a06 S.data (S.fixes.take x)).toArray⟩)]) [1,13,14] rfl (fun _=>[]) (fun x=>x<=S.fixes.length) (fun x=>S.fixes.length - x) 0 (by exact Fr.sub_of rfl) (by simp) hS ?_;clear hS;intro i w1 hi hS;dsimp only [List.cons_append,List.nil_append] at hi hS |-;have hlen:=a3G hok (by omega) hd i hi;by_cases hlt:i < S.fixes.length
 ·obtain ⟨x,hx⟩:=l9 (l:=S.fixes) (i:=i) (by omega);have hrow:=i7 (f:=fxC) hx;obtain ⟨b,off,rfl,hro⟩:=hu.at_ (i:=i) hlt;obtain ⟨⟨h1,h2⟩,h3⟩:=a4p hok (by omega) hx;have hst:=a2e (d:=S.data) hx;generalize a06 S.data (S.fixes.take i)=d at hlen hst |-;have hlay:=fun w=>a81 d x.bytes x.off w (by unfold maxLen;omega);have hin:inB x.off x.bytes.length d.length=true:=by unfold inB;rw [xh4];omega
  simp only [hin,if_true] at hlay
  repeat' (first|(with_reducible apply a5 a4);rfl;rfl;rfl|(with_reducible apply a6);rfl;(first|apply Ld.sc a4;rfl;exact hS.blkC 0 rfl rfl|apply Ld.st a4;rfl;exact hS.roR (by assumption) (by assumption);rfl);rfl|(with_reducible apply s9 a4);rfl;rfl;rfl;rfl;omega;rfl|(with_reducible apply o9);rfl;rfl;omega;omega;rfl|refine yDn (by with_reducible constructor) ?_|(with_reducible apply b8 hS a4);rfl;rfl;rfl;clear hS;intro g w' hS|(with_reducible apply b7 hS a4 (i:=0));(iterate 8 rfl);exact (rfl:_=[_,_]);clear hS;intro w' hS;simp only [List.set] at hS|(with_reducible apply b6);rfl;all_goals (intro hb hp;try (exfalso;omega))|(with_reducible apply b4 hS);rfl;rfl;rfl;refine ⟨_,hlay _,?_⟩;clear hS;intro w' hS)
  exact m8 (i + 1) (by rw [hst];exact Fr.sub_of rfl) (by show i + 1<=S.fixes.length;omega) hS.drop (by show S.fixes.length - (i + 1) < S.fixes.length - i;omega)
 ·repeat' (first|(with_reducible apply a5 a4);rfl;rfl;rfl|refine yDn (by with_reducible constructor) ?_|(with_reducible apply b6);rfl;all_goals (intro hb hp;try (exfalso;omega)))
  (refine b2z rfl ?_)
  exact ⟨by rw [a4Q (by omega)],hS.sub (xg7 _)⟩
theorem a7i {S:Sh} {w:World} {u:Value} (hu:ShV w S u) (hR:j8 S=true):Fn Tryz.prog 93 [shA S u] w (RBf (.string ⟨(a5s S).toArray⟩) w):=by
 obtain ⟨hd,hok⟩:=a2t hR;have bnd:=hu.bound;obtain ⟨p,c,rfl⟩:=hu.len;refine yEn Tryz.func93 Tryz.ntmps93 (by kernel_rfl) (by kernel_rfl) rfl rfl ?_;have hS:=St.start w;unfold shA shC
 repeat' (first|(with_reducible apply a5 a4);rfl;rfl;rfl|(with_reducible apply a6);rfl;(apply Ld.sc a4;rfl;exact hS.blkC 0 rfl rfl);rfl|refine yDn (by with_reducible constructor) ?_|(with_reducible apply d8 hS);rfl;rfl;rfl;clear hS;intro g w' hS)
 refine o6 (X:=Nat) (fun x=>[(4,.int .i64 (x:Nat)),(3,.string ⟨(a06 S.data (S.fixes.take x)).toArray⟩)]) [1] rfl (fun _=>[]) (fun x=>x<=S.fixes.length) (fun x=>S.fixes.length - x) 0 (by exact Fr.sub_of rfl) (by simp) hS ?_;clear hS;intro i w1 hi hS;dsimp only [List.cons_append,List.nil_append] at hi hS |-;have hlen:=a3G hok (by omega) hd i hi;by_cases hlt:i < S.fixes.length
 ·obtain ⟨x,hx⟩:=l9 (l:=S.fixes) (i:=i) (by omega);have hrow:=i7 (f:=fxC) hx;obtain ⟨b,off,rfl,hro⟩:=hu.at_ (i:=i) hlt;obtain ⟨⟨h1,h2⟩,h3⟩:=a4p hok (by omega) hx;have hst:=a2e (d:=S.data) hx;generalize a06 S.data (S.fixes.take i)=d at hlen hst |-;have hover:∀ w,Fn Tryz.prog 149 [.string ⟨d.toArray⟩,.int .i64 x.off,.string ⟨x.bytes.toArray⟩] w (RBf (.string ⟨(splice d x.off.toNat x.bytes).toArray⟩) w):=fun w=>by
   have:=b0l d x.bytes x.off.toNat w (by unfold maxLen;omega) (by omega)
   rwa [xh3 h1] at this
  repeat' (first|(with_reducible apply a5 a4);rfl;rfl;rfl|(with_reducible apply a6);rfl;(apply Ld.sl a4;rfl;exact hS.blkC 0 rfl rfl);rfl|refine yDn (by with_reducible constructor) ?_|(with_reducible apply b6);rfl;all_goals (intro hb hp;try (exfalso;omega)))
  (focus ((with_reducible apply a8 _ _ _ (by kernel_rfl) (by kernel_rfl) hS);(repeat' (first|(first|(with_reducible apply i4 a4);rfl;rfl|(with_reducible apply i6);rfl;(intro wd hd;replace hd:St _ _ wd _:=hd;(first|apply Ld.sc a4;rfl;(first|exact hd.roC0 (by assumption) (by assumption) rfl|exact hd.roC (by assumption) (by assumption) rfl)|apply Ld.sl a4;rfl;exact hd.blkC 0 rfl rfl));rfl|(with_reducible apply a0a a4);rfl;rfl;rfl;rfl;omega;rfl)|(with_reducible apply b9);rfl;rfl;rfl;refine ⟨_,fun wd hd=>hover _,?_⟩));all_goals ((with_reducible apply l3);intro w' hS';clear hS;have hS:=hS';clear hS')))
  repeat' (first|(with_reducible apply a5 a4);rfl;rfl;rfl|(with_reducible apply o9);rfl;rfl;omega;omega;rfl|refine yDn (by with_reducible constructor) ?_)
  exact m8 (i + 1) (by rw [hst];exact Fr.sub_of rfl) (by show i + 1<=S.fixes.length;omega) hS (by show S.fixes.length - (i + 1) < S.fixes.length - i;omega)
 ·repeat' (first|(with_reducible apply a5 a4);rfl;rfl;rfl|(with_reducible apply a6);rfl;(apply Ld.sl a4;rfl;exact hS.blkC 0 rfl rfl);rfl|refine yDn (by with_reducible constructor) ?_|(with_reducible apply b6);rfl;all_goals (intro hb hp;try (exfalso;omega)))
  (refine d4 rfl ?_)
  exact ⟨by rw [a4Q (by omega)],hS.sub (xg7 _)⟩
end Go.Proofs.YtejnpppejalhfacGreat
