/- Texts that the proof stands on, one behind the other: Ar3, Ar4, Ar7, Ar8, Ar9, Ar10, Ar17, Tab, Sc12, Sc14, Sc15, Sc16, Sc17, Go, As1. -/
import Derived.Deep.DeepAppendWide
import Derived.Laws.OwnMore
import Derived.Laws.Cover2
import Derived.Test.YtejnpppejalhfacGreatProg
import Derived.OrdersHeld
import Derived.WalkLawsBesides
import Derived.Recover
import Derived.Laws.Strings2
import Derived.Laws.Strings3
import Derived.Test.YtejnpppejalhfacGreatPKernelMaps2
set_option linter.unusedVariables false
set_option linter.unusedSimpArgs false
namespace Go.Proofs.YtejnpppejalhfacGreat
set_option maxRecDepth 100000
set_option maxHeartbeats 8000000
open Go.RowKit Go.Sort
theorem a4v {v:Value} {L:List Ar} {w:World} (h:SlAr w v L):Calls Tryz.prog 98 #[v] w (RB (.int .i64 (g6 L)) w):=by
 rcases h with ⟨p,c,rfl,rfl⟩|⟨b,off,cap,rfl,h2,h3,h4,h5⟩
 ·exact b01 p c w
 ·exact b1N b off cap L w h2 h3 h4 h5
theorem a2n {L:List Ar}:∀ {i:Nat} {a:Ar},L[i]?=some a->k7 (L.take (i + 1))=k7 (L.take i) + a.n:=by
 induction L with
 |nil=>intro i a h;simp at h
 |cons c L ih=>
  intro i a h
  cases i with
  |zero=>simp at h;subst h;simp [k7]
  |succ i=>simp only [xl5,k7];rw [ih (by simpa using h)];omega
theorem a5C {L:List Ar} (h:∀ (i:Nat) (a:Ar),L[i]?=some a->a.ok):∀ i:Nat,i<=L.length->0<=k7 (L.take i)/\k7 (L.take i)<=255 * (i:Int):=by
 intro i
 induction i with
 |zero=>intro _;simp [k7]
 |succ i ih=>
  intro hi;obtain ⟨h1,h2⟩:=ih (by omega);have ha:=h i L[i] (by simp [hi]);rw [a2n (a:=L[i]) (by simp [hi])];unfold Ar.ok at ha;omega
theorem y9 {L:List Ar} (h:a1D L):∀ (i:Nat) (a:Ar),L[i]?=some a->a.ok:=fun i a ha=>b0b ha ((a28 L).1 h i (by
 obtain ⟨hi,_⟩:=xa6.1 ha;exact hi))
theorem k9 {L:List Ar}:g6 L=0 ↔ L.length<=255/\a1D L:=by
 unfold g6
 split
 ·exact ⟨fun h=>by omega,fun h=>by omega⟩
 ·split
  ·exact ⟨fun _=>⟨by omega,by assumption⟩,fun _=>rfl⟩
  ·exact ⟨fun h=>by omega,fun h=>absurd h.2 (by assumption)⟩
theorem b0U {v:Value} {L:List Ar} {w:World} (h:SlAr w v L) (hc:g6 L≠0):Calls Tryz.prog 43 #[v] w (RB (.int .i64 0) w):=by
 have HC:=hid (a4v h);have hn:(g6 L == 0)=false:=by rw [beq_eq_false_iff_ne];exact hc
 clear h hc;generalize g6 L=r at *
 go_enter Tryz.func43,Tryz.ntmps43
 go_wp2_with (first|go_at_call 98;(with_reducible refine (HC.out).mono ?_);rintro e w1 ⟨rfl,hb1⟩)
 go_ret
 exact ⟨rfl,(by repeat ((with_reducible assumption)))⟩
theorem a9p {v:Value} {L:List Ar} {w:World} (h:SlAr w v L) (hc:g6 L=0):Calls Tryz.prog 43 #[v] w (RB (.int .i64 (k7 L)) w):=by
 have HC:=hid (a4v h);rw [hc] at HC;obtain ⟨hlen,hg⟩:=k9.1 hc;have hok:=y9 hg;have HB:=hid (a5C hok);clear hc hg;rcases h with ⟨p,c,rfl,rfl⟩|⟨b,off,cap,rfl,hbl,hcap,hmax,o4⟩
 ·go_enter Tryz.func43,Tryz.ntmps43
  go_wp2_with (first|go_at_call 98;(with_reducible refine (HC.out).mono ?_);rintro e w1 ⟨rfl,hb1⟩)
  go_loopw [3,11] (fun vn vi wr=>vn=.int .i64 0/\vi=.int .i64 0/\wr=w1) (fun _ _ _=>0)
  case atStart=>exact ⟨rfl,rfl,rfl⟩
  case round=>
   obtain ⟨rfl,rfl,rfl⟩:=hrel
   go_wp2
   go_ret
   exact ⟨rfl,(by repeat ((with_reducible assumption)))⟩
 ·unfold maxLen at hmax;have HL:=hid o4;have HO:=hid hok;clear o4 hok
  go_enter Tryz.func43,Tryz.ntmps43
  go_wp2_with (first|go_at_call 98;(with_reducible refine (HC.out).mono ?_);rintro e w1 ⟨rfl,hb1⟩)
  go_loopw [3,11] (fun vn vi wr=>∃ i:Nat,i<=L.length/\vi=.int .i64 i/\vn=.int .i64 (k7 (L.take i))/\Below w.heap.size w wr) (fun _ vi _=>L.length - (intOf vi).toNat)
  case atStart=>exact ⟨0,by omega,rfl,by simp [k7],hb1⟩
  case round=>
   obtain ⟨i,hi,rfl,rfl,hb⟩:=hrel;by_cases hlt:i < L.length
   ·obtain ⟨a,ha⟩:∃ a,L[i]?=some a:=⟨L[i],by simp [hlt]⟩;obtain ⟨c0,c1,c2,c3⟩:=(HL.out i a ha).grown hb hbl;have hbr:=a1z (xb6 hbl hb.size);have hsz:=hb.size;have hs:=a2n ha;have hn:=HB.out i hi;have hn2:=HO.out i a ha;unfold Ar.ok at hn2;have hw:wrap64 (k7 (L.take i) + a.n)=k7 (L.take i) + a.n:=j0 _ (by omega) (by omega);have HS:=hid hs;clear hs hn hn2;generalize k7 (L.take i)=q at *
    go_wp2
    go_roundw
    case rel=>exact ⟨i + 1,by omega,by go_num,by rw [HS.out,hw],(by repeat (first|with_reducible assumption|with_reducible refine Below.alloc ?_ (by (omega)) _))⟩
    case measure=>simp [intOf];omega
   ·go_wp2
    go_ret
    have:i=L.length:=by omega
    subst this;exact ⟨r9 (by simp),hb⟩
theorem a9I {v:Value} {L:List Ar} {w:World} (h:SlAr w v L) (hc:g6 L=0):Calls Tryz.prog 50 #[v] w (RB (.int .i64 (k7 L)) w):=by
 obtain ⟨hlen,hg⟩:=k9.1 hc;have hok:=y9 hg;have HB:=hid (a5C hok);clear hc hg;rcases h with ⟨p,c,rfl,rfl⟩|⟨b,off,cap,rfl,hbl,hcap,hmax,o4⟩
 ·go_enter Tryz.func50,Tryz.ntmps50
  go_wp2
  go_loopw [3,4] (fun vn vi wr=>vn=.int .i64 0/\vi=.int .i64 0/\wr=w) (fun _ _ _=>0)
  case atStart=>exact ⟨rfl,rfl,rfl⟩
  case round=>
   obtain ⟨rfl,rfl,rfl⟩:=hrel
   go_wp2
   go_ret
   exact ⟨rfl,(by repeat ((with_reducible exact Below.refl _ _)))⟩
 ·unfold maxLen at hmax;have HL:=hid o4;have HO:=hid hok;clear o4 hok
  go_enter Tryz.func50,Tryz.ntmps50
  go_wp2
  go_loopw [3,4] (fun vn vi wr=>∃ i:Nat,i<=L.length/\vi=.int .i64 i/\vn=.int .i64 (k7 (L.take i))/\Below w.heap.size w wr) (fun _ vi _=>L.length - (intOf vi).toNat)
  case atStart=>exact ⟨0,by omega,rfl,by simp [k7],Below.refl _ _⟩
  case round=>
   obtain ⟨i,hi,rfl,rfl,hb⟩:=hrel;by_cases hlt:i < L.length
   ·obtain ⟨a,ha⟩:∃ a,L[i]?=some a:=⟨L[i],by simp [hlt]⟩;obtain ⟨c0,c1,c2,c3⟩:=(HL.out i a ha).grown hb hbl;have hbr:=a1z (xb6 hbl hb.size);have hsz:=hb.size;have hs:=a2n ha;have hn:=HB.out i hi;have hn2:=HO.out i a ha;unfold Ar.ok at hn2;have hw:wrap64 (k7 (L.take i) + a.n)=k7 (L.take i) + a.n:=j0 _ (by omega) (by omega);have HS:=hid hs;clear hs hn hn2;generalize k7 (L.take i)=q at *
    go_wp2
    go_roundw
    case rel=>exact ⟨i + 1,by omega,by go_num,by rw [HS.out,hw],(by repeat ((with_reducible assumption)))⟩
    case measure=>simp [intOf];omega
   ·go_wp2
    go_ret
    have:i=L.length:=by omega
    subst this;exact ⟨r9 (by simp),hb⟩
def a0r:Ar:=⟨0,0,0,false⟩
def y8 (page:Int) (a:Ar):Bool:=decide (a.pg<=page/\page < a.fin)
def m9 (L:List Ar) (page:Int):Option Ar:=L.find? (y8 page)
theorem a5V {L:List Ar} {page:Int}:∀ {i:Nat} {a:Ar},(∀ (j:Nat) (b:Ar),j < i->L[j]?=some b->y8 page b=false)->L[i]?=some a->y8 page a=true->m9 L page=some a:=by
 unfold m9
 induction L with
 |nil=>intro i a _ h;simp at h
 |cons c L ih=>
  intro i a h1 h2 h3
  cases i with
  |zero=>simp at h2;subst h2;rw [List.find?_cons,h3]
  |succ i=>
   have hc:=h1 0 c (by omega) rfl;rw [List.find?_cons,hc];exact ih (i:=i) (fun j b hj hb=>h1 (j + 1) b (by omega) (by simpa using hb)) (by simpa using h2) h3
theorem a3E {L:List Ar} {page:Int} (h:∀ (j:Nat) (b:Ar),j < L.length->L[j]?=some b->y8 page b=false):m9 L page=none:=by
 unfold m9;rw [List.find?_eq_none];intro x hx;obtain ⟨j,hj,rfl⟩:=List.getElem_of_mem hx;have:=h j L[j] hj (by simp);simp [this]
def zl4:List Value:=[.int .i64 0,.int .i64 0,.int .i64 0,.bool false]
def a41 (o:Option Ar):Value:=.tuple #[.agg (arC (o.getD a0r)).toArray,.bool o.isSome]
theorem a9r {v:Value} {L:List Ar} {w:World} (page:Int) (h:SlAr w v L) (hok:∀ (i:Nat) (a:Ar),L[i]?=some a->a.ok):Calls Tryz.prog 97 #[v,.int .i64 page] w (RB (a41 (m9 L page)) w):=by
 have hsz:(Tryz.prog.info? 136).map (·.size)=some 4:=by kernel_rfl
 have Hsz:=hid hsz;clear hsz;have hbw:=Below.refl w.heap.size w;rcases h with ⟨p,c,rfl,rfl⟩|⟨b,off,cap,rfl,hbl,hcap,hmax,o4⟩
 ·go_enter Tryz.func97,Tryz.ntmps97
  go_wp2_with (first|(with_reducible refine x8 4 ?_);refine l3 rfl (some 4) rfl (zl4) 136 (by kernel_rfl) w.heap.size w hbw hbw.size ?_;intro g4 wn4 hL4 hB4 hbn hkn hnn;skip;clear hbw hkn hnn;have hbw:=hbn;clear hbn)
  go_loopw [6] (fun vi wr=>vi=.int .i64 0/\wr=wn4) (fun _ _=>0)
  case atStart=>exact ⟨rfl,rfl⟩
  case round=>
   obtain ⟨rfl,rfl⟩:=hrel
   go_wp2_with (first|(with_reducible refine p7 4 ?_);refine j5 rfl 136 (.tmp 4) (.tmp 39) rfl rfl g4 (zl4) (zl4) rfl rfl hL4 Hsz.out rfl rfl w.heap.size w hbw hB4 ?_;intro wp4 hLn hbn hon;skip;clear hL4 hbw hon;have hL4:=hLn;have hbw:=hbn;clear hLn hbn)
   refine bodyPost_ret (v:=.tuple #[.agg (zl4).toArray,.bool false]) (s4 rfl _ g4 (zl4) (.bool false) _ rfl rfl hL4 Tryz.underlying136 rfl Hsz.out) rfl ⟨by rw [(show m9 [] page=none from rfl)];rfl,hbw⟩
 ·unfold maxLen at hmax;have HL:=hid o4;have HO:=hid hok;clear o4 hok
  go_enter Tryz.func97,Tryz.ntmps97
  go_wp2_with (first|(with_reducible refine x8 4 ?_);refine l3 rfl (some 4) rfl (zl4) 136 (by kernel_rfl) w.heap.size w hbw hbw.size ?_;intro g4 wn4 hL4 hB4 hbn hkn hnn;skip;clear hbw hkn hnn;have hbw:=hbn;clear hbn)
  go_loopw [6] (fun vi wr=>∃ i:Nat,i<=L.length/\vi=.int .i64 i/\Below w.heap.size w wr/\HoldL wr g4 zl4/\Hid (∀ (j:Nat) (b:Ar),j < i->L[j]?=some b->y8 page b=false)) (fun vi _=>L.length - (intOf vi).toNat)
  case atStart=>exact ⟨0,by omega,rfl,hbw,hL4,fun j b hj=>by omega⟩
  case round=>
   clear hbw hL4;obtain ⟨i,hi,rfl,hbw,hL4,HN⟩:=hrel;by_cases hlt:i < L.length
   ·obtain ⟨a,ha⟩:∃ a,L[i]?=some a:=⟨L[i],by simp [hlt]⟩;obtain ⟨c0,c1,c2,c3⟩:=(HL.out i a ha).grown hbw hbl;have hao:=HO.out i a ha;have hfw:=a2A hao;have hbr:=a1z (xb6 hbl hbw.size);have hsz:=hbw.size;have HF:Hid (y8 page a=decide (a.pg<=page/\page < a.fin)):=hid rfl;have hdef:a.fin=a.pg + a.n:=rfl;rw [hdef] at hfw;have HD:=hid hdef;clear hdef hao;by_cases h1:a.pg<=page
    ·by_cases h2:page < a.fin
     ·have HX:Hid (m9 L page=some a):=a5V HN.out ha (by rw [HF.out];simp [h1,h2]);have h1':decide (a.pg<=page)=true:=by simpa using h1
      have h2':decide (page < a.pg + a.n)=true:=by simpa [<- HD.out] using h2
      clear h1 h2
      go_wp2
      refine wp_region_quiet_below (by kernel_rfl) (by kernel_rfl) ?_
      repeat ((go_big_quiet_step ((fail))))
      refine wpQuiet_nil ?_;intro wq hw';obtain ⟨⟨dq,osq⟩,hw''⟩:=hw';have hbr:=n5 hw'';clear hw''
      first
       |(have hbn:=bt hbq hbr;clear hcq hfq hzq hbq hbr;have hbq:=hbn;clear hbn)
       |(have hbq:=hbr;clear hbr)
      obtain ⟨hcq,hfq,hzq⟩:=a0g hbq;have hL4:=hL4.grown hbq hL4.lt;have hbw:=bt hbw hbq
      go_wp2_with (first|(with_reducible refine p7 4 ?_);refine j5 rfl 136 (.tmp 4) (.tmp 38) rfl rfl g4 ([.int .i64 a.pg,.int .i64 a.n,.int .i64 a.prot,.bool a.z]) (zl4) rfl rfl hL4 Hsz.out rfl rfl w.heap.size w hbw hB4 ?_;intro wp4 hLn hbn hon;skip;clear hL4 hbw hon;have hL4:=hLn;have hbw:=hbn;clear hLn hbn)
      refine bodyPost_ret (v:=.tuple #[.agg ([.int .i64 a.pg,.int .i64 a.n,.int .i64 a.prot,.bool a.z]).toArray,.bool true]) (s4 rfl _ g4 ([.int .i64 a.pg,.int .i64 a.n,.int .i64 a.prot,.bool a.z]) (.bool true) _ rfl rfl hL4 Tryz.underlying136 rfl Hsz.out) rfl ⟨by rw [HX.out];rfl,hbw⟩
     ·have HX:Hid (y8 page a=false):=by refine hid ?_;rw [HF.out];simp [h2]
      have h1':decide (a.pg<=page)=true:=by simpa using h1
      have h2':decide (page < a.pg + a.n)=false:=by simpa [<- HD.out] using h2
      clear h1 h2
      go_wp2
      refine wp_region_quiet_below (by kernel_rfl) (by kernel_rfl) ?_
      repeat ((go_big_quiet_step ((fail))))
      refine wpQuiet_nil ?_;intro wq hw';obtain ⟨⟨dq,osq⟩,hw''⟩:=hw';have hbr:=n5 hw'';clear hw''
      first
       |(have hbn:=bt hbq hbr;clear hcq hfq hzq hbq hbr;have hbq:=hbn;clear hbn)
       |(have hbq:=hbr;clear hbr)
      obtain ⟨hcq,hfq,hzq⟩:=a0g hbq;have hL4:=hL4.grown hbq hL4.lt;have hbw:=bt hbw hbq
      go_wp2
      go_roundw
      case rel=>
       refine ⟨i + 1,by omega,by go_num,hbw,hL4,fun j b hj hb=>?_⟩;rcases xo5.1 hj with h|h
       ·exact HN.out j b h hb
       ·subst h;rw [ha] at hb;cases hb;exact HX.out
      case measure=>simp [intOf];omega
    ·have HX:Hid (y8 page a=false):=by refine hid ?_;rw [HF.out];simp [h1]
     have h1':decide (a.pg<=page)=false:=by simpa using h1
     clear h1
     go_wp2
     refine wp_region_quiet_below (by kernel_rfl) (by kernel_rfl) ?_
     repeat ((go_big_quiet_step ((fail))))
     refine wpQuiet_nil ?_;intro wq hw';obtain ⟨⟨dq,osq⟩,hw''⟩:=hw';have hbr:=n5 hw'';clear hw''
     first
      |(have hbn:=bt hbq hbr;clear hcq hfq hzq hbq hbr;have hbq:=hbn;clear hbn)
      |(have hbq:=hbr;clear hbr)
     obtain ⟨hcq,hfq,hzq⟩:=a0g hbq;have hL4:=hL4.grown hbq hL4.lt;have hbw:=bt hbw hbq
     go_wp2
     go_roundw
     case rel=>
      refine ⟨i + 1,by omega,by go_num,hbw,hL4,fun j b hj hb=>?_⟩;rcases xo5.1 hj with h|h
      ·exact HN.out j b h hb
      ·subst h;rw [ha] at hb;cases hb;exact HX.out
     case measure=>simp [intOf];omega
   ·have:i=L.length:=by omega
    subst this;have HX:=hid (a3E HN.out)
    go_wp2_with (first|(with_reducible refine p7 4 ?_);refine j5 rfl 136 (.tmp 4) (.tmp 39) rfl rfl g4 (zl4) (zl4) rfl rfl hL4 Hsz.out rfl rfl w.heap.size w hbw hB4 ?_;intro wp4 hLn hbn hon;skip;clear hL4 hbw hon;have hL4:=hLn;have hbw:=hbn;clear hLn hbn)
    refine bodyPost_ret (v:=.tuple #[.agg (zl4).toArray,.bool false]) (s4 rfl _ g4 (zl4) (.bool false) _ rfl rfl hL4 Tryz.underlying136 rfl Hsz.out) rfl ⟨by rw [HX.out];rfl,hbw⟩
theorem a5H (prot:Int) (z:Bool) (h:0<=prot/\prot<=3) (w:World):Calls Tryz.prog 121 #[.int .i64 prot,.bool z] w fun e w'=>e=.returned (.int .i64 (1 + 2 * prot + (if z then 8 else 0)))/\w=w':=by
 obtain ⟨h1,h2⟩:=h
 cases z
 ·go_enter Tryz.func121,Tryz.ntmps121
  go_wp2
  go_ret
  exact ⟨r9 (by simp),rfl⟩
 ·go_enter Tryz.func121,Tryz.ntmps121
  go_wp2
  go_ret
  exact ⟨r9 (by simp),rfl⟩
def bdC (b:Int->Int):List Value:=(List.range 256).map fun p:Nat=>Value.int .i64 (b p)
theorem l6 (b:Int->Int):(bdC b).length=256:=by simp [bdC]
theorem a5T (b:Int->Int) (p:Nat) (h:p < 256):(bdC b)[p]?=some (.int .i64 (b p)):=by simp [bdC,h]
theorem a7R (b:Int->Int) (p:Nat) (n:Int):(bdC b).set p (.int .i64 n)=bdC (fun x=>if x=p then n else b x):=by
 apply xg6;intro i;by_cases hi:i < 256
 ·rw [a5T _ _ hi];by_cases e:p=i
  ·subst e;rw [List.getElem?_set_self (by rw [l6];exact hi)];simp
  ·rw [List.getElem?_set_ne e,a5T _ _ hi];rw [xe7 (by omega)]
 ·rw [xh2 (by rw [xa7,l6];omega),xh2 (by rw [l6];omega)]
theorem a2F {b b':Int->Int} (h:∀ p:Int,0<=p->p<=255->b p=b' p):bdC b=bdC b':=by
 unfold bdC;apply List.map_congr_left;intro p hp;rw [xi1] at hp;rw [h p (by omega) (by omega)]
theorem a1w (b:Int->Int):(bdC b).all (·.oneCell')=true:=by simp [bdC,Value.oneCell']
theorem a9D {o:List Ar} {a:Ar} {e:Int} (h:j3 e (o++[a])) (p:Int):f6 (o++[a]) p=if a.pg<=p/\p < a.fin then a.mk' else f6 o p:=by
 rw [a4M h];simp only [f6]
 split
 ·rename_i hc;have h2:=v9.1 h;rw [a44 h2.1 (by have:=h2.2.2.1;omega)];omega
 ·omega
theorem a0W {L:List Ar} {i:Nat} {a:Ar} (ha:L[i]?=some a):L.take (i + 1)=L.take i++[a]:=by
 obtain ⟨hi,rfl⟩:=xa6.1 ha;rw [List.take_succ_eq_append_getElem hi]
theorem a66 {L:List Ar} {e:Int} (h:j3 e L) (i:Nat):j3 e (L.take i):=by
 rw [<- xj7 i L] at h;exact (v9.1 h).1
theorem a6A {o:List Ar} {a:Ar} {e:Int}:j3 e (o++[a]) ↔ j3 e o/\a.ok/\r7 e o<=a.pg:=by
 rw [v9];exact ⟨fun ⟨h1,h2,h3,_⟩=>⟨h1,h2,h3⟩,fun ⟨h1,h2,h3⟩=>⟨h1,h2,h3,trivial⟩⟩
def a29 (o:List Ar) (a:Ar) (q:Int) (x:Int):Int:=if a.pg<=x/\x < q then a.mk' else f6 o x
theorem a77 (o:List Ar) (a:Ar):bdC (a29 o a a.pg)=bdC (f6 o):=a2F fun p _ _=>by unfold a29;rw [xe7 (by omega)]
theorem a8n (o:List Ar) (a:Ar) (q:Nat) (h:a.pg<=q):(bdC (a29 o a q)).set q (.int .i64 a.mk')=bdC (a29 o a ((q:Int) + 1)):=by
 rw [a7R];refine a2F fun p _ _=>?_;unfold a29;by_cases e:p=q
 ·rw [xe6 e,xe6 (by omega)]
 ·rw [xe7 e];by_cases c:a.pg<=p/\p < q
  ·rw [xe6 c,xe6 (by omega)]
  ·rw [xe7 c,xe7 (by omega)]
theorem a91 {o:List Ar} {a:Ar} {e:Int} (h:j3 e (o++[a])):bdC (a29 o a a.fin)=bdC (f6 (o++[a])):=a2F fun p _ _=>by
 rw [a9D h];rfl
instance riseDec:(e:Int)->(l:List Ar)->Decidable (j3 e l)
 |_,[]=>isTrue trivial
 |e,a::l=>by
  unfold j3;have:=riseDec a.fin l
  infer_instance
def y6 (L:List Ar) (w:World) (e:Ending) (w':World):Prop :=
 ∃ b:Int->Int,e=.returned (.tuple #[.agg (bdC b).toArray,.bool (decide (j3 1 L))])/\Below w.heap.size w w'/\(j3 1 L->bdC b=bdC (f6 L))
theorem a9W {L:List Ar} (h:j3 1 L):1<=r7 1 L:=a33 h
theorem b06 (p:Option Addr) (c:Nat) (w:World):Calls Tryz.prog 120 #[.slice p 0 c] w (y6 [] w):=by
 have hszb:(Tryz.prog.info? 188).map (·.size)=some 256:=by kernel_rfl
 have Hszb:=hid hszb;clear hszb;have hbw:=Below.refl w.heap.size w
 go_enter Tryz.func120,Tryz.ntmps120
 go_wp2_with (first|(with_reducible refine x8 2 ?_);refine l3 rfl (some 2) rfl (bdC (fun _=>0)) 188 (by kernel_rfl) w.heap.size w hbw hbw.size ?_;intro g2 wn2 hL2 hB2 hbn hkn hnn;skip;clear hbw hkn hnn;have hbw:=hbn;clear hbn|(with_reducible refine x8 4 ?_);refine l3 rfl (some 4) rfl (bdC (fun _=>0)) 188 (by kernel_rfl) w.heap.size w hbw hbw.size ?_;intro g4 wn4 hL4 hB4 hbn hkn hnn;(try have n2_4:=hnn _ hL2.lt);(try have n4_2:=Ne.symm (hnn _ hL2.lt));(try have hL2:=hL2.kept hkn);clear hbw hkn hnn;have hbw:=hbn;clear hbn)
 go_loopw [5,6] (fun vl vi wr=>vl=.int .i64 0/\vi=.int .i64 0/\wr=wn4) (fun _ _ _=>0)
 case atStart=>exact ⟨rfl,rfl,rfl⟩
 case round=>
  obtain ⟨rfl,rfl,rfl⟩:=hrel
  go_wp2_with (first|(with_reducible refine x8 44 ?_);refine a0k rfl 188 (.tmp 4) rfl g4 (bdC (fun _=>0)) rfl hL4 _ Tryz.underlying188 rfl (by rw [Hszb.out,l6]) ?_|(with_reducible refine p7 2 ?_);refine j5 rfl 188 (.tmp 2) (.tmp 44) rfl rfl g2 (bdC (fun _=>0)) (bdC (fun _=>0)) rfl rfl hL2 (by rw [Hszb.out,l6]) (by simp [l6]) (a1w _) w.heap.size w hbw hB2 ?_;intro wp2 hLn hbn hon;(try have hL4:=hL4.other hon n4_2);clear hL2 hbw hon;have hL2:=hLn;have hbw:=hbn;clear hLn hbn)
  refine bodyPost_ret (v:=.tuple #[.agg (bdC (fun _=>0)).toArray,.bool true]) (s4 rfl _ g2 (bdC (fun _=>0)) (.bool true) _ rfl rfl hL2 Tryz.underlying188 rfl (by rw [Hszb.out,l6])) rfl ?_;exact ⟨fun _=>0,rfl,hbw,fun _=>rfl⟩
theorem b0S {L:List Ar} {w:World} (b off cap:Nat) (hbl:b < w.heap.size) (o4:∀ i a,L[i]?=some a->CellsAr w b (off + i * 4) a) (hok:∀ (i:Nat) (a:Ar),L[i]?=some a->a.ok) (hlen:L.length<=255) :
  Calls Tryz.prog 120 #[.slice (some ⟨b,off,none⟩) L.length cap] w (y6 L w):=by
 have hszb:(Tryz.prog.info? 188).map (·.size)=some 256:=by kernel_rfl
 have Hszb:=hid hszb;clear hszb;have hsz:(Tryz.prog.info? 136).map (·.size)=some 4:=by kernel_rfl
 have Hsz:=hid hsz;clear hsz;have hsz:(Tryz.prog.info? 3).map (·.size)=some 1:=by kernel_rfl
 have Hsz1:=hid hsz;clear hsz;have HL:=hid o4;have HO:=hid hok;clear o4 hok;have hbw:=Below.refl w.heap.size w
 go_enter Tryz.func120,Tryz.ntmps120
 go_wp2_with (first|(with_reducible refine x8 2 ?_);refine l3 rfl (some 2) rfl (bdC (fun _=>0)) 188 (by kernel_rfl) w.heap.size w hbw hbw.size ?_;intro g2 wn2 hL2 hB2 hbn hkn hnn;skip;clear hbw hkn hnn;have hbw:=hbn;clear hbn|(with_reducible refine x8 4 ?_);refine l3 rfl (some 4) rfl (bdC (fun _=>0)) 188 (by kernel_rfl) w.heap.size w hbw hbw.size ?_;intro g4 wn4 hL4 hB4 hbn hkn hnn;(try have n2_4:=hnn _ hL2.lt);(try have n4_2:=Ne.symm (hnn _ hL2.lt));(try have hL2:=hL2.kept hkn);clear hbw hkn hnn;have hbw:=hbn;clear hbn)
 go_loopw [5,6] (fun vl vi wr=>∃ i:Nat,i<=L.length/\vi=.int .i64 i/\vl=.int .i64 (r7 1 (L.take i) - 1)/\Below w.heap.size w wr/\HoldL wr g4 (bdC (f6 (L.take i)))/\HoldL wr g2 (bdC (fun _=>0))/\Hid (j3 1 (L.take i))) (fun _ vi _=>L.length - (intOf vi).toNat)
 case atStart=>exact ⟨0,by omega,rfl,rfl,hbw,hL4,hL2,trivial⟩
 case round=>
  clear hbw hL4 hL2;obtain ⟨i,hi,rfl,rfl,hbw,hL4,hL2,HR⟩:=hrel;by_cases hlt:i < L.length
  ·obtain ⟨a,ha⟩:∃ a,L[i]?=some a:=⟨L[i],by simp [hlt]⟩;obtain ⟨c0,c1,c2,c3⟩:=(HL.out i a ha).grown hbw hbl;have hao:=HO.out i a ha;have hbr:=a1z (xb6 hbl hbw.size);have HT:=hid (a0W ha);by_cases hr:r7 1 (L.take i)<=a.pg
   ·have HX:Hid (j3 1 (L.take i++[a])):=a6A.2 ⟨HR.out,hao,hr⟩;have hpos:=a9W HR.out;have hok:=hao;unfold Ar.ok at hok;have hfin:a.fin=a.pg + a.n:=rfl;have hw1:wrap64 (a.pg + a.n)=a.fin:=by rw [hfin];exact j0 _ (by omega) (by omega)
    have hw2:wrap64 (a.fin - 1)=a.fin - 1:=by rw [hfin];exact j0 _ (by omega) (by omega)
    have hlt2:r7 1 (L.take i) - 1 < a.pg:=by omega
    obtain ⟨q0,hq0⟩:=xo6 (show 0<=a.pg by omega);have hmk:Hid (a.mk'=1 + 2 * a.prot + (if a.z then 8 else 0)):=hid rfl;have HM:=hid (fun w=>a5h (a5H a.prot a.z ⟨by omega,by omega⟩ w));rw [<- hmk.out] at HM;have HS:=hid (a77 (L.take i) a);have HE:=hid (a91 HX.out);have HP:=hid (fun q:Nat=>a8n (L.take i) a q);have HK:=hid (show ∀ q:Nat,(q:Int) < a.fin->q < 256 from fun q h=>by omega);have hqb:(q0:Int)<=a.fin:=by omega
    have HQ:=hid hq0;clear hr hao hok hpos hfin hq0;have HLT:=hid hlt;generalize hlst:r7 1 (L.take i) - 1=lst at *;clear hlst
    go_wp2_with (first|(with_reducible refine x8 7 ?_);refine l3 rfl (some 7) rfl (zl4) 136 (by kernel_rfl) w.heap.size w hbw hbw.size ?_;intro g7 wn7 hL7 hB7 hbn hkn hnn;(try have n2_7:=hnn _ hL2.lt);(try have n7_2:=Ne.symm (hnn _ hL2.lt));(try have hL2:=hL2.kept hkn);(try have n4_7:=hnn _ hL4.lt);(try have n7_4:=Ne.symm (hnn _ hL4.lt));(try have hL4:=hL4.kept hkn);clear hbw hkn hnn;have hbw:=hbn;clear hbn|((with_reducible refine p7 7 ?_);refine j5 rfl 136 (.tmp 7) (.tmp 18) rfl rfl g7 ([.int .i64 a.pg,.int .i64 a.n,.int .i64 a.prot,.bool a.z]) (zl4) rfl rfl hL7 Hsz.out rfl rfl w.heap.size w hbw hB7 ?_;intro wp7 hLn hbn hon;(try have hL2:=hL2.other hon n2_7);(try have hL4:=hL4.other hon n4_7);clear hL7 hbw hon;have hL7:=hLn;have hbw:=hbn;clear hLn hbn);have d0:wp7.cell? ⟨g7,0,none⟩=some (.int .i64 a.pg):=hL7.cell 0;have d1:wp7.cell? ⟨g7,1,none⟩=some (.int .i64 a.n):=hL7.cell 1)
    rw [hw1,hw2];clear hw1 hw2
    go_loopw [8] (fun vp wr=>∃ q:Nat,(a.pg<=q/\(q:Int)<=a.fin)/\vp=.int .i64 q/\Below w.heap.size w wr/\HoldL wr g4 (bdC (a29 (L.take i) a q))/\HoldL wr g2 (bdC (fun _=>0))/\HoldL wr g7 [.int .i64 a.pg,.int .i64 a.n,.int .i64 a.prot,.bool a.z]) (fun vp _=>(a.fin - intOf vp).toNat)
    case atStart=>
     refine ⟨q0,⟨Int.le_of_eq HQ.out,hqb⟩,by rw [HQ.out],hbw,?_,hL2,hL7⟩;have:=HS.out;rw [HQ.out] at this;rw [this];exact hL4
    case round=>
     clear hbw hL4 hL2 hL7;obtain ⟨q,⟨hq1,hq2⟩,rfl,hbw,hL4,hL2,hL7⟩:=hrel;have e2:=hL7.cell 2;have e3:=hL7.cell 3;by_cases hq:(q:Int) < a.fin
     ·have hq256:=HK.out q hq;have hq6:(q:Int) < 256:=by omega
      have hle:(q:Int)<=a.fin - 1:=by omega
      have HMONO:Hid (a.pg<=((q + 1:Nat):Int)/\((q + 1:Nat):Int)<=a.fin):=hid (by omega);have HMS:Hid ((a.fin - ((q:Int) + 1)).toNat < (a.fin - (q:Int)).toNat):=hid (by omega);have HWS:Hid (wrap64 ((q:Int) + 1)=(q:Int) + 1):=hid (j0 _ (by omega) (by omega));have HQ1:=hid hq1;clear hq1 hq2 hq hq256
      go_wp2_with (first|(go_at_call 121;(with_reducible refine (HM.out _).mono ?_);rintro e wc ⟨rfl,hbc⟩);have hL4:=hL4.grown hbc hL4.lt;have hL2:=hL2.grown hbc hL2.lt;have hL7:=hL7.grown hbc hL7.lt;have hbn:=bt hbw hbc;clear hbw hbc;have hbw:=hbn;clear hbn|(with_reducible refine p7 43 ?_);refine a0O rfl 3 (.tmp 43) (.tmp 42) rfl rfl Hsz1.out g4 q a.mk' rfl rfl (bdC (a29 (L.take i) a q)) hL4 (by rw [l6];exact Int.ofNat_lt.1 hq6) w.heap.size w hbw hB4 ?_;intro w6 hL46 hbw6 ho6;rw [HP.out q HQ1.out] at hL46;have hL2:=hL2.other ho6 n2_4;have hL7:=hL7.other ho6 n7_4)
      go_roundw
      case rel=>exact ⟨q + 1,HMONO.out,rfl,hbw6,hL46,hL2,hL7⟩
      case measure=>exact HMS.out
     ·have hqe:(q:Int)=a.fin:=by omega
      have hnl:a.fin - 1 < (q:Int):=by omega
      rw [hqe,HE.out] at hL4;have HQE:=hid hqe;clear hqe;have HWI:Hid (wrap64 ((i:Int) + 1)=(i:Int) + 1):=hid (j0 _ (by omega) (by omega));have HMS:Hid (L.length - ((i:Int) + 1).toNat < L.length - (i:Int).toNat):=hid (by omega);clear hq1 hq2 hq
      go_wp2
      refine ⟨⟨i + 1,hlt,rfl,?_,hbw,?_,hL2,?_⟩,?_⟩
      ·rw [HT.out,a9J]
      ·rw [HT.out];exact hL4
      ·rw [HT.out];exact HX.out
      ·exact HMS.out
   ·have HX:Hid (¬ j3 1 L):=fun h=>by
     have:=a66 h (i + 1);rw [HT.out,a6A] at this;exact hr this.2.2
    have hle:a.pg<=r7 1 (L.take i) - 1:=by omega
    clear hr HT hao;generalize r7 1 (L.take i) - 1=lst at *;generalize f6 (L.take i)=bb at *
    go_wp2_with (first|(with_reducible refine x8 7 ?_);refine l3 rfl (some 7) rfl (zl4) 136 (by kernel_rfl) w.heap.size w hbw hbw.size ?_;intro g7 wn7 hL7 hB7 hbn hkn hnn;(try have n2_7:=hnn _ hL2.lt);(try have n7_2:=Ne.symm (hnn _ hL2.lt));(try have hL2:=hL2.kept hkn);(try have n4_7:=hnn _ hL4.lt);(try have n7_4:=Ne.symm (hnn _ hL4.lt));(try have hL4:=hL4.kept hkn);clear hbw hkn hnn;have hbw:=hbn;clear hbn|((with_reducible refine p7 7 ?_);refine j5 rfl 136 (.tmp 7) (.tmp 18) rfl rfl g7 ([.int .i64 a.pg,.int .i64 a.n,.int .i64 a.prot,.bool a.z]) (zl4) rfl rfl hL7 Hsz.out rfl rfl w.heap.size w hbw hB7 ?_;intro wp7 hLn hbn hon;(try have hL2:=hL2.other hon n2_7);(try have hL4:=hL4.other hon n4_7);clear hL7 hbw hon;have hL7:=hLn;have hbw:=hbn;clear hLn hbn);have d0:wp7.cell? ⟨g7,0,none⟩=some (.int .i64 a.pg):=hL7.cell 0|(with_reducible refine x8 23 ?_);refine a0k rfl 188 (.tmp 4) rfl g4 (bdC bb) rfl hL4 _ Tryz.underlying188 rfl (by rw [Hszb.out,l6]) ?_|(with_reducible refine p7 2 ?_);refine j5 rfl 188 (.tmp 2) (.tmp 23) rfl rfl g2 (bdC bb) (bdC (fun _=>0)) rfl rfl hL2 (by rw [Hszb.out,l6]) (by simp [l6]) (a1w _) w.heap.size w hbw hB2 ?_;intro wp2 hLn hbn hon;(try have hL4:=hL4.other hon n4_2);(try have hL7:=hL7.other hon n7_2);clear hL2 hbw hon;have hL2:=hLn;have hbw:=hbn;clear hLn hbn)
    refine bodyPost_ret (v:=.tuple #[.agg (bdC bb).toArray,.bool false]) (s4 rfl _ g2 (bdC bb) (.bool false) _ rfl rfl hL2 Tryz.underlying188 rfl (by rw [Hszb.out,l6])) rfl ?_;exact ⟨bb,by rw [xi7 HX.out],hbw,fun h=>absurd h HX.out⟩
  ·have:i=L.length:=by omega
   subst this;rw [xg1] at hL4 HR
   go_wp2_with (first|(with_reducible refine x8 44 ?_);refine a0k rfl 188 (.tmp 4) rfl g4 (bdC (f6 L)) rfl hL4 _ Tryz.underlying188 rfl (by rw [Hszb.out,l6]) ?_|(with_reducible refine p7 2 ?_);refine j5 rfl 188 (.tmp 2) (.tmp 44) rfl rfl g2 (bdC (f6 L)) (bdC (fun _=>0)) rfl rfl hL2 (by rw [Hszb.out,l6]) (by simp [l6]) (a1w _) w.heap.size w hbw hB2 ?_;intro wp2 hLn hbn hon;(try have hL4:=hL4.other hon n4_2);clear hL2 hbw hon;have hL2:=hLn;have hbw:=hbn;clear hLn hbn)
   refine bodyPost_ret (v:=.tuple #[.agg (bdC (f6 L)).toArray,.bool true]) (s4 rfl _ g2 (bdC (f6 L)) (.bool true) _ rfl rfl hL2 Tryz.underlying188 rfl (by rw [Hszb.out,l6])) rfl ?_;exact ⟨f6 L,by rw [xi8 HR.out],hbw,fun _=>rfl⟩
def a0h (L:List Ar):List Value:=L.flatMap arC
theorem a27 (L:List Ar):(a0h L).length=L.length * 4:=by
 induction L with
 |nil=>rfl
 |cons a L ih=>unfold a0h at *;simp [arC,ih];omega
theorem a1g (L:List Ar) (a:Ar):a0h (L++[a])=a0h L++arC a:=by simp [a0h]
theorem b04 (L:List Ar) (a:Ar) (n:Int):a0h (L++[{ a with n:=n }])=(a0h (L++[a])).set (L.length * 4 + 1) (.int .i64 n):=by
 rw [a1g,a1g,xf0 _ _ (by rw [a27];omega),a27,show L.length * 4 + 1 - L.length * 4=1 by omega];rfl
theorem b4G (L:List Ar) (a:Ar) (j:Nat) (h:j < 4):(a0h (L++[a]))[L.length * 4 + j]?=(arC a)[j]?:=by
 rw [a1g,xa4 (by rw [a27];omega),a27,show L.length * 4 + j - L.length * 4=j by omega]
theorem a3V {L:List Ar}:∀ {i:Nat} {a:Ar},L[i]?=some a->∀ j:Nat,j < 4->(a0h L)[i * 4 + j]?=(arC a)[j]?:=by
 induction L with
 |nil=>intro i a h;simp at h
 |cons c L ih=>
  intro i a h j hj;have e:a0h (c::L)=arC c++a0h L:=rfl;rw [e]
  cases i with
  |zero=>
   simp at h;subst h;rw [xa5 (by simp [arC];omega)];simp
  |succ i=>
   rw [xa4 (by simp [arC];omega),show (i + 1) * 4 + j - (arC c).length=i * 4 + j by simp [arC];omega];exact ih (by simpa using h) j hj
theorem a9y {w:World} {base:Nat} {e:TypeId} {v:Value} {L:List Ar} (h:w.ownsRow base e 4 v L.length (a0h L)):SlAr w v L:=by
 rcases h.2 with ⟨rfl,hn⟩|⟨g,cap,cur,rfl,hb,hg,hnc,hcm,_⟩
 ·exact xd4 ⟨_,_,rfl,xe8 hn⟩
 ·have hlt:=(xb7.1 hg).1;refine xd1 ⟨g,0,cap,rfl,hlt,hnc,hcm,fun i a ha=>?_⟩;obtain ⟨hi,_⟩:=xa6.1 ha;refine ⟨?_,?_,?_,?_⟩
  ·have:=h.cellAt (i * 4 + 0) (by omega);rw [a3V ha 0 (by decide)] at this;simpa [arC] using this
  ·have:=h.cellAt (i * 4 + 1) (by omega);rw [a3V ha 1 (by decide)] at this;simpa [arC] using this
  ·have:=h.cellAt (i * 4 + 2) (by omega);rw [a3V ha 2 (by decide)] at this;simpa [arC] using this
  ·have:=h.cellAt (i * 4 + 3) (by omega);rw [a3V ha 3 (by decide)] at this;simpa [arC] using this
theorem t4 {w w':World} {base:Nat} {e:TypeId} {size n:Nat} {v:Value} {xs:List Value} (h:w.ownsRow base e size v n xs) (hb:Below w.heap.size w w'):w'.ownsRow base e size v n xs:=by
 refine ⟨h.1,?_⟩;rcases h.2 with hn|⟨g,cap,cur,rfl,hbg,hgg,rest⟩
 ·exact .inl hn
 ·exact .inr ⟨g,cap,cur,rfl,hbg,by rw [hb.block g (xb7.1 hgg).1];exact hgg,rest⟩
theorem b1f (b:Int->Int) (k:Nat):∀ a ∈ v7 b k,1<=a.pg/\1<=a.n:=by
 induction k with
 |zero=>intro a h;simp [v7] at h
 |succ k ih=>
  unfold v7 a18
  split
  ·exact ih
  split
  ·intro a h;rcases List.eq_nil_or_concat (v7 b k) with e|⟨l,c,e⟩
   ·rw [e] at h;simp [a1x] at h
   ·rw [e] at ih h;simp only [List.concat_eq_append] at ih h;rw [a2g] at h;rcases xd9.1 h with h|h
    ·exact ih a (xd9.2 (xd4 h))
    ·have:a={ c with n:=c.n + 1 }:=by simpa using h
     subst this;have:=ih c (by simp);exact ⟨this.1,by simp only;omega⟩
  ·intro a h;rcases xd9.1 h with h|h
   ·exact ih a h
   ·rw [xn4] at h;rw [h];exact ⟨by simp only;omega,by simp only;omega⟩
theorem b1F (b:Int->Int) (k:Nat):(v7 b k).length<=k:=by
 induction k with
 |zero=>simp [v7]
 |succ k ih=>
  unfold v7 a18
  split
  ·omega
  split
  ·rcases List.eq_nil_or_concat (v7 b k) with e|⟨l,c,e⟩
   ·rw [e];simp [a1x]
   ·rw [e] at ih |-;simp only [List.concat_eq_append] at ih |-;rw [a2g];simp at ih |-;omega
  ·simp;omega
def b0p (base:Nat) (w:World) (v:Value) (L:List Ar):Prop:=w.ownsRow base 136 4 v L.length (a0h L)
theorem a2X {w:World} {base base':Nat} {v:Value} {L:List Ar} (h:w.ownsRow base 136 4 v L.length (a0h L)) (hb:base'<=base):b0p base' w v L:=by
 refine ⟨h.1,?_⟩;rcases h.2 with hn|⟨g,cap,cur,rfl,hg,rest⟩
 ·exact .inl hn
 ·exact .inr ⟨g,cap,cur,rfl,xd3 hb hg,rest⟩
def a7i (L:List Ar) (w:World) (e:Ending) (w':World):Prop:=∃ v,e=.returned v/\b0p w.heap.size w' v L/\Below w.heap.size w w'
theorem a3h:∃ i,(Tryz.prog).info? 136=some i/\i.zero=some (.agg #[.int .i64 0,.int .i64 0,.int .i64 0,.bool false])/\i.size=4/\i.bytes=32:=by
 have h:((Tryz.prog).info? 136).map (fun i=>(i.zero,i.size,i.bytes))=some (some (.agg #[.int .i64 0,.int .i64 0,.int .i64 0,.bool false]),4,32):=by kernel_rfl
 cases hq:(Tryz.prog).info? 136 with
 |none=>simp [hq] at h
 |some i=>
  simp [hq] at h;exact ⟨i,rfl,h.1,h.2.1,h.2.2⟩
theorem a3o (W:World) (c0 c1 c2 c3:Value) (t:TypeId):∀ (j:Nat) (u:Value),[c0,c1,c2,c3][j]?=some u->(W.alloc (.cells #[c0,c1,c2,c3] t)).cell? ((⟨W.heap.size,0,none⟩:Addr).add j)=some u:=by
 intro j u h;rw [show (⟨W.heap.size,0,none⟩:Addr).add j=⟨W.heap.size,j,none⟩ from by unfold Addr.add;split <;> simp_all];rw [World.cell?_alloc_mark,<- h];simp
theorem ms4 {k:Nat} (h:k < 255):(256 - ((k:Int) + 1 + 1)).toNat < (256 - ((k:Int) + 1)).toNat:=by omega
theorem a1y (b:Int->Int) (hm:∀ p,a7M (b p)) (h0:b 0=0) (w:World):Calls Tryz.prog 122 #[.agg (bdC b).toArray] w (a7i (v7 b 255) w):=by
 obtain ⟨i0,hi0,hz0,hs0,hy0⟩:=a3h;have HI:=hid hi0;have HZ:=hid hz0;have HSZ:=hid hs0;have HY:=hid hy0;have HA:=hid (a43 b hm h0);have HP:=hid (b1f b);have HN:=hid (b1F b);have HM:=hid hm;have HB:=hid (a5T b);clear hi0 hz0 hs0 hy0 hm h0;have hbw:=Below.refl w.heap.size w;obtain ⟨B,hB⟩:∃ B,B=bdC b:=⟨_,rfl⟩;rw [<- hB] at HB |-;clear hB
 go_enter Tryz.func122,Tryz.ntmps122
 go_wp2_with (first|(with_reducible refine x8 1 ?_);refine a47 rfl 188 (.tmp 0) rfl (some 1) rfl (B) rfl w.heap.size w hbw hbw.size ?_;intro g1 wn1 hL1 hB1 hbn hkn hnn;skip;clear hbw hkn hnn;have hbw:=hbn;clear hbn)
 go_loopw [3,4] (fun vo vp wr=>∃ k:Nat,k<=255/\vp=.int .i64 ((k:Int) + 1)/\Below wn1.heap.size wn1 wr/\wr.ownsRow wn1.heap.size 136 4 vo (v7 b k).length (a0h (v7 b k))) (fun _ vp _=>(256 - intOf vp).toNat)
 case atStart=>exact ⟨0,by omega,rfl,Below.refl _ _,World.ownsRow_nil _ _ _ _⟩
 case round=>
  obtain ⟨k,hk,rfl,hb2,hown⟩:=hrel;by_cases hlt:k < 255
  ·have h1b:=hL1.grown hb2 hL1.lt;have e0:=(h1b.cell k).trans (HB.out k (by omega));have e1:=(h1b.cell (k + 1)).trans (HB.out (k + 1) (by omega));rw [show ((k + 1:Nat):Int)=(k:Int) + 1 by omega] at e1;have z1:=a1z h1b.lt;have HS:Hid (v7 b (k + 1)=a18 b (v7 b k) ((k:Int) + 1)):=hid rfl;by_cases c1:b ((k:Int) + 1)=0
   ·have c1':(b ((k:Int) + 1) == 0)=true:=by simpa using c1
    have HX:Hid (v7 b (k + 1)=v7 b k):=by refine hid ?_;rw [HS.out];unfold a18;rw [xe6 c1]
    clear c1;generalize b ((k:Int) + 1)=bp at *;have HMS:=hid (ms4 hlt)
    go_wp2
    exact ⟨⟨k + 1,hlt,rfl,hb2,by rw [HX.out];exact hown⟩,HMS.out⟩
   have c1':(b ((k:Int) + 1) == 0)=false:=by simpa using c1
   have hmk:=HM.out ((k:Int) + 1);by_cases c2:b k=b ((k:Int) + 1)
   ·have c2':(b k == b ((k:Int) + 1))=true:=by simpa using c2
    obtain ⟨l,a,hla,hfin⟩:=(HA.out k).2.2 (by rw [c2];exact c1);have HX:Hid (v7 b (k + 1)=l++[{ a with n:=a.n + 1 }]):=by
     refine hid ?_;rw [HS.out];unfold a18;rw [xe7 c1,xe6 (by rw [show (k:Int) + 1 - 1=k by omega];exact c2),hla,a2g]
    have hpg:=HP.out k a (by rw [hla];simp);have hfn:a.fin=a.pg + a.n:=rfl;have hw:wrap64 (a.n + 1)=a.n + 1:=by
     exact j0 _ (by omega) (by omega)
    have HF:=hid (b04 l a (a.n + 1));have HAT:=hid (b4G l a 1 (by decide));rw [hla,show (l++[a]).length=l.length + 1 by simp] at hown;have hlen:l.length<=255:=by have:=HN.out k;rw [hla] at this;simp at this;omega
    rcases hown.2 with ⟨_,h⟩|⟨g,cap,cur,rfl,hbg,hgg,hnc,hcm,hrest⟩
    ·omega
    have hglt:=(xb7.1 hgg).1;clear hgg hcm hrest cur;have HMS:=hid (ms4 hlt);clear c1 c2 hla hfin hpg hfn hmk;generalize b ((k:Int) + 1)=bp at *;generalize b k=bk at *;have t0:wr.cell? ⟨g,l.length * 4 + 1,none⟩=some (.int .i64 a.n):=(hown.cellAt (l.length * 4 + 1) (by omega)).trans HAT.out;have t1:=hown.frozenAt (l.length * 4 + 1);have zg:=a1z hglt
    go_wp2
    refine wp_region_quiet_below (by kernel_rfl) (by kernel_rfl) ?_
    repeat ((go_big_quiet_step ((fail))))
    refine wpQuiet_nil ?_;intro wq hw';obtain ⟨⟨dq,osq⟩,hw''⟩:=hw';have hbr:=n5 hw'';clear hw''
    first
     |(have hbn:=bt hbq hbr;clear hcq hfq hzq hbq hbr;have hbq:=hbn;clear hbn)
     |(have hbq:=hbr;clear hbr)
    obtain ⟨hcq,hfq,hzq⟩:=a0g hbq;have hown:=t4 hown hbq;have hb2:=bt hb2 hbq;have HS2:=hid (hown.stored (l.length * 4 + 1) (.int .i64 (a.n + 1)))
    go_wp2
    refine ⟨⟨k + 1,hlt,rfl,hb2.setCell hbg _,?_⟩,HMS.out⟩;rw [HX.out,HF.out]
    simpa using HS2.out.1
   ·have c2':(b k == b ((k:Int) + 1))=false:=by simpa using c2
    have HX:Hid (v7 b (k + 1)=v7 b k++[⟨(k:Int) + 1,1,(b ((k:Int) + 1) - 1) % 8 / 2,decide (8<=b ((k:Int) + 1) - 1)⟩]):=by
     refine hid ?_;rw [HS.out];unfold a18;rw [xe7 c1,xe7 (by rw [show (k:Int) + 1 - 1=k by omega];exact c2)]
    have HMS:=hid (ms4 hlt);have hlen:=HN.out k;have hmk2:1<=b ((k:Int) + 1)/\b ((k:Int) + 1)<=16:=by unfold a7M at hmk;omega
    obtain ⟨m1,m2⟩:=hmk2;have hr1:(b ((k:Int) + 1) - 1).tmod 8=(b ((k:Int) + 1) - 1) % 8:=Int.tmod_eq_emod_of_nonneg (by omega);have hr2:((b ((k:Int) + 1) - 1) % 8).tdiv 2=(b ((k:Int) + 1) - 1) % 8 / 2:=Int.tdiv_eq_ediv_of_nonneg (by omega);clear c1 c2 hmk;generalize v7 b k=U at *;generalize b ((k:Int) + 1)=bp at *;generalize b k=bk at *
    go_wp2
    refine wp_region_quiet_below (by kernel_rfl) (by kernel_rfl) ?_
    repeat ((go_big_quiet_step ((fail))))
    refine wpQuiet_nil ?_;intro wq hw';obtain ⟨⟨dq,osq⟩,hw''⟩:=hw';have hbr:=n5 hw'';clear hw''
    first
     |(have hbn:=bt hbq hbr;clear hcq hfq hzq hbq hbr;have hbq:=hbn;clear hbn)
     |(have hbq:=hbr;clear hbr)
    obtain ⟨hcq,hfq,hzq⟩:=a0g hbq;have hown:=t4 hown hbq;have hb2:=bt hb2 hbq
    go_wp2_with (first|(with_reducible refine x8 45 ?_);go_must (refine wpList_append_own_wide _ rfl (.tmp 36) (.tmp 44) 39 rfl wn1.heap.size 136 i0 (.agg #[.int .i64 0,.int .i64 0,.int .i64 0,.bool false]) 4 32 Tryz.underlying39 HI.out HZ.out HSZ.out HY.out rfl (by decide) u3 U.length (a0h U) rfl (hown.alloc _) ⟨wq.heap.size,0,none⟩ 1 1 [.int .i64 ((k:Int) + 1),.int .i64 1,.int .i64 ((bp - 1) % 8 / 2),.bool (decide (8<=bp - 1))] rfl rfl (a3o wq _ _ _ _ _) (by intro u hu;simp at hu;rcases hu with rfl|rfl|rfl|rfl <;> rfl) (by unfold maxLen;omega) (by omega) (by have:=hb2.size;simp;omega) ?_);intro v3 w3 hown3 hg3 hn3)
    have hb3:=(hb2.alloc hb2.size _).grown hg3 (by have:=hb2.size;simp;omega) (fun j hj=>(hown.lt j hj).1);refine ⟨⟨k + 1,hlt,rfl,hb3,?_⟩,HMS.out⟩;rw [HX.out,a1g,xe5];exact hown3
  ·go_wp2
   go_ret
   obtain rfl:k=255:=by omega
   exact ⟨_,rfl,a2X hown hbw.size,bt hbw hb2⟩
theorem a9O {A B:List Ar} (hl:A.length=B.length) (h:∀ (i:Nat) (a b:Ar),A[i]?=some a->B[i]?=some b->a=b):A=B:=by
 apply List.ext_getElem hl;intro i h1 h2;exact h i _ _ (by simp [h1]) (by simp [h2])
theorem b2D {A B:List Ar} {i:Nat} {a b:Ar} (ha:A[i]?=some a) (hb:B[i]?=some b) (h:a≠b):A≠B:=fun e=>by
 subst e;rw [ha] at hb;cases hb;exact h rfl
theorem b4B {A B:List Ar} (h:A.length≠B.length):A≠B:=fun e=>h (by rw [e])
theorem ms5 {i n:Nat} (h:i < n):n - ((i:Int) + 1).toNat < n - (i:Int).toNat:=by omega
theorem a9o (h n:Nat) (h1:h < n) (h2:n<=9223372036854775807):wrap64 ((h:Int) + 1)=(h:Int) + 1:=by unfold wrap64;omega
theorem b1r {A B:List Ar} {w:World} (b1 off1 cap1 b2 off2 cap2:Nat) (hb1:b1 < w.heap.size) (hb2:b2 < w.heap.size) (hc1:∀ i a,A[i]?=some a->CellsAr w b1 (off1 + i * 4) a) (hc2:∀ i a,B[i]?=some a->CellsAr w b2 (off2 + i * 4) a) (hl:A.length=B.length) (hmax:A.length<=9223372036854775807) :
  Calls Tryz.prog 59 #[.slice (some ⟨b1,off1,none⟩) A.length cap1,.slice (some ⟨b2,off2,none⟩) B.length cap2] w (RB (.bool (decide (A=B))) w):=by
 have HA:=hid hc1;have HB:=hid hc2;have HL:=hid hl;have HM:=hid hmax;rw [<- hl];clear hc1 hc2 hl hmax
 go_enter Tryz.func59,Tryz.ntmps59
 go_wp2
 go_loopw [5] (fun vi wr=>∃ i:Nat,i<=A.length/\vi=.int .i64 i/\Below w.heap.size w wr/\Hid (∀ (j:Nat) (a b:Ar),j < i->A[j]?=some a->B[j]?=some b->a=b)) (fun vi _=>A.length - (intOf vi).toNat)
 case atStart=>exact ⟨0,by omega,rfl,Below.refl _ _,fun j a b hj=>by omega⟩
 case round=>
  obtain ⟨i,hi,rfl,hb,HO⟩:=hrel;by_cases hlt:i < A.length
  ·obtain ⟨a,ha⟩:∃ a,A[i]?=some a:=⟨A[i],by simp [hlt]⟩;obtain ⟨b,hbb⟩:∃ b,B[i]?=some b:=⟨B[i]'(by have:=HL.out;omega),by simp⟩;obtain ⟨c0,c1,c2,c3⟩:=(HA.out i a ha).grown hb hb1;obtain ⟨d0,d1,d2,d3⟩:=(HB.out i b hbb).grown hb hb2;have z1:=a1z (xb6 hb1 hb.size);have z2:=a1z (xb6 hb2 hb.size);by_cases e:a=b
   ·have HX:=hid e;subst e;have hli:(i:Int) < A.length:=Int.ofNat_lt.2 hlt;have hws:=a9o i A.length hlt HM.out;have HMS:=hid (ms5 hlt)
    go_wp2
    refine wp_region_quiet_below (by kernel_rfl) (by kernel_rfl) ?_
    repeat (first|go_big_quiet_step ((fail))|quiet_step ((fail)))
    refine wpQuiet_nil ?_;intro wq hw';obtain ⟨⟨dq,osq⟩,hw''⟩:=hw';have hbr:=n5 hw'';clear hw''
    first
     |(have hbn:=bt hbq hbr;clear hcq hfq hzq hbq hbr;have hbq:=hbn;clear hbn)
     |(have hbq:=hbr;clear hbr)
    obtain ⟨hcq,hfq,hzq⟩:=a0g hbq
    go_wp2
    go_roundw
    case rel=>
     refine ⟨i + 1,hlt,by first|rfl|(rw [hws];rfl),bt hb hbq,fun j x y hj hx hy=>?_⟩;rcases xo5.1 hj with h|h
     ·exact HO.out j x y h hx hy
     ·subst h;rw [ha] at hx;rw [hbb] at hy;cases hx;cases hy;rfl
    case measure=>first|exact HMS.out|(rw [hws];exact HMS.out)
   ·have HX:=hid (b2D ha hbb e);by_cases e1:a.pg=b.pg
    ·by_cases e2:a.n=b.n
     ·by_cases e3:a.prot=b.prot
      ·have e4:¬ a.z=b.z:=fun h=>e (by cases a;cases b;simp_all);have f1:(a.pg == b.pg)=true:=by simpa using e1
       have f2:(a.n == b.n)=true:=by simpa using e2
       have f3:(a.prot == b.prot)=true:=by simpa using e3
       have f4:(a.z == b.z)=false:=by simpa using e4
       clear e e1 e2 e3 e4
       go_wp2
       refine wp_region_quiet_below (by kernel_rfl) (by kernel_rfl) ?_
       repeat (first|go_big_quiet_step ((fail))|quiet_step ((fail)))
       refine wpQuiet_nil ?_;intro wq hw';obtain ⟨⟨dq,osq⟩,hw''⟩:=hw';have hbr:=n5 hw'';clear hw''
       first
        |(have hbn:=bt hbq hbr;clear hcq hfq hzq hbq hbr;have hbq:=hbn;clear hbn)
        |(have hbq:=hbr;clear hbr)
       obtain ⟨hcq,hfq,hzq⟩:=a0g hbq
       go_wp2
       go_ret
       exact ⟨x5 (xi7 HX.out).symm,bt hb hbq⟩
      ·have f1:(a.pg == b.pg)=true:=by simpa using e1
       have f2:(a.n == b.n)=true:=by simpa using e2
       have f3:(a.prot == b.prot)=false:=by simpa using e3
       clear e e1 e2 e3
       go_wp2
       refine wp_region_quiet_below (by kernel_rfl) (by kernel_rfl) ?_
       repeat (first|go_big_quiet_step ((fail))|quiet_step ((fail)))
       refine wpQuiet_nil ?_;intro wq hw';obtain ⟨⟨dq,osq⟩,hw''⟩:=hw';have hbr:=n5 hw'';clear hw''
       first
        |(have hbn:=bt hbq hbr;clear hcq hfq hzq hbq hbr;have hbq:=hbn;clear hbn)
        |(have hbq:=hbr;clear hbr)
       obtain ⟨hcq,hfq,hzq⟩:=a0g hbq
       go_wp2
       go_ret
       exact ⟨x5 (xi7 HX.out).symm,bt hb hbq⟩
     ·have f1:(a.pg == b.pg)=true:=by simpa using e1
      have f2:(a.n == b.n)=false:=by simpa using e2
      clear e e1 e2
      go_wp2
      refine wp_region_quiet_below (by kernel_rfl) (by kernel_rfl) ?_
      repeat (first|go_big_quiet_step ((fail))|quiet_step ((fail)))
      refine wpQuiet_nil ?_;intro wq hw';obtain ⟨⟨dq,osq⟩,hw''⟩:=hw';have hbr:=n5 hw'';clear hw''
      first
       |(have hbn:=bt hbq hbr;clear hcq hfq hzq hbq hbr;have hbq:=hbn;clear hbn)
       |(have hbq:=hbr;clear hbr)
      obtain ⟨hcq,hfq,hzq⟩:=a0g hbq
      go_wp2
      go_ret
      exact ⟨x5 (xi7 HX.out).symm,bt hb hbq⟩
    ·have f1:(a.pg == b.pg)=false:=by simpa using e1
     clear e e1
     go_wp2
     refine wp_region_quiet_below (by kernel_rfl) (by kernel_rfl) ?_
     repeat (first|go_big_quiet_step ((fail))|quiet_step ((fail)))
     refine wpQuiet_nil ?_;intro wq hw';obtain ⟨⟨dq,osq⟩,hw''⟩:=hw';have hbr:=n5 hw'';clear hw''
     first
      |(have hbn:=bt hbq hbr;clear hcq hfq hzq hbq hbr;have hbq:=hbn;clear hbn)
      |(have hbq:=hbr;clear hbr)
     obtain ⟨hcq,hfq,hzq⟩:=a0g hbq
     go_wp2
     go_ret
     exact ⟨x5 (xi7 HX.out).symm,bt hb hbq⟩
  ·go_wp2
   go_ret
   obtain rfl:i=A.length:=by omega
   exact ⟨x5 (xi8 (a9O HL.out fun j x y hx hy=>HO.out j x y (xa6.1 hx).1 hx hy)).symm,hb⟩
def jn (L:List Ar) (i:Nat):List Ar:=(L.take i).foldl o6 []
theorem a74 {L:List Ar} {i:Nat} {a:Ar} (ha:L[i]?=some a):jn L (i + 1)=o6 (jn L i) a:=by
 unfold jn;rw [a0W ha,xm7];rfl
theorem b6t (L:List Ar):jn L L.length=a3L L:=by unfold jn a3L;rw [xg1]
theorem b4h {L:List Ar} (h:j3 1 L) (i:Nat):a1D (jn L i):=(a4X (a66 h i)).1
theorem a7N (J:List Ar) (a:Ar):(o6 J a).length<=J.length + 1:=by
 unfold o6
 split
 ·split <;> simp
 ·simp
theorem b6m (L:List Ar) (i:Nat) (hi:i<=L.length):(jn L i).length<=i:=by
 induction i with
 |zero=>simp [jn]
 |succ i ih=>
  have ha:L[i]?=some (L[i]'(by omega)):=by simp
  rw [a74 ha];have:=a7N (jn L i) (L[i]'(by omega));have:=ih (by omega);omega
theorem b46 {J:List Ar} {a:Ar} (h:∀ b,J.getLast?=some b->¬ b.alike a):o6 J a=J++[a]:=by
 unfold o6
 cases hg:J.getLast? with
 |none=>rfl
 |some b=>simp only;rw [xe7 (h b hg)]
theorem b1Y {o:List Ar} {a b:Ar} (h:b.alike a):o6 (o++[b]) a=o++[{ b with n:=b.n + a.n }]:=by
 unfold o6;rw [List.getLast?_append];simp [h]
def tab:Tab:=[
 (3,.sc (.int .i64) 1 (.int .i64 0)),
 (27,.st 5 [(0,1,false),(1,1,false),(2,1,false),(3,1,false),(4,1,false)] [.slice none 0 0,.slice none 0 0,.slice none 0 0,.slice none 0 0,.int .i64 0]),
 (39,.sl 136 4 32 true [.int .i64 0,.int .i64 0,.int .i64 0,.bool false]),
 (136,.st 4 [(0,1,false),(1,1,false),(2,1,false),(3,1,false)] [.int .i64 0,.int .i64 0,.int .i64 0,.bool false]),
 (45,.st 7 [(0,5,true),(5,1,false),(6,1,false)] [.slice none 0 0,.slice none 0 0,.slice none 0 0,.slice none 0 0,.int .i64 0,.slice none 0 0,.slice none 0 0]),
 (137,.sl 145 2 24 true [.int .i64 0,.string ⟨#[]⟩]),
 (76,.sl 82 3 24 true [.int .i64 0,.int .i64 0,.int .i64 0]),
 (82,.st 3 [(0,1,false),(1,1,false),(2,1,false)] [.int .i64 0,.int .i64 0,.int .i64 0]),
 (9,.sc .string 1 (.string ⟨#[]⟩)),
 (78,.st 3 [(0,1,false),(1,1,false),(2,1,false)] [.bool false,.slice none 0 0,.slice none 0 0]),
 (145,.st 2 [(0,1,false),(1,1,false)] [.int .i64 0,.string ⟨#[]⟩]),
 (123,.st 13 [(0,8,true),(8,1,false),(9,1,false),(10,1,false),(11,2,true)] [.int .i64 0,.int .i64 0,.int .i64 0,.int .i64 0,.int .i64 0,.int .i64 0,.int .i64 0,.int .i64 0,.int .i64 0,.int .i64 0,.int .i64 0,.int .i64 0,.int .i64 0]),
 (25,.sl 78 3 56 true [.bool false,.slice none 0 0,.slice none 0 0]),
 (164,.st 5 [(0,1,false),(1,1,false),(2,1,false),(3,1,false),(4,1,false)] [.int .i64 0,.int .i64 0,.int .i64 0,.int .i64 0,.int .i64 0]),
 (99,.st 2 [(0,1,false),(1,1,false)] [.int .i64 0,.int .i64 0]),
 (41,.st 3 [(0,1,false),(1,1,false),(2,1,false)] [.slice none 0 0,.slice none 0 0,.int .i64 0]),
 (23,.sl 84 4 32 true [.string ⟨#[]⟩,.int .i64 0,.bool false,.bool false]),
 (42,.sl 123 13 104 true [.int .i64 0,.int .i64 0,.int .i64 0,.int .i64 0,.int .i64 0,.int .i64 0,.int .i64 0,.int .i64 0,.int .i64 0,.int .i64 0,.int .i64 0,.int .i64 0,.int .i64 0]),
 (142,.st 3 [(0,1,false),(1,1,false),(2,1,false)] [.int .i64 0,.string ⟨#[]⟩,.slice none 0 0]),
 (22,.sl 142 3 48 true [.int .i64 0,.string ⟨#[]⟩,.slice none 0 0]),
 (63,.st 4 [(0,1,false),(1,1,false),(2,1,false),(3,1,false)] [.int .i64 0,.slice none 0 0,.slice none 0 0,.slice none 0 0]),
 (139,.st 3 [(0,1,false),(1,1,false),(2,1,false)] [.bool false,.slice none 0 0,.slice none 0 0]),
 (24,.sl 88 2 24 true [.string ⟨#[]⟩,.int .i64 0]),
 (84,.st 4 [(0,1,false),(1,1,false),(2,1,false),(3,1,false)] [.string ⟨#[]⟩,.int .i64 0,.bool false,.bool false]),
 (43,.sl 120 2 16 true [.int .i64 0,.int .i64 0]),
 (61,.sl 139 3 56 true [.bool false,.slice none 0 0,.slice none 0 0]),
 (172,.st 6 [(0,1,false),(1,1,false),(2,1,false),(3,1,false),(4,1,false),(5,1,false)] [.string ⟨#[]⟩,.slice none 0 0,.slice none 0 0,.slice none 0 0,.slice none 0 0,.int .i64 0]),
 (121,.ar 8 8 1 false [.int .i64 0,.int .i64 0,.int .i64 0,.int .i64 0,.int .i64 0,.int .i64 0,.int .i64 0,.int .i64 0]),
 (4,.sc .bool 1 (.bool false)),
 (53,.sl 3 1 8 false [.int .i64 0]),
 (86,.st 7 [(0,5,true),(5,1,false),(6,1,false)] [.slice none 0 0,.slice none 0 0,.slice none 0 0,.slice none 0 0,.int .i64 0,.int .i64 0,.slice none 0 0]),
 (166,.st 5 [(0,1,false),(1,1,false),(2,1,false),(3,1,false),(4,1,false)] [.int .i64 0,.int .i64 0,.string ⟨#[]⟩,.bool false,.bool false]),
 (221,.st 5 [(0,1,false),(1,1,false),(2,1,false),(3,1,false),(4,1,false)] [.int .i64 0,.int .i64 0,.int .i64 0,.int .i64 0,.int .i64 0]),
 (140,.sl 156 2 24 true [.int .i64 0,.string ⟨#[]⟩]),
 (88,.st 2 [(0,1,false),(1,1,false)] [.string ⟨#[]⟩,.int .i64 0]),
 (188,.ar 256 256 1 false [.int .i64 0,.int .i64 0,.int .i64 0,.int .i64 0,.int .i64 0,.int .i64 0,.int .i64 0,.int .i64 0,.int .i64 0,.int .i64 0,.int .i64 0,.int .i64 0,.int .i64 0,.int .i64 0,.int .i64 0,.int .i64 0,.int .i64 0,.int .i64 0,.int .i64 0,.int .i64 0,.int .i64 0,.int .i64 0,.int .i64 0,.int .i64 0,.int .i64 0,.int .i64 0,.int .i64 0,.int .i64 0,.int .i64 0,.int .i64 0,.int .i64 0,.int .i64 0,.int .i64 0,.int .i64 0,.int .i64 0,.int .i64 0,.int .i64 0,.int .i64 0,.int .i64 0,.int .i64 0,.int .i64 0,.int .i64 0,.int .i64 0,.int .i64 0,.int .i64 0,.int .i64 0,.int .i64 0,.int .i64 0,.int .i64 0,.int .i64 0,.int .i64 0,.int .i64 0,.int .i64 0,.int .i64 0,.int .i64 0,.int .i64 0,.int .i64 0,.int .i64 0,.int .i64 0,.int .i64 0,.int .i64 0,.int .i64 0,.int .i64 0,.int .i64 0,.int .i64 0,.int .i64 0,.int .i64 0,.int .i64 0,.int .i64 0,.int .i64 0,.int .i64 0,.int .i64 0,.int .i64 0,.int .i64 0,.int .i64 0,.int .i64 0,.int .i64 0,.int .i64 0,.int .i64 0,.int .i64 0,.int .i64 0,.int .i64 0,.int .i64 0,.int .i64 0,.int .i64 0,.int .i64 0,.int .i64 0,.int .i64 0,.int .i64 0,.int .i64 0,.int .i64 0,.int .i64 0,.int .i64 0,.int .i64 0,.int .i64 0,.int .i64 0,.int .i64 0,.int .i64 0,.int .i64 0,.int .i64 0,.int .i64 0,.int .i64 0,.int .i64 0,.int .i64 0,.int .i64 0,.int .i64 0,.int .i64 0,.int .i64 0,.int .i64 0,.int .i64 0,.int .i64 0,.int .i64 0,.int .i64 0,.int .i64 0,.int .i64 0,.int .i64 0,.int .i64 0,.int .i64 0,.int .i64 0,.int .i64 0,.int .i64 0,.int .i64 0,.int .i64 0,.int .i64 0,.int .i64 0,.int .i64 0,.int .i64 0,.int .i64 0,.int .i64 0,.int .i64 0,.int .i64 0,.int .i64 0,.int .i64 0,.int .i64 0,.int .i64 0,.int .i64 0,.int .i64 0,.int .i64 0,.int .i64 0,.int .i64 0,.int .i64 0,.int .i64 0,.int .i64 0,.int .i64 0,.int .i64 0,.int .i64 0,.int .i64 0,.int .i64 0,.int .i64 0,.int .i64 0,.int .i64 0,.int .i64 0,.int .i64 0,.int .i64 0,.int .i64 0,.int .i64 0,.int .i64 0,.int .i64 0,.int .i64 0,.int .i64 0,.int .i64 0,.int .i64 0,.int .i64 0,.int .i64 0,.int .i64 0,.int .i64 0,.int .i64 0,.int .i64 0,.int .i64 0,.int .i64 0,.int .i64 0,.int .i64 0,.int .i64 0,.int .i64 0,.int .i64 0,.int .i64 0,.int .i64 0,.int .i64 0,.int .i64 0,.int .i64 0,.int .i64 0,.int .i64 0,.int .i64 0,.int .i64 0,.int .i64 0,.int .i64 0,.int .i64 0,.int .i64 0,.int .i64 0,.int .i64 0,.int .i64 0,.int .i64 0,.int .i64 0,.int .i64 0,.int .i64 0,.int .i64 0,.int .i64 0,.int .i64 0,.int .i64 0,.int .i64 0,.int .i64 0,.int .i64 0,.int .i64 0,.int .i64 0,.int .i64 0,.int .i64 0,.int .i64 0,.int .i64 0,.int .i64 0,.int .i64 0,.int .i64 0,.int .i64 0,.int .i64 0,.int .i64 0,.int .i64 0,.int .i64 0,.int .i64 0,.int .i64 0,.int .i64 0,.int .i64 0,.int .i64 0,.int .i64 0,.int .i64 0,.int .i64 0,.int .i64 0,.int .i64 0,.int .i64 0,.int .i64 0,.int .i64 0,.int .i64 0,.int .i64 0,.int .i64 0,.int .i64 0,.int .i64 0,.int .i64 0,.int .i64 0,.int .i64 0,.int .i64 0,.int .i64 0,.int .i64 0,.int .i64 0,.int .i64 0,.int .i64 0,.int .i64 0,.int .i64 0,.int .i64 0,.int .i64 0,.int .i64 0,.int .i64 0,.int .i64 0,.int .i64 0,.int .i64 0,.int .i64 0,.int .i64 0,.int .i64 0,.int .i64 0]),
 (71,.sc (.pointer 86) 1 (.pointer none)),
 (167,.sl 166 5 40 true [.int .i64 0,.int .i64 0,.string ⟨#[]⟩,.bool false,.bool false]),
 (179,.sl 5 1 1 false [.int .u8 0]),
 (216,.st 3 [(0,1,false),(1,1,false),(2,1,false)] [.nilIface,.slice none 0 0,.slice none 0 0]),
 (156,.st 2 [(0,1,false),(1,1,false)] [.int .i64 0,.string ⟨#[]⟩]),
 (202,.sl 268 7 56 true [.int .i64 0,.int .i64 0,.int .i64 0,.int .i64 0,.int .i64 0,.int .i64 0,.bool false]),
 (168,.sl 9 1 16 false [.string ⟨#[]⟩]),
 (250,.st 7 [(0,6,true),(6,1,false)] [.string ⟨#[]⟩,.slice none 0 0,.slice none 0 0,.slice none 0 0,.slice none 0 0,.int .i64 0,.int .i64 0]),
 (334,.st 3 [(0,1,false),(1,1,false),(2,1,false)] [.bool false,.bool false,.bool false]),
 (292,.st 2 [(0,1,false),(1,1,false)] [.int .i64 0,.slice none 0 0]),
 (375,.sc (.func #[145,145] #[3] false) 1 (.nilFunc)),
 (240,.sl 172 6 120 true [.string ⟨#[]⟩,.slice none 0 0,.slice none 0 0,.slice none 0 0,.slice none 0 0,.int .i64 0]),
 (300,.st 3 [(0,1,false),(1,1,false),(2,1,false)] [.int .i64 0,.string ⟨#[]⟩,.int .i64 0]),
 (246,.st 4 [(0,1,false),(1,1,false),(2,1,false),(3,1,false)] [.map none,.map none,.slice none 0 0,.int .i64 0]),
 (244,.sl 250 7 128 true [.string ⟨#[]⟩,.slice none 0 0,.slice none 0 0,.slice none 0 0,.slice none 0 0,.int .i64 0,.int .i64 0]),
 (5,.sc (.int .u8) 1 (.int .u8 0)),
 (336,.sc (.map 3 334) 1 (.map none)),
 (324,.st 2 [(0,1,false),(1,1,false)] [.string ⟨#[]⟩,.int .i64 0]),
 (95,.sc (.pointer 27) 1 (.pointer none)),
 (285,.sc (.int .u64) 1 (.int .u64 0)),
 (120,.st 2 [(0,1,false),(1,1,false)] [.int .i64 0,.int .i64 0]),
 (169,.sl 324 2 24 true [.string ⟨#[]⟩,.int .i64 0]),
 (392,.sc (.int .u64) 1 (.int .u64 0)),
 (210,.st 5 [(0,5,true)] [.slice none 0 0,.slice none 0 0,.slice none 0 0,.slice none 0 0,.int .i64 0]),
 (170,.sl 300 3 32 true [.int .i64 0,.string ⟨#[]⟩,.int .i64 0]),
 (196,.sl 202 1 24 false [.slice none 0 0]),
 (198,.st 4 [(0,1,false),(1,1,false),(2,1,false),(3,1,false)] [.pointer none,.slice none 0 0,.slice none 0 0,.int .i64 0]),
 (321,.sc (.int .u64) 1 (.int .u64 0)),
 (268,.st 7 [(0,3,true),(3,4,true)] [.int .i64 0,.int .i64 0,.int .i64 0,.int .i64 0,.int .i64 0,.int .i64 0,.bool false]),
 (195,.sc (.pointer 198) 1 (.pointer none)),
 (243,.sc (.map 9 3) 1 (.map none)),
 (396,.sc (.pointer 3) 1 (.pointer none)),
 (242,.sc (.map 9 172) 1 (.map none)),
 (288,.sc (.pointer 292) 1 (.pointer none)),
 (128,.sc (.pointer 216) 1 (.pointer none)),
 (208,.sc (.pointer 210) 1 (.pointer none)),
 (293,.sl 240 1 24 false [.slice none 0 0]),
 (307,.sl 39 1 24 false [.slice none 0 0]),
 (111,.sc (.func #[39] #[39,28] false) 1 (.nilFunc)),
 (297,.sc (.map 3 305) 1 (.map none)),
 (91,.sc (.func #[82] #[4] false) 1 (.nilFunc)),
 (241,.sc (.pointer 246) 1 (.pointer none)),
 (28,.sc (.int .i64) 1 (.int .i64 0)),
 (194,.sl 164 5 40 true [.int .i64 0,.int .i64 0,.int .i64 0,.int .i64 0,.int .i64 0]),
 (295,.sl 248 1 8 false [.nilFunc]),
 (21,.sc (.int .i32) 1 (.int .i32 0)),
 (359,.sc (.int .u32) 1 (.int .u32 0)),
 (79,.sc (.pointer 78) 1 (.pointer none)),
 (344,.sc (.func #[21] #[4] false) 1 (.nilFunc)),
 (130,.sc (.func #[128] #[28] false) 1 (.nilFunc)),
 (178,.sc (.func #[176,3,3] #[] false) 1 (.nilFunc)),
 (200,.sc (.func #[78] #[4] false) 1 (.nilFunc)),
 (259,.sc (.func #[82,3] #[3] false) 1 (.nilFunc)),
 (270,.sc (.func #[268] #[4] false) 1 (.nilFunc)),
 (218,.sc (.pointer 123) 1 (.pointer none)),
 (377,.sc (.func #[145] #[4] false) 1 (.nilFunc)),
 (248,.sc (.func #[172] #[28] false) 1 (.nilFunc)),
 (231,.sc (.pointer 45) 1 (.pointer none)),
 (252,.sc (.pointer 41) 1 (.pointer none)),
 (176,.sc (.pointer 84) 1 (.pointer none)),
 (257,.sc (.func #[136,3] #[3] false) 1 (.nilFunc)),
 (261,.sc (.func #[142,3] #[3] false) 1 (.nilFunc)),
 (331,.sc (.func #[84] #[4] false) 1 (.nilFunc)),
 (349,.sc (.func #[88] #[4] false) 1 (.nilFunc)),
 (379,.sc (.func #[145,3] #[3] false) 1 (.nilFunc))]
theorem c9:TabOk Tryz.prog tab:=by
 unfold tab
 repeat (first|exact TabOk.nil _|refine TabOk.cons (by kernel_rfl) (by rfl) ?_)
section
variable {P:Program} {n:Nat} {ds:List Deferred} {E:Fr} {w:World} {Q:Exit->Act->World->Prop} {ops:Array Oper} {rest:List Oper} {d:Nat} {dst:Option Nat} {ty:TypeId} {pos:String} {after:Array Edge} {F:Nat->Prop} {w0:World} {Γ:List Asr} {T:Tab}
theorem a0X (hS:St F w0 w Γ) (hT:TabOk P T) {t e sz eb i:Nat} {ag:Bool} {ez:List Value} {x y:Operand} {v u:Value} {rows news:List (List Value)} (ht:T.get t=some (.sl e sz eb ag ez)) (hx:E.ev x=some v) (hi:Γ[i]?=some (.row e sz v rows)) (hy:E.ev y=some u)
  (hn:Sl nF w sz u news) (hbig:(rows.length + news.length) * (eb + 1)<=140737488355328) :
  Gets P ⟨dst,.call { callee:=.builtin .append,args:=#[x,y],argTypes:=#[t,t] },ty,pos,after,none⟩ n ds E w (fun v' w'=>∃ p cap,v'=.slice p (rows.length + news.length) cap/\St F w0 w' (Γ.set i (.row e sz (.slice p (rows.length + news.length) cap) (rows++news)))):=by
 rcases hn with ⟨p,c,rfl,rfl⟩|⟨b,off,cap,rfl,h2,h3,h4⟩
 ·cases p with
  |none=>
   intro a ha K Q k;obtain ⟨ji,zv,hu,hinfo,_⟩:=hT.sl ht;obtain ⟨ho,hlen,hone⟩:=hS.at_ hi;have e1:Builtin.append_ #[t,t] ty #[v,.slice none 0 c]=Builtin.append_ #[t,t] ty #[v,.slice none 0 0]:=rfl;have hr:=run_append_owned_none (P:=P) w 0 t ty e ji sz hu hinfo v _ _ ho;have hex:(execOp a.eval ⟨dst,.call { callee:=.builtin .append,args:=#[x,y],argTypes:=#[t,t] },ty,pos,after,none⟩).run P w=.ok (.value v) w:=by
    simp [execOp,resolve,invoke,builtin,ha.ev hx,ha.ev hy,e1,hr,Result.andThen]
   unfold Oper.wp;rw [hex];obtain ⟨p,cap,hv⟩:=hS.rowSlice i hi;subst hv;refine k _ _ ⟨p,cap,rfl,?_⟩;rw [List.append_nil];exact hS.upd hi (World.grownBy.refl _ _) ⟨ho,hlen,hone⟩ (fun q hq=>xd4 hq)
  |some a0=>
   intro a ha K Q k;obtain ⟨ji,zv,hu,hinfo,_,hs,hby,hz,hzl,_,hsz,hs0⟩:=hT.sl ht;obtain ⟨ho,hlen,hone⟩:=hS.at_ hi;have hb1:rows.length * eb + rows.length<=140737488355328:=by rw [xa2,xf7,Nat.mul_succ] at hbig;exact hbig
   obtain ⟨v',w',hrun,hown,hg,_,hat⟩:=run_append_own_at (P:=P) w 0 t ty e ji zv sz eb hu hinfo hz hs hby (by rw [<- xg5,hzl,hsz]) (xg2 hs0) v rows.length rows.flatten ho a0 0 c [] (by simp) (fun j u hu=>by simp at hu) (by simp) (by unfold maxLen;omega) (by rw [xf7];omega) (xf9 _);have hex:(execOp a.eval ⟨dst,.call { callee:=.builtin .append,args:=#[x,y],argTypes:=#[t,t] },ty,pos,after,none⟩).run P w=.ok (.value v') w':=by
    simp [execOp,resolve,invoke,builtin,ha.ev hx,ha.ev hy,hrun,Result.andThen]
   unfold Oper.wp;rw [hex];rw [xf7,List.append_nil] at hown;have hown':(Asr.row e sz v' rows).holds w':=⟨hown,hlen,hone⟩;obtain ⟨p,cap,hv'⟩:∃ p cap,v'=.slice p rows.length cap:=by
    rcases hown.2 with ⟨rfl,h0⟩|⟨g,cap,cur,rfl,_⟩
    ·exact ⟨none,0,by rw [h0]⟩
    ·exact ⟨_,_,rfl⟩
   subst hv';refine k _ _ ⟨p,cap,rfl,?_⟩;rw [List.append_nil];refine hS.upd hi hg hown' fun q hq=>?_;rcases hat with h|h
   ·exact xd4 (h.symm.trans hq)
   ·have:some w.heap.size=some q:=h.symm.trans hq
    cases this
    exact xd1 (xd2 _)
 ·exact a0D hS hT ht hx hi hy h4 rfl hbig
theorem a0A (hS:St F w0 w Γ) (hT:TabOk P T) {t e sz eb:Nat} (i:Nat) {ag:Bool} {ez:List Value} {x y:Operand} {v u:Value} {rows news:List (List Value)} (ht:T.get t=some (.sl e sz eb ag ez)) (hx:E.ev x=some v) (hi:Γ[i]?=some (.row e sz v rows)) (hy:E.ev y=some u)
  (hn:Sl nF w sz u news) (hbig:(rows.length + news.length) * (eb + 1)<=140737488355328) (hd:Nat.blt d n=true) (k:∀ p cap w',St F w0 w' (Γ.set i (.row e sz (.slice p (rows.length + news.length) cap) (rows++news)))->WL P ops Q rest n ds ((d,.slice p (rows.length + news.length) cap)::E) w'):WL P ops Q (⟨some d,.call { callee:=.builtin .append,args:=#[x,y],argTypes:=#[t,t] },ty,pos,after,none⟩::rest) n ds E w :=
 a10 hd (a0X hS hT ht hx hi hy hn hbig) (by rintro _ w' ⟨p,cap,rfl,h⟩;exact k p cap w' h)
end
section
variable {P:Program} {n:Nat} {ds:List Deferred} {E:Fr} {w:World} {Q:Exit->Act->World->Prop} {ops:Array Oper} {S:World->Prop} {fuel:Nat} {li:Array Bool} {d:Nat} {op:Op} {ty:TypeId} {pos:String} {after:Array Edge} {F:Nat->Prop} {w0:World} {Γ:List Asr} {T:Tab}
def WA (P:Program) (ops:Array Oper) (Q:Exit->Act->World->Prop) (S:World->Prop) (fuel:Nat) (li:Array Bool) (n:Nat) (ds:List Deferred) (E:Fr) (w:World):Prop:=∀ a,Has n ds a E->wpAnyH P .any ops Q S fuel li a w
def WO (P:Program) (ops:Array Oper) (Q:Exit->Act->World->Prop) (S:World->Prop) (fuel:Nat) (li:Array Bool) (n:Nat) (ds:List Deferred) (E:Fr) (w:World) (i:Nat):Prop:=∀ a,Has n ds a E->wpOp P ops Q i (fun a' w'=>S w'/\wpAnyH P .any ops Q S fuel (li.setIfInBounds i true) a' w') a w
theorem b27 (S:World->Prop) {id:Nat} {l:List Oper} (m:Nat) (hl:l.length=m) (hS:St F w0 w Γ) (hm:P.follows .mixedOrders=true) (h:∀ w1,St F w0 w1 Γ->WA P l.toArray Q S m (Array.replicate m false) n ds E w1):WC P (.region id l.toArray true) Q n ds E w:=fun a ha=>by
 subst hl;exact wp_region_held (S:=S) hm (h { w with drawn:=w.drawn + 1 } (hS.grow ⟨rfl,rfl,rfl,xd2 _,fun _ _ _=>rfl⟩) a ha)
theorem a0B (hr:Region.ready .any ops li=[]) (h:WQ Q .normal n ds E w):WA P ops Q S fuel li n ds E w:=fun a ha=>wpAnyH_done hr (h a ha) fuel
theorem a2I {i:Nat} (_C:Nn i) {v:Value} (hT:TabOk P T) (hi:ops[i]?=some ⟨some d,op,ty,pos,after,none⟩) (hs:Region.noSelect ops=true) (hf:Region.free .any ops li i=true) (hr:(Region.ready .any ops li).contains i=true)
  (hQ:∀ c (a:Act) w,Q (.panic c) (a.put (some d) v) w->Q (.panic c) a w) (hS:S w) (hv:w7 T E op=some v) (hd:Nat.blt d n=true) (k:WA P ops Q S fuel (li.setIfInBounds i true) n ds ((d,v)::E) w):WA P ops Q S (fuel + 1) li n ds E w:=fun a ha=>
 wpAnyH_take hi hs hf hr hQ (xd4 ⟨rfl,fun w _=>m7 hT ha hv w⟩) hS (k _ (ha.put d v hd))
theorem b0r {i:Nat} (_C:Nn i) {t:TypeId} {x:Operand} {p:Addr} {v:Value} (hi:ops[i]?=some ⟨some d,.load t x,ty,pos,after,none⟩) (hs:Region.noSelect ops=true) (hf:Region.free .any ops li i=true) (hr:(Region.ready .any ops li).contains i=true)
  (hQ:∀ c (a:Act) w,Q (.panic c) (a.put (some d) v) w->Q (.panic c) a w) (hS:S w) (hx:E.ev x=some (.pointer (some p))) (hl:∀ w,S w->Ld P t p v w) (hd:Nat.blt d n=true) (k:WA P ops Q S fuel (li.setIfInBounds i true) n ds ((d,v)::E) w):WA P ops Q S (fuel + 1) li n ds E w:=fun a ha=>
 wpAnyH_take hi hs hf hr hQ (xd4 ⟨rfl,fun w hw=>by
  have h:=hl w hw;unfold Ld at h;simp only [execOp,ha.ev hx,Instr.loadAt,Instr.sureAddr,Sem.run_bind,Sem.run_pure,Result.andThen_ok,h]⟩) hS (k _ (ha.put d v hd))
theorem s8 {i:Nat} (hr:Region.ready .any ops li=[i]) (h:WO P ops Q S fuel li n ds E w i):WA P ops Q S (fuel + 1) li n ds E w:=fun a ha=>
 wpAnyH_all hr (by simp) (fun j hj=>by
  have:j=i:=by simpa using hj
  subst this;exact h a ha)
theorem a4t {i j:Nat} (hr:Region.ready .any ops li=[i,j]) (h1:WO P ops Q S fuel li n ds E w i) (h2:WO P ops Q S fuel li n ds E w j):WA P ops Q S (fuel + 1) li n ds E w:=fun a ha=>
 wpAnyH_all hr (by simp) (fun k hk=>by
  have:k=i\/k=j:=by simpa using hk
  rcases this with rfl|rfl
  ·exact h1 a ha
  ·exact h2 a ha)
theorem n7 {i:Nat} {Φ:Value->World->Prop} (hi:ops[i]?=some ⟨some d,op,ty,pos,after,none⟩) (h:Gets P ⟨some d,op,ty,pos,after,none⟩ n ds E w Φ) (hd:Nat.blt d n=true) (k:∀ v w',Φ v w'->S w'/\WA P ops Q S fuel (li.setIfInBounds i true) n ds ((d,v)::E) w'):WO P ops Q S fuel li n ds E w i:=fun a ha=>by
 unfold wpOp;simp only [hi];rw [xe6 (show Region.wanted _ _=true from rfl)];exact xd4 (h a ha _ _ fun v w' hv=>⟨(k v w' hv).1,(k v w' hv).2 _ (ha.put d v hd)⟩)
theorem a0e {i:Nat} {Φ:Value->World->Prop} (hi:ops[i]?=some ⟨none,op,ty,pos,after,none⟩) (h:Gets P ⟨none,op,ty,pos,after,none⟩ n ds E w Φ) (k:∀ v w',Φ v w'->S w'/\WA P ops Q S fuel (li.setIfInBounds i true) n ds E w'):WO P ops Q S fuel li n ds E w i:=fun a ha=>by
 unfold wpOp;simp only [hi];rw [xe6 (show Region.wanted _ _=true from rfl)];exact xd4 (h a ha _ _ fun v w' hv=>⟨(k v w' hv).1,(k v w' hv).2 _ ha⟩)
end
def RP (c:List PanicEntry) (Φ:Value->World->Prop) (Ψ:World->Prop) (e:Ending) (w':World):Prop:=(∃ v,e=.returned v/\Φ v w')\/(e=.panicked c/\Ψ w')
structure FnP (P:Program) (f:FuncId) (args:List Value) (w:World) (c:List PanicEntry) (Φ:Value->World->Prop) (Ψ:World->Prop):Prop where
 ok:∃ fn,a25 P f fn
 calls:Calls P f args.toArray w (RP c Φ Ψ)
section
variable {P:Program} {n:Nat} {ds:List Deferred} {E:Fr} {w:World} {Q:Exit->Act->World->Prop} {ops:Array Oper} {rest:List Oper} {d:Nat} {dst:Option Nat} {op:Op} {ty:TypeId} {pos:String} {after:Array Edge} {T:Tab} {c:List PanicEntry}
theorem FnP.mono {f:FuncId} {args:List Value} {Φ Φ':Value->World->Prop} {Ψ Ψ':World->Prop} (h:FnP P f args w c Φ Ψ) (h1:∀ v w',Φ v w'->Φ' v w') (h2:∀ w',Ψ w'->Ψ' w'):FnP P f args w c Φ' Ψ' :=
 ⟨h.ok,h.calls.mono fun _ _ h=>by
  rcases h with ⟨v,e,hv⟩|⟨e,hw⟩
  ·exact xd4 ⟨v,e,h1 v _ hv⟩
  ·exact xd1 ⟨e,h2 _ hw⟩⟩
end
section
variable {P:Program} {n:Nat} {E:Fr} {w:World} {c:List PanicEntry} {fn:Func} {Φ:Value->World->Prop} {Ψ:World->Prop} {v v1 v2:Value}
end
section
variable {P:Program} {n:Nat} {ds:List Deferred} {E:Fr} {w:World} {Q:Exit->Act->World->Prop} {ops:Array Oper} {rest:List Oper} {d:Nat} {dst:Option Nat} {op:Op} {ty:TypeId} {pos:String} {after:Array Edge} {T:Tab}
theorem a8j (l:List UInt8) (a b:Nat):(⟨l.toArray⟩:ByteArray).extract a b=⟨((l.drop a).take (b - a)).toArray⟩:=ByteArray.extract_mk l a b
end
section
variable {P:Program} {n:Nat} {E:Fr} {w:World} {fn:Func} {Φ:Value->World->Prop}
end
section
variable {P:Program} {ops:Array Oper} {Q:Exit->Act->World->Prop} {S:World->Prop} {q:Nat}
def a3e (P:Program) (ops:Array Oper) (Q:Exit->Act->World->Prop) (S:World->Prop) (q:Nat):Nat->Array Bool->Act->World->Prop
 |0,li,a,w=>Region.ready .any ops li=[]/\Q .normal a w
 |fuel + 1,li,a,w=>(Region.ready .any ops li=[]->Q .normal a w)/\∀ i ∈ Region.ready .any ops li,wpOp P ops Q i (fun a' w'=>(i=q\/li.getD q false=true\/S w')/\a3e P ops Q S q fuel (li.setIfInBounds i true) a' w') a w
theorem a8B:∀ (fuel:Nat) (li:Array Bool) (a:Act) (w:World),a3e P ops Q S q fuel li a w->wpAny P .any ops Q fuel li a w
 |0,_,_,_,h=>h
 |fuel + 1,_,_,_,h=>⟨h.1,fun i hi=>wpOp_mono (fun a' w' h'=>a8B fuel _ a' w' h'.2) (h.2 i hi)⟩
theorem a9c {i:Nat} {oi oq:Oper} {v:Value} (hi:ops[i]?=some oi) (hsel:∀ (j:Nat) (o:Oper) cs b,ops[j]?=some o->o.op≠.select cs b)
  (hQ:∀ c a w,Q (.panic c) (a.put oi.dst v) w->Q (.panic c) a w) (hoq:ops[q]?=some oq) (hq:∃ e ∈ oq.after,Region.binds .any e=true/\e.on=i) (hqi:q≠i) :
  ∀ (fuel:Nat) (li:Array Bool) (a:Act) (w:World),
   (∀ j oj,ops[j]?=some oj->j≠i->li.getD j true=false->(∀ e ∈ oj.after,Region.binds .any e=true->e.on≠i)->oi.apart ops oj=true) ->
   i ∈ Region.ready .any ops li->li.getD q false=false->YieldsIf P ops S oi v a->S w ->
   a3e P ops Q S q fuel (li.setIfInBounds i true) (a.put oi.dst v) w->a3e P ops Q S q (fuel + 1) li a w:=by
 intro fuel;have step:∀ (li:Array Bool) (j:Nat),i ∈ Region.ready .any ops li->j ∈ Region.ready .any ops li->∀ oj,ops[j]?=some oj->∀ e ∈ oj.after,Region.binds .any e=true->e.on≠i:=by
  intro li j hr hj oj hoj e he hb heq;obtain ⟨_,o,ho,hall⟩:=mem_ready.1 hj;rw [hoj] at ho
  cases ho
  have h1:=hall e he hb;have h0:=(mem_ready.1 hr).1;rw [heq] at h1;rcases xn6 i li.size with h'|h'
  ·simp [h'] at h0 h1;rw [h0] at h1;cases h1
  ·simp [xn7 h'] at h1
 have notq:∀ (li:Array Bool) (j:Nat),i ∈ Region.ready .any ops li->j ∈ Region.ready .any ops li->j≠q:=by
  rintro li j hr hj rfl;obtain ⟨e,he,hb,heq⟩:=hq;exact step li _ hr hj oq hoq e he hb heq
 induction fuel with
 |zero=>
  intro li a w _ hr hnq hy hS H;refine ⟨fun h=>(by rw [h] at hr;cases hr),fun j hj=>?_⟩;by_cases hji:j=i
  ·subst hji;exact hy.wpOp hi hS ⟨xd1 (xd1 hS),H⟩
  ·have:=ready_mono hj hji;rw [H.1] at this
   cases this
 |succ fuel ih=>
  intro li a w hfree hr hnq hy hS H;refine ⟨fun h=>(by rw [h] at hr;cases hr),fun j hj=>?_⟩;by_cases hji:j=i
  ·subst hji;exact hy.wpOp hi hS ⟨xd1 (xd1 hS),H⟩
  ·have hjq:=notq li j hr hj;have h1:=H.2 j (ready_mono hj hji);obtain ⟨hjun,oj,hoj,_⟩:=mem_ready.1 hj;have h2:=wpOp_putIf hoj (hfree j oj hoj hji hjun (step li j hr hj oj hoj)) (fun cs b=>hsel i oi cs b hi) (fun cs b=>hsel j oj cs b hoj) hQ hy h1;have hfree':∀ k ok,ops[k]?=some ok->k≠i->(li.setIfInBounds j true).getD k true=false ->
     (∀ e ∈ ok.after,Region.binds .any e=true->e.on≠i)->oi.apart ops ok=true:=fun k ok hk hki hun hno=>by
    refine hfree k ok hk hki ?_ hno;by_cases hjk:j=k
    ·subst hjk;exact hjun
    ·rw [getD_set_ne true hjk] at hun;exact hun
   have hnq':(li.setIfInBounds j true).getD q false=false:=by rw [getD_set_ne false hjq];exact hnq
   have hnq2:(li.setIfInBounds i true).getD q false=false:=by rw [getD_set_ne false (Ne.symm hqi)];exact hnq
   refine wpOp_mono (fun a' w' h3=>?_) h2;have hS':S w':=by
    rcases h3.2.1 with h|h|h
    ·exact (hjq h).elim
    ·rw [hnq2] at h;cases h
    ·exact h
   refine ⟨xd1 (xd1 hS'),ih (li.setIfInBounds j true) a' w' hfree' (ready_mono hr (Ne.symm hji)) hnq' h3.1 hS' ?_⟩;rw [xa9 _ _ hji];exact h3.2.2
theorem a6Z {i:Nat} {oi:Oper} {v:Value} (hi:ops[i]?=some oi) (hsel:∀ (j:Nat) (o:Oper) cs b,ops[j]?=some o->o.op≠.select cs b)
  (hQ:∀ c a w,Q (.panic c) (a.put oi.dst v) w->Q (.panic c) a w) (hqi:q≠i) :
  ∀ (fuel:Nat) (li:Array Bool) (a:Act) (w:World),
   (∀ j oj,ops[j]?=some oj->j≠i->li.getD j true=false->(∀ e ∈ oj.after,Region.binds .any e=true->e.on≠i)->oi.apart ops oj=true) ->
   i ∈ Region.ready .any ops li->(li.getD q false=true\/S w)->YieldsIf P ops (fun _=>True) oi v a ->
   a3e P ops Q S q fuel (li.setIfInBounds i true) (a.put oi.dst v) w->a3e P ops Q S q (fuel + 1) li a w:=by
 intro fuel;have step:∀ (li:Array Bool) (j:Nat),i ∈ Region.ready .any ops li->j ∈ Region.ready .any ops li->∀ oj,ops[j]?=some oj->∀ e ∈ oj.after,Region.binds .any e=true->e.on≠i:=by
  intro li j hr hj oj hoj e he hb heq;obtain ⟨_,o,ho,hall⟩:=mem_ready.1 hj;rw [hoj] at ho
  cases ho
  have h1:=hall e he hb;have h0:=(mem_ready.1 hr).1;rw [heq] at h1;rcases xn6 i li.size with h'|h'
  ·simp [h'] at h0 h1;rw [h0] at h1;cases h1
  ·simp [xn7 h'] at h1
 induction fuel with
 |zero=>
  intro li a w _ hr hS hy H;refine ⟨fun h=>(by rw [h] at hr;cases hr),fun j hj=>?_⟩;by_cases hji:j=i
  ·subst hji;exact hy.wpOp hi trivial ⟨xd1 hS,H⟩
  ·have:=ready_mono hj hji;rw [H.1] at this
   cases this
 |succ fuel ih=>
  intro li a w hfree hr hS hy H;refine ⟨fun h=>(by rw [h] at hr;cases hr),fun j hj=>?_⟩;by_cases hji:j=i
  ·subst hji;exact hy.wpOp hi trivial ⟨xd1 hS,H⟩
  ·have h1:=H.2 j (ready_mono hj hji);obtain ⟨hjun,oj,hoj,_⟩:=mem_ready.1 hj;have h2:=wpOp_putIf hoj (hfree j oj hoj hji hjun (step li j hr hj oj hoj)) (fun cs b=>hsel i oi cs b hi) (fun cs b=>hsel j oj cs b hoj) hQ hy h1;have hfree':∀ k ok,ops[k]?=some ok->k≠i->(li.setIfInBounds j true).getD k true=false ->
     (∀ e ∈ ok.after,Region.binds .any e=true->e.on≠i)->oi.apart ops ok=true:=fun k ok hk hki hun hno=>by
    refine hfree k ok hk hki ?_ hno;by_cases hjk:j=k
    ·subst hjk;exact hjun
    ·rw [getD_set_ne true hjk] at hun;exact hun
   refine wpOp_mono (fun a' w' h3=>?_) h2;have hS':j=q\/li.getD q false=true\/S w':=by
    rcases h3.2.1 with h|h|h
    ·exact xd4 h
    ·rw [getD_set_ne false (Ne.symm hqi)] at h;exact xd1 (xd4 h)
    ·exact xd1 (xd1 h)
   have hS2:(li.setIfInBounds j true).getD q false=true\/S w':=by
    rcases hS' with h|h|h
    ·left;subst h;have hjl:j < li.size:=by
      rcases xn6 j li.size with h'|h'
      ·exact h'
      ·simp [xn7 h'] at hjun
     simp [hjl]
    ·exact xd4 (getD_set_true h)
    ·exact xd1 h
   refine ⟨hS',ih (li.setIfInBounds j true) a' w' hfree' (ready_mono hr (Ne.symm hji)) hS2 h3.1 ?_⟩;rw [xa9 _ _ hji];exact h3.2.2
end
section
variable {P:Program} {n:Nat} {ds:List Deferred} {E:Fr} {w:World} {Q:Exit->Act->World->Prop} {ops:Array Oper} {S:World->Prop} {q fuel:Nat} {li:Array Bool} {d:Nat} {op:Op} {ty:TypeId} {pos:String} {after:Array Edge} {F:Nat->Prop} {w0:World} {Γ:List Asr} {T:Tab} {c:List PanicEntry}
def WT (P:Program) (ops:Array Oper) (Q:Exit->Act->World->Prop) (S:World->Prop) (q fuel:Nat) (li:Array Bool) (n:Nat) (ds:List Deferred) (E:Fr) (w:World):Prop:=∀ a,Has n ds a E->a3e P ops Q S q fuel li a w
def WP (P:Program) (ops:Array Oper) (Q:Exit->Act->World->Prop) (S:World->Prop) (q fuel:Nat) (li:Array Bool) (n:Nat) (ds:List Deferred) (E:Fr) (w:World) (i:Nat):Prop:=∀ a,Has n ds a E->wpOp P ops Q i (fun a' w'=>(i=q\/li.getD q false=true\/S w')/\a3e P ops Q S q fuel (li.setIfInBounds i true) a' w') a w
theorem b6s (S:World->Prop) (q:Nat) {id:Nat} {l:List Oper} (m:Nat) (hl:l.length=m) (hS:St F w0 w Γ) (hm:P.follows .mixedOrders=true) (h:∀ w1,St F w0 w1 Γ->WT P l.toArray Q S q m (Array.replicate m false) n ds E w1):WC P (.region id l.toArray true) Q n ds E w:=fun a ha=>by
 subst hl;exact wp_region_any hm (a8B _ _ _ _ (h { w with drawn:=w.drawn + 1 } (hS.grow ⟨rfl,rfl,rfl,xd2 _,fun _ _ _=>rfl⟩) a ha))
def a0T (ops:Array Oper) (q i:Nat):Bool:=match ops[q]? with
 |some o=>o.after.toList.any (fun e=>Region.binds .any e && Nat.beq e.on i)
 |none=>false
theorem a8b {q i:Nat} (h:a0T ops q i=true):∃ oq,ops[q]?=some oq/\∃ e ∈ oq.after,Region.binds .any e=true/\e.on=i:=by
 unfold a0T at h
 split at h
 ·rename_i o ho;obtain ⟨e,he,h2⟩:=xo0.1 h;simp only [xb1] at h2;exact ⟨o,ho,e,by simpa using he,h2.1,xb8 h2.2⟩
 ·cases h
theorem b4Y {i:Nat} (_C:Nn i) {t:TypeId} {x:Operand} {p:Addr} {v:Value} (hi:ops[i]?=some ⟨some d,.load t x,ty,pos,after,none⟩) (hs:Region.noSelect ops=true) (hf:Region.free .any ops li i=true) (hr:(Region.ready .any ops li).contains i=true) (hw:a0T ops q i=true) (hqi:Nat.beq q i=false) (hnq:li.getD q false=false)
  (hQ:∀ c (a:Act) w,Q (.panic c) (a.put (some d) v) w->Q (.panic c) a w) (hS:S w) (hx:E.ev x=some (.pointer (some p))) (hl:∀ w,S w->Ld P t p v w) (hd:Nat.blt d n=true) (k:WT P ops Q S q fuel (li.setIfInBounds i true) n ds ((d,v)::E) w):WT P ops Q S q (fuel + 1) li n ds E w:=fun a ha=>by
 obtain ⟨oq,hoq,hq⟩:=a8b hw;refine a9c hi (Region.noSelect_spec hs) hQ hoq hq (fun e=>by subst e;rw [xn3] at hqi;cases hqi) fuel li a w (Region.free_spec hi hf) (by simpa using hr) hnq (xd4 ⟨rfl,fun w hw=>?_⟩) hS (k _ (ha.put d v hd));have h:=hl w hw;unfold Ld at h;simp only [execOp,ha.ev hx,Instr.loadAt,Instr.sureAddr,Sem.run_bind,Sem.run_pure,Result.andThen_ok,h]
theorem b6T {i:Nat} (_C:Nn i) {v:Value} (hT:TabOk P T) (hi:ops[i]?=some ⟨some d,op,ty,pos,after,none⟩) (hs:Region.noSelect ops=true) (hf:Region.free .any ops li i=true) (hr:(Region.ready .any ops li).contains i=true) (hqi:Nat.beq q i=false)
  (hQ:∀ c (a:Act) w,Q (.panic c) (a.put (some d) v) w->Q (.panic c) a w) (hS:li.getD q false=true\/S w) (hv:w7 T E op=some v) (hd:Nat.blt d n=true) (k:WT P ops Q S q fuel (li.setIfInBounds i true) n ds ((d,v)::E) w):WT P ops Q S q (fuel + 1) li n ds E w:=fun a ha=>
 a6Z hi (Region.noSelect_spec hs) hQ (fun e=>by subst e;rw [xn3] at hqi;cases hqi) fuel li a w (Region.free_spec hi hf) (by simpa using hr) hS (xd4 ⟨rfl,fun w _=>m7 hT ha hv w⟩) (k _ (ha.put d v hd))
theorem z9 {i:Nat} (hr:Region.ready .any ops li=[i]) (h:WP P ops Q S q fuel li n ds E w i):WT P ops Q S q (fuel + 1) li n ds E w:=fun a ha=>
 ⟨fun h0=>(by rw [hr] at h0;cases h0),fun j hj=>by
  rw [hr] at hj;have:j=i:=by simpa using hj
  subst this;exact h a ha⟩
theorem b5x {i j:Nat} (hr:Region.ready .any ops li=[i,j]) (h1:WP P ops Q S q fuel li n ds E w i) (h2:WP P ops Q S q fuel li n ds E w j):WT P ops Q S q (fuel + 1) li n ds E w:=fun a ha=>
 ⟨fun h0=>(by rw [hr] at h0;cases h0),fun k hk=>by
  rw [hr] at hk;have:k=i\/k=j:=by simpa using hk
  rcases this with rfl|rfl
  ·exact h1 a ha
  ·exact h2 a ha⟩
theorem a3F (hr:Region.ready .any ops li=[]) (h:WQ Q .normal n ds E w):WT P ops Q S q fuel li n ds E w:=fun a ha=>by
 cases fuel with
 |zero=>exact ⟨hr,h a ha⟩
 |succ f=>exact ⟨fun _=>h a ha,by rw [hr];simp⟩
theorem t9 {i:Nat} {Φ:Value->World->Prop} (hi:ops[i]?=some ⟨some d,op,ty,pos,after,none⟩) (h:Gets P ⟨some d,op,ty,pos,after,none⟩ n ds E w Φ) (hd:Nat.blt d n=true) (k:∀ v w',Φ v w'->(i=q\/li.getD q false=true\/S w')/\WT P ops Q S q fuel (li.setIfInBounds i true) n ds ((d,v)::E) w'):WP P ops Q S q fuel li n ds E w i:=fun a ha=>by
 unfold wpOp;simp only [hi];rw [xe6 (show Region.wanted _ _=true from rfl)];exact xd4 (h a ha _ _ fun v w' hv=>⟨(k v w' hv).1,(k v w' hv).2 _ (ha.put d v hd)⟩)
theorem a2N {i:Nat} {Φ:Value->World->Prop} (hi:ops[i]?=some ⟨none,op,ty,pos,after,none⟩) (h:Gets P ⟨none,op,ty,pos,after,none⟩ n ds E w Φ) (k:∀ v w',Φ v w'->(i=q\/li.getD q false=true\/S w')/\WT P ops Q S q fuel (li.setIfInBounds i true) n ds E w'):WP P ops Q S q fuel li n ds E w i:=fun a ha=>by
 unfold wpOp;simp only [hi];rw [xe6 (show Region.wanted _ _=true from rfl)];exact xd4 (h a ha _ _ fun v w' hv=>⟨(k v w' hv).1,(k v w' hv).2 _ ha⟩)
end
inductive Dn:Prop->Prop->Prop where
 |a {P:Program} {n:Nat} {ds:List Deferred} {E:Fr} {w:World} {Q:Exit->Act->World->Prop} {x y:Code}:Dn (WC P (.seq x y) Q n ds E w) (WC P x (Exit.then (y.wp P Q) Q) n ds E w)
 |b {P:Program} {n:Nat} {ds:List Deferred} {E:Fr} {w:World} {Q:Exit->Act->World->Prop} {i:Nat} {l:List Oper}:Dn (WC P (.region i l.toArray false) Q n ds E w) (WL P l.toArray Q l n ds E w)
 |c {P:Program} {n:Nat} {ds:List Deferred} {E:Fr} {w:World} {Q:Exit->Act->World->Prop} {ops:Array Oper}:Dn (WL P ops Q [] n ds E w) (WQ Q .normal n ds E w)
 |d {P:Program} {n:Nat} {ds:List Deferred} {E:Fr} {w:World} {Q:Exit->Act->World->Prop} {y:Code} {Q2:Exit->Act->World->Prop}:Dn (WQ (Exit.then (y.wp P Q2) Q) .normal n ds E w) (WC P y Q2 n ds E w)
 |e {P:Program} {n:Nat} {ds:List Deferred} {E:Fr} {w:World} {Q:Exit->Act->World->Prop}:Dn (WC P .skip Q n ds E w) (WQ Q .normal n ds E w)
 |f {P:Program} {n:Nat} {ds:List Deferred} {E:Fr} {w:World} {Q:Exit->Act->World->Prop} {i:Nat} {c:Code}:Dn (WC P (.block i c) Q n ds E w) (WC P c (Exit.inBlock i Q) n ds E w)
 |g {P:Program} {n:Nat} {ds:List Deferred} {E:Fr} {w:World} {Q:Exit->Act->World->Prop} {i:Nat}:Dn (WC P (.exit i) Q n ds E w) (WQ Q (.exit i) n ds E w)
 |h {P:Program} {n:Nat} {ds:List Deferred} {E:Fr} {w:World} {Q:Exit->Act->World->Prop}:Dn (WC P .ret Q n ds E w) (WQ Q .ret n ds E w)
 |i {n:Nat} {ds:List Deferred} {E:Fr} {w:World} {Q:Exit->Act->World->Prop} {N:Act->World->Prop} {k:Nat}:Dn (WQ (Exit.then N Q) (.exit k) n ds E w) (WQ Q (.exit k) n ds E w)
 |j {n:Nat} {ds:List Deferred} {E:Fr} {w:World} {Q:Exit->Act->World->Prop} {N:Act->World->Prop}:Dn (WQ (Exit.then N Q) .ret n ds E w) (WQ Q .ret n ds E w)
 |k {n:Nat} {ds:List Deferred} {E:Fr} {w:World} {Q:Exit->Act->World->Prop} {k:Nat}:Dn (WQ (Exit.inBlock k Q) .normal n ds E w) (WQ Q .normal n ds E w)
 |l {n:Nat} {ds:List Deferred} {E:Fr} {w:World} {Q:Exit->Act->World->Prop} {k:Nat}:Dn (WQ (Exit.inBlock k Q) .ret n ds E w) (WQ Q .ret n ds E w)
 |m {n:Nat} {ds:List Deferred} {E:Fr} {w:World} {Q:Exit->Act->World->Prop} {k:Nat}:Dn (WQ (Exit.inBlock k Q) (.exit k) n ds E w) (WQ Q .normal n ds E w)
theorem yDn {p q:Prop} (h:Dn p q) (k:q):p:=by
 cases h with
 |a=>exact b11 k
 |b=>exact a8S k
 |c=>exact b5B k
 |d=>exact b3u k
 |e=>exact b5R k
 |f=>exact b4r k
 |g=>exact b5Q k
 |h=>exact b5C k
 |i=>exact a8K k
 |j=>exact a54 k
 |k=>exact b4g k
 |l=>exact a80 k
 |m=>exact a75 k
theorem Fr.sub_of {F G:Fr} (h:G.map (fun p=>F.get p.1)=G.map fun p=>some p.2):Fr.sub G F:=fun p hp=>by
 obtain ⟨i,hi⟩:=xd6.1 hp;have h2:=congrArg (fun l=>l[i]?) h;simp only [xh0,hi,xh1,Option.some.injEq] at h2;exact h2
theorem ck4 {a b c d:Bool} (h:(a && (b && (c && !d)))=true):a=true/\b=true/\c=true/\d=false:=by
 revert h
 cases a <;> cases b <;> cases c <;> cases d <;> simp
section
variable {P:Program} {n:Nat} {ds:List Deferred} {E:Fr} {w:World} {Q:Exit->Act->World->Prop} {ops:Array Oper} {rest:List Oper} {d:Nat} {ty:TypeId} {pos:String} {after:Array Edge} {F:Nat->Prop} {w0:World} {Γ Γ':List Asr} {T:Tab}
def b7V:Op->Bool
 |.binOp .add ..|.binOp .sub ..|.binOp .mul ..=>true
 |_=>false
theorem d5 (hT:TabOk P T) {op:Op} {v:Value} (_ho:b7V op=false) (h:w7 T E op=some v) (hd:Nat.blt d n=true) (k:WL P ops Q rest n ds ((d,v)::E) w):WL P ops Q (⟨some d,op,ty,pos,after,none⟩::rest) n ds E w:=a7Q hT h hd k
theorem l9 {f:FuncId} {x:Operand} {args:Array Operand} {ats:Array TypeId} {vs:List Value} {first caps:List Value} (hx:E.ev x=some (.func (.func f) first.toArray caps.toArray)) (hv:E.evs args.toList=some vs) (hd:Nat.blt d n=true) (k:∃ Φ,Fn P f (first++vs++caps) w Φ/\∀ v w',Φ v w'->WL P ops Q rest n ds ((d,v)::E) w') :
  WL P ops Q (⟨some d,.call { callee:=.value x,args:=args,argTypes:=ats },ty,pos,after,none⟩::rest) n ds E w:=k.elim fun _ h=>a1d hx hv h.1 hd h.2
theorem f9 {f:FuncId} {x:Operand} {args:Array Operand} {ats:Array TypeId} {vs:List Value} {first caps:List Value} (hS:St F w0 w Γ) (hx:E.ev x=some (.func (.func f) first.toArray caps.toArray)) (hv:E.evs args.toList=some vs) (hd:Nat.blt d n=true) (k:∃ v,Fn P f (first++vs++caps) w (RBf v w)/\∀ w',St F w0 w' Γ->WL P ops Q rest n ds ((d,v)::E) w') :
  WL P ops Q (⟨some d,.call { callee:=.value x,args:=args,argTypes:=ats },ty,pos,after,none⟩::rest) n ds E w:=k.elim fun _ h=>a1d hx hv h.1 hd (by rintro _ w' ⟨rfl,h2⟩;exact h.2 w' (hS.trans h2))
theorem a7S {f:FuncId} {x:Operand} {args:Array Operand} {ats:Array TypeId} {vs:List Value} {first caps:List Value} (hx:E.ev x=some (.func (.func f) first.toArray caps.toArray)) (hv:E.evs args.toList=some vs) (hd:Nat.blt d n=true) (k:∃ v,Fn P f (first++vs++caps) w (fun v' w'=>v'=v/\w'=w)/\WL P ops Q rest n ds ((d,v)::E) w) :
  WL P ops Q (⟨some d,.call { callee:=.value x,args:=args,argTypes:=ats },ty,pos,after,none⟩::rest) n ds E w:=k.elim fun _ h=>a1d hx hv h.1 hd (by rintro _ _ ⟨rfl,rfl⟩;exact h.2)
theorem s5 {K:Act->Prop} {f:FuncId} {x:Operand} {args:Array Operand} {ats:Array TypeId} {vs:List Value} {first caps:List Value} (hx:E.ev x=some (.func (.func f) first.toArray caps.toArray)) (hv:E.evs args.toList=some vs) (hd:Nat.blt d n=true)
  (k:∃ v,(∀ w,St F w0 w Γ->Fn P f (first++vs++caps) w (RBf v w))/\WD P ops (fun w'=>St F w0 w' Γ) K rest n ds ((d,v)::E)):WD P ops (fun w'=>St F w0 w' Γ) K (⟨some d,.call { callee:=.value x,args:=args,argTypes:=ats },ty,pos,after,none⟩::rest) n ds E:=k.elim fun _ h=>b50 hx hv h.1 hd h.2
theorem a89 (hT:TabOk P T) {t:TypeId} {x:Operand} {p:Addr} {dd:TypeDesc} {s:Nat} {z:Value} (hx:E.ev x=some (.pointer (some p))) (ht:T.get t=some (.sc dd s z)) (hd:Nat.blt d n=true) (k:∃ v,w.cell? p=some v/\WL P ops Q rest n ds ((d,v)::E) w):WL P ops Q (⟨some d,.load t x,ty,pos,after,none⟩::rest) n ds E w:=k.elim fun _ h=>d6 hx (Ld.sc hT ht h.1) hd h.2
theorem a0K (hT:TabOk P T) {t:TypeId} {x:Operand} {p:Addr} {el e b:Nat} {g:Bool} {z:List Value} (hx:E.ev x=some (.pointer (some p))) (ht:T.get t=some (.sl el e b g z)) (hd:Nat.blt d n=true) (k:∃ v,w.cell? p=some v/\WL P ops Q rest n ds ((d,v)::E) w):WL P ops Q (⟨some d,.load t x,ty,pos,after,none⟩::rest) n ds E w:=k.elim fun _ h=>d6 hx (Ld.sl hT ht h.1) hd h.2
theorem a1c (hT:TabOk P T) {t:TypeId} {x:Operand} {g kk s:Nat} {fs:List (Nat×Nat×Bool)} {z:List Value} (hx:E.ev x=some (.pointer (some ⟨g,kk,none⟩))) (ht:T.get t=some (.st s fs z)) (hd:Nat.blt d n=true) (k:∃ L:List Value,w.rangeAt g kk L/\L.length=s/\WL P ops Q rest n ds ((d,.agg L.toArray)::E) w):WL P ops Q (⟨some d,.load t x,ty,pos,after,none⟩::rest) n ds E w:=k.elim fun _ h=>d6 hx (Ld.st hT ht h.1 h.2.1) hd h.2.2
end
section
variable {P:Program} {n:Nat} {ds:List Deferred} {E:Fr} {w:World} {Q:Exit->Act->World->Prop} {ops:Array Oper} {S:World->Prop} {q fuel:Nat} {li:Array Bool} {d:Nat} {op:Op} {ty:TypeId} {pos:String} {after:Array Edge} {T:Tab}
theorem q8 {i:Nat} (C:Nn i) {v:Value} (hT:TabOk P T) (hi:ops[i]?=some ⟨some d,op,ty,pos,after,none⟩) (hc:(Region.noSelect ops && (Region.free .any ops li i && ((Region.ready .any ops li).contains i && !Nat.beq q i)))=true)
  (hQ:∀ c (a:Act) w,Q (.panic c) (a.put (some d) v) w->Q (.panic c) a w) (hS:li.getD q false=true\/S w) (hv:w7 T E op=some v) (hd:Nat.blt d n=true) (k:WT P ops Q S q fuel (li.setIfInBounds i true) n ds ((d,v)::E) w):WT P ops Q S q (fuel + 1) li n ds E w :=
 b6T C hT hi (ck4 hc).1 (ck4 hc).2.1 (ck4 hc).2.2.1 (ck4 hc).2.2.2 hQ hS hv hd k
theorem s6 {i:Nat} (C:Nn i) {t:TypeId} {x:Operand} {p:Addr} {v:Value} (hi:ops[i]?=some ⟨some d,.load t x,ty,pos,after,none⟩) (hc:(Region.noSelect ops && (Region.free .any ops li i && ((Region.ready .any ops li).contains i && !Nat.beq q i)))=true) (hw:a0T ops q i=true) (hnq:li.getD q false=false)
  (hQ:∀ c (a:Act) w,Q (.panic c) (a.put (some d) v) w->Q (.panic c) a w) (hS:S w) (hx:E.ev x=some (.pointer (some p))) (hl:∀ w,S w->Ld P t p v w) (hd:Nat.blt d n=true) (k:WT P ops Q S q fuel (li.setIfInBounds i true) n ds ((d,v)::E) w):WT P ops Q S q (fuel + 1) li n ds E w :=
 b4Y C hi (ck4 hc).1 (ck4 hc).2.1 (ck4 hc).2.2.1 hw (ck4 hc).2.2.2 hnq hQ hS hx hl hd k
theorem t6 {i:Nat} (C:Nn i) {v:Value} (hT:TabOk P T) (hi:ops[i]?=some ⟨some d,op,ty,pos,after,none⟩) (hc:(Region.noSelect ops && (Region.free .any ops li i && ((Region.ready .any ops li).contains i && !false)))=true)
  (hQ:∀ c (a:Act) w,Q (.panic c) (a.put (some d) v) w->Q (.panic c) a w) (hS:S w) (hv:w7 T E op=some v) (hd:Nat.blt d n=true) (k:WA P ops Q S fuel (li.setIfInBounds i true) n ds ((d,v)::E) w):WA P ops Q S (fuel + 1) li n ds E w :=
 a2I C hT hi (ck4 hc).1 (ck4 hc).2.1 (ck4 hc).2.2.1 hQ hS hv hd k
theorem a0o {i:Nat} (C:Nn i) {t:TypeId} {x:Operand} {p:Addr} {v:Value} (hi:ops[i]?=some ⟨some d,.load t x,ty,pos,after,none⟩) (hc:(Region.noSelect ops && (Region.free .any ops li i && ((Region.ready .any ops li).contains i && !false)))=true)
  (hQ:∀ c (a:Act) w,Q (.panic c) (a.put (some d) v) w->Q (.panic c) a w) (hS:S w) (hx:E.ev x=some (.pointer (some p))) (hl:∀ w,S w->Ld P t p v w) (hd:Nat.blt d n=true) (k:WA P ops Q S fuel (li.setIfInBounds i true) n ds ((d,v)::E) w):WA P ops Q S (fuel + 1) li n ds E w :=
 b0r C hi (ck4 hc).1 (ck4 hc).2.1 (ck4 hc).2.2.1 hQ hS hx hl hd k
end
theorem yEn {P : Program} {f : FuncId} {fn : Func} {c : Code} {args : List Value} {w : World} {Φ : Value -> World -> Prop} {m : Nat} (h1 : P.funcs[f]? = some fn) (hm : fn.ntmps = m) (h2 : (fn.name == "runtime.NumGoroutine") = false) (h3 : fn.body.isNone = false) (hb : fn.body = some c) (hl : Nat.ble args.length m = true) (h : WC P c (bodyPost P fn (fun e w' => ∃ v, e = .returned v /\ Φ v w')) m [] (a40 0 args) w) : Fn P f args w Φ := b3w ⟨h1, h2, h3⟩ hb hm hl h
def a92 (E:Fr):List ResultVar->Option (List Value)
 |[]=>some []
 |.tmp t::r=>match E.get t,a92 E r with
  |some v,some vs=>some (v::vs)
  |_,_=>none
 |.cell _ _::_=>none
theorem a3W {P:Program} {E:Fr} {w:World}:∀ {rs:List ResultVar} {vs:List Value},a92 E rs=some vs->ResL P E w rs vs
 |[],vs,h=>by cases h;exact .nil
 |.tmp t::r,vs,h=>by
  simp only [a92] at h
  split at h
  ·rename_i v us h1 h2
   cases h
   exact .tmp h1 (a3W h2)
  ·cases h
 |.cell _ _::_,_,h=>by cases h
section
variable {P:Program} {n:Nat} {E:Fr} {w:World} {fn:Func} {Φ:Value->World->Prop} {v v1 v2 v3 v4:Value}
theorem b4l (h:a92 E fn.results.toList=some []) (hΦ:Φ (.tuple #[]) w):WQ (bodyPost P fn (fun e w'=>∃ v,e=.returned v/\Φ v w')) .ret n [] E w:=b6x (a3W h) hΦ
theorem b3T (h:a92 E fn.results.toList=some []) (hΦ:Φ (.tuple #[]) w):WQ (bodyPost P fn (fun e w'=>∃ v,e=.returned v/\Φ v w')) .normal n [] E w:=b5T (a3W h) hΦ
theorem l4 (h:a92 E fn.results.toList=some [v]) (hΦ:Φ v w):WQ (bodyPost P fn (fun e w'=>∃ v,e=.returned v/\Φ v w')) .ret n [] E w:=a22 (a3W h) hΦ
theorem a1a (h:a92 E fn.results.toList=some [v1,v2]) (hΦ:Φ (.tuple #[v1,v2]) w):WQ (bodyPost P fn (fun e w'=>∃ v,e=.returned v/\Φ v w')) .ret n [] E w:=a0i (a3W h) hΦ
end
theorem b6w (a:Ar) (w:World) (h:a.ok):Fn Tryz.prog 153 [.agg (arC a).toArray] w (RBf (.int .i64 a.fin) w):=by
 refine yEn Tryz.func153 Tryz.ntmps153 (by kernel_rfl) (by kernel_rfl) rfl rfl ?_;have hS:=St.start w;unfold Ar.ok at h
 repeat' (first|(with_reducible apply d5 c9);rfl;rfl;rfl|(with_reducible apply d6);rfl;(apply Ld.sc c9;rfl;exact hS.blkC 0 rfl rfl);rfl|(with_reducible apply j7);rfl;rfl;omega;omega;rfl|refine yDn (by with_reducible constructor) ?_|(with_reducible apply j6 hS);rfl;rfl;rfl;clear hS;intro g w' hS)
 (refine l4 rfl ?_)
 exact ⟨rfl,hS.sub (by simp)⟩
theorem b5W (a b:Ar) (w:World) (h:a.ok):Fn Tryz.prog 154 [.agg (arC a).toArray,.agg (arC b).toArray] w (RBf (.bool (decide (a.alike b))) w):=by
 refine yEn Tryz.func154 Tryz.ntmps154 (by kernel_rfl) (by kernel_rfl) rfl rfl ?_;have hS:=St.start w
 repeat' (first|(with_reducible apply d5 c9);rfl;rfl;rfl|refine yDn (by with_reducible constructor) ?_|(with_reducible apply j6 hS);rfl;rfl;rfl;clear hS;intro g w' hS)
 (focus ((with_reducible apply d9 _ _ _ (by kernel_rfl) (by kernel_rfl) hS);(repeat' (first|(first|(with_reducible apply g8 c9);rfl;rfl|(with_reducible apply b7E c9);(iterate 4 rfl)|(with_reducible apply i7);rfl;(intro wd hd;replace hd:St _ _ wd _:=hd;(first|apply Ld.sc c9;rfl;(first|exact hd.blkC 0 rfl rfl|exact hd.blkC 1 rfl rfl)|apply Ld.st c9;rfl;exact hd.blkR 1 rfl;rfl));rfl|(first|(with_reducible apply y7);(iterate 4 rfl);assumption|(with_reducible apply a1I);(iterate 4 rfl);(first|rfl|assumption);rfl|(with_reducible apply y5);rfl;rfl;rfl;all_goals (intro hb hp;try (exfalso;omega))|(with_reducible apply q7);rfl;assumption;rfl;rfl|(with_reducible apply o5);rfl;(first|rfl|assumption);rfl;rfl))|(with_reducible apply s5);rfl;rfl;rfl;refine ⟨_,fun wd hd=>b6w a _ h,?_⟩));all_goals ((with_reducible apply k8);intro w' hS';clear hS;have hS:=hS';clear hS')))
 repeat' ((refine yDn (by with_reducible constructor) ?_))
 all_goals
  (refine l4 rfl ?_)
  refine ⟨?_,hS.sub (by simp)⟩;clear hS
 all_goals simp_all [Ar.alike]
end Go.Proofs.YtejnpppejalhfacGreat
