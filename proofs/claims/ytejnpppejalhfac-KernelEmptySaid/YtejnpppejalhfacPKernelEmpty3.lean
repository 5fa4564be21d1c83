/- Texts that the proof stands on, one behind the other: Ar5, Ar11, Ar12, Ar13, Ar14, Ar15, Ar16, As3, As4, Ar6, As5, PlArea3, PlLnk2, PlKer, Sc12, Sc14, Sc15, Sc16, Sc17, Sc18, Sc19, Map, Sc20, Sc21, Sc22, Sc23, Bits, BitsF, Choose. -/
import Derived.Deep.RegionWith
import Derived.Deep.DeepCutAuto
import Derived.Laws.OwnMore
import Derived.OrdersHeld
import Derived.WalkLawsBesides
import Derived.Recover
import Derived.Laws.Strings2
import Derived.Laws.Strings3
import Derived.MapKept
import Derived.Laws.IdiomCopy
import Derived.Test.YtejnpppejalhfacProg
import Derived.Handy
import Derived.BigQuiet
import Derived.Deep.QuietTactic
import Derived.WalkSpells
import Derived.Lib.QuietBelow
import Derived.Test.YtejnpppejalhfacPKernelEmpty2
/- The contract of area.Find. -/
namespace Go.Proofs.Ytejnpppejalhfac
open Go.RowKit Go.Sort
def a44 (a:Ar) (page:Int):Int:=if wrap64 a.fin≤page then -1 else 1
set_option maxRecDepth 100000 in
set_option maxHeartbeats 1000000 in
theorem a96 (a:Ar) (page:Int) (w:World):Calls Try.prog 45 #[.agg (arC a).toArray,.int .i64 page] w (RB (.int .i64 (a44 a page)) w):=by
 have HE:=hid (fun w=>a7s a w)
 have HC:Hid (a44 a page=if wrap64 a.fin≤page then -1 else 1):=hid rfl
 generalize wrap64 a.fin=f at *
 unfold arC at *
 by_cases h:f≤page
 ·go_enter Try.func45,Try.ntmps45
  go_wp2_with (first|(go_at_call 46;(with_reducible refine (HE.out _).mono ?_);rintro e w1 ⟨rfl,hb1⟩))
  go_ret
  exact ⟨a16 (by rw [HC.out,if_pos h]),(by repeat (first|(with_reducible exact Below.refl _ _)|(with_reducible refine Below.alloc ?_ (by (omega)) _)|(refine bt ?_ (by with_reducible assumption))))⟩
 ·go_enter Try.func45,Try.ntmps45
  go_wp2_with (first|(go_at_call 46;(with_reducible refine (HE.out _).mono ?_);rintro e w1 ⟨rfl,hb1⟩))
  go_ret
  exact ⟨a16 (by rw [HC.out,if_neg (by omega)]),(by repeat (first|(with_reducible exact Below.refl _ _)|(with_reducible refine Below.alloc ?_ (by (omega)) _)|(refine bt ?_ (by with_reducible assumption))))⟩
theorem b5D (a:Ar) (page:Int):(a44 a page == 0)=false:=by unfold a44;split <;> decide
theorem b1P {a:Ar} {page:Int}:a44 a page < 0 ↔ wrap64 a.fin≤page:=by unfold a44;split <;> omega
theorem a5S {L:List Ar} (h:a42 L):∀ {j k:Nat} {a b:Ar},j < k→L[j]?=some a→L[k]?=some b→a.fin≤b.pg:=by
 have ok:=(a2X L).1 h
 intro j k
 induction k with
 |zero=>intro a b hj;omega
 |succ k ih=>
  intro a b hj ha hb
  obtain ⟨hk,_⟩:=List.getElem?_eq_some_iff.1 hb
  obtain ⟨c,hc⟩:∃ c,L[k]?=some c:=⟨L[k],by simp⟩
  have h1:=((a7a hb hc).1 (ok (k + 1) hk)).2.1
  rcases Nat.lt_succ_iff_lt_or_eq.1 hj with h2|h2
  ·have h3:=ih h2 ha hc
   have h4:=a1t h k c hc
   unfold Ar.ok at h4
   unfold Ar.fin at *
   omega
  ·subst h2;rw [ha] at hc;cases hc;exact h1
def a3D (L:List Ar) (page:Int) (i j:Nat):Prop:=a42 L→(∀ (t:Nat) (a:Ar),t < i→L[t]?=some a→a.fin≤page)∧(∀ (t:Nat) (a:Ar),j≤t→L[t]?=some a→page < a.fin)
theorem a7V (L:List Ar) (page:Int):a3D L page 0 L.length:=fun _=>⟨fun t a h=>by omega,fun t a h ha=>by obtain ⟨h2,_⟩:=List.getElem?_eq_some_iff.1 ha;omega⟩
theorem b4p {L:List Ar} {page:Int} {i j h:Nat} {a:Ar} (hI:a3D L page i j) (ha:L[h]?=some a) (hc:a44 a page < 0):a3D L page (h + 1) j:=fun hg=>by
 have hok:=a1t hg h a ha
 rw [b1P,a4u hok] at hc
 refine ⟨fun t b ht hb=>?_,(hI hg).2⟩
 rcases Nat.lt_succ_iff_lt_or_eq.1 ht with h1|h1
 ·have:=a5S hg h1 hb ha
  have hb':=a1t hg t b hb
  unfold Ar.ok at hok
  unfold Ar.fin at *
  omega
 ·subst h1;rw [ha] at hb;cases hb;exact hc
theorem b2X {L:List Ar} {page:Int} {i j h:Nat} {a:Ar} (hI:a3D L page i j) (ha:L[h]?=some a) (hc:¬ a44 a page < 0):a3D L page i h:=fun hg=>by
 have hok:=a1t hg h a ha
 rw [b1P,a4u hok] at hc
 refine ⟨(hI hg).1,fun t b ht hb=>?_⟩
 rcases Nat.lt_or_eq_of_le ht with h1|h1
 ·have:=a5S hg h1 ha hb
  have hb':=a1t hg t b hb
  unfold Ar.ok at hb'
  unfold Ar.fin at *
  omega
 ·subst h1;rw [ha] at hb;cases hb;omega
def a9x (L:List Ar) (page:Int) (w:World) (e:Ending) (w':World):Prop:=∃ i:Nat,i≤L.length∧e=.returned (.tuple #[.int .i64 i,.bool false])∧Below w.heap.size w w'∧a3D L page i i
theorem b24 (i j n:Nat) (hi:i≤n) (hj:j≤n) (h:n≤9223372036854775807):IntKind.u64.wrap (wrap64 ((i:Int) + j))=(i:Int) + j:=by
 rw [IntKind.wrap_u64];unfold wrap64;omega
theorem b0C (i j n:Nat) (hi:i≤n) (hj:j≤n) (h:n≤9223372036854775807):IntKind.u64.wrap ((i:Int) + j)=(i:Int) + j:=by
 rw [IntKind.wrap_u64];omega
theorem b0A (h n:Nat) (h1:h < n) (h2:n≤9223372036854775807):wrap64 ((h:Int) + 1)=(h:Int) + 1:=by unfold wrap64;omega
theorem b4u {n cap:Nat} (h:n≤cap) (hm:cap≤maxLen):n≤9223372036854775807:=Nat.le_trans h hm
theorem ms1 {i j h:Nat} (h1:i≤h) (h2:h < j):((j:Int)).toNat - ((h:Int) + 1).toNat < (j:Int).toNat - (i:Int).toNat:=by omega
theorem ms2 {i j h:Nat} (h1:i≤h) (h2:h < j):((h:Int)).toNat - (i:Int).toNat < (j:Int).toNat - (i:Int).toNat:=by omega
theorem b1s (i j n:Nat) (hi:i≤n) (hj:j≤n) (h:n≤9223372036854775807):wrap64 (((i:Int) + j) / 2)=((i + j) / 2:Nat):=by
 unfold wrap64;omega
set_option maxRecDepth 100000 in
set_option maxHeartbeats 4000000 in
theorem b5l {L:List Ar} {w:World} (b off cap:Nat) (page:Int) (hbl:b < w.heap.size) (hcap:L.length≤cap) (hmax:cap≤maxLen) (hcells:∀ i a,L[i]?=some a→CellsAr w b (off + i * 4) a) :
  Calls Try.prog 44 #[.slice (some ⟨b,off,none⟩) L.length cap,.int .i64 page,.func (.func 45) #[] #[]] w (a9x L page w):=by
 have hlen:=b4u hcap hmax
 clear hmax hcap
 have HLEN:=hid hlen;clear hlen
 have HL:=hid hcells
 have HI:=hid (a7V L page)
 clear hcells
 go_enter Try.func44,Try.ntmps44
 go_wp2
 go_loopw [9,10] (fun vi vj wr=>∃ i j:Nat,i≤j∧j≤L.length∧vi=.int .i64 i∧vj=.int .i64 j∧Below w.heap.size w wr∧Hid (a3D L page i j)) (fun vi vj _=>(intOf vj).toNat - (intOf vi).toNat)
 case atStart=>exact ⟨0,L.length,by omega,by omega,rfl,rfl,Below.refl _ _,HI.out⟩
 case round=>
  clear HI
  obtain ⟨i,j,hij,hj,rfl,rfl,hb,HI⟩:=hrel
  by_cases hlt:i < j
  ·obtain ⟨h,hh⟩:∃ h,h=(i + j) / 2:=⟨_,rfl⟩
   have hhj:h < j:=by omega
   have hih:i≤h:=by omega
   obtain ⟨a,ha⟩:∃ a,L[h]?=some a:=⟨L[h]'(by omega),by simp⟩
   obtain ⟨c0,c1,c2,c3⟩:=(HL.out h a ha).grown hb hbl
   have hbr:=a8X (Nat.lt_of_lt_of_le hbl hb.size)
   have hsz:=hb.size
   have hq0:=b0C i j L.length (Nat.le_trans hij hj) hj HLEN.out
   have hq1:=b24 i j L.length (Nat.le_trans hij hj) hj HLEN.out
   have hq2:=b1s i j L.length (Nat.le_trans hij hj) hj HLEN.out
   rw [← hh] at hq2
   have HC:=hid (fun w=>a96 a page w)
   unfold arC at HC
   have hw1:wrap64 ((h:Int) + 1)=(h:Int) + 1:=b0A h L.length (Nat.lt_of_lt_of_le hhj hj) HLEN.out
   have hlh:(h:Int) < L.length:=Int.ofNat_lt.2 (Nat.lt_of_lt_of_le hhj hj)
   clear hh
   go_upto_region 5 with fail
   rw [hq2]
   clear hq0 hq1 hq2
   by_cases hc:a44 a page < 0
   ·have HX:=hid (b4p HI.out ha hc)
    generalize a44 a page=cv at *
    go_wp2_with (first|(go_at_call 45;(with_reducible refine (HC.out _).mono ?_);rintro e w1 ⟨rfl,hb1⟩))
    go_roundw
    case rel=>exact ⟨h + 1,j,Nat.succ_le_of_lt hhj,hj,by rw [hw1];rfl,rfl,(by repeat (first|(with_reducible assumption)|(refine bt ?_ (by with_reducible assumption)))),HX.out⟩
    case measure=>(rw [hw1];exact ms1 hih hhj)
   ·have HX:=hid (b2X HI.out ha hc)
    generalize a44 a page=cv at *
    go_wp2_with (first|(go_at_call 45;(with_reducible refine (HC.out _).mono ?_);rintro e w1 ⟨rfl,hb1⟩))
    go_roundw
    case rel=>exact ⟨i,h,hih,Nat.le_of_lt (Nat.lt_of_lt_of_le hhj hj),rfl,rfl,(by repeat (first|(with_reducible assumption)|(refine bt ?_ (by with_reducible assumption)))),HX.out⟩
    case measure=>exact ms2 hih hhj
  ·obtain rfl:i=j:=by omega
   by_cases hn:i < L.length
   ·obtain ⟨a,ha⟩:∃ a,L[i]?=some a:=⟨L[i],by simp [hn]⟩
    obtain ⟨c0,c1,c2,c3⟩:=(HL.out i a ha).grown hb hbl
    have hbr:=a8X (Nat.lt_of_lt_of_le hbl hb.size)
    have hsz:=hb.size
    have HC:=hid (fun w=>a96 a page w)
    have hz:=b5D a page
    unfold arC at HC
    generalize a44 a page=cv at *
    go_wp2_with (first|(go_at_call 45;(with_reducible refine (HC.out _).mono ?_);rintro e w1 ⟨rfl,hb1⟩))
    go_ret2
    exact ⟨i,hj,rfl,(by repeat (first|(with_reducible assumption)|(refine bt ?_ (by with_reducible assumption)))),HI.out⟩
   ·go_wp2
    go_ret2
    exact ⟨i,hj,rfl,(by repeat ((with_reducible assumption))),HI.out⟩
end Go.Proofs.Ytejnpppejalhfac
/- The contracts of the reference's SameAreas (all forms), within, CheckAreas. -/
namespace Go.Proofs.Ytejnpppejalhfac
open Go.RowKit Go.Sort
end Go.Proofs.Ytejnpppejalhfac
/- The contract of the reference's CheckAreas. -/
namespace Go.Proofs.Ytejnpppejalhfac
open Go.RowKit Go.Sort
end Go.Proofs.Ytejnpppejalhfac
/- The contracts of the reference's spanError, MapIn. -/
namespace Go.Proofs.Ytejnpppejalhfac
open Go.RowKit Go.Sort
end Go.Proofs.Ytejnpppejalhfac
/- The contract of the reference's MapIn. -/
namespace Go.Proofs.Ytejnpppejalhfac
open Go.RowKit Go.Sort
end Go.Proofs.Ytejnpppejalhfac
/- The contract of the reference's UnmapIn. -/
namespace Go.Proofs.Ytejnpppejalhfac
open Go.RowKit Go.Sort
end Go.Proofs.Ytejnpppejalhfac
/- The contract of the reference's ProtectIn. -/
namespace Go.Proofs.Ytejnpppejalhfac
open Go.RowKit Go.Sort
end Go.Proofs.Ytejnpppejalhfac
/- The contracts of package area in the words of the step calculus; the closures; turned. -/
namespace Go.Proofs.Ytejnpppejalhfac
open Go.RowKit Go.Sort
theorem a4w {w:World} {v:Value} {L:List Ar} (h:Sl nF w 4 v (L.map arC)):SlAr w v L:=by
 rcases h with ⟨p,c,rfl,h⟩|⟨b,off,cap,rfl,h3,h4,hr⟩
 ·exact Or.inl ⟨_,_,rfl,by simpa using h⟩
 ·rw [List.length_map] at h3 ⊢
  refine Or.inr ⟨b,off,cap,rfl,hr.lt,h3,h4,fun i a ha=>?_⟩
  have hk:(L.map arC)[i]?=some (arC a):=by simp [ha]
  exact ⟨hr.cells i _ hk 0 _ rfl,hr.cells i _ hk 1 _ rfl,hr.cells i _ hk 2 _ rfl,hr.cells i _ hk 3 _ rfl⟩
theorem a6b {v:Value} {L:List Ar} {w:World} (h:Sl nF w 4 v (L.map arC)):Fn Try.prog 30 [v] w (RBf (.int .i64 (q7 L)) w) :=
 Fn.of_rb ⟨Try.func30,by kernel_rfl,by kernel_rfl⟩ (a4v (a4w h))
end Go.Proofs.Ytejnpppejalhfac
/- area.Map, Unmap, Protect, by the step calculus. -/
namespace Go.Proofs.Ytejnpppejalhfac
open Go.RowKit Go.Sort
theorem a7i {M:List Ar} (hok:∀ (i:Nat) (a:Ar),M[i]?=some a→a.ok) (i:Nat):0≤y6 (M.take i)∧y6 (M.take i)≤255 * (i:Int):=by
 induction i with
 |zero=>simp [y6]
 |succ i ih=>
  cases ha:M[i]? with
  |none=>
   have:M.length≤i:=by simpa using ha
   rw [List.take_of_length_le (by omega)] at ih ⊢
   omega
  |some a=>
   rw [a4J ha]
   have:=hok i a ha
   unfold Ar.ok at this
   omega
end Go.Proofs.Ytejnpppejalhfac
/- The contract of area.Find. -/
namespace Go.Proofs.Ytejnpppejalhfac
open Go.RowKit Go.Sort
set_option maxRecDepth 100000 in
set_option maxHeartbeats 4000000 in
theorem b5t (p:Option Addr) (c:Nat) (page:Int) (w:World):Calls Try.prog 44 #[.slice p 0 c,.int .i64 page,.func (.func 45) #[] #[]] w (a9x [] page w):=by
 go_enter Try.func44,Try.ntmps44
 go_wp2
 go_loopw [9,10] (fun vi vj wr=>vi=.int .i64 0∧vj=.int .i64 0∧wr=w) (fun _ _ _=>0)
 case atStart=>exact ⟨rfl,rfl,rfl⟩
 case round=>
  obtain ⟨rfl,rfl,rfl⟩:=hrel
  go_wp2
  go_ret2
  exact ⟨0,by simp,rfl,(by repeat ((with_reducible exact Below.refl _ _))),a7V [] page⟩
theorem b5K {v:Value} {L:List Ar} {w:World} (page:Int) (h:SlAr w v L):Calls Try.prog 44 #[v,.int .i64 page,.func (.func 45) #[] #[]] w (a9x L page w):=by
 rcases h with ⟨p,c,rfl,rfl⟩|⟨b,off,cap,rfl,h2,h3,h4,h5⟩
 ·exact b5t p c page w
 ·exact b5l b off cap page h2 h3 h4 h5
theorem a2x {page:Int} {a:Ar} (h:a.fin≤page∨page < a.pg):a0K page a=false:=by unfold a0K;simp;omega
theorem b23 {L:List Ar} {page:Int} (hg:a42 L) (hI:a3D L page L.length L.length):v7 L page=none :=
 a5O fun j b hj hb=>a2x (Or.inl ((hI hg).1 j b hj hb))
theorem b2T {L:List Ar} {page:Int} {i:Nat} {a:Ar} (hg:a42 L) (hI:a3D L page i i) (ha:L[i]?=some a) (h:page < a.pg):v7 L page=none :=
 a5O fun j b hj hb=>by
  rcases Nat.lt_or_ge j i with h1|h1
  ·exact a2x (Or.inl ((hI hg).1 j b h1 hb))
  ·rcases Nat.lt_or_eq_of_le h1 with h2|h2
   ·have:=a5S hg h2 ha hb
    have hk:=a1t hg i a ha
    unfold Ar.ok at hk
    exact a2x (Or.inr (by unfold Ar.fin at this;omega))
   ·subst h2;rw [ha] at hb;cases hb;exact a2x (Or.inr h)
theorem b2x {L:List Ar} {page:Int} {i:Nat} {a:Ar} (hg:a42 L) (hI:a3D L page i i) (ha:L[i]?=some a) (h:a.pg≤page):v7 L page=some a :=
 a80 (fun j b hj hb=>a2x (Or.inl ((hI hg).1 j b hj hb))) ha (by unfold a0K;simp;exact ⟨h,(hI hg).2 i a (Nat.le_refl _) ha⟩)
def a41 (L:List Ar) (page:Int):Option Ar:=if q7 L=0 then v7 L page else none
set_option maxRecDepth 100000 in
set_option maxHeartbeats 4000000 in
theorem b19 {v:Value} {L:List Ar} {w:World} (page:Int) (h:SlAr w v L):Calls Try.prog 19 #[v,.int .i64 page] w (RB (a3b (a41 L page)) w):=by
 have HC:=hid (fun w' (hb:Below w.heap.size w w')=>a4v (h.grown hb))
 have HS:=hid (fun w' (hb:Below w.heap.size w w')=>b5K page (h.grown hb))
 have hsz:(Try.prog.info? 71).map (·.size)=some 4:=by kernel_rfl
 have Hsz:=hid hsz;clear hsz
 have hbw:=Below.refl w.heap.size w
 go_enter Try.func19,Try.ntmps19
 go_wp2_with (first|((with_reducible refine a6Z 4 ?_);refine a47 rfl (some 4) rfl (zl4) 71 (by kernel_rfl) w.heap.size w hbw hbw.size ?_;intro g4 wn4 hL4 hB4 hbn hkn hnn;skip;clear hbw hkn hnn;have hbw:=hbn;clear hbn)|(go_at_call 44;(with_reducible refine (HS.out _ hbw).mono ?_);rintro e wc ⟨i,hi,rfl,hbc,hI⟩;have hL4:=hL4.grown hbc hL4.lt;have hbn:=bt hbw hbc;clear hbw hbc;have hbw:=hbn;clear hbn))
 by_cases hc:q7 L=0
 ·obtain ⟨_,hg⟩:=a0h.1 hc
  have HQ:Hid (a41 L page=v7 L page):=by refine hid ?_;unfold a41;rw [if_pos hc]
  rw [hc] at HC
  clear hc
  by_cases hlt:i < L.length
  ·obtain ⟨a,ha⟩:∃ a,L[i]?=some a:=⟨L[i],by simp [hlt]⟩
   rcases h with ⟨p,c,rfl,rfl⟩|⟨b,off,cap,rfl,hbl,hcap,hmax,hcells⟩
   ·simp at hlt
   have HL:=hid hcells
   have hne:((i:Int) == L.length)=false:=by rw [beq_eq_false_iff_ne];omega
   have hli:(i:Int) < L.length:=Int.ofNat_lt.2 hlt
   clear hcells hmax
   by_cases hp:page < a.pg
   ·have HX:=hid (b2T hg hI ha hp)
    clear hI
    go_wp2_with (first|((go_at_call 30;(with_reducible refine (HC.out _ hbw).mono ?_);rintro e wk ⟨rfl,hbc⟩);have hL4:=hL4.grown hbc hL4.lt;have hbn:=bt hbw hbc;clear hbw hbc;have hbw:=hbn;clear hbn;obtain ⟨c0,c1,c2,c3⟩:=(HL.out i a ha).grown hbw hbl)|((with_reducible refine a3a 4 ?_);refine a0N rfl 71 (.tmp 4) (.tmp 32) rfl rfl g4 (zl4) (zl4) rfl rfl hL4 Hsz.out rfl rfl w.heap.size w hbw hB4 ?_;intro wp4 hLn hbn hon;skip;clear hL4 hbw hon;have hL4:=hLn;have hbw:=hbn;clear hLn hbn))
    refine bodyPost_ret (v:=.tuple #[.agg (zl4).toArray,.bool false]) (a00 rfl _ g4 (zl4) (.bool false) _ rfl rfl hL4 Try.underlying71 rfl Hsz.out) rfl ⟨by rw [HQ.out,HX.out];rfl,hbw⟩
   ·have HX:=hid (b2x hg hI ha (by omega))
    clear hI
    have hp':decide (page < a.pg)=false:=by simpa using hp
    go_wp2_with (first|((go_at_call 30;(with_reducible refine (HC.out _ hbw).mono ?_);rintro e wk ⟨rfl,hbc⟩);have hL4:=hL4.grown hbc hL4.lt;have hbn:=bt hbw hbc;clear hbw hbc;have hbw:=hbn;clear hbn;obtain ⟨c0,c1,c2,c3⟩:=(HL.out i a ha).grown hbw hbl)|((with_reducible refine a3a 4 ?_);refine a0N rfl 71 (.tmp 4) (.tmp 36) rfl rfl g4 ([.int .i64 a.pg,.int .i64 a.n,.int .i64 a.prot,.bool a.z]) (zl4) rfl rfl hL4 Hsz.out rfl rfl w.heap.size w hbw hB4 ?_;intro wp4 hLn hbn hon;skip;clear hL4 hbw hon;have hL4:=hLn;have hbw:=hbn;clear hLn hbn))
    refine bodyPost_ret (v:=.tuple #[.agg ([.int .i64 a.pg,.int .i64 a.n,.int .i64 a.prot,.bool a.z]).toArray,.bool true]) (a00 rfl _ g4 ([.int .i64 a.pg,.int .i64 a.n,.int .i64 a.prot,.bool a.z]) (.bool true) _ rfl rfl hL4 Try.underlying71 rfl Hsz.out) rfl ⟨by rw [HQ.out,HX.out];rfl,hbw⟩
  ·obtain rfl:i=L.length:=by omega
   have HX:=hid (b23 hg hI)
   have hlen:∃ n:Nat,n=L.length:=⟨_,rfl⟩
   clear hI
   rcases h with ⟨p,c,rfl,rfl⟩|⟨b,off,cap,rfl,hbl,hcap,hmax,hcells⟩
   ·go_wp2_with (first|((go_at_call 30;(with_reducible refine (HC.out _ hbw).mono ?_);rintro e wk ⟨rfl,hbc⟩);have hL4:=hL4.grown hbc hL4.lt;have hbn:=bt hbw hbc;clear hbw hbc;have hbw:=hbn;clear hbn;skip)|((with_reducible refine a3a 4 ?_);refine a0N rfl 71 (.tmp 4) (.tmp 32) rfl rfl g4 (zl4) (zl4) rfl rfl hL4 Hsz.out rfl rfl w.heap.size w hbw hB4 ?_;intro wp4 hLn hbn hon;skip;clear hL4 hbw hon;have hL4:=hLn;have hbw:=hbn;clear hLn hbn))
    refine bodyPost_ret (v:=.tuple #[.agg (zl4).toArray,.bool false]) (a00 rfl _ g4 (zl4) (.bool false) _ rfl rfl hL4 Try.underlying71 rfl Hsz.out) rfl ⟨by rw [HQ.out,HX.out];rfl,hbw⟩
   ·clear hcells hmax
    go_wp2_with (first|((go_at_call 30;(with_reducible refine (HC.out _ hbw).mono ?_);rintro e wk ⟨rfl,hbc⟩);have hL4:=hL4.grown hbc hL4.lt;have hbn:=bt hbw hbc;clear hbw hbc;have hbw:=hbn;clear hbn;skip)|((with_reducible refine a3a 4 ?_);refine a0N rfl 71 (.tmp 4) (.tmp 32) rfl rfl g4 (zl4) (zl4) rfl rfl hL4 Hsz.out rfl rfl w.heap.size w hbw hB4 ?_;intro wp4 hLn hbn hon;skip;clear hL4 hbw hon;have hL4:=hLn;have hbw:=hbn;clear hLn hbn))
    refine bodyPost_ret (v:=.tuple #[.agg (zl4).toArray,.bool false]) (a00 rfl _ g4 (zl4) (.bool false) _ rfl rfl hL4 Try.underlying71 rfl Hsz.out) rfl ⟨by rw [HQ.out,HX.out];rfl,hbw⟩
 ·have HQ:Hid (a41 L page=none):=by refine hid ?_;unfold a41;rw [if_neg hc]
  have hn:(q7 L != 0)=true:=by rw [bne_iff_ne];exact hc
  clear hc
  generalize q7 L=ck at *
  go_wp2_with (first|((go_at_call 30;(with_reducible refine (HC.out _ hbw).mono ?_);rintro e wk ⟨rfl,hbc⟩);have hL4:=hL4.grown hbc hL4.lt;have hbn:=bt hbw hbc;clear hbw hbc;have hbw:=hbn;clear hbn;skip)|((with_reducible refine a3a 4 ?_);refine a0N rfl 71 (.tmp 4) (.tmp 32) rfl rfl g4 (zl4) (zl4) rfl rfl hL4 Hsz.out rfl rfl w.heap.size w hbw hB4 ?_;intro wp4 hLn hbn hon;skip;clear hL4 hbw hon;have hL4:=hLn;have hbw:=hbn;clear hLn hbn))
  refine bodyPost_ret (v:=.tuple #[.agg (zl4).toArray,.bool false]) (a00 rfl _ g4 (zl4) (.bool false) _ rfl rfl hL4 Try.underlying71 rfl Hsz.out) rfl ⟨by rw [HQ.out];rfl,hbw⟩
end Go.Proofs.Ytejnpppejalhfac
/- The reference's contracts for areas in the words of the step calculus. -/
namespace Go.Proofs.Ytejnpppejalhfac
open Go.RowKit Go.Sort
theorem a4a {v:Value} {L:List Ar} {w:World} (page:Int) (h:Sl nF w 4 v (L.map arC)):Fn Try.prog 19 [v,.int .i64 page] w (RBf (a3b (a41 L page)) w) :=
 Fn.of_rb ⟨Try.func19,by kernel_rfl,by kernel_rfl⟩ (b19 page (a4w h))
theorem a29 {v:Value} {L:List Ar} {w:World} (h:Sl nF w 4 v (L.map arC)):Fn Try.prog 12 [v] w (RBf (.int .i64 (if q7 L=0 then y6 L else 0)) w):=by
 by_cases hc:q7 L=0
 ·rw [if_pos hc]
  exact Fn.of_rb ⟨Try.func12,by kernel_rfl,by kernel_rfl⟩ (a9u (a4w h) hc)
 ·rw [if_neg hc]
  exact Fn.of_rb ⟨Try.func12,by kernel_rfl,by kernel_rfl⟩ (b0N (a4w h) hc)
theorem Sl.nil (w:World) (sz:Nat):Sl nF w sz (.slice none 0 0) []:=Or.inl ⟨_,_,rfl,rfl⟩
def L2:List Ar:=[⟨3,1,1,true⟩,⟨4,1,0,true⟩,⟨5,2,1,true⟩]
end Go.Proofs.Ytejnpppejalhfac
/- What AreaKeeps says, in plain Lean. -/
namespace Go.Proofs.Ytejnpppejalhfac
open Go.RowKit Go.Sort
theorem b35 {L:List Ar} {p:Int} {a:Ar} (h:a14 1 L) (hf:v7 L p=some a):a.ok:=by
 unfold v7 at hf
 obtain ⟨i,hi⟩:=List.mem_iff_getElem?.1 (List.mem_of_find?_eq_some hf)
 exact b3x h i a hi
theorem a1g {L:List Ar} {p:Int} (h:q7 L=0):a41 L p=v7 L p:=if_pos h
end Go.Proofs.Ytejnpppejalhfac
/- What is linked is right: in plain Lean. -/
namespace Go.Proofs.Ytejnpppejalhfac
open Go.RowKit Go.Sort
def a6p (A:List Ar) (p:Int):Bool:=match v7 A p with
 |some a=>!a.z
 |none=>false
def a6l (A:List Ar):Int→List Sh→Bool
 |_,[]=>true
 |last,s::r=>a6p A s.page && (a0b s && (decide (last < s.page) && a6l A s.page r))
def a0W:Int→List Sh→Bool
 |_,[]=>true
 |last,s::r=>a0b s && (decide (last < s.page) && a0W s.page r)
def arB (A:List Ar) (l:List Sh):Bool:=l.all fun s=>a6p A s.page
theorem b4j (A:List Ar):∀ (l:List Sh) (last:Int),a6l A last l=(a0W last l && arB A l):=by
 intro l
 induction l with
 |nil=>intro last;rfl
 |cons s r ih=>
  intro last
  simp only [a6l,a0W,arB,List.all_cons,ih]
  cases a6p A s.page <;> cases a0b s <;> cases decide (last < s.page) <;> cases a0W s.page r <;> rfl
def a6e (A:List Ar) (en:Int):Bool:=decide (0≤en∧en.tmod 8=0) && (match v7 A (en.tdiv 16) with
 |some a=>decide (2≤a.prot)
 |none=>false)
def lkB (A:List Ar) (L:List Sh) (en:Int):Bool:=decide ((L.length:Int)=y6 A) && (a6l A 0 L && a6e A en)
def a1N (A:List Ar) (L:List Sh) (en:Int):Int:=if q7 A=0 then (if lkB A L en=true then 0 else 1) else q7 A
structure ShsV (w:World) (Lp:List (Sh×Value)) (vs:Value):Prop where
 sl:Sl nF w 3 vs (Lp.map fun p=>shC p.1 p.2)
 fx:∀ p ∈ Lp,ShV w p.1 p.2
theorem ShsV.now {w w':World} {Γ:List Asr} {Lp:List (Sh×Value)} {vs:Value} (h:ShsV w Lp vs) (hS:St nF w w' Γ):ShsV w' Lp vs:=⟨h.sl.now hS,fun p hp=>(h.fx p hp).now hS⟩
def shs (Lp:List (Sh×Value)):List Sh:=Lp.map (·.1)
theorem a2J (Lp:List (Sh×Value)):(shs Lp).length=Lp.length:=by unfold shs;simp
theorem a5Z {Lp:List (Sh×Value)} {i:Nat} {p:Sh×Value} (h:Lp[i]?=some p):(shs Lp)[i]?=some p.1:=by unfold shs;rw [List.getElem?_map,h];rfl
theorem b0R {A:List Ar} {l:List Sh} {i:Nat} {s:Sh} {last:Int} (h:l[i]?=some s):a6l A last (l.drop i)=(a6p A s.page && (a0b s && (decide (last < s.page) && a6l A s.page (l.drop (i + 1))))):=by
 rw [a2b h];rfl
theorem a0F {A:List Ar} (hc:q7 A=0) {p:Int} {a:Ar} (h:v7 A p=some a):a.ok∧1≤p:=by
 have hg:=(a0h.1 hc).2
 have hok:=b35 hg.1 h
 have:=List.find?_some h
 unfold a0K at this
 rw [decide_eq_true_eq] at this
 unfold Ar.ok at hok
 exact ⟨hok,by omega⟩
def lkA (va vs:Value) (en:Int):Value:=.agg [va,vs,.int .i64 en].toArray
end Go.Proofs.Ytejnpppejalhfac
/- Kernels, in plain Lean: what they hold, how that lies in memory, whether they are right. -/
namespace Go.Proofs.Ytejnpppejalhfac
open Go.RowKit Go.Sort
structure Fm where
 data:List UInt8
 refs:Int
 dirty:Bool
 seen:Bool
 deriving DecidableEq
structure Sw where
 data:List UInt8
 refs:Int
 deriving DecidableEq
structure En where
 page:Int
 kind:Int
 at_:Int
 deriving DecidableEq
structure Sc where
 live:Bool
 areas:List Ar
 entries:List En
 deriving DecidableEq
structure Ker where
 sheets:List Sh
 frames:List Fm
 slots:List Sw
 spaces:List Sc
 hand:Int
def fm0:Fm:=⟨[],0,false,false⟩
def sw0:Sw:=⟨[],0⟩
def fmC (f:Fm):List Value:=[.string ⟨f.data.toArray⟩,.int .i64 f.refs,.bool f.dirty,.bool f.seen]
def swC (s:Sw):List Value:=[.string ⟨s.data.toArray⟩,.int .i64 s.refs]
def enC (e:En):List Value:=[.int .i64 e.page,.int .i64 e.kind,.int .i64 e.at_]
structure Sp where
 s:Sc
 va:Value
 ve:Value
def spC (p:Sp):List Value:=[.bool p.s.live,p.va,p.ve]
structure KV where
 sh:List (Sh×Value)
 fr:List Fm
 sl:List Sw
 sp:List Sp
 hand:Int
 vsh:Value
 vfr:Value
 vsl:Value
 vsp:Value
def KV.K (k:KV):Ker:=⟨shs k.sh,k.fr,k.sl,k.sp.map (·.s),k.hand⟩
def kvC (k:KV):List Value:=[k.vsh,k.vfr,k.vsl,k.vsp,.int .i64 k.hand]
structure SpV (w:World) (p:Sp):Prop where
 ar:Sl nF w 4 p.va (p.s.areas.map arC)
 en:Sl nF w 3 p.ve (p.s.entries.map enC)
structure KerV (w:World) (k:KV):Prop where
 sh:ShsV w k.sh k.vsh
 fr:Sl nF w 4 k.vfr (k.fr.map fmC)
 sl:Sl nF w 2 k.vsl (k.sl.map swC)
 sp:Sl nF w 3 k.vsp (k.sp.map spC)
 spv:∀ p ∈ k.sp,SpV w p
theorem SpV.now {w w':World} {Γ:List Asr} {p:Sp} (h:SpV w p) (hS:St nF w w' Γ):SpV w' p:=⟨h.ar.now hS,h.en.now hS⟩
theorem KerV.now {w w':World} {Γ:List Asr} {k:KV} (h:KerV w k) (hS:St nF w w' Γ):KerV w' k:=⟨h.sh.now hS,h.fr.now hS,h.sl.now hS,h.sp.now hS,fun p hp=>(h.spv p hp).now hS⟩
/-! what a page is filled with -/
def b0U (l:List Sh) (p:Int):Option Sh:=l.find? fun s=>decide (s.page=p)
def a09 (l:List Sh) (z:Bool) (p:Int):Option (List UInt8):=if z then some (List.replicate 16 0) else (b0U l p).map a7d
/-! who names what -/
abbrev Nm:=En×Ar
def nmC (n:Nm):List Value:=[.int .i64 n.1.page,.int .i64 n.1.kind,.int .i64 n.1.at_,.int .i64 n.2.pg,.int .i64 n.2.n,.int .i64 n.2.prot,.bool n.2.z]
def a2h {α:Type} (p:α→Bool) (l:List α):Int:=match l.findIdx? p with
 |some i=>(i:Nat)
 |none=>-1
def a0H (s:Sc) (e:En):Nm:=(e,(v7 s.areas e.page).getD a52)
def m8 (l:List Sc) (kind at_:Int):List Nm:=l.flatMap fun s=>(s.entries.filter fun e=>decide (e.kind=kind∧e.at_=at_)).map (a0H s)
def a2k (l:List Nm):Bool:=match l with
 |[]=>true
 |n::r=>r.all fun m=>decide (m.1.page=n.1.page∧m.2.z=n.2.z)
def a4x (A:List Ar) (nf ns:Int) (last:Int) (e:En):Bool:=(v7 A e.page).isSome && decide (last < e.page∧((e.kind=1∧0≤e.at_∧e.at_ < nf)∨(e.kind=2∧0≤e.at_∧e.at_ < ns)))
def a1u (A:List Ar) (nf ns:Int):Int→List En→Bool
 |_,[]=>true
 |last,e::r=>a4x A nf ns last e && a1u A nf ns e.page r
def a2L (l:List Sh) (A:List Ar):Bool:=A.all fun a=>(List.range a.n.toNat).all fun i=>(a09 l a.z (a.pg + (i:Nat))).isSome
def z6 (l:List Sh) (nf ns:Int) (s:Sc):Bool:=if s.live then decide (q7 s.areas=0) && (a2L l s.areas && a1u s.areas nf ns 0 s.entries) else decide (s.areas=[]∧s.entries=[])
def r9 (l:List Sc):Int:=(l.map fun s=>y6 s.areas).sum
def a1Y (l:List Sh) (f:Fm) (by_:List Nm):Bool:=match by_ with
 |[]=>decide (f=fm0)
 |n::r=>decide (f.refs=((n::r).length:Int)∧f.data.length=16) && (a2k (n::r) && (f.dirty||decide (some f.data=a09 l n.2.z n.1.page)))
def a2A (s:Sw) (by_:List Nm):Bool:=match by_ with
 |[]=>decide (s=sw0)
 |n::r=>decide (s.refs=((n::r).length:Int)∧s.data.length=16) && a2k (n::r)
def a2g (K:Ker):Bool:=(List.range K.frames.length).all fun i=>match K.frames[i]? with
 |some f=>a1Y K.sheets f (m8 K.spaces 1 (i:Nat))
 |none=>true
def a3m (K:Ker):Bool:=(List.range K.slots.length).all fun i=>match K.slots[i]? with
 |some s=>a2A s (m8 K.spaces 2 (i:Nat))
 |none=>true
def a2F (K:Ker):Bool:=decide (3≤K.frames.length∧K.frames.length≤64∧K.slots.length≤512∧1≤K.spaces.length∧K.spaces.length≤4∧K.sheets.length≤255)
def b3Y (K:Ker):Bool:=K.spaces.all (z6 K.sheets K.frames.length K.slots.length)
def a5Q (K:Ker):Bool:=(a0W 0 K.sheets && decide (0≤K.hand∧K.hand < K.frames.length)) && (b3Y K && (decide (r9 K.spaces≤K.slots.length) && (a2g K && a3m K)))
def a0Y (K:Ker):Int:=if a2F K=true then (if a5Q K=true then 0 else 1) else 2
/-! where in a list that rises -/
def lbd (l:List Int) (t:Int):Nat:=(l.takeWhile fun p=>decide (p < t)).length
theorem b5k (l:List Int) (t:Int):lbd l t≤l.length:=by
 unfold lbd
 exact List.Sublist.length_le (List.takeWhile_sublist _)
theorem a9z {l:List Int} {t:Int} {i:Nat} (hi:i≤l.length) (h1:∀ (j:Nat) (p:Int),j < i→l[j]?=some p→p < t) (h2:∀ (p:Int),l[i]?=some p→t≤p):lbd l t=i:=by
 unfold lbd
 induction l generalizing i with
 |nil=>simp at hi;subst hi;rfl
 |cons a l ih=>
  cases i with
  |zero=>
   have:=h2 a rfl
   rw [List.takeWhile_cons,if_neg (by simpa using this)]
   rfl
  |succ i=>
   have:=h1 0 a (by omega) rfl
   rw [List.takeWhile_cons,if_pos (by simpa using this),List.length_cons,ih (by simpa using hi) (fun j p hj hp=>h1 (j + 1) p (by omega) (by simpa using hp)) (fun p hp=>h2 p (by simpa using hp))]
def Rises (l:List Int):Prop:=l.Pairwise (·< ·)
theorem Rises.at_ {l:List Int} (h:Rises l) {i j:Nat} {a b:Int} (hij:i < j) (ha:l[i]?=some a) (hb:l[j]?=some b):a < b:=by
 obtain ⟨h1,rfl⟩:=List.getElem?_eq_some_iff.1 ha
 obtain ⟨h2,rfl⟩:=List.getElem?_eq_some_iff.1 hb
 exact List.pairwise_iff_getElem.1 h i j h1 h2 hij
theorem b4J {l:List Int} (h:Rises l) {i:Nat} {t:Int} (hi:l[i]?=some t):lbd l t=i :=
 a9z (Nat.le_of_lt (j3 hi)) (fun _ _ hj hp=>h.at_ hj hp hi) (fun p hp=>by rw [hi] at hp;cases hp;exact Int.le_refl _)
theorem a01 {l:List Int} (h:Rises l) (t:Int):(l[lbd l t]?=some t) ↔ t ∈ l:=by
 constructor
 ·intro hh;exact List.mem_of_getElem? hh
 ·intro hm
  obtain ⟨i,hi⟩:=List.mem_iff_getElem?.1 hm
  rw [b4J h hi]
  exact hi
theorem a2V {α:Type} {p:α→Bool} {l:List α} {k:Nat} {x:α} (h:(l.take k).all (fun y=>!p y)=true) (hx:l[k]?=some x) (hp:p x=true):a2h p l=(k:Nat):=by
 unfold a2h
 have:l.findIdx? p=some k:=by
  rw [List.findIdx?_eq_some_iff_getElem]
  obtain ⟨h1,rfl⟩:=List.getElem?_eq_some_iff.1 hx
  refine ⟨h1,hp,fun j hj=>?_⟩
  have:=List.all_eq_true.1 h l[j] (List.mem_iff_getElem?.2 ⟨j,by rw [List.getElem?_take];simp [hj]⟩)
  simpa using this
 rw [this]
theorem a2q {α:Type} {p:α→Bool} {l:List α} {k:Nat} (h:(l.take k).all (fun y=>!p y)=true) (hk:l.length≤k):a2h p l=-1:=by
 unfold a2h
 rw [List.take_of_length_le hk] at h
 have:l.findIdx? p=none:=by
  rw [List.findIdx?_eq_none_iff]
  intro x hx
  have:=List.all_eq_true.1 h x hx
  simpa using this
 rw [this]
theorem a8L {α:Type} {p:α→Bool} {l:List α}:decide (0≤a2h p l)=l.any p:=by
 unfold a2h
 cases h:l.findIdx? p with
 |none=>
  rw [List.findIdx?_eq_none_iff] at h
  symm
  rw [show decide (0≤(-1:Int))=false from rfl,List.any_eq_false]
  intro x hx
  simp [h x hx]
 |some i=>
  rw [List.findIdx?_eq_some_iff_getElem] at h
  obtain ⟨h1,h2,-⟩:=h
  rw [decide_eq_true (by omega:(0:Int)≤((i:Nat):Int))]
  symm
  rw [List.any_eq_true]
  exact ⟨l[i],by simp,h2⟩
end Go.Proofs.Ytejnpppejalhfac
/- THE STEP CALCULUS, part 12: append of a slice that is only read, empty or not. -/
namespace Go.Proofs.Ytejnpppejalhfac
open Go.RowKit Go.Sort
section
variable {P:Program} {n:Nat} {ds:List Deferred} {E:Fr} {w:World} {Q:Exit→Act→World→Prop} {ops:Array Oper} {rest:List Oper} {d:Nat} {dst:Option Nat} {ty:TypeId} {pos:String} {after:Array Edge} {F:Nat→Prop} {w0:World} {Γ:List Asr} {T:Tab}
theorem a83 (hS:St F w0 w Γ) (hT:TabOk P T) {t e sz eb i:Nat} {ag:Bool} {ez:List Value} {x y:Operand} {v u:Value} {rows news:List (List Value)} (ht:T.get t=some (.sl e sz eb ag ez)) (hx:E.ev x=some v) (hi:Γ[i]?=some (.row e sz v rows)) (hy:E.ev y=some u)
  (hn:Sl nF w sz u news) (hbig:(rows.length + news.length) * (eb + 1)≤140737488355328) :
  Gets P ⟨dst,.call { callee:=.builtin .append,args:=#[x,y],argTypes:=#[t,t] },ty,pos,after,none⟩ n ds E w (fun v' w'=>∃ p cap,v'=.slice p (rows.length + news.length) cap∧St F w0 w' (Γ.set i (.row e sz (.slice p (rows.length + news.length) cap) (rows++news)))):=by
 rcases hn with ⟨p,c,rfl,rfl⟩|⟨b,off,cap,rfl,h2,h3,h4⟩
 ·cases p with
  |none=>
   intro a ha K Q k
   obtain ⟨ji,zv,hu,hinfo,_⟩:=hT.sl ht
   obtain ⟨ho,hlen,hone⟩:=hS.at_ hi
   have e1:Builtin.append_ #[t,t] ty #[v,.slice none 0 c]=Builtin.append_ #[t,t] ty #[v,.slice none 0 0]:=rfl
   have hr:=run_append_owned_none (P:=P) w 0 t ty e ji sz hu hinfo v _ _ ho
   have hex:(execOp a.eval ⟨dst,.call { callee:=.builtin .append,args:=#[x,y],argTypes:=#[t,t] },ty,pos,after,none⟩).run P w=.ok (.value v) w:=by
    simp [execOp,resolve,invoke,builtin,ha.ev hx,ha.ev hy,e1,hr,Result.andThen]
   unfold Oper.wp
   rw [hex]
   obtain ⟨p,cap,hv⟩:=hS.rowSlice i hi
   subst hv
   refine k _ _ ⟨p,cap,rfl,?_⟩
   rw [List.append_nil]
   exact hS.upd hi (World.grownBy.refl _ _) ⟨ho,hlen,hone⟩ (fun q hq=>Or.inl hq)
  |some a0=>
   intro a ha K Q k
   obtain ⟨ji,zv,hu,hinfo,_,hs,hby,hz,hzl,_,hsz,hs0⟩:=hT.sl ht
   obtain ⟨ho,hlen,hone⟩:=hS.at_ hi
   have hb1:rows.length * eb + rows.length≤140737488355328:=by rw [List.length_nil,Nat.add_zero,Nat.mul_succ] at hbig;exact hbig
   obtain ⟨v',w',hrun,hown,hg,_,hat⟩:=run_append_own_at (P:=P) w 0 t ty e ji zv sz eb hu hinfo hz hs hby (by rw [← Array.length_toList,hzl,hsz]) (Nat.pos_of_ne_zero hs0) v rows.length rows.flatten ho a0 0 c [] (by simp) (fun j u hu=>by simp at hu) (by simp) (by unfold maxLen;omega) (by rw [Nat.add_zero];omega) (Nat.zero_le _)
   have hex:(execOp a.eval ⟨dst,.call { callee:=.builtin .append,args:=#[x,y],argTypes:=#[t,t] },ty,pos,after,none⟩).run P w=.ok (.value v') w':=by
    simp [execOp,resolve,invoke,builtin,ha.ev hx,ha.ev hy,hrun,Result.andThen]
   unfold Oper.wp
   rw [hex]
   rw [Nat.add_zero,List.append_nil] at hown
   have hown':(Asr.row e sz v' rows).holds w':=⟨hown,hlen,hone⟩
   obtain ⟨p,cap,hv'⟩:∃ p cap,v'=.slice p rows.length cap:=by
    rcases hown.2 with ⟨rfl,h0⟩|⟨g,cap,cur,rfl,_⟩
    ·exact ⟨none,0,by rw [h0]⟩
    ·exact ⟨_,_,rfl⟩
   subst hv'
   refine k _ _ ⟨p,cap,rfl,?_⟩
   rw [List.append_nil]
   refine hS.upd hi hg hown' fun q hq=>?_
   rcases hat with h|h
   ·exact Or.inl (h.symm.trans hq)
   ·have:some w.heap.size=some q:=h.symm.trans hq
    cases this
    exact Or.inr (Nat.le_refl _)
 ·exact a0z hS hT ht hx hi hy h4 rfl hbig
theorem a0P (hS:St F w0 w Γ) (hT:TabOk P T) {t e sz eb:Nat} (i:Nat) {ag:Bool} {ez:List Value} {x y:Operand} {v u:Value} {rows news:List (List Value)} (ht:T.get t=some (.sl e sz eb ag ez)) (hx:E.ev x=some v) (hi:Γ[i]?=some (.row e sz v rows)) (hy:E.ev y=some u)
  (hn:Sl nF w sz u news) (hbig:(rows.length + news.length) * (eb + 1)≤140737488355328) (hd:Nat.blt d n=true) (k:∀ p cap w',St F w0 w' (Γ.set i (.row e sz (.slice p (rows.length + news.length) cap) (rows++news)))→WL P ops Q rest n ds ((d,.slice p (rows.length + news.length) cap)::E) w'):WL P ops Q (⟨some d,.call { callee:=.builtin .append,args:=#[x,y],argTypes:=#[t,t] },ty,pos,after,none⟩::rest) n ds E w :=
 y7 hd (a83 hS hT ht hx hi hy hn hbig) (by rintro _ w' ⟨p,cap,rfl,h⟩;exact k p cap w' h)
theorem b5n {t yt:TypeId} {x y:Operand} {m k:Int} (hx:E.ev x=some (.int .i64 m)) (hy:E.ev y=some (.int .i64 k)) (h3:0 < k):∀ a,Has n ds a E→∀ dst,a0I P ⟨dst,.binOp .rem t x y yt,ty,pos,after,none⟩ a (.int .i64 (m.tmod k)):=fun a ha _ w=>by
 have hk:¬ k=0:=by omega
 simp [execOp,ha.ev hx,ha.ev hy,eqGuard,binOp,Op.intDiv,hk]
theorem a24 {t yt:TypeId} {x y:Operand} {m k:Int} (hx:E.ev x=some (.int .i64 m)) (hy:E.ev y=some (.int .i64 k)) (h3:0 < k) (hd:Nat.blt d n=true) (k':WL P ops Q rest n ds ((d,.int .i64 (m.tmod k))::E) w):WL P ops Q (⟨some d,.binOp .rem t x y yt,ty,pos,after,none⟩::rest) n ds E w:=z8 (fun a ha=>b5n hx hy h3 a ha _) hd k'
end
end Go.Proofs.Ytejnpppejalhfac
/- THE STEP CALCULUS, part 14: regions that draw their order, operation by operation: what is pure is taken first, the rest in whatever order is left. -/
namespace Go.Proofs.Ytejnpppejalhfac
open Go.RowKit Go.Sort
section
variable {P:Program} {n:Nat} {ds:List Deferred} {E:Fr} {w:World} {Q:Exit→Act→World→Prop} {ops:Array Oper} {S:World→Prop} {fuel:Nat} {li:Array Bool} {d:Nat} {op:Op} {ty:TypeId} {pos:String} {after:Array Edge} {F:Nat→Prop} {w0:World} {Γ:List Asr} {T:Tab}
def WA (P:Program) (ops:Array Oper) (Q:Exit→Act→World→Prop) (S:World→Prop) (fuel:Nat) (li:Array Bool) (n:Nat) (ds:List Deferred) (E:Fr) (w:World):Prop:=∀ a,Has n ds a E→wpAnyH P .any ops Q S fuel li a w
def WO (P:Program) (ops:Array Oper) (Q:Exit→Act→World→Prop) (S:World→Prop) (fuel:Nat) (li:Array Bool) (n:Nat) (ds:List Deferred) (E:Fr) (w:World) (i:Nat):Prop:=∀ a,Has n ds a E→wpOp P ops Q i (fun a' w'=>S w'∧wpAnyH P .any ops Q S fuel (li.setIfInBounds i true) a' w') a w
theorem a1F (S:World→Prop) {id:Nat} {l:List Oper} (m:Nat) (hl:l.length=m) (hS:St F w0 w Γ) (hm:P.follows .mixedOrders=true) (h:∀ w1,St F w0 w1 Γ→WA P l.toArray Q S m (Array.replicate m false) n ds E w1):WC P (.region id l.toArray true) Q n ds E w:=fun a ha=>by
 subst hl
 exact wp_region_held (S:=S) hm (h { w with drawn:=w.drawn + 1 } (hS.grow ⟨rfl,rfl,rfl,Nat.le_refl _,fun _ _ _=>rfl⟩) a ha)
theorem y0 (hr:Region.ready .any ops li=[]) (h:WQ Q .normal n ds E w):WA P ops Q S fuel li n ds E w:=fun a ha=>wpAnyH_done hr (h a ha) fuel
theorem n8 (i:Nat) {v:Value} (hT:TabOk P T) (hi:ops[i]?=some ⟨some d,op,ty,pos,after,none⟩) (hs:Region.noSelect ops=true) (hf:Region.free .any ops li i=true) (hr:(Region.ready .any ops li).contains i=true)
  (hQ:∀ c (a:Act) w,Q (.panic c) (a.put (some d) v) w→Q (.panic c) a w) (hS:S w) (hv:a3Q T E op=some v) (hd:Nat.blt d n=true) (k:WA P ops Q S fuel (li.setIfInBounds i true) n ds ((d,v)::E) w):WA P ops Q S (fuel + 1) li n ds E w:=fun a ha=>
 wpAnyH_take hi hs hf hr hQ (Or.inl ⟨rfl,fun w _=>r8 hT ha hv w⟩) hS (k _ (ha.put d v hd))
theorem v6 (i:Nat) {t:TypeId} {x:Operand} {p:Addr} {v:Value} (hi:ops[i]?=some ⟨some d,.load t x,ty,pos,after,none⟩) (hs:Region.noSelect ops=true) (hf:Region.free .any ops li i=true) (hr:(Region.ready .any ops li).contains i=true)
  (hQ:∀ c (a:Act) w,Q (.panic c) (a.put (some d) v) w→Q (.panic c) a w) (hS:S w) (hx:E.ev x=some (.pointer (some p))) (hl:∀ w,S w→Loads P t p v w) (hd:Nat.blt d n=true) (k:WA P ops Q S fuel (li.setIfInBounds i true) n ds ((d,v)::E) w):WA P ops Q S (fuel + 1) li n ds E w:=fun a ha=>
 wpAnyH_take hi hs hf hr hQ (Or.inl ⟨rfl,fun w hw=>by
  have h:=hl w hw
  unfold Loads at h
  simp only [execOp,ha.ev hx,Instr.loadAt,Instr.sureAddr,Sem.run_bind,Sem.run_pure,Result.andThen_ok,h]⟩) hS (k _ (ha.put d v hd))
theorem o9 {i:Nat} (hr:Region.ready .any ops li=[i]) (h:WO P ops Q S fuel li n ds E w i):WA P ops Q S (fuel + 1) li n ds E w:=fun a ha=>
 wpAnyH_all hr (by simp) (fun j hj=>by
  have:j=i:=by simpa using hj
  subst this
  exact h a ha)
theorem a20 {i j:Nat} (hr:Region.ready .any ops li=[i,j]) (h1:WO P ops Q S fuel li n ds E w i) (h2:WO P ops Q S fuel li n ds E w j):WA P ops Q S (fuel + 1) li n ds E w:=fun a ha=>
 wpAnyH_all hr (by simp) (fun k hk=>by
  have:k=i∨k=j:=by simpa using hk
  rcases this with rfl|rfl
  ·exact h1 a ha
  ·exact h2 a ha)
theorem o7 {i:Nat} {Φ:Value→World→Prop} (hi:ops[i]?=some ⟨some d,op,ty,pos,after,none⟩) (h:Gets P ⟨some d,op,ty,pos,after,none⟩ n ds E w Φ) (hd:Nat.blt d n=true) (k:∀ v w',Φ v w'→S w'∧WA P ops Q S fuel (li.setIfInBounds i true) n ds ((d,v)::E) w'):WO P ops Q S fuel li n ds E w i:=fun a ha=>by
 unfold wpOp
 simp only [hi]
 rw [if_pos (show Region.wanted _ _=true from rfl)]
 exact Or.inl (h a ha _ _ fun v w' hv=>⟨(k v w' hv).1,(k v w' hv).2 _ (ha.put d v hd)⟩)
theorem q9 {i:Nat} {Φ:Value→World→Prop} (hi:ops[i]?=some ⟨none,op,ty,pos,after,none⟩) (h:Gets P ⟨none,op,ty,pos,after,none⟩ n ds E w Φ) (k:∀ v w',Φ v w'→S w'∧WA P ops Q S fuel (li.setIfInBounds i true) n ds E w'):WO P ops Q S fuel li n ds E w i:=fun a ha=>by
 unfold wpOp
 simp only [hi]
 rw [if_pos (show Region.wanted _ _=true from rfl)]
 exact Or.inl (h a ha _ _ fun v w' hv=>⟨(k v w' hv).1,(k v w' hv).2 _ ha⟩)
end
end Go.Proofs.Ytejnpppejalhfac
/- THE STEP CALCULUS, part 15: calls that may panic; panics of the text's own; slices of strings. -/
namespace Go.Proofs.Ytejnpppejalhfac
open Go.RowKit Go.Sort
def RP (c:List PanicEntry) (Φ:Value→World→Prop) (Ψ:World→Prop) (e:Ending) (w':World):Prop:=(∃ v,e=.returned v∧Φ v w')∨(e=.panicked c∧Ψ w')
structure FnP (P:Program) (f:FuncId) (args:List Value) (w:World) (c:List PanicEntry) (Φ:Value→World→Prop) (Ψ:World→Prop):Prop where
 ok:∃ fn,a4A P f fn
 calls:Calls P f args.toArray w (RP c Φ Ψ)
section
variable {P:Program} {n:Nat} {ds:List Deferred} {E:Fr} {w:World} {Q:Exit→Act→World→Prop} {ops:Array Oper} {rest:List Oper} {d:Nat} {dst:Option Nat} {op:Op} {ty:TypeId} {pos:String} {after:Array Edge} {T:Tab} {c:List PanicEntry}
theorem FnP.mono {f:FuncId} {args:List Value} {Φ Φ':Value→World→Prop} {Ψ Ψ':World→Prop} (h:FnP P f args w c Φ Ψ) (h1:∀ v w',Φ v w'→Φ' v w') (h2:∀ w',Ψ w'→Ψ' w'):FnP P f args w c Φ' Ψ' :=
 ⟨h.ok,h.calls.mono fun _ _ h=>by
  rcases h with ⟨v,e,hv⟩|⟨e,hw⟩
  ·exact Or.inl ⟨v,e,h1 v _ hv⟩
  ·exact Or.inr ⟨e,h2 _ hw⟩⟩
end
section
variable {P:Program} {n:Nat} {E:Fr} {w:World} {c:List PanicEntry} {fn:Func} {Φ:Value→World→Prop} {Ψ:World→Prop} {v v1 v2:Value}
end
end Go.Proofs.Ytejnpppejalhfac
/- THE STEP CALCULUS, part 16: slices of strings; deferred closures; a panic that is caught. -/
namespace Go.Proofs.Ytejnpppejalhfac
open Go.RowKit Go.Sort
section
variable {P:Program} {n:Nat} {ds:List Deferred} {E:Fr} {w:World} {Q:Exit→Act→World→Prop} {ops:Array Oper} {rest:List Oper} {d:Nat} {dst:Option Nat} {op:Op} {ty:TypeId} {pos:String} {after:Array Edge} {T:Tab}
theorem a25 (l:List UInt8) (a b:Nat):(⟨l.toArray⟩:ByteArray).extract a b=⟨((l.drop a).take (b - a)).toArray⟩:=ByteArray.extract_mk l a b
theorem a6V (hT:TabOk P T) {t sz:Nat} {z:Value} {x lo:Operand} {kk:IntKind} {l:List UInt8} {i:Int} (ht:T.get t=some (.sc .string sz z)) (hx:E.ev x=some (.string ⟨l.toArray⟩)) (hlo:E.ev lo=some (.int kk i)) (h0:0≤i) (h1:i≤l.length):∀ a,Has n ds a E→∀ dst,a0I P ⟨dst,.slice t x (some lo) none none,ty,pos,after,none⟩ a (.string ⟨(l.drop i.toNat).toArray⟩):=fun a ha _ w=>by
 obtain ⟨_,hu,_⟩:=hT.sc ht
 have hs:(⟨l.toArray⟩:ByteArray).size=l.length:=rfl
 simp only [execOp,ha.ev hx,Option.map_some,ha.ev hlo,Option.map_none]
 simp only [Sem.run_bind,run_sliceAt_string w t _ _ _ _ hu,run_slice_string_l w t ⟨l.toArray⟩ hu kk i h0 (by rw [hs];exact h1),Result.andThen_ok,Sem.run_pure,a25,hs]
 rw [List.take_of_length_le (by simp)]
theorem b0t (hT:TabOk P T) {t sz:Nat} {z:Value} {x hi:Operand} {kk:IntKind} {l:List UInt8} {j:Int} (ht:T.get t=some (.sc .string sz z)) (hx:E.ev x=some (.string ⟨l.toArray⟩)) (hhi:E.ev hi=some (.int kk j)) (h0:0≤j) (h1:j≤l.length):∀ a,Has n ds a E→∀ dst,a0I P ⟨dst,.slice t x none (some hi) none,ty,pos,after,none⟩ a (.string ⟨(l.take j.toNat).toArray⟩):=fun a ha _ w=>by
 obtain ⟨_,hu,_⟩:=hT.sc ht
 have hs:(⟨l.toArray⟩:ByteArray).size=l.length:=rfl
 simp only [execOp,ha.ev hx,Option.map_some,ha.ev hhi,Option.map_none]
 simp only [Sem.run_bind,run_sliceAt_string w t _ _ _ _ hu,run_slice_string_h w t ⟨l.toArray⟩ hu kk j h0 (by rw [hs];exact h1),Result.andThen_ok,Sem.run_pure,a25,List.drop_zero,Nat.sub_zero]
theorem b2Y (hT:TabOk P T) {t sz:Nat} {z:Value} {x lo hi:Operand} {k1 k2:IntKind} {l:List UInt8} {i j:Int} (ht:T.get t=some (.sc .string sz z)) (hx:E.ev x=some (.string ⟨l.toArray⟩)) (hlo:E.ev lo=some (.int k1 i)) (hhi:E.ev hi=some (.int k2 j)) (h0:0≤i) (h1:i≤j) (h2:j≤l.length):∀ a,Has n ds a E→∀ dst,a0I P ⟨dst,.slice t x (some lo) (some hi) none,ty,pos,after,none⟩ a (.string ⟨((l.drop i.toNat).take (j.toNat - i.toNat)).toArray⟩):=fun a ha _ w=>by
 obtain ⟨_,hu,_⟩:=hT.sc ht
 have hs:(⟨l.toArray⟩:ByteArray).size=l.length:=rfl
 simp only [execOp,ha.ev hx,Option.map_some,ha.ev hlo,ha.ev hhi,Option.map_none]
 simp only [Sem.run_bind,run_sliceAt_string w t _ _ _ _ hu,run_slice_string w t ⟨l.toArray⟩ k1 k2 i j hu h0 h1 (by rw [hs];exact h2),Result.andThen_ok,Sem.run_pure,a25]
theorem a6Q (hT:TabOk P T) {t sz:Nat} {z:Value} {x lo:Operand} {kk:IntKind} {l:List UInt8} {i:Int} (ht:T.get t=some (.sc .string sz z)) (hx:E.ev x=some (.string ⟨l.toArray⟩)) (hlo:E.ev lo=some (.int kk i)) (h0:0≤i) (h1:i≤l.length) (hd:Nat.blt d n=true) (k:WL P ops Q rest n ds ((d,.string ⟨(l.drop i.toNat).toArray⟩)::E) w):WL P ops Q (⟨some d,.slice t x (some lo) none none,ty,pos,after,none⟩::rest) n ds E w:=z8 (fun a ha=>a6V hT ht hx hlo h0 h1 a ha _) hd k
theorem b4G (hT:TabOk P T) {t sz:Nat} {z:Value} {x hi:Operand} {kk:IntKind} {l:List UInt8} {j:Int} (ht:T.get t=some (.sc .string sz z)) (hx:E.ev x=some (.string ⟨l.toArray⟩)) (hhi:E.ev hi=some (.int kk j)) (h0:0≤j) (h1:j≤l.length) (hd:Nat.blt d n=true) (k:WL P ops Q rest n ds ((d,.string ⟨(l.take j.toNat).toArray⟩)::E) w):WL P ops Q (⟨some d,.slice t x none (some hi) none,ty,pos,after,none⟩::rest) n ds E w:=z8 (fun a ha=>b0t hT ht hx hhi h0 h1 a ha _) hd k
end
/-! a function that defers one closure -/
section
variable {P:Program} {n:Nat} {E:Fr} {w:World} {fn:Func} {Φ:Value→World→Prop}
end
end Go.Proofs.Ytejnpppejalhfac
/- THE STEP CALCULUS, part 17: regions that draw their order: loads taken first, of cells that stay as they are till the operation q is carried out (which waits for them). -/
namespace Go.Proofs.Ytejnpppejalhfac
open Go.RowKit Go.Sort
section
variable {P:Program} {ops:Array Oper} {Q:Exit→Act→World→Prop} {S:World→Prop} {q:Nat}
def a3c (P:Program) (ops:Array Oper) (Q:Exit→Act→World→Prop) (S:World→Prop) (q:Nat):Nat→Array Bool→Act→World→Prop
 |0,li,a,w=>Region.ready .any ops li=[]∧Q .normal a w
 |fuel + 1,li,a,w=>(Region.ready .any ops li=[]→Q .normal a w)∧∀ i ∈ Region.ready .any ops li,wpOp P ops Q i (fun a' w'=>(i=q∨li.getD q false=true∨S w')∧a3c P ops Q S q fuel (li.setIfInBounds i true) a' w') a w
theorem a8s:∀ (fuel:Nat) (li:Array Bool) (a:Act) (w:World),a3c P ops Q S q fuel li a w→wpAny P .any ops Q fuel li a w
 |0,_,_,_,h=>h
 |fuel + 1,_,_,_,h=>⟨h.1,fun i hi=>wpOp_mono (fun a' w' h'=>a8s fuel _ a' w' h'.2) (h.2 i hi)⟩
theorem a87 {i:Nat} {oi oq:Oper} {v:Value} (hi:ops[i]?=some oi) (hsel:∀ (j:Nat) (o:Oper) cs b,ops[j]?=some o→o.op≠.select cs b)
  (hQ:∀ c a w,Q (.panic c) (a.put oi.dst v) w→Q (.panic c) a w) (hoq:ops[q]?=some oq) (hq:∃ e ∈ oq.after,Region.binds .any e=true∧e.on=i) (hqi:q≠i) :
  ∀ (fuel:Nat) (li:Array Bool) (a:Act) (w:World),
   (∀ j oj,ops[j]?=some oj→j≠i→li.getD j true=false→(∀ e ∈ oj.after,Region.binds .any e=true→e.on≠i)→oi.apart ops oj=true) →
   i ∈ Region.ready .any ops li→li.getD q false=false→YieldsIf P ops S oi v a→S w →
   a3c P ops Q S q fuel (li.setIfInBounds i true) (a.put oi.dst v) w→a3c P ops Q S q (fuel + 1) li a w:=by
 intro fuel
 have step:∀ (li:Array Bool) (j:Nat),i ∈ Region.ready .any ops li→j ∈ Region.ready .any ops li→∀ oj,ops[j]?=some oj→∀ e ∈ oj.after,Region.binds .any e=true→e.on≠i:=by
  intro li j hr hj oj hoj e he hb heq
  obtain ⟨_,o,ho,hall⟩:=mem_ready.1 hj
  rw [hoj] at ho
  cases ho
  have h1:=hall e he hb
  have h0:=(mem_ready.1 hr).1
  rw [heq] at h1
  rcases Nat.lt_or_ge i li.size with h'|h'
  ·simp [h'] at h0 h1;rw [h0] at h1;cases h1
  ·simp [Array.getElem?_eq_none h'] at h1
 have notq:∀ (li:Array Bool) (j:Nat),i ∈ Region.ready .any ops li→j ∈ Region.ready .any ops li→j≠q:=by
  rintro li j hr hj rfl
  obtain ⟨e,he,hb,heq⟩:=hq
  exact step li _ hr hj oq hoq e he hb heq
 induction fuel with
 |zero=>
  intro li a w _ hr hnq hy hS H
  refine ⟨fun h=>(by rw [h] at hr;cases hr),fun j hj=>?_⟩
  by_cases hji:j=i
  ·subst hji;exact hy.wpOp hi hS ⟨Or.inr (Or.inr hS),H⟩
  ·have:=ready_mono hj hji
   rw [H.1] at this
   cases this
 |succ fuel ih=>
  intro li a w hfree hr hnq hy hS H
  refine ⟨fun h=>(by rw [h] at hr;cases hr),fun j hj=>?_⟩
  by_cases hji:j=i
  ·subst hji;exact hy.wpOp hi hS ⟨Or.inr (Or.inr hS),H⟩
  ·have hjq:=notq li j hr hj
   have h1:=H.2 j (ready_mono hj hji)
   obtain ⟨hjun,oj,hoj,_⟩:=mem_ready.1 hj
   have h2:=wpOp_putIf hoj (hfree j oj hoj hji hjun (step li j hr hj oj hoj)) (fun cs b=>hsel i oi cs b hi) (fun cs b=>hsel j oj cs b hoj) hQ hy h1
   have hfree':∀ k ok,ops[k]?=some ok→k≠i→(li.setIfInBounds j true).getD k true=false →
     (∀ e ∈ ok.after,Region.binds .any e=true→e.on≠i)→oi.apart ops ok=true:=fun k ok hk hki hun hno=>by
    refine hfree k ok hk hki ?_ hno
    by_cases hjk:j=k
    ·subst hjk;exact hjun
    ·rw [getD_set_ne true hjk] at hun;exact hun
   have hnq':(li.setIfInBounds j true).getD q false=false:=by rw [getD_set_ne false hjq];exact hnq
   have hnq2:(li.setIfInBounds i true).getD q false=false:=by rw [getD_set_ne false (Ne.symm hqi)];exact hnq
   refine wpOp_mono (fun a' w' h3=>?_) h2
   have hS':S w':=by
    rcases h3.2.1 with h|h|h
    ·exact (hjq h).elim
    ·rw [hnq2] at h;cases h
    ·exact h
   refine ⟨Or.inr (Or.inr hS'),ih (li.setIfInBounds j true) a' w' hfree' (ready_mono hr (Ne.symm hji)) hnq' h3.1 hS' ?_⟩
   rw [Array.setIfInBounds_comm _ _ hji]
   exact h3.2.2
theorem a6G {i:Nat} {oi:Oper} {v:Value} (hi:ops[i]?=some oi) (hsel:∀ (j:Nat) (o:Oper) cs b,ops[j]?=some o→o.op≠.select cs b)
  (hQ:∀ c a w,Q (.panic c) (a.put oi.dst v) w→Q (.panic c) a w) (hqi:q≠i) :
  ∀ (fuel:Nat) (li:Array Bool) (a:Act) (w:World),
   (∀ j oj,ops[j]?=some oj→j≠i→li.getD j true=false→(∀ e ∈ oj.after,Region.binds .any e=true→e.on≠i)→oi.apart ops oj=true) →
   i ∈ Region.ready .any ops li→(li.getD q false=true∨S w)→YieldsIf P ops (fun _=>True) oi v a →
   a3c P ops Q S q fuel (li.setIfInBounds i true) (a.put oi.dst v) w→a3c P ops Q S q (fuel + 1) li a w:=by
 intro fuel
 have step:∀ (li:Array Bool) (j:Nat),i ∈ Region.ready .any ops li→j ∈ Region.ready .any ops li→∀ oj,ops[j]?=some oj→∀ e ∈ oj.after,Region.binds .any e=true→e.on≠i:=by
  intro li j hr hj oj hoj e he hb heq
  obtain ⟨_,o,ho,hall⟩:=mem_ready.1 hj
  rw [hoj] at ho
  cases ho
  have h1:=hall e he hb
  have h0:=(mem_ready.1 hr).1
  rw [heq] at h1
  rcases Nat.lt_or_ge i li.size with h'|h'
  ·simp [h'] at h0 h1;rw [h0] at h1;cases h1
  ·simp [Array.getElem?_eq_none h'] at h1
 induction fuel with
 |zero=>
  intro li a w _ hr hS hy H
  refine ⟨fun h=>(by rw [h] at hr;cases hr),fun j hj=>?_⟩
  by_cases hji:j=i
  ·subst hji;exact hy.wpOp hi trivial ⟨Or.inr hS,H⟩
  ·have:=ready_mono hj hji
   rw [H.1] at this
   cases this
 |succ fuel ih=>
  intro li a w hfree hr hS hy H
  refine ⟨fun h=>(by rw [h] at hr;cases hr),fun j hj=>?_⟩
  by_cases hji:j=i
  ·subst hji;exact hy.wpOp hi trivial ⟨Or.inr hS,H⟩
  ·have h1:=H.2 j (ready_mono hj hji)
   obtain ⟨hjun,oj,hoj,_⟩:=mem_ready.1 hj
   have h2:=wpOp_putIf hoj (hfree j oj hoj hji hjun (step li j hr hj oj hoj)) (fun cs b=>hsel i oi cs b hi) (fun cs b=>hsel j oj cs b hoj) hQ hy h1
   have hfree':∀ k ok,ops[k]?=some ok→k≠i→(li.setIfInBounds j true).getD k true=false →
     (∀ e ∈ ok.after,Region.binds .any e=true→e.on≠i)→oi.apart ops ok=true:=fun k ok hk hki hun hno=>by
    refine hfree k ok hk hki ?_ hno
    by_cases hjk:j=k
    ·subst hjk;exact hjun
    ·rw [getD_set_ne true hjk] at hun;exact hun
   refine wpOp_mono (fun a' w' h3=>?_) h2
   have hS':j=q∨li.getD q false=true∨S w':=by
    rcases h3.2.1 with h|h|h
    ·exact Or.inl h
    ·rw [getD_set_ne false (Ne.symm hqi)] at h;exact Or.inr (Or.inl h)
    ·exact Or.inr (Or.inr h)
   have hS2:(li.setIfInBounds j true).getD q false=true∨S w':=by
    rcases hS' with h|h|h
    ·left
     subst h
     have hjl:j < li.size:=by
      rcases Nat.lt_or_ge j li.size with h'|h'
      ·exact h'
      ·simp [Array.getElem?_eq_none h'] at hjun
     simp [hjl]
    ·exact Or.inl (getD_set_true h)
    ·exact Or.inr h
   refine ⟨hS',ih (li.setIfInBounds j true) a' w' hfree' (ready_mono hr (Ne.symm hji)) hS2 h3.1 ?_⟩
   rw [Array.setIfInBounds_comm _ _ hji]
   exact h3.2.2
end
section
variable {P:Program} {n:Nat} {ds:List Deferred} {E:Fr} {w:World} {Q:Exit→Act→World→Prop} {ops:Array Oper} {S:World→Prop} {q fuel:Nat} {li:Array Bool} {d:Nat} {op:Op} {ty:TypeId} {pos:String} {after:Array Edge} {F:Nat→Prop} {w0:World} {Γ:List Asr} {T:Tab} {c:List PanicEntry}
def WT (P:Program) (ops:Array Oper) (Q:Exit→Act→World→Prop) (S:World→Prop) (q fuel:Nat) (li:Array Bool) (n:Nat) (ds:List Deferred) (E:Fr) (w:World):Prop:=∀ a,Has n ds a E→a3c P ops Q S q fuel li a w
def WP (P:Program) (ops:Array Oper) (Q:Exit→Act→World→Prop) (S:World→Prop) (q fuel:Nat) (li:Array Bool) (n:Nat) (ds:List Deferred) (E:Fr) (w:World) (i:Nat):Prop:=∀ a,Has n ds a E→wpOp P ops Q i (fun a' w'=>(i=q∨li.getD q false=true∨S w')∧a3c P ops Q S q fuel (li.setIfInBounds i true) a' w') a w
theorem a3o (S:World→Prop) (q:Nat) {id:Nat} {l:List Oper} (m:Nat) (hl:l.length=m) (hS:St F w0 w Γ) (hm:P.follows .mixedOrders=true) (h:∀ w1,St F w0 w1 Γ→WT P l.toArray Q S q m (Array.replicate m false) n ds E w1):WC P (.region id l.toArray true) Q n ds E w:=fun a ha=>by
 subst hl
 exact wp_region_any hm (a8s _ _ _ _ (h { w with drawn:=w.drawn + 1 } (hS.grow ⟨rfl,rfl,rfl,Nat.le_refl _,fun _ _ _=>rfl⟩) a ha))
def a9k (ops:Array Oper) (q i:Nat):Bool:=match ops[q]? with
 |some o=>o.after.toList.any (fun e=>Region.binds .any e && Nat.beq e.on i)
 |none=>false
theorem b3i {q i:Nat} (h:a9k ops q i=true):∃ oq,ops[q]?=some oq∧∃ e ∈ oq.after,Region.binds .any e=true∧e.on=i:=by
 unfold a9k at h
 split at h
 ·rename_i o ho
  obtain ⟨e,he,h2⟩:=List.any_eq_true.1 h
  simp only [Bool.and_eq_true] at h2
  exact ⟨o,ho,e,by simpa using he,h2.1,Nat.eq_of_beq_eq_true h2.2⟩
 ·cases h
theorem r7 (i:Nat) {t:TypeId} {x:Operand} {p:Addr} {v:Value} (hi:ops[i]?=some ⟨some d,.load t x,ty,pos,after,none⟩) (hs:Region.noSelect ops=true) (hf:Region.free .any ops li i=true) (hr:(Region.ready .any ops li).contains i=true) (hw:a9k ops q i=true) (hqi:Nat.beq q i=false) (hnq:li.getD q false=false)
  (hQ:∀ c (a:Act) w,Q (.panic c) (a.put (some d) v) w→Q (.panic c) a w) (hS:S w) (hx:E.ev x=some (.pointer (some p))) (hl:∀ w,S w→Loads P t p v w) (hd:Nat.blt d n=true) (k:WT P ops Q S q fuel (li.setIfInBounds i true) n ds ((d,v)::E) w):WT P ops Q S q (fuel + 1) li n ds E w:=fun a ha=>by
 obtain ⟨oq,hoq,hq⟩:=b3i hw
 refine a87 hi (Region.noSelect_spec hs) hQ hoq hq (fun e=>by subst e;rw [Nat.beq_refl] at hqi;cases hqi) fuel li a w (Region.free_spec hi hf) (by simpa using hr) hnq (Or.inl ⟨rfl,fun w hw=>?_⟩) hS (k _ (ha.put d v hd))
 have h:=hl w hw
 unfold Loads at h
 simp only [execOp,ha.ev hx,Instr.loadAt,Instr.sureAddr,Sem.run_bind,Sem.run_pure,Result.andThen_ok,h]
theorem l4 (i:Nat) {v:Value} (hT:TabOk P T) (hi:ops[i]?=some ⟨some d,op,ty,pos,after,none⟩) (hs:Region.noSelect ops=true) (hf:Region.free .any ops li i=true) (hr:(Region.ready .any ops li).contains i=true) (hqi:Nat.beq q i=false)
  (hQ:∀ c (a:Act) w,Q (.panic c) (a.put (some d) v) w→Q (.panic c) a w) (hS:li.getD q false=true∨S w) (hv:a3Q T E op=some v) (hd:Nat.blt d n=true) (k:WT P ops Q S q fuel (li.setIfInBounds i true) n ds ((d,v)::E) w):WT P ops Q S q (fuel + 1) li n ds E w:=fun a ha=>
 a6G hi (Region.noSelect_spec hs) hQ (fun e=>by subst e;rw [Nat.beq_refl] at hqi;cases hqi) fuel li a w (Region.free_spec hi hf) (by simpa using hr) hS (Or.inl ⟨rfl,fun w _=>r8 hT ha hv w⟩) (k _ (ha.put d v hd))
theorem s7 {i:Nat} (hr:Region.ready .any ops li=[i]) (h:WP P ops Q S q fuel li n ds E w i):WT P ops Q S q (fuel + 1) li n ds E w:=fun a ha=>
 ⟨fun h0=>(by rw [hr] at h0;cases h0),fun j hj=>by
  rw [hr] at hj
  have:j=i:=by simpa using hj
  subst this
  exact h a ha⟩
theorem a1a (hr:Region.ready .any ops li=[]) (h:WQ Q .normal n ds E w):WT P ops Q S q fuel li n ds E w:=fun a ha=>by
 cases fuel with
 |zero=>exact ⟨hr,h a ha⟩
 |succ f=>exact ⟨fun _=>h a ha,by rw [hr];simp⟩
theorem t5 {i:Nat} {Φ:Value→World→Prop} (hi:ops[i]?=some ⟨some d,op,ty,pos,after,none⟩) (h:Gets P ⟨some d,op,ty,pos,after,none⟩ n ds E w Φ) (hd:Nat.blt d n=true) (k:∀ v w',Φ v w'→(i=q∨li.getD q false=true∨S w')∧WT P ops Q S q fuel (li.setIfInBounds i true) n ds ((d,v)::E) w'):WP P ops Q S q fuel li n ds E w i:=fun a ha=>by
 unfold wpOp
 simp only [hi]
 rw [if_pos (show Region.wanted _ _=true from rfl)]
 exact Or.inl (h a ha _ _ fun v w' hv=>⟨(k v w' hv).1,(k v w' hv).2 _ (ha.put d v hd)⟩)
theorem a0L {i:Nat} {Φ:Value→World→Prop} (hi:ops[i]?=some ⟨none,op,ty,pos,after,none⟩) (h:Gets P ⟨none,op,ty,pos,after,none⟩ n ds E w Φ) (k:∀ v w',Φ v w'→(i=q∨li.getD q false=true∨S w')∧WT P ops Q S q fuel (li.setIfInBounds i true) n ds E w'):WP P ops Q S q fuel li n ds E w i:=fun a ha=>by
 unfold wpOp
 simp only [hi]
 rw [if_pos (show Region.wanted _ _=true from rfl)]
 exact Or.inl (h a ha _ _ fun v w' hv=>⟨(k v w' hv).1,(k v w' hv).2 _ ha⟩)
end
end Go.Proofs.Ytejnpppejalhfac
/- THE STEP CALCULUS, part 18: interfaces' values; small rules. -/
namespace Go.Proofs.Ytejnpppejalhfac
open Go.RowKit Go.Sort
section
variable {P:Program} {n:Nat} {ds:List Deferred} {E:Fr} {w:World} {Q:Exit→Act→World→Prop} {ops:Array Oper} {rest:List Oper} {d:Nat} {dst:Option Nat} {op:Op} {ty:TypeId} {pos:String} {after:Array Edge} {T:Tab}
end
section
variable {P:Program} {n:Nat} {ds:List Deferred} {E:Fr} {w:World} {Q:Exit→Act→World→Prop} {ops:Array Oper} {S:World→Prop} {q fuel:Nat} {li:Array Bool} {d:Nat} {op:Op} {ty:TypeId} {pos:String} {after:Array Edge} {T:Tab}
theorem b0x {i:Nat} (hT:TabOk P T) {t s:Nat} {fs:List (Nat×Nat×Bool)} {z L:List Value} {parts:Array (Nat×Operand)} {ps:List (Nat×Value)} (hi:ops[i]?=some ⟨some d,.build t parts,ty,pos,after,none⟩) (ht:T.get t=some (.st s fs z)) (hp:evP E parts.toList=some ps) (hL:a2a (fun i=>(fs[i]?).map fun f=>(f.1,f.2.1)) z ps=some L) (hd:Nat.blt d n=true)
  (k:(i=q∨li.getD q false=true∨S w)∧WT P ops Q S q fuel (li.setIfInBounds i true) n ds ((d,.agg L.toArray)::E) w):WP P ops Q S q fuel li n ds E w i :=
 t5 hi (Gets.of_runs (fun _ ha=>a3A hT ht hp hL _ ha)) hd (by rintro _ _ ⟨rfl,rfl⟩;exact k)
theorem Gets.pure {dst:Option Nat} {op:Op} {v:Value} (hT:TabOk P T) (hv:a3Q T E op=some v):Gets P ⟨dst,op,ty,pos,after,none⟩ n ds E w (fun v' w'=>v'=v∧w'=w):=Gets.of_runs fun _ ha=>r8 hT ha hv
theorem Gets.build {dst:Option Nat} (hT:TabOk P T) {t s:Nat} {fs:List (Nat×Nat×Bool)} {z L:List Value} {parts:Array (Nat×Operand)} {ps:List (Nat×Value)} (ht:T.get t=some (.st s fs z)) (hp:evP E parts.toList=some ps) (hL:a2a (fun i=>(fs[i]?).map fun f=>(f.1,f.2.1)) z ps=some L):Gets P ⟨dst,.build t parts,ty,pos,after,none⟩ n ds E w (fun v' w'=>v'=.agg L.toArray∧w'=w):=Gets.of_runs fun _ ha=>a3A hT ht hp hL _ ha
end
theorem Sl.nil0 (w:World) (sz:Nat):Sl nF w sz (.slice none 0 0) []:=Or.inl ⟨_,_,rfl,rfl⟩
theorem a2P {w:World} {g k:Nat} {L:List Value} {v:Value} (h:Asr.holds w (.blk g L)) (hk:L[k]?=some v):w.cell? ⟨g,k,none⟩=some v:=by rw [HoldL.cell h];exact hk
/-! what is one's own, in another order; some of it forgotten -/
section
variable {F:Nat→Prop} {w0 w w':World} {Γ Δ:List Asr}
def a71 {α:Type} (l:List α):List Nat→Option (List α)
 |[]=>some []
 |i::r=>match l[i]?,a71 l r with
  |some x,some xs=>some (x::xs)
  |_,_=>none
theorem a4t {α:Type} {l:List α}:∀ {is:List Nat} {xs:List α},a71 l is=some xs→∀ (k:Nat) (x:α),xs[k]?=some x→∃ i,is[k]?=some i∧l[i]?=some x:=by
 intro is
 induction is with
 |nil=>intro xs h k x hx;cases h;simp at hx
 |cons i r ih=>
  intro xs h k x hx
  unfold a71 at h
  split at h
  ·rename_i y ys h1 h2
   cases h
   cases k with
   |zero=>simp at hx;subst hx;exact ⟨i,rfl,h1⟩
   |succ k=>simpa using ih h2 k x (by simpa using hx)
  ·cases h
theorem St.reorder (is:List Nat) (h:St F w0 w Γ) (hn:is.Nodup) (hp:a71 Γ is=some Δ):St F w0 w Δ:=by
 have hmem:∀ A ∈ Δ,A ∈ Γ:=fun A hA=>by
  obtain ⟨k,hk⟩:=List.mem_iff_getElem?.1 hA
  obtain ⟨i,_,hi⟩:=a4t hp k A hk
  exact List.mem_of_getElem? hi
 refine ⟨h.os,h.tape,h.output,h.size,h.base,fun A hA=>h.holds A (hmem A hA),fun A hA=>h.own A (hmem A hA),?_⟩
 rw [List.pairwise_iff_getElem]
 intro j k hj hk hlt
 obtain ⟨a,ha,ha2⟩:=a4t hp j _ (List.getElem?_eq_getElem hj)
 obtain ⟨b,hb,hb2⟩:=a4t hp k _ (List.getElem?_eq_getElem hk)
 refine a3f h.apart ha2 hb2 (fun e=>?_)
 subst e
 obtain ⟨h1,h2⟩:=List.getElem?_eq_some_iff.1 ha
 obtain ⟨h3,h4⟩:=List.getElem?_eq_some_iff.1 hb
 have:=List.pairwise_iff_getElem.1 hn j k h1 h3 hlt
 exact this (h2.trans h4.symm)
end
end Go.Proofs.Ytejnpppejalhfac
/- THE STEP CALCULUS, part 19: 'and' of numbers. -/
namespace Go.Proofs.Ytejnpppejalhfac
open Go.RowKit Go.Sort
section
variable {P:Program} {n:Nat} {ds:List Deferred} {E:Fr} {w:World} {Q:Exit→Act→World→Prop} {ops:Array Oper} {rest:List Oper} {d:Nat} {ty:TypeId} {pos:String} {after:Array Edge}
theorem a7w {F:Nat→Prop} {w0:World} {Γ:List Asr} {id:Nat} {l:List Oper} (m:Nat) (hl:l.length=m) (hS:St F w0 w Γ) (hm:P.follows .mixedOrders=true) (h:∀ w1,St F w0 w1 Γ→WA P l.toArray Q (fun w'=>St F w0 w' Γ) m (Array.replicate m false) n ds E w1):WC P (.region id l.toArray true) Q n ds E w:=a1F _ m hl hS hm h
theorem a1P (i:Nat) {S:World→Prop} {fuel:Nat} {li:Array Bool} {op:Op} {v:Value} (hi:ops[i]?=some ⟨some d,op,ty,pos,after,none⟩) (hs:Region.noSelect ops=true) (hf:Region.free .any ops li i=true) (hr:(Region.ready .any ops li).contains i=true)
  (hQ:∀ c (a:Act) w,Q (.panic c) (a.put (some d) v) w→Q (.panic c) a w) (hS:S w) (h:∀ a,Has n ds a E→a0I P ⟨some d,op,ty,pos,after,none⟩ a v) (hd:Nat.blt d n=true) (k:WA P ops Q S fuel (li.setIfInBounds i true) n ds ((d,v)::E) w):WA P ops Q S (fuel + 1) li n ds E w:=fun a ha=>
 wpAnyH_take hi hs hf hr hQ (Or.inl ⟨rfl,fun w _=>h a ha w⟩) hS (k _ (ha.put d v hd))
theorem b6f (i:Nat) {T:Tab} {S:World→Prop} {fuel:Nat} {li:Array Bool} (hT:TabOk P T) {t:TypeId} {x y:Operand} {el sz eb b off m c j:Nat} {ag:Bool} {z:List Value} {ii:Int} (hi:ops[i]?=some ⟨some d,.indexAddr t x y,ty,pos,after,none⟩) (hs:Region.noSelect ops=true) (hf:Region.free .any ops li i=true) (hr:(Region.ready .any ops li).contains i=true)
  (hQ:∀ c (a:Act) w v,Q (.panic c) (a.put (some d) v) w→Q (.panic c) a w) (hS:S w) (ht:T.get t=some (.sl el sz eb ag z)) (hx:E.ev x=some (.slice (some ⟨b,off,none⟩) m c)) (hy:E.ev y=some (.int .i64 ii)) (hj:(j:Int)=ii) (hm:j < m) (hd:Nat.blt d n=true) (k:WA P ops Q S fuel (li.setIfInBounds i true) n ds ((d,.pointer (some ⟨b,off + j * sz,none⟩))::E) w):WA P ops Q S (fuel + 1) li n ds E w :=
 a1P i hi hs hf hr (fun c a w h=>hQ c a w _ h) hS (fun a ha=>a7T hT ht hx hy hj hm a ha _) hd k
theorem b5U {t yt:TypeId} {x y:Operand} {m k:Int} (hx:E.ev x=some (.int .i64 m)) (hy:E.ev y=some (.int .i64 k)):∀ a,Has n ds a E→∀ dst,a0I P ⟨dst,.binOp .and t x y yt,ty,pos,after,none⟩ a (.int .i64 (bits .and .i64 m k)):=fun a ha _ w=>by
 simp only [execOp,ha.ev hx,ha.ev hy]
 simp [eqGuard,binOp,go_sem]
theorem a6I {t yt:TypeId} {x y:Operand} {m k r:Int} (hx:E.ev x=some (.int .i64 m)) (hy:E.ev y=some (.int .i64 k)) (hr:bits .and .i64 m k=r) (hd:Nat.blt d n=true) (k':WL P ops Q rest n ds ((d,.int .i64 r)::E) w):WL P ops Q (⟨some d,.binOp .and t x y yt,ty,pos,after,none⟩::rest) n ds E w:=z8 (fun a ha=>hr ▸ b5U hx hy a ha _) hd k'
theorem b6m {t yt:TypeId} {x y:Operand} {m k:Int} (hx:E.ev x=some (.int .i64 m)) (hy:E.ev y=some (.int .i64 k)):∀ a,Has n ds a E→∀ dst,a0I P ⟨dst,.binOp .or t x y yt,ty,pos,after,none⟩ a (.int .i64 (bits .or .i64 m k)):=fun a ha _ w=>by
 simp only [execOp,ha.ev hx,ha.ev hy]
 simp [eqGuard,binOp,go_sem]
theorem b6g {t yt:TypeId} {x y:Operand} {m k r:Int} (hx:E.ev x=some (.int .i64 m)) (hy:E.ev y=some (.int .i64 k)) (hr:bits .or .i64 m k=r) (hd:Nat.blt d n=true) (k':WL P ops Q rest n ds ((d,.int .i64 r)::E) w):WL P ops Q (⟨some d,.binOp .or t x y yt,ty,pos,after,none⟩::rest) n ds E w:=z8 (fun a ha=>hr ▸ b6m hx hy a ha _) hd k'
theorem b4h {m k:Int} (h0:-9223372036854775808≤m) (h1:m≤9223372036854775807) (hk:0 < k):-9223372036854775808≤m.tdiv k∧m.tdiv k≤9223372036854775807:=by
 by_cases h:0≤m
 ·rw [Int.tdiv_eq_ediv_of_nonneg h]
  have a1:=Int.ediv_nonneg h (by omega:0≤k)
  have a2:=Int.ediv_le_self k h
  omega
 ·have e:m.tdiv k=-((-m).tdiv k):=by rw [Int.neg_tdiv,Int.neg_neg]
  rw [e,Int.tdiv_eq_ediv_of_nonneg (by omega)]
  have a1:=Int.ediv_nonneg (show 0≤-m by omega) (by omega:0≤k)
  have a2:=Int.ediv_le_self k (show 0≤-m by omega)
  omega
theorem b5g {t yt:TypeId} {x y:Operand} {m k:Int} (hx:E.ev x=some (.int .i64 m)) (hy:E.ev y=some (.int .i64 k)) (h0:-9223372036854775808≤m) (h1:m≤9223372036854775807) (h3:0 < k):∀ a,Has n ds a E→∀ dst,a0I P ⟨dst,.binOp .quo t x y yt,ty,pos,after,none⟩ a (.int .i64 (m.tdiv k)):=fun a ha _ w=>by
 have hk:¬ k=0:=by omega
 have:=b4h h0 h1 h3
 simp [execOp,ha.ev hx,ha.ev hy,eqGuard,binOp,Op.intDiv,hk,a3v this.1 this.2]
theorem a0s {t yt:TypeId} {x y:Operand} {m k:Int} (hx:E.ev x=some (.int .i64 m)) (hy:E.ev y=some (.int .i64 k)) (h0:-9223372036854775808≤m) (h1:m≤9223372036854775807) (h3:0 < k) (hd:Nat.blt d n=true) (k':WL P ops Q rest n ds ((d,.int .i64 (m.tdiv k))::E) w):WL P ops Q (⟨some d,.binOp .quo t x y yt,ty,pos,after,none⟩::rest) n ds E w:=z8 (fun a ha=>b5g hx hy h0 h1 h3 a ha _) hd k'
theorem b5M {p:Int} (h0:0≤p) (h1:p≤3):bits .and .i64 p 2=if 2≤p then 2 else 0:=by
 have h:p=0∨p=1∨p=2∨p=3:=by omega
 rcases h with rfl|rfl|rfl|rfl <;> decide
theorem b6n {p:Int} (h0:0≤p) (h1:p≤3):bits .and .i64 p 1=if p=1∨p=3 then 1 else 0:=by
 have h:p=0∨p=1∨p=2∨p=3:=by omega
 rcases h with rfl|rfl|rfl|rfl <;> decide
end
end Go.Proofs.Ytejnpppejalhfac
/- Maps that the call itself made: what they hold, as a list of keys and values; over whatever program. -/
namespace Go.Proofs.Ytejnpppejalhfac
open Go.RowKit Go.MapKept
structure MapAt (d:TypeDesc) (w:World) (r:Nat) (L:List (Value×Value)):Prop where
 held:∃ es c,w.heap[r]?=some (.map es c)∧es.toList.map (fun e=>(e.key,e.val))=L
 keys:∀ p ∈ L,IsKey d p.1
 once:(L.map (·.1)).Nodup
section
variable {P:Program} {d:TypeDesc} {w w':World} {r:Nat} {L:List (Value×Value)} {T K E:TypeId} {k v:Value}
theorem MapAt.lt (h:MapAt d w r L):r < w.heap.size:=by
 obtain ⟨es,c,hb,_⟩:=h.held
 exact (Array.getElem?_eq_some_iff.1 hb).1
theorem MapAt.keep (h:MapAt d w r L) (hk:w'.heap[r]?=w.heap[r]?):MapAt d w' r L:=by
 obtain ⟨es,c,hb,hl⟩:=h.held
 exact ⟨⟨es,c,hk.trans hb,hl⟩,h.keys,h.once⟩
theorem MapAt.below {B:Nat} (h:MapAt d w r L) (hb:Below B w w') (hr:r < B):MapAt d w' r L:=h.keep (hb.block r hr)
theorem MapAt.grown (h:MapAt d w r L) (hb:Below w.heap.size w w'):MapAt d w' r L:=h.below hb h.lt
theorem a3k (hk:IsKey d k):∀ (l:List MapEntry) (i:Nat),(∀ e ∈ l,IsKey d e.key)→((l.map (·.key)).Nodup)→(∃ e ∈ l,e.key=k∧e.val=v)→∃ j,j < l.length∧Instr.findNow d k l i=some (some (i + j,v))∧((l[j]?).map (·.key))=some k:=by
 intro l i hl hn ⟨e,he,hek,hev⟩
 rcases findNow_spec hk l i hl with ⟨_,h2⟩|⟨j,e',h1,h2,h3⟩
 ·exact (h2 e he hek).elim
 ·have hj:j < l.length:=(List.getElem?_eq_some_iff.1 h2).1
  have e':e'=e:=by
   obtain ⟨j2,hj2,hje⟩:=List.getElem_of_mem he
   have a1:l[j]=e':=(List.getElem?_eq_some_iff.1 h2).2
   have:j=j2:=by
    have hnd:=List.pairwise_iff_getElem.1 hn
    rcases Nat.lt_trichotomy j j2 with hlt|heq|hgt
    ·exact (hnd j j2 (by simpa using hj) (by simpa using hj2) hlt (by simp [a1,hje,h3,hek])).elim
    ·exact heq
    ·exact (hnd j2 j (by simpa using hj2) (by simpa using hj) hgt (by simp [a1,hje,h3,hek])).elim
   subst this
   rw [← a1,hje]
  subst e'
  exact ⟨j,hj,by rw [h1,hev],by rw [h2];simp [h3]⟩
theorem a2G (hk:IsKey d k) (l:List MapEntry) (i:Nat) (hl:∀ e ∈ l,IsKey d e.key) (hno:∀ e ∈ l,e.key≠k):Instr.findNow d k l i=some none:=by
 rcases findNow_spec hk l i hl with ⟨h1,_⟩|⟨j,e,_,h2,h3⟩
 ·exact h1
 ·exact (hno e (List.mem_of_getElem? h2) h3).elim
theorem a10 (ht:P.underlying T=some (.map K E)) (hd:P.underlying K=some d) (h:MapAt d w r L) (hk:IsKey d k) (hm:(k,v) ∈ L) (ok:Bool) :
  (Instr.lookup T (.map (some r)) k ok).run P w=.ok (if ok then .tuple #[v,.bool true] else v) w:=by
 obtain ⟨es,c,hb,rfl⟩:=h.held
 obtain ⟨e,he,hee⟩:=List.mem_map.1 hm
 simp only [Prod.mk.injEq] at hee
 have hkeys:∀ e ∈ es.toList,IsKey d e.key:=fun e he=>h.keys (e.key,e.val) (List.mem_map.2 ⟨e,he,rfl⟩)
 have hnd:(es.toList.map (·.key)).Nodup:=by have:=h.once;simpa [List.map_map,Function.comp_def] using this
 obtain ⟨j,_,hf,_⟩:=a3k (v:=v) hk es.toList 0 hkeys hnd ⟨e,he,hee.1,hee.2⟩
 have h1:=run_checkKey (P:=P) (w:=w) hd hk es.isEmpty 9999
 have h2:=run_findKey (P:=P) (w:=w) hd hf
 cases ok <;> simp [Instr.lookup,run_underlying ht,Go.MapKept.run_getObj_map hb,h1,h2,Result.andThen]
theorem a1A (ht:P.underlying T=some (.map K E)) (hd:P.underlying K=some d) (h:MapAt d w r L) (hk:IsKey d k) (hm:∀ v,(k,v) ∉ L) {z:Value} (hz:(zeroValue E).run P w=.ok z w) (ok:Bool) :
  (Instr.lookup T (.map (some r)) k ok).run P w=.ok (if ok then .tuple #[z,.bool false] else z) w:=by
 obtain ⟨es,c,hb,rfl⟩:=h.held
 have hkeys:∀ e ∈ es.toList,IsKey d e.key:=fun e he=>h.keys (e.key,e.val) (List.mem_map.2 ⟨e,he,rfl⟩)
 have hf:=a2G hk es.toList 0 hkeys (fun e he hek=>hm e.val (List.mem_map.2 ⟨e,he,by rw [← hek]⟩))
 have h1:=run_checkKey (P:=P) (w:=w) hd hk es.isEmpty 9999
 have h2:=run_findKey (P:=P) (w:=w) hd hf
 cases ok <;> simp [Instr.lookup,run_underlying ht,Go.MapKept.run_getObj_map hb,h1,h2,hz,Result.andThen]
end
end Go.Proofs.Ytejnpppejalhfac
/- THE STEP CALCULUS, part 20: maps of one's own, whatever their keys and values. -/
namespace Go.Proofs.Ytejnpppejalhfac
open Go.RowKit Go.Sort Go.MapKept
structure MapG (D:TypeDesc) (es:Array MapEntry) (L:List (Value×Value)):Prop where
 held:es.toList.map (fun e=>(e.key,e.val))=L
 keys:∀ p ∈ L,IsKey D p.1
 once:(L.map (·.1)).Nodup
theorem MapG.nil (D:TypeDesc):MapG D #[] []:=⟨rfl,by simp,by simp⟩
theorem MapG.at_ {D:TypeDesc} {w:World} {r c:Nat} {es:Array MapEntry} {L:List (Value×Value)} (h:MapG D es L) (hr:w.heap[r]?=some (.map es c)):MapAt D w r L:=⟨⟨es,c,hr,h.held⟩,h.keys,h.once⟩
theorem MapG.size {D:TypeDesc} {es:Array MapEntry} {L:List (Value×Value)} (h:MapG D es L):es.size=L.length:=by
 have:=congrArg List.length h.held
 simpa using this
section
variable {P:Program} {n:Nat} {ds:List Deferred} {E:Fr} {w:World} {Q:Exit→Act→World→Prop} {ops:Array Oper} {rest:List Oper} {d:Nat} {dst:Option Nat} {ty:TypeId} {pos:String} {after:Array Edge} {F:Nat→Prop} {w0:World} {Γ:List Asr} {T:Tab} {D:TypeDesc}
theorem a9U (hS:St F w0 w Γ) {t Kt Et:TypeId} {m x:Operand} {r c i:Nat} {es:Array MapEntry} {L:List (Value×Value)} {k v:Value} (ht:P.underlying t=some (.map Kt Et)) (hK:P.underlying Kt=some D) (hm:E.ev m=some (.map (some r))) (hx:E.ev x=some k) (hi:Γ[i]?=some (.obj r (.map es c))) (hL:MapG D es L) (hk:IsKey D k) (hv:(k,v) ∈ L) (ok:Bool) :
  Gets P ⟨dst,.lookup t m x ok,ty,pos,after,none⟩ n ds E w (fun v' w'=>v'=(if ok then .tuple #[v,.bool true] else v)∧w'=w):=Gets.of_at fun a ha=>by
 have hat:=hL.at_ (hS.at_ hi).1
 have hrun:=a10 ht hK hat hk hv ok
 simp only [execOp,ha.ev hm,ha.ev hx,Sem.run_bind,hrun,Result.andThen_ok,Sem.run_pure]
theorem b36 (hS:St F w0 w Γ) {t Kt Et:TypeId} {m x:Operand} {r c i:Nat} {es:Array MapEntry} {L:List (Value×Value)} {k z:Value} (ht:P.underlying t=some (.map Kt Et)) (hK:P.underlying Kt=some D) (hz:(P.info? Et).bind (·.zero)=some z) (hm:E.ev m=some (.map (some r))) (hx:E.ev x=some k) (hi:Γ[i]?=some (.obj r (.map es c))) (hL:MapG D es L) (hk:IsKey D k) (hv:∀ v,(k,v) ∉ L) (ok:Bool) :
  Gets P ⟨dst,.lookup t m x ok,ty,pos,after,none⟩ n ds E w (fun v' w'=>v'=(if ok then .tuple #[z,.bool false] else z)∧w'=w):=Gets.of_at fun a ha=>by
 have hat:=hL.at_ (hS.at_ hi).1
 obtain ⟨zi,hzi,hz2⟩:=Option.bind_eq_some_iff.1 hz
 have hz':(zeroValue Et).run P w=.ok z w:=by simp [zeroValue,typeInfo,hzi,hz2]
 have hrun:=a1A ht hK hat hk hv hz' ok
 simp only [execOp,ha.ev hm,ha.ev hx,Sem.run_bind,hrun,Result.andThen_ok,Sem.run_pure]
theorem b2s {t Kt Et:TypeId} {r c:Nat} {es:Array MapEntry} {L:List (Value×Value)} {k u v:Value} (ht:P.underlying t=some (.map Kt Et)) (hK:P.underlying Kt=some D) (hr:w.heap[r]?=some (.map es c)) (hL:MapG D es L) (hk:IsKey D k) (hm:(k,u) ∈ L) :
  ∃ es' j,(Instr.mapUpdate t (.map (some r)) k v).run P w=.ok () { w with heap:=w.heap.setIfInBounds r (.map es' c) }∧(∃ u',L[j]?=some (k,u'))∧MapG D es' (L.set j (k,v)):=by
 have hat:=hL.at_ hr
 have hkeys:∀ e ∈ es.toList,IsKey D e.key:=fun e he=>hat.keys (e.key,e.val) (by rw [← hL.held];exact List.mem_map.2 ⟨e,he,rfl⟩)
 have hnd:(es.toList.map (·.key)).Nodup:=by
  have:=hat.once
  rw [← hL.held,List.map_map] at this
  exact this
 have hmem:∃ e ∈ es.toList,e.key=k∧e.val=u:=by
  have:((k,u):Value×Value) ∈ es.toList.map (fun e=>(e.key,e.val)):=by rw [hL.held];exact hm
  obtain ⟨e,he,h2⟩:=List.mem_map.1 this
  simp only [Prod.mk.injEq] at h2
  exact ⟨e,he,h2⟩
 obtain ⟨j,hj,hf,hkj⟩:=a3k (v:=u) hk es.toList 0 hkeys hnd hmem
 rw [Nat.zero_add] at hf
 have h1:=run_checkKey (P:=P) (w:=w) hK hk false 9999
 have h2:=run_findKey (P:=P) (w:=w) hK hf
 have hjs:j < es.size:=by simpa using hj
 have hkj':(es[j]?.map (·.key)).getD k=k:=by
  rw [show es[j]?=es.toList[j]? by simp,hkj];rfl
 have h3:=run_keyThatStays (P:=P) (w:=w) hk
 have hLj:∃ u',L[j]?=some (k,u'):=by
  have h4:=congrArg (fun l=>l[j]?) hL.held
  simp only [List.getElem?_map] at h4
  have h5:es.toList[j]?=some es[j]:=by simp [hjs]
  rw [h5] at h4 hkj
  simp only [Option.map_some,Option.some.injEq] at h4 hkj
  exact ⟨es[j].val,by rw [← h4,hkj]⟩
 refine ⟨es.modify j fun e=>{ e with key:=k,val:=v },j,?_,hLj,⟨?_,?_,?_⟩⟩
 ·simp only [Instr.mapUpdate,run_underlying ht,Go.MapKept.run_getObj_map hr,h1,h2,Result.andThen_ok,Sem.run_bind,hkj',h3,run_setObj_map _ hr]
 ·refine List.ext_getElem? fun m=>?_
  rw [← hL.held,Array.toList_modify,List.getElem?_map,List.getElem?_modify,List.getElem?_set,List.getElem?_map,List.length_map]
  by_cases e:j=m
  ·subst e
   have:es.toList[j]?=some es[j]:=by simp [hjs]
   rw [this,if_pos rfl,if_pos hj]
   simp
  ·simp [e]
 ·intro p hp
  rcases List.mem_or_eq_of_mem_set hp with h|h
  ·exact hL.keys p h
  ·rw [h];exact hk
 ·obtain ⟨u',hq⟩:=hLj
  rw [List.map_set]
  have:(L.map (·.1)).set j k=L.map (·.1):=by
   refine List.ext_getElem? fun m=>?_
   rw [List.getElem?_set]
   split
   ·rename_i e
    subst e
    simp only [List.length_map,List.getElem?_map,hq,Option.map_some]
    rw [if_pos (j3 hq)]
   ·rfl
  rw [show (k,v).1=k from rfl,this]
  exact hL.once
theorem b2B {t Kt Et:TypeId} {r c:Nat} {es:Array MapEntry} {L:List (Value×Value)} {k v:Value} (ht:P.underlying t=some (.map Kt Et)) (hK:P.underlying Kt=some D) (hr:w.heap[r]?=some (.map es c)) (hL:MapG D es L) (hk:IsKey D k) (hm:∀ v,(k,v) ∉ L) :
  ∃ es' c',(Instr.mapUpdate t (.map (some r)) k v).run P w=.ok () { w with heap:=w.heap.setIfInBounds r (.map es' c') }∧MapG D es' (L++[(k,v)]):=by
 have hat:=hL.at_ hr
 have hkeys:∀ e ∈ es.toList,IsKey D e.key:=fun e he=>hat.keys (e.key,e.val) (by rw [← hL.held];exact List.mem_map.2 ⟨e,he,rfl⟩)
 have hno:∀ e ∈ es.toList,e.key≠k:=fun e he hek=>by
  have:(e.key,e.val) ∈ L:=by rw [← hL.held];exact List.mem_map.2 ⟨e,he,rfl⟩
  exact hm e.val (by rw [← hek];exact this)
 have hf:=a2G hk es.toList 0 hkeys hno
 have h1:=run_checkKey (P:=P) (w:=w) hK hk false 9999
 have h2:=run_findKey (P:=P) (w:=w) hK hf
 refine ⟨es.push { key:=k,val:=v,born:=c },c + 1,?_,⟨by simp [hL.held],fun p hp=>?_,?_⟩⟩
 ·simp only [Instr.mapUpdate,run_underlying ht,Go.MapKept.run_getObj_map hr,h1,h2,Result.andThen_ok,Sem.run_bind,run_setObj_map _ hr]
 ·rcases List.mem_append.1 hp with h|h
  ·exact hL.keys p h
  ·have:p=(k,v):=by simpa using h
   rw [this];exact hk
 ·rw [List.map_append,List.nodup_append]
  refine ⟨hL.once,by simp,fun a ha b hb'=>?_⟩
  have:b=k:=by simpa using hb'
  subst this
  rintro rfl
  obtain ⟨p,hp,hpk⟩:=List.mem_map.1 ha
  exact hm p.2 (by rw [← hpk];exact hp)
theorem St.updMap (hS:St F w0 w Γ) {r c i:Nat} {es:Array MapEntry} (hi:Γ[i]?=some (.obj r (.map es c))) (es':Array MapEntry) (c':Nat):St F w0 { w with heap:=w.heap.setIfInBounds r (.map es' c') } (Γ.set i (.obj r (.map es' c'))):=by
 have hr:=(hS.at_ hi).1
 have hset:=heap_set (o':=Obj.map es' c') hr
 exact hS.upd hi ⟨rfl,rfl,rfl,by simp,fun g _ hg=>hset.2 g (fun e=>hg (by simp [Asr.fp,e]))⟩ ⟨hset.1,rfl⟩ (fun q hq=>Or.inl hq)
theorem a7E (hS:St F w0 w Γ) {t Kt Et:TypeId} {m x y:Operand} {r c i:Nat} {es:Array MapEntry} {L:List (Value×Value)} {k v:Value} (ht:P.underlying t=some (.map Kt Et)) (hK:P.underlying Kt=some D) (hm:E.ev m=some (.map (some r))) (hx:E.ev x=some k) (hy:E.ev y=some v) (hi:Γ[i]?=some (.obj r (.map es c))) (hL:MapG D es L) (hk:IsKey D k) (hn:∀ v,(k,v) ∉ L) :
  Gets P ⟨dst,.mapUpdate t m x y,ty,pos,after,none⟩ n ds E w (fun _ w'=>∃ es' c',MapG D es' (L++[(k,v)])∧St F w0 w' (Γ.set i (.obj r (.map es' c')))):=fun a ha K Q kk=>by
 obtain ⟨es',c',hrun,h1⟩:=b2B (v:=v) ht hK (hS.at_ hi).1 hL hk hn
 have hex:(execOp a.eval ⟨dst,.mapUpdate t m x y,ty,pos,after,none⟩).run P w=.ok .skip { w with heap:=w.heap.setIfInBounds r (.map es' c') }:=by
  simp only [execOp,ha.ev hm,ha.ev hx,ha.ev hy,Sem.run_bind,hrun,Result.andThen_ok,Sem.run_pure]
 unfold Oper.wp
 rw [hex]
 exact kk undef _ ⟨es',c',h1,hS.updMap hi es' c'⟩
theorem b48 (hS:St F w0 w Γ) {t Kt Et:TypeId} {m x y:Operand} {r c i:Nat} {es:Array MapEntry} {L:List (Value×Value)} {k u v:Value} (ht:P.underlying t=some (.map Kt Et)) (hK:P.underlying Kt=some D) (hm:E.ev m=some (.map (some r))) (hx:E.ev x=some k) (hy:E.ev y=some v) (hi:Γ[i]?=some (.obj r (.map es c))) (hL:MapG D es L) (hk:IsKey D k) (hu:(k,u) ∈ L) :
  Gets P ⟨dst,.mapUpdate t m x y,ty,pos,after,none⟩ n ds E w (fun _ w'=>∃ es' c' j u',L[j]?=some (k,u')∧MapG D es' (L.set j (k,v))∧St F w0 w' (Γ.set i (.obj r (.map es' c')))):=fun a ha K Q kk=>by
 obtain ⟨es',j,hrun,⟨u',h1⟩,h2⟩:=b2s (v:=v) ht hK (hS.at_ hi).1 hL hk hu
 have hex:(execOp a.eval ⟨dst,.mapUpdate t m x y,ty,pos,after,none⟩).run P w=.ok .skip { w with heap:=w.heap.setIfInBounds r (.map es' c) }:=by
  simp only [execOp,ha.ev hm,ha.ev hx,ha.ev hy,Sem.run_bind,hrun,Result.andThen_ok,Sem.run_pure]
 unfold Oper.wp
 rw [hex]
 exact kk undef _ ⟨es',c,j,u',h1,h2,hS.updMap hi es' c⟩
theorem b25 {K:Act→Prop} {t:TypeId} {m x:Operand} {r:Nat} {k v:Value} {ok:Bool} (hm:E.ev m=some (.map (some r))) (hx:E.ev x=some k) (h:∀ w,St F w0 w Γ→(Instr.lookup t (.map (some r)) k ok).run P w=.ok v w) (hd:Nat.blt d n=true) (kk:WD P ops (fun w'=>St F w0 w' Γ) K rest n ds ((d,v)::E)):WD P ops (fun w'=>St F w0 w' Γ) K (⟨some d,.lookup t m x ok,ty,pos,after,none⟩::rest) n ds E:=fun a ha=>
 a38 (v:=v) rfl (fun w hw=>by
  unfold Oper.quietAt
  simp only [execOp,ha.ev hm,ha.ev hx,Sem.run_bind,h w hw,Result.andThen_ok,Sem.run_pure]
  exact ⟨rfl,rfl⟩) (kk _ (ha.put d v hd))
theorem b2F {t Kt Et:TypeId} {r c:Nat} (i:Nat) {es:Array MapEntry} {L:List (Value×Value)} {k v:Value} (ht:P.underlying t=some (.map Kt Et)) (hK:P.underlying Kt=some D) (hi:Γ[i]?=some (.obj r (.map es c))) (hL:MapG D es L) (hk:IsKey D k) (hv:(k,v) ∈ L) (ok:Bool):∀ w,St F w0 w Γ→(Instr.lookup t (.map (some r)) k ok).run P w=.ok (if ok then .tuple #[v,.bool true] else v) w:=fun w hS=>
 a10 ht hK (hL.at_ (hS.at_ hi).1) hk hv ok
theorem b0Z {t Kt Et:TypeId} {r c:Nat} (i:Nat) {es:Array MapEntry} {L:List (Value×Value)} {k z:Value} (ht:P.underlying t=some (.map Kt Et)) (hK:P.underlying Kt=some D) (hz:(P.info? Et).bind (·.zero)=some z) (hi:Γ[i]?=some (.obj r (.map es c))) (hL:MapG D es L) (hk:IsKey D k) (hv:∀ v,(k,v) ∉ L) (ok:Bool):∀ w,St F w0 w Γ→(Instr.lookup t (.map (some r)) k ok).run P w=.ok (if ok then .tuple #[z,.bool false] else z) w:=fun w hS=>by
 obtain ⟨zi,hzi,hz2⟩:=Option.bind_eq_some_iff.1 hz
 have hz':(zeroValue Et).run P w=.ok z w:=by simp [zeroValue,typeInfo,hzi,hz2]
 exact a1A ht hK (hL.at_ (hS.at_ hi).1) hk hv hz' ok
theorem a6D (hS:St F w0 w Γ) {t:TypeId}:Gets P ⟨dst,.makeMap t none,ty,pos,after,none⟩ n ds E w (fun v w'=>∃ r,v=.map (some r)∧St F w0 w' (.obj r (.map #[] 0)::Γ)):=fun a ha K Q k=>by
 have hex:(execOp a.eval ⟨dst,.makeMap t none,ty,pos,after,none⟩).run P w=.ok (.value (.map (some w.heap.size))) (w.alloc (.map #[] 0)):=by
  simp only [execOp]
  rfl
 unfold Oper.wp
 rw [hex]
 exact k _ _ ⟨_,rfl,hS.new (World.grownBy_alloc w _ none) ⟨(heap_alloc w _).1,rfl⟩ (by simp [Asr.fp])⟩
end
end Go.Proofs.Ytejnpppejalhfac
/- THE STEP CALCULUS, part 21: min and max; copy of a string into a row of bytes of one's own; things in a list of whatever length. -/
namespace Go.Proofs.Ytejnpppejalhfac
open Go.RowKit Go.Sort
section
variable {P:Program} {n:Nat} {ds:List Deferred} {E:Fr} {w:World} {Q:Exit→Act→World→Prop} {ops:Array Oper} {rest:List Oper} {d:Nat} {dst:Option Nat} {ty:TypeId} {pos:String} {after:Array Edge} {F:Nat→Prop} {w0:World} {Γ:List Asr} {T:Tab}
theorem b6c {x y:Operand} {ats:Array TypeId} {m k:Int} (hx:E.ev x=some (.int .i64 m)) (hy:E.ev y=some (.int .i64 k)):∀ a,Has n ds a E→∀ dst,a0I P ⟨dst,.call { callee:=.builtin .min,args:=#[x,y],argTypes:=ats },ty,pos,after,none⟩ a (.int .i64 (min m k)):=fun a ha dst w=>by
 have e:(if k < m then k else m)=min m k:=by omega
 simp [execOp,resolve,invoke,builtin,ha.ev hx,ha.ev hy,Builtin.min_,Builtin.min2,Result.andThen,e]
theorem b56 {x y:Operand} {ats:Array TypeId} {m k:Int} (hx:E.ev x=some (.int .i64 m)) (hy:E.ev y=some (.int .i64 k)) (hd:Nat.blt d n=true) (k':WL P ops Q rest n ds ((d,.int .i64 (min m k))::E) w):WL P ops Q (⟨some d,.call { callee:=.builtin .min,args:=#[x,y],argTypes:=ats },ty,pos,after,none⟩::rest) n ds E w:=z8 (fun a ha=>b6c hx hy a ha _) hd k'
theorem b0K {C:World→Prop} {K:Act→Prop} (hT:TabOk P T) {t sz:Nat} {z:Value} {x lo:Operand} {kk:IntKind} {l:List UInt8} {i:Int} (ht:T.get t=some (.sc .string sz z)) (hx:E.ev x=some (.string ⟨l.toArray⟩)) (hlo:E.ev lo=some (.int kk i)) (h0:0≤i) (h1:i≤l.length) (hd:Nat.blt d n=true) (k:WD P ops C K rest n ds ((d,.string ⟨(l.drop i.toNat).toArray⟩)::E)):WD P ops C K (⟨some d,.slice t x (some lo) none none,ty,pos,after,none⟩::rest) n ds E:=a1k (fun a ha=>a6V hT ht hx hlo h0 h1 a ha _) hd k
theorem b2h (old c:List Value) (h:c.length≤old.length):t8 old 0 c=c++old.drop c.length:=by
 conv=>lhs;rw [← List.take_append_drop c.length old]
 rw [a3R _ _ _ _ (by simp;omega),a3h _ _ (by simp;omega)]
theorem b4y (hS:St F w0 w Γ) (hT:TabOk P T) {t u e m cap g i:Nat} {ty2:TypeId} {x y:Operand} {old l:List UInt8} (ht:T.get t=some (.sl e 1 1 false [.int .u8 0])) (hx:E.ev x=some (.slice (some ⟨g,0,none⟩) m cap)) (hi:Γ[i]?=some (.row e 1 (.slice (some ⟨g,0,none⟩) m cap) (bR old))) (hy:E.ev y=some (.string ⟨l.toArray⟩)) :
  Gets P ⟨dst,.call { callee:=.builtin .copy,args:=#[x,y],argTypes:=#[t,u] },ty2,pos,after,none⟩ n ds E w (fun v' w'=>v'=.int .i64 ((l.take m).length:Nat)∧St F w0 w' (Γ.set i (.row e 1 (.slice (some ⟨g,0,none⟩) m cap) (bR (l.take m++old.drop (l.take m).length))))):=by
 intro a ha K Q k
 obtain ⟨hown,hlen,hone⟩:=hS.at_ hi
 rcases hown.2 with ⟨hv,_⟩|⟨g',cap',cur,hv,_,hg,hmc,hcm,hcs,htake⟩
 ·cases hv
 have hol:(bR old).length=old.length:=a30 old
 cases hv
 rw [hol] at hmc htake hx hi
 simp only [hol] at k
 obtain ⟨c,hc⟩:∃ c,c=l.take old.length:=⟨_,rfl⟩
 have hcl:c.length=min l.length old.length:=by rw [hc,List.length_take];omega
 have hHL:HoldL w g cur.toList:=⟨e,hg⟩
 have hcu:old.length≤cur.size:=by rw [hcs];omega
 obtain ⟨ji,zv,hu,hinfo,_,hs,hby,hz,hzl,_,hsz,hs0⟩:=hT.sl ht
 have hst:=run_storeCells_cells (P:=P) g 0 (c.map fun b=>Value.int .u8 (b.toNat:Int)) 0 w (fun j hj=>by
  rw [List.length_map] at hj
  rw [hHL.cell]
  simp only [Option.isSome_iff_exists]
  exact ⟨_,List.getElem?_eq_getElem (by simp;omega)⟩) (fun j _=>hHL.frozen _) (by simp [Value.oneCell'])
 have hcs2:((ByteArray.extract ⟨l.toArray⟩ 0 (Nat.min l.length old.length)).data.map fun b=>Value.int .u8 (b.toNat:Int)).toList=c.map fun b=>Value.int .u8 (b.toNat:Int):=by
  rw [a3U,hc,show l.take old.length=l.take (Nat.min l.length old.length) by rw [List.take_eq_take_iff];show min old.length l.length=min (min l.length old.length) l.length;omega]
  simp
 have hrun:(Builtin.copy_ #[t,u] ty2 #[.slice (some ⟨g,0,none⟩) old.length cap,.string ⟨l.toArray⟩]).run P w=.ok (goInt c.length) (w.setCells g 0 (c.map fun b=>Value.int .u8 (b.toNat:Int))):=by
  simp [Builtin.copy_,run_underlying hu,Builtin.lenOf,Builtin.firstCells,sizeOf,typeInfo,hinfo,hs,ByteArray.size]
  have e:List.take (Nat.min l.length old.length) (l.map fun b=>Value.int .u8 (b.toNat:Int))=c.map fun b=>Value.int .u8 (b.toNat:Int):=by rw [← List.map_take,hc,show l.take old.length=l.take (Nat.min l.length old.length) by rw [List.take_eq_take_iff];show min old.length l.length=min (min l.length old.length) l.length;omega]
  rw [e,hst,hcl]
  rfl
 have hex:(execOp a.eval ⟨dst,.call { callee:=.builtin .copy,args:=#[x,y],argTypes:=#[t,u] },ty2,pos,after,none⟩).run P w=.ok (.value (.int .i64 (c.length:Nat))) (w.setCells g 0 (c.map fun b=>Value.int .u8 (b.toNat:Int))):=by
  simp [execOp,resolve,invoke,builtin,ha.ev hx,ha.ev hy,hrun,Result.andThen,goInt]
 unfold Oper.wp
 rw [hex]
 simp only [← hc] at k
 have hcel:(bR (c++old.drop c.length)).length=old.length:=by rw [a30,List.length_append,List.length_drop];omega
 refine k _ _ ⟨rfl,hS.upd hi (a1o w g 0 _) ⟨⟨?_,.inr ⟨g,cap,_,by rw [hcel],Nat.zero_le _,a3I hg 0 _,by rw [hcel];exact hmc,hcm,by simp [a5E,hcs],?_⟩⟩,?_,?_⟩ (fun q hq=>Or.inl hq)⟩
 ·rw [a7C,List.length_map,hcel,List.length_append,List.length_drop];omega
 ·rw [hcel,Nat.mul_one,List.toList_toArray,b2h _ _ (by simp;omega),a7C,List.map_append,List.length_map,List.take_append]
  rw [Nat.mul_one,a7C] at htake
  have h1:(c.map fun b=>Value.int .u8 (b.toNat:Int)).take old.length=c.map fun b=>Value.int .u8 (b.toNat:Int):=List.take_of_length_le (by rw [List.length_map];omega)
  rw [h1,List.length_map,List.map_drop,← htake,List.drop_take]
 ·intro r hr
  unfold bR at hr
  obtain ⟨b,_,rfl⟩:=List.mem_map.1 hr
  rfl
 ·intro r hr
  unfold bR at hr
  obtain ⟨b,_,rfl⟩:=List.mem_map.1 hr
  rfl
end
end Go.Proofs.Ytejnpppejalhfac
/- THE STEP CALCULUS, part 22: the length of a map of one's own; what is one's own, for a callee that only reads it. -/
namespace Go.Proofs.Ytejnpppejalhfac
open Go.RowKit Go.Sort Go.MapKept
section
variable {P:Program} {n:Nat} {ds:List Deferred} {E:Fr} {w:World} {Q:Exit→Act→World→Prop} {ops:Array Oper} {rest:List Oper} {d:Nat} {dst:Option Nat} {ty:TypeId} {pos:String} {after:Array Edge} {F:Nat→Prop} {w0:World} {Γ:List Asr} {T:Tab}
theorem a75 (hS:St F w0 w Γ) {t Kt Et:TypeId} {x:Operand} {r c i:Nat} {es:Array MapEntry} (ht:P.underlying t=some (.map Kt Et)) (hx:E.ev x=some (.map (some r))) (hi:Γ[i]?=some (.obj r (.map es c))) :
  Gets P ⟨dst,.call { callee:=.builtin .len,args:=#[x],argTypes:=#[t] },ty,pos,after,none⟩ n ds E w (fun v' w'=>v'=.int .i64 (es.size:Nat)∧w'=w):=Gets.of_at fun a ha=>by
 have hr:(Builtin.len_ #[t] ty #[.map (some r)]).run P w=.ok (.int .i64 es.size) w:=by
  simp [Builtin.len_,run_underlying ht,Go.MapKept.run_getObj_map (hS.at_ hi).1,goInt]
 simp [execOp,resolve,invoke,builtin,ha.ev hx,hr,Result.andThen]
theorem St.ownBs {Θ:List Asr} (hS:St F w0 w (Θ++Γ)) (i:Nat) {g k:Nat} {L:List Value} {v:Value} (hi:Γ[i]?=some (.blk g L)) (hk:L[k]?=some v):Bs (fps Θ) w ⟨g,k,none⟩ v:=by
 have hS2:=hS.sub (List.sublist_append_right Θ Γ)
 refine ⟨hS2.blkC i hi hk,fun ⟨A,hA,e⟩=>?_⟩
 rcases (List.pairwise_append.1 hS.apart).2.2 A hA _ (List.mem_of_getElem? hi) with h1|h1
 ·rw [h1] at e;cases e
 ·exact h1 e
theorem St.ownSl {Θ:List Asr} (hS:St F w0 w (Θ++Γ)) (i:Nat) {e sz:Nat} {v:Value} {rows:List (List Value)} (hi:Γ[i]?=some (.row e sz v rows)):Sl (fps Θ) w sz v rows:=by
 have hS2:=hS.sub (List.sublist_append_right Θ Γ)
 rcases hS2.rowForm i hi with ⟨rfl,rfl⟩|⟨g,cap,rfl,h1,h2⟩
 ·exact Or.inl ⟨_,_,rfl,rfl⟩
 ·have hr:=hS2.rowRo i hi
  refine Or.inr ⟨g,0,cap,rfl,h1,h2,⟨hr.lt,fun ⟨A,hA,e⟩=>?_,hr.len,hr.one,hr.cells⟩⟩
  rcases (List.pairwise_append.1 hS.apart).2.2 A hA _ (List.mem_of_getElem? hi) with h1|h1
  ·rw [h1] at e;cases e
  ·exact h1 e
end
end Go.Proofs.Ytejnpppejalhfac
/- THE STEP CALCULUS, part 23: a shift by one; slices held against nil. -/
namespace Go.Proofs.Ytejnpppejalhfac
open Go.RowKit Go.Sort
section
variable {P:Program} {n:Nat} {ds:List Deferred} {E:Fr} {w:World} {Q:Exit→Act→World→Prop} {ops:Array Oper} {rest:List Oper} {d:Nat} {dst:Option Nat} {ty:TypeId} {pos:String} {after:Array Edge} {F:Nat→Prop} {w0:World} {Γ:List Asr} {T:Tab}
theorem b5z {t yt:TypeId} {x y:Operand} {m:Int} (hx:E.ev x=some (.int .u64 m)) (hy:E.ev y=some (.int .u64 1)) (h0:0≤m) (h1:m≤18446744073709551615):∀ a,Has n ds a E→∀ dst,a0I P ⟨dst,.binOp .shr t x y yt,ty,pos,after,none⟩ a (.int .u64 (m / 2)):=fun a ha _ w=>by
 simp only [execOp,ha.ev hx,ha.ev hy]
 simp [eqGuard,binOp,go_sem]
theorem b5m {t yt:TypeId} {x y:Operand} {m:Int} (hx:E.ev x=some (.int .u64 m)) (hy:E.ev y=some (.int .u64 1)) (h0:0≤m) (h1:m≤18446744073709551615) (hd:Nat.blt d n=true) (k':WL P ops Q rest n ds ((d,.int .u64 (m / 2))::E) w):WL P ops Q (⟨some d,.binOp .shr t x y yt,ty,pos,after,none⟩::rest) n ds E w:=z8 (fun a ha=>b5z hx hy h0 h1 a ha _) hd k'
theorem b1W {m:Int} (h0:0≤m) (h1:m≤18446744073709551615):IntKind.u64.wrap (IntKind.i64.wrap m)=m:=by
 rw [IntKind.wrap_u64,IntKind.wrap_i64]
 omega
theorem b2M {t yt:TypeId} {x y:Operand} {m:Int} (hx:E.ev x=some (.int .u64 (IntKind.u64.wrap m))) (hy:E.ev y=some (.int .u64 1)) (hd:Nat.blt d n=true) (k':WL P ops Q rest n ds ((d,.int .u64 (IntKind.u64.wrap m / 2))::E) w):WL P ops Q (⟨some d,.binOp .shr t x y yt,ty,pos,after,none⟩::rest) n ds E w :=
 b5m hx hy (by rw [IntKind.wrap_u64];omega) (by rw [IntKind.wrap_u64];omega) hd k'
theorem a6B {m:Int} {h:Nat} (h0:0≤m) (h1:m≤18446744073709551615) (h2:m / 2=(h:Nat)) (h3:h≤9223372036854775807):IntKind.i64.wrap (IntKind.u64.wrap (IntKind.i64.wrap m) / 2)=(h:Nat):=by
 rw [b1W h0 h1,h2,a3v (by omega) (by omega)]
theorem b4x (hT:TabOk P T) {t e sz eb:Nat} {ag:Bool} {ez:List Value} {yt:TypeId} {x y:Operand} {p:Option Addr} {m c:Nat} (ht:T.get t=some (.sl e sz eb ag ez)) (hx:E.ev x=some (.slice p m c)) (hy:E.ev y=some (.slice none 0 0)):∀ a,Has n ds a E→∀ dst,a0I P ⟨dst,.binOp .eql t x y yt,ty,pos,after,none⟩ a (.bool p.isNone):=fun a ha _ w=>by
 obtain ⟨ji,zv,hu,_⟩:=hT.sl ht
 have e:=Go.Lib.run_eql_slice_nil (P:=P) w t _ p m c 0 0 hu
 simp only [execOp,ha.ev hx,ha.ev hy,eqGuard]
 simp [e,Result.andThen]
theorem a1r (hT:TabOk P T) {t e sz eb:Nat} {ag:Bool} {ez:List Value} {yt:TypeId} {x y:Operand} {p:Option Addr} {m c:Nat} (ht:T.get t=some (.sl e sz eb ag ez)) (hx:E.ev x=some (.slice p m c)) (hy:E.ev y=some (.slice none 0 0)) (hd:Nat.blt d n=true) (k':WL P ops Q rest n ds ((d,.bool p.isNone)::E) w):WL P ops Q (⟨some d,.binOp .eql t x y yt,ty,pos,after,none⟩::rest) n ds E w:=z8 (fun a ha=>b4x hT ht hx hy a ha _) hd k'
theorem St.roC2 {b off sz:Nat} {rows:List (List Value)} (h:St F w0 w Γ) (hr:RoAt F w0 b off sz rows) {k j1 j2:Nat} {r:List Value} {u:Value} (hk:rows[k]?=some r) (hj:r[j1 + j2]?=some u):w.cell? ⟨b,off + k * sz + j1 + j2,none⟩=some u:=by
 rw [Nat.add_assoc (off + k * sz)]
 exact h.roC hr hk hj
theorem St.roRs {b off sz:Nat} {rows:List (List Value)} (h:St F w0 w Γ) (hr:RoAt F w0 b off sz rows) {k:Nat} (j m:Nat) {r:List Value} (hk:rows[k]?=some r):w.rangeAt b (off + k * sz + j) ((r.drop j).take m):=fun i v hi=>by
 rw [List.getElem?_take] at hi
 split at hi
 ·rw [List.getElem?_drop] at hi
  have:=h.roC hr hk hi
  rwa [← Nat.add_assoc] at this
 ·cases hi
end
end Go.Proofs.Ytejnpppejalhfac
/- The contracts of package bits and of the reference's bytes. -/
namespace Go.Proofs.Ytejnpppejalhfac
open Go.RowKit
set_option maxRecDepth 100000 in
set_option maxHeartbeats 400000 in
theorem b03 (n:Int) (k:Nat) (w:World) (hk:k≤8) :
  Calls Try.prog 64 #[.int .i64 n,.int .i64 k] w fun e w'=>e=.returned (.string ⟨(leB n k).toArray⟩)∧Below w.heap.size w w':=by
 have hcv:=a5q (P:=Try.prog) 123 5 9 Try.underlying123 Try.underlying5 Try.underlying9
 go_enter Try.func64,Try.ntmps64
 go_wp2
 go_loopw [0,5,6] (fun vn vs vi wr=>∃ j:Nat,j≤k∧vi=.int .i64 j∧vn=.int .i64 (n / 2 ^ (8 * j))∧vs=.string ⟨(leB n j).toArray⟩∧Below w.heap.size w wr) (fun _ _ i _=>k - (intOf i).toNat)
 case atStart=>exact ⟨0,by omega,rfl,by simp,rfl,Below.refl _ _⟩
 case round=>
  obtain ⟨j,hj,rfl,rfl,rfl,hb⟩:=hrel
  have hlen:(leB n j).length≤8:=by rw [leB_length];omega
  by_cases hlt:j < k
  ·go_wp2
   go_roundw
   case rel=>exact ⟨j + 1,by omega,by go_num,by rw [b16],rfl,hb.alloc hb.size _⟩
   case measure=>simp [intOf];omega
  ·go_wp2
   obtain rfl:j=k:=by omega
   go_ret
   exact ⟨rfl,hb⟩
theorem b1T (off n all:Int):inB off n all=(decide (0≤off) && (decide (0≤n) && (decide (off≤all) && decide (n≤all - off)))):=by
 unfold inB;simp
set_option maxRecDepth 100000 in
set_option maxHeartbeats 400000 in
theorem b2A (off n all:Int) (w:World) (h:0≤all) (h2:all≤9223372036854775807) :
  Calls Try.prog 67 #[.int .i64 off,.int .i64 n,.int .i64 all] w fun e w'=>e=.returned (.bool (inB off n all))∧w=w':=by
 have hs:=hid (b1T off n all)
 go_enter Try.func67,Try.ntmps67
 go_wp2
 all_goals
  go_ret
  refine ⟨a5I ?_,rfl⟩
  rw [hs.out]
  first
   |(rw [IntWalk.wrap64_in (all - off) ⟨by omega,by omega⟩];simp [*];done)
   |(rw [Bool.eq_iff_iff];simp;omega)
theorem b4n (off n all:Nat) (h:off + n≤all):inB off n all=true:=by
 unfold inB;simp;omega
set_option maxRecDepth 100000 in
set_option maxHeartbeats 400000 in
theorem b3I (s t:List UInt8) (off:Nat) (w:World) (hs:s.length≤maxLen) (h:off + t.length≤s.length) :
  Calls Try.prog 42 #[.string ⟨s.toArray⟩,.int .i64 off,.string ⟨t.toArray⟩] w fun e w'=>e=.returned (.tuple #[.string ⟨(splice s off t).toArray⟩,.int .i64 0])∧Below w.heap.size w w':=by
 unfold maxLen at hs
 have hin:=b4n off t.length s.length h
 have hin2:=hid hin;clear hin
 go_enter Try.func42,Try.ntmps42
 have hsz5:(Try.prog.info? 5).map (·.size)=some 1:=by kernel_rfl
 have Hsz5:=hid hsz5;clear hsz5
 go_wp2_with (first|(go_at_call 67;(with_reducible refine (b2A _ _ _ _ (by omega) (by omega)).mono ?_);rintro e w' ⟨rfl,rfl⟩;rw [hin2.out])|((with_reducible refine a6Z 17 ?_);refine a4g rfl (.tmp 16) 9 123 5 rfl Try.underlying9 Try.underlying123 Try.underlying5 s rfl w.heap.size w (Below.refl _ _) (Nat.le_refl _) ?_;intro cap w1 hcap hb1 hby1 hsz1;have HB:=hid hby1;clear hby1)|((with_reducible refine a6Z 22 ?_);refine a45 rfl (.tmp 20) (.tmp 21) 123 9 rfl 5 Try.underlying123 Hsz5.out _ (s.length - off) _ rfl t rfl w.heap.size off s HB.out ?c1 ?c2 w.heap.size w hb1 (Nat.le_refl _) ?_;(case c1=>go_must (rw [List.length_take];omega));(case c2=>go_must (rw [List.length_take];intro h0;rw [if_neg (by omega)]));intro w2 hb2 hsz2 hby2;have HB2:=hid hby2;clear hby2)|((with_reducible refine a6Z 24 ?_);refine a2O rfl (.tmp 23) 123 9 5 rfl Try.underlying123 Try.underlying5 Try.underlying9 _ w.heap.size s.length _ rfl ?c3 HB2.out ?_;(case c3=>go_must (exact length_splice _ _ _ (by rw [List.length_take];omega)));clear HB2))
 all_goals
  go_ret2
  refine ⟨?_,hb2⟩
  show Ending.returned (.tuple #[.string ⟨(splice s off (t.take (s.length - off))).toArray⟩,.int .i64 0])=_
  rw [List.take_of_length_le (show t.length≤s.length - off from by omega)]
set_option maxRecDepth 100000 in
set_option maxHeartbeats 400000 in
theorem b5s (s t:List UInt8) (off:Int) (w:World) (hs:s.length≤maxLen) (h:inB off t.length s.length=false) :
  Calls Try.prog 42 #[.string ⟨s.toArray⟩,.int .i64 off,.string ⟨t.toArray⟩] w fun e w'=>e=.returned (.tuple #[.string ⟨#[]⟩,.int .i64 3])∧w=w':=by
 unfold maxLen at hs
 go_enter Try.func42,Try.ntmps42
 go_wp2_with (go_at_call 67;(with_reducible refine (b2A _ _ _ _ (by omega) (by omega)).mono ?_);rintro e w' ⟨rfl,rfl⟩;rw [h])
 go_ret2
 exact ⟨rfl,rfl⟩
set_option maxRecDepth 100000 in
set_option maxHeartbeats 400000 in
theorem b4t (n:Int) (k:Nat) (w:World) (h1:1≤k) (h8:k≤8) :
  Calls Try.prog 79 #[.int .i64 n,.int .i64 k] w fun e w'=>e=.returned (.tuple #[.string ⟨(leB n k).toArray⟩,.int .i64 0])∧Below w.heap.size w w':=by
 have hi5:(Try.prog.info? 5).map (fun i=>(i.zero,i.size,i.bytes))=some (some (.int .u8 0),1,1):=by kernel_rfl
 have Hi5:=hid hi5;clear hi5
 go_enter Try.func79,Try.ntmps79
 go_wp2_with (((with_reducible refine a6Z 15 ?_);refine a4n rfl (.tmp 14) (.tmp 14) 123 5 rfl Try.underlying123 Hi5.out k ?c1 rfl rfl w.heap.size w (Below.refl _ _) (Nat.le_refl _) ?_;(case c1=>omega);intro w1 hb1 hby1 hsz1;have HB:=hid hby1;clear hby1))
 go_loopw [18] (fun vi wr=>∃ j:Nat,j≤k∧vi=.int .i64 j∧Below w.heap.size w wr∧w.heap.size < wr.heap.size∧Hid (BytesAt wr w.heap.size (a1B n k j))) (fun i _=>k - (intOf i).toNat)
 case atStart=>exact ⟨0,by omega,rfl,hb1,hsz1,by have:=HB.out;unfold a1B;show BytesAt _ _ _;simpa [leB] using this⟩
 case round=>
  obtain ⟨j,hj,rfl,hb,hsz,HBj⟩:=hrel
  by_cases hlt:j < k
  ·obtain ⟨hc,hf⟩:=HBj.out j (by rw [a1p _ _ _ hj];exact hlt)
   obtain ⟨v,hv⟩:∃ v,v=Value.int .u8 ((a1B n k j)[j]'(by rw [a1p _ _ _ hj];exact hlt)).toNat:=⟨_,rfl⟩
   rw [← hv] at hc;clear hv
   go_wp2
   have HS:=HBj.out.set j (by rw [a1p _ _ _ hj];exact hlt) (a4C n j) _ (b33 (b4r n j (by omega)))
   rw [a8n n k j hlt] at HS
   exact ⟨⟨j + 1,by omega,by go_num,hb.setCell (Nat.le_refl _) _,by simpa using hsz,HS⟩,by simp [intOf];omega⟩
  ·go_wp2_with (((with_reducible refine a6Z 32 ?_);refine a2O rfl (.tmp 31) 123 9 5 rfl Try.underlying123 Try.underlying5 Try.underlying9 (a1B n k j) w.heap.size k _ rfl ?c3 HBj.out ?_;(case c3=>go_must (exact a1p _ _ _ hj));clear HBj))
   obtain rfl:j=k:=by omega
   go_ret2
   refine ⟨?_,hb⟩
   show Ending.returned (.tuple #[.string ⟨(a1B n j j).toArray⟩,.int .i64 0])=_
   rw [a9p]
end Go.Proofs.Ytejnpppejalhfac
/- The contracts of bits in the words of the step calculus. -/
namespace Go.Proofs.Ytejnpppejalhfac
open Go.RowKit Go.Sort
theorem b14 (s t:List UInt8) (off:Int) (w:World) (hs:s.length≤maxLen):Fn Try.prog 42 [.string ⟨s.toArray⟩,.int .i64 off,.string ⟨t.toArray⟩] w (RBf (.tuple #[.string ⟨(if inB off t.length s.length=true then splice s off.toNat t else []).toArray⟩,.int .i64 (if inB off t.length s.length=true then 0 else 3)]) w):=by
 by_cases h:inB off t.length s.length=true
 ·rw [if_pos h,if_pos h]
  unfold inB at h
  simp only [decide_eq_true_eq] at h
  have h1:=b3I s t off.toNat w hs (by omega)
  rw [Int.toNat_of_nonneg (by omega)] at h1
  exact Fn.of_rb ⟨Try.func42,by kernel_rfl,by kernel_rfl⟩ (a5t h1)
 ·rw [if_neg h,if_neg h]
  exact (Fn.of_same ⟨Try.func42,by kernel_rfl,by kernel_rfl⟩ (b5s s t off w hs (by simpa using h))).mono (by rintro v w' ⟨rfl,rfl⟩;exact ⟨rfl,St.start _⟩)
end Go.Proofs.Ytejnpppejalhfac
/- foliantlaw.choose: a number out of n, whatever it is handed. -/
namespace Go.Proofs.Ytejnpppejalhfac
open Go.RowKit Go.Sort
end Go.Proofs.Ytejnpppejalhfac
