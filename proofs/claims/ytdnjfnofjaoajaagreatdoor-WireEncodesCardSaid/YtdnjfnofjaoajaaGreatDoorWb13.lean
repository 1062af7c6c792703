/- Walks and laws, joined: Wb13. -/
import Derived.Test.YtdnjfnofjaoajaaGreatDoorWb12
set_option linter.unusedVariables false
set_option maxHeartbeats 16000000
namespace Go.Proofs.YtdnjfnofjaoajaaGreatDoor
section
def yr (l:List Nat):yo:=fun p=>match v7 (l.drop p) 0 0 with | (1,x,j)=>.ok (x,p+j) | (2,_,_)=>.error 6 | _=>.error 5
theorem z2u {j c:Nat} (h:qc j c=0):128≤c∧¬(0<j∧c=0)∧j≠9:=by
 unfold qc at h;split at h
 · cases h
 · rename_i h1;split at h
   · cases h
   · exact⟨by omega,fun h2=>h1 (.inr h2),fun h2=>h1 (.inl ⟨h2,by omega⟩)⟩
theorem z2v {j c:Nat} (h:qc j c=1):c<128∧(j=9→c≤1)∧(0<j→c≠0):=by
 unfold qc at h;split at h
 · cases h
 · rename_i h1;split at h
   · exact⟨by assumption,fun h2=>by
      rcases Nat.lt_or_ge 1 c with h3 | h3
      · exact absurd (.inl ⟨h2,h3⟩) h1
      · exact h3,fun h2 h3=>h1 (.inr ⟨h2,h3⟩)⟩
   · cases h
theorem zil {x y k:Nat} (h:x<2 ^ k):x ||| (y*2 ^ k)=x+y*2 ^ k:=by
 have:=Nat.two_pow_add_eq_or_of_lt h y;rw[Nat.or_comm,Nat.mul_comm y,←this,Nat.add_comm]
theorem ztp (j:Nat):2 ^ (7*(j+1))=128*2 ^ (7*j):=by rw[show 7*(j+1)=7*j+7 by omega,Nat.pow_add,Nat.mul_comm]
theorem ztq:∀(k j m x:Nat) (t:List Nat),j+k=9→m<2 ^ (7*k+1)→(0<j→0<m)→x<2 ^ (7*j)→x+m*2 ^ (7*j)<18446744073709551616→
 v7 (vbF k m++t) j x=(1,x+m*2 ^ (7*j),j+(vbF k m).length)
 | 0,j,m,x,t,hj,hm,h0,hx,h64=>by
   have hm2:m<2:=by simpa using hm
   have e:vbF 0 m=[m]:=by simp[vbF];omega
   rw[e]
   have hs:qc j m=1:=by
    unfold qc;rw[if_neg (by omega),if_pos (by omega)]
   show v7 (m :: t) j x=_;rw[v7,hs,if_neg (by omega),if_pos rfl]
   have:jn x j m=x+m*2 ^ (7*j):=by
    unfold jn;rw[Nat.mod_eq_of_lt (show m<128 by omega),Nat.mod_eq_of_lt (by omega),zil hx]
   rw[this];rfl
 | k+1,j,m,x,t,hj,hm,h0,hx,h64=>by
   rw[zcn];by_cases h:m<128
   · rw[if_pos h]
     have hs:qc j m=1:=by
      unfold qc;rw[if_neg (by omega),if_pos h]
     show v7 (m :: t) j x=_;rw[v7,hs,if_neg (by omega),if_pos rfl]
     have:jn x j m=x+m*2 ^ (7*j):=by
      unfold jn;rw[Nat.mod_eq_of_lt h,Nat.mod_eq_of_lt (by omega),zil hx]
     rw[this];rfl
   · rw[if_neg h]
     have hs:qc j (m % 128+128)=0:=by
      unfold qc;rw[if_neg (by omega),if_neg (by omega)]
     show v7 ((m % 128+128) :: (vbF k (m / 128)++t)) j x=_;rw[v7,hs,if_neg (by omega),if_neg (by omega)];have hp:=ztp j;have hmd:m % 128*2 ^ (7*j)≤m*2 ^ (7*j):=Nat.mul_le_mul_right _ (Nat.mod_le _ _)
     have ho:jn x j (m % 128+128)=x+m % 128*2 ^ (7*j):=by
      unfold jn;rw[show (m % 128+128) % 128=m % 128 by omega,Nat.mod_eq_of_lt (by omega),zil hx]
     have hsum:x+m % 128*2 ^ (7*j)+m / 128*2 ^ (7*(j+1))=x+m*2 ^ (7*j):=by
      rw[hp]
      have e:m*2 ^ (7*j)=m % 128*2 ^ (7*j)+m / 128*(128*2 ^ (7*j)):=by
       rw[←Nat.mul_assoc,←Nat.add_mul];congr 1;omega
      omega
     have hx2:x+m % 128*2 ^ (7*j)<2 ^ (7*(j+1)):=by
      rw[hp];have:m % 128*2 ^ (7*j)≤127*2 ^ (7*j):=Nat.mul_le_mul_right _ (by omega);omega
     rw[ho,ztq k (j+1) (m / 128) _ t (by omega) (by
      rw[show 7*(k+1)+1=(7*k+1)+7 from by omega,Nat.pow_add] at hm;exact Nat.div_lt_of_lt_mul (by omega)) (fun _=>by omega) hx2 (by rw[hsum];exact h64),hsum,List.length_cons]
     congr 2;omega
theorem z2w {x:Nat} (t:List Nat) (h:x<18446744073709551616):v7 (jx x++t) 0 0=(1,x,(jx x).length):=by
 have:=ztq 9 0 x 0 t rfl (by simpa using h) (fun h=>by omega) (by simp) (by simpa using h);simpa [jx] using this
theorem ztr:∀(l:List Nat) (j x X J:Nat),(∀c∈l,c<256)→j≤9→x<2 ^ (7*j)→v7 l j x=(1,X,J)→
 ∃m,X=x+m*2 ^ (7*j)∧m<2 ^ (7*(9 - j)+1)∧(0<j→0<m)∧j<J∧J≤j+l.length∧vbF (9 - j) m=l.take (J - j)
 | [],j,x,X,J,_,_,_,h=>by simp[v7] at h
 | c :: l,j,x,X,J,hl,hj,hx,h=>by
   have hc:=hl c List.mem_cons_self;rw[v7] at h;by_cases h2:qc j c=2
   · rw[if_pos h2] at h;simp at h
   · rw[if_neg h2] at h;by_cases h1:qc j c=1
     · rw[if_pos h1] at h;obtain⟨a1,a2,a3⟩:=z2v h1;simp only[Prod.mk.injEq,true_and] at h;obtain⟨rfl,rfl⟩:=h
       have hb:c*2 ^ (7*j)<18446744073709551616:=by
        by_cases h9:j=9
        · subst h9;have:=a2 rfl;simp only[Nat.reduceMul,Nat.reducePow];omega
        · have:2 ^ (7*j)≤2 ^ 56:=Nat.pow_le_pow_right (by omega) (by omega);have:c*2 ^ (7*j)≤127*2 ^ 56:=Nat.mul_le_mul (by omega) this;simp only[Nat.reducePow] at this;omega
       refine⟨c,?_,?_,fun h=>by have:=a3 h;omega,by omega,by simp only[List.length_cons];omega,?_⟩
       · unfold jn;rw[Nat.mod_eq_of_lt a1,Nat.mod_eq_of_lt hb,zil hx]
       · by_cases h9:j=9
         · subst h9;have:=a2 rfl;simp only[Nat.sub_self,Nat.mul_zero,Nat.zero_add,Nat.pow_one];omega
         · have:2 ^ 8≤2 ^ (7*(9 - j)+1):=Nat.pow_le_pow_right (by omega) (by omega);simp only[Nat.reducePow] at this;omega
       · rw[show j+1 - j=1 by omega]
         obtain h9 | ⟨k,h9⟩:9 - j=0∨∃k,9 - j=k+1:=by
          rcases Nat.eq_zero_or_pos (9 - j) with e | e
          · exact .inl e
          · exact .inr ⟨9 - j - 1,by omega⟩
         · rw[h9];simp[vbF];omega
         · rw[h9,zcn,if_pos a1];rfl
     · rw[if_neg h1] at h
       have h0:qc j c=0:=by
        unfold qc at h1 h2 ⊢;by_cases e1:(j=9∧1<c)∨(0<j∧c=0)
        · rw[if_pos e1] at h2;exact absurd rfl h2
        · rw[if_neg e1] at h1 ⊢;by_cases e2:c<128
          · rw[if_pos e2] at h1;exact absurd rfl h1
          · rw[if_neg e2]
       obtain⟨b1,b2,b3⟩:=z2u h0;have hp:=ztp j
       have hb:c % 128*2 ^ (7*j)<18446744073709551616:=by
        have:2 ^ (7*j)≤2 ^ 56:=Nat.pow_le_pow_right (by omega) (by omega);have:c % 128*2 ^ (7*j)≤127*2 ^ 56:=Nat.mul_le_mul (by omega) this;simp only[Nat.reducePow] at this;omega
       have ho:jn x j c=x+c % 128*2 ^ (7*j):=by
        unfold jn;rw[Nat.mod_eq_of_lt hb,zil hx]
       rw[ho] at h
       have hx2:x+c % 128*2 ^ (7*j)<2 ^ (7*(j+1)):=by
        rw[hp];have:c % 128*2 ^ (7*j)≤127*2 ^ (7*j):=Nat.mul_le_mul_right _ (by omega);omega
       obtain⟨m,e1,e2,e3,e4,e5,e6⟩:=ztr l (j+1) _ X J (fun c hc=>hl c (List.mem_cons_of_mem _ hc)) (by omega) hx2 h;have hm:=e3 (by omega);refine⟨c % 128+128*m,?_,?_,fun _=>by omega,by omega,by simp only[List.length_cons];omega,?_⟩
       · rw[e1,hp,Nat.add_mul,←Nat.mul_assoc,Nat.mul_comm m 128];omega
       · rw[show 7*(9 - j)+1=(7*(9 - (j+1))+1)+7 by omega,Nat.pow_add];generalize 2 ^ (7*(9 - (j+1))+1)=P at*;omega
       · rw[show 9 - j=(9 - (j+1))+1 by omega,zcn,if_neg (by omega),show (c % 128+128*m) % 128+128=c by omega,show (c % 128+128*m) / 128=m by omega,e6,show J - j=(J - (j+1))+1 by omega,List.take_succ_cons]
theorem z2x {l:List Nat} {x j:Nat} (hl:∀c∈l,c<256) (h:v7 l 0 0=(1,x,j)):x<18446744073709551616∧0<j∧j≤l.length∧jx x=l.take j:=by
 obtain⟨m,e1,e2,-,e4,e5,e6⟩:=ztr l 0 0 x j hl (by omega) (by simp) h;simp only[Nat.mul_zero,Nat.pow_zero,Nat.mul_one,Nat.zero_add,Nat.sub_zero] at e1 e2 e5 e6;subst e1;exact⟨by simpa using e2,e4,e5,e6⟩
theorem zde {l:List Nat} (hl:∀c∈l,c<256) {p x q:Nat} (h:yr l p=.ok (x,q)):p<q∧q≤l.length∧x<18446744073709551616∧l.drop p=jx x++l.drop q∧q=p+(jx x).length:=by
 unfold yr at h;split at h
 · rename_i y j hs;cases h;obtain⟨h1,h2,h3,h4⟩:=z2x (fun c hc=>hl c (List.mem_of_mem_drop hc)) hs;rw[List.length_drop] at h3;refine⟨by omega,by omega,h1,?_,?_⟩
   · rw[h4,←List.drop_drop,List.take_append_drop]
   · rw[h4,List.length_take,List.length_drop];omega
 · cases h
 · cases h
theorem z2y {l t:List Nat} {p x:Nat} (hx:x<18446744073709551616) (h:l.drop p=jx x++t):yr l p=.ok (x,p+(jx x).length):=by
 unfold yr;rw[h,z2w t hx]
 rfl
def jr (T:yo):Nat→List Nat→Nat→Prop
 | p,[],q=>p=q
 | p,n :: ns,q=>∃r,T p=.ok (n,r)∧jr T r ns q
theorem zae {T:yo}:∀{a b:List Nat} {p q:Nat},jr T p (a++b) q↔∃r,jr T p a r∧jr T r b q
 | [],b,p,q=>⟨fun h=>⟨p,rfl,h⟩,fun ⟨r,h,h'⟩=>by cases h;exact h'⟩
 | n :: a,b,p,q=>by
   constructor
   · rintro⟨r,h1,h2⟩;obtain⟨s,h3,h4⟩:=zae.1 h2;exact⟨s,⟨r,h1,h3⟩,h4⟩
   · rintro⟨s,⟨r,h1,h3⟩,h4⟩;exact⟨r,h1,zae.2 ⟨s,h3,h4⟩⟩
theorem zdo {T:yo} (hT:∀p x q,T p=.ok (x,q)→p<q):∀{a:List Nat} {p q:Nat},jr T p a q→p+a.length≤q
 | [],p,q,h=>by cases h;simp
 | n :: a,p,q,⟨r,h1,h2⟩=>by
   have:=hT _ _ _ h1;have:=zdo hT h2;simp only[List.length_cons];omega
theorem zts {l:List Nat}:∀{ns t:List Nat} {p:Nat},(∀x∈ns,x<18446744073709551616)→l.drop p=zo ns++t→jr (yr l) p ns (p+(zo ns).length)
 | [],t,p,_,h=>by simp[jr,zo]
 | n :: ns,t,p,hn,h=>by
   have e:zo (n :: ns)=jx n++zo ns:=rfl;rw[e,List.append_assoc] at h;refine⟨p+(jx n).length,z2y (hn n List.mem_cons_self) h,?_⟩;have:=zts (l:=l) (ns:=ns) (t:=t) (p:=p+(jx n).length) (fun x hx=>hn x (List.mem_cons_of_mem _ hx)) (by rw[←List.drop_drop,h,List.drop_left]);rw[e,List.length_append,←Nat.add_assoc];exact this
theorem ztt {l:List Nat} (hl:∀c∈l,c<256):∀{ns:List Nat} {p q:Nat},jr (yr l) p ns q→l.drop p=zo ns++l.drop q
 | [],p,q,h=>by cases h;rfl
 | n :: ns,p,q,⟨r,h1,h2⟩=>by
   obtain⟨-,-,-,h3,-⟩:=zde hl h1;have e:zo (n :: ns)=jx n++zo ns:=rfl;rw[h3,ztt hl h2,e,List.append_assoc]
end
section
open Go.RowKit Go.Sort
structure CalleesU:Prop where
 ins:∀(blk off cap a b:Nat) (d:Array Nat) (w:World),Holds zf w blk off d→a≤b→b≤d.size→d.size<4611686018427387904→
  Calls Tryz.prog 273 #[.slice (some ⟨blk,off,none⟩) d.size cap,.int .i64 a,.int .i64 b] w fun e w'=>e=.returned (.tuple #[])∧∃n,w'=putRow zf (Sort.ahead w n) blk off (insertionSort ltU d a b)
 brk:∀(blk off cap a b:Nat) (d:Array Nat) (w:World),Holds zf w blk off d→blk<w.heap.size→a≤b→b≤d.size→d.size<4611686018427387904→
  Calls Tryz.prog 275 #[.slice (some ⟨blk,off,none⟩) d.size cap,.int .i64 a,.int .i64 b] w fun e w'=>e=.returned (.tuple #[])∧∃n os,w'=grow (putRow zf (Sort.ahead w n) blk off (breakPatterns d a b)) os
 piv:∀(blk off cap a b:Nat) (d:Array Nat) (w:World),Holds zf w blk off d→blk<w.heap.size→a<b→b≤d.size→d.size<4611686018427387904→
  Calls Tryz.prog 276 #[.slice (some ⟨blk,off,none⟩) d.size cap,.int .i64 a,.int .i64 b] w fun e w'=>e=.returned (.tuple #[.int .i64 (choosePivot ltU d a b).1,.int .i64 (hintCode (choosePivot ltU d a b).2)])∧∃n os,w'=grow (Sort.ahead w n) os
 par:∀(blk off cap a b:Nat) (d:Array Nat) (w:World),Holds zf w blk off d→a<b→b≤d.size→d.size<4611686018427387904→
  Calls Tryz.prog 278 #[.slice (some ⟨blk,off,none⟩) d.size cap,.int .i64 a,.int .i64 b] w fun e w'=>e=.returned (.bool (partialInsertionSort ltU d a b).2)∧∃n,w'=putRow zf (Sort.ahead w n) blk off (partialInsertionSort ltU d a b).1
 peq:∀(blk off cap a b pivot:Nat) (d:Array Nat) (w:World),Holds zf w blk off d→a≤pivot→pivot<b→b≤d.size→d.size<4611686018427387904→
  Calls Tryz.prog 280 #[.slice (some ⟨blk,off,none⟩) d.size cap,.int .i64 a,.int .i64 b,.int .i64 pivot] w fun e w'=>e=.returned (.int .i64 (partitionEqual ltU d a b pivot).1)∧∃n,w'=putRow zf (Sort.ahead w n) blk off (partitionEqual ltU d a b pivot).2
 prt:∀(blk off cap a b pivot:Nat) (d:Array Nat) (w:World),Holds zf w blk off d→a≤pivot→pivot<b→b≤d.size→d.size<4611686018427387904→
  Calls Tryz.prog 281 #[.slice (some ⟨blk,off,none⟩) d.size cap,.int .i64 a,.int .i64 b,.int .i64 pivot] w fun e w'=>e=.returned (.tuple #[.int .i64 (partition ltU d a b pivot).1,.bool (partition ltU d a b pivot).2.1])∧∃n,w'=putRow zf (Sort.ahead w n) blk off (partition ltU d a b pivot).2.2
structure PlainU:Prop where
 swo:SWO ltU
 ins:insertionSort_stmt ltU
 par:partialInsertionSort_stmt ltU
 prt:partition_stmt ltU
 peq:partitionEqual_stmt ltU
 pdq:pdq_stmt ltU
set_option maxRecDepth 1000000 in
theorem z2z (C:CalleesU) (S:PlainU):∀(N blk off cap a b limit:Nat) (d:Array Nat) (w:World),b - a<N→Holds zf w blk off d→blk<w.heap.size→a≤b→b≤d.size→d.size<4611686018427387904→limit<4611686018427387904→Below ltU a b d→
 Calls Tryz.prog 265 #[.slice (some ⟨blk,off,none⟩) d.size cap,.int .i64 a,.int .i64 b,.int .i64 limit] w fun e w'=>e=.returned (.tuple #[])∧At zf w blk off (pdq ltU d a b limit true true) w':=by
 intro N
 induction N with
 | zero=>intro _ _ _ _ _ _ _ _ h;exact absurd h (Nat.not_lt_zero _)
 | succ N ih=>
  intro blk off cap a b limit d w hN hH hblk hab hb hsz hlimit hBel0;go_enter Tryz.func265,Tryz.ntmps265;go_wp2
  go_loopg [1,2,3,8,9] (b - a) (fun k s1 s2 s3 s8 s9 wr=>∃(a' b' lim:Nat) (wb wp:Bool) (dk:Array Nat),s1=.int .i64 a'∧s2=.int .i64 b'∧s3=.int .i64 lim∧s8=.bool wb∧s9=.bool wp∧
   a'≤b'∧b'≤d.size∧b' - a'≤k∧k≤b - a∧lim≤limit∧dk.size=d.size∧Below ltU a' b' dk∧At zf w blk off dk wr∧pdq ltU dk a' b' lim wb wp=pdq ltU d a b limit true true)
  case atStart=>exact⟨a,b,limit,true,true,d,rfl,rfl,rfl,rfl,rfl,hab,hb,Nat.le_refl _,Nat.le_refl _,Nat.le_refl _,rfl,hBel0,At.refl hH,rfl⟩
  case round=>
   obtain⟨a',b',lim,wb,wp,dk,rfl,rfl,rfl,rfl,rfl,hab',hb',hk,hkN,hlim,hds,hBel,hAt,heq⟩:=hrel;obtain⟨hHk,hblk'⟩:=hAt.holds hH hds hblk;have A:Aside (pdq ltU dk a' b' lim wb wp=pdq ltU d a b limit true true):=heq;clear heq;by_cases h12:b' - a'≤12
   ·
    have h12z:(b':Int) - (a':Int)≤12:=by omega
    have hc:=C.ins blk off cap a' b' dk wr hHk hab' (by omega) (by omega);rw[hds] at hc;go_wp2_with (go_at_call 273;refine hc.mono ?_;rintro e w1 ⟨rfl,hw1⟩)
    (try simp only[Exit.inBlock,Exit.then]);refine bodyPost_ret (results_none rfl _ _ _) rfl ?_
    refine⟨rfl,?_⟩;rw[←A.out,pdq_small h12];exact hAt.step hblk (S.ins S.swo dk a' b' hab' (by omega)).1.1 hw1
   · have h12z:¬((b':Int) - (a':Int)≤12):=by omega
     by_cases hl0:lim=0
     ·
      subst hl0;have hc:=zz4 blk off cap a' b' dk wr hHk hab' (by omega) (by omega);rw[hds] at hc;go_wp2_with (go_at_call 274;refine hc.mono ?_;rintro e w1 ⟨rfl,hw1⟩)
      (try simp only[Exit.inBlock,Exit.then]);refine bodyPost_ret (results_none rfl _ _ _) rfl ?_
      refine⟨rfl,?_⟩;rw[←A.out,pdq_heap h12 rfl];exact hAt.step hblk (heapSort_holds S.swo dk a' b' hab' (by omega)).1.1 hw1
     · have hl0z:¬((lim:Int)=0):=by omega
       obtain⟨s1,B1,hc1,s2,B2,hpv,s3,B3⟩:=rd_facts (limit:=lim) (wb:=wb) (wp:=wp) S.swo S.par reverseRange_holds (show a'<b' by omega) (show b'≤dk.size by omega) hBel;go_upto_if 35 with fail
       go_cut [3] from 19 (fun s3 wc=>s3=.int .i64 (rd ltU dk a' b' lim wb wp).lim∧At zf w blk off (rd ltU dk a' b' lim wb wp).d1 wc)
       case first=>
        cases wb
        · have hc:=C.brk blk off cap a' b' dk wr hHk hblk' hab' (by omega) (by omega);rw[hds] at hc;go_wp2_with (go_at_call 275;refine hc.mono ?_;rintro e w1 ⟨rfl,hw1⟩);go_meet
          case rel=>
           refine⟨?_,hAt.stepG hblk s1 hw1⟩;show Value.int .i64 ((lim:Int) - 1)=Value.int .i64 ((lim - 1:Nat):Int);congr 1;omega
        · go_wp2_with fail;go_meet
          case rel=>exact⟨rfl,hAt⟩
       case rest=>
        obtain⟨rfl,hAt1⟩:=hcut;obtain⟨hH1,hblk1⟩:=hAt1.holds hH (s1.trans hds) hblk
        have hc17:Calls Tryz.prog 276 #[.slice (some ⟨blk,off,none⟩) d.size cap,.int .i64 a',.int .i64 b'] wc fun e w'=>e=.returned (.tuple #[.int .i64 (rd ltU dk a' b' lim wb wp).c.1,.int .i64 (hintCode (rd ltU dk a' b' lim wb wp).c.2)])∧∃n os,w'=grow (Sort.ahead wc n) os:=by
         have:=C.piv blk off cap a' b' (rd ltU dk a' b' lim wb wp).d1 wc hH1 hblk1 (by omega) (by omega) (by omega);rw[s1,hds] at this;exact this
        go_upto_if 50 with (go_at_call 276;refine hc17.mono ?_;rintro e w2 ⟨rfl,hw2⟩)
        have hAt2:At zf w blk off (rd ltU dk a' b' lim wb wp).d1 w2:=hAt1.same hH (s1.trans hds) hblk hw2;obtain⟨hH2,hblk2⟩:=hAt2.holds hH (s1.trans hds) hblk;go_cut [11,12] from 19 (fun s11 s12 wc=>s11=.int .i64 (rd ltU dk a' b' lim wb wp).pivot∧s12=.int .i64 (hintCode (rd ltU dk a' b' lim wb wp).hint)∧At zf w blk off (rd ltU dk a' b' lim wb wp).d2 wc)
        case first=>
         by_cases hh:(rd ltU dk a' b' lim wb wp).c.2=.decreasing
         · have hcode:hintCode (rd ltU dk a' b' lim wb wp).c.2=2:=by rw[hh];rfl
           obtain⟨e2,epv,eht⟩:=rd_dec hh;have hc18:=zzb blk off cap a' b' (rd ltU dk a' b' lim wb wp).d1 w2 hH2 hab' (by omega) (by omega);rw[s1,hds] at hc18;go_wp2_with (go_at_call 277;refine hc18.mono ?_;rintro e w3 ⟨rfl,hw3⟩);go_meet
           case rel=>
            refine⟨?_,by rw[eht];rfl,by rw[e2];exact hAt2.step hblk (by rw[←e2,s2,s1]) hw3⟩;rw[epv];congr 1;omega
         · have hcode:¬(hintCode (rd ltU dk a' b' lim wb wp).c.2=2):=fun h=>hh (hintCode_two h)
           obtain⟨e2,epv,eht⟩:=rd_not hh;go_wp2_with fail;go_meet
           case rel=>exact⟨by rw[epv],by rw[eht],by rw[e2];exact hAt2⟩
        case rest=>
         obtain⟨rfl,rfl,hAt3⟩:=hcut;obtain⟨hH3,hblk3⟩:=hAt3.holds hH (s2.trans hds) hblk;go_upto_region 15 with fail
         go_cut [12,68] from 19 (fun s12 s68 wx=>s12=.int .i64 (hintCode (rd ltU dk a' b' lim wb wp).hint)∧s68=.bool (wb && wp && decide ((rd ltU dk a' b' lim wb wp).hint=.increasing))∧wx=wc)
         case first=>
          cases wb <;> cases wp <;> cases hh3:(rd ltU dk a' b' lim _ _).hint <;>
           (have hcode3:=congrArg hintCode hh3
            simp only[hintCode] at hcode3;go_wp2_with fail;go_meet
            exact⟨by simp[hh3,hintCode],by simp[hh3,hintCode],rfl⟩)
         case rest=>
          obtain⟨rfl,rfl,rfl⟩:=hcut;go_upto_if 68 with fail
          go_cut [] from 19 (fun wx=>(rd ltU dk a' b' lim wb wp).pi.2=false∧At zf w blk off (rd ltU dk a' b' lim wb wp).pi.1 wx)
          case first=>
           cases h68:(wb && wp && decide ((rd ltU dk a' b' lim wb wp).hint=.increasing))
           · have epi:=rd_pi_no h68;go_wp2_with fail;go_meet
             case rel=>exact⟨by rw[epi],by rw[epi];exact hAt3⟩
           · have epi:=rd_pi_yes h68;have hc19:=C.par blk off cap a' b' (rd ltU dk a' b' lim wb wp).d2 wc hH3 (by omega) (by omega) (by omega);rw[s2,hds,←epi] at hc19;go_wp2_with (go_at_call 278;refine hc19.mono ?_;rintro e w4 ⟨rfl,hw4⟩)
             all_goals first
              | (have hp2:(rd ltU dk a' b' lim wb wp).pi.2=false:=by rw[epi];assumption
                 go_meet
                 exact⟨hp2,hAt3.step hblk (by rw[s3,s2]) hw4⟩)
              | (have hp2:(rd ltU dk a' b' lim wb wp).pi.2=true:=by rw[epi];assumption
                 (try simp only[Exit.inBlock,Exit.then]);refine bodyPost_ret (results_none rfl _ _ _) rfl ?_
                 refine⟨rfl,?_⟩;rw[←A.out,pdq_done h12 hl0 hp2];exact hAt3.step hblk (by rw[s3,s2]) hw4)
          case rest=>
           obtain⟨hp2,hAt5⟩:=hcut;obtain⟨hH5,hblk5⟩:=hAt5.holds hH (s3.trans hds) hblk;have hcw:∀t,t<d.size→wc.cell? ⟨blk,off+t,none⟩=some (.int .u64 (((rd ltU dk a' b' lim wb wp).pi.1[t]! :Nat):Int)):=fun t ht=>(hH5 t (by omega)).1
           have hfw:∀t,t<d.size→wc.frozen? ⟨blk,off+t,none⟩=false:=fun t ht=>(hH5 t (by omega)).2
           go_upto_region 17 with fail
           go_cut [87] from 19 (fun s87 wx=>s87=.bool (decide (a'>0) && !ltU (rd ltU dk a' b' lim wb wp).pi.1[a' - 1]! (rd ltU dk a' b' lim wb wp).pi.1[(rd ltU dk a' b' lim wb wp).pivot]!)∧At zf w blk off (rd ltU dk a' b' lim wb wp).pi.1 wx)
           case first=>
            rcases Nat.eq_zero_or_pos a' with ha0 | ha0
            · have ha0z:decide ((a':Int)>0)=false:=decide_eq_false (by omega);go_big_quiet (first | (go_at_call 279;refine Calls.quiet_of_same (jk _ _ _)))
              go_wp2_with fail;go_meet
              case rel=>exact⟨by simp[ha0],hAt5.ahead nq⟩
            · have ha0z:(a':Int)>0:=by omega
              go_big_quiet (first | (go_at_call 279;refine Calls.quiet_of_same (jk _ _ _)))
              go_wp2_with fail;go_meet
              case rel=>exact⟨by simp[ha0],hAt5.ahead nq⟩
           case rest=>
            obtain⟨rfl,hAt6⟩:=hcut;obtain⟨hH6,hblk6⟩:=hAt6.holds hH (s3.trans hds) hblk;clear hcw hfw;cases h87:(decide (a'>0) && !ltU (rd ltU dk a' b' lim wb wp).pi.1[a' - 1]! (rd ltU dk a' b' lim wb wp).pi.1[(rd ltU dk a' b' lim wb wp).pivot]!)
            ·
             obtain⟨mid,ap,d4,hx⟩:∃mid ap d4,partition ltU (rd ltU dk a' b' lim wb wp).pi.1 a' b' (rd ltU dk a' b' lim wb wp).pivot=(mid,ap,d4):=⟨(partition ltU (rd ltU dk a' b' lim wb wp).pi.1 a' b' (rd ltU dk a' b' lim wb wp).pivot).1,(partition ltU (rd ltU dk a' b' lim wb wp).pi.1 a' b' (rd ltU dk a' b' lim wb wp).pivot).2.1,(partition ltU (rd ltU dk a' b' lim wb wp).pi.1 a' b' (rd ltU dk a' b' lim wb wp).pivot).2.2,rfl⟩;obtain⟨r1,r2,r3,r4,r5,r6,r7⟩:=round_part S.swo S.prt hpv.1 hpv.2 (show b'≤(rd ltU dk a' b' lim wb wp).pi.1.size by omega) B3 hx;have hc22:=C.prt blk off cap a' b' (rd ltU dk a' b' lim wb wp).pivot (rd ltU dk a' b' lim wb wp).pi.1 wc hH6 hpv.1 hpv.2 (by omega) (by omega);rw[s3,hds,hx] at hc22;have X:Aside (partition ltU (rd ltU dk a' b' lim wb wp).pi.1 a' b' (rd ltU dk a' b' lim wb wp).pivot=(mid,ap,d4)):=hx;clear hx;go_upto_if 113 with (go_at_call 281;refine hc22.mono ?_;rintro e w7 ⟨rfl,hw7⟩)
             have hx:=X.out;have hAt7:At zf w blk off d4 w7:=hAt6.step hblk r3 hw7;obtain⟨hH7,hblk7⟩:=hAt7.holds hH (r3.trans (s3.trans hds)) hblk;by_cases h4:mid - a'<b' - mid
             · have h4z:(mid:Int) - (a':Int)<(b':Int) - (mid:Int):=by omega
               have hih:=ih blk off cap a' mid (rd ltU dk a' b' lim wb wp).lim d4 w7 (by omega) hH7 hblk7 (by omega) (by omega) (by omega) (Nat.lt_of_le_of_lt (Nat.le_trans rd_lim_le hlim) hlimit) r4;rw[r3,s3,hds] at hih;obtain⟨pL,sL⟩:=S.pdq S.swo d4 a' mid (rd ltU dk a' b' lim wb wp).lim true true (by omega) (by omega) r4;go_wp2_with (go_at_call 265;refine hih.mono ?_;rintro e w8 ⟨rfl,hw8⟩);go_roundg (b' - (mid+1))
               case measure=>omega
               case rel=>
                refine⟨mid+1,b',(rd ltU dk a' b' lim wb wp).lim,decide (mid - a'≥(b' - a') / 8),ap,pdq ltU d4 a' mid (rd ltU dk a' b' lim wb wp).lim true true,by simp,rfl,rfl,?_,rfl,by omega,by omega,Nat.le_refl _,by omega,Nat.le_trans rd_lim_le hlim,by rw[pL.1,r3,s3,hds],(r6 _ pL sL).1,hAt7.stepG hblk pL.1 hw8,?_⟩
                · exact congrArg Value.bool (eighth (by omega) (by omega))
                · rw[←A.out,pdq_left h12 hl0 hp2 h87 (by rw[hx];exact⟨r1,r2⟩) (by rw[hx];exact h4),hx]
             · have h4z:¬((mid:Int) - (a':Int)<(b':Int) - (mid:Int)):=by omega
               have hih:=ih blk off cap (mid+1) b' (rd ltU dk a' b' lim wb wp).lim d4 w7 (by omega) hH7 hblk7 (by omega) (by omega) (by omega) (Nat.lt_of_le_of_lt (Nat.le_trans rd_lim_le hlim) hlimit) r5;rw[r3,s3,hds] at hih;obtain⟨pL,sL⟩:=S.pdq S.swo d4 (mid+1) b' (rd ltU dk a' b' lim wb wp).lim true true (by omega) (by omega) r5;go_wp2_with (go_at_call 265;refine hih.mono ?_;rintro e w8 ⟨rfl,hw8⟩);go_roundg (mid - a')
               case measure=>omega
               case rel=>
                refine⟨a',mid,(rd ltU dk a' b' lim wb wp).lim,decide (b' - mid≥(b' - a') / 8),ap,pdq ltU d4 (mid+1) b' (rd ltU dk a' b' lim wb wp).lim true true,rfl,rfl,rfl,?_,rfl,by omega,by omega,Nat.le_refl _,by omega,Nat.le_trans rd_lim_le hlim,by rw[pL.1,r3,s3,hds],(r7 _ pL sL).1,hAt7.stepG hblk pL.1 hw8,?_⟩
                · exact congrArg Value.bool (eighth (by omega) (by omega))
                · rw[←A.out,pdq_right h12 hl0 hp2 h87 (by rw[hx];exact⟨r1,r2⟩) (by rw[hx];exact h4),hx]
            ·
             have h87':=h87;simp only[Bool.and_eq_true,decide_eq_true_eq,Bool.not_eq_true'] at h87';obtain⟨mid,d4,hx⟩:∃mid d4,partitionEqual ltU (rd ltU dk a' b' lim wb wp).pi.1 a' b' (rd ltU dk a' b' lim wb wp).pivot=(mid,d4):=⟨(partitionEqual ltU (rd ltU dk a' b' lim wb wp).pi.1 a' b' (rd ltU dk a' b' lim wb wp).pivot).1,(partitionEqual ltU (rd ltU dk a' b' lim wb wp).pi.1 a' b' (rd ltU dk a' b' lim wb wp).pivot).2,rfl⟩;obtain⟨r1,r2,r3,r4,_⟩:=round_eq S.swo S.peq h87'.1 hpv.1 hpv.2 (show b'≤(rd ltU dk a' b' lim wb wp).pi.1.size by omega) B3 h87'.2 hx;have hc21:=C.peq blk off cap a' b' (rd ltU dk a' b' lim wb wp).pivot (rd ltU dk a' b' lim wb wp).pi.1 wc hH6 hpv.1 hpv.2 (by omega) (by omega);rw[s3,hds,hx] at hc21;have X:Aside (partitionEqual ltU (rd ltU dk a' b' lim wb wp).pi.1 a' b' (rd ltU dk a' b' lim wb wp).pivot=(mid,d4)):=hx;clear hx;go_wp2_with (go_at_call 280;refine hc21.mono ?_;rintro e w7 ⟨rfl,hw7⟩);go_roundg (b' - mid)
             case measure=>omega
             case rel=>
              have hx:=X.out;exact⟨mid,b',(rd ltU dk a' b' lim wb wp).lim,wb,wp,d4,rfl,rfl,rfl,rfl,rfl,r2,hb',Nat.le_refl _,by omega,Nat.le_trans rd_lim_le hlim,by rw[r3,s3,hds],r4,hAt6.step hblk r3 hw7,by rw[←A.out,pdq_eq h12 hl0 hp2 h87 (by rw[hx];exact⟨r1,r2⟩),hx]⟩
end
section
structure PFit (s:PS) (n:Nat):Prop where
 v:LtV s.v
 vl:s.v.length≤n
 rep:s.rep<18446744073709551616
 mx:s.mx<18446744073709551616
 lo:s.lo<18446744073709551616
 h:zq s.h
 hl:s.h.length≤n
 ents:s.ents<18446744073709551616
 hls:s.hls<18446744073709551616
theorem PFit.mono {s:PS} {n m:Nat} (h:PFit s n) (hm:n≤m):PFit s m:=⟨h.v,Nat.le_trans h.vl hm,h.rep,h.mx,h.lo,h.h,Nat.le_trans h.hl hm,h.ents,h.hls⟩
theorem zk7 (n:Nat):PFit ps0 n:=⟨fun e h=>(by cases h),Nat.zero_le _,by decide,by decide,by decide,fun t h=>(by cases h),Nat.zero_le _,by decide,by decide⟩
theorem ztu {s:PS} {n k:Nat} {l:List Iv} (hs:PFit s n) (hk:k<18446744073709551616) (hl:zq l) (hn:l.length≤n+1):PFit (vh s k l) (n+1):=by
 have hv:LtV (s.v++[(s.rep,s.mx,l)]):=fun e he=>by
  rcases List.mem_append.1 he with h | h
  · exact hs.v e h
  · rw[List.mem_singleton] at h;subst h;exact⟨hs.rep,hs.mx,hl⟩
 have hvl:(s.v++[(s.rep,s.mx,l)]).length≤n+1:=by have:=hs.vl;simp;omega
 have he:=hs.ents;unfold vh;split
 · exact⟨hs.v,by have:=hs.vl;simp only;omega,hs.rep,hs.mx,hs.lo,hl,hn,hs.ents,by simp only;omega⟩
 · split
   · exact⟨hv,hvl,hs.rep,hs.mx,hs.lo,fun t h=>(by cases h),Nat.zero_le _,by simp only;omega,by simp⟩
   · exact⟨hv,hvl,hs.rep,hs.mx,hs.lo,fun t h=>(by cases h),Nat.zero_le _,by simp only;omega,by simp⟩
theorem ztv {o:Option Nat} {a x lo:Nat} (hx:x<18446744073709551616) (h:loP o a x=some lo):lo<18446744073709551616:=by
 cases o with
 | none=>cases h;exact hx
 | some q=>
  simp only[loP] at h;split at h
  · cases h;assumption
  · cases h
theorem z20 {v:Vec} {x r:Nat} (hx:x<18446744073709551616) (h:zay v x=some r):r<18446744073709551616:=by
 unfold zay at h;split at h
 · cases h;exact hx
 · split at h
   · cases h;assumption
   · cases h
theorem zoc {le lh:Int} {s s':PS} {x rest n:Nat} (hs:PFit s n) (ht:s.tag<6) (hx:x<18446744073709551616) (h:qb le lh s x rest=.ok s'):PFit s' (n+1):=by
 have hm:=hs.mono (Nat.le_succ n);obtain⟨tag,v,rep,mx,hh,ents,hls,lo⟩:=s;simp only at ht;rcases(by omega:tag=0∨tag=1∨tag=2∨tag=3∨tag=4∨tag=5) with rfl | rfl | rfl | rfl | rfl | rfl <;> simp only[qb] at h
 · split at h
   · cases h
   · split at h
     · cases h
     · cases h;exact⟨fun e h=>(by cases h),Nat.zero_le _,hm.rep,hm.mx,hm.lo,hm.h,hm.hl,hx,hm.hls⟩
 · cases hr:zay v x with
   | none=>rw[hr] at h;cases h
   | some r=>rw[hr] at h;cases h;exact⟨hm.v,hm.vl,z20 hx hr,hm.mx,hm.lo,hm.h,hm.hl,hm.ents,hm.hls⟩
 · cases h;exact⟨hm.v,hm.vl,hm.rep,hx,hm.lo,hm.h,hm.hl,hm.ents,hm.hls⟩
 · split at h
   · cases h
   · cases h;exact ztu hs hx (fun t h=>(by cases h)) (Nat.zero_le _)
 · cases hr:loP (jv hh) 1 x with
   | none=>rw[hr] at h;cases h
   | some r=>rw[hr] at h;cases h;exact⟨hm.v,hm.vl,hm.rep,hm.mx,ztv hx hr,hm.h,hm.hl,hm.ents,hm.hls⟩
 · split at h
   · rename_i hc;cases h;refine ztu hs hs.hls (fun t ht=>?_) (by have:=hs.hl;simp only[List.length_append,List.length_cons,List.length_nil] at this ⊢;omega);rcases List.mem_append.1 ht with h | h
     · exact hs.h t h
     · rw[List.mem_singleton] at h;subst h;exact⟨hs.lo,hc.1⟩
   · cases h
structure WFit (s:WS) (n:Nat):Prop where
 vs:∀v∈s.vs,LtV v
 vsl:s.vs.length≤n
 l:zq s.l
 ll:s.l.length≤n
 li:s.ix.length=s.l.length
 ix:∀i∈s.ix,i<s.vs.length
 left:s.left<18446744073709551616
 lo:s.lo<18446744073709551616
 hi:s.hi<18446744073709551616
 frm:s.frm≤n
 inner:PFit s.inner n
theorem z21:WFit ws0 0:=⟨fun v h=>(by cases h),Nat.le_refl _,fun t h=>(by cases h),Nat.le_refl _,rfl,fun i h=>(by cases h),by decide,by decide,by decide,Nat.le_refl _,zk7 0⟩
theorem WFit.mono {s:WS} {n m:Nat} (h:WFit s n) (hm:n≤m):WFit s m:=⟨h.vs,Nat.le_trans h.vsl hm,h.l,Nat.le_trans h.ll hm,h.li,h.ix,h.left,h.lo,h.hi,Nat.le_trans h.frm hm,h.inner.mono hm⟩
theorem ztw {E:Nat} {L:zt} {s s':WS} {x p q:Nat} (hs:WFit s p) (hI:WInv s) (h4:s.tag<4) (hx:x<18446744073709551616) (hq:p<q) (h:qm E L s x p q=.ok s'):WFit s' q:=by
 have hm:=hs.mono (Nat.le_of_lt hq)
 have fin:∀t:WS,WFit t q→∀t',k9 E t q=.ok t'→WFit t' q:=fun t ht t' h=>by
  unfold k9 at h;split at h
  · cases h
  · split at h
    · cases h
    · cases h;exact⟨ht.vs,ht.vsl,ht.l,ht.ll,ht.li,ht.ix,ht.left,ht.lo,ht.hi,ht.frm,ht.inner⟩
 have h2:=hI.turn;have hin:=hI.inner;obtain⟨tag,vs,l,ix,left,frm,inner,turn,lo,hi,tch⟩:=s;simp only at h2 hin h4
 have hfr:kw ⟨tag,vs,l,ix,left,frm,inner,turn,lo,hi,tch⟩ p≤q:=by
  unfold kw;have:=hs.frm;simp only at this ⊢;split <;> omega
 have g1:=hs.vsl;have g2:=hs.ll;have g3:=hs.left;simp only at g1 g2 g3;rcases(by omega:tag=0∨tag=1∨tag=2∨tag=3) with rfl | rfl | rfl | rfl <;> simp only[qm] at h
 · split at h
   · cases h
   · split at h
     · cases h;exact⟨hm.vs,hm.vsl,hm.l,hm.ll,hm.li,hm.ix,hm.left,hm.lo,hm.hi,hm.frm,hm.inner⟩
     · cases h;exact⟨hm.vs,hm.vsl,hm.l,hm.ll,hm.li,hm.ix,hx,hm.lo,hm.hi,hm.frm,zk7 q⟩
 · obtain⟨i1,i2⟩:=hin rfl
   cases hp:qb L.2.2.1 L.2.2.2.1 inner x (E - q) with
   | error c=>rw[hp] at h;cases h
   | ok i=>
    rw[hp] at h;simp only at h;have hi':=(zoc hs.inner i1 hx hp).mono hq
    have hvs:∀v∈vs++[i.v],LtV v:=fun v hv=>by
     rcases List.mem_append.1 hv with h | h
     · exact hs.vs v h
     · rw[List.mem_singleton] at h;subst h;exact hi'.v
    have hvl:(vs++[i.v]).length≤q:=by simp;omega
    have hix:∀j∈ix,j<(vs++[i.v]).length:=fun j hj=>by have:=hs.ix j hj;simp only[List.length_append] at this ⊢;omega
    split at h
    · split at h
      · cases h
      · split at h
        · cases h;exact⟨hvs,hvl,hm.l,hm.ll,hm.li,hix,by simp,hm.lo,hm.hi,hm.frm,zk7 q⟩
        · cases h;exact⟨hvs,hvl,hm.l,hm.ll,hm.li,hix,by simp only;omega,hm.lo,hm.hi,hm.frm,zk7 q⟩
    · cases h;exact⟨hm.vs,hm.vsl,hm.l,hm.ll,hm.li,hm.ix,hm.left,hm.lo,hm.hi,hfr,hi'⟩
 · split at h
   · cases h
   · split at h
     · exact fin _ hm _ h
     · cases h;exact⟨hm.vs,hm.vsl,hm.l,hm.ll,hm.li,hm.ix,hx,hm.lo,hm.hi,hm.frm,hm.inner⟩
 · rcases(by omega:turn=0∨turn=1∨turn=2) with rfl | rfl | rfl <;> simp only at h
   · cases hq':loP (jv l) 0 x with
     | none=>rw[hq'] at h;cases h
     | some r=>rw[hq'] at h;cases h;exact⟨hm.vs,hm.vsl,hm.l,hm.ll,hm.li,hm.ix,hm.left,ztv hx hq',hm.hi,hm.frm,hm.inner⟩
   · split at h
     · rename_i hc;cases h;exact⟨hm.vs,hm.vsl,hm.l,hm.ll,hm.li,hm.ix,hm.left,hm.lo,hc,hm.frm,hm.inner⟩
     · cases h
   · split at h
     · cases h
     · rename_i hx8
       have k1:zq (l++[(lo,hi)]):=fun t ht=>by
        rcases List.mem_append.1 ht with h | h
        · exact hs.l t h
        · rw[List.mem_singleton] at h;subst h;exact⟨hs.lo,hs.hi⟩
       have k2:(l++[(lo,hi)]).length≤q:=by simp;omega
       have k3:(ix++[x]).length=(l++[(lo,hi)]).length:=by have:=hs.li;simp only[List.length_append,List.length_cons,List.length_nil] at this ⊢;omega
       have k4:∀j∈ix++[x],j<vs.length:=fun j hj=>by
        rcases List.mem_append.1 hj with h | h
        · exact hs.ix j h
        · rw[List.mem_singleton] at h;subst h;omega
       split at h
       · cases h
       · split at h
         · exact fin ⟨3,vs,l++[(lo,hi)],ix++[x],0,frm,inner,0,lo,hi,tch⟩ ⟨hm.vs,hm.vsl,k1,k2,k3,k4,by simp,hm.lo,hm.hi,hm.frm,hm.inner⟩ _ h
         · cases h;exact⟨hm.vs,hm.vsl,k1,k2,k3,k4,by simp only;omega,hm.lo,hm.hi,hm.frm,hm.inner⟩
def zfy (s:WS):Prop:=1≤s.turn→s.tch=true→s.l≠[]
theorem z23:zfy ws0:=fun h=>by simp[ws0] at h
theorem z24 {l:List Iv} {z:Nat} (h:zdc l z=true):l≠[]:=fun e=>by subst e;cases h
theorem z26 {E:Nat} {L:zt} {s s':WS} {x p q:Nat} (hs:zfy s) (hI:WInv s) (h4:s.tag<4) (h:qm E L s x p q=.ok s'):zfy s':=by
 have fin:∀t:WS,zfy t→∀t',k9 E t q=.ok t'→zfy t':=fun t ht t' h=>by
  unfold k9 at h;split at h
  · cases h
  · split at h
    · cases h
    · cases h;exact ht
 have h2:=hI.turn;obtain⟨tag,vs,l,ix,left,frm,inner,turn,lo,hi,tch⟩:=s;simp only at h2 h4;rcases(by omega:tag=0∨tag=1∨tag=2∨tag=3) with rfl | rfl | rfl | rfl <;> simp only[qm] at h
 · split at h
   · cases h
   · split at h
     · cases h;exact hs
     · cases h;exact hs
 · split at h
   · cases h
   · split at h
     · split at h
       · cases h
       · split at h
         · cases h;exact hs
         · cases h;exact hs
     · cases h;exact hs
 · split at h
   · cases h
   · split at h
     · exact fin _ hs _ h
     · cases h;exact fun h=>by simp at h
 · rcases(by omega:turn=0∨turn=1∨turn=2) with rfl | rfl | rfl <;> simp only at h
   · split at h
     · cases h
     · cases h;exact fun _ h=>z24 h
   · split at h
     · cases h;exact fun _ h=>hs (by simp) h
     · cases h
   · split at h
     · cases h
     · split at h
       · cases h
       · split at h
         · exact fin ⟨3,vs,l++[(lo,hi)],ix++[x],0,frm,inner,0,lo,hi,tch⟩ (fun h=>by simp at h) _ h
         · cases h;exact fun h=>by simp at h
end
section
open Go.RowKit Go.Sort
theorem z27:PlainU where
 swo:=zp6
 ins:=insertionSort_holds
 par:=partialInsertionSort_holds
 prt:=partition_holds ltU
 peq:=partitionEqual_holds ltU
 pdq:=pdq_sorts ltU
theorem z29:CalleesU where
 ins:=fun blk off cap a b d w h1 h2 h3 h4=>zy5 blk off cap a b d w h1 h2 h3 h4
 brk:=fun blk off cap a b d w h1 h2 h3 h4 h5=>zz0 blk off cap a b d w h1 h2 h3 h4 h5
 piv:=fun blk off cap a b d w h1 h2 h3 h4 h5=>zz7 blk off cap a b d w h1 h2 h3 h4 h5
 par:=fun blk off cap a b d w h1 h2 h3 h4=>zy6 blk off cap a b d w h1 h2 h3 h4
 peq:=fun blk off cap a b p d w h1 h2 h3 h4 h5=>zza blk off cap a b p d w h1 h2 h3 h4 h5
 prt:=fun blk off cap a b p d w h1 h2 h3 h4 h5=>zy8 blk off cap a b p d w h1 h2 h3 h4 h5
set_option maxRecDepth 100000 in
theorem z3a (blk off cap:Nat) (d:Array Nat) (w:World) (hH:Holds zf w blk off d) (hblk:blk<w.heap.size) (hsz:d.size<4611686018427387904):
 Calls Tryz.prog 243 #[.slice (some ⟨blk,off,none⟩) d.size cap] w fun e w'=>e=.returned (.tuple #[])∧∃n os,w'=grow (putRow zf (Sort.ahead w n) blk off (Sort.sort ltU d)) os:=by
 have HH:RowKit.Hid (Holds zf w blk off d):=hH;clear hH
 have hLen:∀w,Calls Tryz.prog 162 #[.int .u64 (d.size:Int)] w fun e w'=>e=.returned (.int .i64 (bitsLen d.size:Nat))∧w'=w:=fun w=>by
  have h:=Tryz.bits_Len (d.size:Int) w (by omega) (by omega);rwa [Int.toNat_natCast,bitLen_eq _ (by omega)] at h
 have hk:bitsLen d.size≤62:=(bitsLen_le_iff d.size 62).2 (by omega);have hP:=fun w (h:Holds zf w blk off d) (hb:blk<w.heap.size)=>z2z z29 z27 (d.size+1) blk off cap 0 d.size (bitsLen d.size) d w (by omega) h hb (Nat.zero_le _) (Nat.le_refl _) hsz (by omega) (Or.inl rfl)
 go_enter Tryz.func243,Tryz.ntmps243
 go_wp2_with (first
  | (go_at_call 162;refine(hLen _).mono ?_;rintro e w' ⟨rfl,rfl⟩)
  | (go_at_call 265;refine(hP _ (by exact HH.out) (by exact hblk)).mono ?_;rintro e w' ⟨rfl,n,os,rfl⟩))
 go_end0
 exact⟨rfl,n,os,rfl⟩
theorem z3b (L:List Nat):∃M:List Nat,Sort.sort ltU L.toArray=M.toArray∧M.Perm L∧M.Pairwise (· ≤·):=by
 obtain⟨⟨hs,-,hp⟩,hS⟩:=sort_sorts ltU zp6 L.toArray;refine⟨(Sort.sort ltU L.toArray).toList,by simp,?_,?_⟩
 · have h1:(Sort.sort ltU L.toArray).extract 0 L.toArray.size=Sort.sort ltU L.toArray:=by rw[←hs];simp
   rw[h1] at hp;simpa using hp
 · rw[List.pairwise_iff_getElem];intro i j hi hj hij;have h:=hS i j (Nat.zero_le _) hij (by rw[←hs];simpa using hj);rw[getElem!_pos _ j (by simpa using hj),getElem!_pos _ i (by simpa using hi)] at h;simp only[ltU,decide_eq_false_iff_not] at h;simp only[Array.getElem_toList];omega
theorem z3c {w:World} {g:Nat} {cur:Array Value} {e:TypeId} {L:List Nat} (hb:w.heap[g]?=some (.cells cur e (0,0))) (ht:cur.toList.take L.length=zi L):Holds zf w g 0 L.toArray:=by
 intro j hj;have hj':j<L.length:=by simpa using hj
 refine⟨?_,by simp[World.frozen?,hb]⟩;have h1:(cur.toList.take L.length)[j]?=(zi L)[j]?:=by rw[ht]
 rw[List.getElem?_take_of_lt hj'] at h1;simp only[World.cell?,hb,Nat.zero_add];simp only[Option.isSome_none,Bool.false_eq_true,if_false];rw[←Array.getElem?_toList,h1];simp[hj',zi]
theorem z3d {w:World} {g n:Nat} {os:Array Obj} {cur:Array Value} {e:TypeId} {fr:Nat×Nat} (d:Array Nat) (hb:w.heap[g]?=some (.cells cur e fr)):
 (grow (putRow zf (Sort.ahead w n) g 0 d) os).heap[g]?=some (.cells (putCells zf 0 d cur) e fr):=by
 have hg:g<w.heap.size:=(Array.getElem?_eq_some_iff.1 hb).1;rw[heap_grow_old _ _ (by simpa using hg)];simp[putRow,mapBlock,Sort.ahead,Array.getElem?_modify,hb,onCells]
theorem z3e (cur:Array Value) (ts:List Nat) (h:ts.length≤cur.size):(putCells zf 0 ts.toArray cur).toList.take ts.length=zi ts:=by
 apply List.ext_getElem?;intro j;by_cases hj:j<ts.length
 · rw[List.getElem?_take_of_lt hj,Array.getElem?_toList];simp[putCells,hj,show j<cur.size by omega,zi]
 · rw[List.getElem?_take_eq_none (by omega),List.getElem?_eq_none (by simp[zi];omega)]
theorem z3f (base n:Nat) (v:Value) (L:List Nat) (w:World) (ho:w.ownsRow base 52 1 v n (zi L)) (hn:0<n) (hn2:n≤1000000):
 Calls Tryz.prog 243 #[v] w fun e w'=>e=.returned (.tuple #[])∧∃M:List Nat,M.Perm L∧M.Pairwise (· ≤·)∧w'.ownsRow base 52 1 v n (zi M)∧w.grownBy w' v.ownBlock:=by
 have hlen:L.length=n:=by have:=ho.1;rw[zd3] at this;omega
 rcases ho.2 with ⟨rfl,rfl⟩ | ⟨g,cap,cur,rfl,hg,hb,h1,h2,h3,h4⟩
 · omega
 · obtain⟨M,hM,hp,hS⟩:=z3b L;have hMl:M.length=n:=by rw[hp.length_eq,hlen]
   have h:=z3a g 0 cap L.toArray w (z3c hb (by rw[hlen];simpa using h4)) ((Array.getElem?_eq_some_iff.1 hb).1) (by simp;omega);rw[show L.toArray.size=n by simpa using hlen] at h;refine h.mono ?_;rintro e w' ⟨he,m,os,hw⟩;refine⟨he,M,hp,hS,?_,?_⟩
   · rw[hw,hM];refine⟨by simp[zi,hMl],.inr ⟨g,cap,_,rfl,hg,z3d _ hb,h1,h2,by simp[putCells,h3],?_⟩⟩;have:=z3e cur M (by rw[h3];omega);rw[hMl] at this;simpa using this
   · rw[hw];refine⟨rfl,rfl,rfl,by simp,fun k hk hne=>?_⟩;rw[heap_grow_old _ _ (by simpa using hk)];have:g≠k:=fun e=>hne (by rw[e];rfl)
     simp[putRow,mapBlock,Sort.ahead,Array.getElem?_modify,this]
end
end Go.Proofs.YtdnjfnofjaoajaaGreatDoor
